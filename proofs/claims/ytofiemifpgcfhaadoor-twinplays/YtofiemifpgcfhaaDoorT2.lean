/- Part of the proof that the laws of this seat return true for every input. No condition. -/
import Derived.Test.YtofiemifpgcfhaaDoorT1
import Derived.Test.YtofiemifpgcfhaaDoorProg
import Derived.Lib.TrailingZeros
set_option linter.unnecessarySimpa false
set_option linter.unusedVariables false
set_option linter.unusedSimpArgs false
section
open Go Go.Tv Go.Proofs
namespace Go.Tv.C34
set_option maxRecDepth 20000
theorem ti3 : tinf Tryd.prog 3 = some (1, false) := by kernel_rfl
theorem tu3 : Tryd.prog.underlying 3 = some (.int .i64) := by kernel_rfl
abbrev z3 : Tr := .int .i64 0
theorem tz3 : zeroOf Tryd.prog 3 = some z3 := by kernel_rfl
theorem ti4 : tinf Tryd.prog 4 = some (1, false) := by kernel_rfl
theorem tu4 : Tryd.prog.underlying 4 = some .bool := by kernel_rfl
abbrev z4 : Tr := .bool false
theorem tz4 : zeroOf Tryd.prog 4 = some z4 := by kernel_rfl
theorem ti5 : tinf Tryd.prog 5 = some (1, false) := by kernel_rfl
theorem tu5 : Tryd.prog.underlying 5 = some (.int .u8) := by kernel_rfl
abbrev z5 : Tr := .int .u8 0
theorem tz5 : zeroOf Tryd.prog 5 = some z5 := by kernel_rfl
theorem tb5 : (Tryd.prog.info? 5).map (·.bytes) = some 1 := by kernel_rfl
theorem ts9 : Tryd.prog.underlying 9 = some .string := by kernel_rfl
abbrev z9 : Tr := .str ⟨#[]⟩
abbrev z22 : Tr := .agg [.int .i64 0, .int .i64 0, .int .i64 0, .bool false]
theorem ti23 : tinf Tryd.prog 23 = some (4, true) := by kernel_rfl
theorem tf23_0 : fldOf Tryd.prog 23 0 = some (0, 1, false) := by kernel_rfl
theorem tf23_1 : fldOf Tryd.prog 23 1 = some (1, 1, false) := by kernel_rfl
theorem tf23_2 : fldOf Tryd.prog 23 2 = some (2, 1, false) := by kernel_rfl
theorem tf23_3 : fldOf Tryd.prog 23 3 = some (3, 1, false) := by kernel_rfl
theorem tg23 : fldsOf Tryd.prog 23 = some [(0, 1), (1, 1), (2, 1), (3, 1)] := by kernel_rfl
abbrev z23 : Tr := .agg [.int .i64 0, .int .i64 0, .int .i64 0, .bool false]
theorem tz23 : zeroOf Tryd.prog 23 = some z23 := by kernel_rfl
theorem tb23 : (Tryd.prog.info? 23).map (·.bytes) = some 32 := by kernel_rfl
theorem te26 : elemOf Tryd.prog 26 = some (3, 1, false) := by kernel_rfl
theorem ti27 : tinf Tryd.prog 27 = some (1, false) := by kernel_rfl
theorem te27 : elemOf Tryd.prog 27 = some (5, 1, false) := by kernel_rfl
theorem ti28 : tinf Tryd.prog 28 = some (1, false) := by kernel_rfl
theorem ti30 : tinf Tryd.prog 30 = some (5, true) := by kernel_rfl
theorem tf30_0 : fldOf Tryd.prog 30 0 = some (0, 1, false) := by kernel_rfl
theorem tf30_1 : fldOf Tryd.prog 30 1 = some (1, 1, false) := by kernel_rfl
theorem tf30_2 : fldOf Tryd.prog 30 2 = some (2, 1, false) := by kernel_rfl
theorem tf30_3 : fldOf Tryd.prog 30 3 = some (3, 1, false) := by kernel_rfl
theorem tf30_4 : fldOf Tryd.prog 30 4 = some (4, 1, false) := by kernel_rfl
theorem tg30 : fldsOf Tryd.prog 30 = some [(0, 1), (1, 1), (2, 1), (3, 1), (4, 1)] := by kernel_rfl
abbrev z30 : Tr := .agg [.int .i64 0, .int .i64 0, .bool false, .sl [] true, .int .u64 0]
theorem tz30 : zeroOf Tryd.prog 30 = some z30 := by kernel_rfl
theorem tb30 : (Tryd.prog.info? 30).map (·.bytes) = some 56 := by kernel_rfl
theorem ti34 : tinf Tryd.prog 34 = some (1, false) := by kernel_rfl
theorem te34 : elemOf Tryd.prog 34 = some (30, 5, true) := by kernel_rfl
theorem ti35 : tinf Tryd.prog 35 = some (1, false) := by kernel_rfl
theorem te35 : elemOf Tryd.prog 35 = some (23, 4, true) := by kernel_rfl
theorem ti37 : tinf Tryd.prog 37 = some (2, true) := by kernel_rfl
theorem tf37_0 : fldOf Tryd.prog 37 0 = some (0, 1, false) := by kernel_rfl
theorem tf37_1 : fldOf Tryd.prog 37 1 = some (1, 1, false) := by kernel_rfl
theorem tg37 : fldsOf Tryd.prog 37 = some [(0, 1), (1, 1)] := by kernel_rfl
abbrev z37 : Tr := .agg [.sl [] true, .sl [] true]
theorem tz37 : zeroOf Tryd.prog 37 = some z37 := by kernel_rfl
theorem tu75 : Tryd.prog.underlying 75 = some (.int .u64) := by kernel_rfl
theorem ta27 : AppT Tryd.prog 27 27 5 1 1 := ⟨⟨_, te27⟩, ⟨_, _, _, te27⟩, tb5, z5, tz5, by kernel_rfl⟩
theorem ta34 : AppT Tryd.prog 34 34 30 5 56 := ⟨⟨_, te34⟩, ⟨_, _, _, te34⟩, tb30, z30, tz30, by kernel_rfl⟩
theorem ta35 : AppT Tryd.prog 35 35 23 4 32 := ⟨⟨_, te35⟩, ⟨_, _, _, te35⟩, tb23, z23, tz23, by kernel_rfl⟩
theorem th23 : Program.eqGuardType Tryd.prog (Program.depth Tryd.prog) 23 = false := by kernel_rfl
theorem ts23s : scCells Tryd.prog 8 23 = some [.int .i64, .int .i64, .int .i64, .bool] := by kernel_rfl
theorem tm : Tryd.prog.follows .mixedOrders = true := by kernel_rfl
theorem co12 : callOK Tryd.prog 12 = true := by kernel_rfl
theorem co13 : callOK Tryd.prog 13 = true := by kernel_rfl
theorem co14 : callOK Tryd.prog 14 = true := by kernel_rfl
theorem co15 : callOK Tryd.prog 15 = true := by kernel_rfl
theorem co16 : callOK Tryd.prog 16 = true := by kernel_rfl
theorem co17 : callOK Tryd.prog 17 = true := by kernel_rfl
theorem co18 : callOK Tryd.prog 18 = true := by kernel_rfl
theorem co19 : callOK Tryd.prog 19 = true := by kernel_rfl
theorem co20 : callOK Tryd.prog 20 = true := by kernel_rfl
theorem co21 : callOK Tryd.prog 21 = true := by kernel_rfl
theorem co22 : callOK Tryd.prog 22 = true := by kernel_rfl
theorem co23 : callOK Tryd.prog 23 = true := by kernel_rfl
theorem co24 : callOK Tryd.prog 24 = true := by kernel_rfl
theorem co25 : callOK Tryd.prog 25 = true := by kernel_rfl
theorem co28 : callOK Tryd.prog 28 = true := by kernel_rfl
theorem co32 : callOK Tryd.prog 32 = true := by kernel_rfl
theorem co39 : callOK Tryd.prog 39 = true := by kernel_rfl
theorem co40 : callOK Tryd.prog 40 = true := by kernel_rfl
theorem co41 : callOK Tryd.prog 41 = true := by kernel_rfl
theorem co42 : callOK Tryd.prog 42 = true := by kernel_rfl
theorem co43 : callOK Tryd.prog 43 = true := by kernel_rfl
theorem co44 : callOK Tryd.prog 44 = true := by kernel_rfl
theorem co45 : callOK Tryd.prog 45 = true := by kernel_rfl
theorem co46 : callOK Tryd.prog 46 = true := by kernel_rfl
theorem co47 : callOK Tryd.prog 47 = true := by kernel_rfl
theorem co48 : callOK Tryd.prog 48 = true := by kernel_rfl
theorem co49 : callOK Tryd.prog 49 = true := by kernel_rfl
theorem co57 : callOK Tryd.prog 57 = true := by kernel_rfl
theorem co58 : callOK Tryd.prog 58 = true := by kernel_rfl
theorem co64 : callOK Tryd.prog 64 = true := by kernel_rfl
theorem co65 : callOK Tryd.prog 65 = true := by kernel_rfl
theorem co66 : callOK Tryd.prog 66 = true := by kernel_rfl
theorem co67 : callOK Tryd.prog 67 = true := by kernel_rfl
theorem co80 : callOK Tryd.prog 80 = true := by kernel_rfl
theorem co81 : callOK Tryd.prog 81 = true := by kernel_rfl
theorem co82 : callOK Tryd.prog 82 = true := by kernel_rfl
theorem co97 : callOK Tryd.prog 97 = true := by kernel_rfl
end Go.Tv.C34

end
section
open Go Go.Tv Go.Proofs
namespace Go.Tv.C34

/-- A possible state. -/
structure Rep where
  next : Int
  have_ : Int
  key : Int
  locked : Bool
  deriving DecidableEq, Inhabited

structure Frm where
  seq : Int
  key : Int
  unlock : Bool
  body : List Int
  tag : Int
  deriving DecidableEq

structure Twn where
  sent : List Frm
  poss : List Rep
  deriving DecidableEq

def encI (n : Int) : Tr := .int .i64 n
def encBy (n : Int) : Tr := .int .u8 n
def encR (r : Rep) : Tr := .agg [encI r.next, encI r.have_, encI r.key, .bool r.locked]
def encF (f : Frm) : Tr := .agg [encI f.seq, encI f.key, .bool f.unlock, .sl (f.body.map encBy) false, .int .u64 f.tag]
def encT (t : Twn) : Tr := .agg [.sl (t.sent.map encF) false, .sl (t.poss.map encR) false]
def cellsR (r : Rep) : List Sc := [.int .i64 r.next, .int .i64 r.have_, .int .i64 r.key, .bool r.locked]
theorem cellsR_kind (r : Rep) : (cellsR r).map Sc.kind = [.int .i64, .int .i64, .int .i64, .bool] := rfl
theorem cellsR_inj (a b : Rep) (h : cellsR a = cellsR b) : a = b := by
  cases a; cases b
  simp only [cellsR, List.cons.injEq, Sc.int.injEq, Sc.bool.injEq, true_and, and_true] at h
  simp only [Rep.mk.injEq]
  exact h

abbrev zr : Rep := ⟨0, 0, 0, false⟩
abbrev zf : Frm := ⟨0, 0, false, [], 0⟩
abbrev zt : Twn := ⟨[], []⟩
abbrev w64 (n : Int) : Int := IntKind.i64.wrap n
def I64 (n : Int) : Prop := -9223372036854775808 ≤ n ∧ n ≤ 9223372036854775807

theorem take_succ_get {α : Type} {l : List α} {i : Nat} (h : i < l.length) : l.take (i + 1) = l.take i ++ [l[i]] := by
  rw [List.take_add_one, List.getElem?_eq_getElem h]; rfl
theorem mem_take_succ {α : Type} {l : List α} {i : Nat} (h : i < l.length) {x : α} : x ∈ l.take (i + 1) ↔ x ∈ l.take i ∨ x = l[i] := by
  rw [take_succ_get h, List.mem_append, List.mem_singleton]

/-- n modulo m, never negative. -/
def around (n m : Int) : Int := (if n < 0 then -(n + 1) else n) % m
theorem around_range {n m : Int} (hm : 0 < m) : 0 ≤ around n m ∧ around n m < m := by
  unfold around
  exact ⟨Int.emod_nonneg _ (by omega), Int.emod_lt_of_pos _ hm⟩
theorem tmod_pos {a m : Int} (h : 0 ≤ a) : a.tmod m = a % m := Int.tmod_eq_emod_of_nonneg h

def state (next have_ key : Int) (locked : Bool) : Rep := ⟨around next 600, around have_ 32768, around key 10000, locked⟩

/-! ### Apply -/
/-- What the counts of two numbers lie apart, modulo 256. -/
def dist (f : Frm) (s : Rep) : Int := (f.seq - s.next) % 256
/-- How many ones end a number. -/
def trl : Nat → Nat → Nat
  | 0, _ => 0
  | f + 1, h => if h % 2 = 1 then 1 + trl f (h / 2) else 0
def ones (n : Int) : Nat := trl 64 n.toNat

def apply (s : Rep) (f : Frm) : Rep :=
  if f.key < s.key ∨ w64 (s.key + 4096) < f.key then s
  else if f.unlock then ⟨if dist f s < 128 then w64 (s.next + dist f s) else s.next, 0, w64 (f.key + 1), false⟩
  else if s.locked then ⟨s.next, s.have_, w64 (f.key + 1), true⟩
  else if dist f s = 0 then ⟨w64 (s.next + (1 + (ones s.have_ : Nat))), (s.have_.toNat / 2 ^ (1 + ones s.have_) : Nat), w64 (f.key + 1), false⟩
  else if dist f s < 16 then ⟨s.next, (s.have_.toNat ||| 2 ^ (dist f s - 1).toNat : Nat), w64 (f.key + 1), false⟩
  else ⟨s.next, s.have_, w64 (f.key + 1), decide (dist f s < 128)⟩

/-- The numbers of a state that arise. -/
def HP (s : Rep) : Prop := 0 ≤ s.have_ ∧ s.have_ < 32768

/-! ### Order -/
def less (a b : Rep) : Bool :=
  if a.next ≠ b.next then decide (a.next < b.next)
  else if a.have_ ≠ b.have_ then decide (a.have_ < b.have_)
  else if a.key ≠ b.key then decide (a.key < b.key)
  else !a.locked && b.locked
def cmpI (a b : Int) : Int := if a < b then -1 else if b < a then 1 else 0
def orI : List Int → Int
  | [] => 0
  | x :: l => if x ≠ 0 then x else orI l
def flag (b : Bool) : Int := if b then 1 else 0
def cmpR (a b : Rep) : Int := orI [cmpI a.next b.next, cmpI a.have_ b.have_, cmpI a.key b.key, cmpI (flag a.locked) (flag b.locked)]

def put (l : List Rep) (s : Rep) : List Rep := match l with
  | [] => [s]
  | x :: m => if less x s then x :: put m s else if x = s then x :: m else s :: x :: m

/-! ### Maps of states -/
noncomputable def KR : MapK Tryd.prog 23 Rep := MapK.scs Tryd.underlying23 ts23s ti23 cellsR cellsR_kind cellsR_inj
abbrev XU : MapX Unit := MapX.unit
def setL (l : List Rep) : List (Rep × Unit) := l.map fun r => (r, ())
def ins (l : List Rep) (r : Rep) : List Rep := if r ∈ l then l else l ++ [r]
theorem put_set (l : List Rep) (r : Rep) : putA r () (setL l) = setL (ins l r) := by
  induction l with
  | nil => rfl
  | cons a l ih =>
    unfold setL at *
    rw [List.map_cons]
    unfold putA
    by_cases h : r = a
    · subst h; rw [if_pos rfl]; unfold ins; rw [if_pos List.mem_cons_self]; rfl
    · rw [if_neg h, ih]
      unfold ins
      by_cases h2 : r ∈ l
      · rw [if_pos h2, if_pos (List.mem_cons_of_mem _ h2)]; rfl
      · rw [if_neg h2, if_neg (by simp [h, h2])]; rfl
theorem look_set (l : List Rep) (r : Rep) : lookA r (setL l) = if r ∈ l then some () else none := by
  induction l with
  | nil => rfl
  | cons a l ih =>
    unfold setL at *
    rw [List.map_cons]
    unfold lookA
    by_cases h : r = a
    · subst h; rw [if_pos rfl, if_pos List.mem_cons_self]
    · rw [if_neg h, ih]; simp [h]
theorem ins_nodup {l : List Rep} {r : Rep} (h : l.Nodup) : (ins l r).Nodup := by
  unfold ins
  split
  · exact h
  · rename_i hr
    rw [List.nodup_append]
    exact ⟨h, by simp, fun a ha b hb => by simp at hb; subst hb; exact fun e => hr (e ▸ ha)⟩
theorem ins_mem {l : List Rep} {r x : Rep} : x ∈ ins l r ↔ x ∈ l ∨ x = r := by
  unfold ins
  split
  · exact ⟨.inl, fun h => h.elim id (fun e => by rw [e]; assumption)⟩
  · simp

/-- A frozen set of states. -/
noncomputable def mset (l : List Rep) : Tr := .mpd (mapL KR XU (setL l))
end Go.Tv.C34

end
section
open Go Go.Tv Go.Proofs
namespace Go.Tv.C34

theorem w8 (n : Int) : IntKind.u8.wrap n = n % 256 := by simp [IntKind.wrap, IntKind.bits, IntKind.signed]
theorem wu64 (n : Int) : IntKind.u64.wrap n = n % 18446744073709551616 := by simp [IntKind.wrap, IntKind.bits, IntKind.signed]
theorem wi64 (n : Int) : IntKind.i64.wrap n = (n + 9223372036854775808) % 18446744073709551616 - 9223372036854775808 := by
  show (if (true && decide (n % 2 ^ 64 ≥ 2 ^ (64 - 1))) = true then n % 2 ^ 64 - 2 ^ 64 else n % 2 ^ 64) = _
  simp only [Bool.true_and, decide_eq_true_eq, ge_iff_le]
  split <;> omega
theorem w64_w64 (a b : Int) : w64 (w64 a + b) = w64 (a + b) := by unfold w64; simp only [wi64]; omega

theorem dist_range (f : Frm) (s : Rep) : 0 ≤ dist f s ∧ dist f s < 256 := by
  unfold dist
  exact ⟨Int.emod_nonneg _ (by decide), Int.emod_lt_of_pos _ (by decide)⟩
theorem dist_u8 (f : Frm) (s : Rep) : IntKind.u8.wrap (IntKind.u8.wrap f.seq - IntKind.u8.wrap s.next) = dist f s := by
  simp only [w8]; unfold dist; omega
theorem dist_i64 (f : Frm) (s : Rep) : IntKind.i64.wrap (dist f s) = dist f s := by
  have := dist_range f s
  rw [wi64]; omega

theorem ofInt_nat (x : Nat) : BitVec.ofInt 64 (x : Int) = BitVec.ofNat 64 x := by
  apply BitVec.eq_of_toNat_eq
  simp

/-- What ^ gives at uint64. -/
theorem xor_ones {x : Nat} (hx : x < 18446744073709551616) : uop .xor (.int .u64 (x : Int)) = some (.int .u64 ((18446744073709551615 - x : Nat) : Int)) := by
  have h1 : BitVec.ofInt 64 (18446744073709551615 : Int) = BitVec.allOnes 64 := by decide
  have h2 : (BitVec.ofInt 64 (18446744073709551615 : Int) ^^^ BitVec.ofInt 64 (x : Int)).toNat = 18446744073709551615 - x := by
    rw [h1, ofInt_nat, BitVec.allOnes_xor, BitVec.toNat_not, BitVec.toNat_ofNat, Nat.mod_eq_of_lt hx]
  show some (Tr.int .u64 (IntKind.u64.wrap ((BitVec.ofInt 64 (18446744073709551615 : Int) ^^^ BitVec.ofInt 64 (x : Int)).toNat : Int))) = _
  rw [h2, wu64, show ((18446744073709551615 - x : Nat) : Int) % 18446744073709551616 = ((18446744073709551615 - x : Nat) : Int) from by omega]

theorem and_nat {x y : Nat} (hx : x < 18446744073709551616) (hy : y < 18446744073709551616) : iop .and .u64 (x : Int) (y : Int) = some (.int .u64 ((x &&& y : Nat) : Int)) := by
  have h2 : (BitVec.ofInt 64 (x : Int) &&& BitVec.ofInt 64 (y : Int)).toNat = x &&& y := by
    rw [ofInt_nat, ofInt_nat, BitVec.toNat_and, BitVec.toNat_ofNat, BitVec.toNat_ofNat, Nat.mod_eq_of_lt hx, Nat.mod_eq_of_lt hy]
  show some (Tr.int .u64 (IntKind.u64.wrap ((BitVec.ofInt 64 (x : Int) &&& BitVec.ofInt 64 (y : Int)).toNat : Int))) = _
  have h3 : x &&& y ≤ x := Nat.and_le_left
  rw [h2, wu64]
  generalize x &&& y = z at h3 ⊢
  rw [show (z : Int) % 18446744073709551616 = (z : Int) from by omega]

theorem or_nat {x y : Nat} (hx : x < 9223372036854775808) (hy : y < 9223372036854775808) : iop .or .i64 (x : Int) (y : Int) = some (.int .i64 ((x ||| y : Nat) : Int)) := by
  have h3 : x ||| y < 2 ^ 63 := Nat.or_lt_two_pow (by omega) (by omega)
  have h2 : (BitVec.ofInt 64 (x : Int) ||| BitVec.ofInt 64 (y : Int)).toNat = x ||| y := by
    rw [ofInt_nat, ofInt_nat, BitVec.toNat_or, BitVec.toNat_ofNat, BitVec.toNat_ofNat, Nat.mod_eq_of_lt (by omega), Nat.mod_eq_of_lt (by omega)]
  show some (Tr.int .i64 (IntKind.i64.wrap ((BitVec.ofInt 64 (x : Int) ||| BitVec.ofInt 64 (y : Int)).toNat : Int))) = _
  rw [h2, wi64]
  generalize x ||| y = z at h3 ⊢
  rw [show ((z : Int) + 9223372036854775808) % 18446744073709551616 - 9223372036854775808 = (z : Int) from by omega]

theorem neg_nat {x : Nat} (h0 : x ≠ 0) (hx : x < 18446744073709551616) : uop .neg (.int .u64 (x : Int)) = some (.int .u64 ((18446744073709551616 - x : Nat) : Int)) := by
  show some (Tr.int .u64 (IntKind.u64.wrap (0 - (x : Int)))) = _
  rw [wu64, show (0 - (x : Int)) % 18446744073709551616 = ((18446744073709551616 - x : Nat) : Int) from by omega]

/-- The table of math/bits. -/
def deB : List Int := [0, 1, 56, 2, 57, 49, 28, 3, 61, 58, 42, 50, 38, 29, 17, 4, 62, 47, 59, 36, 45, 43, 51, 22, 53, 39, 33, 30, 24, 18, 12, 5,
  63, 55, 48, 27, 60, 41, 37, 16, 46, 35, 44, 21, 52, 32, 23, 11, 54, 26, 40, 15, 34, 20, 31, 10, 25, 14, 19, 9, 13, 8, 7, 6]
def deT : Tr := .ptr (deB.map (Tr.int .u8))
def dix (k : Nat) : Nat := 2 ^ k * 285870213051353865 % 18446744073709551616 / 288230376151711744
theorem dix_lt {k : Nat} (h : k < 64) : dix k < 64 := (Lib.deBruijn64_at k h).1
theorem deB_get {k : Nat} (h : k < 64) : (deB.map (Tr.int .u8))[dix k * 1]? = some (.int .u8 (k : Int)) := by
  have : ∀ k, k < 64 → deB[dix k]? = some (k : Int) := by decide +kernel
  rw [Nat.mul_one, List.getElem?_map, this k h]; rfl

theorem ctzFrom_not : ∀ (f h : Nat), h < 2 ^ f → Lib.ctzFrom f (2 ^ f - 1 - h) = trl f h
  | 0, _, _ => rfl
  | f + 1, h, hh => by
    unfold Lib.ctzFrom trl
    have hp : 2 ^ (f + 1) = 2 * 2 ^ f := by rw [Nat.pow_succ, Nat.mul_comm]
    have hpos : 0 < 2 ^ f := Nat.pos_of_ne_zero (by simp)
    by_cases h1 : h % 2 = 1
    · rw [if_neg (by omega), if_pos h1]
      have e : (2 ^ (f + 1) - 1 - h) / 2 = 2 ^ f - 1 - h / 2 := by omega
      rw [e, ctzFrom_not f (h / 2) (by omega)]
    · rw [if_pos (by omega), if_neg h1]

theorem tz_not {s : Rep} (h : HP s) : (Lib.ctz 64 (18446744073709551615 - s.have_.toNat) : Nat) = ones s.have_ := by
  unfold HP at h
  unfold Lib.ctz ones
  rw [if_neg (by omega)]
  exact ctzFrom_not 64 s.have_.toNat (by omega)

theorem trl_le : ∀ (f h : Nat), trl f h ≤ f
  | 0, _ => Nat.le_refl _
  | f + 1, h => by
    unfold trl
    split
    · have := trl_le f (h / 2); omega
    · omega
theorem ones_le (n : Int) : ones n ≤ 64 := trl_le 64 _

section
variable {P : Program} {o : Oper} {D : St}
theorem eff_shlE {t ty : TypeId} {x y : Operand} {k yk : IntKind} {n m r : Int} (hd : dstOK D.n o.dst = true) (ho : o.op = .binOp .shl t x y ty)
    (hx : D.ev x = .t (.int k n)) (hy : D.ev y = .t (.int yk m)) (hm : 0 ≤ m) (hr : k.wrap (n * 2 ^ (min m.toNat k.bits)) = r) : Eff P o D ⟨.t (.int k r), []⟩ := by
  subst hr; exact eff_shl hd ho hx hy hm
end

theorem shl_one {d : Int} (h : 0 < d) (h2 : d < 16) : IntKind.i64.wrap (1 * 2 ^ (min (d - 1).toNat IntKind.i64.bits)) = ((2 ^ (d - 1).toNat : Nat) : Int) := by
  have e : min (d - 1).toNat IntKind.i64.bits = (d - 1).toNat := Nat.min_eq_left (by show (d - 1).toNat ≤ 64; omega)
  have hp : 2 ^ (d - 1).toNat < 2 ^ 15 := Nat.pow_lt_pow_right (by decide) (by omega)
  have hc : ((2 ^ (d - 1).toNat : Nat) : Int) = (2 : Int) ^ (d - 1).toNat := by simp
  rw [e, Int.one_mul, ← hc, wi64]
  generalize 2 ^ (d - 1).toNat = p at hp ⊢
  omega

theorem shr_have {s : Rep} (h : HP s) (n : Nat) (hn : n ≤ 65) : s.have_.fdiv (2 ^ (min (1 + (n : Int)).toNat IntKind.i64.bits)) = ((s.have_.toNat / 2 ^ (1 + n) : Nat) : Int) := by
  unfold HP at h
  have hs : s.have_ = (s.have_.toNat : Int) := by omega
  have hc : ∀ m : Nat, (2 : Int) ^ m = ((2 ^ m : Nat) : Int) := fun m => by simp
  have hlt : s.have_.toNat < 2 ^ 15 := by omega
  rw [hs, hc, Int.fdiv_eq_ediv_of_nonneg _ (Int.natCast_nonneg _), ← Int.natCast_ediv, Int.toNat_natCast]
  congr 1
  rcases Nat.lt_or_ge (1 + n) 64 with h1 | h1
  · congr 2
    show min _ 64 = _
    omega
  · rw [Nat.div_eq_of_lt, Nat.div_eq_of_lt]
    · exact Nat.lt_of_lt_of_le hlt (Nat.pow_le_pow_right (by decide) (by omega))
    · refine Nat.lt_of_lt_of_le hlt (Nat.pow_le_pow_right (by decide) ?_)
      show 15 ≤ min _ 64
      omega

/-! ### The ways through Apply -/
theorem apply_stay {s : Rep} {f : Frm} (h : f.key < s.key ∨ w64 (s.key + 4096) < f.key) : apply s f = s := by unfold apply; rw [if_pos h]
theorem apply_unl {s : Rep} {f : Frm} {n : Int} (h : ¬ (f.key < s.key ∨ w64 (s.key + 4096) < f.key)) (hu : f.unlock = true) (hn : (if dist f s < 128 then w64 (s.next + dist f s) else s.next) = n) : apply s f = ⟨n, 0, w64 (f.key + 1), false⟩ := by
  unfold apply; rw [if_neg h, if_pos hu, hn]
theorem apply_lock {s : Rep} {f : Frm} (h : ¬ (f.key < s.key ∨ w64 (s.key + 4096) < f.key)) (hu : f.unlock = false) (hl : s.locked = true) : apply s f = ⟨s.next, s.have_, w64 (f.key + 1), s.locked⟩ := by
  unfold apply; rw [if_neg h, if_neg (by rw [hu]; decide), if_pos hl, hl]
theorem apply_zero {s : Rep} {f : Frm} (h : ¬ (f.key < s.key ∨ w64 (s.key + 4096) < f.key)) (hu : f.unlock = false) (hl : s.locked = false) (hd : dist f s = 0) : apply s f = ⟨w64 (s.next + (1 + (ones s.have_ : Nat))), (s.have_.toNat / 2 ^ (1 + ones s.have_) : Nat), w64 (f.key + 1), s.locked⟩ := by
  unfold apply; rw [if_neg h, if_neg (by rw [hu]; decide), if_neg (by rw [hl]; decide), if_pos hd, hl]
theorem apply_near {s : Rep} {f : Frm} (h : ¬ (f.key < s.key ∨ w64 (s.key + 4096) < f.key)) (hu : f.unlock = false) (hl : s.locked = false) (hd : dist f s ≠ 0) (hd2 : dist f s < 16) : apply s f = ⟨s.next, (s.have_.toNat ||| 2 ^ (dist f s - 1).toNat : Nat), w64 (f.key + 1), s.locked⟩ := by
  unfold apply; rw [if_neg h, if_neg (by rw [hu]; decide), if_neg (by rw [hl]; decide), if_neg hd, if_pos hd2, hl]
theorem apply_far {s : Rep} {f : Frm} {b : Bool} (h : ¬ (f.key < s.key ∨ w64 (s.key + 4096) < f.key)) (hu : f.unlock = false) (hl : s.locked = false) (hd2 : ¬ dist f s < 16) (hb : decide (dist f s < 128) = b) : apply s f = ⟨s.next, s.have_, w64 (f.key + 1), b⟩ := by
  unfold apply; rw [if_neg h, if_neg (by rw [hu]; decide), if_neg (by rw [hl]; decide), if_neg (by omega), if_neg hd2, hb]

theorem apply_hp {s : Rep} {f : Frm} (h : HP s) : HP (apply s f) := by
  unfold apply
  split
  · exact h
  · split
    · exact ⟨Int.le_refl _, by show (0 : Int) < 32768; decide⟩
    · split
      · exact h
      · split
        · unfold HP at h ⊢
          have : s.have_.toNat / 2 ^ (1 + ones s.have_) ≤ s.have_.toNat := Nat.div_le_self _ _
          constructor
          · exact Int.natCast_nonneg _
          · show ((s.have_.toNat / 2 ^ (1 + ones s.have_) : Nat) : Int) < 32768
            omega
        · split
          · rename_i hd0 hd
            unfold HP at h ⊢
            have hr := dist_range f s
            have h1 : s.have_.toNat < 2 ^ 15 := by omega
            have h2 : 2 ^ (dist f s - 1).toNat < 2 ^ 15 := Nat.pow_lt_pow_right (by decide) (by omega)
            have h3 := Nat.or_lt_two_pow h1 h2
            constructor
            · exact Int.natCast_nonneg _
            · show ((s.have_.toNat ||| 2 ^ (dist f s - 1).toNat : Nat) : Int) < 32768
              omega
          · exact h

/-! ### Lists -/
theorem orI_hit : ∀ {l : List Int} {i : Nat} (hi : i < l.length), (∀ y, y ∈ l.take i → y = 0) → l[i] ≠ 0 → orI l = l[i]
  | [], i, hi, _, _ => by simp at hi
  | x :: l, 0, _, _, h => by unfold orI; exact if_pos h
  | x :: l, i + 1, hi, h0, h => by
    unfold orI
    rw [if_neg (by have := h0 x (by simp); omega)]
    exact orI_hit (l := l) (i := i) (by simpa using hi) (fun y hy => h0 y (by simp [hy])) h
theorem orI_none : ∀ {l : List Int}, (∀ y, y ∈ l → y = 0) → orI l = 0
  | [], _ => rfl
  | x :: l, h => by unfold orI; rw [if_neg (by have := h x List.mem_cons_self; omega)]; exact orI_none fun y hy => h y (List.mem_cons_of_mem _ hy)

theorem tmod_range (n : Int) : -256 < n.tmod 256 ∧ n.tmod 256 < 256 := by
  rcases Int.le_total 0 n with h | h
  · rw [Int.tmod_eq_emod_of_nonneg h]; omega
  · have : n.tmod 256 = -((-n).tmod 256) := by rw [Int.neg_tmod, Int.neg_neg]
    rw [this, Int.tmod_eq_emod_of_nonneg (by omega)]; omega
theorem tmod_fix (n : Int) : (if n.tmod 256 < 0 then n.tmod 256 + 256 else n.tmod 256) = n % 256 := by
  rcases Int.le_total 0 n with h | h
  · rw [Int.tmod_eq_emod_of_nonneg h, if_neg (by omega)]
  · have : n.tmod 256 = -((-n).tmod 256) := by rw [Int.neg_tmod, Int.neg_neg]
    rw [this, Int.tmod_eq_emod_of_nonneg (by omega)]
    split <;> omega

theorem twice_pow (k : Nat) (hk : k < 60) : iop .mul .i64 2 ((2 ^ k : Nat) : Int) = some (encI ((2 ^ (k + 1) : Nat) : Int)) := by
  have e : 2 ^ (k + 1) = 2 * 2 ^ k := by rw [Nat.pow_succ, Nat.mul_comm]
  have hp : 2 ^ k < 2 ^ 60 := Nat.pow_lt_pow_right (by decide) hk
  rw [e]
  generalize 2 ^ k = z at hp ⊢
  rw [imul (by omega)]
  unfold encI
  congr 2
theorem mul_u64 (a b : Nat) : iop .mul .u64 (a : Int) (b : Int) = some (.int .u64 ((a * b % 18446744073709551616 : Nat) : Int)) := by
  show some (Tr.int .u64 (IntKind.u64.wrap ((a : Int) * (b : Int)))) = _
  rw [wu64, ← Int.natCast_mul]
  congr 2
theorem shr58 (k : Nat) : ((2 ^ k * 285870213051353865 % 18446744073709551616 : Nat) : Int).fdiv (2 ^ (min (58 : Int).toNat IntKind.u64.bits)) = ((dix k : Nat) : Int) := by
  rw [Int.fdiv_eq_ediv_of_nonneg _ (by decide)]
  have e : (2 : Int) ^ (min (58 : Int).toNat IntKind.u64.bits) = ((288230376151711744 : Nat) : Int) := by decide
  rw [e, ← Int.natCast_ediv]
  rfl

theorem uneg {n : Int} (h : -9223372036854775807 ≤ n ∧ n ≤ 9223372036854775807) : uop .neg (.int .i64 n) = some (.int .i64 (-n)) := by
  show some (Tr.int .i64 (IntKind.i64.wrap (0 - n))) = _
  rw [wrap64 (by omega) (by omega), Int.zero_sub]
def hv (h : Nat) : Nat → Nat
  | 0 => h
  | k + 1 => hv h k / 2
theorem hv_eq (h : Nat) : ∀ k, hv h k = h / 2 ^ k
  | 0 => by simp [hv]
  | k + 1 => by rw [hv, hv_eq h k, Nat.pow_succ, Nat.div_div_eq_div_mul]
theorem hv_le (h : Nat) (k : Nat) : hv h k ≤ h := by rw [hv_eq]; exact Nat.div_le_self _ _
theorem half_hv (h k : Nat) (hh : h < 32768) : IntKind.i64.wrap (((hv h k : Nat) : Int).tdiv 2) = ((hv h (k + 1) : Nat) : Int) := by
  have h1 := hv_le h k
  show _ = ((hv h k / 2 : Nat) : Int)
  generalize hv h k = z at h1 ⊢
  rw [Int.tdiv_eq_ediv_of_nonneg (Int.natCast_nonneg _), wi64]
  omega

theorem weak_raise {n : Nat} {fr : Fra} {st : Sto} {id g k : Nat} {ty : TypeId} {els : List AV} (g' : Nat) (hs : sget st id = some ⟨k, ty, g, els⟩) (hg : g < g') :
    Weak ⟨n, fr, st⟩ ⟨n, fr, (id, some ⟨k, ty, g', els⟩) :: st⟩ := by
  intro F β a w hr
  obtain ⟨q1, _, q3⟩ := hr.bump (g' := g') (ob := ⟨k, ty, g, els⟩) hs hg
  refine ⟨β, ⟨q1.defers, q1.size, fun i => q1.fr i, q1.ob, q1.inj, q1.notF, q1.ltF⟩, fun b hb => ?_⟩
  obtain ⟨m, ob, hm, hb⟩ := hb
  change sget (sput st id (some ⟨k, ty, g', els⟩)) m = some ob at hm
  rw [sget_sput] at hm
  split at hm
  · rename_i e; rw [e] at hb; exact ⟨id, _, hs, hb⟩
  · exact ⟨m, ob, hm, hb⟩

theorem less_next {a b : Rep} (h : a.next ≠ b.next) : less a b = decide (a.next < b.next) := by unfold less; rw [if_pos h]
theorem less_have {a b : Rep} (h : a.next = b.next) (h2 : a.have_ ≠ b.have_) : less a b = decide (a.have_ < b.have_) := by unfold less; rw [if_neg (by omega), if_pos h2]
theorem less_key {a b : Rep} (h : a.next = b.next) (h2 : a.have_ = b.have_) (h3 : a.key ≠ b.key) : less a b = decide (a.key < b.key) := by unfold less; rw [if_neg (by omega), if_neg (by omega), if_pos h3]
theorem less_l1 {a b : Rep} (h : a.next = b.next) (h2 : a.have_ = b.have_) (h3 : a.key = b.key) (h4 : a.locked = false) : less a b = b.locked := by unfold less; rw [if_neg (by omega), if_neg (by omega), if_neg (by omega), h4]; rfl
theorem less_l2 {a b : Rep} (h : a.next = b.next) (h2 : a.have_ = b.have_) (h3 : a.key = b.key) (h4 : a.locked = true) : less a b = false := by unfold less; rw [if_neg (by omega), if_neg (by omega), if_neg (by omega), h4]; rfl
theorem isubN {d : Int} (h : 1 ≤ d) (h2 : d ≤ 256) : iop .sub .i64 d 1 = some (encI (((d - 1).toNat : Nat) : Int)) := by
  rw [isub (by omega), show d - 1 = (((d - 1).toNat : Nat) : Int) from by omega]; rfl
theorem hv_big {h : Nat} (hh : h < 32768) : hv h 15 = 0 := by rw [hv_eq]; exact Nat.div_eq_of_lt hh
theorem trl_odd {f x : Nat} (h : x % 2 = 1) : trl (f + 1) x = 1 + trl f (x / 2) := by rw [trl, if_pos h]
theorem trl_even {f x : Nat} (h : x % 2 ≠ 1) : trl f x = 0 := by
  cases f with
  | zero => rfl
  | succ f => rw [trl, if_neg h]
theorem trl_step {h k : Nat} (hk : k ≤ 15) (ht : trl 64 h = k + trl (64 - k) (hv h k)) (ho : hv h k % 2 = 1) : trl 64 h = (k + 1) + trl (64 - (k + 1)) (hv h (k + 1)) := by
  have e : 64 - k = (64 - (k + 1)) + 1 := by omega
  rw [ht, e, trl_odd ho, hv]; omega
theorem trl_end {h k : Nat} (ht : trl 64 h = k + trl (64 - k) (hv h k)) (ho : hv h k % 2 ≠ 1) : trl 64 h = k := by
  rw [ht, trl_even ho]; rfl

theorem or_set {h i : Nat} (hb : h / 2 ^ i % 2 = 1) : h ||| 2 ^ i = h := by
  apply Nat.eq_of_testBit_eq
  intro j
  rw [Nat.testBit_or, Nat.testBit_two_pow]
  by_cases e : i = j
  · subst e
    have : h.testBit i = true := by rw [Nat.testBit_eq_decide_div_mod_eq]; simpa using hb
    simp [this]
  · simp [e]
theorem or_add {h i : Nat} (hh : h < 32768) (hi : i < 15) (hb : h / 2 ^ i % 2 ≠ 1) : h + 2 ^ i = h ||| 2 ^ i := by
  have hp : 2 ^ i < 2 ^ 15 := Nat.pow_lt_pow_right (by decide) hi
  have h1 : BitVec.ofNat 64 h &&& BitVec.ofNat 64 (2 ^ i) = 0#64 := by
    apply BitVec.eq_of_toNat_eq
    rw [BitVec.toNat_and, BitVec.toNat_ofNat, BitVec.toNat_ofNat, Nat.mod_eq_of_lt (by omega), Nat.mod_eq_of_lt (by omega)]
    apply Nat.eq_of_testBit_eq
    intro j
    rw [Nat.testBit_and, Nat.testBit_two_pow]
    by_cases e : i = j
    · subst e
      have : h.testBit i = false := by rw [Nat.testBit_eq_decide_div_mod_eq]; simpa using hb
      simp [this]
    · simp [e]
  have h2 := BitVec.add_eq_or_of_and_eq_zero _ _ h1
  have h3 := congrArg BitVec.toNat h2
  rw [BitVec.toNat_add, BitVec.toNat_or, BitVec.toNat_ofNat, BitVec.toNat_ofNat, Nat.mod_eq_of_lt (show h < 2 ^ 64 by omega), Nat.mod_eq_of_lt (show 2 ^ i < 2 ^ 64 by omega), Nat.mod_eq_of_lt (by omega)] at h3
  exact h3
theorem addN {a b : Nat} (h : a + b < 1000000) : iop .add .i64 (a : Int) (b : Int) = some (encI ((a + b : Nat) : Int)) := by
  rw [iadd (by omega), ← Int.natCast_add]; rfl
theorem w64_step (n : Int) (k : Nat) : w64 (w64 (n + (1 + (k : Nat))) + 1) = w64 (n + (1 + ((k + 1 : Nat) : Int))) := by
  rw [w64_w64, Int.natCast_add]
  congr 1
  omega

theorem elF {l : List Frm} {i : Nat} (h : i < l.length) : ((l.map encF).map AV.t)[i]? = some (.t (encF l[i])) := by simp [h]
theorem setF_same {l : List Frm} {i : Nat} (h : i < l.length) : ((l.map encF).map AV.t).set i (.t (.agg [encI l[i].seq, encI l[i].key, .bool l[i].unlock, .sl (l[i].body.map encBy) false, .int .u64 l[i].tag])) = (l.map encF).map AV.t := by
  apply List.ext_getElem?
  intro j
  rw [List.getElem?_set]
  split
  · rename_i e; subst e
    rw [elF h]
    simp [h]
    rfl
  · rfl
theorem tz_ones {h : Nat} (hh : h < 32768) : (Lib.ctz 64 (18446744073709551615 - h) : Nat) = ones ((h : Nat) : Int) := tz_not (s := ⟨0, ((h : Nat) : Int), 0, false⟩) ⟨Int.natCast_nonneg _, by show ((h : Nat) : Int) < 32768; omega⟩

/-- A tree in a slot may be weakened. -/
theorem weak_slot {n : Nat} {fr : Fra} {st : Sto} (d : Nat) {x y : Tr} (h : fget fr d = .t x) (hw : Wk x y) : Weak ⟨n, fr, st⟩ ⟨n, (d, .t y) :: fr, st⟩ := by
  intro F β a w hr
  refine ⟨β, ⟨hr.defers, hr.size, fun i => ?_, hr.ob, hr.inj, hr.notF, hr.ltF⟩, fun b hb => hb⟩
  show VA w _ _ _ (fget (fput fr d (.t y)) i) _
  rw [fget_fput]
  split
  · rename_i e
    have hv := hr.fr d
    rw [show fget (St.mk n fr st).fr d = fget fr d from rfl, h] at hv
    rw [e]
    cases hv with
    | t h => exact .t (hw.v h)
  · exact hr.fr i
end Go.Tv.C34

end
section
open Go Go.Tv Go.Proofs
namespace Go.Tv.C34
set_option maxRecDepth 20000
set_option maxHeartbeats 2000000
set_option linter.unusedSimpArgs false
set_option linter.unusedVariables false
theorem around_ret (n m : Int) (hn : I64 n) (hm : 0 < m ∧ m ≤ 9223372036854775807) : Ret Tryd.prog 13 [encI n, encI m] (encI (around n m)) := by
  unfold I64 at hn
  refine ret_of_awp Tryd.func13 rfl (Nat.le_of_ble_eq_true rfl) ?_
  refine awp_seq ?_
  refine awp_rw rfl ?_
  refine RW.op rfl rfl (eff_assign (v := .t _) rfl rfl rfl) ?_
  refine RW.nil ?_
  refine awp_seq ?_
  refine awp_seq ?_
  refine awp_rw rfl ?_
  refine RW.op rfl rfl (eff_move (v := .t _) rfl rfl rfl) ?_
  refine RW.op rfl rfl (eff_iop rfl rfl rfl rfl rfl) ?_
  refine RW.nil ?_
  refine awp_cond rfl (fun h1 => ?_) (fun h1 => ?_)
  · try simp only [decide_eq_true_eq, decide_eq_false_iff_not, beq_iff_eq, bne_iff_ne, bne_eq_false_iff_eq, beq_eq_false_iff_ne, Bool.not_eq_true, Bool.not_eq_false, Bool.not_eq_true', Bool.not_eq_false', ne_eq] at h1
    refine awp_rw rfl ?_
    refine RW.op rfl rfl (eff_move (v := .t _) rfl rfl rfl) ?_
    refine RW.op rfl rfl (eff_iop rfl rfl rfl rfl (iadd (by omega))) ?_
    refine RW.op rfl rfl (eff_unop (r := .int .i64 (-(n + 1))) rfl rfl rfl (uneg (by omega))) ?_
    refine RW.op rfl rfl (eff_assign (v := .t _) rfl rfl rfl) ?_
    refine RW.nil ?_
    refine awp_seq ?_
    refine awp_rw rfl ?_
    refine RW.op rfl rfl (eff_move (v := .t _) rfl rfl rfl) ?_
    refine RW.op rfl rfl (eff_move (v := .t _) rfl rfl rfl) ?_
    refine RW.op rfl rfl (eff_remE (r := around n m) rfl rfl rfl rfl (by omega) (by unfold around; first | (rw [if_pos h1]; exact tmod_pos (by omega)) | (rw [if_neg h1]; exact tmod_pos (by omega)))) ?_
    refine RW.op rfl rfl (eff_assign (v := .t _) rfl rfl rfl) ?_
    refine RW.nil ?_
    refine awp_ret ?_
    first
      | exact ⟨Or.inr rfl, [_], ⟨.tmp (.t _), trivial⟩, .refl _⟩
      | exact ⟨Or.inr rfl, [_], ⟨.tmp (.t _), trivial⟩, (by repeat' first | exact trivial | exact Wk.refl _ | exact Wk.sl _ | refine And.intro ?_ ?_ | refine Wk.tupP ?_ | refine Wk.aggP ?_)⟩
      | exact ⟨Or.inr rfl, [_], ⟨.tmp (Res.ownT rfl rfl rfl rfl), trivial⟩, .refl _⟩
      | exact ⟨Or.inr rfl, [_], ⟨.tmp (Res.ownT rfl rfl rfl rfl), trivial⟩, (by repeat' first | exact trivial | exact Wk.refl _ | exact Wk.sl _ | refine And.intro ?_ ?_ | refine Wk.tupP ?_ | refine Wk.aggP ?_)⟩
  · try simp only [decide_eq_true_eq, decide_eq_false_iff_not, beq_iff_eq, bne_iff_ne, bne_eq_false_iff_eq, beq_eq_false_iff_ne, Bool.not_eq_true, Bool.not_eq_false, Bool.not_eq_true', Bool.not_eq_false', ne_eq] at h1
    refine awp_skip ?_
    refine awp_seq ?_
    refine awp_rw rfl ?_
    refine RW.op rfl rfl (eff_move (v := .t _) rfl rfl rfl) ?_
    refine RW.op rfl rfl (eff_move (v := .t _) rfl rfl rfl) ?_
    refine RW.op rfl rfl (eff_remE (r := around n m) rfl rfl rfl rfl (by omega) (by unfold around; first | (rw [if_pos h1]; exact tmod_pos (by omega)) | (rw [if_neg h1]; exact tmod_pos (by omega)))) ?_
    refine RW.op rfl rfl (eff_assign (v := .t _) rfl rfl rfl) ?_
    refine RW.nil ?_
    refine awp_ret ?_
    first
      | exact ⟨Or.inr rfl, [_], ⟨.tmp (.t _), trivial⟩, .refl _⟩
      | exact ⟨Or.inr rfl, [_], ⟨.tmp (.t _), trivial⟩, (by repeat' first | exact trivial | exact Wk.refl _ | exact Wk.sl _ | refine And.intro ?_ ?_ | refine Wk.tupP ?_ | refine Wk.aggP ?_)⟩
      | exact ⟨Or.inr rfl, [_], ⟨.tmp (Res.ownT rfl rfl rfl rfl), trivial⟩, .refl _⟩
      | exact ⟨Or.inr rfl, [_], ⟨.tmp (Res.ownT rfl rfl rfl rfl), trivial⟩, (by repeat' first | exact trivial | exact Wk.refl _ | exact Wk.sl _ | refine And.intro ?_ ?_ | refine Wk.tupP ?_ | refine Wk.aggP ?_)⟩

theorem state_ret (n h k : Int) (b : Bool) (hn : I64 n) (hh : I64 h) (hk : I64 k) : Ret Tryd.prog 12 [encI n, encI h, encI k, .bool b] (encR (state n h k b)) := by
  refine ret_of_awp Tryd.func12 rfl (Nat.le_of_ble_eq_true rfl) ?_
  refine awp_seq ?_
  refine awp_rw rfl ?_
  refine RW.new rfl rfl (eff_allocK (k := 4) (id := 8) rfl rfl tz23 rfl rfl) ?_
  refine RW.nil ?_
  refine awp_seq ?_
  refine awp_rw rfl ?_
  refine RW.op rfl rfl (eff_move (v := .t _) rfl rfl rfl) ?_
  refine RW.op rfl rfl (eff_callT (around_ret _ _ (by first | assumption | exact (by first | assumption | omega)) (by omega)) co13 rfl rfl rfl rfl) ?_
  refine RW.op rfl rfl (eff_move (v := .t _) rfl rfl rfl) ?_
  refine RW.op rfl rfl (eff_callT (around_ret _ _ (by first | assumption | exact (by first | assumption | omega)) (by omega)) co13 rfl rfl rfl rfl) ?_
  refine RW.op rfl rfl (eff_move (v := .t _) rfl rfl rfl) ?_
  refine RW.op rfl rfl (eff_callT (around_ret _ _ (by first | assumption | exact (by first | assumption | omega)) (by omega)) co13 rfl rfl rfl rfl) ?_
  refine RW.op rfl rfl (eff_move (v := .t _) rfl rfl rfl) ?_
  refine RW.op rfl rfl (eff_buildT (ys := [_, _, _, _]) rfl rfl tz23 tg23 rfl) ?_
  refine RW.store rfl rfl (eff_storeW (v := .t _) (els := [_]) (els' := [_]) rfl rfl ti23 rfl rfl rfl rfl rfl rfl rfl rfl rfl) ?_
  refine RW.nil ?_
  refine awp_ret ?_
  first
    | exact ⟨Or.inr rfl, [_], ⟨.cell rfl ti23 (.whole rfl rfl rfl rfl rfl rfl) (.t _), trivial⟩, .refl _⟩
    | exact ⟨Or.inr rfl, [_], ⟨.cell rfl ti23 (.whole rfl rfl rfl rfl rfl rfl) (.t _), trivial⟩, (by repeat' first | exact trivial | exact Wk.refl _ | exact Wk.sl _ | refine And.intro ?_ ?_ | refine Wk.tupP ?_ | refine Wk.aggP ?_)⟩

theorem modulo_ret (n : Int) : Ret Tryd.prog 40 [encI n] (encI (n % 256)) := by
  have ht := tmod_range n
  refine ret_of_awp Tryd.func40 rfl (Nat.le_of_ble_eq_true rfl) ?_
  refine awp_seq ?_
  refine awp_rw rfl ?_
  refine RW.op rfl rfl (eff_assign (v := .t _) rfl rfl rfl) ?_
  refine RW.nil ?_
  refine awp_seq ?_
  refine awp_rw rfl ?_
  refine RW.op rfl rfl (eff_move (v := .t _) rfl rfl rfl) ?_
  refine RW.op rfl rfl (eff_rem rfl rfl rfl rfl (by first | decide | omega)) ?_
  refine RW.op rfl rfl (eff_assign (v := .t _) rfl rfl rfl) ?_
  refine RW.nil ?_
  refine awp_seq ?_
  refine awp_seq ?_
  refine awp_rw rfl ?_
  refine RW.op rfl rfl (eff_move (v := .t _) rfl rfl rfl) ?_
  refine RW.op rfl rfl (eff_iop rfl rfl rfl rfl rfl) ?_
  refine RW.nil ?_
  refine awp_cond rfl (fun h1 => ?_) (fun h1 => ?_)
  · try simp only [decide_eq_true_eq, decide_eq_false_iff_not, beq_iff_eq, bne_iff_ne, bne_eq_false_iff_eq, beq_eq_false_iff_ne, Bool.not_eq_true, Bool.not_eq_false, Bool.not_eq_true', Bool.not_eq_false', ne_eq] at h1
    refine awp_rw rfl ?_
    refine RW.op rfl rfl (eff_move (v := .t _) rfl rfl rfl) ?_
    refine RW.op rfl rfl (eff_iop (r := encI (n.tmod 256 + 256)) rfl rfl rfl rfl (iadd (by omega))) ?_
    refine RW.op rfl rfl (eff_assign (v := .t _) rfl rfl rfl) ?_
    refine RW.nil ?_
    refine awp_seq ?_
    refine awp_rw rfl ?_
    refine RW.op rfl rfl (eff_move (v := .t _) rfl rfl rfl) ?_
    refine RW.op rfl rfl (eff_assign (v := .t _) rfl rfl rfl) ?_
    refine RW.nil ?_
    refine awp_ret ?_
    rw [← tmod_fix n, if_pos h1]
    exact ⟨Or.inr rfl, [_], ⟨.tmp (.t _), trivial⟩, .refl _⟩
  · try simp only [decide_eq_true_eq, decide_eq_false_iff_not, beq_iff_eq, bne_iff_ne, bne_eq_false_iff_eq, beq_eq_false_iff_ne, Bool.not_eq_true, Bool.not_eq_false, Bool.not_eq_true', Bool.not_eq_false', ne_eq] at h1
    refine awp_skip ?_
    refine awp_seq ?_
    refine awp_rw rfl ?_
    refine RW.op rfl rfl (eff_move (v := .t _) rfl rfl rfl) ?_
    refine RW.op rfl rfl (eff_assign (v := .t _) rfl rfl rfl) ?_
    refine RW.nil ?_
    refine awp_ret ?_
    rw [← tmod_fix n, if_neg h1]
    exact ⟨Or.inr rfl, [_], ⟨.tmp (.t _), trivial⟩, .refl _⟩

theorem bit_ret (h i : Nat) (hh : h < 32768) (hi : i ≤ 64) : Ret Tryd.prog 41 [encI (h : Nat), encI (i : Nat)] (.bool (decide (h / 2 ^ i % 2 = 1))) := by
  refine ret_of_awp Tryd.func41 rfl (Nat.le_of_ble_eq_true rfl) ?_
  refine awp_seq ?_
  refine awp_rw rfl ?_
  refine RW.op rfl rfl (eff_assign (v := .t _) rfl rfl rfl) ?_
  refine RW.nil ?_
  refine awp_seq ?_
  refine awp_seq ?_
  refine awp_rw rfl ?_
  refine RW.op rfl rfl (eff_assign (v := .t _) rfl rfl rfl) ?_
  refine RW.nil ?_
  refine awp_block ?_
  refine awp_loopW (fun m s => ∃ (k : Nat), (k ≤ i) ∧ m = i - k ∧ s = ⟨16, [(0, .t (encI ((hv h k : Nat) : Int))), (1, .t (encI (i : Nat))), (5, .t (encI (k : Nat)))], []⟩) (_) (⟨_, weak_keep (n := 16) (fr' := [(0, .t (encI ((hv h 0 : Nat) : Int))), (1, .t (encI (i : Nat))), (5, .t (encI (0 : Nat)))]) (st' := []) ⟨rfl, rfl, rfl, rfl, rfl, rfl, trivial⟩ trivial, 0, (by omega), rfl, rfl⟩) ?_
  rintro m s ⟨k, hk, rfl, rfl⟩
  have hq := hv_le h k
  refine awp_seq ?_
  refine awp_seq ?_
  refine awp_rw rfl ?_
  refine RW.op rfl rfl (eff_move (v := .t _) rfl rfl rfl) ?_
  refine RW.op rfl rfl (eff_move (v := .t _) rfl rfl rfl) ?_
  refine RW.op rfl rfl (eff_iop rfl rfl rfl rfl rfl) ?_
  refine RW.nil ?_
  refine awp_cond rfl (fun h1 => ?_) (fun h1 => ?_)
  · try simp only [decide_eq_true_eq, decide_eq_false_iff_not, beq_iff_eq, bne_iff_ne, bne_eq_false_iff_eq, beq_eq_false_iff_ne, Bool.not_eq_true, Bool.not_eq_false, Bool.not_eq_true', Bool.not_eq_false', ne_eq] at h1
    refine awp_skip ?_
    refine awp_seq ?_
    refine awp_block ?_
    refine awp_rw rfl ?_
    refine RW.op rfl rfl (eff_move (v := .t _) rfl rfl rfl) ?_
    refine RW.op rfl rfl (eff_quoE (r := ((hv h (k + 1) : Nat) : Int)) rfl rfl rfl rfl (by decide) (half_hv h k hh)) ?_
    refine RW.op rfl rfl (eff_assign (v := .t _) rfl rfl rfl) ?_
    refine RW.nil ?_
    refine awp_rw rfl ?_
    refine RW.op rfl rfl (eff_move (v := .t _) rfl rfl rfl) ?_
    refine RW.op rfl rfl (eff_iop rfl rfl rfl rfl (iadd (by omega))) ?_
    refine RW.op rfl rfl (eff_assign (v := .t _) rfl rfl rfl) ?_
    refine RW.nil ?_
    refine ⟨_, ?_, _, weak_keep (n := 16) (fr' := [(0, .t (encI ((hv h (k + 1) : Nat) : Int))), (1, .t (encI (i : Nat))), (5, .t (encI ((k + 1) : Nat)))]) (st' := []) ⟨rfl, rfl, rfl, rfl, rfl, rfl, trivial⟩ trivial, k + 1, (by omega), rfl, rfl⟩
    omega
  · try simp only [decide_eq_true_eq, decide_eq_false_iff_not, beq_iff_eq, bne_iff_ne, bne_eq_false_iff_eq, beq_eq_false_iff_ne, Bool.not_eq_true, Bool.not_eq_false, Bool.not_eq_true', Bool.not_eq_false', ne_eq] at h1
    refine awp_exit ?_
    refine awp_seq ?_
    refine awp_rw rfl ?_
    refine RW.op rfl rfl (eff_move (v := .t _) rfl rfl rfl) ?_
    refine RW.op rfl rfl (eff_remE (r := ((hv h k % 2 : Nat) : Int)) rfl rfl rfl rfl (by decide) (by rw [tmod_pos (Int.natCast_nonneg _)]; rfl)) ?_
    refine RW.op rfl rfl (eff_iop rfl rfl rfl rfl rfl) ?_
    refine RW.op rfl rfl (eff_assign (v := .t _) rfl rfl rfl) ?_
    refine RW.nil ?_
    refine awp_ret ?_
    obtain rfl : k = i := by omega
    rw [show decide (h / 2 ^ k % 2 = 1) = (((hv h k % 2 : Nat) : Int) == 1) from by rw [← hv_eq h k, Bool.eq_iff_iff]; simp only [decide_eq_true_eq, beq_iff_eq]; omega]
    exact ⟨Or.inr rfl, [_], ⟨.tmp (.t _), trivial⟩, .refl _⟩

theorem power_ret (i : Nat) (hi : i ≤ 20) : Ret Tryd.prog 42 [encI (i : Nat)] (encI ((2 ^ i : Nat) : Int)) := by
  refine ret_of_awp Tryd.func42 rfl (Nat.le_of_ble_eq_true rfl) ?_
  refine awp_seq ?_
  refine awp_rw rfl ?_
  refine RW.op rfl rfl (eff_assign (v := .t _) rfl rfl rfl) ?_
  refine RW.nil ?_
  refine awp_seq ?_
  refine awp_rw rfl ?_
  refine RW.op rfl rfl (eff_assign (v := .t _) rfl rfl rfl) ?_
  refine RW.nil ?_
  refine awp_seq ?_
  refine awp_seq ?_
  refine awp_rw rfl ?_
  refine RW.op rfl rfl (eff_assign (v := .t _) rfl rfl rfl) ?_
  refine RW.nil ?_
  refine awp_block ?_
  refine awp_loopW (fun m s => ∃ (k : Nat), (k ≤ i) ∧ m = i - k ∧ s = ⟨13, [(0, .t (encI (i : Nat))), (3, .t (encI ((2 ^ k : Nat) : Int))), (4, .t (encI (k : Nat)))], []⟩) (_) (⟨_, weak_keep (n := 13) (fr' := [(0, .t (encI (i : Nat))), (3, .t (encI ((2 ^ 0 : Nat) : Int))), (4, .t (encI (0 : Nat)))]) (st' := []) ⟨rfl, rfl, rfl, rfl, rfl, rfl, trivial⟩ trivial, 0, (by omega), rfl, rfl⟩) ?_
  rintro m s ⟨k, hk, rfl, rfl⟩
  have hp := Nat.pow_le_pow_right (n := 2) (by decide) (show k ≤ 20 by omega)
  refine awp_seq ?_
  refine awp_seq ?_
  refine awp_rw rfl ?_
  refine RW.op rfl rfl (eff_move (v := .t _) rfl rfl rfl) ?_
  refine RW.op rfl rfl (eff_move (v := .t _) rfl rfl rfl) ?_
  refine RW.op rfl rfl (eff_iop rfl rfl rfl rfl rfl) ?_
  refine RW.nil ?_
  refine awp_cond rfl (fun h1 => ?_) (fun h1 => ?_)
  · try simp only [decide_eq_true_eq, decide_eq_false_iff_not, beq_iff_eq, bne_iff_ne, bne_eq_false_iff_eq, beq_eq_false_iff_ne, Bool.not_eq_true, Bool.not_eq_false, Bool.not_eq_true', Bool.not_eq_false', ne_eq] at h1
    refine awp_skip ?_
    refine awp_seq ?_
    refine awp_block ?_
    refine awp_rw rfl ?_
    refine RW.op rfl rfl (eff_move (v := .t _) rfl rfl rfl) ?_
    refine RW.op rfl rfl (eff_iop (r := encI ((2 ^ (k + 1) : Nat) : Int)) rfl rfl rfl rfl (twice_pow k (by omega))) ?_
    refine RW.op rfl rfl (eff_assign (v := .t _) rfl rfl rfl) ?_
    refine RW.nil ?_
    refine awp_rw rfl ?_
    refine RW.op rfl rfl (eff_move (v := .t _) rfl rfl rfl) ?_
    refine RW.op rfl rfl (eff_iop rfl rfl rfl rfl (iadd (by omega))) ?_
    refine RW.op rfl rfl (eff_assign (v := .t _) rfl rfl rfl) ?_
    refine RW.nil ?_
    refine ⟨_, ?_, _, weak_keep (n := 13) (fr' := [(0, .t (encI (i : Nat))), (3, .t (encI ((2 ^ (k + 1) : Nat) : Int))), (4, .t (encI ((k + 1) : Nat)))]) (st' := []) ⟨rfl, rfl, rfl, rfl, rfl, rfl, trivial⟩ trivial, k + 1, (by omega), rfl, rfl⟩
    omega
  · try simp only [decide_eq_true_eq, decide_eq_false_iff_not, beq_iff_eq, bne_iff_ne, bne_eq_false_iff_eq, beq_eq_false_iff_ne, Bool.not_eq_true, Bool.not_eq_false, Bool.not_eq_true', Bool.not_eq_false', ne_eq] at h1
    refine awp_exit ?_
    refine awp_seq ?_
    refine awp_rw rfl ?_
    refine RW.op rfl rfl (eff_move (v := .t _) rfl rfl rfl) ?_
    refine RW.op rfl rfl (eff_assign (v := .t _) rfl rfl rfl) ?_
    refine RW.nil ?_
    refine awp_ret ?_
    obtain rfl : k = i := by omega
    exact ⟨Or.inr rfl, [_], ⟨.tmp (.t _), trivial⟩, .refl _⟩

theorem tz64_ret (x : Nat) (hx : x < 18446744073709551616) : RetT Tryd.prog 64 [(1, deT)] [.int .u64 (x : Nat)] (encI (Lib.ctz 64 x : Nat)) := by
  refine retT_of_awp Tryd.func64 rfl (Nat.le_of_ble_eq_true rfl) ?_
  refine awp_seq ?_
  refine awp_rw rfl ?_
  refine RW.op rfl rfl (eff_assign (v := .t _) rfl rfl rfl) ?_
  refine RW.nil ?_
  refine awp_seq ?_
  refine awp_seq ?_
  refine awp_rw rfl ?_
  refine RW.op rfl rfl (eff_move (v := .t _) rfl rfl rfl) ?_
  refine RW.op rfl rfl (eff_iop rfl rfl rfl rfl rfl) ?_
  refine RW.nil ?_
  refine awp_cond rfl (fun h1 => ?_) (fun h1 => ?_)
  · try simp only [decide_eq_true_eq, decide_eq_false_iff_not, beq_iff_eq, bne_iff_ne, bne_eq_false_iff_eq, beq_eq_false_iff_ne, Bool.not_eq_true, Bool.not_eq_false, Bool.not_eq_true', Bool.not_eq_false', ne_eq] at h1
    refine awp_seq ?_
    refine awp_rw rfl ?_
    refine RW.op rfl rfl (eff_assign (v := .t _) rfl rfl rfl) ?_
    refine RW.nil ?_
    refine awp_ret ?_
    obtain rfl : x = 0 := by omega
    exact ⟨Or.inr rfl, [_], ⟨.tmp (.t _), trivial⟩, .refl _⟩
  · try simp only [decide_eq_true_eq, decide_eq_false_iff_not, beq_iff_eq, bne_iff_ne, bne_eq_false_iff_eq, beq_eq_false_iff_ne, Bool.not_eq_true, Bool.not_eq_false, Bool.not_eq_true', Bool.not_eq_false', ne_eq] at h1
    refine awp_skip ?_
    refine awp_seq ?_
    refine awp_rw rfl ?_
    have hx0 : x ≠ 0 := by omega
    obtain ⟨hlow, hct⟩ := Lib.lowest_bit 64 x hx0 hx
    have hlt : 2 ^ Lib.ctz 64 x < 18446744073709551616 := by rw [← hlow]; exact Nat.lt_of_le_of_lt Nat.and_le_left hx
    refine RW.op rfl rfl (eff_move (v := .t _) rfl rfl rfl) ?_
    refine RW.op rfl rfl (eff_move (v := .t _) rfl rfl rfl) ?_
    refine RW.op rfl rfl (eff_unop rfl rfl rfl (neg_nat hx0 hx)) ?_
    refine RW.op rfl rfl (eff_iop (r := .int .u64 ((2 ^ Lib.ctz 64 x : Nat) : Int)) rfl rfl rfl rfl (by rw [← hlow]; exact and_nat hx (by omega))) ?_
    refine RW.op rfl rfl (eff_iop (r := .int .u64 ((2 ^ Lib.ctz 64 x * 285870213051353865 % 18446744073709551616 : Nat) : Int)) rfl rfl rfl rfl (mul_u64 _ _)) ?_
    refine RW.op rfl rfl (eff_shrE (r := ((dix (Lib.ctz 64 x) : Nat) : Int)) rfl rfl rfl rfl (by decide) (shr58 _)) ?_
    refine RW.op rfl rfl (eff_indexAddrR rfl rfl Tryd.underlying119 ti5 rfl rfl rfl (dix_lt hct)) ?_
    refine RW.op rfl rfl (eff_loadR rfl rfl ti5 rfl (deB_get hct)) ?_
    refine RW.op rfl rfl (eff_convIntE (m := ((Lib.ctz 64 x : Nat) : Int)) rfl rfl (by rw [tu5]; rfl) tu3 rfl (by rw [wi64]; omega)) ?_
    refine RW.op rfl rfl (eff_assign (v := .t _) rfl rfl rfl) ?_
    refine RW.nil ?_
    refine awp_ret ?_
    first
      | exact ⟨Or.inr rfl, [_], ⟨.tmp (.t _), trivial⟩, .refl _⟩
      | exact ⟨Or.inr rfl, [_], ⟨.tmp (.t _), trivial⟩, (by repeat' first | exact trivial | exact Wk.refl _ | exact Wk.sl _ | refine And.intro ?_ ?_ | refine Wk.tupP ?_ | refine Wk.aggP ?_)⟩
      | exact ⟨Or.inr rfl, [_], ⟨.tmp (Res.ownT rfl rfl rfl rfl), trivial⟩, .refl _⟩
      | exact ⟨Or.inr rfl, [_], ⟨.tmp (Res.ownT rfl rfl rfl rfl), trivial⟩, (by repeat' first | exact trivial | exact Wk.refl _ | exact Wk.sl _ | refine And.intro ?_ ?_ | refine Wk.tupP ?_ | refine Wk.aggP ?_)⟩

theorem tz_ret (x : Nat) (hx : x < 18446744073709551616) : RetT Tryd.prog 39 [(1, deT)] [.int .u64 (x : Nat)] (encI (Lib.ctz 64 x : Nat)) := by
  refine retT_of_awp Tryd.func39 rfl (Nat.le_of_ble_eq_true rfl) ?_
  refine awp_seq ?_
  refine awp_rw rfl ?_
  refine RW.op rfl rfl (eff_assign (v := .t _) rfl rfl rfl) ?_
  refine RW.nil ?_
  refine awp_seq ?_
  refine awp_cond rfl (fun h => nomatch h) (fun _ => ?_)
  refine awp_skip ?_
  refine awp_seq ?_
  refine awp_rw rfl ?_
  refine RW.op rfl rfl (eff_move (v := .t _) rfl rfl rfl) ?_
  refine RW.op rfl rfl (eff_callXT (tz64_ret _ hx) co64 rfl rfl rfl ⟨rfl, trivial⟩ rfl) ?_
  refine RW.op rfl rfl (eff_assign (v := .t _) rfl rfl rfl) ?_
  refine RW.nil ?_
  refine awp_ret ?_
  first
    | exact ⟨Or.inr rfl, [_], ⟨.tmp (.t _), trivial⟩, .refl _⟩
    | exact ⟨Or.inr rfl, [_], ⟨.tmp (.t _), trivial⟩, (by repeat' first | exact trivial | exact Wk.refl _ | exact Wk.sl _ | refine And.intro ?_ ?_ | refine Wk.tupP ?_ | refine Wk.aggP ?_)⟩
    | exact ⟨Or.inr rfl, [_], ⟨.tmp (Res.ownT rfl rfl rfl rfl), trivial⟩, .refl _⟩
    | exact ⟨Or.inr rfl, [_], ⟨.tmp (Res.ownT rfl rfl rfl rfl), trivial⟩, (by repeat' first | exact trivial | exact Wk.refl _ | exact Wk.sl _ | refine And.intro ?_ ?_ | refine Wk.tupP ?_ | refine Wk.aggP ?_)⟩

theorem nan_ret (n : Int) : Ret Tryd.prog 97 [encI n] (.bool false) := by
  refine ret_of_awp Tryd.func97 rfl (Nat.le_of_ble_eq_true rfl) ?_
  refine awp_seq ?_
  refine awp_rw rfl ?_
  refine RW.op rfl rfl (eff_assign (v := .t _) rfl rfl rfl) ?_
  refine RW.nil ?_
  refine awp_seq ?_
  refine awp_rw rfl ?_
  refine RW.op rfl rfl (eff_move (v := .t _) rfl rfl rfl) ?_
  refine RW.op rfl rfl (eff_move (v := .t _) rfl rfl rfl) ?_
  refine RW.op rfl rfl (eff_iop (r := .bool false) rfl rfl rfl rfl (by simp [iop])) ?_
  refine RW.op rfl rfl (eff_assign (v := .t _) rfl rfl rfl) ?_
  refine RW.nil ?_
  refine awp_ret ?_
  first
    | exact ⟨Or.inr rfl, [_], ⟨.tmp (.t _), trivial⟩, .refl _⟩
    | exact ⟨Or.inr rfl, [_], ⟨.tmp (.t _), trivial⟩, (by repeat' first | exact trivial | exact Wk.refl _ | exact Wk.sl _ | refine And.intro ?_ ?_ | refine Wk.tupP ?_ | refine Wk.aggP ?_)⟩
    | exact ⟨Or.inr rfl, [_], ⟨.tmp (Res.ownT rfl rfl rfl rfl), trivial⟩, .refl _⟩
    | exact ⟨Or.inr rfl, [_], ⟨.tmp (Res.ownT rfl rfl rfl rfl), trivial⟩, (by repeat' first | exact trivial | exact Wk.refl _ | exact Wk.sl _ | refine And.intro ?_ ?_ | refine Wk.tupP ?_ | refine Wk.aggP ?_)⟩

theorem cmp_ret (a b : Int) : Ret Tryd.prog 82 [encI a, encI b] (encI (cmpI a b)) := by
  refine ret_of_awp Tryd.func82 rfl (Nat.le_of_ble_eq_true rfl) ?_
  refine awp_seq ?_
  refine awp_rw rfl ?_
  refine RW.op rfl rfl (eff_assign (v := .t _) rfl rfl rfl) ?_
  refine RW.nil ?_
  refine awp_seq ?_
  refine awp_rw rfl ?_
  refine RW.op rfl rfl (eff_move (v := .t _) rfl rfl rfl) ?_
  refine RW.op rfl rfl (eff_callT (nan_ret _) co97 rfl rfl rfl rfl) ?_
  refine RW.op rfl rfl (eff_assign (v := .t _) rfl rfl rfl) ?_
  refine RW.nil ?_
  refine awp_seq ?_
  refine awp_rw rfl ?_
  refine RW.op rfl rfl (eff_move (v := .t _) rfl rfl rfl) ?_
  refine RW.op rfl rfl (eff_callT (nan_ret _) co97 rfl rfl rfl rfl) ?_
  refine RW.op rfl rfl (eff_assign (v := .t _) rfl rfl rfl) ?_
  refine RW.nil ?_
  refine awp_seq ?_
  refine awp_seq ?_
  refine awp_rw rfl ?_
  refine RW.op rfl rfl (eff_move (v := .t _) rfl rfl rfl) ?_
  refine RW.nil ?_
  refine awp_cond rfl (fun h => nomatch h) (fun _ => ?_)
  refine awp_skip ?_
  refine awp_seq ?_
  refine awp_seq ?_
  refine awp_rw rfl ?_
  refine RW.op rfl rfl (eff_move (v := .t _) rfl rfl rfl) ?_
  refine RW.nil ?_
  refine awp_cond rfl (fun h => nomatch h) (fun _ => ?_)
  refine awp_skip ?_
  refine awp_seq ?_
  refine awp_seq ?_
  refine awp_rw rfl ?_
  refine RW.op rfl rfl (eff_move (v := .t _) rfl rfl rfl) ?_
  refine RW.op rfl rfl (eff_move (v := .t _) rfl rfl rfl) ?_
  refine RW.op rfl rfl (eff_iop rfl rfl rfl rfl rfl) ?_
  refine RW.nil ?_
  refine awp_cond rfl (fun h1 => ?_) (fun h1 => ?_)
  · try simp only [decide_eq_true_eq, decide_eq_false_iff_not, beq_iff_eq, bne_iff_ne, bne_eq_false_iff_eq, beq_eq_false_iff_ne, Bool.not_eq_true, Bool.not_eq_false, Bool.not_eq_true', Bool.not_eq_false', ne_eq] at h1
    refine awp_seq ?_
    refine awp_rw rfl ?_
    refine RW.op rfl rfl (eff_assign (v := .t _) rfl rfl rfl) ?_
    refine RW.nil ?_
    refine awp_ret ?_
    first
      | (rw [show cmpI a b = -1 from by unfold cmpI; rw [if_pos (by omega)]]; exact ⟨Or.inr rfl, [_], ⟨.tmp (.t _), trivial⟩, .refl _⟩)
      | (rw [show cmpI a b = 1 from by unfold cmpI; rw [if_neg (by omega), if_pos (by omega)]]; exact ⟨Or.inr rfl, [_], ⟨.tmp (.t _), trivial⟩, .refl _⟩)
      | (rw [show cmpI a b = 0 from by unfold cmpI; rw [if_neg (by omega), if_neg (by omega)]]; exact ⟨Or.inr rfl, [_], ⟨.tmp (.t _), trivial⟩, .refl _⟩)
  · try simp only [decide_eq_true_eq, decide_eq_false_iff_not, beq_iff_eq, bne_iff_ne, bne_eq_false_iff_eq, beq_eq_false_iff_ne, Bool.not_eq_true, Bool.not_eq_false, Bool.not_eq_true', Bool.not_eq_false', ne_eq] at h1
    refine awp_skip ?_
    refine awp_seq ?_
    refine awp_seq ?_
    refine awp_rw rfl ?_
    refine RW.op rfl rfl (eff_move (v := .t _) rfl rfl rfl) ?_
    refine RW.op rfl rfl (eff_move (v := .t _) rfl rfl rfl) ?_
    refine RW.op rfl rfl (eff_iop rfl rfl rfl rfl rfl) ?_
    refine RW.nil ?_
    refine awp_cond rfl (fun h2 => ?_) (fun h2 => ?_)
    · try simp only [decide_eq_true_eq, decide_eq_false_iff_not, beq_iff_eq, bne_iff_ne, bne_eq_false_iff_eq, beq_eq_false_iff_ne, Bool.not_eq_true, Bool.not_eq_false, Bool.not_eq_true', Bool.not_eq_false', ne_eq] at h2
      refine awp_seq ?_
      refine awp_rw rfl ?_
      refine RW.op rfl rfl (eff_assign (v := .t _) rfl rfl rfl) ?_
      refine RW.nil ?_
      refine awp_ret ?_
      first
        | (rw [show cmpI a b = -1 from by unfold cmpI; rw [if_pos (by omega)]]; exact ⟨Or.inr rfl, [_], ⟨.tmp (.t _), trivial⟩, .refl _⟩)
        | (rw [show cmpI a b = 1 from by unfold cmpI; rw [if_neg (by omega), if_pos (by omega)]]; exact ⟨Or.inr rfl, [_], ⟨.tmp (.t _), trivial⟩, .refl _⟩)
        | (rw [show cmpI a b = 0 from by unfold cmpI; rw [if_neg (by omega), if_neg (by omega)]]; exact ⟨Or.inr rfl, [_], ⟨.tmp (.t _), trivial⟩, .refl _⟩)
    · try simp only [decide_eq_true_eq, decide_eq_false_iff_not, beq_iff_eq, bne_iff_ne, bne_eq_false_iff_eq, beq_eq_false_iff_ne, Bool.not_eq_true, Bool.not_eq_false, Bool.not_eq_true', Bool.not_eq_false', ne_eq] at h2
      refine awp_skip ?_
      refine awp_seq ?_
      refine awp_rw rfl ?_
      refine RW.op rfl rfl (eff_assign (v := .t _) rfl rfl rfl) ?_
      refine RW.nil ?_
      refine awp_ret ?_
      first
        | (rw [show cmpI a b = -1 from by unfold cmpI; rw [if_pos (by omega)]]; exact ⟨Or.inr rfl, [_], ⟨.tmp (.t _), trivial⟩, .refl _⟩)
        | (rw [show cmpI a b = 1 from by unfold cmpI; rw [if_neg (by omega), if_pos (by omega)]]; exact ⟨Or.inr rfl, [_], ⟨.tmp (.t _), trivial⟩, .refl _⟩)
        | (rw [show cmpI a b = 0 from by unfold cmpI; rw [if_neg (by omega), if_neg (by omega)]]; exact ⟨Or.inr rfl, [_], ⟨.tmp (.t _), trivial⟩, .refl _⟩)

theorem flag_ret (b : Bool) : Ret Tryd.prog 80 [.bool b] (encI (flag b)) := by
  refine ret_of_awp Tryd.func80 rfl (Nat.le_of_ble_eq_true rfl) ?_
  refine awp_seq ?_
  refine awp_rw rfl ?_
  refine RW.op rfl rfl (eff_assign (v := .t _) rfl rfl rfl) ?_
  refine RW.nil ?_
  refine awp_seq ?_
  refine awp_seq ?_
  refine awp_rw rfl ?_
  refine RW.op rfl rfl (eff_move (v := .t _) rfl rfl rfl) ?_
  refine RW.nil ?_
  refine awp_cond rfl (fun h1 => ?_) (fun h1 => ?_)
  · try simp only [decide_eq_true_eq, decide_eq_false_iff_not, beq_iff_eq, bne_iff_ne, bne_eq_false_iff_eq, beq_eq_false_iff_ne, Bool.not_eq_true, Bool.not_eq_false, Bool.not_eq_true', Bool.not_eq_false', ne_eq] at h1
    refine awp_seq ?_
    refine awp_rw rfl ?_
    refine RW.op rfl rfl (eff_assign (v := .t _) rfl rfl rfl) ?_
    refine RW.nil ?_
    refine awp_ret ?_
    rw [h1]
    exact ⟨Or.inr rfl, [_], ⟨.tmp (.t _), trivial⟩, .refl _⟩
  · try simp only [decide_eq_true_eq, decide_eq_false_iff_not, beq_iff_eq, bne_iff_ne, bne_eq_false_iff_eq, beq_eq_false_iff_ne, Bool.not_eq_true, Bool.not_eq_false, Bool.not_eq_true', Bool.not_eq_false', ne_eq] at h1
    refine awp_skip ?_
    refine awp_seq ?_
    refine awp_rw rfl ?_
    refine RW.op rfl rfl (eff_assign (v := .t _) rfl rfl rfl) ?_
    refine RW.nil ?_
    refine awp_ret ?_
    rw [h1]
    exact ⟨Or.inr rfl, [_], ⟨.tmp (.t _), trivial⟩, .refl _⟩

theorem or_retG (l : List Int) (hl : l.length ≤ 1000000) : RetG Tryd.prog 81 [(0, some ⟨1, 3, 0, (l.map encI).map .t⟩)] [.own 0 0 0 l.length] [(0, some ⟨1, 3, 1, (l.map encI).map .t⟩)] (.t (encI (orI l))) := by
  refine retG_of_awp Tryd.func81 rfl (Nat.le_of_ble_eq_true rfl) ?_
  refine awp_seq ?_
  refine awp_rw rfl ?_
  refine RW.op rfl rfl (eff_assign (v := .t _) rfl rfl rfl) ?_
  refine RW.nil ?_
  refine awp_seq ?_
  refine awp_rw rfl ?_
  refine RW.op rfl rfl (eff_assign (v := .t _) rfl rfl rfl) ?_
  refine RW.nil ?_
  refine awp_seq ?_
  refine awp_seq ?_
  refine awp_rw rfl ?_
  refine RW.op rfl rfl (eff_move (v := .own _ _ _ _) rfl rfl rfl) ?_
  refine RW.op rfl rfl (eff_len rfl rfl te26 rfl rfl rfl) ?_
  refine RW.op rfl rfl (eff_move (v := .t _) rfl rfl rfl) ?_
  refine RW.nil ?_
  refine awp_block ?_
  refine awp_loopW (fun m s => ∃ (i : Nat), (i ≤ l.length) ∧ (∀ y, y ∈ l.take i → y = 0) ∧ m = l.length - i ∧ s = ⟨18, [(3, .t (encI 0)), (6, .own 0 0 0 l.length), (7, .t (encI l.length)), (8, .t (encI (i : Nat)))], [(0, some ⟨1, 3, 0, (l.map encI).map .t⟩)]⟩) (_) (⟨_, weak_keep (n := 18) (fr' := [(3, .t (encI 0)), (6, .own 0 0 0 l.length), (7, .t (encI l.length)), (8, .t (encI (0 : Nat)))]) (st' := [(0, some ⟨1, 3, 0, (l.map encI).map .t⟩)]) ⟨rfl, rfl, rfl, rfl, rfl, rfl, rfl, rfl, trivial⟩ ⟨rfl, okE_t, trivial⟩, 0, (by omega), (by simp), rfl, rfl⟩) ?_
  rintro m s ⟨i, hi, ha, rfl, rfl⟩
  refine awp_seq ?_
  refine awp_rw rfl ?_
  refine RW.op rfl rfl (eff_iop rfl rfl rfl rfl rfl) ?_
  refine RW.nil ?_
  refine awp_seq ?_
  refine awp_cond rfl (fun h1 => ?_) (fun h1 => ?_)
  · try simp only [decide_eq_true_eq, decide_eq_false_iff_not, beq_iff_eq, bne_iff_ne, bne_eq_false_iff_eq, beq_eq_false_iff_ne, Bool.not_eq_true, Bool.not_eq_false, Bool.not_eq_true', Bool.not_eq_false', ne_eq] at h1
    refine awp_skip ?_
    refine awp_seq ?_
    refine awp_block ?_
    refine awp_seq ?_
    refine awp_rw rfl ?_
    refine RW.op rfl rfl (eff_indexAddr rfl rfl te26 rfl rfl rfl rfl rfl rfl (by omega)) ?_
    refine RW.op rfl rfl (eff_load (y := .t (encI l[i])) rfl rfl ti3 rfl (.one rfl rfl (by simp only [Nat.zero_add, List.getElem?_map, List.getElem?_eq_getElem (show i < l.length by omega)]; rfl) rfl)) ?_
    refine RW.op rfl rfl (eff_assign (v := .t _) rfl rfl rfl) ?_
    refine RW.nil ?_
    refine awp_seq ?_
    refine awp_rw rfl ?_
    refine RW.op rfl rfl (eff_move (v := .t _) rfl rfl rfl) ?_
    refine RW.op rfl rfl (eff_move (v := .t _) rfl rfl rfl) ?_
    refine RW.op rfl rfl (eff_iop rfl rfl rfl rfl rfl) ?_
    refine RW.nil ?_
    refine awp_cond rfl (fun h2 => ?_) (fun h2 => ?_)
    · try simp only [decide_eq_true_eq, decide_eq_false_iff_not, beq_iff_eq, bne_iff_ne, bne_eq_false_iff_eq, beq_eq_false_iff_ne, Bool.not_eq_true, Bool.not_eq_false, Bool.not_eq_true', Bool.not_eq_false', ne_eq] at h2
      refine awp_seq ?_
      refine awp_rw rfl ?_
      refine RW.op rfl rfl (eff_move (v := .t _) rfl rfl rfl) ?_
      refine RW.op rfl rfl (eff_assign (v := .t _) rfl rfl rfl) ?_
      refine RW.nil ?_
      refine awp_ret ?_
      have horE : orI l = l[i] := orI_hit (by omega) ha h2
      refine ⟨Or.inr rfl, [_], [.t (encI (orI l))], ⟨.tmp rfl, trivial⟩, rfl, Weak.trans (weak_raise (id := 0) 1 rfl (by decide)) ?_, rfl⟩
      exact weak_keep ⟨by first | rfl | (rw [horE]; rfl), rfl, trivial⟩ ⟨rfl, okE_t, trivial⟩
    · try simp only [decide_eq_true_eq, decide_eq_false_iff_not, beq_iff_eq, bne_iff_ne, bne_eq_false_iff_eq, beq_eq_false_iff_ne, Bool.not_eq_true, Bool.not_eq_false, Bool.not_eq_true', Bool.not_eq_false', ne_eq] at h2
      refine awp_skip ?_
      refine awp_rw rfl ?_
      refine RW.op rfl rfl (eff_iop rfl rfl rfl rfl (iadd (by omega))) ?_
      refine RW.op rfl rfl (eff_move (v := .t _) rfl rfl rfl) ?_
      refine RW.nil ?_
      refine ⟨_, ?_, _, weak_keep (n := 18) (fr' := [(3, .t (encI 0)), (6, .own 0 0 0 l.length), (7, .t (encI l.length)), (8, .t (encI ((i + 1) : Nat)))]) (st' := [(0, some ⟨1, 3, 0, (l.map encI).map .t⟩)]) ⟨rfl, rfl, rfl, rfl, rfl, rfl, rfl, rfl, trivial⟩ ⟨rfl, okE_t, trivial⟩, i + 1, (by omega), (by intro y hy; rcases (mem_take_succ (by omega)).1 hy with h | h; exact ha y h; rw [h]; exact h2), rfl, rfl⟩
      omega
  · try simp only [decide_eq_true_eq, decide_eq_false_iff_not, beq_iff_eq, bne_iff_ne, bne_eq_false_iff_eq, beq_eq_false_iff_ne, Bool.not_eq_true, Bool.not_eq_false, Bool.not_eq_true', Bool.not_eq_false', ne_eq] at h1
    refine awp_exit ?_
    refine awp_seq ?_
    refine awp_rw rfl ?_
    refine RW.op rfl rfl (eff_move (v := .t _) rfl rfl rfl) ?_
    refine RW.op rfl rfl (eff_assign (v := .t _) rfl rfl rfl) ?_
    refine RW.nil ?_
    refine awp_ret ?_
    have hi2 : i = l.length := by omega
    subst hi2
    rw [List.take_length] at ha
    have horE : orI l = 0 := orI_none ha
    refine ⟨Or.inr rfl, [_], [.t (encI (orI l))], ⟨.tmp rfl, trivial⟩, rfl, Weak.trans (weak_raise (id := 0) 1 rfl (by decide)) ?_, rfl⟩
    exact weak_keep ⟨by first | rfl | (rw [horE]; rfl), rfl, trivial⟩ ⟨rfl, okE_t, trivial⟩

theorem compare_ret (a b : Rep) : Ret Tryd.prog 66 [encR a, encR b] (encI (cmpR a b)) := by
  refine ret_of_awp Tryd.func66 rfl (Nat.le_of_ble_eq_true rfl) ?_
  refine awp_seq ?_
  refine awp_rw rfl ?_
  refine RW.new rfl rfl (eff_boxK (v := .t _) (k := 4) (id := 2) rfl rfl rfl rfl rfl rfl) ?_
  refine RW.new rfl rfl (eff_boxK (v := .t _) (k := 4) (id := 3) rfl rfl rfl rfl rfl rfl) ?_
  refine RW.op rfl rfl (eff_assign (v := .t _) rfl rfl rfl) ?_
  refine RW.nil ?_
  refine awp_seq ?_
  refine awp_rw rfl ?_
  refine RW.op rfl rfl (eff_assign (v := .t _) rfl rfl rfl) ?_
  refine RW.nil ?_
  refine awp_seq ?_
  refine awp_rd [(some 6, []), (some 7, []), (some 8, []), (some 9, []), (some 10, []), (some 11, []), (some 12, []), (some 13, []), (some 14, []), (some 15, []), (some 16, []), (some 17, []), (some 18, []), (some 19, []), (some 20, []), (some 21, []), (some 22, []), (some 23, []), (some 24, []), (some 25, []), (some 26, []), (some 27, []), (some 28, []), (some 29, []), (some 30, [30]), (some 31, [30]), (some 4, [])] [[], [0], [], [2], [0, 1, 2, 3], [], [5], [], [7], [0, 1, 2, 3, 4, 5, 6, 7, 8], [], [10], [], [12], [0, 1, 2, 3, 4, 5, 6, 7, 8, 9, 10, 11, 12, 13], [], [], [16], [0, 1, 2, 3, 4, 5, 6, 7, 8, 9, 10, 11, 12, 13, 14, 15, 16, 17], [], [], [20], [0, 1, 2, 3, 4, 5, 6, 7, 8, 9, 10, 11, 12, 13, 14, 15, 16, 17, 18, 19, 20, 21], [0, 1, 2, 3, 4, 5, 6, 7, 8, 9, 10, 11, 12, 13, 14, 15, 16, 17, 18, 19, 20, 21, 22], [0, 1, 2, 3, 4, 5, 6, 7, 8, 9, 10, 11, 12, 13, 14, 15, 16, 17, 18, 19, 20, 21, 22, 23], [0, 1, 2, 3, 4, 5, 6, 7, 8, 9, 10, 11, 12, 13, 14, 15, 16, 17, 18, 19, 20, 21, 22, 23, 24], [0, 1, 2, 3, 4, 5, 6, 7, 8, 9, 10, 11, 12, 13, 14, 15, 16, 17, 18, 19, 20, 21, 22, 23, 24, 25]] tm rfl rfl rfl rfl ?_
  refine RD.op rfl rfl rfl (eff_fieldAddr rfl rfl tf23_0 (by decide) rfl rfl rfl (Nat.le_of_ble_eq_true rfl)) ?_
  refine RD.op rfl rfl rfl (eff_load (y := .t _) rfl rfl ti3 rfl (.one rfl rfl rfl rfl)) ?_
  refine RD.op rfl rfl rfl (eff_fieldAddr rfl rfl tf23_0 (by decide) rfl rfl rfl (Nat.le_of_ble_eq_true rfl)) ?_
  refine RD.op rfl rfl rfl (eff_load (y := .t _) rfl rfl ti3 rfl (.one rfl rfl rfl rfl)) ?_
  refine RD.op rfl rfl rfl (eff_callT (cmp_ret _ _) co82 rfl rfl rfl rfl) ?_
  refine RD.op rfl rfl rfl (eff_fieldAddr rfl rfl tf23_1 (by decide) rfl rfl rfl (Nat.le_of_ble_eq_true rfl)) ?_
  refine RD.op rfl rfl rfl (eff_load (y := .t _) rfl rfl ti3 rfl (.one rfl rfl rfl rfl)) ?_
  refine RD.op rfl rfl rfl (eff_fieldAddr rfl rfl tf23_1 (by decide) rfl rfl rfl (Nat.le_of_ble_eq_true rfl)) ?_
  refine RD.op rfl rfl rfl (eff_load (y := .t _) rfl rfl ti3 rfl (.one rfl rfl rfl rfl)) ?_
  refine RD.op rfl rfl rfl (eff_callT (cmp_ret _ _) co82 rfl rfl rfl rfl) ?_
  refine RD.op rfl rfl rfl (eff_fieldAddr rfl rfl tf23_2 (by decide) rfl rfl rfl (Nat.le_of_ble_eq_true rfl)) ?_
  refine RD.op rfl rfl rfl (eff_load (y := .t _) rfl rfl ti3 rfl (.one rfl rfl rfl rfl)) ?_
  refine RD.op rfl rfl rfl (eff_fieldAddr rfl rfl tf23_2 (by decide) rfl rfl rfl (Nat.le_of_ble_eq_true rfl)) ?_
  refine RD.op rfl rfl rfl (eff_load (y := .t _) rfl rfl ti3 rfl (.one rfl rfl rfl rfl)) ?_
  refine RD.op rfl rfl rfl (eff_callT (cmp_ret _ _) co82 rfl rfl rfl rfl) ?_
  refine RD.op rfl rfl rfl (eff_move (v := .t _) rfl rfl rfl) ?_
  refine RD.op rfl rfl rfl (eff_fieldAddr rfl rfl tf23_3 (by decide) rfl rfl rfl (Nat.le_of_ble_eq_true rfl)) ?_
  refine RD.op rfl rfl rfl (eff_load (y := .t _) rfl rfl ti4 rfl (.one rfl rfl rfl rfl)) ?_
  refine RD.op rfl rfl rfl (eff_callT (flag_ret _) co80 rfl rfl rfl rfl) ?_
  refine RD.op rfl rfl rfl (eff_move (v := .t _) rfl rfl rfl) ?_
  refine RD.op rfl rfl rfl (eff_fieldAddr rfl rfl tf23_3 (by decide) rfl rfl rfl (Nat.le_of_ble_eq_true rfl)) ?_
  refine RD.op rfl rfl rfl (eff_load (y := .t _) rfl rfl ti4 rfl (.one rfl rfl rfl rfl)) ?_
  refine RD.op rfl rfl rfl (eff_callT (flag_ret _) co80 rfl rfl rfl rfl) ?_
  refine RD.op rfl rfl rfl (eff_callT (cmp_ret _ _) co82 rfl rfl rfl rfl) ?_
  refine RD.new rfl rfl rfl (eff_buildSlice1 (id := 30) (els := [_, _, _, _]) rfl rfl te26 tz3 rfl (by decide) rfl rfl rfl rfl) ?_
  refine RD.new rfl rfl rfl (eff_callG (or_retG [cmpI a.next b.next, cmpI a.have_ b.have_, cmpI a.key b.key, cmpI (flag a.locked) (flag b.locked)] (Nat.le_of_ble_eq_true rfl)) co81 (fun id => id + 30) rfl rfl rfl ⟨.own _ _ _ _ rfl rfl, trivial⟩ (.t _) rfl ⟨⟨rfl, treeEls_t, ⟨_, rfl, Nat.le_of_ble_eq_true rfl⟩⟩, trivial⟩ ⟨⟨treeEls_t, .inl rfl⟩, trivial⟩) ?_
  refine RD.op rfl rfl rfl (eff_assign (v := .t _) rfl rfl rfl) ?_
  refine RD.nil ?_
  refine awp_ret ?_
  first
    | exact ⟨Or.inr rfl, [_], ⟨.tmp (.t _), trivial⟩, .refl _⟩
    | exact ⟨Or.inr rfl, [_], ⟨.tmp (.t _), trivial⟩, (by repeat' first | exact trivial | exact Wk.refl _ | exact Wk.sl _ | refine And.intro ?_ ?_ | refine Wk.tupP ?_ | refine Wk.aggP ?_)⟩
    | exact ⟨Or.inr rfl, [_], ⟨.tmp (Res.ownT rfl rfl rfl rfl), trivial⟩, .refl _⟩
    | exact ⟨Or.inr rfl, [_], ⟨.tmp (Res.ownT rfl rfl rfl rfl), trivial⟩, (by repeat' first | exact trivial | exact Wk.refl _ | exact Wk.sl _ | refine And.intro ?_ ?_ | refine Wk.tupP ?_ | refine Wk.aggP ?_)⟩

end Go.Tv.C34

end
section
open Go Go.Tv Go.Proofs
namespace Go.Tv.C34
set_option maxRecDepth 20000
set_option maxHeartbeats 2000000
set_option linter.unusedSimpArgs false
set_option linter.unusedVariables false
theorem has_ret (l : List Rep) (r : Rep) (hl : l.length ≤ 1000000) : Ret Tryd.prog 28 [.sl (l.map encR) false, encR r] (.bool (decide (r ∈ l))) := by
  refine ret_of_awp Tryd.func28 rfl (Nat.le_of_ble_eq_true rfl) ?_
  refine awp_seq ?_
  refine awp_rw rfl ?_
  refine RW.new rfl rfl (eff_boxK (v := .t _) (k := 4) (id := 3) rfl rfl rfl rfl rfl rfl) ?_
  refine RW.op rfl rfl (eff_assign (v := .t _) rfl rfl rfl) ?_
  refine RW.nil ?_
  refine awp_seq ?_
  refine awp_seq ?_
  refine awp_rw rfl ?_
  refine RW.op rfl rfl (eff_assign (v := .t _) rfl rfl rfl) ?_
  refine RW.nil ?_
  refine awp_block ?_
  refine awp_loopW (fun m s => ∃ (i : Nat), (i ≤ l.length) ∧ (∀ y, y ∈ l.take i → y ≠ r) ∧ m = l.length - i ∧ s = ⟨18, [(0, .t (.sl (l.map encR) false)), (3, .ptr 3 0 0 0), (5, .t (encI (i : Nat)))], [(3, some ⟨4, 23, 0, [.t (encR r)]⟩)]⟩) (_) (⟨_, weak_keep (n := 18) (fr' := [(0, .t (.sl (l.map encR) false)), (3, .ptr 3 0 0 0), (5, .t (encI (0 : Nat)))]) (st' := [(3, some ⟨4, 23, 0, [.t (encR r)]⟩)]) ⟨rfl, rfl, rfl, rfl, rfl, rfl, trivial⟩ ⟨rfl, okE_one rfl, trivial⟩, 0, (by omega), (by simp), rfl, rfl⟩) ?_
  rintro m s ⟨i, hi, ha, rfl, rfl⟩
  refine awp_seq ?_
  refine awp_seq ?_
  refine awp_rw rfl ?_
  refine RW.op rfl rfl (eff_move (v := .t _) rfl rfl rfl) ?_
  refine RW.op rfl rfl (eff_move (v := .t _) rfl rfl rfl) ?_
  refine RW.op rfl rfl (eff_lenM rfl rfl te35 rfl) ?_
  refine RW.op rfl rfl (eff_iop rfl rfl rfl rfl rfl) ?_
  refine RW.nil ?_
  refine awp_cond rfl (fun h1 => ?_) (fun h1 => ?_)
  · try simp only [decide_eq_true_eq, decide_eq_false_iff_not, beq_iff_eq, bne_iff_ne, bne_eq_false_iff_eq, beq_eq_false_iff_ne, Bool.not_eq_true, Bool.not_eq_false, Bool.not_eq_true', Bool.not_eq_false', ne_eq] at h1
    refine awp_skip ?_
    refine awp_seq ?_
    refine awp_block ?_
    refine awp_seq ?_
    refine awp_rd [(some 12, []), (some 13, []), (some 14, []), (some 15, []), (some 16, []), (some 17, [])] [[], [], [0, 1], [0, 1, 2], [], [0, 1, 2, 3, 4]] tm rfl rfl rfl rfl ?_
    refine RD.op rfl rfl rfl (eff_move (v := .t _) rfl rfl rfl) ?_
    refine RD.op rfl rfl rfl (eff_move (v := .t _) rfl rfl rfl) ?_
    refine RD.op rfl rfl rfl (eff_indexM rfl rfl te35 rfl rfl rfl (by first | assumption | exact List.getElem?_eq_getElem (by omega)) rfl (by decide)) ?_
    refine RD.op rfl rfl rfl (eff_loadW rfl rfl ti23 rfl rfl rfl) ?_
    refine RD.op rfl rfl rfl (eff_load rfl rfl ti23 rfl (.whole rfl rfl rfl rfl rfl rfl)) ?_
    refine RD.op rfl rfl rfl (eff_structEqlA (cells := cellsR) (a := l[i]) (b := r) rfl rfl ts23s ti23 th23 cellsR_inj cellsR_kind rfl rfl) ?_
    refine RD.nil ?_
    refine awp_cond rfl (fun h2 => ?_) (fun h2 => ?_)
    · try simp only [decide_eq_true_eq, decide_eq_false_iff_not, beq_iff_eq, bne_iff_ne, bne_eq_false_iff_eq, beq_eq_false_iff_ne, Bool.not_eq_true, Bool.not_eq_false, Bool.not_eq_true', Bool.not_eq_false', ne_eq] at h2
      refine awp_seq ?_
      refine awp_rw rfl ?_
      refine RW.op rfl rfl (eff_assign (v := .t _) rfl rfl rfl) ?_
      refine RW.nil ?_
      refine awp_ret ?_
      rw [show decide (r ∈ l) = true from decide_eq_true (by rw [← h2]; exact List.getElem_mem _)]
      exact ⟨Or.inr rfl, [_], ⟨.tmp (.t _), trivial⟩, .refl _⟩
    · try simp only [decide_eq_true_eq, decide_eq_false_iff_not, beq_iff_eq, bne_iff_ne, bne_eq_false_iff_eq, beq_eq_false_iff_ne, Bool.not_eq_true, Bool.not_eq_false, Bool.not_eq_true', Bool.not_eq_false', ne_eq] at h2
      refine awp_skip ?_
      refine awp_rw rfl ?_
      refine RW.op rfl rfl (eff_move (v := .t _) rfl rfl rfl) ?_
      refine RW.op rfl rfl (eff_iop rfl rfl rfl rfl (iadd (by omega))) ?_
      refine RW.op rfl rfl (eff_assign (v := .t _) rfl rfl rfl) ?_
      refine RW.nil ?_
      refine ⟨_, ?_, _, weak_keep (n := 18) (fr' := [(0, .t (.sl (l.map encR) false)), (3, .ptr 3 0 0 0), (5, .t (encI ((i + 1) : Nat)))]) (st' := [(3, some ⟨4, 23, 0, [.t (encR r)]⟩)]) ⟨rfl, rfl, rfl, rfl, rfl, rfl, trivial⟩ ⟨rfl, okE_one rfl, trivial⟩, i + 1, (by omega), (by intro y hy; rcases (mem_take_succ (by omega)).1 hy with h | h; exact ha y h; rw [h]; exact h2), rfl, rfl⟩
      omega
  · try simp only [decide_eq_true_eq, decide_eq_false_iff_not, beq_iff_eq, bne_iff_ne, bne_eq_false_iff_eq, beq_eq_false_iff_ne, Bool.not_eq_true, Bool.not_eq_false, Bool.not_eq_true', Bool.not_eq_false', ne_eq] at h1
    refine awp_exit ?_
    refine awp_seq ?_
    refine awp_rw rfl ?_
    refine RW.op rfl rfl (eff_assign (v := .t _) rfl rfl rfl) ?_
    refine RW.nil ?_
    refine awp_ret ?_
    have hi2 : i = l.length := by omega
    subst hi2
    rw [List.take_length] at ha
    rw [show decide (r ∈ l) = false from decide_eq_false (fun h => ha r h rfl)]
    exact ⟨Or.inr rfl, [_], ⟨.tmp (.t _), trivial⟩, .refl _⟩

theorem sameStates_ret (l : List Rep) (hl : l.length ≤ 1000000) : Ret Tryd.prog 25 [.sl (l.map encR) false, .sl (l.map encR) false] (.bool true) := by
  refine ret_of_awp Tryd.func25 rfl (Nat.le_of_ble_eq_true rfl) ?_
  refine awp_seq ?_
  refine awp_rw rfl ?_
  refine RW.op rfl rfl (eff_assign (v := .t _) rfl rfl rfl) ?_
  refine RW.nil ?_
  refine awp_seq ?_
  refine awp_seq ?_
  refine awp_rw rfl ?_
  refine RW.op rfl rfl (eff_move (v := .t _) rfl rfl rfl) ?_
  refine RW.op rfl rfl (eff_lenM rfl rfl te35 rfl) ?_
  refine RW.op rfl rfl (eff_move (v := .t _) rfl rfl rfl) ?_
  refine RW.op rfl rfl (eff_lenM rfl rfl te35 rfl) ?_
  refine RW.op rfl rfl (eff_iop (r := .bool false) rfl rfl rfl rfl (by simp [iop])) ?_
  refine RW.nil ?_
  refine awp_cond rfl (fun h => nomatch h) (fun _ => ?_)
  refine awp_skip ?_
  refine awp_seq ?_
  refine awp_seq ?_
  refine awp_rw rfl ?_
  refine RW.op rfl rfl (eff_assign (v := .t _) rfl rfl rfl) ?_
  refine RW.nil ?_
  refine awp_block ?_
  refine awp_loopW (fun m s => ∃ (i : Nat), (i ≤ l.length) ∧ m = l.length - i ∧ s = ⟨26, [(0, .t (.sl (l.map encR) false)), (1, .t (.sl (l.map encR) false)), (5, .t (encI (i : Nat)))], []⟩) (_) (⟨_, weak_keep (n := 26) (fr' := [(0, .t (.sl (l.map encR) false)), (1, .t (.sl (l.map encR) false)), (5, .t (encI (0 : Nat)))]) (st' := []) ⟨rfl, rfl, rfl, rfl, rfl, rfl, trivial⟩ trivial, 0, (by omega), rfl, rfl⟩) ?_
  rintro m s ⟨i, hi, rfl, rfl⟩
  refine awp_seq ?_
  refine awp_seq ?_
  refine awp_rw rfl ?_
  refine RW.op rfl rfl (eff_move (v := .t _) rfl rfl rfl) ?_
  refine RW.op rfl rfl (eff_move (v := .t _) rfl rfl rfl) ?_
  refine RW.op rfl rfl (eff_lenM rfl rfl te35 rfl) ?_
  refine RW.op rfl rfl (eff_iop rfl rfl rfl rfl rfl) ?_
  refine RW.nil ?_
  refine awp_cond rfl (fun h1 => ?_) (fun h1 => ?_)
  · try simp only [decide_eq_true_eq, decide_eq_false_iff_not, beq_iff_eq, bne_iff_ne, bne_eq_false_iff_eq, beq_eq_false_iff_ne, Bool.not_eq_true, Bool.not_eq_false, Bool.not_eq_true', Bool.not_eq_false', ne_eq] at h1
    refine awp_skip ?_
    refine awp_seq ?_
    refine awp_block ?_
    refine awp_seq ?_
    refine awp_rd [(some 17, []), (some 18, []), (some 19, []), (some 20, []), (some 21, []), (some 22, []), (some 23, []), (some 24, []), (some 25, [])] [[], [], [0, 1], [0, 1, 2], [], [], [4, 5], [4, 5, 6], [0, 1, 2, 3, 4, 5, 6, 7]] tm rfl rfl rfl rfl ?_
    refine RD.op rfl rfl rfl (eff_move (v := .t _) rfl rfl rfl) ?_
    refine RD.op rfl rfl rfl (eff_move (v := .t _) rfl rfl rfl) ?_
    refine RD.op rfl rfl rfl (eff_indexM rfl rfl te35 rfl rfl rfl (by first | assumption | exact List.getElem?_eq_getElem (by omega)) rfl (by decide)) ?_
    refine RD.op rfl rfl rfl (eff_loadW rfl rfl ti23 rfl rfl rfl) ?_
    refine RD.op rfl rfl rfl (eff_move (v := .t _) rfl rfl rfl) ?_
    refine RD.op rfl rfl rfl (eff_move (v := .t _) rfl rfl rfl) ?_
    refine RD.op rfl rfl rfl (eff_indexM rfl rfl te35 rfl rfl rfl (by first | assumption | exact List.getElem?_eq_getElem (by omega)) rfl (by decide)) ?_
    refine RD.op rfl rfl rfl (eff_loadW rfl rfl ti23 rfl rfl rfl) ?_
    refine RD.op rfl rfl rfl (eff_structNeqA (cells := cellsR) (a := l[i]) (b := l[i]) rfl rfl ts23s ti23 th23 cellsR_inj cellsR_kind rfl rfl) ?_
    refine RD.nil ?_
    refine awp_cond rfl (fun h2 => ?_) (fun h2 => ?_)
    · try simp only [decide_eq_true_eq, decide_eq_false_iff_not, beq_iff_eq, bne_iff_ne, bne_eq_false_iff_eq, beq_eq_false_iff_ne, Bool.not_eq_true, Bool.not_eq_false, Bool.not_eq_true', Bool.not_eq_false', ne_eq] at h2
      refine awp_seq ?_
      refine awp_rw rfl ?_
      refine RW.op rfl rfl (eff_assign (v := .t _) rfl rfl rfl) ?_
      refine RW.nil ?_
      refine awp_ret ?_
      exact absurd trivial h2
    · try simp only [decide_eq_true_eq, decide_eq_false_iff_not, beq_iff_eq, bne_iff_ne, bne_eq_false_iff_eq, beq_eq_false_iff_ne, Bool.not_eq_true, Bool.not_eq_false, Bool.not_eq_true', Bool.not_eq_false', ne_eq] at h2
      refine awp_skip ?_
      refine awp_rw rfl ?_
      refine RW.op rfl rfl (eff_move (v := .t _) rfl rfl rfl) ?_
      refine RW.op rfl rfl (eff_iop rfl rfl rfl rfl (iadd (by omega))) ?_
      refine RW.op rfl rfl (eff_assign (v := .t _) rfl rfl rfl) ?_
      refine RW.nil ?_
      refine ⟨_, ?_, _, weak_keep (n := 26) (fr' := [(0, .t (.sl (l.map encR) false)), (1, .t (.sl (l.map encR) false)), (5, .t (encI ((i + 1) : Nat)))]) (st' := []) ⟨rfl, rfl, rfl, rfl, rfl, rfl, trivial⟩ trivial, i + 1, (by omega), rfl, rfl⟩
      omega
  · try simp only [decide_eq_true_eq, decide_eq_false_iff_not, beq_iff_eq, bne_iff_ne, bne_eq_false_iff_eq, beq_eq_false_iff_ne, Bool.not_eq_true, Bool.not_eq_false, Bool.not_eq_true', Bool.not_eq_false', ne_eq] at h1
    refine awp_exit ?_
    refine awp_seq ?_
    refine awp_rw rfl ?_
    refine RW.op rfl rfl (eff_assign (v := .t _) rfl rfl rfl) ?_
    refine RW.nil ?_
    refine awp_ret ?_
    first
      | exact ⟨Or.inr rfl, [_], ⟨.tmp (.t _), trivial⟩, .refl _⟩
      | exact ⟨Or.inr rfl, [_], ⟨.tmp (.t _), trivial⟩, (by repeat' first | exact trivial | exact Wk.refl _ | exact Wk.sl _ | refine And.intro ?_ ?_ | refine Wk.tupP ?_ | refine Wk.aggP ?_)⟩
      | exact ⟨Or.inr rfl, [_], ⟨.tmp (Res.ownT rfl rfl rfl rfl), trivial⟩, .refl _⟩
      | exact ⟨Or.inr rfl, [_], ⟨.tmp (Res.ownT rfl rfl rfl rfl), trivial⟩, (by repeat' first | exact trivial | exact Wk.refl _ | exact Wk.sl _ | refine And.intro ?_ ?_ | refine Wk.tupP ?_ | refine Wk.aggP ?_)⟩

theorem sameBytes_ret (d : List Int) : Ret Tryd.prog 67 [.sl (d.map encBy) false, .sl (d.map encBy) false] (.bool true) := by
  refine ret_of_awp Tryd.func67 rfl (Nat.le_of_ble_eq_true rfl) ?_
  refine awp_seq ?_
  refine awp_rw rfl ?_
  refine RW.op rfl rfl (eff_assign (v := .t _) rfl rfl rfl) ?_
  refine RW.nil ?_
  refine awp_seq ?_
  refine awp_rw rfl ?_
  refine RW.op rfl rfl (eff_move (v := .t _) rfl rfl rfl) ?_
  refine RW.op rfl rfl (eff_convBytes rfl rfl te27 tu5 ts9 rfl) ?_
  refine RW.op rfl rfl (eff_move (v := .t _) rfl rfl rfl) ?_
  refine RW.op rfl rfl (eff_convBytes rfl rfl te27 tu5 ts9 rfl) ?_
  refine RW.op rfl rfl (eff_strEq rfl rfl (.inl rfl) rfl rfl rfl) ?_
  refine RW.op rfl rfl (eff_assign (v := .t _) rfl rfl rfl) ?_
  refine RW.nil ?_
  refine awp_ret ?_
  exact ⟨Or.inr rfl, [_], ⟨.tmp (.t _), trivial⟩, (by simp; exact .refl _)⟩

theorem sameFrame_ret (f : Frm) : Ret Tryd.prog 49 [encF f, encF f] (.bool true) := by
  refine ret_of_awp Tryd.func49 rfl (Nat.le_of_ble_eq_true rfl) ?_
  refine awp_seq ?_
  refine awp_rw rfl ?_
  refine RW.new rfl rfl (eff_boxK (v := .t _) (k := 5) (id := 2) rfl rfl rfl rfl rfl rfl) ?_
  refine RW.new rfl rfl (eff_boxK (v := .t _) (k := 5) (id := 3) rfl rfl rfl rfl rfl rfl) ?_
  refine RW.op rfl rfl (eff_assign (v := .t _) rfl rfl rfl) ?_
  refine RW.nil ?_
  refine awp_seq ?_
  refine awp_rw rfl ?_
  refine RW.op rfl rfl (eff_fieldAddr rfl rfl tf30_0 (by decide) rfl rfl rfl (Nat.le_of_ble_eq_true rfl)) ?_
  refine RW.op rfl rfl (eff_load (y := .t _) rfl rfl ti3 rfl (.one rfl rfl rfl rfl)) ?_
  refine RW.op rfl rfl (eff_fieldAddr rfl rfl tf30_0 (by decide) rfl rfl rfl (Nat.le_of_ble_eq_true rfl)) ?_
  refine RW.op rfl rfl (eff_load (y := .t _) rfl rfl ti3 rfl (.one rfl rfl rfl rfl)) ?_
  refine RW.op rfl rfl (eff_iop (r := .bool true) rfl rfl rfl rfl (by simp [iop])) ?_
  refine RW.op rfl rfl (eff_move (v := .t _) rfl rfl rfl) ?_
  refine RW.gop rfl rfl rfl rfl rfl rfl (eff_fieldAddr rfl rfl tf30_1 (by decide) rfl rfl rfl (Nat.le_of_ble_eq_true rfl)) ?_
  refine RW.gop rfl rfl rfl rfl rfl rfl (eff_load (y := .t _) rfl rfl ti3 rfl (.one rfl rfl rfl rfl)) ?_
  refine RW.gop rfl rfl rfl rfl rfl rfl (eff_fieldAddr rfl rfl tf30_1 (by decide) rfl rfl rfl (Nat.le_of_ble_eq_true rfl)) ?_
  refine RW.gop rfl rfl rfl rfl rfl rfl (eff_load (y := .t _) rfl rfl ti3 rfl (.one rfl rfl rfl rfl)) ?_
  refine RW.gop rfl rfl rfl rfl rfl rfl (eff_iop (r := .bool true) rfl rfl rfl rfl (by simp [iop])) ?_
  refine RW.op rfl rfl (eff_pick (v := .t _) rfl rfl rfl rfl) ?_
  refine RW.op rfl rfl (eff_move (v := .t _) rfl rfl rfl) ?_
  refine RW.gop rfl rfl rfl rfl rfl rfl (eff_fieldAddr rfl rfl tf30_2 (by decide) rfl rfl rfl (Nat.le_of_ble_eq_true rfl)) ?_
  refine RW.gop rfl rfl rfl rfl rfl rfl (eff_load (y := .t _) rfl rfl ti4 rfl (.one rfl rfl rfl rfl)) ?_
  refine RW.gop rfl rfl rfl rfl rfl rfl (eff_fieldAddr rfl rfl tf30_2 (by decide) rfl rfl rfl (Nat.le_of_ble_eq_true rfl)) ?_
  refine RW.gop rfl rfl rfl rfl rfl rfl (eff_load (y := .t _) rfl rfl ti4 rfl (.one rfl rfl rfl rfl)) ?_
  refine RW.gop rfl rfl rfl rfl rfl rfl (eff_boolEq (b := true) rfl rfl (.inl rfl) tu4 rfl rfl (by simp)) ?_
  refine RW.op rfl rfl (eff_pick (v := .t _) rfl rfl rfl rfl) ?_
  refine RW.op rfl rfl (eff_move (v := .t _) rfl rfl rfl) ?_
  refine RW.gop rfl rfl rfl rfl rfl rfl (eff_fieldAddr rfl rfl tf30_4 (by decide) rfl rfl rfl (Nat.le_of_ble_eq_true rfl)) ?_
  refine RW.gop rfl rfl rfl rfl rfl rfl (eff_load (y := .t _) rfl rfl ti28 rfl (.one rfl rfl rfl rfl)) ?_
  refine RW.gop rfl rfl rfl rfl rfl rfl (eff_fieldAddr rfl rfl tf30_4 (by decide) rfl rfl rfl (Nat.le_of_ble_eq_true rfl)) ?_
  refine RW.gop rfl rfl rfl rfl rfl rfl (eff_load (y := .t _) rfl rfl ti28 rfl (.one rfl rfl rfl rfl)) ?_
  refine RW.gop rfl rfl rfl rfl rfl rfl (eff_iop (r := .bool true) rfl rfl rfl rfl (by simp [iop])) ?_
  refine RW.op rfl rfl (eff_pick (v := .t _) rfl rfl rfl rfl) ?_
  refine RW.op rfl rfl (eff_move (v := .t _) rfl rfl rfl) ?_
  refine RW.gop rfl rfl rfl rfl rfl rfl (eff_fieldAddr rfl rfl tf30_3 (by decide) rfl rfl rfl (Nat.le_of_ble_eq_true rfl)) ?_
  refine RW.gop rfl rfl rfl rfl rfl rfl (eff_load (y := .t _) rfl rfl ti27 rfl (.one rfl rfl rfl rfl)) ?_
  refine RW.gop rfl rfl rfl rfl rfl rfl (eff_fieldAddr rfl rfl tf30_3 (by decide) rfl rfl rfl (Nat.le_of_ble_eq_true rfl)) ?_
  refine RW.gop rfl rfl rfl rfl rfl rfl (eff_load (y := .t _) rfl rfl ti27 rfl (.one rfl rfl rfl rfl)) ?_
  refine RW.gop rfl rfl rfl rfl rfl rfl (eff_callT (sameBytes_ret _) co67 rfl rfl rfl rfl) ?_
  refine RW.op rfl rfl (eff_pick (v := .t _) rfl rfl rfl rfl) ?_
  refine RW.op rfl rfl (eff_assign (v := .t _) rfl rfl rfl) ?_
  refine RW.nil ?_
  refine awp_ret ?_
  first
    | exact ⟨Or.inr rfl, [_], ⟨.tmp (.t _), trivial⟩, .refl _⟩
    | exact ⟨Or.inr rfl, [_], ⟨.tmp (.t _), trivial⟩, (by repeat' first | exact trivial | exact Wk.refl _ | exact Wk.sl _ | refine And.intro ?_ ?_ | refine Wk.tupP ?_ | refine Wk.aggP ?_)⟩
    | exact ⟨Or.inr rfl, [_], ⟨.tmp (Res.ownT rfl rfl rfl rfl), trivial⟩, .refl _⟩
    | exact ⟨Or.inr rfl, [_], ⟨.tmp (Res.ownT rfl rfl rfl rfl), trivial⟩, (by repeat' first | exact trivial | exact Wk.refl _ | exact Wk.sl _ | refine And.intro ?_ ?_ | refine Wk.tupP ?_ | refine Wk.aggP ?_)⟩

theorem same_ret (t : Twn) (hs : t.sent.length ≤ 1000000) (hl : t.poss.length ≤ 1000000) : Ret Tryd.prog 24 [encT t, encT t] (.bool true) := by
  refine ret_of_awp Tryd.func24 rfl (Nat.le_of_ble_eq_true rfl) ?_
  refine awp_seq ?_
  refine awp_rw rfl ?_
  refine RW.new rfl rfl (eff_boxK (v := .t _) (k := 2) (id := 2) rfl rfl rfl rfl rfl rfl) ?_
  refine RW.new rfl rfl (eff_boxK (v := .t _) (k := 2) (id := 3) rfl rfl rfl rfl rfl rfl) ?_
  refine RW.op rfl rfl (eff_assign (v := .t _) rfl rfl rfl) ?_
  refine RW.nil ?_
  refine awp_seq ?_
  refine awp_seq ?_
  refine awp_rw rfl ?_
  refine RW.op rfl rfl (eff_fieldAddr rfl rfl tf37_0 (by decide) rfl rfl rfl (Nat.le_of_ble_eq_true rfl)) ?_
  refine RW.op rfl rfl (eff_load (y := .t _) rfl rfl ti34 rfl (.one rfl rfl rfl rfl)) ?_
  refine RW.op rfl rfl (eff_lenM rfl rfl te34 rfl) ?_
  refine RW.op rfl rfl (eff_fieldAddr rfl rfl tf37_0 (by decide) rfl rfl rfl (Nat.le_of_ble_eq_true rfl)) ?_
  refine RW.op rfl rfl (eff_load (y := .t _) rfl rfl ti34 rfl (.one rfl rfl rfl rfl)) ?_
  refine RW.op rfl rfl (eff_lenM rfl rfl te34 rfl) ?_
  refine RW.op rfl rfl (eff_iop (r := .bool false) rfl rfl rfl rfl (by simp [iop])) ?_
  refine RW.nil ?_
  refine awp_cond rfl (fun h => nomatch h) (fun _ => ?_)
  refine awp_skip ?_
  refine awp_seq ?_
  refine awp_seq ?_
  refine awp_rw rfl ?_
  refine RW.op rfl rfl (eff_assign (v := .t _) rfl rfl rfl) ?_
  refine RW.nil ?_
  refine awp_block ?_
  refine awp_loopW (fun m s => ∃ (i : Nat), (i ≤ t.sent.length) ∧ m = t.sent.length - i ∧ s = ⟨39, [(2, .ptr 2 0 0 0), (3, .ptr 3 0 0 0), (5, .t (encI (i : Nat)))], [(2, some ⟨2, 37, 0, [.t (encT t)]⟩), (3, some ⟨2, 37, 0, [.t (encT t)]⟩)]⟩) (_) (⟨_, weak_keep (n := 39) (fr' := [(2, .ptr 2 0 0 0), (3, .ptr 3 0 0 0), (5, .t (encI (0 : Nat)))]) (st' := [(2, some ⟨2, 37, 0, [.t (encT t)]⟩), (3, some ⟨2, 37, 0, [.t (encT t)]⟩)]) ⟨rfl, rfl, rfl, rfl, rfl, rfl, trivial⟩ ⟨rfl, okE_one rfl, rfl, okE_one rfl, trivial⟩, 0, (by omega), rfl, rfl⟩) ?_
  rintro m s ⟨i, hi, rfl, rfl⟩
  refine awp_seq ?_
  refine awp_seq ?_
  refine awp_rw rfl ?_
  refine RW.op rfl rfl (eff_move (v := .t _) rfl rfl rfl) ?_
  refine RW.op rfl rfl (eff_fieldAddr rfl rfl tf37_0 (by decide) rfl rfl rfl (Nat.le_of_ble_eq_true rfl)) ?_
  refine RW.op rfl rfl (eff_load (y := .t _) rfl rfl ti34 rfl (.one rfl rfl rfl rfl)) ?_
  refine RW.op rfl rfl (eff_lenM rfl rfl te34 rfl) ?_
  refine RW.op rfl rfl (eff_iop rfl rfl rfl rfl rfl) ?_
  refine RW.nil ?_
  refine awp_cond rfl (fun h1 => ?_) (fun h1 => ?_)
  · try simp only [decide_eq_true_eq, decide_eq_false_iff_not, beq_iff_eq, bne_iff_ne, bne_eq_false_iff_eq, beq_eq_false_iff_ne, Bool.not_eq_true, Bool.not_eq_false, Bool.not_eq_true', Bool.not_eq_false', ne_eq] at h1
    refine awp_skip ?_
    refine awp_seq ?_
    refine awp_block ?_
    refine awp_seq ?_
    refine awp_rd [(some 21, []), (some 22, []), (some 23, []), (some 24, []), (some 25, []), (some 26, []), (some 27, []), (some 28, []), (some 29, []), (some 30, []), (some 31, []), (some 6, [])] [[], [0], [], [0, 1, 2], [0, 1, 2, 3], [], [5], [], [5, 6, 7], [5, 6, 7, 8], [0, 1, 2, 3, 4, 5, 6, 7, 8, 9], [0, 1, 2, 3, 4, 5, 6, 7, 8, 9, 10]] tm rfl rfl rfl rfl ?_
    refine RD.op rfl rfl rfl (eff_fieldAddr rfl rfl tf37_0 (by decide) rfl rfl rfl (Nat.le_of_ble_eq_true rfl)) ?_
    refine RD.op rfl rfl rfl (eff_load (y := .t _) rfl rfl ti34 rfl (.one rfl rfl rfl rfl)) ?_
    refine RD.op rfl rfl rfl (eff_move (v := .t _) rfl rfl rfl) ?_
    refine RD.op rfl rfl rfl (eff_indexM rfl rfl te34 rfl rfl rfl (by first | assumption | exact List.getElem?_eq_getElem (by omega)) rfl (by decide)) ?_
    refine RD.op rfl rfl rfl (eff_loadW rfl rfl ti30 rfl rfl rfl) ?_
    refine RD.op rfl rfl rfl (eff_fieldAddr rfl rfl tf37_0 (by decide) rfl rfl rfl (Nat.le_of_ble_eq_true rfl)) ?_
    refine RD.op rfl rfl rfl (eff_load (y := .t _) rfl rfl ti34 rfl (.one rfl rfl rfl rfl)) ?_
    refine RD.op rfl rfl rfl (eff_move (v := .t _) rfl rfl rfl) ?_
    refine RD.op rfl rfl rfl (eff_indexM rfl rfl te34 rfl rfl rfl (by first | assumption | exact List.getElem?_eq_getElem (by omega)) rfl (by decide)) ?_
    refine RD.op rfl rfl rfl (eff_loadW rfl rfl ti30 rfl rfl rfl) ?_
    refine RD.op rfl rfl rfl (eff_callT (sameFrame_ret _) co49 rfl rfl rfl rfl) ?_
    refine RD.op rfl rfl rfl (eff_assign (v := .t _) rfl rfl rfl) ?_
    refine RD.nil ?_
    refine awp_seq ?_
    refine awp_rw rfl ?_
    refine RW.op rfl rfl (eff_move (v := .t _) rfl rfl rfl) ?_
    refine RW.op rfl rfl (eff_unop rfl rfl rfl rfl) ?_
    refine RW.nil ?_
    refine awp_cond rfl (fun h => nomatch h) (fun _ => ?_)
    refine awp_skip ?_
    refine awp_rw rfl ?_
    refine RW.op rfl rfl (eff_move (v := .t _) rfl rfl rfl) ?_
    refine RW.op rfl rfl (eff_iop rfl rfl rfl rfl (iadd (by omega))) ?_
    refine RW.op rfl rfl (eff_assign (v := .t _) rfl rfl rfl) ?_
    refine RW.nil ?_
    refine ⟨_, ?_, _, weak_keep (n := 39) (fr' := [(2, .ptr 2 0 0 0), (3, .ptr 3 0 0 0), (5, .t (encI ((i + 1) : Nat)))]) (st' := [(2, some ⟨2, 37, 0, [.t (encT t)]⟩), (3, some ⟨2, 37, 0, [.t (encT t)]⟩)]) ⟨rfl, rfl, rfl, rfl, rfl, rfl, trivial⟩ ⟨rfl, okE_one rfl, rfl, okE_one rfl, trivial⟩, i + 1, (by omega), rfl, rfl⟩
    omega
  · try simp only [decide_eq_true_eq, decide_eq_false_iff_not, beq_iff_eq, bne_iff_ne, bne_eq_false_iff_eq, beq_eq_false_iff_ne, Bool.not_eq_true, Bool.not_eq_false, Bool.not_eq_true', Bool.not_eq_false', ne_eq] at h1
    refine awp_exit ?_
    refine awp_seq ?_
    refine awp_rw rfl ?_
    refine RW.op rfl rfl (eff_fieldAddr rfl rfl tf37_1 (by decide) rfl rfl rfl (Nat.le_of_ble_eq_true rfl)) ?_
    refine RW.op rfl rfl (eff_load (y := .t _) rfl rfl ti35 rfl (.one rfl rfl rfl rfl)) ?_
    refine RW.op rfl rfl (eff_fieldAddr rfl rfl tf37_1 (by decide) rfl rfl rfl (Nat.le_of_ble_eq_true rfl)) ?_
    refine RW.op rfl rfl (eff_load (y := .t _) rfl rfl ti35 rfl (.one rfl rfl rfl rfl)) ?_
    refine RW.op rfl rfl (eff_callT (sameStates_ret _ (by omega)) co25 rfl rfl rfl rfl) ?_
    refine RW.op rfl rfl (eff_assign (v := .t _) rfl rfl rfl) ?_
    refine RW.nil ?_
    refine awp_ret ?_
    first
      | exact ⟨Or.inr rfl, [_], ⟨.tmp (.t _), trivial⟩, .refl _⟩
      | exact ⟨Or.inr rfl, [_], ⟨.tmp (.t _), trivial⟩, (by repeat' first | exact trivial | exact Wk.refl _ | exact Wk.sl _ | refine And.intro ?_ ?_ | refine Wk.tupP ?_ | refine Wk.aggP ?_)⟩
      | exact ⟨Or.inr rfl, [_], ⟨.tmp (Res.ownT rfl rfl rfl rfl), trivial⟩, .refl _⟩
      | exact ⟨Or.inr rfl, [_], ⟨.tmp (Res.ownT rfl rfl rfl rfl), trivial⟩, (by repeat' first | exact trivial | exact Wk.refl _ | exact Wk.sl _ | refine And.intro ?_ ?_ | refine Wk.tupP ?_ | refine Wk.aggP ?_)⟩

theorem less_ret (a b : Rep) : Ret Tryd.prog 32 [encR a, encR b] (.bool (less a b)) := by
  refine ret_of_awp Tryd.func32 rfl (Nat.le_of_ble_eq_true rfl) ?_
  refine awp_seq ?_
  refine awp_rw rfl ?_
  refine RW.new rfl rfl (eff_boxK (v := .t _) (k := 4) (id := 2) rfl rfl rfl rfl rfl rfl) ?_
  refine RW.new rfl rfl (eff_boxK (v := .t _) (k := 4) (id := 3) rfl rfl rfl rfl rfl rfl) ?_
  refine RW.op rfl rfl (eff_assign (v := .t _) rfl rfl rfl) ?_
  refine RW.nil ?_
  refine awp_seq ?_
  refine awp_seq ?_
  refine awp_rw rfl ?_
  refine RW.op rfl rfl (eff_fieldAddr rfl rfl tf23_0 (by decide) rfl rfl rfl (Nat.le_of_ble_eq_true rfl)) ?_
  refine RW.op rfl rfl (eff_load (y := .t _) rfl rfl ti3 rfl (.one rfl rfl rfl rfl)) ?_
  refine RW.op rfl rfl (eff_fieldAddr rfl rfl tf23_0 (by decide) rfl rfl rfl (Nat.le_of_ble_eq_true rfl)) ?_
  refine RW.op rfl rfl (eff_load (y := .t _) rfl rfl ti3 rfl (.one rfl rfl rfl rfl)) ?_
  refine RW.op rfl rfl (eff_iop rfl rfl rfl rfl rfl) ?_
  refine RW.nil ?_
  refine awp_cond rfl (fun h1 => ?_) (fun h1 => ?_)
  · try simp only [decide_eq_true_eq, decide_eq_false_iff_not, beq_iff_eq, bne_iff_ne, bne_eq_false_iff_eq, beq_eq_false_iff_ne, Bool.not_eq_true, Bool.not_eq_false, Bool.not_eq_true', Bool.not_eq_false', ne_eq] at h1
    refine awp_seq ?_
    refine awp_rw rfl ?_
    refine RW.op rfl rfl (eff_fieldAddr rfl rfl tf23_0 (by decide) rfl rfl rfl (Nat.le_of_ble_eq_true rfl)) ?_
    refine RW.op rfl rfl (eff_load (y := .t _) rfl rfl ti3 rfl (.one rfl rfl rfl rfl)) ?_
    refine RW.op rfl rfl (eff_fieldAddr rfl rfl tf23_0 (by decide) rfl rfl rfl (Nat.le_of_ble_eq_true rfl)) ?_
    refine RW.op rfl rfl (eff_load (y := .t _) rfl rfl ti3 rfl (.one rfl rfl rfl rfl)) ?_
    refine RW.op rfl rfl (eff_iop rfl rfl rfl rfl rfl) ?_
    refine RW.op rfl rfl (eff_assign (v := .t _) rfl rfl rfl) ?_
    refine RW.nil ?_
    refine awp_ret ?_
    first
      | (rw [show less a b = _ from less_next (by assumption)]; exact ⟨Or.inr rfl, [_], ⟨.tmp (.t _), trivial⟩, .refl _⟩)
      | (rw [show less a b = _ from less_have (by omega) (by assumption)]; exact ⟨Or.inr rfl, [_], ⟨.tmp (.t _), trivial⟩, .refl _⟩)
      | (rw [show less a b = _ from less_key (by omega) (by omega) (by assumption)]; exact ⟨Or.inr rfl, [_], ⟨.tmp (.t _), trivial⟩, .refl _⟩)
      | (rw [show less a b = _ from less_l1 (by omega) (by omega) (by omega) (by assumption)]; exact ⟨Or.inr rfl, [_], ⟨.tmp (.t _), trivial⟩, .refl _⟩)
      | (rw [show less a b = _ from less_l2 (by omega) (by omega) (by omega) (by assumption)]; exact ⟨Or.inr rfl, [_], ⟨.tmp (.t _), trivial⟩, .refl _⟩)
  · try simp only [decide_eq_true_eq, decide_eq_false_iff_not, beq_iff_eq, bne_iff_ne, bne_eq_false_iff_eq, beq_eq_false_iff_ne, Bool.not_eq_true, Bool.not_eq_false, Bool.not_eq_true', Bool.not_eq_false', ne_eq] at h1
    refine awp_skip ?_
    refine awp_seq ?_
    refine awp_seq ?_
    refine awp_rw rfl ?_
    refine RW.op rfl rfl (eff_fieldAddr rfl rfl tf23_1 (by decide) rfl rfl rfl (Nat.le_of_ble_eq_true rfl)) ?_
    refine RW.op rfl rfl (eff_load (y := .t _) rfl rfl ti3 rfl (.one rfl rfl rfl rfl)) ?_
    refine RW.op rfl rfl (eff_fieldAddr rfl rfl tf23_1 (by decide) rfl rfl rfl (Nat.le_of_ble_eq_true rfl)) ?_
    refine RW.op rfl rfl (eff_load (y := .t _) rfl rfl ti3 rfl (.one rfl rfl rfl rfl)) ?_
    refine RW.op rfl rfl (eff_iop rfl rfl rfl rfl rfl) ?_
    refine RW.nil ?_
    refine awp_cond rfl (fun h2 => ?_) (fun h2 => ?_)
    · try simp only [decide_eq_true_eq, decide_eq_false_iff_not, beq_iff_eq, bne_iff_ne, bne_eq_false_iff_eq, beq_eq_false_iff_ne, Bool.not_eq_true, Bool.not_eq_false, Bool.not_eq_true', Bool.not_eq_false', ne_eq] at h2
      refine awp_seq ?_
      refine awp_rw rfl ?_
      refine RW.op rfl rfl (eff_fieldAddr rfl rfl tf23_1 (by decide) rfl rfl rfl (Nat.le_of_ble_eq_true rfl)) ?_
      refine RW.op rfl rfl (eff_load (y := .t _) rfl rfl ti3 rfl (.one rfl rfl rfl rfl)) ?_
      refine RW.op rfl rfl (eff_fieldAddr rfl rfl tf23_1 (by decide) rfl rfl rfl (Nat.le_of_ble_eq_true rfl)) ?_
      refine RW.op rfl rfl (eff_load (y := .t _) rfl rfl ti3 rfl (.one rfl rfl rfl rfl)) ?_
      refine RW.op rfl rfl (eff_iop rfl rfl rfl rfl rfl) ?_
      refine RW.op rfl rfl (eff_assign (v := .t _) rfl rfl rfl) ?_
      refine RW.nil ?_
      refine awp_ret ?_
      first
        | (rw [show less a b = _ from less_next (by assumption)]; exact ⟨Or.inr rfl, [_], ⟨.tmp (.t _), trivial⟩, .refl _⟩)
        | (rw [show less a b = _ from less_have (by omega) (by assumption)]; exact ⟨Or.inr rfl, [_], ⟨.tmp (.t _), trivial⟩, .refl _⟩)
        | (rw [show less a b = _ from less_key (by omega) (by omega) (by assumption)]; exact ⟨Or.inr rfl, [_], ⟨.tmp (.t _), trivial⟩, .refl _⟩)
        | (rw [show less a b = _ from less_l1 (by omega) (by omega) (by omega) (by assumption)]; exact ⟨Or.inr rfl, [_], ⟨.tmp (.t _), trivial⟩, .refl _⟩)
        | (rw [show less a b = _ from less_l2 (by omega) (by omega) (by omega) (by assumption)]; exact ⟨Or.inr rfl, [_], ⟨.tmp (.t _), trivial⟩, .refl _⟩)
    · try simp only [decide_eq_true_eq, decide_eq_false_iff_not, beq_iff_eq, bne_iff_ne, bne_eq_false_iff_eq, beq_eq_false_iff_ne, Bool.not_eq_true, Bool.not_eq_false, Bool.not_eq_true', Bool.not_eq_false', ne_eq] at h2
      refine awp_skip ?_
      refine awp_seq ?_
      refine awp_seq ?_
      refine awp_rw rfl ?_
      refine RW.op rfl rfl (eff_fieldAddr rfl rfl tf23_2 (by decide) rfl rfl rfl (Nat.le_of_ble_eq_true rfl)) ?_
      refine RW.op rfl rfl (eff_load (y := .t _) rfl rfl ti3 rfl (.one rfl rfl rfl rfl)) ?_
      refine RW.op rfl rfl (eff_fieldAddr rfl rfl tf23_2 (by decide) rfl rfl rfl (Nat.le_of_ble_eq_true rfl)) ?_
      refine RW.op rfl rfl (eff_load (y := .t _) rfl rfl ti3 rfl (.one rfl rfl rfl rfl)) ?_
      refine RW.op rfl rfl (eff_iop rfl rfl rfl rfl rfl) ?_
      refine RW.nil ?_
      refine awp_cond rfl (fun h3 => ?_) (fun h3 => ?_)
      · try simp only [decide_eq_true_eq, decide_eq_false_iff_not, beq_iff_eq, bne_iff_ne, bne_eq_false_iff_eq, beq_eq_false_iff_ne, Bool.not_eq_true, Bool.not_eq_false, Bool.not_eq_true', Bool.not_eq_false', ne_eq] at h3
        refine awp_seq ?_
        refine awp_rw rfl ?_
        refine RW.op rfl rfl (eff_fieldAddr rfl rfl tf23_2 (by decide) rfl rfl rfl (Nat.le_of_ble_eq_true rfl)) ?_
        refine RW.op rfl rfl (eff_load (y := .t _) rfl rfl ti3 rfl (.one rfl rfl rfl rfl)) ?_
        refine RW.op rfl rfl (eff_fieldAddr rfl rfl tf23_2 (by decide) rfl rfl rfl (Nat.le_of_ble_eq_true rfl)) ?_
        refine RW.op rfl rfl (eff_load (y := .t _) rfl rfl ti3 rfl (.one rfl rfl rfl rfl)) ?_
        refine RW.op rfl rfl (eff_iop rfl rfl rfl rfl rfl) ?_
        refine RW.op rfl rfl (eff_assign (v := .t _) rfl rfl rfl) ?_
        refine RW.nil ?_
        refine awp_ret ?_
        first
          | (rw [show less a b = _ from less_next (by assumption)]; exact ⟨Or.inr rfl, [_], ⟨.tmp (.t _), trivial⟩, .refl _⟩)
          | (rw [show less a b = _ from less_have (by omega) (by assumption)]; exact ⟨Or.inr rfl, [_], ⟨.tmp (.t _), trivial⟩, .refl _⟩)
          | (rw [show less a b = _ from less_key (by omega) (by omega) (by assumption)]; exact ⟨Or.inr rfl, [_], ⟨.tmp (.t _), trivial⟩, .refl _⟩)
          | (rw [show less a b = _ from less_l1 (by omega) (by omega) (by omega) (by assumption)]; exact ⟨Or.inr rfl, [_], ⟨.tmp (.t _), trivial⟩, .refl _⟩)
          | (rw [show less a b = _ from less_l2 (by omega) (by omega) (by omega) (by assumption)]; exact ⟨Or.inr rfl, [_], ⟨.tmp (.t _), trivial⟩, .refl _⟩)
      · try simp only [decide_eq_true_eq, decide_eq_false_iff_not, beq_iff_eq, bne_iff_ne, bne_eq_false_iff_eq, beq_eq_false_iff_ne, Bool.not_eq_true, Bool.not_eq_false, Bool.not_eq_true', Bool.not_eq_false', ne_eq] at h3
        refine awp_skip ?_
        refine awp_seq ?_
        refine awp_rw rfl ?_
        refine RW.op rfl rfl (eff_fieldAddr rfl rfl tf23_3 (by decide) rfl rfl rfl (Nat.le_of_ble_eq_true rfl)) ?_
        refine RW.op rfl rfl (eff_load (y := .t _) rfl rfl ti4 rfl (.one rfl rfl rfl rfl)) ?_
        refine RW.op rfl rfl (eff_unop rfl rfl rfl rfl) ?_
        refine RW.op rfl rfl (eff_move (v := .t _) rfl rfl rfl) ?_
        refine RW.split 38 rfl (fun h4 => ?_) (fun h4 => ?_)
        · try simp only [decide_eq_true_eq, decide_eq_false_iff_not, beq_iff_eq, bne_iff_ne, bne_eq_false_iff_eq, beq_eq_false_iff_ne, Bool.not_eq_true, Bool.not_eq_false, Bool.not_eq_true', Bool.not_eq_false', ne_eq] at h4
          refine RW.gop rfl rfl rfl rfl rfl rfl (eff_fieldAddr rfl rfl tf23_3 (by decide) rfl rfl rfl (Nat.le_of_ble_eq_true rfl)) ?_
          refine RW.gop rfl rfl rfl rfl rfl rfl (eff_load (y := .t _) rfl rfl ti4 rfl (.one rfl rfl rfl rfl)) ?_
          refine RW.op rfl rfl (eff_pick (v := .t _) rfl rfl rfl rfl) ?_
          refine RW.op rfl rfl (eff_assign (v := .t _) rfl rfl rfl) ?_
          refine RW.nil ?_
          refine awp_ret ?_
          first
            | (rw [show less a b = _ from less_next (by assumption)]; exact ⟨Or.inr rfl, [_], ⟨.tmp (.t _), trivial⟩, .refl _⟩)
            | (rw [show less a b = _ from less_have (by omega) (by assumption)]; exact ⟨Or.inr rfl, [_], ⟨.tmp (.t _), trivial⟩, .refl _⟩)
            | (rw [show less a b = _ from less_key (by omega) (by omega) (by assumption)]; exact ⟨Or.inr rfl, [_], ⟨.tmp (.t _), trivial⟩, .refl _⟩)
            | (rw [show less a b = _ from less_l1 (by omega) (by omega) (by omega) (by assumption)]; exact ⟨Or.inr rfl, [_], ⟨.tmp (.t _), trivial⟩, .refl _⟩)
            | (rw [show less a b = _ from less_l2 (by omega) (by omega) (by omega) (by assumption)]; exact ⟨Or.inr rfl, [_], ⟨.tmp (.t _), trivial⟩, .refl _⟩)
        · try simp only [decide_eq_true_eq, decide_eq_false_iff_not, beq_iff_eq, bne_iff_ne, bne_eq_false_iff_eq, beq_eq_false_iff_ne, Bool.not_eq_true, Bool.not_eq_false, Bool.not_eq_true', Bool.not_eq_false', ne_eq] at h4
          refine RW.gskip rfl rfl rfl rfl rfl (by decide) ?_
          refine RW.gskip rfl rfl rfl rfl rfl (by decide) ?_
          refine RW.op rfl rfl (eff_pick (v := .t _) rfl rfl rfl rfl) ?_
          refine RW.op rfl rfl (eff_assign (v := .t _) rfl rfl rfl) ?_
          refine RW.nil ?_
          refine awp_ret ?_
          first
            | (rw [show less a b = _ from less_next (by assumption)]; exact ⟨Or.inr rfl, [_], ⟨.tmp (.t _), trivial⟩, .refl _⟩)
            | (rw [show less a b = _ from less_have (by omega) (by assumption)]; exact ⟨Or.inr rfl, [_], ⟨.tmp (.t _), trivial⟩, .refl _⟩)
            | (rw [show less a b = _ from less_key (by omega) (by omega) (by assumption)]; exact ⟨Or.inr rfl, [_], ⟨.tmp (.t _), trivial⟩, .refl _⟩)
            | (rw [show less a b = _ from less_l1 (by omega) (by omega) (by omega) (by assumption)]; exact ⟨Or.inr rfl, [_], ⟨.tmp (.t _), trivial⟩, .refl _⟩)
            | (rw [show less a b = _ from less_l2 (by omega) (by omega) (by omega) (by assumption)]; exact ⟨Or.inr rfl, [_], ⟨.tmp (.t _), trivial⟩, .refl _⟩)

theorem new17_ret  : Ret Tryd.prog 17 [] (encT ⟨[], [zr]⟩) := by
  refine ret_of_awp Tryd.func17 rfl (Nat.le_of_ble_eq_true rfl) ?_
  refine awp_seq ?_
  refine awp_rw rfl ?_
  refine RW.new rfl rfl (eff_allocK (k := 2) (id := 0) rfl rfl tz37 rfl rfl) ?_
  refine RW.nil ?_
  refine awp_seq ?_
  refine awp_rw rfl ?_
  refine RW.op rfl rfl (eff_buildT (ys := [_, _, _, _]) rfl rfl tz23 tg23 rfl) ?_
  refine RW.new rfl rfl (eff_buildSliceL (id := 2) (els := [.t (.agg [_, _, _, _])]) rfl rfl te35 tz23 rfl (by decide) (by decide) rfl rfl rfl rfl) ?_
  refine RW.op rfl rfl (eff_buildA (ys := [_, _]) rfl rfl tz37 tg37 rfl rfl) ?_
  refine RW.store rfl rfl (eff_storeW (v := .agg _) (els := [_]) (els' := [_]) rfl rfl ti37 rfl rfl rfl rfl rfl rfl rfl rfl rfl) ?_
  refine RW.nil ?_
  refine awp_ret ?_
  first
    | exact ⟨Or.inr rfl, [_], ⟨.cell rfl ti37 (.whole rfl rfl rfl rfl rfl rfl) (Res.aggP (xs := [_, _]) ⟨.t _, Res.ownT (xs := [zr].map encR) rfl rfl rfl rfl, trivial⟩), trivial⟩, .refl _⟩
    | exact ⟨Or.inr rfl, [_], ⟨.cell rfl ti37 (.whole rfl rfl rfl rfl rfl rfl) (Res.aggP (xs := [_, _]) ⟨.t _, Res.ownT (xs := [zr].map encR) rfl rfl rfl rfl, trivial⟩), trivial⟩, (by repeat' first | exact trivial | exact Wk.refl _ | exact Wk.sl _ | refine And.intro ?_ ?_ | refine Wk.tupP ?_ | refine Wk.aggP ?_)⟩

theorem new18_ret  : Ret Tryd.prog 18 [] (encT ⟨[], [zr]⟩) := by
  refine ret_of_awp Tryd.func18 rfl (Nat.le_of_ble_eq_true rfl) ?_
  refine awp_seq ?_
  refine awp_rw rfl ?_
  refine RW.new rfl rfl (eff_allocK (k := 2) (id := 0) rfl rfl tz37 rfl rfl) ?_
  refine RW.nil ?_
  refine awp_seq ?_
  refine awp_rw rfl ?_
  refine RW.op rfl rfl (eff_buildT (ys := [_, _, _, _]) rfl rfl tz23 tg23 rfl) ?_
  refine RW.new rfl rfl (eff_buildSliceL (id := 2) (els := [.t (.agg [_, _, _, _])]) rfl rfl te35 tz23 rfl (by decide) (by decide) rfl rfl rfl rfl) ?_
  refine RW.op rfl rfl (eff_buildA (ys := [_, _]) rfl rfl tz37 tg37 rfl rfl) ?_
  refine RW.store rfl rfl (eff_storeW (v := .agg _) (els := [_]) (els' := [_]) rfl rfl ti37 rfl rfl rfl rfl rfl rfl rfl rfl rfl) ?_
  refine RW.nil ?_
  refine awp_ret ?_
  first
    | exact ⟨Or.inr rfl, [_], ⟨.cell rfl ti37 (.whole rfl rfl rfl rfl rfl rfl) (Res.aggP (xs := [_, _]) ⟨.t _, Res.ownT (xs := [zr].map encR) rfl rfl rfl rfl, trivial⟩), trivial⟩, .refl _⟩
    | exact ⟨Or.inr rfl, [_], ⟨.cell rfl ti37 (.whole rfl rfl rfl rfl rfl rfl) (Res.aggP (xs := [_, _]) ⟨.t _, Res.ownT (xs := [zr].map encR) rfl rfl rfl rfl, trivial⟩), trivial⟩, (by repeat' first | exact trivial | exact Wk.refl _ | exact Wk.sl _ | refine And.intro ?_ ?_ | refine Wk.tupP ?_ | refine Wk.aggP ?_)⟩

theorem clip_ret (l : List Frm) : Ret Tryd.prog 45 [.sl (l.map encF) false] (.sl (l.map encF) true) := by
  refine ret_of_awp Tryd.func45 rfl (Nat.le_of_ble_eq_true rfl) ?_
  refine awp_seq ?_
  refine awp_rw rfl ?_
  refine RW.op rfl rfl (eff_assign (v := .t _) rfl rfl rfl) ?_
  refine RW.nil ?_
  refine awp_seq ?_
  refine awp_rw rfl ?_
  refine RW.op rfl rfl (eff_move (v := .t _) rfl rfl rfl) ?_
  refine RW.op rfl rfl (eff_move (v := .t _) rfl rfl rfl) ?_
  refine RW.op rfl rfl (eff_lenM rfl rfl te34 rfl) ?_
  refine RW.op rfl rfl (eff_move (v := .t _) rfl rfl rfl) ?_
  refine RW.op rfl rfl (eff_lenM rfl rfl te34 rfl) ?_
  refine RW.op rfl rfl (eff_sliceT3 (l := none) (h := l.length) (m := l.length) rfl rfl te34 rfl (fun y hy => by obtain ⟨f, _, rfl⟩ := List.mem_map.1 hy; rfl) .no (.yes rfl (by simp)) (.yes rfl (by simp)) (Nat.zero_le _) (Nat.le_refl _) (by simp)) ?_
  refine RW.op rfl rfl (eff_assign (v := .t _) rfl rfl rfl) ?_
  refine RW.nil ?_
  refine awp_ret ?_
  exact ⟨Or.inr rfl, [_], ⟨.tmp (.t _), trivial⟩, (by simp [packT]; rw [List.take_of_length_le (by simp)]; exact .refl _)⟩

theorem cloneF_retG (l : List Frm) (hl : l.length ≤ 1000000) : RetG Tryd.prog 57 [] [.t (.sl (l.map encF) false)] [(5, some ⟨5, 30, 1, (l.map encF).map .t⟩)] (.own 5 1 0 l.length) := by
  refine retG_of_awp Tryd.func57 rfl (Nat.le_of_ble_eq_true rfl) ?_
  refine awp_seq ?_
  refine awp_rw rfl ?_
  refine RW.op rfl rfl (eff_assign (v := .t _) rfl rfl rfl) ?_
  refine RW.nil ?_
  refine awp_seq ?_
  refine awp_seq ?_
  refine awp_rw rfl ?_
  refine RW.op rfl rfl (eff_move (v := .t _) rfl rfl rfl) ?_
  refine RW.nilEq rfl rfl rfl rfl te34 rfl (fun b1 hb1 => ?_)
  refine RW.nil ?_
  refine awp_cond rfl (fun h2 => ?_) (fun h2 => ?_)
  · try simp only [decide_eq_true_eq, decide_eq_false_iff_not, beq_iff_eq, bne_iff_ne, bne_eq_false_iff_eq, beq_eq_false_iff_ne, Bool.not_eq_true, Bool.not_eq_false, Bool.not_eq_true', Bool.not_eq_false', ne_eq] at h2
    refine awp_seq ?_
    refine awp_rw rfl ?_
    refine RW.op rfl rfl (eff_assign (v := .t _) rfl rfl rfl) ?_
    refine RW.nil ?_
    show AWP _ _ _ _
    refine awp_weak (weak_adopt (d := 2) (id := 5) (k := 5) (ty := 30) rfl rfl) ?_
    refine awp_weak (weak_bumpS (d := 2) (id := 5) (off := 0) (len := 0) 1 rfl rfl (by decide)) ?_
    refine awp_ret ?_
    have hl0 : l = [] := by simpa using hb1 h2
    subst hl0
    exact ⟨Or.inr rfl, [_], [.own 5 1 0 0], ⟨.tmp rfl, trivial⟩, rfl, weak_keep ⟨rfl, rfl, trivial⟩ ⟨rfl, okE_nil, trivial⟩, rfl⟩
  · try simp only [decide_eq_true_eq, decide_eq_false_iff_not, beq_iff_eq, bne_iff_ne, bne_eq_false_iff_eq, beq_eq_false_iff_ne, Bool.not_eq_true, Bool.not_eq_false, Bool.not_eq_true', Bool.not_eq_false', ne_eq] at h2
    refine awp_skip ?_
    refine awp_seq ?_
    refine awp_rw rfl ?_
    refine RW.new rfl rfl (eff_buildSliceL (id := 5) (els := []) rfl rfl te34 tz30 rfl (by decide) (by decide) rfl rfl rfl rfl) ?_
    refine RW.op rfl rfl (eff_move (v := .t _) rfl rfl rfl) ?_
    refine RW.new rfl rfl (eff_appendAny (id := 5) rfl rfl ta34 rfl rfl rfl rfl rfl rfl (srcM rfl (fun _ => rfl)) (by simp; omega) (by simp; omega)) ?_
    refine RW.op rfl rfl (eff_assign (v := .own _ _ _ _) rfl rfl rfl) ?_
    refine RW.nil ?_
    refine awp_ret ?_
    exact ⟨Or.inr rfl, [_], [.own 5 1 0 l.length], ⟨.tmp rfl, trivial⟩, rfl, weak_keep ⟨(by show AV.own 5 _ 0 _ = AV.own 5 1 0 l.length; congr 1; simp), rfl, trivial⟩ ⟨rfl, okE_t, trivial⟩, rfl⟩

theorem cloneB_retG (l : List Int) (hl : l.length ≤ 1000000) : RetG Tryd.prog 58 [] [.t (.sl (l.map encBy) false)] [(5, some ⟨1, 5, 1, (l.map encBy).map .t⟩)] (.own 5 1 0 l.length) := by
  refine retG_of_awp Tryd.func58 rfl (Nat.le_of_ble_eq_true rfl) ?_
  refine awp_seq ?_
  refine awp_rw rfl ?_
  refine RW.op rfl rfl (eff_assign (v := .t _) rfl rfl rfl) ?_
  refine RW.nil ?_
  refine awp_seq ?_
  refine awp_seq ?_
  refine awp_rw rfl ?_
  refine RW.op rfl rfl (eff_move (v := .t _) rfl rfl rfl) ?_
  refine RW.nilEq rfl rfl rfl rfl te27 rfl (fun b1 hb1 => ?_)
  refine RW.nil ?_
  refine awp_cond rfl (fun h2 => ?_) (fun h2 => ?_)
  · try simp only [decide_eq_true_eq, decide_eq_false_iff_not, beq_iff_eq, bne_iff_ne, bne_eq_false_iff_eq, beq_eq_false_iff_ne, Bool.not_eq_true, Bool.not_eq_false, Bool.not_eq_true', Bool.not_eq_false', ne_eq] at h2
    refine awp_seq ?_
    refine awp_rw rfl ?_
    refine RW.op rfl rfl (eff_assign (v := .t _) rfl rfl rfl) ?_
    refine RW.nil ?_
    show AWP _ _ _ _
    refine awp_weak (weak_adopt (d := 2) (id := 5) (k := 1) (ty := 5) rfl rfl) ?_
    refine awp_weak (weak_bumpS (d := 2) (id := 5) (off := 0) (len := 0) 1 rfl rfl (by decide)) ?_
    refine awp_ret ?_
    have hl0 : l = [] := by simpa using hb1 h2
    subst hl0
    exact ⟨Or.inr rfl, [_], [.own 5 1 0 0], ⟨.tmp rfl, trivial⟩, rfl, weak_keep ⟨rfl, rfl, trivial⟩ ⟨rfl, okE_nil, trivial⟩, rfl⟩
  · try simp only [decide_eq_true_eq, decide_eq_false_iff_not, beq_iff_eq, bne_iff_ne, bne_eq_false_iff_eq, beq_eq_false_iff_ne, Bool.not_eq_true, Bool.not_eq_false, Bool.not_eq_true', Bool.not_eq_false', ne_eq] at h2
    refine awp_skip ?_
    refine awp_seq ?_
    refine awp_rw rfl ?_
    refine RW.new rfl rfl (eff_buildSlice1 (id := 5) (els := []) rfl rfl te27 tz5 rfl (by decide) rfl rfl rfl rfl) ?_
    refine RW.op rfl rfl (eff_move (v := .t _) rfl rfl rfl) ?_
    refine RW.new rfl rfl (eff_appendAny (id := 5) rfl rfl ta27 rfl rfl rfl rfl rfl rfl (srcM rfl (fun _ => rfl)) (by simp; omega) (by simp; omega)) ?_
    refine RW.op rfl rfl (eff_assign (v := .own _ _ _ _) rfl rfl rfl) ?_
    refine RW.nil ?_
    refine awp_ret ?_
    exact ⟨Or.inr rfl, [_], [.own 5 1 0 l.length], ⟨.tmp rfl, trivial⟩, rfl, weak_keep ⟨(by show AV.own 5 _ 0 _ = AV.own 5 1 0 l.length; congr 1; simp), rfl, trivial⟩ ⟨rfl, okE_t, trivial⟩, rfl⟩

theorem cloneB_ret (l : List Int) (hl : l.length ≤ 1000000) : Ret Tryd.prog 58 [.sl (l.map encBy) false] (.sl (l.map encBy) false) :=
  ret_of_retG (cloneB_retG l hl) (Res.ownM rfl (by simp)) (.refl _)
end Go.Tv.C34

end
section
open Go Go.Tv Go.Proofs
namespace Go.Tv.C34
set_option maxRecDepth 20000
set_option maxHeartbeats 2000000
set_option linter.unusedSimpArgs false
set_option linter.unusedVariables false
theorem modDist_ret (f : Frm) (x : Rep) : Ret Tryd.prog 40 [encI (f.seq % 256 - x.next % 256)] (encI (dist f x)) := by
  have h := modulo_ret (f.seq % 256 - x.next % 256)
  rwa [show (f.seq % 256 - x.next % 256) % 256 = dist f x from by unfold dist; omega] at h

theorem rapply_ret (S : Rep) (f : Frm) (hS : HP S) : Ret Tryd.prog 15 [encR S, encF f] (encR (apply S f)) := by
  obtain ⟨nx, hv0, ky, lk⟩ := S
  obtain ⟨h, rfl⟩ : ∃ h : Nat, hv0 = (h : Int) := ⟨hv0.toNat, by have := hS.1; simp only [] at this; omega⟩
  have hh : h < 32768 := by have := hS.2; simp only [] at this; omega
  have hdr := dist_range f ⟨nx, ((h : Nat) : Int), ky, lk⟩
  refine ret_of_awp Tryd.func15 rfl (Nat.le_of_ble_eq_true rfl) ?_
  refine awp_seq ?_
  refine awp_rw rfl ?_
  refine RW.new rfl rfl (eff_boxK (v := .t _) (k := 4) (id := 2) rfl rfl rfl rfl rfl rfl) ?_
  refine RW.new rfl rfl (eff_boxK (v := .t _) (k := 5) (id := 3) rfl rfl rfl rfl rfl rfl) ?_
  refine RW.new rfl rfl (eff_allocK (k := 4) (id := 4) rfl rfl tz23 rfl rfl) ?_
  refine RW.nil ?_
  refine awp_seq ?_
  refine awp_seq ?_
  refine awp_rw rfl ?_
  refine RW.op rfl rfl (eff_fieldAddr rfl rfl tf30_1 (by decide) rfl rfl rfl (Nat.le_of_ble_eq_true rfl)) ?_
  refine RW.op rfl rfl (eff_load (y := .t _) rfl rfl ti3 rfl (.one rfl rfl rfl rfl)) ?_
  refine RW.op rfl rfl (eff_fieldAddr rfl rfl tf23_2 (by decide) rfl rfl rfl (Nat.le_of_ble_eq_true rfl)) ?_
  refine RW.op rfl rfl (eff_load (y := .t _) rfl rfl ti3 rfl (.one rfl rfl rfl rfl)) ?_
  refine RW.op rfl rfl (eff_iop rfl rfl rfl rfl rfl) ?_
  refine RW.op rfl rfl (eff_move (v := .t _) rfl rfl rfl) ?_
  refine RW.split 12 rfl (fun h1 => ?_) (fun h1 => ?_)
  · try simp only [decide_eq_true_eq, decide_eq_false_iff_not, beq_iff_eq, bne_iff_ne, bne_eq_false_iff_eq, beq_eq_false_iff_ne, Bool.not_eq_true, Bool.not_eq_false, Bool.not_eq_true', Bool.not_eq_false', ne_eq] at h1
    refine RW.gskip rfl rfl rfl rfl rfl (by decide) ?_
    refine RW.gskip rfl rfl rfl rfl rfl (by decide) ?_
    refine RW.gskip rfl rfl rfl rfl rfl (by decide) ?_
    refine RW.gskip rfl rfl rfl rfl rfl (by decide) ?_
    refine RW.gskip rfl rfl rfl rfl rfl (by decide) ?_
    refine RW.gskip rfl rfl rfl rfl rfl (by decide) ?_
    refine RW.op rfl rfl (eff_pick (v := .t _) rfl rfl rfl rfl) ?_
    refine RW.nil ?_
    refine awp_cond rfl (fun _ => ?_) (fun h => nomatch h)
    refine awp_seq ?_
    refine awp_rw rfl ?_
    refine RW.op rfl rfl (eff_load rfl rfl ti23 rfl (.whole rfl rfl rfl rfl rfl rfl)) ?_
    refine RW.store rfl rfl (eff_storeW (v := .t _) (els := [_]) (els' := [_]) rfl rfl ti23 rfl rfl rfl rfl rfl rfl rfl rfl rfl) ?_
    refine RW.nil ?_
    refine awp_ret ?_
    first
      | (rw [apply_stay (Or.inl (by assumption))]; exact ⟨Or.inr rfl, [_], ⟨.cell rfl ti23 (.whole rfl rfl rfl rfl rfl rfl) (.t _), trivial⟩, .refl _⟩)
      | (rw [apply_stay (Or.inr (by assumption))]; exact ⟨Or.inr rfl, [_], ⟨.cell rfl ti23 (.whole rfl rfl rfl rfl rfl rfl) (.t _), trivial⟩, .refl _⟩)
      | (rw [apply_unl (by rintro (h | h) <;> (try dsimp only [w64] at h) <;> omega) (by assumption) (if_pos (by assumption))]; exact ⟨Or.inr rfl, [_], ⟨.cell rfl ti23 (.whole rfl rfl rfl rfl rfl rfl) (.t _), trivial⟩, .refl _⟩)
      | (rw [apply_unl (by rintro (h | h) <;> (try dsimp only [w64] at h) <;> omega) (by assumption) (if_neg (by assumption))]; exact ⟨Or.inr rfl, [_], ⟨.cell rfl ti23 (.whole rfl rfl rfl rfl rfl rfl) (.t _), trivial⟩, .refl _⟩)
      | (rw [apply_lock (by rintro (h | h) <;> (try dsimp only [w64] at h) <;> omega) (by assumption) (by assumption)]; exact ⟨Or.inr rfl, [_], ⟨.cell rfl ti23 (.whole rfl rfl rfl rfl rfl rfl) (.t _), trivial⟩, .refl _⟩)
      | (rw [apply_zero (by rintro (h | h) <;> (try dsimp only [w64] at h) <;> omega) (by assumption) (by assumption) (by assumption), show ones ((h : Nat) : Int) = k from htr, show (Int.toNat ((h : Nat) : Int)) / 2 ^ (1 + k) = hv h (k + 1) from by rw [hv_eq, Nat.add_comm 1 k]; rfl]; exact ⟨Or.inr rfl, [_], ⟨.cell rfl ti23 (.whole rfl rfl rfl rfl rfl rfl) (.t _), trivial⟩, .refl _⟩)
      | (rw [apply_near (by rintro (h | h) <;> (try dsimp only [w64] at h) <;> omega) (by assumption) (by assumption) (by assumption) (by assumption), show (Int.toNat ((h : Nat) : Int) ||| 2 ^ (dist f ⟨nx, ((h : Nat) : Int), ky, lk⟩ - 1).toNat) = h from or_set (by assumption)]; exact ⟨Or.inr rfl, [_], ⟨.cell rfl ti23 (.whole rfl rfl rfl rfl rfl rfl) (.t _), trivial⟩, .refl _⟩)
      | (rw [apply_near (by rintro (h | h) <;> (try dsimp only [w64] at h) <;> omega) (by assumption) (by assumption) (by assumption) (by assumption), show (Int.toNat ((h : Nat) : Int) ||| 2 ^ (dist f ⟨nx, ((h : Nat) : Int), ky, lk⟩ - 1).toNat) = h + 2 ^ (dist f ⟨nx, ((h : Nat) : Int), ky, lk⟩ - 1).toNat from (or_add hh (by omega) (by assumption)).symm]; exact ⟨Or.inr rfl, [_], ⟨.cell rfl ti23 (.whole rfl rfl rfl rfl rfl rfl) (.t _), trivial⟩, .refl _⟩)
      | (rw [apply_far (by rintro (h | h) <;> (try dsimp only [w64] at h) <;> omega) (by assumption) (by assumption) (by omega) rfl]; exact ⟨Or.inr rfl, [_], ⟨.cell rfl ti23 (.whole rfl rfl rfl rfl rfl rfl) (.t _), trivial⟩, .refl _⟩)
  · try simp only [decide_eq_true_eq, decide_eq_false_iff_not, beq_iff_eq, bne_iff_ne, bne_eq_false_iff_eq, beq_eq_false_iff_ne, Bool.not_eq_true, Bool.not_eq_false, Bool.not_eq_true', Bool.not_eq_false', ne_eq] at h1
    refine RW.gop rfl rfl rfl rfl rfl rfl (eff_fieldAddr rfl rfl tf30_1 (by decide) rfl rfl rfl (Nat.le_of_ble_eq_true rfl)) ?_
    refine RW.gop rfl rfl rfl rfl rfl rfl (eff_load (y := .t _) rfl rfl ti3 rfl (.one rfl rfl rfl rfl)) ?_
    refine RW.gop rfl rfl rfl rfl rfl rfl (eff_fieldAddr rfl rfl tf23_2 (by decide) rfl rfl rfl (Nat.le_of_ble_eq_true rfl)) ?_
    refine RW.gop rfl rfl rfl rfl rfl rfl (eff_load (y := .t _) rfl rfl ti3 rfl (.one rfl rfl rfl rfl)) ?_
    refine RW.gop rfl rfl rfl rfl rfl rfl (eff_iop rfl rfl rfl rfl rfl) ?_
    refine RW.gop rfl rfl rfl rfl rfl rfl (eff_iop rfl rfl rfl rfl rfl) ?_
    refine RW.op rfl rfl (eff_pick (v := .t _) rfl rfl rfl rfl) ?_
    refine RW.nil ?_
    refine awp_cond rfl (fun h2 => ?_) (fun h2 => ?_)
    · try simp only [decide_eq_true_eq, decide_eq_false_iff_not, beq_iff_eq, bne_iff_ne, bne_eq_false_iff_eq, beq_eq_false_iff_ne, Bool.not_eq_true, Bool.not_eq_false, Bool.not_eq_true', Bool.not_eq_false', ne_eq] at h2
      refine awp_seq ?_
      refine awp_rw rfl ?_
      refine RW.op rfl rfl (eff_load rfl rfl ti23 rfl (.whole rfl rfl rfl rfl rfl rfl)) ?_
      refine RW.store rfl rfl (eff_storeW (v := .t _) (els := [_]) (els' := [_]) rfl rfl ti23 rfl rfl rfl rfl rfl rfl rfl rfl rfl) ?_
      refine RW.nil ?_
      refine awp_ret ?_
      first
        | (rw [apply_stay (Or.inl (by assumption))]; exact ⟨Or.inr rfl, [_], ⟨.cell rfl ti23 (.whole rfl rfl rfl rfl rfl rfl) (.t _), trivial⟩, .refl _⟩)
        | (rw [apply_stay (Or.inr (by assumption))]; exact ⟨Or.inr rfl, [_], ⟨.cell rfl ti23 (.whole rfl rfl rfl rfl rfl rfl) (.t _), trivial⟩, .refl _⟩)
        | (rw [apply_unl (by rintro (h | h) <;> (try dsimp only [w64] at h) <;> omega) (by assumption) (if_pos (by assumption))]; exact ⟨Or.inr rfl, [_], ⟨.cell rfl ti23 (.whole rfl rfl rfl rfl rfl rfl) (.t _), trivial⟩, .refl _⟩)
        | (rw [apply_unl (by rintro (h | h) <;> (try dsimp only [w64] at h) <;> omega) (by assumption) (if_neg (by assumption))]; exact ⟨Or.inr rfl, [_], ⟨.cell rfl ti23 (.whole rfl rfl rfl rfl rfl rfl) (.t _), trivial⟩, .refl _⟩)
        | (rw [apply_lock (by rintro (h | h) <;> (try dsimp only [w64] at h) <;> omega) (by assumption) (by assumption)]; exact ⟨Or.inr rfl, [_], ⟨.cell rfl ti23 (.whole rfl rfl rfl rfl rfl rfl) (.t _), trivial⟩, .refl _⟩)
        | (rw [apply_zero (by rintro (h | h) <;> (try dsimp only [w64] at h) <;> omega) (by assumption) (by assumption) (by assumption), show ones ((h : Nat) : Int) = k from htr, show (Int.toNat ((h : Nat) : Int)) / 2 ^ (1 + k) = hv h (k + 1) from by rw [hv_eq, Nat.add_comm 1 k]; rfl]; exact ⟨Or.inr rfl, [_], ⟨.cell rfl ti23 (.whole rfl rfl rfl rfl rfl rfl) (.t _), trivial⟩, .refl _⟩)
        | (rw [apply_near (by rintro (h | h) <;> (try dsimp only [w64] at h) <;> omega) (by assumption) (by assumption) (by assumption) (by assumption), show (Int.toNat ((h : Nat) : Int) ||| 2 ^ (dist f ⟨nx, ((h : Nat) : Int), ky, lk⟩ - 1).toNat) = h from or_set (by assumption)]; exact ⟨Or.inr rfl, [_], ⟨.cell rfl ti23 (.whole rfl rfl rfl rfl rfl rfl) (.t _), trivial⟩, .refl _⟩)
        | (rw [apply_near (by rintro (h | h) <;> (try dsimp only [w64] at h) <;> omega) (by assumption) (by assumption) (by assumption) (by assumption), show (Int.toNat ((h : Nat) : Int) ||| 2 ^ (dist f ⟨nx, ((h : Nat) : Int), ky, lk⟩ - 1).toNat) = h + 2 ^ (dist f ⟨nx, ((h : Nat) : Int), ky, lk⟩ - 1).toNat from (or_add hh (by omega) (by assumption)).symm]; exact ⟨Or.inr rfl, [_], ⟨.cell rfl ti23 (.whole rfl rfl rfl rfl rfl rfl) (.t _), trivial⟩, .refl _⟩)
        | (rw [apply_far (by rintro (h | h) <;> (try dsimp only [w64] at h) <;> omega) (by assumption) (by assumption) (by omega) rfl]; exact ⟨Or.inr rfl, [_], ⟨.cell rfl ti23 (.whole rfl rfl rfl rfl rfl rfl) (.t _), trivial⟩, .refl _⟩)
    · try simp only [decide_eq_true_eq, decide_eq_false_iff_not, beq_iff_eq, bne_iff_ne, bne_eq_false_iff_eq, beq_eq_false_iff_ne, Bool.not_eq_true, Bool.not_eq_false, Bool.not_eq_true', Bool.not_eq_false', ne_eq] at h2
      refine awp_skip ?_
      refine awp_seq ?_
      refine awp_rw rfl ?_
      refine RW.op rfl rfl (eff_fieldAddr rfl rfl tf30_1 (by decide) rfl rfl rfl (Nat.le_of_ble_eq_true rfl)) ?_
      refine RW.op rfl rfl (eff_load (y := .t _) rfl rfl ti3 rfl (.one rfl rfl rfl rfl)) ?_
      refine RW.op rfl rfl (eff_iop rfl rfl rfl rfl rfl) ?_
      refine RW.op rfl rfl (eff_fieldAddr rfl rfl tf23_2 (by decide) rfl rfl rfl (Nat.le_of_ble_eq_true rfl)) ?_
      refine RW.store rfl rfl (eff_storeS (v := .t _) (ys := [_, _, _, _]) (els := [_]) (els' := [_]) rfl rfl ti3 rfl rfl rfl rfl rfl rfl rfl (Nat.le_of_ble_eq_true rfl) rfl rfl) ?_
      refine RW.nil ?_
      refine awp_seq ?_
      refine awp_rd [(some 25, []), (some 26, []), (some 27, []), (some 28, []), (some 29, []), (some 30, []), (some 31, []), (some 32, []), (some 5, [])] [[], [0], [0, 1], [], [3], [0, 1, 2, 3, 4], [0, 1, 2, 3, 4, 5], [0, 1, 2, 3, 4, 5, 6], [0, 1, 2, 3, 4, 5, 6, 7]] tm rfl rfl rfl rfl ?_
      refine RD.op rfl rfl rfl (eff_fieldAddr rfl rfl tf30_0 (by decide) rfl rfl rfl (Nat.le_of_ble_eq_true rfl)) ?_
      refine RD.op rfl rfl rfl (eff_load (y := .t _) rfl rfl ti3 rfl (.one rfl rfl rfl rfl)) ?_
      refine RD.op rfl rfl rfl (eff_callT (modulo_ret _) co40 rfl rfl rfl rfl) ?_
      refine RD.op rfl rfl rfl (eff_fieldAddr rfl rfl tf23_0 (by decide) rfl rfl rfl (Nat.le_of_ble_eq_true rfl)) ?_
      refine RD.op rfl rfl rfl (eff_load (y := .t _) rfl rfl ti3 rfl (.one rfl rfl rfl rfl)) ?_
      refine RD.op rfl rfl rfl (eff_callT (modulo_ret _) co40 rfl rfl rfl rfl) ?_
      refine RD.op rfl rfl rfl (eff_iop rfl rfl rfl rfl (isub (by omega))) ?_
      refine RD.op rfl rfl rfl (eff_callT (modDist_ret f ⟨nx, ((h : Nat) : Int), ky, lk⟩) co40 rfl rfl rfl rfl) ?_
      refine RD.op rfl rfl rfl (eff_assign (v := .t _) rfl rfl rfl) ?_
      refine RD.nil ?_
      refine awp_seq ?_
      refine awp_seq ?_
      refine awp_rw rfl ?_
      refine RW.op rfl rfl (eff_fieldAddr rfl rfl tf30_2 (by decide) rfl rfl rfl (Nat.le_of_ble_eq_true rfl)) ?_
      refine RW.op rfl rfl (eff_load (y := .t _) rfl rfl ti4 rfl (.one rfl rfl rfl rfl)) ?_
      refine RW.nil ?_
      refine awp_cond rfl (fun h3 => ?_) (fun h3 => ?_)
      · try simp only [decide_eq_true_eq, decide_eq_false_iff_not, beq_iff_eq, bne_iff_ne, bne_eq_false_iff_eq, beq_eq_false_iff_ne, Bool.not_eq_true, Bool.not_eq_false, Bool.not_eq_true', Bool.not_eq_false', ne_eq] at h3
        refine awp_seq ?_
        refine awp_rw rfl ?_
        refine RW.op rfl rfl (eff_fieldAddr rfl rfl tf23_3 (by decide) rfl rfl rfl (Nat.le_of_ble_eq_true rfl)) ?_
        refine RW.store rfl rfl (eff_storeS (v := .t _) (ys := [_, _, _, _]) (els := [_]) (els' := [_]) rfl rfl ti4 rfl rfl rfl rfl rfl rfl rfl (Nat.le_of_ble_eq_true rfl) rfl rfl) ?_
        refine RW.nil ?_
        refine awp_seq ?_
        refine awp_seq ?_
        refine awp_rw rfl ?_
        refine RW.op rfl rfl (eff_move (v := .t _) rfl rfl rfl) ?_
        refine RW.op rfl rfl (eff_iop rfl rfl rfl rfl rfl) ?_
        refine RW.nil ?_
        refine awp_cond rfl (fun h4 => ?_) (fun h4 => ?_)
        · try simp only [decide_eq_true_eq, decide_eq_false_iff_not, beq_iff_eq, bne_iff_ne, bne_eq_false_iff_eq, beq_eq_false_iff_ne, Bool.not_eq_true, Bool.not_eq_false, Bool.not_eq_true', Bool.not_eq_false', ne_eq] at h4
          refine awp_rw rfl ?_
          refine RW.op rfl rfl (eff_fieldAddr rfl rfl tf23_0 (by decide) rfl rfl rfl (Nat.le_of_ble_eq_true rfl)) ?_
          refine RW.op rfl rfl (eff_load (y := .t _) rfl rfl ti3 rfl (.one rfl rfl rfl rfl)) ?_
          refine RW.op rfl rfl (eff_move (v := .t _) rfl rfl rfl) ?_
          refine RW.op rfl rfl (eff_iop rfl rfl rfl rfl rfl) ?_
          refine RW.op rfl rfl (eff_fieldAddr rfl rfl tf23_0 (by decide) rfl rfl rfl (Nat.le_of_ble_eq_true rfl)) ?_
          refine RW.store rfl rfl (eff_storeS (v := .t _) (ys := [_, _, _, _]) (els := [_]) (els' := [_]) rfl rfl ti3 rfl rfl rfl rfl rfl rfl rfl (Nat.le_of_ble_eq_true rfl) rfl rfl) ?_
          refine RW.nil ?_
          refine awp_seq ?_
          refine awp_rw rfl ?_
          refine RW.op rfl rfl (eff_fieldAddr rfl rfl tf23_1 (by decide) rfl rfl rfl (Nat.le_of_ble_eq_true rfl)) ?_
          refine RW.store rfl rfl (eff_storeS (v := .t _) (ys := [_, _, _, _]) (els := [_]) (els' := [_]) rfl rfl ti3 rfl rfl rfl rfl rfl rfl rfl (Nat.le_of_ble_eq_true rfl) rfl rfl) ?_
          refine RW.nil ?_
          refine awp_seq ?_
          refine awp_rw rfl ?_
          refine RW.op rfl rfl (eff_load rfl rfl ti23 rfl (.whole rfl rfl rfl rfl rfl rfl)) ?_
          refine RW.store rfl rfl (eff_storeW (v := .t _) (els := [_]) (els' := [_]) rfl rfl ti23 rfl rfl rfl rfl rfl rfl rfl rfl rfl) ?_
          refine RW.nil ?_
          refine awp_ret ?_
          first
            | (rw [apply_stay (Or.inl (by assumption))]; exact ⟨Or.inr rfl, [_], ⟨.cell rfl ti23 (.whole rfl rfl rfl rfl rfl rfl) (.t _), trivial⟩, .refl _⟩)
            | (rw [apply_stay (Or.inr (by assumption))]; exact ⟨Or.inr rfl, [_], ⟨.cell rfl ti23 (.whole rfl rfl rfl rfl rfl rfl) (.t _), trivial⟩, .refl _⟩)
            | (rw [apply_unl (by rintro (h | h) <;> (try dsimp only [w64] at h) <;> omega) (by assumption) (if_pos (by assumption))]; exact ⟨Or.inr rfl, [_], ⟨.cell rfl ti23 (.whole rfl rfl rfl rfl rfl rfl) (.t _), trivial⟩, .refl _⟩)
            | (rw [apply_unl (by rintro (h | h) <;> (try dsimp only [w64] at h) <;> omega) (by assumption) (if_neg (by assumption))]; exact ⟨Or.inr rfl, [_], ⟨.cell rfl ti23 (.whole rfl rfl rfl rfl rfl rfl) (.t _), trivial⟩, .refl _⟩)
            | (rw [apply_lock (by rintro (h | h) <;> (try dsimp only [w64] at h) <;> omega) (by assumption) (by assumption)]; exact ⟨Or.inr rfl, [_], ⟨.cell rfl ti23 (.whole rfl rfl rfl rfl rfl rfl) (.t _), trivial⟩, .refl _⟩)
            | (rw [apply_zero (by rintro (h | h) <;> (try dsimp only [w64] at h) <;> omega) (by assumption) (by assumption) (by assumption), show ones ((h : Nat) : Int) = k from htr, show (Int.toNat ((h : Nat) : Int)) / 2 ^ (1 + k) = hv h (k + 1) from by rw [hv_eq, Nat.add_comm 1 k]; rfl]; exact ⟨Or.inr rfl, [_], ⟨.cell rfl ti23 (.whole rfl rfl rfl rfl rfl rfl) (.t _), trivial⟩, .refl _⟩)
            | (rw [apply_near (by rintro (h | h) <;> (try dsimp only [w64] at h) <;> omega) (by assumption) (by assumption) (by assumption) (by assumption), show (Int.toNat ((h : Nat) : Int) ||| 2 ^ (dist f ⟨nx, ((h : Nat) : Int), ky, lk⟩ - 1).toNat) = h from or_set (by assumption)]; exact ⟨Or.inr rfl, [_], ⟨.cell rfl ti23 (.whole rfl rfl rfl rfl rfl rfl) (.t _), trivial⟩, .refl _⟩)
            | (rw [apply_near (by rintro (h | h) <;> (try dsimp only [w64] at h) <;> omega) (by assumption) (by assumption) (by assumption) (by assumption), show (Int.toNat ((h : Nat) : Int) ||| 2 ^ (dist f ⟨nx, ((h : Nat) : Int), ky, lk⟩ - 1).toNat) = h + 2 ^ (dist f ⟨nx, ((h : Nat) : Int), ky, lk⟩ - 1).toNat from (or_add hh (by omega) (by assumption)).symm]; exact ⟨Or.inr rfl, [_], ⟨.cell rfl ti23 (.whole rfl rfl rfl rfl rfl rfl) (.t _), trivial⟩, .refl _⟩)
            | (rw [apply_far (by rintro (h | h) <;> (try dsimp only [w64] at h) <;> omega) (by assumption) (by assumption) (by omega) rfl]; exact ⟨Or.inr rfl, [_], ⟨.cell rfl ti23 (.whole rfl rfl rfl rfl rfl rfl) (.t _), trivial⟩, .refl _⟩)
        · try simp only [decide_eq_true_eq, decide_eq_false_iff_not, beq_iff_eq, bne_iff_ne, bne_eq_false_iff_eq, beq_eq_false_iff_ne, Bool.not_eq_true, Bool.not_eq_false, Bool.not_eq_true', Bool.not_eq_false', ne_eq] at h4
          refine awp_skip ?_
          refine awp_seq ?_
          refine awp_rw rfl ?_
          refine RW.op rfl rfl (eff_fieldAddr rfl rfl tf23_1 (by decide) rfl rfl rfl (Nat.le_of_ble_eq_true rfl)) ?_
          refine RW.store rfl rfl (eff_storeS (v := .t _) (ys := [_, _, _, _]) (els := [_]) (els' := [_]) rfl rfl ti3 rfl rfl rfl rfl rfl rfl rfl (Nat.le_of_ble_eq_true rfl) rfl rfl) ?_
          refine RW.nil ?_
          refine awp_seq ?_
          refine awp_rw rfl ?_
          refine RW.op rfl rfl (eff_load rfl rfl ti23 rfl (.whole rfl rfl rfl rfl rfl rfl)) ?_
          refine RW.store rfl rfl (eff_storeW (v := .t _) (els := [_]) (els' := [_]) rfl rfl ti23 rfl rfl rfl rfl rfl rfl rfl rfl rfl) ?_
          refine RW.nil ?_
          refine awp_ret ?_
          first
            | (rw [apply_stay (Or.inl (by assumption))]; exact ⟨Or.inr rfl, [_], ⟨.cell rfl ti23 (.whole rfl rfl rfl rfl rfl rfl) (.t _), trivial⟩, .refl _⟩)
            | (rw [apply_stay (Or.inr (by assumption))]; exact ⟨Or.inr rfl, [_], ⟨.cell rfl ti23 (.whole rfl rfl rfl rfl rfl rfl) (.t _), trivial⟩, .refl _⟩)
            | (rw [apply_unl (by rintro (h | h) <;> (try dsimp only [w64] at h) <;> omega) (by assumption) (if_pos (by assumption))]; exact ⟨Or.inr rfl, [_], ⟨.cell rfl ti23 (.whole rfl rfl rfl rfl rfl rfl) (.t _), trivial⟩, .refl _⟩)
            | (rw [apply_unl (by rintro (h | h) <;> (try dsimp only [w64] at h) <;> omega) (by assumption) (if_neg (by assumption))]; exact ⟨Or.inr rfl, [_], ⟨.cell rfl ti23 (.whole rfl rfl rfl rfl rfl rfl) (.t _), trivial⟩, .refl _⟩)
            | (rw [apply_lock (by rintro (h | h) <;> (try dsimp only [w64] at h) <;> omega) (by assumption) (by assumption)]; exact ⟨Or.inr rfl, [_], ⟨.cell rfl ti23 (.whole rfl rfl rfl rfl rfl rfl) (.t _), trivial⟩, .refl _⟩)
            | (rw [apply_zero (by rintro (h | h) <;> (try dsimp only [w64] at h) <;> omega) (by assumption) (by assumption) (by assumption), show ones ((h : Nat) : Int) = k from htr, show (Int.toNat ((h : Nat) : Int)) / 2 ^ (1 + k) = hv h (k + 1) from by rw [hv_eq, Nat.add_comm 1 k]; rfl]; exact ⟨Or.inr rfl, [_], ⟨.cell rfl ti23 (.whole rfl rfl rfl rfl rfl rfl) (.t _), trivial⟩, .refl _⟩)
            | (rw [apply_near (by rintro (h | h) <;> (try dsimp only [w64] at h) <;> omega) (by assumption) (by assumption) (by assumption) (by assumption), show (Int.toNat ((h : Nat) : Int) ||| 2 ^ (dist f ⟨nx, ((h : Nat) : Int), ky, lk⟩ - 1).toNat) = h from or_set (by assumption)]; exact ⟨Or.inr rfl, [_], ⟨.cell rfl ti23 (.whole rfl rfl rfl rfl rfl rfl) (.t _), trivial⟩, .refl _⟩)
            | (rw [apply_near (by rintro (h | h) <;> (try dsimp only [w64] at h) <;> omega) (by assumption) (by assumption) (by assumption) (by assumption), show (Int.toNat ((h : Nat) : Int) ||| 2 ^ (dist f ⟨nx, ((h : Nat) : Int), ky, lk⟩ - 1).toNat) = h + 2 ^ (dist f ⟨nx, ((h : Nat) : Int), ky, lk⟩ - 1).toNat from (or_add hh (by omega) (by assumption)).symm]; exact ⟨Or.inr rfl, [_], ⟨.cell rfl ti23 (.whole rfl rfl rfl rfl rfl rfl) (.t _), trivial⟩, .refl _⟩)
            | (rw [apply_far (by rintro (h | h) <;> (try dsimp only [w64] at h) <;> omega) (by assumption) (by assumption) (by omega) rfl]; exact ⟨Or.inr rfl, [_], ⟨.cell rfl ti23 (.whole rfl rfl rfl rfl rfl rfl) (.t _), trivial⟩, .refl _⟩)
      · try simp only [decide_eq_true_eq, decide_eq_false_iff_not, beq_iff_eq, bne_iff_ne, bne_eq_false_iff_eq, beq_eq_false_iff_ne, Bool.not_eq_true, Bool.not_eq_false, Bool.not_eq_true', Bool.not_eq_false', ne_eq] at h3
        refine awp_skip ?_
        refine awp_seq ?_
        refine awp_seq ?_
        refine awp_rw rfl ?_
        refine RW.op rfl rfl (eff_fieldAddr rfl rfl tf23_3 (by decide) rfl rfl rfl (Nat.le_of_ble_eq_true rfl)) ?_
        refine RW.op rfl rfl (eff_load (y := .t _) rfl rfl ti4 rfl (.one rfl rfl rfl rfl)) ?_
        refine RW.nil ?_
        refine awp_cond rfl (fun h5 => ?_) (fun h5 => ?_)
        · try simp only [decide_eq_true_eq, decide_eq_false_iff_not, beq_iff_eq, bne_iff_ne, bne_eq_false_iff_eq, beq_eq_false_iff_ne, Bool.not_eq_true, Bool.not_eq_false, Bool.not_eq_true', Bool.not_eq_false', ne_eq] at h5
          refine awp_seq ?_
          refine awp_rw rfl ?_
          refine RW.op rfl rfl (eff_load rfl rfl ti23 rfl (.whole rfl rfl rfl rfl rfl rfl)) ?_
          refine RW.store rfl rfl (eff_storeW (v := .t _) (els := [_]) (els' := [_]) rfl rfl ti23 rfl rfl rfl rfl rfl rfl rfl rfl rfl) ?_
          refine RW.nil ?_
          refine awp_ret ?_
          first
            | (rw [apply_stay (Or.inl (by assumption))]; exact ⟨Or.inr rfl, [_], ⟨.cell rfl ti23 (.whole rfl rfl rfl rfl rfl rfl) (.t _), trivial⟩, .refl _⟩)
            | (rw [apply_stay (Or.inr (by assumption))]; exact ⟨Or.inr rfl, [_], ⟨.cell rfl ti23 (.whole rfl rfl rfl rfl rfl rfl) (.t _), trivial⟩, .refl _⟩)
            | (rw [apply_unl (by rintro (h | h) <;> (try dsimp only [w64] at h) <;> omega) (by assumption) (if_pos (by assumption))]; exact ⟨Or.inr rfl, [_], ⟨.cell rfl ti23 (.whole rfl rfl rfl rfl rfl rfl) (.t _), trivial⟩, .refl _⟩)
            | (rw [apply_unl (by rintro (h | h) <;> (try dsimp only [w64] at h) <;> omega) (by assumption) (if_neg (by assumption))]; exact ⟨Or.inr rfl, [_], ⟨.cell rfl ti23 (.whole rfl rfl rfl rfl rfl rfl) (.t _), trivial⟩, .refl _⟩)
            | (rw [apply_lock (by rintro (h | h) <;> (try dsimp only [w64] at h) <;> omega) (by assumption) (by assumption)]; exact ⟨Or.inr rfl, [_], ⟨.cell rfl ti23 (.whole rfl rfl rfl rfl rfl rfl) (.t _), trivial⟩, .refl _⟩)
            | (rw [apply_zero (by rintro (h | h) <;> (try dsimp only [w64] at h) <;> omega) (by assumption) (by assumption) (by assumption), show ones ((h : Nat) : Int) = k from htr, show (Int.toNat ((h : Nat) : Int)) / 2 ^ (1 + k) = hv h (k + 1) from by rw [hv_eq, Nat.add_comm 1 k]; rfl]; exact ⟨Or.inr rfl, [_], ⟨.cell rfl ti23 (.whole rfl rfl rfl rfl rfl rfl) (.t _), trivial⟩, .refl _⟩)
            | (rw [apply_near (by rintro (h | h) <;> (try dsimp only [w64] at h) <;> omega) (by assumption) (by assumption) (by assumption) (by assumption), show (Int.toNat ((h : Nat) : Int) ||| 2 ^ (dist f ⟨nx, ((h : Nat) : Int), ky, lk⟩ - 1).toNat) = h from or_set (by assumption)]; exact ⟨Or.inr rfl, [_], ⟨.cell rfl ti23 (.whole rfl rfl rfl rfl rfl rfl) (.t _), trivial⟩, .refl _⟩)
            | (rw [apply_near (by rintro (h | h) <;> (try dsimp only [w64] at h) <;> omega) (by assumption) (by assumption) (by assumption) (by assumption), show (Int.toNat ((h : Nat) : Int) ||| 2 ^ (dist f ⟨nx, ((h : Nat) : Int), ky, lk⟩ - 1).toNat) = h + 2 ^ (dist f ⟨nx, ((h : Nat) : Int), ky, lk⟩ - 1).toNat from (or_add hh (by omega) (by assumption)).symm]; exact ⟨Or.inr rfl, [_], ⟨.cell rfl ti23 (.whole rfl rfl rfl rfl rfl rfl) (.t _), trivial⟩, .refl _⟩)
            | (rw [apply_far (by rintro (h | h) <;> (try dsimp only [w64] at h) <;> omega) (by assumption) (by assumption) (by omega) rfl]; exact ⟨Or.inr rfl, [_], ⟨.cell rfl ti23 (.whole rfl rfl rfl rfl rfl rfl) (.t _), trivial⟩, .refl _⟩)
        · try simp only [decide_eq_true_eq, decide_eq_false_iff_not, beq_iff_eq, bne_iff_ne, bne_eq_false_iff_eq, beq_eq_false_iff_ne, Bool.not_eq_true, Bool.not_eq_false, Bool.not_eq_true', Bool.not_eq_false', ne_eq] at h5
          refine awp_skip ?_
          refine awp_seq ?_
          refine awp_seq ?_
          refine awp_rw rfl ?_
          refine RW.op rfl rfl (eff_move (v := .t _) rfl rfl rfl) ?_
          refine RW.op rfl rfl (eff_iop rfl rfl rfl rfl rfl) ?_
          refine RW.nil ?_
          refine awp_cond rfl (fun h6 => ?_) (fun h6 => ?_)
          · try simp only [decide_eq_true_eq, decide_eq_false_iff_not, beq_iff_eq, bne_iff_ne, bne_eq_false_iff_eq, beq_eq_false_iff_ne, Bool.not_eq_true, Bool.not_eq_false, Bool.not_eq_true', Bool.not_eq_false', ne_eq] at h6
            refine awp_seq ?_
            refine awp_rw rfl ?_
            refine RW.op rfl rfl (eff_fieldAddr rfl rfl tf23_0 (by decide) rfl rfl rfl (Nat.le_of_ble_eq_true rfl)) ?_
            refine RW.op rfl rfl (eff_load (y := .t _) rfl rfl ti3 rfl (.one rfl rfl rfl rfl)) ?_
            refine RW.op rfl rfl (eff_iop rfl rfl rfl rfl rfl) ?_
            refine RW.op rfl rfl (eff_fieldAddr rfl rfl tf23_0 (by decide) rfl rfl rfl (Nat.le_of_ble_eq_true rfl)) ?_
            refine RW.store rfl rfl (eff_storeS (v := .t _) (ys := [_, _, _, _]) (els := [_]) (els' := [_]) rfl rfl ti3 rfl rfl rfl rfl rfl rfl rfl (Nat.le_of_ble_eq_true rfl) rfl rfl) ?_
            refine RW.nil ?_
            refine awp_seq ?_
            refine awp_block ?_
            refine awp_loopW (fun m s => ∃ (k : Nat), (k ≤ 15) ∧ (trl 64 h = k + trl (64 - k) (hv h k)) ∧ m = hv h k ∧ s = ⟨92, [(2, .ptr 2 0 0 0), (4, .ptr 4 0 0 0)], [(2, some ⟨4, 23, 0, [.t (encR ⟨w64 (nx + (1 + ((k : Nat) : Int))), ((hv h k : Nat) : Int), w64 (f.key + 1), lk⟩)]⟩), (4, some ⟨4, 23, 0, [.t z23]⟩)]⟩) (_) (⟨_, weak_keep (n := 92) (fr' := [(2, .ptr 2 0 0 0), (4, .ptr 4 0 0 0)]) (st' := [(2, some ⟨4, 23, 0, [.t (encR ⟨w64 (nx + (1 + ((0 : Nat) : Int))), ((hv h 0 : Nat) : Int), w64 (f.key + 1), lk⟩)]⟩), (4, some ⟨4, 23, 0, [.t z23]⟩)]) ⟨rfl, rfl, rfl, rfl, trivial⟩ ⟨by first | rfl | (rw [← w64_step nx k]; rfl), okE_one rfl, rfl, okE_one rfl, trivial⟩, 0, (by omega), (by simp [hv]), rfl, rfl⟩) ?_
            rintro m s ⟨k, hk, htr, rfl, rfl⟩
            have hq := hv_le h k
            refine awp_seq ?_
            refine awp_seq ?_
            refine awp_rw rfl ?_
            refine RW.op rfl rfl (eff_fieldAddr rfl rfl tf23_1 (by decide) rfl rfl rfl (Nat.le_of_ble_eq_true rfl)) ?_
            refine RW.op rfl rfl (eff_load (y := .t _) rfl rfl ti3 rfl (.one rfl rfl rfl rfl)) ?_
            refine RW.op rfl rfl (eff_remE (r := ((hv h k % 2 : Nat) : Int)) rfl rfl rfl rfl (by decide) (by rw [tmod_pos (Int.natCast_nonneg _)]; rfl)) ?_
            refine RW.op rfl rfl (eff_iop rfl rfl rfl rfl rfl) ?_
            refine RW.nil ?_
            refine awp_cond rfl (fun h7 => ?_) (fun h7 => ?_)
            · try simp only [decide_eq_true_eq, decide_eq_false_iff_not, beq_iff_eq, bne_iff_ne, bne_eq_false_iff_eq, beq_eq_false_iff_ne, Bool.not_eq_true, Bool.not_eq_false, Bool.not_eq_true', Bool.not_eq_false', ne_eq] at h7
              refine awp_skip ?_
              refine awp_block ?_
              refine awp_seq ?_
              refine awp_rw rfl ?_
              refine RW.op rfl rfl (eff_fieldAddr rfl rfl tf23_0 (by decide) rfl rfl rfl (Nat.le_of_ble_eq_true rfl)) ?_
              refine RW.op rfl rfl (eff_load (y := .t _) rfl rfl ti3 rfl (.one rfl rfl rfl rfl)) ?_
              refine RW.op rfl rfl (eff_iop rfl rfl rfl rfl rfl) ?_
              refine RW.op rfl rfl (eff_fieldAddr rfl rfl tf23_0 (by decide) rfl rfl rfl (Nat.le_of_ble_eq_true rfl)) ?_
              refine RW.store rfl rfl (eff_storeS (v := .t _) (ys := [_, _, _, _]) (els := [_]) (els' := [_]) rfl rfl ti3 rfl rfl rfl rfl rfl rfl rfl (Nat.le_of_ble_eq_true rfl) rfl rfl) ?_
              refine RW.nil ?_
              refine awp_rw rfl ?_
              refine RW.op rfl rfl (eff_fieldAddr rfl rfl tf23_1 (by decide) rfl rfl rfl (Nat.le_of_ble_eq_true rfl)) ?_
              refine RW.op rfl rfl (eff_load (y := .t _) rfl rfl ti3 rfl (.one rfl rfl rfl rfl)) ?_
              refine RW.op rfl rfl (eff_quoE (r := ((hv h (k + 1) : Nat) : Int)) rfl rfl rfl rfl (by decide) (half_hv h k hh)) ?_
              refine RW.op rfl rfl (eff_fieldAddr rfl rfl tf23_1 (by decide) rfl rfl rfl (Nat.le_of_ble_eq_true rfl)) ?_
              refine RW.store rfl rfl (eff_storeS (v := .t _) (ys := [_, _, _, _]) (els := [_]) (els' := [_]) rfl rfl ti3 rfl rfl rfl rfl rfl rfl rfl (Nat.le_of_ble_eq_true rfl) rfl rfl) ?_
              refine RW.nil ?_
              have hodd : hv h k % 2 = 1 := by omega
              have hk15 : k ≠ 15 := by rintro rfl; rw [hv_big hh] at hodd; cases hodd
              have htr2 := trl_step hk htr hodd
              have hws := w64_step nx k
              have hhalf : hv h (k + 1) = hv h k / 2 := rfl
              refine ⟨_, ?_, _, weak_keep (n := 92) (fr' := [(2, .ptr 2 0 0 0), (4, .ptr 4 0 0 0)]) (st' := [(2, some ⟨4, 23, 0, [.t (encR ⟨w64 (nx + (1 + (((k + 1) : Nat) : Int))), ((hv h (k + 1) : Nat) : Int), w64 (f.key + 1), lk⟩)]⟩), (4, some ⟨4, 23, 0, [.t z23]⟩)]) ⟨rfl, rfl, rfl, rfl, trivial⟩ ⟨by first | rfl | (rw [← w64_step nx k]; rfl), okE_one rfl, rfl, okE_one rfl, trivial⟩, k + 1, (by omega), (by exact htr2), rfl, rfl⟩
              omega
            · try simp only [decide_eq_true_eq, decide_eq_false_iff_not, beq_iff_eq, bne_iff_ne, bne_eq_false_iff_eq, beq_eq_false_iff_ne, Bool.not_eq_true, Bool.not_eq_false, Bool.not_eq_true', Bool.not_eq_false', ne_eq] at h7
              refine awp_exit ?_
              refine awp_seq ?_
              refine awp_rw rfl ?_
              have htr := trl_end htr (by omega)
              refine RW.op rfl rfl (eff_fieldAddr rfl rfl tf23_1 (by decide) rfl rfl rfl (Nat.le_of_ble_eq_true rfl)) ?_
              refine RW.op rfl rfl (eff_load (y := .t _) rfl rfl ti3 rfl (.one rfl rfl rfl rfl)) ?_
              refine RW.op rfl rfl (eff_quoE (r := ((hv h (k + 1) : Nat) : Int)) rfl rfl rfl rfl (by decide) (half_hv h k hh)) ?_
              refine RW.op rfl rfl (eff_fieldAddr rfl rfl tf23_1 (by decide) rfl rfl rfl (Nat.le_of_ble_eq_true rfl)) ?_
              refine RW.store rfl rfl (eff_storeS (v := .t _) (ys := [_, _, _, _]) (els := [_]) (els' := [_]) rfl rfl ti3 rfl rfl rfl rfl rfl rfl rfl (Nat.le_of_ble_eq_true rfl) rfl rfl) ?_
              refine RW.nil ?_
              refine awp_seq ?_
              refine awp_rw rfl ?_
              refine RW.op rfl rfl (eff_load rfl rfl ti23 rfl (.whole rfl rfl rfl rfl rfl rfl)) ?_
              refine RW.store rfl rfl (eff_storeW (v := .t _) (els := [_]) (els' := [_]) rfl rfl ti23 rfl rfl rfl rfl rfl rfl rfl rfl rfl) ?_
              refine RW.nil ?_
              refine awp_ret ?_
              first
                | (rw [apply_stay (Or.inl (by assumption))]; exact ⟨Or.inr rfl, [_], ⟨.cell rfl ti23 (.whole rfl rfl rfl rfl rfl rfl) (.t _), trivial⟩, .refl _⟩)
                | (rw [apply_stay (Or.inr (by assumption))]; exact ⟨Or.inr rfl, [_], ⟨.cell rfl ti23 (.whole rfl rfl rfl rfl rfl rfl) (.t _), trivial⟩, .refl _⟩)
                | (rw [apply_unl (by rintro (h | h) <;> (try dsimp only [w64] at h) <;> omega) (by assumption) (if_pos (by assumption))]; exact ⟨Or.inr rfl, [_], ⟨.cell rfl ti23 (.whole rfl rfl rfl rfl rfl rfl) (.t _), trivial⟩, .refl _⟩)
                | (rw [apply_unl (by rintro (h | h) <;> (try dsimp only [w64] at h) <;> omega) (by assumption) (if_neg (by assumption))]; exact ⟨Or.inr rfl, [_], ⟨.cell rfl ti23 (.whole rfl rfl rfl rfl rfl rfl) (.t _), trivial⟩, .refl _⟩)
                | (rw [apply_lock (by rintro (h | h) <;> (try dsimp only [w64] at h) <;> omega) (by assumption) (by assumption)]; exact ⟨Or.inr rfl, [_], ⟨.cell rfl ti23 (.whole rfl rfl rfl rfl rfl rfl) (.t _), trivial⟩, .refl _⟩)
                | (rw [apply_zero (by rintro (h | h) <;> (try dsimp only [w64] at h) <;> omega) (by assumption) (by assumption) (by assumption), show ones ((h : Nat) : Int) = k from htr, show (Int.toNat ((h : Nat) : Int)) / 2 ^ (1 + k) = hv h (k + 1) from by rw [hv_eq, Nat.add_comm 1 k]; rfl]; exact ⟨Or.inr rfl, [_], ⟨.cell rfl ti23 (.whole rfl rfl rfl rfl rfl rfl) (.t _), trivial⟩, .refl _⟩)
                | (rw [apply_near (by rintro (h | h) <;> (try dsimp only [w64] at h) <;> omega) (by assumption) (by assumption) (by assumption) (by assumption), show (Int.toNat ((h : Nat) : Int) ||| 2 ^ (dist f ⟨nx, ((h : Nat) : Int), ky, lk⟩ - 1).toNat) = h from or_set (by assumption)]; exact ⟨Or.inr rfl, [_], ⟨.cell rfl ti23 (.whole rfl rfl rfl rfl rfl rfl) (.t _), trivial⟩, .refl _⟩)
                | (rw [apply_near (by rintro (h | h) <;> (try dsimp only [w64] at h) <;> omega) (by assumption) (by assumption) (by assumption) (by assumption), show (Int.toNat ((h : Nat) : Int) ||| 2 ^ (dist f ⟨nx, ((h : Nat) : Int), ky, lk⟩ - 1).toNat) = h + 2 ^ (dist f ⟨nx, ((h : Nat) : Int), ky, lk⟩ - 1).toNat from (or_add hh (by omega) (by assumption)).symm]; exact ⟨Or.inr rfl, [_], ⟨.cell rfl ti23 (.whole rfl rfl rfl rfl rfl rfl) (.t _), trivial⟩, .refl _⟩)
                | (rw [apply_far (by rintro (h | h) <;> (try dsimp only [w64] at h) <;> omega) (by assumption) (by assumption) (by omega) rfl]; exact ⟨Or.inr rfl, [_], ⟨.cell rfl ti23 (.whole rfl rfl rfl rfl rfl rfl) (.t _), trivial⟩, .refl _⟩)
          · try simp only [decide_eq_true_eq, decide_eq_false_iff_not, beq_iff_eq, bne_iff_ne, bne_eq_false_iff_eq, beq_eq_false_iff_ne, Bool.not_eq_true, Bool.not_eq_false, Bool.not_eq_true', Bool.not_eq_false', ne_eq] at h6
            refine awp_skip ?_
            refine awp_seq ?_
            refine awp_seq ?_
            refine awp_rw rfl ?_
            refine RW.op rfl rfl (eff_move (v := .t _) rfl rfl rfl) ?_
            refine RW.op rfl rfl (eff_iop rfl rfl rfl rfl rfl) ?_
            refine RW.nil ?_
            refine awp_cond rfl (fun h8 => ?_) (fun h8 => ?_)
            · try simp only [decide_eq_true_eq, decide_eq_false_iff_not, beq_iff_eq, bne_iff_ne, bne_eq_false_iff_eq, beq_eq_false_iff_ne, Bool.not_eq_true, Bool.not_eq_false, Bool.not_eq_true', Bool.not_eq_false', ne_eq] at h8
              refine awp_seq ?_
              refine awp_rw rfl ?_
              refine RW.op rfl rfl (eff_fieldAddr rfl rfl tf23_1 (by decide) rfl rfl rfl (Nat.le_of_ble_eq_true rfl)) ?_
              refine RW.op rfl rfl (eff_load (y := .t _) rfl rfl ti3 rfl (.one rfl rfl rfl rfl)) ?_
              refine RW.op rfl rfl (eff_move (v := .t _) rfl rfl rfl) ?_
              refine RW.op rfl rfl (eff_iop rfl rfl rfl rfl (isubN (by omega) (by omega))) ?_
              refine RW.op rfl rfl (eff_callT (bit_ret h _ hh (by omega)) co41 rfl rfl rfl rfl) ?_
              refine RW.op rfl rfl (eff_assign (v := .t _) rfl rfl rfl) ?_
              refine RW.nil ?_
              refine awp_seq ?_
              refine awp_seq ?_
              refine awp_rw rfl ?_
              refine RW.op rfl rfl (eff_move (v := .t _) rfl rfl rfl) ?_
              refine RW.op rfl rfl (eff_unop rfl rfl rfl rfl) ?_
              refine RW.nil ?_
              refine awp_cond rfl (fun h9 => ?_) (fun h9 => ?_)
              · try simp only [decide_eq_true_eq, decide_eq_false_iff_not, beq_iff_eq, bne_iff_ne, bne_eq_false_iff_eq, beq_eq_false_iff_ne, Bool.not_eq_true, Bool.not_eq_false, Bool.not_eq_true', Bool.not_eq_false', ne_eq] at h9
                refine awp_rd [(some 80, []), (some 81, []), (some 82, []), (some 83, []), (some 84, []), (some 85, []), (some 86, []), (none, [2])] [[], [0], [], [2], [2, 3], [0, 1, 2, 3, 4], [0, 1, 2, 3, 4, 5], [0, 1, 2, 3, 4, 5, 6]] tm rfl rfl rfl rfl ?_
                have hp15 : 2 ^ (dist f ⟨nx, ((h : Nat) : Int), ky, lk⟩ - 1).toNat < 2 ^ 15 := Nat.pow_lt_pow_right (by decide) (by omega)
                refine RD.op rfl rfl rfl (eff_fieldAddr rfl rfl tf23_1 (by decide) rfl rfl rfl (Nat.le_of_ble_eq_true rfl)) ?_
                refine RD.op rfl rfl rfl (eff_load (y := .t _) rfl rfl ti3 rfl (.one rfl rfl rfl rfl)) ?_
                refine RD.op rfl rfl rfl (eff_move (v := .t _) rfl rfl rfl) ?_
                refine RD.op rfl rfl rfl (eff_iop rfl rfl rfl rfl (isubN (by omega) (by omega))) ?_
                refine RD.op rfl rfl rfl (eff_callT (power_ret _ (by omega)) co42 rfl rfl rfl rfl) ?_
                refine RD.op rfl rfl rfl (eff_iop rfl rfl rfl rfl (addN (by omega))) ?_
                refine RD.op rfl rfl rfl (eff_fieldAddr rfl rfl tf23_1 (by decide) rfl rfl rfl (Nat.le_of_ble_eq_true rfl)) ?_
                refine RD.store rfl rfl rfl (eff_storeS (v := .t _) (ys := [_, _, _, _]) (els := [_]) (els' := [_]) rfl rfl ti3 rfl rfl rfl rfl rfl rfl rfl (Nat.le_of_ble_eq_true rfl) rfl rfl) ?_
                refine RD.nil ?_
                refine awp_seq ?_
                refine awp_rw rfl ?_
                refine RW.op rfl rfl (eff_load rfl rfl ti23 rfl (.whole rfl rfl rfl rfl rfl rfl)) ?_
                refine RW.store rfl rfl (eff_storeW (v := .t _) (els := [_]) (els' := [_]) rfl rfl ti23 rfl rfl rfl rfl rfl rfl rfl rfl rfl) ?_
                refine RW.nil ?_
                refine awp_ret ?_
                first
                  | (rw [apply_stay (Or.inl (by assumption))]; exact ⟨Or.inr rfl, [_], ⟨.cell rfl ti23 (.whole rfl rfl rfl rfl rfl rfl) (.t _), trivial⟩, .refl _⟩)
                  | (rw [apply_stay (Or.inr (by assumption))]; exact ⟨Or.inr rfl, [_], ⟨.cell rfl ti23 (.whole rfl rfl rfl rfl rfl rfl) (.t _), trivial⟩, .refl _⟩)
                  | (rw [apply_unl (by rintro (h | h) <;> (try dsimp only [w64] at h) <;> omega) (by assumption) (if_pos (by assumption))]; exact ⟨Or.inr rfl, [_], ⟨.cell rfl ti23 (.whole rfl rfl rfl rfl rfl rfl) (.t _), trivial⟩, .refl _⟩)
                  | (rw [apply_unl (by rintro (h | h) <;> (try dsimp only [w64] at h) <;> omega) (by assumption) (if_neg (by assumption))]; exact ⟨Or.inr rfl, [_], ⟨.cell rfl ti23 (.whole rfl rfl rfl rfl rfl rfl) (.t _), trivial⟩, .refl _⟩)
                  | (rw [apply_lock (by rintro (h | h) <;> (try dsimp only [w64] at h) <;> omega) (by assumption) (by assumption)]; exact ⟨Or.inr rfl, [_], ⟨.cell rfl ti23 (.whole rfl rfl rfl rfl rfl rfl) (.t _), trivial⟩, .refl _⟩)
                  | (rw [apply_zero (by rintro (h | h) <;> (try dsimp only [w64] at h) <;> omega) (by assumption) (by assumption) (by assumption), show ones ((h : Nat) : Int) = k from htr, show (Int.toNat ((h : Nat) : Int)) / 2 ^ (1 + k) = hv h (k + 1) from by rw [hv_eq, Nat.add_comm 1 k]; rfl]; exact ⟨Or.inr rfl, [_], ⟨.cell rfl ti23 (.whole rfl rfl rfl rfl rfl rfl) (.t _), trivial⟩, .refl _⟩)
                  | (rw [apply_near (by rintro (h | h) <;> (try dsimp only [w64] at h) <;> omega) (by assumption) (by assumption) (by assumption) (by assumption), show (Int.toNat ((h : Nat) : Int) ||| 2 ^ (dist f ⟨nx, ((h : Nat) : Int), ky, lk⟩ - 1).toNat) = h from or_set (by assumption)]; exact ⟨Or.inr rfl, [_], ⟨.cell rfl ti23 (.whole rfl rfl rfl rfl rfl rfl) (.t _), trivial⟩, .refl _⟩)
                  | (rw [apply_near (by rintro (h | h) <;> (try dsimp only [w64] at h) <;> omega) (by assumption) (by assumption) (by assumption) (by assumption), show (Int.toNat ((h : Nat) : Int) ||| 2 ^ (dist f ⟨nx, ((h : Nat) : Int), ky, lk⟩ - 1).toNat) = h + 2 ^ (dist f ⟨nx, ((h : Nat) : Int), ky, lk⟩ - 1).toNat from (or_add hh (by omega) (by assumption)).symm]; exact ⟨Or.inr rfl, [_], ⟨.cell rfl ti23 (.whole rfl rfl rfl rfl rfl rfl) (.t _), trivial⟩, .refl _⟩)
                  | (rw [apply_far (by rintro (h | h) <;> (try dsimp only [w64] at h) <;> omega) (by assumption) (by assumption) (by omega) rfl]; exact ⟨Or.inr rfl, [_], ⟨.cell rfl ti23 (.whole rfl rfl rfl rfl rfl rfl) (.t _), trivial⟩, .refl _⟩)
              · try simp only [decide_eq_true_eq, decide_eq_false_iff_not, beq_iff_eq, bne_iff_ne, bne_eq_false_iff_eq, beq_eq_false_iff_ne, Bool.not_eq_true, Bool.not_eq_false, Bool.not_eq_true', Bool.not_eq_false', ne_eq] at h9
                refine awp_skip ?_
                refine awp_seq ?_
                refine awp_rw rfl ?_
                refine RW.op rfl rfl (eff_load rfl rfl ti23 rfl (.whole rfl rfl rfl rfl rfl rfl)) ?_
                refine RW.store rfl rfl (eff_storeW (v := .t _) (els := [_]) (els' := [_]) rfl rfl ti23 rfl rfl rfl rfl rfl rfl rfl rfl rfl) ?_
                refine RW.nil ?_
                refine awp_ret ?_
                first
                  | (rw [apply_stay (Or.inl (by assumption))]; exact ⟨Or.inr rfl, [_], ⟨.cell rfl ti23 (.whole rfl rfl rfl rfl rfl rfl) (.t _), trivial⟩, .refl _⟩)
                  | (rw [apply_stay (Or.inr (by assumption))]; exact ⟨Or.inr rfl, [_], ⟨.cell rfl ti23 (.whole rfl rfl rfl rfl rfl rfl) (.t _), trivial⟩, .refl _⟩)
                  | (rw [apply_unl (by rintro (h | h) <;> (try dsimp only [w64] at h) <;> omega) (by assumption) (if_pos (by assumption))]; exact ⟨Or.inr rfl, [_], ⟨.cell rfl ti23 (.whole rfl rfl rfl rfl rfl rfl) (.t _), trivial⟩, .refl _⟩)
                  | (rw [apply_unl (by rintro (h | h) <;> (try dsimp only [w64] at h) <;> omega) (by assumption) (if_neg (by assumption))]; exact ⟨Or.inr rfl, [_], ⟨.cell rfl ti23 (.whole rfl rfl rfl rfl rfl rfl) (.t _), trivial⟩, .refl _⟩)
                  | (rw [apply_lock (by rintro (h | h) <;> (try dsimp only [w64] at h) <;> omega) (by assumption) (by assumption)]; exact ⟨Or.inr rfl, [_], ⟨.cell rfl ti23 (.whole rfl rfl rfl rfl rfl rfl) (.t _), trivial⟩, .refl _⟩)
                  | (rw [apply_zero (by rintro (h | h) <;> (try dsimp only [w64] at h) <;> omega) (by assumption) (by assumption) (by assumption), show ones ((h : Nat) : Int) = k from htr, show (Int.toNat ((h : Nat) : Int)) / 2 ^ (1 + k) = hv h (k + 1) from by rw [hv_eq, Nat.add_comm 1 k]; rfl]; exact ⟨Or.inr rfl, [_], ⟨.cell rfl ti23 (.whole rfl rfl rfl rfl rfl rfl) (.t _), trivial⟩, .refl _⟩)
                  | (rw [apply_near (by rintro (h | h) <;> (try dsimp only [w64] at h) <;> omega) (by assumption) (by assumption) (by assumption) (by assumption), show (Int.toNat ((h : Nat) : Int) ||| 2 ^ (dist f ⟨nx, ((h : Nat) : Int), ky, lk⟩ - 1).toNat) = h from or_set (by assumption)]; exact ⟨Or.inr rfl, [_], ⟨.cell rfl ti23 (.whole rfl rfl rfl rfl rfl rfl) (.t _), trivial⟩, .refl _⟩)
                  | (rw [apply_near (by rintro (h | h) <;> (try dsimp only [w64] at h) <;> omega) (by assumption) (by assumption) (by assumption) (by assumption), show (Int.toNat ((h : Nat) : Int) ||| 2 ^ (dist f ⟨nx, ((h : Nat) : Int), ky, lk⟩ - 1).toNat) = h + 2 ^ (dist f ⟨nx, ((h : Nat) : Int), ky, lk⟩ - 1).toNat from (or_add hh (by omega) (by assumption)).symm]; exact ⟨Or.inr rfl, [_], ⟨.cell rfl ti23 (.whole rfl rfl rfl rfl rfl rfl) (.t _), trivial⟩, .refl _⟩)
                  | (rw [apply_far (by rintro (h | h) <;> (try dsimp only [w64] at h) <;> omega) (by assumption) (by assumption) (by omega) rfl]; exact ⟨Or.inr rfl, [_], ⟨.cell rfl ti23 (.whole rfl rfl rfl rfl rfl rfl) (.t _), trivial⟩, .refl _⟩)
            · try simp only [decide_eq_true_eq, decide_eq_false_iff_not, beq_iff_eq, bne_iff_ne, bne_eq_false_iff_eq, beq_eq_false_iff_ne, Bool.not_eq_true, Bool.not_eq_false, Bool.not_eq_true', Bool.not_eq_false', ne_eq] at h8
              refine awp_skip ?_
              refine awp_seq ?_
              refine awp_rw rfl ?_
              refine RW.op rfl rfl (eff_move (v := .t _) rfl rfl rfl) ?_
              refine RW.op rfl rfl (eff_iop rfl rfl rfl rfl rfl) ?_
              refine RW.op rfl rfl (eff_fieldAddr rfl rfl tf23_3 (by decide) rfl rfl rfl (Nat.le_of_ble_eq_true rfl)) ?_
              refine RW.store rfl rfl (eff_storeS (v := .t _) (ys := [_, _, _, _]) (els := [_]) (els' := [_]) rfl rfl ti4 rfl rfl rfl rfl rfl rfl rfl (Nat.le_of_ble_eq_true rfl) rfl rfl) ?_
              refine RW.nil ?_
              refine awp_seq ?_
              refine awp_rw rfl ?_
              refine RW.op rfl rfl (eff_load rfl rfl ti23 rfl (.whole rfl rfl rfl rfl rfl rfl)) ?_
              refine RW.store rfl rfl (eff_storeW (v := .t _) (els := [_]) (els' := [_]) rfl rfl ti23 rfl rfl rfl rfl rfl rfl rfl rfl rfl) ?_
              refine RW.nil ?_
              refine awp_ret ?_
              first
                | (rw [apply_stay (Or.inl (by assumption))]; exact ⟨Or.inr rfl, [_], ⟨.cell rfl ti23 (.whole rfl rfl rfl rfl rfl rfl) (.t _), trivial⟩, .refl _⟩)
                | (rw [apply_stay (Or.inr (by assumption))]; exact ⟨Or.inr rfl, [_], ⟨.cell rfl ti23 (.whole rfl rfl rfl rfl rfl rfl) (.t _), trivial⟩, .refl _⟩)
                | (rw [apply_unl (by rintro (h | h) <;> (try dsimp only [w64] at h) <;> omega) (by assumption) (if_pos (by assumption))]; exact ⟨Or.inr rfl, [_], ⟨.cell rfl ti23 (.whole rfl rfl rfl rfl rfl rfl) (.t _), trivial⟩, .refl _⟩)
                | (rw [apply_unl (by rintro (h | h) <;> (try dsimp only [w64] at h) <;> omega) (by assumption) (if_neg (by assumption))]; exact ⟨Or.inr rfl, [_], ⟨.cell rfl ti23 (.whole rfl rfl rfl rfl rfl rfl) (.t _), trivial⟩, .refl _⟩)
                | (rw [apply_lock (by rintro (h | h) <;> (try dsimp only [w64] at h) <;> omega) (by assumption) (by assumption)]; exact ⟨Or.inr rfl, [_], ⟨.cell rfl ti23 (.whole rfl rfl rfl rfl rfl rfl) (.t _), trivial⟩, .refl _⟩)
                | (rw [apply_zero (by rintro (h | h) <;> (try dsimp only [w64] at h) <;> omega) (by assumption) (by assumption) (by assumption), show ones ((h : Nat) : Int) = k from htr, show (Int.toNat ((h : Nat) : Int)) / 2 ^ (1 + k) = hv h (k + 1) from by rw [hv_eq, Nat.add_comm 1 k]; rfl]; exact ⟨Or.inr rfl, [_], ⟨.cell rfl ti23 (.whole rfl rfl rfl rfl rfl rfl) (.t _), trivial⟩, .refl _⟩)
                | (rw [apply_near (by rintro (h | h) <;> (try dsimp only [w64] at h) <;> omega) (by assumption) (by assumption) (by assumption) (by assumption), show (Int.toNat ((h : Nat) : Int) ||| 2 ^ (dist f ⟨nx, ((h : Nat) : Int), ky, lk⟩ - 1).toNat) = h from or_set (by assumption)]; exact ⟨Or.inr rfl, [_], ⟨.cell rfl ti23 (.whole rfl rfl rfl rfl rfl rfl) (.t _), trivial⟩, .refl _⟩)
                | (rw [apply_near (by rintro (h | h) <;> (try dsimp only [w64] at h) <;> omega) (by assumption) (by assumption) (by assumption) (by assumption), show (Int.toNat ((h : Nat) : Int) ||| 2 ^ (dist f ⟨nx, ((h : Nat) : Int), ky, lk⟩ - 1).toNat) = h + 2 ^ (dist f ⟨nx, ((h : Nat) : Int), ky, lk⟩ - 1).toNat from (or_add hh (by omega) (by assumption)).symm]; exact ⟨Or.inr rfl, [_], ⟨.cell rfl ti23 (.whole rfl rfl rfl rfl rfl rfl) (.t _), trivial⟩, .refl _⟩)
                | (rw [apply_far (by rintro (h | h) <;> (try dsimp only [w64] at h) <;> omega) (by assumption) (by assumption) (by omega) rfl]; exact ⟨Or.inr rfl, [_], ⟨.cell rfl ti23 (.whole rfl rfl rfl rfl rfl rfl) (.t _), trivial⟩, .refl _⟩)

end Go.Tv.C34

end
section
open Go Go.Tv Go.Proofs
namespace Go.Tv.C34

/-! ### put -/
theorem put_at : ∀ (l : List Rep) (x : Rep) (k : Nat), k ≤ l.length → (∀ y, y ∈ l.take k → less y x = true) → put l x = l.take k ++ put (l.drop k) x
  | l, x, 0, _, _ => by simp
  | [], x, k + 1, h, _ => by simp at h
  | a :: l, x, k + 1, h, ha => by
    rw [List.take_succ_cons, List.drop_succ_cons, List.cons_append, ← put_at l x k (by simpa using h) (fun y hy => ha y (by rw [List.take_succ_cons]; exact List.mem_cons_of_mem _ hy))]
    rw [put, if_pos (ha a (by simp))]
theorem put_same {l : List Rep} {x : Rep} {k : Nat} (hk : k < l.length) (ha : ∀ y, y ∈ l.take k → less y x = true) (hl : less l[k] x = false) (he : l[k] = x) : put l x = l := by
  rw [put_at l x k (by omega) ha, List.drop_eq_getElem_cons hk, put, if_neg (by rw [hl]; decide), if_pos he]
  rw [← List.drop_eq_getElem_cons hk, List.take_append_drop]
theorem put_new {l : List Rep} {x : Rep} {k : Nat} (hk : k < l.length) (ha : ∀ y, y ∈ l.take k → less y x = true) (hl : less l[k] x = false) (he : l[k] ≠ x) : put l x = l.take k ++ x :: l.drop k := by
  rw [put_at l x k (by omega) ha, List.drop_eq_getElem_cons hk, put, if_neg (by rw [hl]; decide), if_neg he]
theorem put_end {l : List Rep} {x : Rep} {k : Nat} (hk : ¬ k < l.length) (hk2 : k ≤ l.length) (ha : ∀ y, y ∈ l.take k → less y x = true) : put l x = l.take k ++ x :: l.drop k := by
  rw [put_at l x k hk2 ha, List.drop_of_length_le (by omega), put]
theorem put_mem {l : List Rep} {x y : Rep} : y ∈ put l x ↔ y ∈ l ∨ y = x := by
  induction l with
  | nil => simp [put]
  | cons a l ih =>
    unfold put
    split
    · simp only [List.mem_cons, ih]
      constructor
      · rintro (h | h | h)
        · exact .inl (.inl h)
        · exact .inl (.inr h)
        · exact .inr h
      · rintro ((h | h) | h)
        · exact .inl h
        · exact .inr (.inl h)
        · exact .inr (.inr h)
    · split
      · rename_i h; subst h; simp only [List.mem_cons]; constructor
        · exact .inl
        · rintro (h | h)
          · exact h
          · exact .inl h
      · simp only [List.mem_cons]
        constructor
        · rintro (h | h | h)
          · exact .inr h
          · exact .inl (.inl h)
          · exact .inl (.inr h)
        · rintro ((h | h) | h)
          · exact .inr (.inl h)
          · exact .inr (.inr h)
          · exact .inl h
theorem put_len (l : List Rep) (x : Rep) : (put l x).length ≤ l.length + 1 := by
  induction l with
  | nil => simp [put]
  | cons a l ih =>
    unfold put
    split
    · simp only [List.length_cons]; omega
    · split <;> simp
theorem put_hp {l : List Rep} {x : Rep} (h : ∀ y, y ∈ l → HP y) (hx : HP x) : ∀ y, y ∈ put l x → HP y := fun y hy => by
  rcases put_mem.1 hy with h1 | rfl
  · exact h y h1
  · exact hx

/-- All states of now, also as f leads on from them, put into out. -/
def stepI (f : Frm) (out now : List Rep) : List Rep := now.foldl (fun o s => put o (apply s f)) out
def stepF (out : List Rep) (f : Frm) : List Rep := stepI f out out
theorem stepI_take {f : Frm} {out now : List Rep} {j : Nat} (h : j < now.length) : stepI f out (now.take (j + 1)) = put (stepI f out (now.take j)) (apply now[j] f) := by
  unfold stepI; rw [take_succ_get h, List.foldl_append]; rfl
theorem stepI_len (f : Frm) (out : List Rep) : ∀ (now : List Rep) (j : Nat), j ≤ now.length → (stepI f out (now.take j)).length ≤ out.length + j
  | now, 0, _ => by simp [stepI]
  | now, j + 1, h => by
    rw [stepI_take (by omega)]
    have := stepI_len f out now j (by omega)
    have := put_len (stepI f out (now.take j)) (apply now[j] f)
    omega
theorem stepI_hp {f : Frm} {out : List Rep} (ho : ∀ y, y ∈ out → HP y) : ∀ (now : List Rep) (_ : ∀ y, y ∈ now → HP y), ∀ y, y ∈ stepI f out now → HP y
  | [], _, y, hy => ho y hy
  | a :: l, hn, y, hy => by
    unfold stepI at hy
    rw [List.foldl_cons] at hy
    exact stepI_hp (put_hp ho (apply_hp (hn a List.mem_cons_self))) l (fun z hz => hn z (List.mem_cons_of_mem _ hz)) y hy
theorem stepI_mem {f : Frm} : ∀ (now out : List Rep) (y : Rep), y ∈ stepI f out now ↔ y ∈ out ∨ ∃ x, x ∈ now ∧ y = apply x f
  | [], out, y => by simp [stepI]
  | a :: l, out, y => by
    unfold stepI
    rw [List.foldl_cons]
    have := stepI_mem (f := f) l (put out (apply a f)) y
    unfold stepI at this
    rw [this, put_mem]
    constructor
    · rintro ((h | h) | ⟨x, hx, h⟩)
      · exact .inl h
      · exact .inr ⟨a, List.mem_cons_self, h⟩
      · exact .inr ⟨x, List.mem_cons_of_mem _ hx, h⟩
    · rintro (h | ⟨x, hx, h⟩)
      · exact .inl (.inl h)
      · rcases List.mem_cons.1 hx with rfl | hx
        · exact .inl (.inr h)
        · exact .inr ⟨x, hx, h⟩
theorem stepF_len (out : List Rep) (f : Frm) : (stepF out f).length ≤ 2 * out.length := by
  have := stepI_len f out out out.length (Nat.le_refl _)
  rw [List.take_length] at this
  unfold stepF; omega
theorem stepF_hp {out : List Rep} {f : Frm} (h : ∀ y, y ∈ out → HP y) : ∀ y, y ∈ stepF out f → HP y := stepI_hp h out h

def reachF (x : Rep) (l : List Frm) : List Rep := l.foldl stepF [x]
theorem reachF_take {x : Rep} {l : List Frm} {i : Nat} (h : i < l.length) : reachF x (l.take (i + 1)) = stepF (reachF x (l.take i)) l[i] := by
  unfold reachF; rw [take_succ_get h, List.foldl_append]; rfl

/-! ### Send and Hear -/
/-- f is not later than what was sent last. -/
def late (l : List Frm) (f : Frm) : Bool := match l.getLast? with
  | some x => decide (x.key ≥ f.key)
  | none => false
def send (t : Twn) (f : Frm) : Twn × Int :=
  if late t.sent f then (zt, 23)
  else if (stepF t.poss f).length > 256 then (zt, 2)
  else (⟨t.sent ++ [f], stepF t.poss f⟩, 0)
/-- The frames that a report leaves open. -/
def open_ (l : List Frm) (r : Rep) : List Frm := l.filter fun f => decide (r.key ≤ f.key)
def left_ (t : Twn) (r : Rep) : List Rep := t.poss.filter fun x => decide (x ∈ reachF r (open_ t.sent r))
def hear (t : Twn) (r : Rep) : Twn × Int := if left_ t r = [] then (zt, 45) else (⟨t.sent, left_ t r⟩, 0)

theorem late_at {l : List Frm} {f : Frm} (h : 0 < l.length) : late l f = decide (f.key ≤ (l[l.length - 1]).key) := by
  unfold late
  rw [List.getLast?_eq_getElem?, List.getElem?_eq_getElem (by omega)]
theorem late_nil {l : List Frm} {f : Frm} (h : ¬ 0 < l.length) : late l f = false := by
  obtain rfl : l = [] := List.length_eq_zero_iff.1 (by omega)
  rfl
theorem send_late {t : Twn} {f : Frm} (h : late t.sent f = true) : send t f = (zt, 23) := by unfold send; rw [if_pos h]
theorem send_many {t : Twn} {f : Frm} (h : late t.sent f = false) (h2 : ((stepF t.poss f).length : Int) > 256) : send t f = (zt, 2) := by unfold send; rw [if_neg (by rw [h]; decide), if_pos (by omega)]
theorem send_ok {t : Twn} {f : Frm} (h : late t.sent f = false) (h2 : ¬ ((stepF t.poss f).length : Int) > 256) : send t f = (⟨t.sent ++ [f], stepF t.poss f⟩, 0) := by unfold send; rw [if_neg (by rw [h]; decide), if_neg (by omega)]
theorem hear_no {t : Twn} {r : Rep} (h : ((left_ t r).length : Int) = 0) : hear t r = (zt, 45) := by unfold hear; rw [if_pos (List.length_eq_zero_iff.1 (by omega))]
theorem hear_ok {t : Twn} {r : Rep} (h : ¬ ((left_ t r).length : Int) = 0) : hear t r = (⟨t.sent, left_ t r⟩, 0) := by unfold hear; rw [if_neg (fun e => h (by rw [e]; rfl))]

theorem filter_take_succ {α : Type} {p : α → Bool} {l : List α} {i : Nat} (h : i < l.length) : (l.take (i + 1)).filter p = (l.take i).filter p ++ if p l[i] then [l[i]] else [] := by
  rw [take_succ_get h, List.filter_append]
  cases hp : p l[i] <;> simp [hp]
theorem pow_le_12 {i : Nat} (h : i ≤ 12) : 2 ^ i ≤ 4096 := Nat.pow_le_pow_right (n := 2) (by decide) h

theorem open_skip {l : List Frm} {r : Rep} {i : Nat} (h : i < l.length) (hk : (l[i]).key < r.key) : open_ (l.take (i + 1)) r = open_ (l.take i) r := by
  unfold open_; rw [filter_take_succ h, if_neg (by simp; omega), List.append_nil]
theorem open_take {l : List Frm} {r : Rep} {i : Nat} (h : i < l.length) (hk : ¬ (l[i]).key < r.key) : open_ (l.take (i + 1)) r = open_ (l.take i) r ++ [l[i]] := by
  unfold open_; rw [filter_take_succ h, if_pos (by simp; omega)]
theorem reach_skip {l : List Frm} {r : Rep} {i : Nat} (h : i < l.length) (hk : (l[i]).key < r.key) : reachF r (open_ (l.take (i + 1)) r) = reachF r (open_ (l.take i) r) := by rw [open_skip h hk]
theorem reach_more {l : List Frm} {r : Rep} {i : Nat} (h : i < l.length) (hk : ¬ (l[i]).key < r.key) : reachF r (open_ (l.take (i + 1)) r) = stepF (reachF r (open_ (l.take i) r)) l[i] := by
  rw [open_take h hk]; unfold reachF; rw [List.foldl_append]; rfl
theorem reachF_hp {x : Rep} (hx : HP x) : ∀ (l : List Frm) (out : List Rep), (∀ y, y ∈ out → HP y) → ∀ y, y ∈ l.foldl stepF out → HP y
  | [], out, h => h
  | f :: l, out, h => reachF_hp hx l (stepF out f) (stepF_hp h)
theorem reach_hp {x : Rep} (hx : HP x) (l : List Frm) : ∀ y, y ∈ reachF x l → HP y := reachF_hp hx l [x] (by intro y hy; rw [List.mem_singleton.1 hy]; exact hx)
theorem reachF_len : ∀ (l : List Frm) (out : List Rep), (l.foldl stepF out).length ≤ out.length * 2 ^ l.length
  | [], out => by simp
  | f :: l, out => by
    have h1 := reachF_len l (stepF out f)
    have h2 := stepF_len out f
    rw [List.foldl_cons, List.length_cons, Nat.pow_succ]
    calc _ ≤ _ := h1
      _ ≤ (2 * out.length) * 2 ^ l.length := Nat.mul_le_mul_right _ h2
      _ = out.length * (2 ^ l.length * 2) := by rw [Nat.mul_comm 2, Nat.mul_assoc, Nat.mul_comm 2]
theorem reach_len (x : Rep) (l : List Frm) (n : Nat) (h : l.length ≤ n) : (reachF x l).length ≤ 2 ^ n := by
  have := reachF_len l [x]
  have h2 := Nat.pow_le_pow_right (n := 2) (by decide) h
  unfold reachF
  simp only [List.length_singleton, Nat.one_mul] at this
  omega
theorem open_len (l : List Frm) (r : Rep) (i : Nat) : (open_ (l.take i) r).length ≤ l.length := by
  unfold open_
  have := List.length_filter_le (fun f : Frm => decide (r.key ≤ f.key)) (l.take i)
  simp at this ⊢
  omega
theorem left_take {t : Twn} {r : Rep} {i : Nat} (h : i < t.poss.length) : (t.poss.take (i + 1)).filter (fun x => decide (x ∈ reachF r (open_ t.sent r))) = (t.poss.take i).filter (fun x => decide (x ∈ reachF r (open_ t.sent r))) ++ if t.poss[i] ∈ reachF r (open_ t.sent r) then [t.poss[i]] else [] := by
  rw [filter_take_succ h]; simp
end Go.Tv.C34

end
section
open Go Go.Tv Go.Proofs
namespace Go.Tv.C34
set_option maxRecDepth 20000
set_option maxHeartbeats 2000000
set_option linter.unusedSimpArgs false
set_option linter.unusedVariables false
theorem put_ret (l : List Rep) (x : Rep) (hl : l.length ≤ 100000) : Ret Tryd.prog 47 [.sl (l.map encR) false, encR x] (.sl ((put l x).map encR) false) := by
  refine ret_of_awp Tryd.func47 rfl (Nat.le_of_ble_eq_true rfl) ?_
  refine awp_seq ?_
  refine awp_rw rfl ?_
  refine RW.new rfl rfl (eff_boxK (v := .t _) (k := 4) (id := 3) rfl rfl rfl rfl rfl rfl) ?_
  refine RW.op rfl rfl (eff_assign (v := .t _) rfl rfl rfl) ?_
  refine RW.nil ?_
  refine awp_seq ?_
  refine awp_rw rfl ?_
  refine RW.op rfl rfl (eff_assign (v := .t _) rfl rfl rfl) ?_
  refine RW.nil ?_
  refine awp_seq ?_
  refine awp_block ?_
  refine awp_loopW (fun m s => ∃ (k : Nat), (k ≤ l.length) ∧ (∀ y, y ∈ l.take k → less y x = true) ∧ m = l.length - k ∧ s = ⟨48, [(0, .t (.sl (l.map encR) false)), (3, .ptr 3 0 0 0), (5, .t (encI (k : Nat)))], [(3, some ⟨4, 23, 0, [.t (encR x)]⟩)]⟩) (_) (⟨_, weak_keep (n := 48) (fr' := [(0, .t (.sl (l.map encR) false)), (3, .ptr 3 0 0 0), (5, .t (encI (0 : Nat)))]) (st' := [(3, some ⟨4, 23, 0, [.t (encR x)]⟩)]) ⟨rfl, rfl, rfl, rfl, rfl, rfl, trivial⟩ ⟨rfl, okE_one rfl, trivial⟩, 0, (by omega), (by simp), rfl, rfl⟩) ?_
  rintro m s ⟨k, hk, ha, rfl, rfl⟩
  refine awp_seq ?_
  refine awp_seq ?_
  by_cases hc1 : k < l.length
  · refine awp_rd [(some 7, []), (some 8, []), (some 9, []), (some 10, []), (some 11, []), (some 12, []), (some 13, []), (some 14, []), (some 15, []), (some 16, []), (some 17, []), (some 18, [])] [[], [], [1], [0, 1, 2], [0, 1, 2, 3], [0, 1, 2, 3, 4], [0, 1, 2, 3, 4], [0, 1, 2, 3, 4, 5, 6], [0, 1, 2, 3, 4, 5, 6, 7], [0, 1, 2, 3, 4], [0, 1, 2, 3, 4, 5, 6, 7, 8, 9], [0, 1, 2, 3, 4, 5, 6, 7, 8, 9, 10]] tm rfl rfl rfl rfl ?_
    refine RD.op rfl rfl rfl (eff_move (v := .t _) rfl rfl rfl) ?_
    refine RD.op rfl rfl rfl (eff_move (v := .t _) rfl rfl rfl) ?_
    refine RD.op rfl rfl rfl (eff_lenM rfl rfl te35 rfl) ?_
    refine RD.op rfl rfl rfl (eff_iop (r := .bool true) rfl rfl rfl rfl (by simp [iop, hc1])) ?_
    refine RD.op rfl rfl rfl (eff_move (v := .t _) rfl rfl rfl) ?_
    refine RD.gop rfl rfl rfl rfl rfl rfl rfl (eff_move (v := .t _) rfl rfl rfl) ?_
    refine RD.gop rfl rfl rfl rfl rfl rfl rfl (eff_move (v := .t _) rfl rfl rfl) ?_
    refine RD.gop rfl rfl rfl rfl rfl rfl rfl (eff_indexM rfl rfl te35 rfl rfl rfl (by first | assumption | exact List.getElem?_eq_getElem (by omega)) rfl (by decide)) ?_
    refine RD.gop rfl rfl rfl rfl rfl rfl rfl (eff_loadW rfl rfl ti23 rfl rfl rfl) ?_
    refine RD.gop rfl rfl rfl rfl rfl rfl rfl (eff_load rfl rfl ti23 rfl (.whole rfl rfl rfl rfl rfl rfl)) ?_
    refine RD.gop rfl rfl rfl rfl rfl rfl rfl (eff_callT (less_ret _ _) co32 rfl rfl rfl rfl) ?_
    refine RD.op rfl rfl rfl (eff_pick (v := .t _) rfl rfl rfl rfl) ?_
    refine RD.nil ?_
    refine awp_cond rfl (fun h2 => ?_) (fun h2 => ?_)
    · try simp only [decide_eq_true_eq, decide_eq_false_iff_not, beq_iff_eq, bne_iff_ne, bne_eq_false_iff_eq, beq_eq_false_iff_ne, Bool.not_eq_true, Bool.not_eq_false, Bool.not_eq_true', Bool.not_eq_false', ne_eq] at h2
      refine awp_skip ?_
      refine awp_block ?_
      refine awp_rw rfl ?_
      refine RW.op rfl rfl (eff_move (v := .t _) rfl rfl rfl) ?_
      refine RW.op rfl rfl (eff_iop rfl rfl rfl rfl (iadd (by omega))) ?_
      refine RW.op rfl rfl (eff_assign (v := .t _) rfl rfl rfl) ?_
      refine RW.nil ?_
      refine ⟨_, ?_, _, weak_keep (n := 48) (fr' := [(0, .t (.sl (l.map encR) false)), (3, .ptr 3 0 0 0), (5, .t (encI ((k + 1) : Nat)))]) (st' := [(3, some ⟨4, 23, 0, [.t (encR x)]⟩)]) ⟨rfl, rfl, rfl, rfl, rfl, rfl, trivial⟩ ⟨rfl, okE_one rfl, trivial⟩, k + 1, (by omega), (by intro y hy; rcases (mem_take_succ (by omega)).1 hy with h | h; exact ha y h; rw [h]; first | assumption | exact absurd hc2 (by omega)), rfl, rfl⟩
      omega
    · try simp only [decide_eq_true_eq, decide_eq_false_iff_not, beq_iff_eq, bne_iff_ne, bne_eq_false_iff_eq, beq_eq_false_iff_ne, Bool.not_eq_true, Bool.not_eq_false, Bool.not_eq_true', Bool.not_eq_false', ne_eq] at h2
      refine awp_exit ?_
      refine awp_seq ?_
      refine awp_seq ?_
      by_cases hc3 : k < l.length
      · refine awp_rd [(some 21, []), (some 22, []), (some 23, []), (some 24, []), (some 25, []), (some 26, []), (some 27, []), (some 28, []), (some 29, []), (some 30, []), (some 31, []), (some 32, [])] [[], [], [1], [0, 1, 2], [0, 1, 2, 3], [0, 1, 2, 3, 4], [0, 1, 2, 3, 4], [0, 1, 2, 3, 4, 5, 6], [0, 1, 2, 3, 4, 5, 6, 7], [0, 1, 2, 3, 4], [0, 1, 2, 3, 4, 5, 6, 7, 8, 9], [0, 1, 2, 3, 4, 5, 6, 7, 8, 9, 10]] tm rfl rfl rfl rfl ?_
        refine RD.op rfl rfl rfl (eff_move (v := .t _) rfl rfl rfl) ?_
        refine RD.op rfl rfl rfl (eff_move (v := .t _) rfl rfl rfl) ?_
        refine RD.op rfl rfl rfl (eff_lenM rfl rfl te35 rfl) ?_
        refine RD.op rfl rfl rfl (eff_iop (r := .bool true) rfl rfl rfl rfl (by simp [iop, hc3])) ?_
        refine RD.op rfl rfl rfl (eff_move (v := .t _) rfl rfl rfl) ?_
        refine RD.gop rfl rfl rfl rfl rfl rfl rfl (eff_move (v := .t _) rfl rfl rfl) ?_
        refine RD.gop rfl rfl rfl rfl rfl rfl rfl (eff_move (v := .t _) rfl rfl rfl) ?_
        refine RD.gop rfl rfl rfl rfl rfl rfl rfl (eff_indexM rfl rfl te35 rfl rfl rfl (by first | assumption | exact List.getElem?_eq_getElem (by omega)) rfl (by decide)) ?_
        refine RD.gop rfl rfl rfl rfl rfl rfl rfl (eff_loadW rfl rfl ti23 rfl rfl rfl) ?_
        refine RD.gop rfl rfl rfl rfl rfl rfl rfl (eff_load rfl rfl ti23 rfl (.whole rfl rfl rfl rfl rfl rfl)) ?_
        refine RD.gop rfl rfl rfl rfl rfl rfl rfl (eff_structEqlA (cells := cellsR) (a := l[k]) (b := x) rfl rfl ts23s ti23 th23 cellsR_inj cellsR_kind rfl rfl) ?_
        refine RD.op rfl rfl rfl (eff_pick (v := .t _) rfl rfl rfl rfl) ?_
        refine RD.nil ?_
        refine awp_cond rfl (fun h4 => ?_) (fun h4 => ?_)
        · try simp only [decide_eq_true_eq, decide_eq_false_iff_not, beq_iff_eq, bne_iff_ne, bne_eq_false_iff_eq, beq_eq_false_iff_ne, Bool.not_eq_true, Bool.not_eq_false, Bool.not_eq_true', Bool.not_eq_false', ne_eq] at h4
          refine awp_seq ?_
          refine awp_rw rfl ?_
          refine RW.op rfl rfl (eff_move (v := .t _) rfl rfl rfl) ?_
          refine RW.op rfl rfl (eff_assign (v := .t _) rfl rfl rfl) ?_
          refine RW.nil ?_
          refine awp_ret ?_
          first
            | (rw [show put l x = l from by first | exact put_same (by omega) ha (by assumption) (by assumption) | (exfalso; omega)]; exact ⟨Or.inr rfl, [_], ⟨.tmp (.t _), trivial⟩, .refl _⟩)
            | (have hput : put l x = l.take k ++ x :: l.drop k := by first | exact put_end (by omega) hk ha | exact put_new (by omega) ha (by assumption) (by assumption) | (exfalso; omega)
               exact ⟨Or.inr rfl, [_], ⟨.tmp (Res.ownT (xs := (put l x).map encR) rfl rfl (by rw [hput]; simp; rfl) (by rw [hput]; simp; omega)), trivial⟩, .refl _⟩)
        · try simp only [decide_eq_true_eq, decide_eq_false_iff_not, beq_iff_eq, bne_iff_ne, bne_eq_false_iff_eq, beq_eq_false_iff_ne, Bool.not_eq_true, Bool.not_eq_false, Bool.not_eq_true', Bool.not_eq_false', ne_eq] at h4
          refine awp_skip ?_
          refine awp_seq ?_
          refine awp_rw rfl ?_
          refine RW.op rfl rfl (eff_assign (v := .t _) rfl rfl rfl) ?_
          refine RW.nil ?_
          show AWP _ _ _ _
          refine awp_weak (weak_adopt (d := 6) (id := 6) (k := 4) (ty := 23) rfl rfl) ?_
          refine awp_seq ?_
          refine awp_rw rfl ?_
          refine RW.op rfl rfl (eff_move (v := .own _ _ _ _) rfl rfl rfl) ?_
          refine RW.op rfl rfl (eff_move (v := .t _) rfl rfl rfl) ?_
          refine RW.op rfl rfl (eff_move (v := .t _) rfl rfl rfl) ?_
          refine RW.op rfl rfl (eff_sliceM (g := encR) (l := none) (h := some k) (r := l.take k) rfl rfl te35 rfl (fun _ => rfl) .no (.yes rfl rfl) (Nat.zero_le _) (by simp; omega) (by simp)) ?_
          refine RW.new rfl rfl (eff_appendAny (id := 6) rfl rfl ta35 rfl rfl rfl rfl rfl rfl (srcM rfl (fun _ => rfl)) (by simp; omega) (by simp; omega)) ?_
          refine RW.op rfl rfl (eff_assign (v := .own _ _ _ _) rfl rfl rfl) ?_
          refine RW.nil ?_
          refine awp_seq ?_
          refine awp_rw rfl ?_
          refine RW.op rfl rfl (eff_move (v := .own _ _ _ _) rfl rfl rfl) ?_
          refine RW.op rfl rfl (eff_load rfl rfl ti23 rfl (.whole rfl rfl rfl rfl rfl rfl)) ?_
          refine RW.new rfl rfl (eff_buildSliceL (id := 41) (els := [.t (.agg [_, _, _, _])]) rfl rfl te35 tz23 rfl (by decide) (by decide) rfl rfl rfl rfl) ?_
          refine RW.new rfl rfl (eff_append (id := 6) (ys := [_]) rfl rfl ta35 rfl rfl rfl (by simp) rfl rfl (srcOwn rfl rfl rfl rfl rfl rfl) (by simp) (by simp; omega) (by simp; omega)) ?_
          refine RW.op rfl rfl (eff_assign (v := .own _ _ _ _) rfl rfl rfl) ?_
          refine RW.nil ?_
          refine awp_seq ?_
          refine awp_rw rfl ?_
          refine RW.op rfl rfl (eff_move (v := .own _ _ _ _) rfl rfl rfl) ?_
          refine RW.op rfl rfl (eff_move (v := .t _) rfl rfl rfl) ?_
          refine RW.op rfl rfl (eff_move (v := .t _) rfl rfl rfl) ?_
          refine RW.op rfl rfl (eff_sliceM (g := encR) (l := some k) (h := none) (r := l.drop k) rfl rfl te35 rfl (fun _ => rfl) (.yes rfl rfl) .no (by simp; omega) (by simp) (by simp)) ?_
          refine RW.new rfl rfl (eff_appendAny (id := 6) rfl rfl ta35 rfl rfl rfl (by simp) rfl rfl (srcM rfl (fun _ => rfl)) (by simp; omega) (by simp; omega)) ?_
          refine RW.op rfl rfl (eff_assign (v := .own _ _ _ _) rfl rfl rfl) ?_
          refine RW.nil ?_
          refine awp_ret ?_
          first
            | (rw [show put l x = l from by first | exact put_same (by omega) ha (by assumption) (by assumption) | (exfalso; omega)]; exact ⟨Or.inr rfl, [_], ⟨.tmp (.t _), trivial⟩, .refl _⟩)
            | (have hput : put l x = l.take k ++ x :: l.drop k := by first | exact put_end (by omega) hk ha | exact put_new (by omega) ha (by assumption) (by assumption) | (exfalso; omega)
               exact ⟨Or.inr rfl, [_], ⟨.tmp (Res.ownT (xs := (put l x).map encR) rfl rfl (by rw [hput]; simp; rfl) (by rw [hput]; simp; omega)), trivial⟩, .refl _⟩)
      · refine awp_rd [(some 21, []), (some 22, []), (some 23, []), (some 24, []), (some 25, []), (some 26, []), (some 27, []), (some 28, []), (some 29, []), (some 30, []), (some 31, []), (some 32, [])] [[], [], [1], [0, 1, 2], [0, 1, 2, 3], [0, 1, 2, 3, 4], [0, 1, 2, 3, 4], [0, 1, 2, 3, 4, 5, 6], [0, 1, 2, 3, 4, 5, 6, 7], [0, 1, 2, 3, 4], [0, 1, 2, 3, 4, 5, 6, 7, 8, 9], [0, 1, 2, 3, 4, 5, 6, 7, 8, 9, 10]] tm rfl rfl rfl rfl ?_
        refine RD.op rfl rfl rfl (eff_move (v := .t _) rfl rfl rfl) ?_
        refine RD.op rfl rfl rfl (eff_move (v := .t _) rfl rfl rfl) ?_
        refine RD.op rfl rfl rfl (eff_lenM rfl rfl te35 rfl) ?_
        refine RD.op rfl rfl rfl (eff_iop (r := .bool false) rfl rfl rfl rfl (by simp [iop, hc3])) ?_
        refine RD.op rfl rfl rfl (eff_move (v := .t _) rfl rfl rfl) ?_
        refine RD.gskip rfl rfl rfl rfl rfl rfl (by decide) ?_
        refine RD.gskip rfl rfl rfl rfl rfl rfl (by decide) ?_
        refine RD.gskip rfl rfl rfl rfl rfl rfl (by decide) ?_
        refine RD.gskip rfl rfl rfl rfl rfl rfl (by decide) ?_
        refine RD.gskip rfl rfl rfl rfl rfl rfl (by decide) ?_
        refine RD.gskip rfl rfl rfl rfl rfl rfl (by decide) ?_
        refine RD.op rfl rfl rfl (eff_pick (v := .t _) rfl rfl rfl rfl) ?_
        refine RD.nil ?_
        refine awp_cond rfl (fun h => nomatch h) (fun _ => ?_)
        refine awp_skip ?_
        refine awp_seq ?_
        refine awp_rw rfl ?_
        refine RW.op rfl rfl (eff_assign (v := .t _) rfl rfl rfl) ?_
        refine RW.nil ?_
        show AWP _ _ _ _
        refine awp_weak (weak_adopt (d := 6) (id := 6) (k := 4) (ty := 23) rfl rfl) ?_
        refine awp_seq ?_
        refine awp_rw rfl ?_
        refine RW.op rfl rfl (eff_move (v := .own _ _ _ _) rfl rfl rfl) ?_
        refine RW.op rfl rfl (eff_move (v := .t _) rfl rfl rfl) ?_
        refine RW.op rfl rfl (eff_move (v := .t _) rfl rfl rfl) ?_
        refine RW.op rfl rfl (eff_sliceM (g := encR) (l := none) (h := some k) (r := l.take k) rfl rfl te35 rfl (fun _ => rfl) .no (.yes rfl rfl) (Nat.zero_le _) (by simp; omega) (by simp)) ?_
        refine RW.new rfl rfl (eff_appendAny (id := 6) rfl rfl ta35 rfl rfl rfl rfl rfl rfl (srcM rfl (fun _ => rfl)) (by simp; omega) (by simp; omega)) ?_
        refine RW.op rfl rfl (eff_assign (v := .own _ _ _ _) rfl rfl rfl) ?_
        refine RW.nil ?_
        refine awp_seq ?_
        refine awp_rw rfl ?_
        refine RW.op rfl rfl (eff_move (v := .own _ _ _ _) rfl rfl rfl) ?_
        refine RW.op rfl rfl (eff_load rfl rfl ti23 rfl (.whole rfl rfl rfl rfl rfl rfl)) ?_
        refine RW.new rfl rfl (eff_buildSliceL (id := 41) (els := [.t (.agg [_, _, _, _])]) rfl rfl te35 tz23 rfl (by decide) (by decide) rfl rfl rfl rfl) ?_
        refine RW.new rfl rfl (eff_append (id := 6) (ys := [_]) rfl rfl ta35 rfl rfl rfl (by simp) rfl rfl (srcOwn rfl rfl rfl rfl rfl rfl) (by simp) (by simp; omega) (by simp; omega)) ?_
        refine RW.op rfl rfl (eff_assign (v := .own _ _ _ _) rfl rfl rfl) ?_
        refine RW.nil ?_
        refine awp_seq ?_
        refine awp_rw rfl ?_
        refine RW.op rfl rfl (eff_move (v := .own _ _ _ _) rfl rfl rfl) ?_
        refine RW.op rfl rfl (eff_move (v := .t _) rfl rfl rfl) ?_
        refine RW.op rfl rfl (eff_move (v := .t _) rfl rfl rfl) ?_
        refine RW.op rfl rfl (eff_sliceM (g := encR) (l := some k) (h := none) (r := l.drop k) rfl rfl te35 rfl (fun _ => rfl) (.yes rfl rfl) .no (by simp; omega) (by simp) (by simp)) ?_
        refine RW.new rfl rfl (eff_appendAny (id := 6) rfl rfl ta35 rfl rfl rfl (by simp) rfl rfl (srcM rfl (fun _ => rfl)) (by simp; omega) (by simp; omega)) ?_
        refine RW.op rfl rfl (eff_assign (v := .own _ _ _ _) rfl rfl rfl) ?_
        refine RW.nil ?_
        refine awp_ret ?_
        first
          | (rw [show put l x = l from by first | exact put_same (by omega) ha (by assumption) (by assumption) | (exfalso; omega)]; exact ⟨Or.inr rfl, [_], ⟨.tmp (.t _), trivial⟩, .refl _⟩)
          | (have hput : put l x = l.take k ++ x :: l.drop k := by first | exact put_end (by omega) hk ha | exact put_new (by omega) ha (by assumption) (by assumption) | (exfalso; omega)
             exact ⟨Or.inr rfl, [_], ⟨.tmp (Res.ownT (xs := (put l x).map encR) rfl rfl (by rw [hput]; simp; rfl) (by rw [hput]; simp; omega)), trivial⟩, .refl _⟩)
  · refine awp_rd [(some 7, []), (some 8, []), (some 9, []), (some 10, []), (some 11, []), (some 12, []), (some 13, []), (some 14, []), (some 15, []), (some 16, []), (some 17, []), (some 18, [])] [[], [], [1], [0, 1, 2], [0, 1, 2, 3], [0, 1, 2, 3, 4], [0, 1, 2, 3, 4], [0, 1, 2, 3, 4, 5, 6], [0, 1, 2, 3, 4, 5, 6, 7], [0, 1, 2, 3, 4], [0, 1, 2, 3, 4, 5, 6, 7, 8, 9], [0, 1, 2, 3, 4, 5, 6, 7, 8, 9, 10]] tm rfl rfl rfl rfl ?_
    refine RD.op rfl rfl rfl (eff_move (v := .t _) rfl rfl rfl) ?_
    refine RD.op rfl rfl rfl (eff_move (v := .t _) rfl rfl rfl) ?_
    refine RD.op rfl rfl rfl (eff_lenM rfl rfl te35 rfl) ?_
    refine RD.op rfl rfl rfl (eff_iop (r := .bool false) rfl rfl rfl rfl (by simp [iop, hc1])) ?_
    refine RD.op rfl rfl rfl (eff_move (v := .t _) rfl rfl rfl) ?_
    refine RD.gskip rfl rfl rfl rfl rfl rfl (by decide) ?_
    refine RD.gskip rfl rfl rfl rfl rfl rfl (by decide) ?_
    refine RD.gskip rfl rfl rfl rfl rfl rfl (by decide) ?_
    refine RD.gskip rfl rfl rfl rfl rfl rfl (by decide) ?_
    refine RD.gskip rfl rfl rfl rfl rfl rfl (by decide) ?_
    refine RD.gskip rfl rfl rfl rfl rfl rfl (by decide) ?_
    refine RD.op rfl rfl rfl (eff_pick (v := .t _) rfl rfl rfl rfl) ?_
    refine RD.nil ?_
    refine awp_cond rfl (fun h => nomatch h) (fun _ => ?_)
    refine awp_exit ?_
    refine awp_seq ?_
    refine awp_seq ?_
    by_cases hc5 : k < l.length
    · refine awp_rd [(some 21, []), (some 22, []), (some 23, []), (some 24, []), (some 25, []), (some 26, []), (some 27, []), (some 28, []), (some 29, []), (some 30, []), (some 31, []), (some 32, [])] [[], [], [1], [0, 1, 2], [0, 1, 2, 3], [0, 1, 2, 3, 4], [0, 1, 2, 3, 4], [0, 1, 2, 3, 4, 5, 6], [0, 1, 2, 3, 4, 5, 6, 7], [0, 1, 2, 3, 4], [0, 1, 2, 3, 4, 5, 6, 7, 8, 9], [0, 1, 2, 3, 4, 5, 6, 7, 8, 9, 10]] tm rfl rfl rfl rfl ?_
      refine RD.op rfl rfl rfl (eff_move (v := .t _) rfl rfl rfl) ?_
      refine RD.op rfl rfl rfl (eff_move (v := .t _) rfl rfl rfl) ?_
      refine RD.op rfl rfl rfl (eff_lenM rfl rfl te35 rfl) ?_
      refine RD.op rfl rfl rfl (eff_iop (r := .bool true) rfl rfl rfl rfl (by simp [iop, hc5])) ?_
      refine RD.op rfl rfl rfl (eff_move (v := .t _) rfl rfl rfl) ?_
      refine RD.gop rfl rfl rfl rfl rfl rfl rfl (eff_move (v := .t _) rfl rfl rfl) ?_
      refine RD.gop rfl rfl rfl rfl rfl rfl rfl (eff_move (v := .t _) rfl rfl rfl) ?_
      refine RD.gop rfl rfl rfl rfl rfl rfl rfl (eff_indexM rfl rfl te35 rfl rfl rfl (by first | assumption | exact List.getElem?_eq_getElem (by omega)) rfl (by decide)) ?_
      refine RD.gop rfl rfl rfl rfl rfl rfl rfl (eff_loadW rfl rfl ti23 rfl rfl rfl) ?_
      refine RD.gop rfl rfl rfl rfl rfl rfl rfl (eff_load rfl rfl ti23 rfl (.whole rfl rfl rfl rfl rfl rfl)) ?_
      refine RD.gop rfl rfl rfl rfl rfl rfl rfl (eff_structEqlA (cells := cellsR) (a := l[k]) (b := x) rfl rfl ts23s ti23 th23 cellsR_inj cellsR_kind rfl rfl) ?_
      refine RD.op rfl rfl rfl (eff_pick (v := .t _) rfl rfl rfl rfl) ?_
      refine RD.nil ?_
      refine awp_cond rfl (fun h6 => ?_) (fun h6 => ?_)
      · try simp only [decide_eq_true_eq, decide_eq_false_iff_not, beq_iff_eq, bne_iff_ne, bne_eq_false_iff_eq, beq_eq_false_iff_ne, Bool.not_eq_true, Bool.not_eq_false, Bool.not_eq_true', Bool.not_eq_false', ne_eq] at h6
        refine awp_seq ?_
        refine awp_rw rfl ?_
        refine RW.op rfl rfl (eff_move (v := .t _) rfl rfl rfl) ?_
        refine RW.op rfl rfl (eff_assign (v := .t _) rfl rfl rfl) ?_
        refine RW.nil ?_
        refine awp_ret ?_
        first
          | (rw [show put l x = l from by first | exact put_same (by omega) ha (by assumption) (by assumption) | (exfalso; omega)]; exact ⟨Or.inr rfl, [_], ⟨.tmp (.t _), trivial⟩, .refl _⟩)
          | (have hput : put l x = l.take k ++ x :: l.drop k := by first | exact put_end (by omega) hk ha | exact put_new (by omega) ha (by assumption) (by assumption) | (exfalso; omega)
             exact ⟨Or.inr rfl, [_], ⟨.tmp (Res.ownT (xs := (put l x).map encR) rfl rfl (by rw [hput]; simp; rfl) (by rw [hput]; simp; omega)), trivial⟩, .refl _⟩)
      · try simp only [decide_eq_true_eq, decide_eq_false_iff_not, beq_iff_eq, bne_iff_ne, bne_eq_false_iff_eq, beq_eq_false_iff_ne, Bool.not_eq_true, Bool.not_eq_false, Bool.not_eq_true', Bool.not_eq_false', ne_eq] at h6
        refine awp_skip ?_
        refine awp_seq ?_
        refine awp_rw rfl ?_
        refine RW.op rfl rfl (eff_assign (v := .t _) rfl rfl rfl) ?_
        refine RW.nil ?_
        show AWP _ _ _ _
        refine awp_weak (weak_adopt (d := 6) (id := 6) (k := 4) (ty := 23) rfl rfl) ?_
        refine awp_seq ?_
        refine awp_rw rfl ?_
        refine RW.op rfl rfl (eff_move (v := .own _ _ _ _) rfl rfl rfl) ?_
        refine RW.op rfl rfl (eff_move (v := .t _) rfl rfl rfl) ?_
        refine RW.op rfl rfl (eff_move (v := .t _) rfl rfl rfl) ?_
        refine RW.op rfl rfl (eff_sliceM (g := encR) (l := none) (h := some k) (r := l.take k) rfl rfl te35 rfl (fun _ => rfl) .no (.yes rfl rfl) (Nat.zero_le _) (by simp; omega) (by simp)) ?_
        refine RW.new rfl rfl (eff_appendAny (id := 6) rfl rfl ta35 rfl rfl rfl rfl rfl rfl (srcM rfl (fun _ => rfl)) (by simp; omega) (by simp; omega)) ?_
        refine RW.op rfl rfl (eff_assign (v := .own _ _ _ _) rfl rfl rfl) ?_
        refine RW.nil ?_
        refine awp_seq ?_
        refine awp_rw rfl ?_
        refine RW.op rfl rfl (eff_move (v := .own _ _ _ _) rfl rfl rfl) ?_
        refine RW.op rfl rfl (eff_load rfl rfl ti23 rfl (.whole rfl rfl rfl rfl rfl rfl)) ?_
        refine RW.new rfl rfl (eff_buildSliceL (id := 41) (els := [.t (.agg [_, _, _, _])]) rfl rfl te35 tz23 rfl (by decide) (by decide) rfl rfl rfl rfl) ?_
        refine RW.new rfl rfl (eff_append (id := 6) (ys := [_]) rfl rfl ta35 rfl rfl rfl (by simp) rfl rfl (srcOwn rfl rfl rfl rfl rfl rfl) (by simp) (by simp; omega) (by simp; omega)) ?_
        refine RW.op rfl rfl (eff_assign (v := .own _ _ _ _) rfl rfl rfl) ?_
        refine RW.nil ?_
        refine awp_seq ?_
        refine awp_rw rfl ?_
        refine RW.op rfl rfl (eff_move (v := .own _ _ _ _) rfl rfl rfl) ?_
        refine RW.op rfl rfl (eff_move (v := .t _) rfl rfl rfl) ?_
        refine RW.op rfl rfl (eff_move (v := .t _) rfl rfl rfl) ?_
        refine RW.op rfl rfl (eff_sliceM (g := encR) (l := some k) (h := none) (r := l.drop k) rfl rfl te35 rfl (fun _ => rfl) (.yes rfl rfl) .no (by simp; omega) (by simp) (by simp)) ?_
        refine RW.new rfl rfl (eff_appendAny (id := 6) rfl rfl ta35 rfl rfl rfl (by simp) rfl rfl (srcM rfl (fun _ => rfl)) (by simp; omega) (by simp; omega)) ?_
        refine RW.op rfl rfl (eff_assign (v := .own _ _ _ _) rfl rfl rfl) ?_
        refine RW.nil ?_
        refine awp_ret ?_
        first
          | (rw [show put l x = l from by first | exact put_same (by omega) ha (by assumption) (by assumption) | (exfalso; omega)]; exact ⟨Or.inr rfl, [_], ⟨.tmp (.t _), trivial⟩, .refl _⟩)
          | (have hput : put l x = l.take k ++ x :: l.drop k := by first | exact put_end (by omega) hk ha | exact put_new (by omega) ha (by assumption) (by assumption) | (exfalso; omega)
             exact ⟨Or.inr rfl, [_], ⟨.tmp (Res.ownT (xs := (put l x).map encR) rfl rfl (by rw [hput]; simp; rfl) (by rw [hput]; simp; omega)), trivial⟩, .refl _⟩)
    · refine awp_rd [(some 21, []), (some 22, []), (some 23, []), (some 24, []), (some 25, []), (some 26, []), (some 27, []), (some 28, []), (some 29, []), (some 30, []), (some 31, []), (some 32, [])] [[], [], [1], [0, 1, 2], [0, 1, 2, 3], [0, 1, 2, 3, 4], [0, 1, 2, 3, 4], [0, 1, 2, 3, 4, 5, 6], [0, 1, 2, 3, 4, 5, 6, 7], [0, 1, 2, 3, 4], [0, 1, 2, 3, 4, 5, 6, 7, 8, 9], [0, 1, 2, 3, 4, 5, 6, 7, 8, 9, 10]] tm rfl rfl rfl rfl ?_
      refine RD.op rfl rfl rfl (eff_move (v := .t _) rfl rfl rfl) ?_
      refine RD.op rfl rfl rfl (eff_move (v := .t _) rfl rfl rfl) ?_
      refine RD.op rfl rfl rfl (eff_lenM rfl rfl te35 rfl) ?_
      refine RD.op rfl rfl rfl (eff_iop (r := .bool false) rfl rfl rfl rfl (by simp [iop, hc5])) ?_
      refine RD.op rfl rfl rfl (eff_move (v := .t _) rfl rfl rfl) ?_
      refine RD.gskip rfl rfl rfl rfl rfl rfl (by decide) ?_
      refine RD.gskip rfl rfl rfl rfl rfl rfl (by decide) ?_
      refine RD.gskip rfl rfl rfl rfl rfl rfl (by decide) ?_
      refine RD.gskip rfl rfl rfl rfl rfl rfl (by decide) ?_
      refine RD.gskip rfl rfl rfl rfl rfl rfl (by decide) ?_
      refine RD.gskip rfl rfl rfl rfl rfl rfl (by decide) ?_
      refine RD.op rfl rfl rfl (eff_pick (v := .t _) rfl rfl rfl rfl) ?_
      refine RD.nil ?_
      refine awp_cond rfl (fun h => nomatch h) (fun _ => ?_)
      refine awp_skip ?_
      refine awp_seq ?_
      refine awp_rw rfl ?_
      refine RW.op rfl rfl (eff_assign (v := .t _) rfl rfl rfl) ?_
      refine RW.nil ?_
      show AWP _ _ _ _
      refine awp_weak (weak_adopt (d := 6) (id := 6) (k := 4) (ty := 23) rfl rfl) ?_
      refine awp_seq ?_
      refine awp_rw rfl ?_
      refine RW.op rfl rfl (eff_move (v := .own _ _ _ _) rfl rfl rfl) ?_
      refine RW.op rfl rfl (eff_move (v := .t _) rfl rfl rfl) ?_
      refine RW.op rfl rfl (eff_move (v := .t _) rfl rfl rfl) ?_
      refine RW.op rfl rfl (eff_sliceM (g := encR) (l := none) (h := some k) (r := l.take k) rfl rfl te35 rfl (fun _ => rfl) .no (.yes rfl rfl) (Nat.zero_le _) (by simp; omega) (by simp)) ?_
      refine RW.new rfl rfl (eff_appendAny (id := 6) rfl rfl ta35 rfl rfl rfl rfl rfl rfl (srcM rfl (fun _ => rfl)) (by simp; omega) (by simp; omega)) ?_
      refine RW.op rfl rfl (eff_assign (v := .own _ _ _ _) rfl rfl rfl) ?_
      refine RW.nil ?_
      refine awp_seq ?_
      refine awp_rw rfl ?_
      refine RW.op rfl rfl (eff_move (v := .own _ _ _ _) rfl rfl rfl) ?_
      refine RW.op rfl rfl (eff_load rfl rfl ti23 rfl (.whole rfl rfl rfl rfl rfl rfl)) ?_
      refine RW.new rfl rfl (eff_buildSliceL (id := 41) (els := [.t (.agg [_, _, _, _])]) rfl rfl te35 tz23 rfl (by decide) (by decide) rfl rfl rfl rfl) ?_
      refine RW.new rfl rfl (eff_append (id := 6) (ys := [_]) rfl rfl ta35 rfl rfl rfl (by simp) rfl rfl (srcOwn rfl rfl rfl rfl rfl rfl) (by simp) (by simp; omega) (by simp; omega)) ?_
      refine RW.op rfl rfl (eff_assign (v := .own _ _ _ _) rfl rfl rfl) ?_
      refine RW.nil ?_
      refine awp_seq ?_
      refine awp_rw rfl ?_
      refine RW.op rfl rfl (eff_move (v := .own _ _ _ _) rfl rfl rfl) ?_
      refine RW.op rfl rfl (eff_move (v := .t _) rfl rfl rfl) ?_
      refine RW.op rfl rfl (eff_move (v := .t _) rfl rfl rfl) ?_
      refine RW.op rfl rfl (eff_sliceM (g := encR) (l := some k) (h := none) (r := l.drop k) rfl rfl te35 rfl (fun _ => rfl) (.yes rfl rfl) .no (by simp; omega) (by simp) (by simp)) ?_
      refine RW.new rfl rfl (eff_appendAny (id := 6) rfl rfl ta35 rfl rfl rfl (by simp) rfl rfl (srcM rfl (fun _ => rfl)) (by simp; omega) (by simp; omega)) ?_
      refine RW.op rfl rfl (eff_assign (v := .own _ _ _ _) rfl rfl rfl) ?_
      refine RW.nil ?_
      refine awp_ret ?_
      first
        | (rw [show put l x = l from by first | exact put_same (by omega) ha (by assumption) (by assumption) | (exfalso; omega)]; exact ⟨Or.inr rfl, [_], ⟨.tmp (.t _), trivial⟩, .refl _⟩)
        | (have hput : put l x = l.take k ++ x :: l.drop k := by first | exact put_end (by omega) hk ha | exact put_new (by omega) ha (by assumption) (by assumption) | (exfalso; omega)
           exact ⟨Or.inr rfl, [_], ⟨.tmp (Res.ownT (xs := (put l x).map encR) rfl rfl (by rw [hput]; simp; rfl) (by rw [hput]; simp; omega)), trivial⟩, .refl _⟩)

end Go.Tv.C34

end
section
open Go Go.Tv Go.Proofs
namespace Go.Tv.C34
set_option maxRecDepth 20000
set_option maxHeartbeats 2000000
set_option linter.unusedSimpArgs false
set_option linter.unusedVariables false
theorem rsend_ret (t : Twn) (f : Frm) (hp : ∀ y, y ∈ t.poss → HP y) (hl : t.poss.length ≤ 1000) (hs : t.sent.length ≤ 1000) : Ret Tryd.prog 21 [encT t, encF f] (.tup [encT (send t f).1, encI (send t f).2]) := by
  refine ret_of_awp Tryd.func21 rfl (Nat.le_of_ble_eq_true rfl) ?_
  refine awp_seq ?_
  refine awp_rw rfl ?_
  refine RW.new rfl rfl (eff_boxK (v := .t _) (k := 2) (id := 2) rfl rfl rfl rfl rfl rfl) ?_
  refine RW.new rfl rfl (eff_boxK (v := .t _) (k := 5) (id := 3) rfl rfl rfl rfl rfl rfl) ?_
  refine RW.new rfl rfl (eff_allocK (k := 2) (id := 4) rfl rfl tz37 rfl rfl) ?_
  refine RW.op rfl rfl (eff_assign (v := .t _) rfl rfl rfl) ?_
  refine RW.nil ?_
  refine awp_seq ?_
  refine awp_rw rfl ?_
  refine RW.op rfl rfl (eff_fieldAddr rfl rfl tf37_0 (by decide) rfl rfl rfl (Nat.le_of_ble_eq_true rfl)) ?_
  refine RW.op rfl rfl (eff_load (y := .t _) rfl rfl ti34 rfl (.one rfl rfl rfl rfl)) ?_
  refine RW.op rfl rfl (eff_lenM rfl rfl te34 rfl) ?_
  refine RW.op rfl rfl (eff_assign (v := .t _) rfl rfl rfl) ?_
  refine RW.nil ?_
  refine awp_seq ?_
  refine awp_seq ?_
  by_cases hc1 : 0 < t.sent.length
  · refine awp_rd [(some 13, []), (some 14, []), (some 15, []), (some 16, []), (some 17, []), (some 18, []), (some 19, []), (some 20, []), (some 21, []), (some 22, []), (some 23, []), (some 24, []), (some 25, []), (some 26, [])] [[], [0], [0, 1], [0, 1, 2], [0, 1, 2, 3], [0, 1, 2], [0, 1, 2, 5], [0, 1, 2, 3, 4, 5, 6], [0, 1, 2, 3, 4, 5, 6, 7], [0, 1, 2, 3, 4, 5, 6, 7, 8], [0, 1, 2], [0, 1, 2, 10], [0, 1, 2, 3, 4, 5, 6, 7, 8, 9, 10, 11], [0, 1, 2, 3, 4, 5, 6, 7, 8, 9, 10, 11, 12]] tm rfl rfl rfl rfl ?_
    refine RD.op rfl rfl rfl (eff_move (v := .t _) rfl rfl rfl) ?_
    refine RD.op rfl rfl rfl (eff_iop (r := .bool true) rfl rfl rfl rfl (by show some (Tr.bool (decide _)) = _; rw [decide_eq_true (by omega)])) ?_
    refine RD.op rfl rfl rfl (eff_move (v := .t _) rfl rfl rfl) ?_
    refine RD.gop rfl rfl rfl rfl rfl rfl rfl (eff_fieldAddr rfl rfl tf37_0 (by decide) rfl rfl rfl (Nat.le_of_ble_eq_true rfl)) ?_
    refine RD.gop rfl rfl rfl rfl rfl rfl rfl (eff_load (y := .t _) rfl rfl ti34 rfl (.one rfl rfl rfl rfl)) ?_
    refine RD.gop rfl rfl rfl rfl rfl rfl rfl (eff_move (v := .t _) rfl rfl rfl) ?_
    refine RD.gop rfl rfl rfl rfl rfl rfl rfl (eff_iop rfl rfl rfl rfl (isub (by omega))) ?_
    refine RD.gop rfl rfl rfl rfl rfl rfl rfl (eff_indexM (i := t.sent.length - 1) rfl rfl te34 rfl rfl (by first | rfl | omega) (by exact List.getElem?_eq_getElem (by omega)) rfl (by decide)) ?_
    refine RD.gop rfl rfl rfl rfl rfl rfl rfl (eff_fieldAddrT rfl rfl tf30_1 (by decide) rfl) ?_
    refine RD.gop rfl rfl rfl rfl rfl rfl rfl (eff_loadT1 rfl rfl ti3 rfl rfl) ?_
    refine RD.gop rfl rfl rfl rfl rfl rfl rfl (eff_fieldAddr rfl rfl tf30_1 (by decide) rfl rfl rfl (Nat.le_of_ble_eq_true rfl)) ?_
    refine RD.gop rfl rfl rfl rfl rfl rfl rfl (eff_load (y := .t _) rfl rfl ti3 rfl (.one rfl rfl rfl rfl)) ?_
    refine RD.gop rfl rfl rfl rfl rfl rfl rfl (eff_iop rfl rfl rfl rfl rfl) ?_
    refine RD.op rfl rfl rfl (eff_pick (v := .t _) rfl rfl rfl rfl) ?_
    refine RD.nil ?_
    refine awp_cond rfl (fun h2 => ?_) (fun h2 => ?_)
    · try simp only [decide_eq_true_eq, decide_eq_false_iff_not, beq_iff_eq, bne_iff_ne, bne_eq_false_iff_eq, beq_eq_false_iff_ne, Bool.not_eq_true, Bool.not_eq_false, Bool.not_eq_true', Bool.not_eq_false', ne_eq] at h2
      refine awp_seq ?_
      refine awp_rw rfl ?_
      refine RW.op rfl rfl (eff_buildT (ys := [_, _]) rfl rfl tz37 tg37 rfl) ?_
      refine RW.store rfl rfl (eff_storeW (v := .t _) (els := [_]) (els' := [_]) rfl rfl ti37 rfl rfl rfl rfl rfl rfl rfl rfl rfl) ?_
      refine RW.op rfl rfl (eff_assign (v := .t _) rfl rfl rfl) ?_
      refine RW.nil ?_
      refine awp_ret ?_
      first
        | (rw [send_late (by first | (rw [late_at (by omega)]; exact decide_eq_true (by first | assumption | omega)) | (exfalso; omega))]
           exact ⟨Or.inr rfl, [_, _], ⟨.cell rfl ti37 (.whole rfl rfl rfl rfl rfl rfl) (.t _), .tmp (.t _), trivial⟩, (by repeat' first | exact trivial | exact Wk.refl _ | exact Wk.sl _ | refine And.intro ?_ ?_ | refine Wk.tupP ?_ | refine Wk.aggP ?_)⟩)
        | (have hj2 : j = t.poss.length := by omega
           subst hj2
           rw [List.take_length] at hc
           have hst : stepF t.poss f = cur := hc.symm
           first
             | (rw [send_many (by first | exact late_nil (by omega) | (rw [late_at (by omega)]; exact decide_eq_false (by first | assumption | omega))) (by rw [hst]; omega)]
                exact ⟨Or.inr rfl, [_, _], ⟨.cell rfl ti37 (.whole rfl rfl rfl rfl rfl rfl) (.t _), .tmp (.t _), trivial⟩, (by repeat' first | exact trivial | exact Wk.refl _ | exact Wk.sl _ | refine And.intro ?_ ?_ | refine Wk.tupP ?_ | refine Wk.aggP ?_)⟩)
             | (rw [send_ok (by first | exact late_nil (by omega) | (rw [late_at (by omega)]; exact decide_eq_false (by first | assumption | omega))) (by rw [hst]; omega), hst]
                exact ⟨Or.inr rfl, [_, _], ⟨.cell rfl ti37 (.whole rfl rfl rfl rfl rfl rfl) (Res.aggP (xs := [_, _]) ⟨Res.ownT (xs := (t.sent ++ [f]).map encF) rfl rfl (by simp; rfl) (by simp), .t _, trivial⟩), .tmp (.t _), trivial⟩, .refl _⟩))
    · try simp only [decide_eq_true_eq, decide_eq_false_iff_not, beq_iff_eq, bne_iff_ne, bne_eq_false_iff_eq, beq_eq_false_iff_ne, Bool.not_eq_true, Bool.not_eq_false, Bool.not_eq_true', Bool.not_eq_false', ne_eq] at h2
      refine awp_skip ?_
      refine awp_seq ?_
      refine awp_rw rfl ?_
      refine RW.op rfl rfl (eff_fieldAddr rfl rfl tf37_1 (by decide) rfl rfl rfl (Nat.le_of_ble_eq_true rfl)) ?_
      refine RW.op rfl rfl (eff_load (y := .t _) rfl rfl ti35 rfl (.one rfl rfl rfl rfl)) ?_
      refine RW.op rfl rfl (eff_assign (v := .t _) rfl rfl rfl) ?_
      refine RW.nil ?_
      refine awp_seq ?_
      refine awp_seq ?_
      refine awp_rw rfl ?_
      refine RW.op rfl rfl (eff_assign (v := .t _) rfl rfl rfl) ?_
      refine RW.nil ?_
      refine awp_block ?_
      refine awp_loopW (fun m s => ∃ (j : Nat) (cur : List Rep), (j ≤ t.poss.length) ∧ (cur = stepI f t.poss (t.poss.take j)) ∧ m = t.poss.length - j ∧ s = ⟨60, [(2, .ptr 2 0 0 0), (3, .ptr 3 0 0 0), (4, .ptr 4 0 0 0), (7, .t (.sl (cur.map encR) false)), (8, .t (encI (j : Nat)))], [(2, some ⟨2, 37, 0, [.t (encT t)]⟩), (3, some ⟨5, 30, 0, [.t (encF f)]⟩), (4, some ⟨2, 37, 0, [.t z37]⟩)]⟩) (_) (⟨_, weak_keep (n := 60) (fr' := [(2, .ptr 2 0 0 0), (3, .ptr 3 0 0 0), (4, .ptr 4 0 0 0), (7, .t (.sl ((t.poss).map encR) false)), (8, .t (encI (0 : Nat)))]) (st' := [(2, some ⟨2, 37, 0, [.t (encT t)]⟩), (3, some ⟨5, 30, 0, [.t (encF f)]⟩), (4, some ⟨2, 37, 0, [.t z37]⟩)]) ⟨rfl, rfl, rfl, rfl, rfl, rfl, rfl, rfl, rfl, rfl, trivial⟩ ⟨rfl, okE_one rfl, rfl, okE_one rfl, rfl, okE_one rfl, trivial⟩, 0, t.poss, (by omega), (by simp [stepI]), rfl, rfl⟩) ?_
      rintro m s ⟨j, cur, hj, hc, rfl, rfl⟩
      have hcl := stepI_len f t.poss t.poss j hj
      rw [← hc] at hcl
      refine awp_seq ?_
      refine awp_seq ?_
      refine awp_rw rfl ?_
      refine RW.op rfl rfl (eff_move (v := .t _) rfl rfl rfl) ?_
      refine RW.op rfl rfl (eff_fieldAddr rfl rfl tf37_1 (by decide) rfl rfl rfl (Nat.le_of_ble_eq_true rfl)) ?_
      refine RW.op rfl rfl (eff_load (y := .t _) rfl rfl ti35 rfl (.one rfl rfl rfl rfl)) ?_
      refine RW.op rfl rfl (eff_lenM rfl rfl te35 rfl) ?_
      refine RW.op rfl rfl (eff_iop rfl rfl rfl rfl rfl) ?_
      refine RW.nil ?_
      refine awp_cond rfl (fun h3 => ?_) (fun h3 => ?_)
      · try simp only [decide_eq_true_eq, decide_eq_false_iff_not, beq_iff_eq, bne_iff_ne, bne_eq_false_iff_eq, beq_eq_false_iff_ne, Bool.not_eq_true, Bool.not_eq_false, Bool.not_eq_true', Bool.not_eq_false', ne_eq] at h3
        refine awp_skip ?_
        refine awp_seq ?_
        refine awp_block ?_
        refine awp_rd [(some 37, []), (some 38, []), (some 39, []), (some 40, []), (some 41, []), (some 42, []), (some 43, []), (some 44, []), (some 45, []), (some 7, [])] [[], [], [1], [], [1, 2, 3], [1, 2, 3, 4], [], [1, 2, 3, 4, 5, 6], [0, 1, 2, 3, 4, 5, 6, 7], [0, 1, 2, 3, 4, 5, 6, 7, 8]] tm rfl rfl rfl rfl ?_
        refine RD.op rfl rfl rfl (eff_move (v := .t _) rfl rfl rfl) ?_
        refine RD.op rfl rfl rfl (eff_fieldAddr rfl rfl tf37_1 (by decide) rfl rfl rfl (Nat.le_of_ble_eq_true rfl)) ?_
        refine RD.op rfl rfl rfl (eff_load (y := .t _) rfl rfl ti35 rfl (.one rfl rfl rfl rfl)) ?_
        refine RD.op rfl rfl rfl (eff_move (v := .t _) rfl rfl rfl) ?_
        refine RD.op rfl rfl rfl (eff_indexM rfl rfl te35 rfl rfl rfl (by first | assumption | exact List.getElem?_eq_getElem (by omega)) rfl (by decide)) ?_
        refine RD.op rfl rfl rfl (eff_loadW rfl rfl ti23 rfl rfl rfl) ?_
        refine RD.op rfl rfl rfl (eff_load rfl rfl ti30 rfl (.whole rfl rfl rfl rfl rfl rfl)) ?_
        refine RD.op rfl rfl rfl (eff_callT (rapply_ret _ _ (hp _ (List.getElem_mem _))) co15 rfl rfl rfl rfl) ?_
        refine RD.op rfl rfl rfl (eff_callT (put_ret cur _ (by omega)) co47 rfl rfl rfl rfl) ?_
        refine RD.op rfl rfl rfl (eff_assign (v := .t _) rfl rfl rfl) ?_
        refine RD.nil ?_
        refine awp_rw rfl ?_
        refine RW.op rfl rfl (eff_move (v := .t _) rfl rfl rfl) ?_
        refine RW.op rfl rfl (eff_iop rfl rfl rfl rfl (iadd (by omega))) ?_
        refine RW.op rfl rfl (eff_assign (v := .t _) rfl rfl rfl) ?_
        refine RW.nil ?_
        refine ⟨_, ?_, _, weak_keep (n := 60) (fr' := [(2, .ptr 2 0 0 0), (3, .ptr 3 0 0 0), (4, .ptr 4 0 0 0), (7, .t (.sl ((put cur (apply (t.poss[j]'(by omega)) f)).map encR) false)), (8, .t (encI ((j + 1) : Nat)))]) (st' := [(2, some ⟨2, 37, 0, [.t (encT t)]⟩), (3, some ⟨5, 30, 0, [.t (encF f)]⟩), (4, some ⟨2, 37, 0, [.t z37]⟩)]) ⟨rfl, rfl, rfl, rfl, rfl, rfl, rfl, rfl, rfl, rfl, trivial⟩ ⟨rfl, okE_one rfl, rfl, okE_one rfl, rfl, okE_one rfl, trivial⟩, j + 1, put cur (apply (t.poss[j]'(by omega)) f), (by omega), (by rw [stepI_take (by omega), hc]), rfl, rfl⟩
        omega
      · try simp only [decide_eq_true_eq, decide_eq_false_iff_not, beq_iff_eq, bne_iff_ne, bne_eq_false_iff_eq, beq_eq_false_iff_ne, Bool.not_eq_true, Bool.not_eq_false, Bool.not_eq_true', Bool.not_eq_false', ne_eq] at h3
        refine awp_exit ?_
        refine awp_seq ?_
        refine awp_seq ?_
        refine awp_rw rfl ?_
        refine RW.op rfl rfl (eff_move (v := .t _) rfl rfl rfl) ?_
        refine RW.op rfl rfl (eff_lenM rfl rfl te35 rfl) ?_
        refine RW.op rfl rfl (eff_iop rfl rfl rfl rfl rfl) ?_
        refine RW.nil ?_
        refine awp_cond rfl (fun h4 => ?_) (fun h4 => ?_)
        · try simp only [decide_eq_true_eq, decide_eq_false_iff_not, beq_iff_eq, bne_iff_ne, bne_eq_false_iff_eq, beq_eq_false_iff_ne, Bool.not_eq_true, Bool.not_eq_false, Bool.not_eq_true', Bool.not_eq_false', ne_eq] at h4
          refine awp_seq ?_
          refine awp_rw rfl ?_
          refine RW.op rfl rfl (eff_buildT (ys := [_, _]) rfl rfl tz37 tg37 rfl) ?_
          refine RW.store rfl rfl (eff_storeW (v := .t _) (els := [_]) (els' := [_]) rfl rfl ti37 rfl rfl rfl rfl rfl rfl rfl rfl rfl) ?_
          refine RW.op rfl rfl (eff_assign (v := .t _) rfl rfl rfl) ?_
          refine RW.nil ?_
          refine awp_ret ?_
          first
            | (rw [send_late (by first | (rw [late_at (by omega)]; exact decide_eq_true (by first | assumption | omega)) | (exfalso; omega))]
               exact ⟨Or.inr rfl, [_, _], ⟨.cell rfl ti37 (.whole rfl rfl rfl rfl rfl rfl) (.t _), .tmp (.t _), trivial⟩, (by repeat' first | exact trivial | exact Wk.refl _ | exact Wk.sl _ | refine And.intro ?_ ?_ | refine Wk.tupP ?_ | refine Wk.aggP ?_)⟩)
            | (have hj2 : j = t.poss.length := by omega
               subst hj2
               rw [List.take_length] at hc
               have hst : stepF t.poss f = cur := hc.symm
               first
                 | (rw [send_many (by first | exact late_nil (by omega) | (rw [late_at (by omega)]; exact decide_eq_false (by first | assumption | omega))) (by rw [hst]; omega)]
                    exact ⟨Or.inr rfl, [_, _], ⟨.cell rfl ti37 (.whole rfl rfl rfl rfl rfl rfl) (.t _), .tmp (.t _), trivial⟩, (by repeat' first | exact trivial | exact Wk.refl _ | exact Wk.sl _ | refine And.intro ?_ ?_ | refine Wk.tupP ?_ | refine Wk.aggP ?_)⟩)
                 | (rw [send_ok (by first | exact late_nil (by omega) | (rw [late_at (by omega)]; exact decide_eq_false (by first | assumption | omega))) (by rw [hst]; omega), hst]
                    exact ⟨Or.inr rfl, [_, _], ⟨.cell rfl ti37 (.whole rfl rfl rfl rfl rfl rfl) (Res.aggP (xs := [_, _]) ⟨Res.ownT (xs := (t.sent ++ [f]).map encF) rfl rfl (by simp; rfl) (by simp), .t _, trivial⟩), .tmp (.t _), trivial⟩, .refl _⟩))
        · try simp only [decide_eq_true_eq, decide_eq_false_iff_not, beq_iff_eq, bne_iff_ne, bne_eq_false_iff_eq, beq_eq_false_iff_ne, Bool.not_eq_true, Bool.not_eq_false, Bool.not_eq_true', Bool.not_eq_false', ne_eq] at h4
          refine awp_skip ?_
          refine awp_seq ?_
          refine awp_rw rfl ?_
          refine RW.op rfl rfl (eff_assign (v := .t _) rfl rfl rfl) ?_
          refine RW.nil ?_
          show AWP _ _ _ _
          refine awp_weak (weak_adopt (d := 9) (id := 9) (k := 5) (ty := 30) rfl rfl) ?_
          refine awp_seq ?_
          refine awp_rw rfl ?_
          refine RW.op rfl rfl (eff_move (v := .own _ _ _ _) rfl rfl rfl) ?_
          refine RW.op rfl rfl (eff_fieldAddr rfl rfl tf37_0 (by decide) rfl rfl rfl (Nat.le_of_ble_eq_true rfl)) ?_
          refine RW.op rfl rfl (eff_load (y := .t _) rfl rfl ti34 rfl (.one rfl rfl rfl rfl)) ?_
          refine RW.new rfl rfl (eff_appendAny (id := 9) rfl rfl ta34 rfl rfl rfl rfl rfl rfl (srcM rfl (fun _ => rfl)) (by simp; omega) (by simp; omega)) ?_
          refine RW.op rfl rfl (eff_assign (v := .own _ _ _ _) rfl rfl rfl) ?_
          refine RW.nil ?_
          refine awp_seq ?_
          refine awp_rw rfl ?_
          refine RW.op rfl rfl (eff_move (v := .own _ _ _ _) rfl rfl rfl) ?_
          refine RW.op rfl rfl (eff_load rfl rfl ti30 rfl (.whole rfl rfl rfl rfl rfl rfl)) ?_
          refine RW.new rfl rfl (eff_buildSliceL (id := 56) (els := [.t (.agg [_, _, _, _, _])]) rfl rfl te34 tz30 rfl (by decide) (by decide) rfl rfl rfl rfl) ?_
          refine RW.new rfl rfl (eff_append (id := 9) (ys := [_]) rfl rfl ta34 rfl rfl rfl (by simp) rfl rfl (srcOwn rfl rfl rfl rfl rfl rfl) (by simp) (by simp; omega) (by simp; omega)) ?_
          refine RW.op rfl rfl (eff_move (v := .t _) rfl rfl rfl) ?_
          refine RW.op rfl rfl (eff_buildA (ys := [_, _]) rfl rfl tz37 tg37 rfl rfl) ?_
          refine RW.store rfl rfl (eff_storeW (v := .agg _) (els := [_]) (els' := [_]) rfl rfl ti37 rfl rfl rfl rfl rfl rfl rfl rfl rfl) ?_
          refine RW.op rfl rfl (eff_assign (v := .t _) rfl rfl rfl) ?_
          refine RW.nil ?_
          refine awp_ret ?_
          first
            | (rw [send_late (by first | (rw [late_at (by omega)]; exact decide_eq_true (by first | assumption | omega)) | (exfalso; omega))]
               exact ⟨Or.inr rfl, [_, _], ⟨.cell rfl ti37 (.whole rfl rfl rfl rfl rfl rfl) (.t _), .tmp (.t _), trivial⟩, (by repeat' first | exact trivial | exact Wk.refl _ | exact Wk.sl _ | refine And.intro ?_ ?_ | refine Wk.tupP ?_ | refine Wk.aggP ?_)⟩)
            | (have hj2 : j = t.poss.length := by omega
               subst hj2
               rw [List.take_length] at hc
               have hst : stepF t.poss f = cur := hc.symm
               first
                 | (rw [send_many (by first | exact late_nil (by omega) | (rw [late_at (by omega)]; exact decide_eq_false (by first | assumption | omega))) (by rw [hst]; omega)]
                    exact ⟨Or.inr rfl, [_, _], ⟨.cell rfl ti37 (.whole rfl rfl rfl rfl rfl rfl) (.t _), .tmp (.t _), trivial⟩, (by repeat' first | exact trivial | exact Wk.refl _ | exact Wk.sl _ | refine And.intro ?_ ?_ | refine Wk.tupP ?_ | refine Wk.aggP ?_)⟩)
                 | (rw [send_ok (by first | exact late_nil (by omega) | (rw [late_at (by omega)]; exact decide_eq_false (by first | assumption | omega))) (by rw [hst]; omega), hst]
                    exact ⟨Or.inr rfl, [_, _], ⟨.cell rfl ti37 (.whole rfl rfl rfl rfl rfl rfl) (Res.aggP (xs := [_, _]) ⟨Res.ownT (xs := (t.sent ++ [f]).map encF) rfl rfl (by simp; rfl) (by simp), .t _, trivial⟩), .tmp (.t _), trivial⟩, .refl _⟩))
  · refine awp_rd [(some 13, []), (some 14, []), (some 15, []), (some 16, []), (some 17, []), (some 18, []), (some 19, []), (some 20, []), (some 21, []), (some 22, []), (some 23, []), (some 24, []), (some 25, []), (some 26, [])] [[], [0], [0, 1], [0, 1, 2], [0, 1, 2, 3], [0, 1, 2], [0, 1, 2, 5], [0, 1, 2, 3, 4, 5, 6], [0, 1, 2, 3, 4, 5, 6, 7], [0, 1, 2, 3, 4, 5, 6, 7, 8], [0, 1, 2], [0, 1, 2, 10], [0, 1, 2, 3, 4, 5, 6, 7, 8, 9, 10, 11], [0, 1, 2, 3, 4, 5, 6, 7, 8, 9, 10, 11, 12]] tm rfl rfl rfl rfl ?_
    refine RD.op rfl rfl rfl (eff_move (v := .t _) rfl rfl rfl) ?_
    refine RD.op rfl rfl rfl (eff_iop (r := .bool false) rfl rfl rfl rfl (by show some (Tr.bool (decide _)) = _; rw [decide_eq_false (by omega)])) ?_
    refine RD.op rfl rfl rfl (eff_move (v := .t _) rfl rfl rfl) ?_
    refine RD.gskip rfl rfl rfl rfl rfl rfl (by decide) ?_
    refine RD.gskip rfl rfl rfl rfl rfl rfl (by decide) ?_
    refine RD.gskip rfl rfl rfl rfl rfl rfl (by decide) ?_
    refine RD.gskip rfl rfl rfl rfl rfl rfl (by decide) ?_
    refine RD.gskip rfl rfl rfl rfl rfl rfl (by decide) ?_
    refine RD.gskip rfl rfl rfl rfl rfl rfl (by decide) ?_
    refine RD.gskip rfl rfl rfl rfl rfl rfl (by decide) ?_
    refine RD.gskip rfl rfl rfl rfl rfl rfl (by decide) ?_
    refine RD.gskip rfl rfl rfl rfl rfl rfl (by decide) ?_
    refine RD.gskip rfl rfl rfl rfl rfl rfl (by decide) ?_
    refine RD.op rfl rfl rfl (eff_pick (v := .t _) rfl rfl rfl rfl) ?_
    refine RD.nil ?_
    refine awp_cond rfl (fun h => nomatch h) (fun _ => ?_)
    refine awp_skip ?_
    refine awp_seq ?_
    refine awp_rw rfl ?_
    refine RW.op rfl rfl (eff_fieldAddr rfl rfl tf37_1 (by decide) rfl rfl rfl (Nat.le_of_ble_eq_true rfl)) ?_
    refine RW.op rfl rfl (eff_load (y := .t _) rfl rfl ti35 rfl (.one rfl rfl rfl rfl)) ?_
    refine RW.op rfl rfl (eff_assign (v := .t _) rfl rfl rfl) ?_
    refine RW.nil ?_
    refine awp_seq ?_
    refine awp_seq ?_
    refine awp_rw rfl ?_
    refine RW.op rfl rfl (eff_assign (v := .t _) rfl rfl rfl) ?_
    refine RW.nil ?_
    refine awp_block ?_
    refine awp_loopW (fun m s => ∃ (j : Nat) (cur : List Rep), (j ≤ t.poss.length) ∧ (cur = stepI f t.poss (t.poss.take j)) ∧ m = t.poss.length - j ∧ s = ⟨60, [(2, .ptr 2 0 0 0), (3, .ptr 3 0 0 0), (4, .ptr 4 0 0 0), (7, .t (.sl (cur.map encR) false)), (8, .t (encI (j : Nat)))], [(2, some ⟨2, 37, 0, [.t (encT t)]⟩), (3, some ⟨5, 30, 0, [.t (encF f)]⟩), (4, some ⟨2, 37, 0, [.t z37]⟩)]⟩) (_) (⟨_, weak_keep (n := 60) (fr' := [(2, .ptr 2 0 0 0), (3, .ptr 3 0 0 0), (4, .ptr 4 0 0 0), (7, .t (.sl ((t.poss).map encR) false)), (8, .t (encI (0 : Nat)))]) (st' := [(2, some ⟨2, 37, 0, [.t (encT t)]⟩), (3, some ⟨5, 30, 0, [.t (encF f)]⟩), (4, some ⟨2, 37, 0, [.t z37]⟩)]) ⟨rfl, rfl, rfl, rfl, rfl, rfl, rfl, rfl, rfl, rfl, trivial⟩ ⟨rfl, okE_one rfl, rfl, okE_one rfl, rfl, okE_one rfl, trivial⟩, 0, t.poss, (by omega), (by simp [stepI]), rfl, rfl⟩) ?_
    rintro m s ⟨j, cur, hj, hc, rfl, rfl⟩
    have hcl := stepI_len f t.poss t.poss j hj
    rw [← hc] at hcl
    refine awp_seq ?_
    refine awp_seq ?_
    refine awp_rw rfl ?_
    refine RW.op rfl rfl (eff_move (v := .t _) rfl rfl rfl) ?_
    refine RW.op rfl rfl (eff_fieldAddr rfl rfl tf37_1 (by decide) rfl rfl rfl (Nat.le_of_ble_eq_true rfl)) ?_
    refine RW.op rfl rfl (eff_load (y := .t _) rfl rfl ti35 rfl (.one rfl rfl rfl rfl)) ?_
    refine RW.op rfl rfl (eff_lenM rfl rfl te35 rfl) ?_
    refine RW.op rfl rfl (eff_iop rfl rfl rfl rfl rfl) ?_
    refine RW.nil ?_
    refine awp_cond rfl (fun h5 => ?_) (fun h5 => ?_)
    · try simp only [decide_eq_true_eq, decide_eq_false_iff_not, beq_iff_eq, bne_iff_ne, bne_eq_false_iff_eq, beq_eq_false_iff_ne, Bool.not_eq_true, Bool.not_eq_false, Bool.not_eq_true', Bool.not_eq_false', ne_eq] at h5
      refine awp_skip ?_
      refine awp_seq ?_
      refine awp_block ?_
      refine awp_rd [(some 37, []), (some 38, []), (some 39, []), (some 40, []), (some 41, []), (some 42, []), (some 43, []), (some 44, []), (some 45, []), (some 7, [])] [[], [], [1], [], [1, 2, 3], [1, 2, 3, 4], [], [1, 2, 3, 4, 5, 6], [0, 1, 2, 3, 4, 5, 6, 7], [0, 1, 2, 3, 4, 5, 6, 7, 8]] tm rfl rfl rfl rfl ?_
      refine RD.op rfl rfl rfl (eff_move (v := .t _) rfl rfl rfl) ?_
      refine RD.op rfl rfl rfl (eff_fieldAddr rfl rfl tf37_1 (by decide) rfl rfl rfl (Nat.le_of_ble_eq_true rfl)) ?_
      refine RD.op rfl rfl rfl (eff_load (y := .t _) rfl rfl ti35 rfl (.one rfl rfl rfl rfl)) ?_
      refine RD.op rfl rfl rfl (eff_move (v := .t _) rfl rfl rfl) ?_
      refine RD.op rfl rfl rfl (eff_indexM rfl rfl te35 rfl rfl rfl (by first | assumption | exact List.getElem?_eq_getElem (by omega)) rfl (by decide)) ?_
      refine RD.op rfl rfl rfl (eff_loadW rfl rfl ti23 rfl rfl rfl) ?_
      refine RD.op rfl rfl rfl (eff_load rfl rfl ti30 rfl (.whole rfl rfl rfl rfl rfl rfl)) ?_
      refine RD.op rfl rfl rfl (eff_callT (rapply_ret _ _ (hp _ (List.getElem_mem _))) co15 rfl rfl rfl rfl) ?_
      refine RD.op rfl rfl rfl (eff_callT (put_ret cur _ (by omega)) co47 rfl rfl rfl rfl) ?_
      refine RD.op rfl rfl rfl (eff_assign (v := .t _) rfl rfl rfl) ?_
      refine RD.nil ?_
      refine awp_rw rfl ?_
      refine RW.op rfl rfl (eff_move (v := .t _) rfl rfl rfl) ?_
      refine RW.op rfl rfl (eff_iop rfl rfl rfl rfl (iadd (by omega))) ?_
      refine RW.op rfl rfl (eff_assign (v := .t _) rfl rfl rfl) ?_
      refine RW.nil ?_
      refine ⟨_, ?_, _, weak_keep (n := 60) (fr' := [(2, .ptr 2 0 0 0), (3, .ptr 3 0 0 0), (4, .ptr 4 0 0 0), (7, .t (.sl ((put cur (apply (t.poss[j]'(by omega)) f)).map encR) false)), (8, .t (encI ((j + 1) : Nat)))]) (st' := [(2, some ⟨2, 37, 0, [.t (encT t)]⟩), (3, some ⟨5, 30, 0, [.t (encF f)]⟩), (4, some ⟨2, 37, 0, [.t z37]⟩)]) ⟨rfl, rfl, rfl, rfl, rfl, rfl, rfl, rfl, rfl, rfl, trivial⟩ ⟨rfl, okE_one rfl, rfl, okE_one rfl, rfl, okE_one rfl, trivial⟩, j + 1, put cur (apply (t.poss[j]'(by omega)) f), (by omega), (by rw [stepI_take (by omega), hc]), rfl, rfl⟩
      omega
    · try simp only [decide_eq_true_eq, decide_eq_false_iff_not, beq_iff_eq, bne_iff_ne, bne_eq_false_iff_eq, beq_eq_false_iff_ne, Bool.not_eq_true, Bool.not_eq_false, Bool.not_eq_true', Bool.not_eq_false', ne_eq] at h5
      refine awp_exit ?_
      refine awp_seq ?_
      refine awp_seq ?_
      refine awp_rw rfl ?_
      refine RW.op rfl rfl (eff_move (v := .t _) rfl rfl rfl) ?_
      refine RW.op rfl rfl (eff_lenM rfl rfl te35 rfl) ?_
      refine RW.op rfl rfl (eff_iop rfl rfl rfl rfl rfl) ?_
      refine RW.nil ?_
      refine awp_cond rfl (fun h6 => ?_) (fun h6 => ?_)
      · try simp only [decide_eq_true_eq, decide_eq_false_iff_not, beq_iff_eq, bne_iff_ne, bne_eq_false_iff_eq, beq_eq_false_iff_ne, Bool.not_eq_true, Bool.not_eq_false, Bool.not_eq_true', Bool.not_eq_false', ne_eq] at h6
        refine awp_seq ?_
        refine awp_rw rfl ?_
        refine RW.op rfl rfl (eff_buildT (ys := [_, _]) rfl rfl tz37 tg37 rfl) ?_
        refine RW.store rfl rfl (eff_storeW (v := .t _) (els := [_]) (els' := [_]) rfl rfl ti37 rfl rfl rfl rfl rfl rfl rfl rfl rfl) ?_
        refine RW.op rfl rfl (eff_assign (v := .t _) rfl rfl rfl) ?_
        refine RW.nil ?_
        refine awp_ret ?_
        first
          | (rw [send_late (by first | (rw [late_at (by omega)]; exact decide_eq_true (by first | assumption | omega)) | (exfalso; omega))]
             exact ⟨Or.inr rfl, [_, _], ⟨.cell rfl ti37 (.whole rfl rfl rfl rfl rfl rfl) (.t _), .tmp (.t _), trivial⟩, (by repeat' first | exact trivial | exact Wk.refl _ | exact Wk.sl _ | refine And.intro ?_ ?_ | refine Wk.tupP ?_ | refine Wk.aggP ?_)⟩)
          | (have hj2 : j = t.poss.length := by omega
             subst hj2
             rw [List.take_length] at hc
             have hst : stepF t.poss f = cur := hc.symm
             first
               | (rw [send_many (by first | exact late_nil (by omega) | (rw [late_at (by omega)]; exact decide_eq_false (by first | assumption | omega))) (by rw [hst]; omega)]
                  exact ⟨Or.inr rfl, [_, _], ⟨.cell rfl ti37 (.whole rfl rfl rfl rfl rfl rfl) (.t _), .tmp (.t _), trivial⟩, (by repeat' first | exact trivial | exact Wk.refl _ | exact Wk.sl _ | refine And.intro ?_ ?_ | refine Wk.tupP ?_ | refine Wk.aggP ?_)⟩)
               | (rw [send_ok (by first | exact late_nil (by omega) | (rw [late_at (by omega)]; exact decide_eq_false (by first | assumption | omega))) (by rw [hst]; omega), hst]
                  exact ⟨Or.inr rfl, [_, _], ⟨.cell rfl ti37 (.whole rfl rfl rfl rfl rfl rfl) (Res.aggP (xs := [_, _]) ⟨Res.ownT (xs := (t.sent ++ [f]).map encF) rfl rfl (by simp; rfl) (by simp), .t _, trivial⟩), .tmp (.t _), trivial⟩, .refl _⟩))
      · try simp only [decide_eq_true_eq, decide_eq_false_iff_not, beq_iff_eq, bne_iff_ne, bne_eq_false_iff_eq, beq_eq_false_iff_ne, Bool.not_eq_true, Bool.not_eq_false, Bool.not_eq_true', Bool.not_eq_false', ne_eq] at h6
        refine awp_skip ?_
        refine awp_seq ?_
        refine awp_rw rfl ?_
        refine RW.op rfl rfl (eff_assign (v := .t _) rfl rfl rfl) ?_
        refine RW.nil ?_
        show AWP _ _ _ _
        refine awp_weak (weak_adopt (d := 9) (id := 9) (k := 5) (ty := 30) rfl rfl) ?_
        refine awp_seq ?_
        refine awp_rw rfl ?_
        refine RW.op rfl rfl (eff_move (v := .own _ _ _ _) rfl rfl rfl) ?_
        refine RW.op rfl rfl (eff_fieldAddr rfl rfl tf37_0 (by decide) rfl rfl rfl (Nat.le_of_ble_eq_true rfl)) ?_
        refine RW.op rfl rfl (eff_load (y := .t _) rfl rfl ti34 rfl (.one rfl rfl rfl rfl)) ?_
        refine RW.new rfl rfl (eff_appendAny (id := 9) rfl rfl ta34 rfl rfl rfl rfl rfl rfl (srcM rfl (fun _ => rfl)) (by simp; omega) (by simp; omega)) ?_
        refine RW.op rfl rfl (eff_assign (v := .own _ _ _ _) rfl rfl rfl) ?_
        refine RW.nil ?_
        refine awp_seq ?_
        refine awp_rw rfl ?_
        refine RW.op rfl rfl (eff_move (v := .own _ _ _ _) rfl rfl rfl) ?_
        refine RW.op rfl rfl (eff_load rfl rfl ti30 rfl (.whole rfl rfl rfl rfl rfl rfl)) ?_
        refine RW.new rfl rfl (eff_buildSliceL (id := 56) (els := [.t (.agg [_, _, _, _, _])]) rfl rfl te34 tz30 rfl (by decide) (by decide) rfl rfl rfl rfl) ?_
        refine RW.new rfl rfl (eff_append (id := 9) (ys := [_]) rfl rfl ta34 rfl rfl rfl (by simp) rfl rfl (srcOwn rfl rfl rfl rfl rfl rfl) (by simp) (by simp; omega) (by simp; omega)) ?_
        refine RW.op rfl rfl (eff_move (v := .t _) rfl rfl rfl) ?_
        refine RW.op rfl rfl (eff_buildA (ys := [_, _]) rfl rfl tz37 tg37 rfl rfl) ?_
        refine RW.store rfl rfl (eff_storeW (v := .agg _) (els := [_]) (els' := [_]) rfl rfl ti37 rfl rfl rfl rfl rfl rfl rfl rfl rfl) ?_
        refine RW.op rfl rfl (eff_assign (v := .t _) rfl rfl rfl) ?_
        refine RW.nil ?_
        refine awp_ret ?_
        first
          | (rw [send_late (by first | (rw [late_at (by omega)]; exact decide_eq_true (by first | assumption | omega)) | (exfalso; omega))]
             exact ⟨Or.inr rfl, [_, _], ⟨.cell rfl ti37 (.whole rfl rfl rfl rfl rfl rfl) (.t _), .tmp (.t _), trivial⟩, (by repeat' first | exact trivial | exact Wk.refl _ | exact Wk.sl _ | refine And.intro ?_ ?_ | refine Wk.tupP ?_ | refine Wk.aggP ?_)⟩)
          | (have hj2 : j = t.poss.length := by omega
             subst hj2
             rw [List.take_length] at hc
             have hst : stepF t.poss f = cur := hc.symm
             first
               | (rw [send_many (by first | exact late_nil (by omega) | (rw [late_at (by omega)]; exact decide_eq_false (by first | assumption | omega))) (by rw [hst]; omega)]
                  exact ⟨Or.inr rfl, [_, _], ⟨.cell rfl ti37 (.whole rfl rfl rfl rfl rfl rfl) (.t _), .tmp (.t _), trivial⟩, (by repeat' first | exact trivial | exact Wk.refl _ | exact Wk.sl _ | refine And.intro ?_ ?_ | refine Wk.tupP ?_ | refine Wk.aggP ?_)⟩)
               | (rw [send_ok (by first | exact late_nil (by omega) | (rw [late_at (by omega)]; exact decide_eq_false (by first | assumption | omega))) (by rw [hst]; omega), hst]
                  exact ⟨Or.inr rfl, [_, _], ⟨.cell rfl ti37 (.whole rfl rfl rfl rfl rfl rfl) (Res.aggP (xs := [_, _]) ⟨Res.ownT (xs := (t.sent ++ [f]).map encF) rfl rfl (by simp; rfl) (by simp), .t _, trivial⟩), .tmp (.t _), trivial⟩, .refl _⟩))

end Go.Tv.C34

end
section
open Go Go.Tv Go.Proofs
namespace Go.Tv.C34
set_option maxRecDepth 20000
set_option maxHeartbeats 2000000
set_option linter.unusedSimpArgs false
set_option linter.unusedVariables false
theorem rhear_ret (t : Twn) (r : Rep) (hr : HP r) (hl : t.poss.length ≤ 1000) (hs : t.sent.length ≤ 12) : Ret Tryd.prog 23 [encT t, encR r] (.tup [encT (hear t r).1, encI (hear t r).2]) := by
  refine ret_of_awp Tryd.func23 rfl (Nat.le_of_ble_eq_true rfl) ?_
  refine awp_seq ?_
  refine awp_rw rfl ?_
  refine RW.new rfl rfl (eff_boxK (v := .t _) (k := 2) (id := 2) rfl rfl rfl rfl rfl rfl) ?_
  refine RW.new rfl rfl (eff_boxK (v := .t _) (k := 4) (id := 3) rfl rfl rfl rfl rfl rfl) ?_
  refine RW.new rfl rfl (eff_allocK (k := 2) (id := 4) rfl rfl tz37 rfl rfl) ?_
  refine RW.op rfl rfl (eff_assign (v := .t _) rfl rfl rfl) ?_
  refine RW.nil ?_
  refine awp_seq ?_
  refine awp_rw rfl ?_
  refine RW.op rfl rfl (eff_load rfl rfl ti23 rfl (.whole rfl rfl rfl rfl rfl rfl)) ?_
  refine RW.new rfl rfl (eff_buildSliceL (id := 14) (els := [.t (.agg [_, _, _, _])]) rfl rfl te35 tz23 rfl (by decide) (by decide) rfl rfl rfl rfl) ?_
  refine RW.op rfl rfl (eff_assign (v := .own _ _ _ _) rfl rfl rfl) ?_
  refine RW.nil ?_
  refine awp_seq ?_
  refine awp_seq ?_
  refine awp_rw rfl ?_
  refine RW.op rfl rfl (eff_assign (v := .t _) rfl rfl rfl) ?_
  refine RW.nil ?_
  refine awp_block ?_
  refine awp_loopW (fun m s => ∃ (i : Nat), (i ≤ t.sent.length) ∧ m = t.sent.length - i ∧ s = ⟨82, [(2, .ptr 2 0 0 0), (3, .ptr 3 0 0 0), (4, .ptr 4 0 0 0), (6, .t (.sl ((reachF r (open_ (t.sent.take i) r)).map encR) false)), (7, .t (encI (i : Nat)))], [(2, some ⟨2, 37, 0, [.t (encT t)]⟩), (3, some ⟨4, 23, 0, [.t (encR r)]⟩), (4, some ⟨2, 37, 0, [.t z37]⟩)]⟩) (_) (⟨_, weak_frz (n := 82) (fr' := [(2, .ptr 2 0 0 0), (3, .ptr 3 0 0 0), (4, .ptr 4 0 0 0), (6, .t (.sl ((reachF r (open_ (t.sent.take 0) r)).map encR) false)), (7, .t (encI (0 : Nat)))]) (st' := [(2, some ⟨2, 37, 0, [.t (encT t)]⟩), (3, some ⟨4, 23, 0, [.t (encR r)]⟩), (4, some ⟨2, 37, 0, [.t z37]⟩)]) [(14, some ⟨4, 23, 0, [.t (encR r)]⟩)] ⟨rfl, trivial⟩ ⟨rfl, rfl, rfl, trivial⟩ ⟨wa_eq rfl rfl, wa_eq rfl rfl, wa_eq rfl rfl, .res (Res.ownT (xs := [r].map encR) rfl rfl rfl rfl) (.refl _), wa_eq rfl rfl, trivial⟩ ⟨rfl, okE_one rfl, rfl, okE_one rfl, rfl, okE_one rfl, trivial⟩, 0, (by omega), rfl, rfl⟩) ?_
  rintro m s ⟨i, hi, rfl, rfl⟩
  have hpw := pow_le_12 hs
  have hnl : (reachF r (open_ (t.sent.take i) r)).length ≤ 2 ^ t.sent.length := reach_len _ _ _ (open_len _ _ _)
  have hnp : ∀ y, y ∈ (reachF r (open_ (t.sent.take i) r)) → HP y := reach_hp hr _
  refine awp_seq ?_
  refine awp_seq ?_
  refine awp_rw rfl ?_
  refine RW.op rfl rfl (eff_move (v := .t _) rfl rfl rfl) ?_
  refine RW.op rfl rfl (eff_fieldAddr rfl rfl tf37_0 (by decide) rfl rfl rfl (Nat.le_of_ble_eq_true rfl)) ?_
  refine RW.op rfl rfl (eff_load (y := .t _) rfl rfl ti34 rfl (.one rfl rfl rfl rfl)) ?_
  refine RW.op rfl rfl (eff_lenM rfl rfl te34 rfl) ?_
  refine RW.op rfl rfl (eff_iop rfl rfl rfl rfl rfl) ?_
  refine RW.nil ?_
  refine awp_cond rfl (fun h1 => ?_) (fun h1 => ?_)
  · try simp only [decide_eq_true_eq, decide_eq_false_iff_not, beq_iff_eq, bne_iff_ne, bne_eq_false_iff_eq, beq_eq_false_iff_ne, Bool.not_eq_true, Bool.not_eq_false, Bool.not_eq_true', Bool.not_eq_false', ne_eq] at h1
    refine awp_skip ?_
    refine awp_seq ?_
    refine awp_block ?_
    refine awp_seq ?_
    refine awp_seq ?_
    refine awp_rd [(some 22, []), (some 23, []), (some 24, []), (some 25, []), (some 26, []), (some 27, []), (some 28, []), (some 29, []), (some 30, [])] [[], [0], [], [0, 1, 2], [0, 1, 2, 3], [0, 1, 2, 3, 4], [], [6], [0, 1, 2, 3, 4, 5, 6, 7]] tm rfl rfl rfl rfl ?_
    have hil : i < t.sent.length := by omega
    refine RD.op rfl rfl rfl (eff_fieldAddr rfl rfl tf37_0 (by decide) rfl rfl rfl (Nat.le_of_ble_eq_true rfl)) ?_
    refine RD.op rfl rfl rfl (eff_load (y := .t _) rfl rfl ti34 rfl (.one rfl rfl rfl rfl)) ?_
    refine RD.op rfl rfl rfl (eff_move (v := .t _) rfl rfl rfl) ?_
    refine RD.op rfl rfl rfl (eff_indexM rfl rfl te34 rfl rfl rfl (by first | assumption | exact List.getElem?_eq_getElem (by omega)) rfl (by decide)) ?_
    refine RD.op rfl rfl rfl (eff_fieldAddrT rfl rfl tf30_1 (by decide) rfl) ?_
    refine RD.op rfl rfl rfl (eff_loadT1 rfl rfl ti3 rfl rfl) ?_
    refine RD.op rfl rfl rfl (eff_fieldAddr rfl rfl tf23_2 (by decide) rfl rfl rfl (Nat.le_of_ble_eq_true rfl)) ?_
    refine RD.op rfl rfl rfl (eff_load (y := .t _) rfl rfl ti3 rfl (.one rfl rfl rfl rfl)) ?_
    refine RD.op rfl rfl rfl (eff_iop rfl rfl rfl rfl rfl) ?_
    refine RD.nil ?_
    refine awp_cond rfl (fun h2 => ?_) (fun h2 => ?_)
    · try simp only [decide_eq_true_eq, decide_eq_false_iff_not, beq_iff_eq, bne_iff_ne, bne_eq_false_iff_eq, beq_eq_false_iff_ne, Bool.not_eq_true, Bool.not_eq_false, Bool.not_eq_true', Bool.not_eq_false', ne_eq] at h2
      refine awp_exit ?_
      refine awp_rw rfl ?_
      refine RW.op rfl rfl (eff_move (v := .t _) rfl rfl rfl) ?_
      refine RW.op rfl rfl (eff_iop rfl rfl rfl rfl (iadd (by omega))) ?_
      refine RW.op rfl rfl (eff_assign (v := .t _) rfl rfl rfl) ?_
      refine RW.nil ?_
      first
        | have hnx : reachF r (open_ (t.sent.take (i + 1)) r) = (reachF r (open_ (t.sent.take i) r)) := reach_skip hil (by assumption)
        | (have hj2 : j = (reachF r (open_ (t.sent.take i) r)).length := by omega
           subst hj2
           rw [List.take_length] at hc
           have hnx : reachF r (open_ (t.sent.take (i + 1)) r) = cur := (reach_more hil (by assumption)).trans hc.symm)
      refine ⟨_, ?_, _, weak_frz (n := 82) (fr' := [(2, .ptr 2 0 0 0), (3, .ptr 3 0 0 0), (4, .ptr 4 0 0 0), (6, .t (.sl ((reachF r (open_ (t.sent.take (i + 1)) r)).map encR) false)), (7, .t (encI ((i + 1) : Nat)))]) (st' := [(2, some ⟨2, 37, 0, [.t (encT t)]⟩), (3, some ⟨4, 23, 0, [.t (encR r)]⟩), (4, some ⟨2, 37, 0, [.t z37]⟩)]) [] trivial ⟨rfl, rfl, rfl, trivial⟩ ⟨wa_eq rfl rfl, wa_eq rfl rfl, wa_eq rfl rfl, wa_eq (by rw [hnx]; rfl) rfl, wa_eq rfl rfl, trivial⟩ ⟨rfl, okE_one rfl, rfl, okE_one rfl, rfl, okE_one rfl, trivial⟩, i + 1, (by omega), rfl, rfl⟩
      omega
    · try simp only [decide_eq_true_eq, decide_eq_false_iff_not, beq_iff_eq, bne_iff_ne, bne_eq_false_iff_eq, beq_eq_false_iff_ne, Bool.not_eq_true, Bool.not_eq_false, Bool.not_eq_true', Bool.not_eq_false', ne_eq] at h2
      refine awp_skip ?_
      refine awp_seq ?_
      refine awp_rw rfl ?_
      refine RW.op rfl rfl (eff_move (v := .t _) rfl rfl rfl) ?_
      refine RW.op rfl rfl (eff_assign (v := .t _) rfl rfl rfl) ?_
      refine RW.nil ?_
      refine awp_seq ?_
      refine awp_seq ?_
      refine awp_rw rfl ?_
      refine RW.op rfl rfl (eff_assign (v := .t _) rfl rfl rfl) ?_
      refine RW.nil ?_
      refine awp_block ?_
      refine awp_loopW (fun m s => ∃ (j : Nat) (cur : List Rep), (j ≤ (reachF r (open_ (t.sent.take i) r)).length) ∧ (cur = stepI (t.sent[i]'hil) (reachF r (open_ (t.sent.take i) r)) ((reachF r (open_ (t.sent.take i) r)).take j)) ∧ m = (reachF r (open_ (t.sent.take i) r)).length - j ∧ s = ⟨82, [(2, .ptr 2 0 0 0), (3, .ptr 3 0 0 0), (4, .ptr 4 0 0 0), (6, .t (.sl ((reachF r (open_ (t.sent.take i) r)).map encR) false)), (7, .t (encI (i : Nat))), (8, .t (.sl (cur.map encR) false)), (9, .t (encI (j : Nat)))], [(2, some ⟨2, 37, 0, [.t (encT t)]⟩), (3, some ⟨4, 23, 0, [.t (encR r)]⟩), (4, some ⟨2, 37, 0, [.t z37]⟩)]⟩) (_) (⟨_, weak_keep (n := 82) (fr' := [(2, .ptr 2 0 0 0), (3, .ptr 3 0 0 0), (4, .ptr 4 0 0 0), (6, .t (.sl ((reachF r (open_ (t.sent.take i) r)).map encR) false)), (7, .t (encI (i : Nat))), (8, .t (.sl (((reachF r (open_ (t.sent.take i) r))).map encR) false)), (9, .t (encI (0 : Nat)))]) (st' := [(2, some ⟨2, 37, 0, [.t (encT t)]⟩), (3, some ⟨4, 23, 0, [.t (encR r)]⟩), (4, some ⟨2, 37, 0, [.t z37]⟩)]) ⟨rfl, rfl, rfl, rfl, rfl, rfl, rfl, rfl, rfl, rfl, rfl, rfl, rfl, rfl, trivial⟩ ⟨rfl, okE_one rfl, rfl, okE_one rfl, rfl, okE_one rfl, trivial⟩, 0, (reachF r (open_ (t.sent.take i) r)), (by omega), (by simp [stepI]), rfl, rfl⟩) ?_
      rintro m s ⟨j, cur, hj, hc, rfl, rfl⟩
      have hcl := stepI_len (t.sent[i]'hil) (reachF r (open_ (t.sent.take i) r)) (reachF r (open_ (t.sent.take i) r)) j hj
      rw [← hc] at hcl
      refine awp_seq ?_
      refine awp_seq ?_
      refine awp_rw rfl ?_
      refine RW.op rfl rfl (eff_move (v := .t _) rfl rfl rfl) ?_
      refine RW.op rfl rfl (eff_move (v := .t _) rfl rfl rfl) ?_
      refine RW.op rfl rfl (eff_lenM rfl rfl te35 rfl) ?_
      refine RW.op rfl rfl (eff_iop rfl rfl rfl rfl rfl) ?_
      refine RW.nil ?_
      refine awp_cond rfl (fun h3 => ?_) (fun h3 => ?_)
      · try simp only [decide_eq_true_eq, decide_eq_false_iff_not, beq_iff_eq, bne_iff_ne, bne_eq_false_iff_eq, beq_eq_false_iff_ne, Bool.not_eq_true, Bool.not_eq_false, Bool.not_eq_true', Bool.not_eq_false', ne_eq] at h3
        refine awp_skip ?_
        refine awp_seq ?_
        refine awp_block ?_
        refine awp_seq ?_
        refine awp_rd [(some 38, []), (some 39, []), (some 40, []), (some 41, []), (some 42, []), (some 43, []), (some 44, []), (some 45, []), (some 46, []), (some 47, []), (some 10, [10]), (none, [10])] [[], [], [0, 1], [0, 1, 2], [], [4], [], [4, 5, 6], [4, 5, 6, 7], [0, 1, 2, 3, 4, 5, 6, 7, 8], [], [0, 1, 2, 3, 4, 5, 6, 7, 8, 9, 10]] tm rfl rfl rfl rfl ?_
        refine RD.op rfl rfl rfl (eff_move (v := .t _) rfl rfl rfl) ?_
        refine RD.op rfl rfl rfl (eff_move (v := .t _) rfl rfl rfl) ?_
        refine RD.op rfl rfl rfl (eff_indexM rfl rfl te35 rfl rfl rfl (by first | assumption | exact List.getElem?_eq_getElem (by omega)) rfl (by decide)) ?_
        refine RD.op rfl rfl rfl (eff_loadW rfl rfl ti23 rfl rfl rfl) ?_
        refine RD.op rfl rfl rfl (eff_fieldAddr rfl rfl tf37_0 (by decide) rfl rfl rfl (Nat.le_of_ble_eq_true rfl)) ?_
        refine RD.op rfl rfl rfl (eff_load (y := .t _) rfl rfl ti34 rfl (.one rfl rfl rfl rfl)) ?_
        refine RD.op rfl rfl rfl (eff_move (v := .t _) rfl rfl rfl) ?_
        refine RD.op rfl rfl rfl (eff_indexM rfl rfl te34 rfl rfl rfl (by first | assumption | exact List.getElem?_eq_getElem (by omega)) rfl (by decide)) ?_
        refine RD.op rfl rfl rfl (eff_loadW rfl rfl ti30 rfl rfl rfl) ?_
        refine RD.op rfl rfl rfl (eff_callT (rapply_ret _ _ (hnp _ (List.getElem_mem _))) co15 rfl rfl rfl rfl) ?_
        refine RD.new rfl rfl rfl (eff_allocK (k := 4) (id := 10) rfl rfl tz23 rfl rfl) ?_
        refine RD.store rfl rfl rfl (eff_storeW (v := .t _) (els := [_]) (els' := [_]) rfl rfl ti23 rfl rfl rfl rfl rfl rfl rfl rfl rfl) ?_
        refine RD.nil ?_
        refine awp_rw rfl ?_
        refine RW.op rfl rfl (eff_move (v := .t _) rfl rfl rfl) ?_
        refine RW.op rfl rfl (eff_load rfl rfl ti23 rfl (.whole rfl rfl rfl rfl rfl rfl)) ?_
        refine RW.op rfl rfl (eff_callT (put_ret cur _ (by omega)) co47 rfl rfl rfl rfl) ?_
        refine RW.op rfl rfl (eff_assign (v := .t _) rfl rfl rfl) ?_
        refine RW.nil ?_
        refine awp_rw rfl ?_
        refine RW.op rfl rfl (eff_move (v := .t _) rfl rfl rfl) ?_
        refine RW.op rfl rfl (eff_iop rfl rfl rfl rfl (iadd (by omega))) ?_
        refine RW.op rfl rfl (eff_assign (v := .t _) rfl rfl rfl) ?_
        refine RW.nil ?_
        refine ⟨_, ?_, _, weak_keep (n := 82) (fr' := [(2, .ptr 2 0 0 0), (3, .ptr 3 0 0 0), (4, .ptr 4 0 0 0), (6, .t (.sl ((reachF r (open_ (t.sent.take i) r)).map encR) false)), (7, .t (encI (i : Nat))), (8, .t (.sl ((put cur (apply ((reachF r (open_ (t.sent.take i) r))[j]'(by omega)) (t.sent[i]'hil))).map encR) false)), (9, .t (encI ((j + 1) : Nat)))]) (st' := [(2, some ⟨2, 37, 0, [.t (encT t)]⟩), (3, some ⟨4, 23, 0, [.t (encR r)]⟩), (4, some ⟨2, 37, 0, [.t z37]⟩)]) ⟨rfl, rfl, rfl, rfl, rfl, rfl, rfl, rfl, rfl, rfl, rfl, rfl, rfl, rfl, trivial⟩ ⟨rfl, okE_one rfl, rfl, okE_one rfl, rfl, okE_one rfl, trivial⟩, j + 1, put cur (apply ((reachF r (open_ (t.sent.take i) r))[j]'(by omega)) (t.sent[i]'hil)), (by omega), (by rw [stepI_take (by omega), hc]), rfl, rfl⟩
        omega
      · try simp only [decide_eq_true_eq, decide_eq_false_iff_not, beq_iff_eq, bne_iff_ne, bne_eq_false_iff_eq, beq_eq_false_iff_ne, Bool.not_eq_true, Bool.not_eq_false, Bool.not_eq_true', Bool.not_eq_false', ne_eq] at h3
        refine awp_exit ?_
        refine awp_rw rfl ?_
        refine RW.op rfl rfl (eff_move (v := .t _) rfl rfl rfl) ?_
        refine RW.op rfl rfl (eff_assign (v := .t _) rfl rfl rfl) ?_
        refine RW.nil ?_
        refine awp_rw rfl ?_
        refine RW.op rfl rfl (eff_move (v := .t _) rfl rfl rfl) ?_
        refine RW.op rfl rfl (eff_iop rfl rfl rfl rfl (iadd (by omega))) ?_
        refine RW.op rfl rfl (eff_assign (v := .t _) rfl rfl rfl) ?_
        refine RW.nil ?_
        first
          | have hnx : reachF r (open_ (t.sent.take (i + 1)) r) = (reachF r (open_ (t.sent.take i) r)) := reach_skip hil (by assumption)
          | (have hj2 : j = (reachF r (open_ (t.sent.take i) r)).length := by omega
             subst hj2
             rw [List.take_length] at hc
             have hnx : reachF r (open_ (t.sent.take (i + 1)) r) = cur := (reach_more hil (by assumption)).trans hc.symm)
        refine ⟨_, ?_, _, weak_frz (n := 82) (fr' := [(2, .ptr 2 0 0 0), (3, .ptr 3 0 0 0), (4, .ptr 4 0 0 0), (6, .t (.sl ((reachF r (open_ (t.sent.take (i + 1)) r)).map encR) false)), (7, .t (encI ((i + 1) : Nat)))]) (st' := [(2, some ⟨2, 37, 0, [.t (encT t)]⟩), (3, some ⟨4, 23, 0, [.t (encR r)]⟩), (4, some ⟨2, 37, 0, [.t z37]⟩)]) [] trivial ⟨rfl, rfl, rfl, trivial⟩ ⟨wa_eq rfl rfl, wa_eq rfl rfl, wa_eq rfl rfl, wa_eq (by rw [hnx]; rfl) rfl, wa_eq rfl rfl, trivial⟩ ⟨rfl, okE_one rfl, rfl, okE_one rfl, rfl, okE_one rfl, trivial⟩, i + 1, (by omega), rfl, rfl⟩
        omega
  · try simp only [decide_eq_true_eq, decide_eq_false_iff_not, beq_iff_eq, bne_iff_ne, bne_eq_false_iff_eq, beq_eq_false_iff_ne, Bool.not_eq_true, Bool.not_eq_false, Bool.not_eq_true', Bool.not_eq_false', ne_eq] at h1
    refine awp_exit ?_
    refine awp_seq ?_
    refine awp_rw rfl ?_
    refine RW.op rfl rfl (eff_assign (v := .t _) rfl rfl rfl) ?_
    refine RW.nil ?_
    show AWP _ _ _ _
    have hi2 : i = t.sent.length := by omega
    subst hi2
    rw [List.take_length]
    have hnl3 : (reachF r (open_ t.sent r)).length ≤ 4096 := by have := reach_len r (open_ t.sent r) t.sent.length (List.length_filter_le _ _); omega
    refine awp_weak (weak_adopt (d := 11) (id := 11) (k := 4) (ty := 23) rfl rfl) ?_
    refine awp_seq ?_
    refine awp_seq ?_
    refine awp_rw rfl ?_
    refine RW.op rfl rfl (eff_assign (v := .t _) rfl rfl rfl) ?_
    refine RW.nil ?_
    refine awp_block ?_
    refine awp_loopW (fun m s => ∃ (k : Nat) (g : Nat) (n : Nat) (els : List AV), (k ≤ t.poss.length) ∧ (g ≤ k) ∧ (n = ((t.poss.take k).filter (fun x => decide (x ∈ reachF r (open_ t.sent r)))).length) ∧ (els = (((t.poss.take k).filter (fun x => decide (x ∈ reachF r (open_ t.sent r)))).map encR).map .t) ∧ m = t.poss.length - k ∧ s = ⟨82, [(2, .ptr 2 0 0 0), (4, .ptr 4 0 0 0), (6, .t (.sl ((reachF r (open_ t.sent r)).map encR) false)), (11, .own 11 g 0 n), (12, .t (encI (k : Nat)))], [(2, some ⟨2, 37, 0, [.t (encT t)]⟩), (4, some ⟨2, 37, 0, [.t z37]⟩), (11, some ⟨4, 23, g, els⟩)]⟩) (_) (⟨_, weak_keep (n := 82) (fr' := [(2, .ptr 2 0 0 0), (4, .ptr 4 0 0 0), (6, .t (.sl ((reachF r (open_ t.sent r)).map encR) false)), (11, .own 11 0 0 0), (12, .t (encI (0 : Nat)))]) (st' := [(2, some ⟨2, 37, 0, [.t (encT t)]⟩), (4, some ⟨2, 37, 0, [.t z37]⟩), (11, some ⟨4, 23, 0, ([])⟩)]) ⟨rfl, rfl, rfl, rfl, rfl, rfl, rfl, rfl, rfl, rfl, trivial⟩ ⟨rfl, okE_one rfl, rfl, okE_one rfl, rfl, (by first | exact okE_nil | (rw [he]; exact okE_t) | (rw [he]; intro x hx; simp only [List.mem_append, List.mem_map, List.mem_singleton] at hx; rcases hx with ⟨y, _, rfl⟩ | rfl <;> rfl)), trivial⟩, 0, 0, 0, [], (by omega), (by omega), (by simp), (by simp), rfl, rfl⟩) ?_
    rintro m s ⟨k, g, n, els, hk, hg, hnn, he, rfl, rfl⟩
    have hfl0 : n ≤ k := by rw [hnn]; exact Nat.le_trans (List.length_filter_le _ _) (by simp; omega)
    have hfl : ((t.poss.take k).filter (fun x => decide (x ∈ reachF r (open_ t.sent r)))).length ≤ k := Nat.le_trans (List.length_filter_le _ _) (by simp; omega)
    refine awp_seq ?_
    refine awp_seq ?_
    refine awp_rw rfl ?_
    refine RW.op rfl rfl (eff_move (v := .t _) rfl rfl rfl) ?_
    refine RW.op rfl rfl (eff_fieldAddr rfl rfl tf37_1 (by decide) rfl rfl rfl (Nat.le_of_ble_eq_true rfl)) ?_
    refine RW.op rfl rfl (eff_load (y := .t _) rfl rfl ti35 rfl (.one rfl rfl rfl rfl)) ?_
    refine RW.op rfl rfl (eff_lenM rfl rfl te35 rfl) ?_
    refine RW.op rfl rfl (eff_iop rfl rfl rfl rfl rfl) ?_
    refine RW.nil ?_
    refine awp_cond rfl (fun h4 => ?_) (fun h4 => ?_)
    · try simp only [decide_eq_true_eq, decide_eq_false_iff_not, beq_iff_eq, bne_iff_ne, bne_eq_false_iff_eq, beq_eq_false_iff_ne, Bool.not_eq_true, Bool.not_eq_false, Bool.not_eq_true', Bool.not_eq_false', ne_eq] at h4
      refine awp_skip ?_
      refine awp_seq ?_
      refine awp_block ?_
      refine awp_seq ?_
      refine awp_rw rfl ?_
      refine RW.op rfl rfl (eff_move (v := .t _) rfl rfl rfl) ?_
      refine RW.op rfl rfl (eff_fieldAddr rfl rfl tf37_1 (by decide) rfl rfl rfl (Nat.le_of_ble_eq_true rfl)) ?_
      refine RW.op rfl rfl (eff_load (y := .t _) rfl rfl ti35 rfl (.one rfl rfl rfl rfl)) ?_
      refine RW.op rfl rfl (eff_move (v := .t _) rfl rfl rfl) ?_
      refine RW.op rfl rfl (eff_indexM rfl rfl te35 rfl rfl rfl (by first | assumption | exact List.getElem?_eq_getElem (by omega)) rfl (by decide)) ?_
      refine RW.op rfl rfl (eff_loadW rfl rfl ti23 rfl rfl rfl) ?_
      refine RW.op rfl rfl (eff_callT (has_ret (reachF r (open_ t.sent r)) _ (by omega)) co28 rfl rfl rfl rfl) ?_
      refine RW.nil ?_
      refine awp_cond rfl (fun h5 => ?_) (fun h5 => ?_)
      · try simp only [decide_eq_true_eq, decide_eq_false_iff_not, beq_iff_eq, bne_iff_ne, bne_eq_false_iff_eq, beq_eq_false_iff_ne, Bool.not_eq_true, Bool.not_eq_false, Bool.not_eq_true', Bool.not_eq_false', ne_eq] at h5
        refine awp_rw rfl ?_
        refine RW.op rfl rfl (eff_move (v := .own _ _ _ _) rfl rfl rfl) ?_
        refine RW.op rfl rfl (eff_fieldAddr rfl rfl tf37_1 (by decide) rfl rfl rfl (Nat.le_of_ble_eq_true rfl)) ?_
        refine RW.op rfl rfl (eff_load (y := .t _) rfl rfl ti35 rfl (.one rfl rfl rfl rfl)) ?_
        refine RW.op rfl rfl (eff_move (v := .t _) rfl rfl rfl) ?_
        refine RW.op rfl rfl (eff_indexM rfl rfl te35 rfl rfl rfl (by first | assumption | exact List.getElem?_eq_getElem (by omega)) rfl (by decide)) ?_
        refine RW.op rfl rfl (eff_loadW rfl rfl ti23 rfl rfl rfl) ?_
        refine RW.new rfl rfl (eff_buildSliceL (id := 72) (els := [.t (.agg [_, _, _, _])]) rfl rfl te35 tz23 rfl (by decide) (by decide) rfl rfl rfl rfl) ?_
        refine RW.new rfl rfl (eff_append (id := 11) (ys := [_]) rfl rfl ta35 rfl rfl rfl (by rw [he, hnn]; simp) rfl rfl (srcOwn rfl rfl rfl rfl rfl rfl) (by simp) (by simp; omega) (by simp; omega)) ?_
        refine RW.op rfl rfl (eff_assign (v := .own _ _ _ _) rfl rfl rfl) ?_
        refine RW.nil ?_
        refine awp_rw rfl ?_
        refine RW.op rfl rfl (eff_move (v := .t _) rfl rfl rfl) ?_
        refine RW.op rfl rfl (eff_iop rfl rfl rfl rfl (iadd (by omega))) ?_
        refine RW.op rfl rfl (eff_assign (v := .t _) rfl rfl rfl) ?_
        refine RW.nil ?_
        have hft : (t.poss.take (k + 1)).filter (fun x => decide (x ∈ reachF r (open_ t.sent r))) = _ := (left_take (by omega)).trans (congrArg _ (by first | exact if_pos (by assumption) | exact if_neg (by assumption)))
        refine ⟨_, ?_, _, weak_keep (n := 82) (fr' := [(2, .ptr 2 0 0 0), (4, .ptr 4 0 0 0), (6, .t (.sl ((reachF r (open_ t.sent r)).map encR) false)), (11, .own 11 _ 0 _), (12, .t (encI ((k + 1) : Nat)))]) (st' := [(2, some ⟨2, 37, 0, [.t (encT t)]⟩), (4, some ⟨2, 37, 0, [.t z37]⟩), (11, some ⟨4, 23, _, _⟩)]) ⟨rfl, rfl, rfl, rfl, rfl, rfl, rfl, rfl, rfl, rfl, trivial⟩ ⟨rfl, okE_one rfl, rfl, okE_one rfl, rfl, (by first | exact okE_nil | (rw [he]; exact okE_t) | (rw [he]; intro x hx; simp only [List.mem_append, List.mem_map, List.mem_singleton] at hx; rcases hx with ⟨y, _, rfl⟩ | rfl <;> rfl)), trivial⟩, k + 1, _, _, _, (by omega), (by omega), (by rw [hft, hnn]; simp), (by rw [hft, he]; simp <;> rfl), rfl, rfl⟩
        omega
      · try simp only [decide_eq_true_eq, decide_eq_false_iff_not, beq_iff_eq, bne_iff_ne, bne_eq_false_iff_eq, beq_eq_false_iff_ne, Bool.not_eq_true, Bool.not_eq_false, Bool.not_eq_true', Bool.not_eq_false', ne_eq] at h5
        refine awp_skip ?_
        refine awp_rw rfl ?_
        refine RW.op rfl rfl (eff_move (v := .t _) rfl rfl rfl) ?_
        refine RW.op rfl rfl (eff_iop rfl rfl rfl rfl (iadd (by omega))) ?_
        refine RW.op rfl rfl (eff_assign (v := .t _) rfl rfl rfl) ?_
        refine RW.nil ?_
        have hft : (t.poss.take (k + 1)).filter (fun x => decide (x ∈ reachF r (open_ t.sent r))) = _ := (left_take (by omega)).trans (congrArg _ (by first | exact if_pos (by assumption) | exact if_neg (by assumption)))
        refine ⟨_, ?_, _, weak_keep (n := 82) (fr' := [(2, .ptr 2 0 0 0), (4, .ptr 4 0 0 0), (6, .t (.sl ((reachF r (open_ t.sent r)).map encR) false)), (11, .own 11 _ 0 _), (12, .t (encI ((k + 1) : Nat)))]) (st' := [(2, some ⟨2, 37, 0, [.t (encT t)]⟩), (4, some ⟨2, 37, 0, [.t z37]⟩), (11, some ⟨4, 23, _, _⟩)]) ⟨rfl, rfl, rfl, rfl, rfl, rfl, rfl, rfl, rfl, rfl, trivial⟩ ⟨rfl, okE_one rfl, rfl, okE_one rfl, rfl, (by first | exact okE_nil | (rw [he]; exact okE_t) | (rw [he]; intro x hx; simp only [List.mem_append, List.mem_map, List.mem_singleton] at hx; rcases hx with ⟨y, _, rfl⟩ | rfl <;> rfl)), trivial⟩, k + 1, _, _, _, (by omega), (by omega), (by rw [hft, hnn]; simp), (by rw [hft, he]; simp <;> rfl), rfl, rfl⟩
        omega
    · try simp only [decide_eq_true_eq, decide_eq_false_iff_not, beq_iff_eq, bne_iff_ne, bne_eq_false_iff_eq, beq_eq_false_iff_ne, Bool.not_eq_true, Bool.not_eq_false, Bool.not_eq_true', Bool.not_eq_false', ne_eq] at h4
      refine awp_exit ?_
      refine awp_seq ?_
      refine awp_seq ?_
      refine awp_rw rfl ?_
      refine RW.op rfl rfl (eff_move (v := .own _ _ _ _) rfl rfl rfl) ?_
      refine RW.op rfl rfl (eff_len rfl rfl te35 rfl rfl rfl) ?_
      refine RW.op rfl rfl (eff_iop rfl rfl rfl rfl rfl) ?_
      refine RW.nil ?_
      refine awp_cond rfl (fun h6 => ?_) (fun h6 => ?_)
      · try simp only [decide_eq_true_eq, decide_eq_false_iff_not, beq_iff_eq, bne_iff_ne, bne_eq_false_iff_eq, beq_eq_false_iff_ne, Bool.not_eq_true, Bool.not_eq_false, Bool.not_eq_true', Bool.not_eq_false', ne_eq] at h6
        refine awp_seq ?_
        refine awp_rw rfl ?_
        refine RW.op rfl rfl (eff_buildT (ys := [_, _]) rfl rfl tz37 tg37 rfl) ?_
        refine RW.store rfl rfl (eff_storeW (v := .t _) (els := [_]) (els' := [_]) rfl rfl ti37 rfl rfl rfl rfl rfl rfl rfl rfl rfl) ?_
        refine RW.op rfl rfl (eff_assign (v := .t _) rfl rfl rfl) ?_
        refine RW.nil ?_
        refine awp_ret ?_
        have hk2 : k = t.poss.length := by omega
        subst hk2
        have htl : t.poss.take t.poss.length = t.poss := List.take_length
        have hlf : left_ t r = (t.poss.take t.poss.length).filter (fun x => decide (x ∈ reachF r (open_ t.sent r))) := by rw [htl]; rfl
        first
          | (rw [hear_no (by rw [hlf]; omega)]
             exact ⟨Or.inr rfl, [_, _], ⟨.cell rfl ti37 (.whole rfl rfl rfl rfl rfl rfl) (.t _), .tmp (.t _), trivial⟩, (by repeat' first | exact trivial | exact Wk.refl _ | exact Wk.sl _ | refine And.intro ?_ ?_ | refine Wk.tupP ?_ | refine Wk.aggP ?_)⟩)
          | (rw [hear_ok (by rw [hlf]; omega), hlf]
             exact ⟨Or.inr rfl, [_, _], ⟨.cell rfl ti37 (.whole rfl rfl rfl rfl rfl rfl) (Res.aggP (xs := [_, _]) ⟨.t _, Res.ownT (xs := ((t.poss.take t.poss.length).filter (fun x => decide (x ∈ reachF r (open_ t.sent r)))).map encR) rfl rfl he (by rw [hnn]; simp), trivial⟩), .tmp (.t _), trivial⟩, .refl _⟩)
      · try simp only [decide_eq_true_eq, decide_eq_false_iff_not, beq_iff_eq, bne_iff_ne, bne_eq_false_iff_eq, beq_eq_false_iff_ne, Bool.not_eq_true, Bool.not_eq_false, Bool.not_eq_true', Bool.not_eq_false', ne_eq] at h6
        refine awp_skip ?_
        refine awp_seq ?_
        refine awp_rw rfl ?_
        refine RW.op rfl rfl (eff_fieldAddr rfl rfl tf37_0 (by decide) rfl rfl rfl (Nat.le_of_ble_eq_true rfl)) ?_
        refine RW.op rfl rfl (eff_load (y := .t _) rfl rfl ti34 rfl (.one rfl rfl rfl rfl)) ?_
        refine RW.op rfl rfl (eff_move (v := .own _ _ _ _) rfl rfl rfl) ?_
        refine RW.op rfl rfl (eff_buildA (ys := [_, _]) rfl rfl tz37 tg37 rfl rfl) ?_
        refine RW.store rfl rfl (eff_storeW (v := .agg _) (els := [_]) (els' := [_]) rfl rfl ti37 rfl rfl rfl rfl rfl rfl rfl rfl rfl) ?_
        refine RW.op rfl rfl (eff_assign (v := .t _) rfl rfl rfl) ?_
        refine RW.nil ?_
        refine awp_ret ?_
        have hk2 : k = t.poss.length := by omega
        subst hk2
        have htl : t.poss.take t.poss.length = t.poss := List.take_length
        have hlf : left_ t r = (t.poss.take t.poss.length).filter (fun x => decide (x ∈ reachF r (open_ t.sent r))) := by rw [htl]; rfl
        first
          | (rw [hear_no (by rw [hlf]; omega)]
             exact ⟨Or.inr rfl, [_, _], ⟨.cell rfl ti37 (.whole rfl rfl rfl rfl rfl rfl) (.t _), .tmp (.t _), trivial⟩, (by repeat' first | exact trivial | exact Wk.refl _ | exact Wk.sl _ | refine And.intro ?_ ?_ | refine Wk.tupP ?_ | refine Wk.aggP ?_)⟩)
          | (rw [hear_ok (by rw [hlf]; omega), hlf]
             exact ⟨Or.inr rfl, [_, _], ⟨.cell rfl ti37 (.whole rfl rfl rfl rfl rfl rfl) (Res.aggP (xs := [_, _]) ⟨.t _, Res.ownT (xs := ((t.poss.take t.poss.length).filter (fun x => decide (x ∈ reachF r (open_ t.sent r)))).map encR) rfl rfl he (by rw [hnn]; simp), trivial⟩), .tmp (.t _), trivial⟩, .refl _⟩)

end Go.Tv.C34

end
section
open Go Go.Tv Go.Proofs
namespace Go.Tv.C34

/-! ### The order -/
theorem less_iff {a b : Rep} : less a b = true ↔ a.next < b.next ∨ (a.next = b.next ∧ (a.have_ < b.have_ ∨ (a.have_ = b.have_ ∧ (a.key < b.key ∨ (a.key = b.key ∧ a.locked = false ∧ b.locked = true))))) := by
  unfold less
  by_cases h1 : a.next ≠ b.next
  · rw [if_pos h1]; simp only [decide_eq_true_eq]; omega
  · rw [if_neg h1]
    by_cases h2 : a.have_ ≠ b.have_
    · rw [if_pos h2]; simp only [decide_eq_true_eq]; omega
    · rw [if_neg h2]
      by_cases h3 : a.key ≠ b.key
      · rw [if_pos h3]; simp only [decide_eq_true_eq]; omega
      · rw [if_neg h3]
        cases a.locked <;> cases b.locked <;> simp <;> omega
theorem less_irrefl (a : Rep) : less a a = false := by
  rw [Bool.eq_false_iff]; intro h; rw [less_iff] at h
  rcases h with h | ⟨_, h | ⟨_, h | ⟨_, h, h2⟩⟩⟩
  · omega
  · omega
  · omega
  · rw [h] at h2; cases h2
theorem less_trans {a b c : Rep} (h : less a b = true) (k : less b c = true) : less a c = true := by
  rw [less_iff] at *
  rcases h with h | ⟨e1, h | ⟨e2, h | ⟨e3, h, h'⟩⟩⟩ <;> rcases k with k | ⟨f1, k | ⟨f2, k | ⟨f3, k, k'⟩⟩⟩
  all_goals first
    | (left; omega)
    | (right; refine ⟨by omega, ?_⟩; left; omega)
    | (right; refine ⟨by omega, ?_⟩; right; refine ⟨by omega, ?_⟩; left; omega)
    | (right; refine ⟨by omega, ?_⟩; right; refine ⟨by omega, ?_⟩; right; exact ⟨by omega, h, k'⟩)
theorem less_total {a b : Rep} (h : a ≠ b) : less a b = true ∨ less b a = true := by
  rw [less_iff, less_iff]
  rcases Int.lt_trichotomy a.next b.next with h1 | h1 | h1
  · exact .inl (.inl h1)
  · rcases Int.lt_trichotomy a.have_ b.have_ with h2 | h2 | h2
    · exact .inl (.inr ⟨h1, .inl h2⟩)
    · rcases Int.lt_trichotomy a.key b.key with h3 | h3 | h3
      · exact .inl (.inr ⟨h1, .inr ⟨h2, .inl h3⟩⟩)
      · obtain ⟨n, v, k, l⟩ := a
        obtain ⟨n', v', k', l'⟩ := b
        simp only at h1 h2 h3
        subst h1 h2 h3
        cases l <;> cases l' <;> simp_all
      · exact .inr (.inr ⟨h1.symm, .inr ⟨h2.symm, .inl h3⟩⟩)
    · exact .inr (.inr ⟨h1.symm, .inl h2⟩)
  · exact .inr (.inl h1)
theorem less_asymm {a b : Rep} (h : less a b = true) : less b a = false := by
  rw [Bool.eq_false_iff]; intro k
  have := less_trans h k
  rw [less_irrefl] at this; cases this

def Srt (l : List Rep) : Prop := l.Pairwise fun a b => less a b = true
theorem srt_nodup {l : List Rep} (h : Srt l) : l.Nodup := List.Pairwise.imp (fun {a b} hab e => by subst e; rw [less_irrefl] at hab; cases hab) h
theorem srt_put {l : List Rep} {x : Rep} (h : Srt l) : Srt (put l x) := by
  induction l with
  | nil => exact List.pairwise_singleton _ _
  | cons a l ih =>
    unfold Srt at h
    rw [List.pairwise_cons] at h
    unfold put
    split
    · rename_i hax
      refine List.pairwise_cons.2 ⟨fun y hy => ?_, ih h.2⟩
      rcases put_mem.1 hy with hy | rfl
      · exact h.1 y hy
      · exact hax
    · rename_i hax
      split
      · exact List.pairwise_cons.2 h
      · rename_i hne
        have hxa : less x a = true := (less_total hne).elim (fun e => absurd e hax) id
        refine List.pairwise_cons.2 ⟨fun y hy => ?_, List.pairwise_cons.2 h⟩
        rcases List.mem_cons.1 hy with rfl | hy
        · exact hxa
        · exact less_trans hxa (h.1 y hy)
theorem srt_stepI {f : Frm} : ∀ (now out : List Rep), Srt out → Srt (stepI f out now)
  | [], _, h => h
  | a :: l, out, h => by
    unfold stepI
    rw [List.foldl_cons]
    exact srt_stepI l _ (srt_put h)
theorem srt_stepF {out : List Rep} {f : Frm} (h : Srt out) : Srt (stepF out f) := srt_stepI out out h
theorem srt_reachF : ∀ (l : List Frm) (out : List Rep), Srt out → Srt (l.foldl stepF out)
  | [], _, h => h
  | f :: l, out, h => srt_reachF l _ (srt_stepF h)
theorem srt_reach (x : Rep) (l : List Frm) : Srt (reachF x l) := srt_reachF l [x] (List.pairwise_singleton _ _)
theorem stepF_mem {out : List Rep} {f : Frm} {y : Rep} : y ∈ stepF out f ↔ y ∈ out ∨ ∃ x, x ∈ out ∧ y = apply x f := stepI_mem out out y

theorem perm_of_mem {l m : List Rep} (hl : l.Nodup) (hm : m.Nodup) (h : ∀ x, x ∈ l ↔ x ∈ m) : l.Perm m := by
  induction l generalizing m with
  | nil =>
    cases m with
    | nil => exact .refl _
    | cons a m => exact absurd ((h a).2 List.mem_cons_self) (by simp)
  | cons a l ih =>
    have ha : a ∈ m := (h a).1 List.mem_cons_self
    obtain ⟨s, t, rfl⟩ := List.append_of_mem ha
    have hm2 : (a :: (s ++ t)).Nodup := (List.perm_middle.nodup_iff).1 hm
    rw [List.nodup_cons] at hl hm2
    refine ((ih hl.2 hm2.2 (fun x => ?_)).cons a).trans List.perm_middle.symm
    have hx := h x
    constructor
    · intro hxl
      have := hx.1 (List.mem_cons_of_mem _ hxl)
      rcases List.mem_append.1 this with h1 | h1
      · exact List.mem_append_left _ h1
      · rcases List.mem_cons.1 h1 with rfl | h1
        · exact absurd hxl hl.1
        · exact List.mem_append_right _ h1
    · intro hxm
      have : x ∈ a :: l := hx.2 (by
        rcases List.mem_append.1 hxm with h1 | h1
        · exact List.mem_append_left _ h1
        · exact List.mem_append_right _ (List.mem_cons_of_mem _ h1))
      rcases List.mem_cons.1 this with rfl | h1
      · exact absurd hxm hm2.1
      · exact h1

/-- Two sorted lists of the same states are one. -/
theorem srt_ext {l m : List Rep} (hl : Srt l) (hm : Srt m) (hp : l.Perm m) : l = m := by
  refine List.Perm.eq_of_pairwise (le := fun a b => less a b = true) ?_ hl hm hp
  intro a b _ _ h1 h2
  exact absurd h2 (by rw [less_asymm h1]; decide)

/-! ### compare -/
theorem cmpR_neg {a b : Rep} : cmpR a b < 0 ↔ less a b = true := by
  rw [less_iff]
  unfold cmpR orI orI orI orI orI cmpI flag
  cases a.locked <;> cases b.locked <;> simp <;> (repeat' split) <;> omega
theorem cmpR_swo : Sort.SWO (ltOf cmpR) where
  irrefl x := by unfold ltOf; rw [decide_eq_false]; rw [cmpR_neg, less_irrefl]; decide
  trans x y z h1 h2 := by
    unfold ltOf at *
    rw [decide_eq_true_eq] at *
    rw [cmpR_neg] at *
    exact less_trans h1 h2
  ntrans x y z h1 h2 := by
    unfold ltOf at *
    rw [decide_eq_false_iff_not] at *
    rw [cmpR_neg] at *
    intro h
    by_cases e : x = y
    · subst e; exact h2 h
    · rcases less_total e with h3 | h3
      · exact h1 h3
      · exact h2 (less_trans h3 h)
theorem sort_srt {l m : List Rep} (hm : Srt m) (hp : l.Perm m) : sortA cmpR l = m := by
  have h1 := sortA_perm cmpR_swo l
  have h2 := sortA_sorted cmpR_swo l
  have hnd : (sortA cmpR l).Nodup := (h1.trans hp).nodup_iff.2 (srt_nodup hm)
  refine srt_ext ?_ hm (h1.trans hp)
  have h3 := h2.and hnd
  refine List.Pairwise.imp (fun {a b} hab => ?_) h3
  obtain ⟨h4, h5⟩ := hab
  rw [cmpR_neg] at h4
  rcases less_total h5 with h | h
  · exact h
  · exact absurd h h4

/-! ### Maps of states -/
theorem setL_len (l : List Rep) : (setL l).length = l.length := by simp [setL]
theorem setL_at {l : List Rep} {i : Nat} (h : i < (setL l).length) : (setL l)[i] = (l[i]'(by rw [setL_len] at h; exact h), ()) := by simp [setL]
theorem setL_nodup {l : List Rep} (h : l.Nodup) : ((setL l).map (·.1)).Nodup := by
  unfold setL; rw [List.map_map, show ((·.1) ∘ fun r : Rep => (r, ())) = id from rfl, List.map_id]; exact h
theorem setL_perm {l m : List Rep} (h : l.Perm m) : (mapL KR XU (setL l)).Perm (mapL KR XU (setL m)) := (h.map _).map _

section
variable {all l : List Oper} {o : Oper} {n : Nat} {fr : Fra} {st : Sto} {g : Gh} {K' : St → Gh → Prop} {F0 : Nat → Prop} {w0 : World}
theorem RJ.sMake {t : TypeId} {d : Tmp} (hg : o.guard = none) (hd : o.dst = some d) (hdn : dstOK n (some d) = true) (ho : o.op = .makeMap t none)
    (h : ∀ r, gget g r = none → RJ Tryd.prog none (JR F0 w0) all l ⟨n, (d, .t (.mp r)) :: fr, st⟩ ((r, mapO KR XU (setL [])) :: g) K') : RJ Tryd.prog none (JR F0 w0) all (o :: l) ⟨n, fr, st⟩ g K' :=
  RJ.rMake hg hd hdn ho h
theorem RJ.sPut {t ety : TypeId} {m k x : Operand} {r : Nat} (a : Rep) (lm : List Rep) (hg : o.guard = none) (hd : o.dst = none) (ho : o.op = .mapUpdate t m k x ∨ o.op = .insert t m k x) (ht : Tryd.prog.underlying t = some (.map 23 ety))
    (hm : (St.mk n fr st).ev m = .t (.mp r)) (hk : (St.mk n fr st).ev k = .t (encR a)) (hx : (St.mk n fr st).ev x = .t (.bool true)) (hgm : gget g r = some (mapO KR XU (setL lm)))
    (h : RJ Tryd.prog none (JR F0 w0) all l ⟨n, fr, st⟩ ((r, mapO KR XU (setL (ins lm a))) :: g) K') : RJ Tryd.prog none (JR F0 w0) all (o :: l) ⟨n, fr, st⟩ g K' :=
  RJ.rPut KR XU (a := a) (b := ()) (lm := setL lm) hg hd ho ht hm hk hx hgm (by rw [put_set]; exact h)
theorem RJ.sRange {t ety : TypeId} {x : Operand} {m : Nat} {lm : List Rep} {d : Tmp} (hg : o.guard = none) (hd : o.dst = some d) (hdn : dstOK n (some d) = true) (ho : o.op = .range t x) (ht : Tryd.prog.underlying t = some (.map 23 ety))
    (hx : (St.mk n fr st).ev x = .t (.mpx m (mapL KR XU (setL lm))))
    (h : ∀ r, gget g r = none → RJ Tryd.prog none (JR F0 w0) all l ⟨n, (d, .t (.adr r 0)) :: fr, st⟩ ((r, itM m lm.length []) :: g) K') : RJ Tryd.prog none (JR F0 w0) all (o :: l) ⟨n, fr, st⟩ g K' :=
  RJ.rRange KR XU hg hd hdn ho ht hx (by rw [setL_len]; exact h)
theorem RJ.sNext (y : Operand) {x : Operand} {r m : Nat} {seen : List Nat} {lm : List Rep} {d : Tmp} (hg : o.guard = none) (hd : o.dst = some d) (hdn : dstOK n (some d) = true) (ho : o.op = .next x false)
    (hx : (St.mk n fr st).ev x = .t (.adr r 0)) (hy : (St.mk n fr st).ev y = .t (.mpx m (mapL KR XU (setL lm)))) (hr0 : gget g r = some (itM m lm.length seen))
    (hf : (∀ i, i < lm.length → i ∈ seen) → RJ Tryd.prog none (JR F0 w0) all l ⟨n, (d, .t (.tup [.bool false])) :: fr, st⟩ g K')
    (h : ∀ (i : Nat) (hi : i < lm.length), i ∉ seen → RJ Tryd.prog none (JR F0 w0) all l ⟨n, (d, .t (.tup [.bool true, encR lm[i], .bool true])) :: fr, st⟩ ((r, itM m lm.length (seen ++ [i])) :: g) K') : RJ Tryd.prog none (JR F0 w0) all (o :: l) ⟨n, fr, st⟩ g K' :=
  RJ.rNext KR XU y hg hd hdn ho hx hy (by rw [setL_len]; exact hr0) (fun hh => hf (fun i hi => hh i (by rw [setL_len]; exact hi))) (fun i hi hs => by
    have e : itM m (setL lm).length (seen ++ [i]) = itM m lm.length (seen ++ [i]) := by rw [setL_len]
    rw [setL_at hi, e]
    exact h i (by rw [setL_len] at hi; exact hi) hs)
theorem RJ.sEntry (y : Operand) {x : Operand} {r m : Nat} {seen : List Nat} {lm : List Rep} {d : Tmp} {i : Nat} (hi : i < lm.length) (hg : o.guard = none) (hd : o.dst = some d) (hdn : dstOK n (some d) = true) (ho : o.op = .entry x)
    (hx : (St.mk n fr st).ev x = .t (.adr r 0)) (hy : (St.mk n fr st).ev y = .t (.mpx m (mapL KR XU (setL lm)))) (hr0 : gget g r = some (itM m lm.length (seen ++ [i])))
    (h : RJ Tryd.prog none (JR F0 w0) all l ⟨n, (d, .t (.tup [encR lm[i], .bool true])) :: fr, st⟩ g K') : RJ Tryd.prog none (JR F0 w0) all (o :: l) ⟨n, fr, st⟩ g K' :=
  RJ.rEntry KR XU y (lm := setL lm) (by rw [setL_len]; exact hi) hg hd hdn ho hx hy (by rw [setL_len]; exact hr0) (by
    rw [setL_at (by rw [setL_len]; exact hi)]
    exact h)
end

theorem awj_openS {γ : Type} {X : JP γ} {ro : Option Nat} {kp : Nat → Bool} {c : Code} {n : Nat} {fr : Fra} {st : Sto} {g : γ} {Q : Exit → St → γ → Prop} (i : Nat) {l : List Rep} (hi : fget fr i = .t (mset l))
    (h : ∀ b l', l'.Perm l → AWJ Tryd.prog ro kp X c ⟨n, (i, .t (.mpx b (mapL KR XU (setL l')))) :: fr, st⟩ g Q) : AWJ Tryd.prog ro kp X c ⟨n, fr, st⟩ g Q :=
  awj_open i (L := mapL KR XU (setL l)) hi (fun b L' hp => by
    obtain ⟨l2, hp2, rfl⟩ := perm_of_map (setL l) hp
    obtain ⟨l3, hp3, rfl⟩ := perm_of_map l hp2
    exact h b l3 hp3)
theorem awj_freezeS {kp : Nat → Bool} {c : Code} {n : Nat} {fr : Fra} {st : Sto} {g : Gh} {Q : Exit → St → Gh → Prop} {F0 : Nat → Prop} {w0 : World} (i : Nat) {r : Nat} {l0 : List Rep} (l : List Rep) (hi : fget fr i = .t (.mp r)) (hg : gget g r = some (mapO KR XU (setL l0))) (hp : l0.Perm l)
    (h : AWJ Tryd.prog none kp (JR F0 w0) c ⟨n, (i, .t (mset l)) :: fr, st⟩ (gdel r g) Q) : AWJ Tryd.prog none kp (JR F0 w0) c ⟨n, fr, st⟩ g Q :=
  awj_freeze i (mapL KR XU (setL l)) hi hg (setL_perm hp) h

/-- What came of a map so far, and f's states of it. -/
def cameF (l : List Rep) (f : Frm) (seen : List Nat) (cur : List Rep) : Prop := cur.Nodup ∧ ∀ y, y ∈ cur ↔ ∃ (i : Nat) (hi : i < l.length), i ∈ seen ∧ (y = l[i] ∨ y = apply l[i] f)
theorem cameF_nil (l : List Rep) (f : Frm) : cameF l f [] [] := ⟨List.nodup_nil, fun y => by simp⟩
theorem cameF_step {l : List Rep} {f : Frm} {seen : List Nat} {cur : List Rep} {i : Nat} (h : cameF l f seen cur) (hi : i < l.length) : cameF l f (seen ++ [i]) (ins (ins cur l[i]) (apply l[i] f)) := by
  obtain ⟨h1, h2⟩ := h
  refine ⟨ins_nodup (ins_nodup h1), fun y => ?_⟩
  rw [ins_mem, ins_mem, h2]
  constructor
  · rintro ((⟨j, hj, hs, hy⟩ | hy) | hy)
    · exact ⟨j, hj, List.mem_append_left _ hs, hy⟩
    · exact ⟨i, hi, by simp, .inl hy⟩
    · exact ⟨i, hi, by simp, .inr hy⟩
  · rintro ⟨j, hj, hs, hy⟩
    rcases List.mem_append.1 hs with hs | hs
    · exact .inl (.inl ⟨j, hj, hs, hy⟩)
    · simp at hs; subst hs
      rcases hy with hy | hy
      · exact .inl (.inr hy)
      · exact .inr hy
theorem cameF_end {l m : List Rep} {f : Frm} {seen : List Nat} {cur : List Rep} (hm : Srt m) (hp : l.Perm m) (h : cameF l f seen cur) (hall : ∀ i, i < l.length → i ∈ seen) : cur.Perm (stepF m f) := by
  refine perm_of_mem h.1 (srt_nodup (srt_stepF hm)) (fun y => ?_)
  rw [h.2, stepF_mem]
  constructor
  · rintro ⟨i, hi, _, hy | hy⟩
    · exact .inl (hp.mem_iff.1 (by rw [hy]; exact List.getElem_mem _))
    · exact .inr ⟨l[i], hp.mem_iff.1 (List.getElem_mem _), hy⟩
  · rintro (hy | ⟨x, hx, hy⟩)
    · obtain ⟨i, hi, e⟩ := List.mem_iff_getElem.1 (hp.mem_iff.2 hy)
      exact ⟨i, hi, hall i hi, .inl e.symm⟩
    · obtain ⟨i, hi, e⟩ := List.mem_iff_getElem.1 (hp.mem_iff.2 hx)
      exact ⟨i, hi, hall i hi, .inr (by rw [e]; exact hy)⟩

theorem nodup_len : ∀ (n : Nat) (s : List Nat), s.Nodup → (∀ j, j ∈ s → j < n) → s.length ≤ n
  | 0, [], _, _ => Nat.le_refl _
  | 0, a :: s, _, h => absurd (h a List.mem_cons_self) (by omega)
  | n + 1, s, hn, h => by
    have h1 := nodup_len n (s.erase n) (hn.erase n) (fun j hj => by
      have h2 := (hn.mem_erase_iff).1 hj
      have h3 := h j h2.2
      have h4 := h2.1
      omega)
    rw [List.length_erase] at h1
    split at h1 <;> omega
theorem seen_lt {n : Nat} {seen : List Nat} {i : Nat} (hn : seen.Nodup) (hb : ∀ j, j ∈ seen → j < n) (hi : i < n) (hs : i ∉ seen) : seen.length < n := by
  have h2 := nodup_len n (i :: seen) (List.nodup_cons.2 ⟨hs, hn⟩) (fun x hx => by
    rcases List.mem_cons.1 hx with rfl | hx
    · exact hi
    · exact hb x hx)
  simp at h2; omega
theorem seen_nodup {seen : List Nat} {i : Nat} (hn : seen.Nodup) (hs : i ∉ seen) : (seen ++ [i]).Nodup := by
  rw [List.nodup_append]
  exact ⟨hn, by simp, fun a ha b hb => by simp at hb; subst hb; exact fun e => hs (e ▸ ha)⟩
theorem seen_bound {n : Nat} {seen : List Nat} {i : Nat} (hb : ∀ j, j ∈ seen → j < n) (hi : i < n) : ∀ j, j ∈ seen ++ [i] → j < n := fun j hj => by
  rcases List.mem_append.1 hj with h | h
  · exact hb j h
  · simp at h; omega

/-- What came of a map so far, in its order. -/
def pick (l : List Rep) (seen : List Nat) : List Rep := seen.filterMap fun i => l[i]?
theorem pick_step {l : List Rep} {seen : List Nat} {i : Nat} (hi : i < l.length) : pick l (seen ++ [i]) = pick l seen ++ [l[i]] := by
  unfold pick; rw [List.filterMap_append]; simp [hi]
theorem pick_len {l : List Rep} {seen : List Nat} (h : ∀ j, j ∈ seen → j < l.length) : (pick l seen).length = seen.length := by
  induction seen with
  | nil => rfl
  | cons a s ih =>
    have ha := h a List.mem_cons_self
    have := ih (fun j hj => h j (List.mem_cons_of_mem _ hj))
    unfold pick at *
    rw [List.filterMap_cons, List.getElem?_eq_getElem ha]
    simp [this]
theorem pick_all {l : List Rep} {seen : List Nat} (hn : seen.Nodup) (hb : ∀ j, j ∈ seen → j < l.length) (hall : ∀ i, i < l.length → i ∈ seen) (hl : l.Nodup) : (pick l seen).Perm l := by
  have h1 : ∀ x, x ∈ pick l seen ↔ x ∈ l := by
    intro x
    unfold pick
    rw [List.mem_filterMap]
    constructor
    · rintro ⟨i, _, hx⟩; exact List.mem_of_getElem? hx
    · intro hx
      obtain ⟨i, hi, e⟩ := List.mem_iff_getElem.1 hx
      exact ⟨i, hall i hi, by rw [List.getElem?_eq_getElem hi, e]⟩
  refine perm_of_mem ?_ hl h1
  unfold pick
  refine List.Pairwise.filterMap _ (fun a a' hne b hb' b' hb'' e => ?_) hn
  subst e
  change l[a]? = some b at hb'
  change l[a']? = some b at hb''
  obtain ⟨ha, e1⟩ := List.getElem?_eq_some_iff.1 hb'
  obtain ⟨ha', e2⟩ := List.getElem?_eq_some_iff.1 hb''
  have hpw := List.pairwise_iff_getElem.1 hl
  rcases Nat.lt_trichotomy a a' with h | h | h
  · exact hpw a a' ha ha' h (e1.trans e2.symm)
  · exact hne h
  · exact hpw a' a ha' ha h (e2.trans e1.symm)

theorem eff_lenS {o : Oper} {D : St} {t kty ety : TypeId} {x : Operand} {l : List Rep} (hd : dstOK D.n o.dst = true) (ho : o.op = .call { callee := .builtin .len, args := #[x], argTypes := #[t] }) (ht : Tryd.prog.underlying t = some (.map kty ety))
    (hx : D.ev x = .t (mset l)) : Eff Tryd.prog o D ⟨.t (encI (l.length : Nat)), []⟩ := by
  have := eff_lenD (P := Tryd.prog) (L := mapL KR XU (setL l)) hd ho ht hx .d
  rwa [show (mapL KR XU (setL l)).length = l.length from by rw [mapL_length, setL_len]] at this
theorem eff_hasS {o : Oper} {D : St} {t ety : TypeId} {m k : Operand} {l : List Rep} (a : Rep) (hl : l.Nodup) (ht : Tryd.prog.underlying t = some (.map 23 ety)) (hz : zeroOf Tryd.prog ety = some (.bool false)) (hd : dstOK D.n o.dst = true) (ho : o.op = .lookup t m k false)
    (hm : D.ev m = .t (mset l)) (hk : D.ev k = .t (encR a)) : Eff Tryd.prog o D ⟨.t (.bool (decide (a ∈ l))), []⟩ :=
  eff_getD (P := Tryd.prog) KR XU (a := a) (l := setL l) (z := .bool false) (zv := .bool false) (ok := false) ht hz (solid_bool _) hd ho hm .d (setL_nodup hl) hk (by
    rw [look_set]
    by_cases h : a ∈ l
    · rw [if_pos h, decide_eq_true h]; rfl
    · rw [if_neg h, decide_eq_false h]; rfl)
theorem ins_take {l : List Rep} {i : Nat} (hn : l.Nodup) (hi : i < l.length) : ins (l.take i) l[i] = l.take (i + 1) := by
  unfold ins
  rw [if_neg, ← take_succ_get hi]
  intro h
  obtain ⟨j, hj, e⟩ := List.mem_iff_getElem.1 h
  rw [List.getElem_take] at e
  have hj2 : j < i := by rw [List.length_take] at hj; omega
  exact List.pairwise_iff_getElem.1 hn j i (by omega) hi hj2 e
theorem sortEls_eq (l : List Rep) : sortEls cellsR l = (l.map encR).map .t := by unfold sortEls; rw [List.map_map]; rfl

/-- An owned slice that is not empty is not nil. -/
theorem eff_ownNotNil {o : Oper} {D : St} {t ty e : TypeId} {k : Nat} {ag : Bool} {x : Operand} {id g off len : Nat} {ob : Ob} (hd : dstOK D.n o.dst = true) (ho : o.op = .binOp .eql t x (.const (.slice none 0 0)) ty) (ht : elemOf Tryd.prog t = some (e, k, ag))
    (hx : D.ev x = .own id g off len) (hs : sget D.st id = some ob) (hg : ob.gen = g) (hl : 0 < len) : Eff Tryd.prog o D ⟨.t (.bool false), []⟩ := by
  intro s hs' hfr F β a w hr next Q hn
  refine effS_nilEq (P := Tryd.prog) (m := len) hd ho ht hx (.inr ⟨id, g, off, ob, rfl, hs, hg⟩) s hs' ?_ F β a w hr next Q ?_
  · rintro e ⟨b, rfl, _⟩ i q hm
    simp at hm
  · rintro e ⟨b, rfl, hb⟩
    cases b with
    | false => exact hn
    | true => have := hb rfl; omega
end Go.Tv.C34

end
