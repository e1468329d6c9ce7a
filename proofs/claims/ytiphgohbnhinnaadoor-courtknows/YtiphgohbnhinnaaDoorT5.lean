/- CourtKnows: for every input that reads as data, the call returns true and leaves its arguments as they were. No condition. -/
import Derived.Test.YtiphgohbnhinnaaDoorT4
import Derived.Test.YtiphgohbnhinnaaDoorT2
import Derived.Test.YtiphgohbnhinnaaDoorT1
import Derived.Test.YtiphgohbnhinnaaDoorRows
import Derived.ProofKit
import Derived.Test.YtiphgohbnhinnaaDoorTie
import Derived.Test.YtiphgohbnhinnaaDoorCards
import Derived.SevenTiedAt
set_option linter.unnecessarySimpa false
set_option linter.unusedVariables false
set_option linter.unusedSimpArgs false
section
open Go Go.Tv Go.Proofs
namespace Go.Tv.C36
set_option maxRecDepth 20000
set_option maxHeartbeats 2000000
set_option linter.unusedSimpArgs false
set_option linter.unusedVariables false
theorem law9 (l what : List Int) (p h n tick : Int) (hI : ∀ x, x ∈ l → I64 x) (hl : l.length ≤ 9223372036854775807) (hJ : ∀ x, x ∈ what → I64 x) (hwl : what.length ≤ 9223372036854775807) (hp : I64 p) (hh : I64 h) (hn : I64 n) (ht : I64 tick) : RetT Tryd.prog 9 [(1, deT)] [.sl (l.map encI) false, .sl (what.map encI) false, encI p, encI h, encI n, encI tick] (.bool true) := by
  refine retT_of_awp Tryd.func9 rfl (Nat.le_of_ble_eq_true rfl) ?_
  refine awp_seq ?_
  refine awp_rw rfl ?_
  refine asT ?_
  refine RW.nil ?_
  refine awp_seq ?_
  refine awp_rw rfl ?_
  refine mvT ?_
  refine mvT ?_
  refine RW.op rfl rfl (eff_callT (ledger_ret l what hI hl hJ hwl) co17 rfl rfl rfl rfl) ?_
  refine mvT ?_
  refine RW.op rfl rfl (eff_extract rfl rfl rfl rfl) ?_
  refine RW.op rfl rfl (eff_extract rfl rfl rfl rfl) ?_
  refine asT ?_
  refine asT ?_
  refine RW.nil ?_
  refine awp_seq ?_
  refine awp_rw rfl ?_
  have hled := ledger_led l what
  have hfew := ledger_few l what
  have hsh := hled.short
  have hG2 : ∀ x, x ∈ [(ledger l what).1, bent (ledger l what).1 p h n] → OKL x := two_mem hled.okl (hled.bentO hfew p h n)
  refine mvT ?_
  refine mvT ?_
  refine mvT ?_
  refine mvT ?_
  refine mvT ?_
  refine RW.op rfl rfl (eff_callT (bent_ret (ledger l what).1 p h n (by omega) hp hh hn) co18 rfl rfl rfl rfl) ?_
  refine RW.op rfl rfl (eff_buildSliceT (xs := [(ledger l what).1, bent (ledger l what).1 p h n].map encL) rfl rfl te37 tz32 rfl (by decide) rfl rfl rfl (by decide)) ?_
  refine asT ?_
  refine RW.nil ?_
  refine awp_seq ?_
  refine awp_rw rfl ?_
  refine mvT ?_
  refine mvT ?_
  refine RW.op rfl rfl (eff_callT (around_ret tick 20 ht (by decide)) co13 rfl rfl rfl rfl) ?_
  refine RW.op rfl rfl (eff_buildSliceT (xs := [tick, around tick 20].map encI) rfl rfl te26 tz3 rfl (by decide) rfl rfl rfl (by decide)) ?_
  refine asT ?_
  refine RW.nil ?_
  refine awp_seq ?_
  refine awp_seq ?_
  refine awp_rw rfl ?_
  refine asT ?_
  refine RW.nil ?_
  refine awp_block ?_
  refine awp_loopW (fun m s => ∃ (i : Nat), (i ≤ 2) ∧ m = 2 - i ∧ s = ⟨82, [(15, .t (.sl ([(ledger l what).1, bent (ledger l what).1 p h n].map encL) true)), (16, .t (.sl ([tick, around tick 20].map encI) true)), (17, .t (encI (i : Nat))), (83, .t deT)], []⟩) (_) (⟨_, weak_keep (n := 82) (fr' := [(15, .t (.sl ([(ledger l what).1, bent (ledger l what).1 p h n].map encL) true)), (16, .t (.sl ([tick, around tick 20].map encI) true)), (17, .t (encI (0 : Nat))), (83, .t deT)]) (st' := []) ⟨rfl, rfl, rfl, rfl, rfl, rfl, rfl, rfl, trivial⟩ trivial, 0, (by omega), rfl, rfl⟩) ?_
  rintro m s ⟨i, hi, rfl, rfl⟩
  refine awp_seq ?_
  refine awp_seq ?_
  refine awp_rw rfl ?_
  refine mvT ?_
  refine ioT ?_
  refine RW.nil ?_
  refine awp_cond rfl (fun h1 => ?_) (fun h1 => ?_)
  · try simp only [cl] at h1
    refine awp_skip ?_
    refine awp_seq ?_
    refine awp_block ?_
    refine awp_seq ?_
    refine awp_rw rfl ?_
    refine asT ?_
    refine RW.nil ?_
    refine awp_block ?_
    refine awp_loopW (fun m s => ∃ (q : Nat), (q ≤ 2) ∧ m = 2 - q ∧ s = ⟨82, [(15, .t (.sl ([(ledger l what).1, bent (ledger l what).1 p h n].map encL) true)), (16, .t (.sl ([tick, around tick 20].map encI) true)), (17, .t (encI (i : Nat))), (18, .t (encI (q : Nat))), (83, .t deT)], []⟩) (_) (⟨_, weak_keep (n := 82) (fr' := [(15, .t (.sl ([(ledger l what).1, bent (ledger l what).1 p h n].map encL) true)), (16, .t (.sl ([tick, around tick 20].map encI) true)), (17, .t (encI (i : Nat))), (18, .t (encI (0 : Nat))), (83, .t deT)]) (st' := []) ⟨rfl, rfl, rfl, rfl, rfl, rfl, rfl, rfl, rfl, rfl, trivial⟩ trivial, 0, (by omega), rfl, rfl⟩) ?_
    rintro m s ⟨q, hq, rfl, rfl⟩
    refine awp_seq ?_
    refine awp_seq ?_
    refine awp_rw rfl ?_
    refine mvT ?_
    refine ioT ?_
    refine RW.nil ?_
    refine awp_cond rfl (fun h2 => ?_) (fun h2 => ?_)
    · try simp only [cl] at h2
      refine awp_skip ?_
      refine awp_seq ?_
      refine awp_block ?_
      refine awp_seq ?_
      have hOi := hG2 _ (List.getElem_mem (show i < [(ledger l what).1, bent (ledger l what).1 p h n].length by show i < 2; omega))
      have hOl := hOi.len
      have hkf := known_fit hOi ([tick, around tick 20][q]'(by show q < 2; omega))
      refine awp_rd [(some 49, []), (some 50, []), (some 51, []), (some 52, []), (some 53, []), (some 54, []), (some 55, []), (some 56, []), (some 57, []), (some 48, []), (some 58, []), (some 59, []), (some 19, [19]), (none, [19]), (some 20, [])] [[], [], [0, 1], [0, 1, 2], [], [], [4, 5], [4, 5, 6], [0, 1, 2, 3, 4, 5, 6, 7], [0, 1, 2, 3, 4, 5, 6, 7, 8], [0, 1, 2, 3, 4, 5, 6, 7, 8, 9], [0, 1, 2, 3, 4, 5, 6, 7, 8, 9], [], [0, 1, 2, 3, 4, 5, 6, 7, 8, 9, 10, 12], [0, 1, 2, 3, 4, 5, 6, 7, 8, 9, 10, 11, 12, 13]] tm rfl rfl rfl rfl ?_
      refine mvD ?_
      refine mvD ?_
      refine RD.op rfl rfl rfl (eff_indexM (i := i) rfl rfl te37 rfl rfl (by first | rfl | omega) (by exact List.getElem?_eq_getElem (show i < [(ledger l what).1, bent (ledger l what).1 p h n].length by show i < 2; omega)) rfl (by decide)) ?_
      refine RD.op rfl rfl rfl (eff_loadW1 rfl rfl ti32 rfl rfl) ?_
      refine mvD ?_
      refine mvD ?_
      refine RD.op rfl rfl rfl (eff_indexM (i := q) rfl rfl te26 rfl rfl (by first | rfl | omega) (by exact List.getElem?_eq_getElem (show q < [tick, around tick 20].length by show q < 2; omega)) rfl (by decide)) ?_
      refine RD.op rfl rfl rfl (eff_loadW1 rfl rfl ti3 rfl rfl) ?_
      refine RD.op rfl rfl rfl (eff_callXT (known_ret ([(ledger l what).1, bent (ledger l what).1 p h n][i]'(by show i < 2; omega)) ([tick, around tick 20][q]'(by show q < 2; omega)) hOi) co28 rfl rfl rfl ⟨rfl, trivial⟩ rfl) ?_
      refine mvD ?_
      refine RD.op rfl rfl rfl (eff_extract rfl rfl rfl rfl) ?_
      refine RD.op rfl rfl rfl (eff_extract rfl rfl rfl rfl) ?_
      refine RD.new rfl rfl rfl (eff_allocK (k := 2) (id := 19) rfl rfl tz64 rfl rfl) ?_
      refine RD.store rfl rfl rfl (eff_storeW (v := .t _) (els := [_]) (els' := [_]) rfl rfl ti64 rfl rfl rfl rfl rfl rfl rfl rfl rfl) ?_
      refine RD.op rfl rfl rfl (eff_assign (v := .t _) rfl rfl rfl) ?_
      refine RD.nil ?_
      refine awp_seq ?_
      refine awp_rd [(some 61, []), (some 62, []), (some 63, []), (some 64, []), (some 65, []), (some 66, []), (some 67, []), (some 68, []), (some 69, []), (some 60, []), (some 70, []), (some 71, []), (some 21, [21]), (none, [21]), (some 22, [])] [[], [], [0, 1], [0, 1, 2], [], [], [4, 5], [4, 5, 6], [0, 1, 2, 3, 4, 5, 6, 7], [0, 1, 2, 3, 4, 5, 6, 7, 8], [0, 1, 2, 3, 4, 5, 6, 7, 8, 9], [0, 1, 2, 3, 4, 5, 6, 7, 8, 9], [], [0, 1, 2, 3, 4, 5, 6, 7, 8, 9, 10, 12], [0, 1, 2, 3, 4, 5, 6, 7, 8, 9, 10, 11, 12, 13]] tm rfl rfl rfl rfl ?_
      refine mvD ?_
      refine mvD ?_
      refine RD.op rfl rfl rfl (eff_indexM (i := i) rfl rfl te37 rfl rfl (by first | rfl | omega) (by exact List.getElem?_eq_getElem (show i < [(ledger l what).1, bent (ledger l what).1 p h n].length by show i < 2; omega)) rfl (by decide)) ?_
      refine RD.op rfl rfl rfl (eff_loadW1 rfl rfl ti32 rfl rfl) ?_
      refine mvD ?_
      refine mvD ?_
      refine RD.op rfl rfl rfl (eff_indexM (i := q) rfl rfl te26 rfl rfl (by first | rfl | omega) (by exact List.getElem?_eq_getElem (show q < [tick, around tick 20].length by show q < 2; omega)) rfl (by decide)) ?_
      refine RD.op rfl rfl rfl (eff_loadW1 rfl rfl ti3 rfl rfl) ?_
      refine RD.op rfl rfl rfl (eff_callT (rknown_ret ([(ledger l what).1, bent (ledger l what).1 p h n][i]'(by show i < 2; omega)) ([tick, around tick 20][q]'(by show q < 2; omega)) hOi) co29 rfl rfl rfl rfl) ?_
      refine mvD ?_
      refine RD.op rfl rfl rfl (eff_extract rfl rfl rfl rfl) ?_
      refine RD.op rfl rfl rfl (eff_extract rfl rfl rfl rfl) ?_
      refine RD.new rfl rfl rfl (eff_allocK (k := 2) (id := 21) rfl rfl tz64 rfl rfl) ?_
      refine RD.store rfl rfl rfl (eff_storeW (v := .t _) (els := [_]) (els' := [_]) rfl rfl ti64 rfl rfl rfl rfl rfl rfl rfl rfl rfl) ?_
      refine RD.op rfl rfl rfl (eff_assign (v := .t _) rfl rfl rfl) ?_
      refine RD.nil ?_
      refine awp_seq ?_
      refine awp_rw rfl ?_
      refine mvT ?_
      refine mvT ?_
      refine RW.op rfl rfl (eff_iop (r := .bool false) rfl rfl rfl rfl (by simp [iop])) ?_
      refine mvT ?_
      refine RW.gop rfl rfl rfl rfl rfl rfl (eff_load rfl rfl ti64 rfl (.whole rfl rfl rfl rfl rfl rfl)) ?_
      refine RW.gop rfl rfl rfl rfl rfl rfl (eff_load rfl rfl ti64 rfl (.whole rfl rfl rfl rfl rfl rfl)) ?_
      refine RW.gop rfl rfl rfl rfl rfl rfl (eff_callT (same_ret (known ([(ledger l what).1, bent (ledger l what).1 p h n][i]'(by show i < 2; omega)) ([tick, around tick 20][q]'(by show q < 2; omega))).1 hkf.1 hkf.2) co30 rfl rfl rfl rfl) ?_
      refine RW.gop rfl rfl rfl rfl rfl rfl (eff_unop rfl rfl rfl rfl) ?_
      refine pkT ?_
      refine RW.nil ?_
      refine awp_cond rfl (fun h => nomatch h) (fun _ => ?_)
      refine awp_skip ?_
      refine awp_rw rfl ?_
      refine mvT ?_
      refine RW.op rfl rfl (eff_iop rfl rfl rfl rfl (iadd (by omega))) ?_
      refine asT ?_
      refine RW.nil ?_
      refine ⟨_, ?_, _, weak_keep (n := 82) (fr' := [(15, .t (.sl ([(ledger l what).1, bent (ledger l what).1 p h n].map encL) true)), (16, .t (.sl ([tick, around tick 20].map encI) true)), (17, .t (encI (i : Nat))), (18, .t (encI ((q + 1) : Nat))), (83, .t deT)]) (st' := []) ⟨rfl, rfl, rfl, rfl, rfl, rfl, rfl, rfl, rfl, rfl, trivial⟩ trivial, q + 1, (by omega), rfl, rfl⟩
      omega
    · try simp only [cl] at h2
      refine awp_exit ?_
      refine awp_rw rfl ?_
      refine mvT ?_
      refine RW.op rfl rfl (eff_iop rfl rfl rfl rfl (iadd (by omega))) ?_
      refine asT ?_
      refine RW.nil ?_
      refine ⟨_, ?_, _, weak_keep (n := 82) (fr' := [(15, .t (.sl ([(ledger l what).1, bent (ledger l what).1 p h n].map encL) true)), (16, .t (.sl ([tick, around tick 20].map encI) true)), (17, .t (encI ((i + 1) : Nat))), (83, .t deT)]) (st' := []) ⟨rfl, rfl, rfl, rfl, rfl, rfl, rfl, rfl, trivial⟩ trivial, i + 1, (by omega), rfl, rfl⟩
      omega
  · try simp only [cl] at h1
    refine awp_exit ?_
    refine awp_seq ?_
    refine awp_rw rfl ?_
    refine RW.op rfl rfl (eff_callXT (lives_ret) co16 rfl rfl rfl ⟨rfl, trivial⟩ rfl) ?_
    refine asT ?_
    refine RW.nil ?_
    refine awp_ret ?_
    exact ⟨Or.inr rfl, [_], ⟨.tmp (.t _), trivial⟩, .refl _⟩

end Go.Tv.C36

end
section
open Go Go.Tv Go.Proofs Go.ChangeShapes Go.WideShapes Go.ChangeAt Go.RowKit
namespace Go.Tv.C36
set_option maxRecDepth 100000

theorem wfI64 {n : Int} (h : (Lit.int .i64 n).wf = true) : I64 n := by
  unfold I64
  simp [Lit.wf, IntKind.min, IntKind.max, IntKind.signed, IntKind.bits] at h; omega
theorem map_of {α : Type} {f : α → Tr} {p : α → Prop} : ∀ {els : List Tr}, (∀ x, x ∈ els → ∃ n, p n ∧ x = f n) → ∃ l : List α, els = l.map f ∧ ∀ n, n ∈ l → p n
  | [], _ => ⟨[], rfl, fun n h => by simp at h⟩
  | x :: els, h => by
    obtain ⟨n, hp, rfl⟩ := h x List.mem_cons_self
    obtain ⟨l, rfl, hl⟩ := map_of (els := els) (fun y hy => h y (List.mem_cons_of_mem _ hy))
    exact ⟨n :: l, rfl, fun m hm => (List.mem_cons.1 hm).elim (fun e => e ▸ hp) (hl m)⟩
theorem rd3 : Reads Tryd.prog 3 1 (fun ts => ∃ n, ts = [encI n] ∧ I64 n) := (reads_int Tryd.underlying3 (by kernel_rfl)).mono (fun ts ⟨n, h, hw⟩ => ⟨n, h, wfI64 hw⟩)
theorem rd26 : Reads Tryd.prog 26 1 (fun ts => ∃ l : List Int, ts = [.sl (l.map encI) false] ∧ l.length ≤ maxLen ∧ ∀ n, n ∈ l → I64 n) :=
  (reads_slice Tryd.underlying26 (by kernel_rfl) (by decide) (.inr rfl) rd3 (g := false)).mono (by
    rintro ts ⟨els, rfl, hm, h⟩
    obtain ⟨l, rfl, hl⟩ := map_of (f := encI) (p := I64) (fun x hx => by obtain ⟨_, ⟨n, rfl, hn⟩, rfl⟩ := h x hx; exact ⟨n, hn, rfl⟩)
    exact ⟨l, rfl, by simpa using hm, hl⟩)
def laid1 : List (String × DataW Unit) := [("math/bits.deBruijn32tab", Go.Proofs.YtiphgohbnhinnaaDoor.Rows.laid_math_bits_deBruijn32tab), ("math/bits.deBruijn64tab", Go.Proofs.YtiphgohbnhinnaaDoor.Rows.laid_math_bits_deBruijn64tab)]
theorem gDe : Tryd.prog.globalNamed "math/bits.deBruijn64tab" = some 1 := by kernel_rfl
theorem tDe : (Tryd.prog.globals[1]?).map (·.type) = some 125 := by kernel_rfl
theorem door_met (os : Os) (args : Array Value) : laidMetH Tryd.prog laid1 ((World.doorLaid Tryd.prog 400 os).forCall (fun _ _ => 0) ⟨#[], args, []⟩).memory :=
  laidMetH_of_parts3 (fuel := 8) (laidMet_of_run' 8 (by kernel_rfl) (by kernel_rfl)) (by kernel_rfl) (by kernel_rfl)
theorem tabs_of_laid {W : World} (h : laidMetH Tryd.prog laid1 W) : TabOK W (fun _ => False) [(1, deT)] := by
  intro g x hm
  simp only [List.mem_singleton, Prod.mk.injEq] at hm
  obtain ⟨rfl, rfl⟩ := hm
  exact tab_of_laid (l := deB) (k := .u8) h rfl (List.mem_cons_of_mem _ (List.mem_singleton.2 rfl)) (by intro e; cases e) gDe tDe Tryd.underlying125 Tryd.underlying5 (by kernel_rfl)
end Go.Tv.C36

end
section
namespace Go.Proofs.YtiphgohbnhinnaaDoor
open Go Go.Tv Go.Tv.C36 Go.ChangeShapes Go.WideShapes Go.ChangeAt Go.RowKit
set_option linter.unusedVariables false
set_option maxRecDepth 100000
theorem courtKnows_contract (H : Type) (enc : TypeId × Value → H) (W : World) (base : Nat) (args : Array Value) (ds gs : List (DataW H)) (before : List MemPlace)
    (hval : ∀ (j : Nat) t v, Tryd.f9.params[j]? = some t → args[j]? = some v → Value.okWide Tryd.prog W .any base t v)
    (hW : DataW.Whole enc Tryd.prog Tryd.f9.params.toList Rows.courtKnowsSpec.vars false W args.toList ds gs before) (hL : laidMetH Tryd.prog laid1 W) :
    Calls Tryd.prog 9 args W fun e W' => ∃ v, e = .returned v ∧ Rows.courtKnowsSpec.post enc Tryd.prog Tryd.f9 false true false false W args v W' := by
  have hW' := hW
  obtain ⟨p, q, hA0, hV, rfl, hfz, hnd⟩ := hW
  have hA : DataW.TrodAll enc Tryd.prog W 0 (fun _ => true) true Tryd.f9.params.toList args.toList ds p := hA0
  rw [Tryd.params9] at hA hval
  obtain ⟨v0, vs0, d0, ds0, p0, q0, hargs, rfl, rfl, h0, r0⟩ := trodAll_cons hA
  obtain ⟨v1, vs1, d1, ds1, p1, q1, rfl, rfl, rfl, h1, r1⟩ := trodAll_cons r0
  obtain ⟨v2, vs2, d2, ds2, p2, q2, rfl, rfl, rfl, h2, r2⟩ := trodAll_cons r1
  obtain ⟨v3, vs3, d3, ds3, p3, q3, rfl, rfl, rfl, h3, r3⟩ := trodAll_cons r2
  obtain ⟨v4, vs4, d4, ds4, p4, q4, rfl, rfl, rfl, h4, r4⟩ := trodAll_cons r3
  obtain ⟨v5, vs5, d5, ds5, p5, q5, rfl, rfl, rfl, h5, r5⟩ := trodAll_cons r4
  obtain ⟨rfl, rfl, rfl⟩ := trodAll_nil r5
  obtain rfl : args = #[v0, v1, v2, v3, v4, v5] := by cases args; simp_all
  obtain ⟨rfl, rfl⟩ := trodVars_none hV
  have k0 := hval 0 26 v0 rfl rfl
  have k1 := hval 1 26 v1 rfl rfl
  have k2 := hval 2 3 v2 rfl rfl
  have k3 := hval 3 3 v3 rfl rfl
  have k4 := hval 4 3 v4 rfl rfl
  have k5 := hval 5 3 v5 rfl rfl
  obtain ⟨x0, hx0, l, e0, m0, b0⟩ := arg_slice Tryd.underlying26 rd26 k0 h0
  obtain rfl : x0 = .sl (l.map Go.Tv.C36.encI) false := by simpa using e0
  unfold maxLen at m0
  have n0 : l.length ≤ 9223372036854775807 := by simpa using m0
  obtain ⟨x1, hx1, wh, e1, m1, b1⟩ := arg_slice Tryd.underlying26 rd26 k1 h1
  obtain rfl : x1 = .sl (wh.map Go.Tv.C36.encI) false := by simpa using e1
  unfold maxLen at m1
  have n1 : wh.length ≤ 9223372036854775807 := by simpa using m1
  obtain ⟨p, rfl, wp⟩ := arg_int Tryd.underlying3 k2 h2
  have i_p := wfI64 wp
  obtain ⟨hw, rfl, whw⟩ := arg_int Tryd.underlying3 k3 h3
  have i_hw := wfI64 whw
  obtain ⟨nn, rfl, wnn⟩ := arg_int Tryd.underlying3 k4 h4
  have i_nn := wfI64 wnn
  obtain ⟨tk, rfl, wtk⟩ := arg_int Tryd.underlying3 k5 h5
  have i_tk := wfI64 wtk
  refine (law_callsT (law9 l wh p hw nn tk b0 n0 b1 n1 i_p i_hw i_nn i_tk) (tabs_of_laid hL) (vl_cons hx0 (vl_cons hx1 (vl_cons (.int _ _) (vl_cons (.int _ _) (vl_cons (.int _ _) (vl_cons (.int _ _) vl_nil))))))).mono ?_
  rintro e W' ⟨rfl, hb⟩
  refine ⟨_, rfl, law_post (P := Tryd.prog) (by kernel_rfl) rfl (fun t ht => ?_) rfl Tryd.underlying4 hW' ⟨rfl, rfl, rfl⟩ hb⟩
  rw [Tryd.params9] at ht
  simp only [List.mem_cons, List.not_mem_nil, or_false] at ht
  rcases ht with rfl | rfl | rfl | rfl | rfl | rfl <;> exact ⟨by kernel_rfl, Nat.le_of_ble_eq_true (by kernel_rfl)⟩

theorem courtKnows_lifted (os : Os) (started : os.Started) (H : Type) (enc : TypeId × Value → H) :
    ReturnsInHanded {} Tryd.checked os 9 .any (fun w args => (Rows.courtKnowsSpec.pre enc Tryd.prog Tryd.f9 [] false w args ∧ laidMetH Tryd.prog laid1 w) ∧ sizedMet enc Tryd.prog Tryd.f9 (OpenSpec.ofChange Rows.courtKnowsSpec) false w args)
      (Rows.courtKnowsSpec.post enc Tryd.prog Tryd.f9 false true false false) := by
  refine returnsInHanded_of_change_and (C := Tryd.checked) (X := fun w _ => laidMetH Tryd.prog laid1 w) (fun _ _ _ hh h => h.of_heap hh) (by kernel_rfl) started (by kernel_rfl) Tryd.func9
    (ChangeSpec.witness_shaped (enc := enc) (C := Tryd.checked) (os := os) (X := fun w _ => laidMetH Tryd.prog laid1 w) false (World.doorLaid Tryd.prog 400 os) #[.slice none 0 0, .slice none 0 0, .int .i64 0, .int .i64 0, .int .i64 0, .int .i64 0] 8 rfl (World.shaped_of_RefB (by kernel_rfl) (by kernel_rfl)) (by kernel_rfl) (by kernel_rfl) (by kernel_rfl) (door_met os _)) ?_
  intro W base args ds gs before hval hW _ _ hL _
  exact courtKnows_contract H enc W base args ds gs before hval hW hL

theorem courtKnows_row_holds : Rows.CourtKnowsSaid :=
  OpenClaim.holds_of_wide 9 Tryd.f9 rfl rfl rfl rfl rfl rfl rfl ⟨rfl, rfl, rfl, rfl, rfl⟩ rfl rfl rfl rfl rfl (by kernel_rfl) Tryd.func9 (by kernel_rfl)
    (of_decide_eq_true (by kernel_rfl)) (by unfold Func.isWrapper; first | (rw [if_pos (by decide +kernel)]; kernel_rfl) | (rw [if_neg (by decide +kernel)]; exact ⟨rfl, rfl⟩))
    (fun os started H enc _ => courtKnows_lifted os started H enc)

theorem courtKnowsCard_holds : Rows.CourtKnowsCardSaid :=
  Claim7.holds_tied_plain_at .later [] [.data, .data] true _ false
    courtKnows_row_holds (fun _ h => by cases h) (by kernel_rfl) (fun _ h => by cases h) courtKnows_row_tie rfl ⟨rfl, rfl⟩ (by kernel_rfl) rfl
    (fun f fn hf hfn => by
      obtain rfl : f = 9 := Option.some.inj ((show Tryd.prog.funcNamed "perigee/perigeelaw36.CourtKnows" = some 9 by kernel_rfl).symm.trans hf) |>.symm
      obtain rfl : fn = Tryd.f9 := (Option.some.inj (Tryd.func9.symm.trans hfn)).symm
      exact ⟨by kernel_rfl, fun j t ht => by
        rw [Tryd.params9] at ht
        have hm : t ∈ [26, 26, 3, 3, 3, 3] := by simpa using Array.mem_of_getElem? ht
        have hall : ([26, 26, 3, 3, 3, 3].all fun u => !Tryd.prog.wantsStandIn u) = true := by kernel_rfl
        exact (show Tryd.prog.wantsStandIn t = false by simpa using List.all_eq_true.1 hall t hm)⟩)
    (by kernel_rfl)

end Go.Proofs.YtiphgohbnhinnaaDoor

end
