/- Words: what the program's and the reference's functions on words return. -/
import Derived.Test.YtfihllhldnaofaaFacts
import Derived.Test.YtfihllhldnaofaaVcRules
namespace Go.Proofs
open Go.Vc
set_option maxRecDepth 100000
def isWord (n : Int) : Bool := decide (-128 ≤ n ∧ n ≤ 127)
@[irreducible] def w8 (n : Int) : Int := (n + 128) % 256 - 128
theorem w8_eq (n : Int) : w8 n = (n + 128) % 256 - 128 := by unfold w8; rfl
def intDo (op a b : Int) : Int × Bool :=
  if isWord a ∧ isWord b then
    if op = 1 then (w8 (a + b), true) else if op = 2 then (w8 (a - b), true) else if op = 3 then (w8 (a * b), true)
    else if op = 4 ∧ b ≠ 0 then (w8 (a.tdiv b), true) else (0, false)
  else (0, false)
def prI (x : Int × Bool) : Value := .tuple #[.int .i64 x.1, .bool x.2]
theorem wrap8 (n : Int) : IntKind.i8.wrap n = w8 n := by
  simp [IntKind.wrap, IntKind.bits, IntKind.signed, w8]; omega
theorem w8_in (n : Int) : -128 ≤ w8 n ∧ w8 n ≤ 127 := by unfold w8; omega
theorem isWord_iff {n : Int} : isWord n = true ↔ -128 ≤ n ∧ n ≤ 127 := by simp [isWord]
theorem intDo_no {op a b : Int} (h : op < 1 ∨ 4 < op ∨ isWord a = false ∨ isWord b = false ∨ (op = 4 ∧ b = 0)) : intDo op a b = (0, false) := by
  unfold intDo
  split
  · rename_i hw
    have h' : op ≠ 1 ∧ op ≠ 2 ∧ op ≠ 3 ∧ ¬ (op = 4 ∧ b ≠ 0) := by
      rcases h with h | h | h | h | h
      · omega
      · omega
      · rw [hw.1] at h; cases h
      · rw [hw.2] at h; cases h
      · omega
    rw [if_neg h'.1, if_neg h'.2.1, if_neg h'.2.2.1, if_neg h'.2.2.2]
  · rfl
theorem w8_id {n : Int} (h : -128 ≤ n ∧ n ≤ 127) : w8 n = n := by unfold w8; omega
theorem isWord_c (n : Int) (h : Heap) : Pure Try.prog 12 [.int .i64 n] h (.bool (isWord n)) := by
  refine pur Try.sigOk Try.func12 Try.F12 Try.ok12 rfl ?_
  conv => whnf
  refine selP (fun h1 => ?_) (fun h1 => ?_)
  all_goals conv => whnf
  all_goals exact ⟨by simp [isWord, h1], rfl⟩
theorem l6In_c (n lo hi : Int) (h : Heap) : Pure Try.prog 20 [.int .i64 n, .int .i64 lo, .int .i64 hi] h (.bool (decide (lo ≤ n ∧ n ≤ hi))) := by
  refine pur Try.sigOk Try.func20 Try.F20 Try.ok20 rfl ?_
  conv => whnf
  refine selP (fun h1 => ?_) (fun h1 => ?_)
  all_goals conv => whnf
  all_goals exact ⟨by simp [h1], rfl⟩
theorem l1Word_c (n : Int) (h : Heap) : Pure Try.prog 10 [.int .i64 n] h (.bool (isWord n)) := by
  refine pur Try.sigOk Try.func10 Try.F10 Try.ok10 rfl ?_
  conv => whnf
  refine call_p (l6In_c _ _ _ _) ?_
  conv => whnf
  exact ⟨rfl, rfl⟩
theorem add_c (a b : Int) (h : Heap) : Pure Try.prog 13 [.int .i8 a, .int .i8 b] h (.int .i8 (w8 (a + b))) := by
  refine pur Try.sigOk Try.func13 Try.F13 Try.ok13 rfl ?_
  conv => whnf
  refine ar_any ?_
  conv => whnf
  exact ⟨by rw [wrap8], rfl⟩
theorem sub_c (a b : Int) (h : Heap) : Pure Try.prog 14 [.int .i8 a, .int .i8 b] h (.int .i8 (w8 (a - b))) := by
  refine pur Try.sigOk Try.func14 Try.F14 Try.ok14 rfl ?_
  conv => whnf
  refine ar_any ?_
  conv => whnf
  exact ⟨by rw [wrap8], rfl⟩
theorem mul_c (a b : Int) (h : Heap) : Pure Try.prog 15 [.int .i8 a, .int .i8 b] h (.int .i8 (w8 (a * b))) := by
  refine pur Try.sigOk Try.func15 Try.F15 Try.ok15 rfl ?_
  conv => whnf
  refine ar_any ?_
  conv => whnf
  exact ⟨by rw [wrap8], rfl⟩
theorem div_c (a b : Int) (h : Heap) (hb : b ≠ 0) : Pure Try.prog 16 [.int .i8 a, .int .i8 b] h (.int .i8 (w8 (a.tdiv b))) := by
  refine pur Try.sigOk Try.func16 Try.F16 Try.ok16 rfl ?_
  conv => whnf
  refine ob hb ?_
  conv => whnf
  refine ar_any ?_
  conv => whnf
  exact ⟨by rw [wrap8], rfl⟩
theorem mul_in {a b : Int} (ha : -128 ≤ a ∧ a ≤ 127) (hb : -128 ≤ b ∧ b ≤ 127) : -16384 ≤ a * b ∧ a * b ≤ 16384 := by
  have h1 : 0 ≤ (128 - a) * (128 - b) := Int.mul_nonneg (by omega) (by omega)
  have h2 : 0 ≤ (128 + a) * (128 + b) := Int.mul_nonneg (by omega) (by omega)
  have h3 : 0 ≤ (128 - a) * (128 + b) := Int.mul_nonneg (by omega) (by omega)
  have h4 : 0 ≤ (128 + a) * (128 - b) := Int.mul_nonneg (by omega) (by omega)
  constructor <;> grind
theorem tdiv_in' {a b : Int} (ha : -128 ≤ a ∧ a ≤ 127) : -128 ≤ a.tdiv b ∧ a.tdiv b ≤ 128 := by
  have h : (a.tdiv b).natAbs ≤ a.natAbs := by rw [Int.natAbs_tdiv]; exact Nat.div_le_self _ _
  omega
theorem intDo_yes {op a b : Int} (ha : isWord a = true) (hb : isWord b = true) : intDo op a b = if op = 1 then (w8 (a + b), true) else if op = 2 then (w8 (a - b), true) else if op = 3 then (w8 (a * b), true)
    else if op = 4 ∧ b ≠ 0 then (w8 (a.tdiv b), true) else (0, false) := by unfold intDo; rw [if_pos ⟨ha, hb⟩]
theorem w8w {a : Int} (ha : isWord a = true) : IntKind.i8.wrap a = a := by rw [wrap8, w8_id (isWord_iff.1 ha)]
theorem iIntDo_c (op a b : Int) (h : Heap) : Pure Try.prog 7 [.int .i64 op, .int .i64 a, .int .i64 b] h (prI (intDo op a b)) := by
  refine pur Try.sigOk Try.func7 Try.F7 Try.ok7 rfl ?_
  by_cases hr : op = 1 ∨ op = 2 ∨ op = 3 ∨ op = 4
  · rcases hr with rfl | rfl | rfl | rfl
    all_goals
      conv => whnf
      repeat' ((first
        | refine selP (fun h1 => ?_) (fun h1 => ?_)
        | refine selNB (fun h1 => ?_) (fun h1 => ?_)
        | refine call_p (isWord_c _ _) ?_
        | refine ob (by omega) ?_
        | refine ar_any ?_
        | refine call_p (add_c _ _ _) ?_
        | refine call_p (sub_c _ _ _) ?_
        | refine call_p (mul_c _ _ _) ?_
        | refine call_p (div_c _ _ _ (by rw [w8w (by assumption)]; assumption)) ?_) <;> (conv => whnf))
      all_goals first
        | (refine ⟨?_, rfl⟩; rw [intDo_no (by simp [*])]; rfl)
        | (refine ⟨?_, rfl⟩
           have ha : isWord a = true := by assumption
           have hb : isWord b = true := by assumption
           rw [intDo_yes ha hb, w8w ha, w8w hb, wrap_i64 (by have := w8_in (a + b); have := w8_in (a - b); have := w8_in (a * b); have := w8_in (a.tdiv b); omega) (by have := w8_in (a + b); have := w8_in (a - b); have := w8_in (a * b); have := w8_in (a.tdiv b); omega)]
           simp [prI, *])
  · conv => whnf
    repeat' ((first
      | refine selP (fun h1 => ?_) (fun h1 => ?_)) <;> (conv => whnf))
    all_goals first
      | (refine ⟨?_, rfl⟩; rw [intDo_no (by omega)]; rfl)
      | (exfalso; omega)
theorem iIntWrap_c (n : Int) (h : Heap) : Pure Try.prog 9 [.int .i64 n] h (.int .i64 (w8 n)) := by
  refine pur Try.sigOk Try.func9 Try.F9 Try.ok9 rfl ?_
  conv => whnf
  refine ar_any ?_
  conv => whnf
  rw [wrap8]
  have := w8_in n
  refine ar_in (by omega) (by omega) ?_
  conv => whnf
  exact ⟨rfl, rfl⟩
theorem tmod256 (n : Int) : -255 ≤ n.tmod 256 ∧ n.tmod 256 ≤ 255 ∧ (n.tmod 256 - n) % 256 = 0 := by
  rcases Int.lt_or_le n 0 with h | h
  · have h1 : n.tmod 256 = - ((-n) % 256) := by
      rw [show n = - (-n) by omega, Int.neg_tmod, Int.tmod_eq_emod_of_nonneg (by omega)]; simp
    omega
  · rw [Int.tmod_eq_emod_of_nonneg h]; omega
theorem sIntWrap_c (n : Int) (h : Heap) : Pure Try.prog 11 [.int .i64 n] h (.int .i64 (w8 n)) := by
  refine pur Try.sigOk Try.func11 Try.F11 Try.ok11 rfl ?_
  have hm := tmod256 n
  conv => whnf
  refine ob (by omega) ?_
  conv => whnf
  repeat' ((first
    | refine selP (fun h1 => ?_) (fun h1 => ?_)
    | refine ar_in (by omega) (by omega) ?_) <;> (conv => whnf))
  all_goals exact ⟨by unfold w8; congr 1; omega, rfl⟩
theorem sIntDo_c (op a b : Int) (h : Heap) : Pure Try.prog 6 [.int .i64 op, .int .i64 a, .int .i64 b] h (prI (intDo op a b)) := by
  refine pur Try.sigOk Try.func6 Try.F6 Try.ok6 rfl ?_
  conv => whnf
  refine call_p (l1Word_c _ _) ?_
  conv => whnf
  refine selNB (fun h1 => ?_) (fun h1 => ?_)
  all_goals conv => whnf
  · exact ⟨by rw [intDo_no (by simp [*])]; rfl, rfl⟩
  refine call_p (l1Word_c _ _) ?_
  conv => whnf
  refine selNB (fun h2 => ?_) (fun h2 => ?_)
  all_goals conv => whnf
  · exact ⟨by rw [intDo_no (by simp [*])]; rfl, rfl⟩
  have ha := isWord_iff.1 h1
  have hb := isWord_iff.1 h2
  have hm := mul_in ha hb
  have hq := tdiv_in' (b := b) ha
  repeat' ((first
    | refine selP (fun h3 => ?_) (fun h3 => ?_)
    | refine selNP (fun h3 => ?_) (fun h3 => ?_)
    | refine ar_in (by omega) (by omega) ?_
    | refine ob (by omega) ?_
    | refine call_p (sIntWrap_c _ _) ?_) <;> (conv => whnf))
  all_goals (refine ⟨?_, rfl⟩; rw [intDo_yes h1 h2]; simp [prI, *])
end Go.Proofs
