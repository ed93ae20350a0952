import Derived.Test.YtopddgfmhgmfpaaGreatC2
import Derived.RangeFuncBox
import Derived.RangeFuncLeaves
import Derived.WalkKit
import Derived.OwnWalkIn
import Derived.TacticsInMore
import Derived.LoopNIn
import Derived.LoopIn
set_option linter.unusedVariables false
set_option linter.unusedSimpArgs false
set_option linter.unusedVariables false
set_option linter.unusedSimpArgs false
namespace Go.Am
open Go Go.Proofs
set_option maxRecDepth 100000
set_option maxHeartbeats 4000000
theorem den_ne (q : Rat) : (q.den : Int) ≠ 0 := by have := q.den_nz; omega
theorem mul_as (p q : Rat) : Rat.divInt (p.num * q.num) ((p.den : Int) * q.den) = p * q := by
  rw [← Rat.divInt_mul_divInt, Rat.num_divInt_den, Rat.num_divInt_den]
theorem add_as (p q : Rat) : Rat.divInt (p.num * q.den + q.num * p.den) ((p.den : Int) * q.den) = p + q := by
  have := Rat.divInt_add_divInt p.num q.num (den_ne p) (den_ne q)
  rw [Rat.num_divInt_den, Rat.num_divInt_den] at this
  exact this.symm
theorem sub_as (p q : Rat) : Rat.divInt (p.num * q.den - q.num * p.den) ((p.den : Int) * q.den) = p - q := by
  have := Rat.divInt_sub_divInt p.num q.num (den_ne p) (den_ne q)
  rw [Rat.num_divInt_den, Rat.num_divInt_den] at this
  exact this.symm
theorem inv_as (q : Rat) : Rat.divInt (q.den : Int) q.num = q⁻¹ := by
  rw [← Rat.inv_divInt, Rat.num_divInt_den]
theorem div_as (p q : Rat) : Rat.divInt (p.num * q.den) ((p.den : Int) * q.num) = p / q := by
  rw [Rat.div_def, ← inv_as q, ← Rat.divInt_mul_divInt, Rat.num_divInt_den]
theorem num_ne {q : Rat} (h : q ≠ 0) : q.num ≠ 0 := fun e => h (Rat.num_eq_zero.1 e)
/-- The size of a rational number. -/
def lq (q : Rat) : Nat := ln q.num + ln (q.den : Int)
theorem lq_mul (p q : Rat) : lq (p * q) ≤ lq p + lq q := by
  rw [← mul_as]
  obtain ⟨h1, h2⟩ := ln_divInt (p.num * q.num) ((p.den : Int) * q.den) (Int.mul_ne_zero (den_ne p) (den_ne q))
  have := ln_mul p.num q.num
  have := ln_mul (p.den : Int) q.den
  simp only [lq]; omega
theorem qmul_call (p q : Rat) (h : lq p + lq q < 1099511627000) : ACall Tryz.prog 85 [.agg (ratC p), .agg (ratC q)] [.p (.agg (ratC (p * q)))] := by
  simp only [lq] at h
  have m1 := ln_mul p.num q.num
  have m2 := ln_mul (p.den : Int) q.den
  have c1 := mul_call p.num q.num (by omega)
  have c2 := mul_call (p.den : Int) q.den (by omega)
  have c3 := lowest_call (p.num * q.num) ((p.den : Int) * q.den) (by omega) (by omega) (Int.mul_ne_zero (den_ne p) (den_ne q))
  rw [mul_as] at c3
  obtain ⟨r, hr⟩ : ∃ r, r = p * q := ⟨_, rfl⟩
  rw [← hr] at c3 ⊢
  refine acall_of_awp (hE []) Tryz.func85 rfl (by kernel_rfl) [] ?_
  conv => whnf
  refine ⟨by kernel_rfl, ?_⟩
  conv => whnf
  refine ⟨_, c1, ?_⟩
  conv => whnf
  refine ⟨_, c2, ?_⟩
  conv => whnf
  refine ⟨_, c3, ?_⟩
  conv => whnf
  refine ⟨.inl (by kernel_rfl), ?_⟩
  conv => whnf
  exact ⟨.inl rfl, trivial⟩
theorem qdiv_call (p q : Rat) (h : lq p + lq q < 1099511627000) (h0 : q ≠ 0) : ACall Tryz.prog 51 [.agg (ratC p), .agg (ratC q)] [.p (.agg (ratC (p / q))), .p (nI 0)] := by
  simp only [lq] at h
  have m1 := ln_mul p.num (q.den : Int)
  have m2 := ln_mul (p.den : Int) q.num
  have c1 := mul_call p.num (q.den : Int) (by omega)
  have c2 := mul_call (p.den : Int) q.num (by omega)
  have c3 := new_call (p.num * q.den) ((p.den : Int) * q.num) (by omega) (by omega) (Int.mul_ne_zero (den_ne p) (num_ne h0))
  rw [div_as] at c3
  obtain ⟨r, hr⟩ : ∃ r, r = p / q := ⟨_, rfl⟩
  rw [← hr] at c3 ⊢
  refine acall_of_awp (hE []) Tryz.func51 rfl (by kernel_rfl) [] ?_
  conv => whnf
  refine ⟨by kernel_rfl, ?_⟩
  conv => whnf
  refine ⟨_, c1, ?_⟩
  conv => whnf
  refine ⟨_, c2, ?_⟩
  conv => whnf
  refine ⟨_, c3, ?_⟩
  conv => whnf
  refine ⟨.inl (by kernel_rfl), ?_⟩
  conv => whnf
  refine ⟨.inl (by rfl), ?_⟩
  conv => whnf
  exact ⟨.inl rfl, trivial⟩
theorem qneg_call (q : Rat) (h : lq q < 1099511627000) : ACall Tryz.prog 56 [.agg (ratC q)] [.p (.agg (ratC (-q)))] := by
  simp only [lq] at h
  refine acall_of_awp (hE []) Tryz.func56 rfl (by kernel_rfl) [] ?_
  conv => whnf
  refine ⟨by kernel_rfl, ?_⟩
  conv => whnf
  refine ⟨_, neg_call q.num (by omega), ?_⟩
  conv => whnf
  refine ⟨.inl (by kernel_rfl), ?_⟩
  conv => whnf
  exact ⟨.inl rfl, trivial⟩
theorem qadd_call (p q : Rat) (h : lq p + lq q < 1099511626000) : ACall Tryz.prog 125 [.agg (ratC p), .agg (ratC q)] [.p (.agg (ratC (p + q)))] := by
  simp only [lq] at h
  have m1 := ln_mul p.num (q.den : Int)
  have m2 := ln_mul q.num (p.den : Int)
  have m3 := ln_mul (p.den : Int) q.den
  have m4 := ln_add (p.num * q.den) (q.num * p.den)
  have c1 := mul_call p.num (q.den : Int) (by omega)
  have c2 := mul_call q.num (p.den : Int) (by omega)
  have c3 := mul_call (p.den : Int) q.den (by omega)
  have c4 := add_call (p.num * q.den) (q.num * p.den) (by omega) (by omega)
  have c5 := lowest_call (p.num * q.den + q.num * p.den) ((p.den : Int) * q.den) (by omega) (by omega) (Int.mul_ne_zero (den_ne p) (den_ne q))
  rw [add_as] at c5
  obtain ⟨r, hr⟩ : ∃ r, r = p + q := ⟨_, rfl⟩
  rw [← hr] at c5 ⊢
  refine acall_of_awp (hE []) Tryz.func125 rfl (by kernel_rfl) [] ?_
  conv => whnf
  refine ⟨by kernel_rfl, ?_⟩
  conv => whnf
  refine ⟨_, c1, ?_⟩
  conv => whnf
  refine ⟨_, c2, ?_⟩
  conv => whnf
  refine ⟨_, c4, ?_⟩
  conv => whnf
  refine ⟨_, c3, ?_⟩
  conv => whnf
  refine ⟨_, c5, ?_⟩
  conv => whnf
  refine ⟨.inl (by kernel_rfl), ?_⟩
  conv => whnf
  exact ⟨.inl rfl, trivial⟩
theorem qinv_call (q : Rat) (h : lq q < 1099511627000) (h0 : q ≠ 0) : ACall Tryz.prog 206 [.agg (ratC q)] [.p (.agg (ratC q⁻¹)), .p (nI 0)] := by
  simp only [lq] at h
  have c3 := new_call (q.den : Int) q.num (by omega) (by omega) (num_ne h0)
  rw [inv_as] at c3
  obtain ⟨r, hr⟩ : ∃ r, r = q⁻¹ := ⟨_, rfl⟩
  rw [← hr] at c3 ⊢
  refine acall_of_awp (hE []) Tryz.func206 rfl (by kernel_rfl) [] ?_
  conv => whnf
  refine ⟨_, c3, ?_⟩
  conv => whnf
  refine ⟨.inl (by rfl), ?_⟩
  conv => whnf
  exact ⟨.inl rfl, trivial⟩
def cmpQ (p q : Rat) : Int := if p < q then -1 else if q < p then 1 else 0
theorem cmpQ_eq (p q : Rat) : cmpZ (p.num * q.den) (q.num * p.den) = cmpQ p q := by
  simp only [cmpZ, cmpQ, Rat.lt_iff]
theorem qcmp_call (p q : Rat) (h : lq p + lq q < 1099511626000) : ACall Tryz.prog 55 [.agg (ratC p), .agg (ratC q)] [.p (nI (cmpQ p q))] := by
  simp only [lq] at h
  have m1 := ln_mul p.num (q.den : Int)
  have m2 := ln_mul q.num (p.den : Int)
  have c1 := mul_call p.num (q.den : Int) (by omega)
  have c2 := mul_call q.num (p.den : Int) (by omega)
  have c4 := cmp_call (p.num * q.den) (q.num * p.den) (by omega) (by omega)
  rw [cmpQ_eq] at c4
  obtain ⟨r, hr⟩ : ∃ r, r = cmpQ p q := ⟨_, rfl⟩
  rw [← hr] at c4 ⊢
  refine acall_of_awp (hE []) Tryz.func55 rfl (by kernel_rfl) [] ?_
  conv => whnf
  refine ⟨by kernel_rfl, ?_⟩
  conv => whnf
  refine ⟨_, c1, ?_⟩
  conv => whnf
  refine ⟨_, c2, ?_⟩
  conv => whnf
  refine ⟨_, c4, ?_⟩
  conv => whnf
  refine ⟨.inl (by kernel_rfl), ?_⟩
  conv => whnf
  exact ⟨.inl rfl, trivial⟩
theorem qvalid_call (q : Rat) (h : lq q < 1099511627000) : ACall Tryz.prog 52 [.agg (ratC q)] [.p (.val (.bool true))] := by
  simp only [lq] at h
  have hd := q.den_nz
  have c1 := gcd_call q.num (q.den : Int) (by omega) (by omega)
  rw [show Int.gcd q.num (q.den : Int) = 1 from q.reduced] at c1
  have c9 := cmp_call ((1 : Nat) : Int) 1 (by decide) (by decide)
  refine acall_of_awp (hE []) Tryz.func52 rfl (by kernel_rfl) [] ?_
  conv => whnf
  refine ⟨_, valid_call q.num (by omega), ?_⟩
  conv => whnf
  refine ⟨_, valid_call (q.den : Int) (by omega), ?_⟩
  conv => whnf
  refine ⟨_, sign_call (q.den : Int), ?_⟩
  conv => whnf
  rw [show sgn (q.den : Int) = 1 by simp only [sgn]; rw [if_neg (by omega), if_neg (by omega)]]
  conv => whnf
  refine ⟨_, c1, ?_⟩
  conv => whnf
  refine ⟨_, of_call 1 (by omega) (by omega), ?_⟩
  conv => whnf
  refine ⟨_, c9, ?_⟩
  conv => whnf
  exact ⟨.inl rfl, trivial⟩
end Go.Am

set_option linter.unusedVariables false
namespace Go.Am
open Go Go.Proofs
/-- Integers, rationals as rows. -/
def zl (l : List Int) : List (List PV) := l.map intC
def ql (l : List Rat) : List (List PV) := l.map ratC
theorem zl_get {l : List Int} {i : Nat} (h : i < l.length) : (zl l)[i]? = some (intC l[i]) := by simp [zl, h]
theorem zl_at {l : List Int} {i : Int} (n : Nat) (e : i = n) (h : n < l.length) : (zl l)[i.toNat]? = some (intC l[n]) := by subst e; exact zl_get h
theorem zl_len (l : List Int) : (zl l).length = l.length := by simp [zl]
theorem zl_take (l : List Int) (n : Nat) : (zl l).take n = zl (l.take n) := by simp [zl, List.map_take]
theorem zl_drop (l : List Int) (n : Nat) : (zl l).drop n = zl (l.drop n) := by simp [zl, List.map_drop]
theorem zl_app (a b : List Int) : zl a ++ zl b = zl (a ++ b) := by simp [zl]
theorem zl_set (l : List Int) (i : Nat) (z : Int) : (zl l).set i (intC z) = zl (l.set i z) := by simp [zl, List.map_set]
theorem zl_szs (l : List Int) : ∀ e ∈ zl l, e.length = 2 := by
  intro e he
  simp only [zl, List.mem_map] at he
  obtain ⟨z, _, rfl⟩ := he
  rfl
theorem ql_get {l : List Rat} {i : Nat} (h : i < l.length) : (ql l)[i]? = some (ratC l[i]) := by simp [ql, h]
theorem ql_at {l : List Rat} {i : Int} (n : Nat) (e : i = n) (h : n < l.length) : (ql l)[i.toNat]? = some (ratC l[n]) := by subst e; exact ql_get h
theorem ql_len (l : List Rat) : (ql l).length = l.length := by simp [ql]
theorem ql_take (l : List Rat) (n : Nat) : (ql l).take n = ql (l.take n) := by simp [ql, List.map_take]
theorem ql_drop (l : List Rat) (n : Nat) : (ql l).drop n = ql (l.drop n) := by simp [ql, List.map_drop]
theorem ql_app (a b : List Rat) : ql a ++ ql b = ql (a ++ b) := by simp [ql]
theorem ql_set (l : List Rat) (i : Nat) (z : Rat) : (ql l).set i (ratC z) = ql (l.set i z) := by simp [ql, List.map_set]
theorem ql_szs (l : List Rat) : ∀ e ∈ ql l, e.length = 4 := by
  intro e he
  simp only [ql, List.mem_map] at he
  obtain ⟨z, _, rfl⟩ := he
  rfl
/-- A number's cells, written out. -/
abbrev iB (z : Int) : AV := .p (.val (.bool (decide (z < 0))))
abbrev iS (z : Int) : AV := .p (.sl (wl (digs z.natAbs)))
abbrev iBox (z : Int) : Option Blk := some (.box [iB z, iS z])
abbrev qBox (q : Rat) : Option Blk := some (.box [iB q.num, iS q.num, iB q.den, iS q.den])
end Go.Am

set_option linter.unusedVariables false
set_option linter.unusedSimpArgs false
namespace Go.Am
open Go Go.Proofs
set_option maxRecDepth 100000
set_option maxHeartbeats 4000000
theorem ln_pow (a : Int) (k : Nat) : ln (a ^ k) ≤ ln a * k + 1 := by
  have := digs_pow a.natAbs k
  simp only [ln, Int.natAbs_pow]
  exact this
theorem ipow_call (a : Int) (n : Nat) (hn : n ≤ 4096) (hs : ln a * n < 1099511626000) : ACall Tryz.prog 108 [.agg (intC a), nI n] [.p (.agg (intC (a ^ n))), .p (nI 0)] := by
  have hp := ln_pow a n
  obtain ⟨s, m, e, hz, hsg, hm⟩ := intC_cases a
  have hl : (digs m).length * n < 1099511626000 := by rw [← hm]; exact hs
  have hpm : (digs (m ^ n)).length < 35184372088832 := by
    have := digs_pow m n
    omega
  rw [e]
  refine acall_of_awp (hE []) Tryz.func108 rfl (by kernel_rfl) [] ?_
  conv => whnf
  rw [decide_eq_false (show ¬ (n : Int) < 0 by omega)]
  conv => whnf
  rw [decide_eq_false (show ¬ (n : Int) > 4096 by omega)]
  conv => whnf
  refine ⟨by kernel_rfl, ?_⟩
  conv => whnf
  refine ⟨_, npow_call m n hn hl, ?_⟩
  conv => whnf
  cases s with
  | false =>
    conv => whnf
    refine ⟨_, signed_call (m ^ n) false hpm, ?_⟩
    conv => whnf
    refine ⟨.inl (by kernel_rfl), ?_⟩
    conv => whnf
    refine ⟨.inl (intC_eq ?_), ?_⟩
    · rw [hz]; simp
    conv => whnf
    exact ⟨.inl rfl, trivial⟩
  | true =>
    conv => whnf
    have e2 : Int.tmod (n : Int) 2 = ((n % 2 : Nat) : Int) := by
      rw [Int.tmod_eq_emod_of_nonneg (by omega)]; omega
    by_cases hodd : n % 2 = 1
    · rw [show (Int.tmod (n : Int) 2 == 1) = true by rw [e2, hodd]; rfl]
      conv => whnf
      refine ⟨_, signed_call (m ^ n) true hpm, ?_⟩
      conv => whnf
      refine ⟨.inl (by kernel_rfl), ?_⟩
      conv => whnf
      refine ⟨.inl (intC_eq ?_), ?_⟩
      · rw [hz]
        simp only [if_true]
        have : n = 2 * (n / 2) + 1 := by omega
        rw [this, Int.pow_succ, Int.pow_mul, Int.natCast_pow, Int.pow_succ, Int.pow_mul]
        rw [show (-(m : Int)) ^ 2 = (m : Int) ^ 2 by simp [Int.pow_succ, Int.neg_mul, Int.mul_neg]]
        rw [Int.mul_neg]
      conv => whnf
      exact ⟨.inl rfl, trivial⟩
    · rw [show (Int.tmod (n : Int) 2 == 1) = false by rw [e2, beq_eq_false_iff_ne]; omega]
      conv => whnf
      refine ⟨_, signed_call (m ^ n) false hpm, ?_⟩
      conv => whnf
      refine ⟨.inl (by kernel_rfl), ?_⟩
      conv => whnf
      refine ⟨.inl (intC_eq ?_), ?_⟩
      · rw [hz]
        simp only [if_true, Bool.false_eq_true, if_false]
        have : n = 2 * (n / 2) := by omega
        rw [this, Int.pow_mul, Int.natCast_pow, Int.pow_mul]
        rw [show (-(m : Int)) ^ 2 = (m : Int) ^ 2 by simp [Int.pow_succ, Int.neg_mul, Int.mul_neg]]
      conv => whnf
      exact ⟨.inl rfl, trivial⟩
def prodL (l : List Int) : Int := l.foldl (· * ·) 1
theorem prodL_snoc (l : List Int) (z : Int) : prodL (l ++ [z]) = prodL l * z := by simp [prodL]
def lnL : List Int → Nat
  | [] => 1
  | z :: r => ln z + lnL r
theorem ln_prodL (l : List Int) : ∀ i, ln (prodL (l.take i)) ≤ lnL (l.take i) := by
  have gen : ∀ (l : List Int) (a : Int), ln (l.foldl (· * ·) a) ≤ ln a + lnL l := by
    intro l
    induction l with
    | nil => intro a; simp
    | cons z r ih =>
      intro a
      have := ih (a * z)
      have := ln_mul a z
      simp only [List.foldl_cons, lnL]
      omega
  have gen1 : ∀ (l : List Int), ln (l.foldl (· * ·) 1) ≤ lnL l := by
    intro l
    cases l with
    | nil => simp [lnL]; decide
    | cons z r =>
      have := gen r (1 * z)
      rw [Int.one_mul] at this
      simp only [List.foldl_cons, lnL, Int.one_mul]
      omega
  intro i
  exact gen1 _
theorem lnL_take (l : List Int) (i : Nat) (h : i < l.length) : lnL (l.take i) + ln l[i] ≤ lnL l := by
  induction l generalizing i with
  | nil => simp at h
  | cons z r ih =>
    cases i with
    | zero =>
      have : 1 ≤ lnL r := by
        clear ih h
        induction r with
        | nil => simp [lnL]
        | cons x r ih => simp only [lnL]; omega
      simp only [List.take_zero, lnL, List.getElem_cons_zero]; omega
    | succ i =>
      have := ih i (by simpa using h)
      simp only [List.take_succ_cons, lnL, List.getElem_cons_succ]
      omega
theorem product_call (l : List Int) (hl : l.length < 1000000) (hs : lnL l < 1099511626000) : ACall Tryz.prog 151 [.sl (zl l)] [.p (.agg (intC (prodL l)))] := by
  refine acall_of_awp (hE []) Tryz.func151 rfl (by kernel_rfl) [] ?_
  conv => whnf
  refine ⟨_, iof_call 1 (by omega) (by omega), ?_⟩
  conv => whnf
  refine ⟨Nat × Int, fun x => x.1 ≤ l.length ∧ x.2 = prodL (l.take x.1), fun x => l.length - x.1,
    fun x => ⟨[.top, .top, .ptr 0 0 0, .ptr 1 0 0, .top, .top, .top, .p (.sl (zl l)), iI (((zl l).length : Nat) : Int), iI x.1, .top, .top, .top, .top, .top, .top, .top, .top], [some (.box [.p (.val (.bool false)), .p (.val (.slice none 0 0))]), iBox x.2]⟩, [], (0, 1), ?_, ?_⟩
  · conv => whnf
    repeat ((first | refine ⟨.inl rfl, ?_⟩ | refine ⟨rfl, ?_⟩); conv => whnf)
    exact ⟨Nat.zero_le _, by simp [prodL]⟩
  · rintro ⟨i, p⟩ ⟨h1, h2⟩
    simp only at h1 h2
    refine atS (s' := ⟨[.top, .top, .ptr 0 0 0, .ptr 1 0 0, .top, .top, .top, .p (.sl (zl l)), iI (((zl l).length : Nat) : Int), iI i, .top, .top, .top, .top, .top, .top, .top, .top], [some (.box [.p (.val (.bool false)), .p (.val (.slice none 0 0))]), iBox p]⟩) rfl ?_
    conv => whnf
    by_cases hi : i < l.length
    · rw [decide_eq_true (show (i : Int) < ((zl l).length : Nat) by rw [zl_len]; omega)]
      conv => whnf
      refine obind_of (zl_at i rfl hi) ?_
      conv => whnf
      have k1 := ln_prodL l i
      rw [← h2] at k1
      have k2 := lnL_take l i hi
      have c1 := imul_call p l[i] (by omega)
      obtain ⟨r, hr⟩ : ∃ r, r = p * l[i] := ⟨_, rfl⟩
      rw [← hr] at c1
      refine ⟨_, c1, ?_⟩
      conv => whnf
      refine ⟨(i + 1, r), ?_⟩
      conv => whnf
      repeat ((first | refine ⟨.inl rfl, ?_⟩ | refine ⟨rfl, ?_⟩); conv => whnf)
      refine ⟨.inl (vi (by rw [wi64 (by omega) (by omega)]; rfl)), ?_⟩
      conv => whnf
      repeat ((first | refine ⟨.inl rfl, ?_⟩ | refine ⟨rfl, ?_⟩); conv => whnf)
      exact ⟨⟨hi, by simp only; rw [List.take_succ_eq_append_getElem hi, prodL_snoc, hr, h2]⟩, by simp only; omega⟩
    · rw [decide_eq_false (show ¬ (i : Int) < ((zl l).length : Nat) by rw [zl_len]; omega)]
      conv => whnf
      refine ⟨.inl (intC_eq ?_), trivial⟩
      rw [h2, List.take_of_length_le (by omega)]
theorem product2_call (a b : Int) (hs : ln a + ln b < 1099511625000) : ACall Tryz.prog 151 [.sl [intC a, intC b]] [.p (.agg (intC (a * b)))] := by
  have := product_call [a, b] (by simp) (by simp only [lnL]; omega)
  rwa [show prodL [a, b] = a * b by simp [prodL]] at this
theorem product1_call (a : Int) (hs : ln a < 1099511625000) : ACall Tryz.prog 151 [.sl [intC a]] [.p (.agg (intC a))] := by
  have := product_call [a] (by simp) (by simp only [lnL]; omega)
  rwa [show prodL [a] = a by simp [prodL]] at this
theorem rlowest_call (n d : Int) (hn : ln n < 1099511626000) (hd : ln d < 1099511626000) (h0 : d ≠ 0) : ACall Tryz.prog 265 [.agg (intC n), .agg (intC d)] [.p (.agg (ratC (Rat.divInt n d)))] := by
  obtain ⟨k0, k1, k2⟩ := low_eq n d h0
  have hg := ln_gcd n d h0
  obtain ⟨g, hgg⟩ : ∃ g : Int, g = (Int.gcd n d : Int) := ⟨_, rfl⟩
  have c1 := igcd_call n d hn hd
  rw [← hgg] at c1 hg k0 k1 k2
  refine acall_of_awp (hE []) Tryz.func265 rfl (by kernel_rfl) [] ?_
  conv => whnf
  refine ⟨_, c1, ?_⟩
  conv => whnf
  refine ⟨_, isign_call d, ?_⟩
  conv => whnf
  by_cases hd0 : d < 0
  · rw [if_pos hd0] at k0 k1 k2
    have c2 := idivmod_call n (-g) hn (by rw [ln_neg]; omega) k0
    have c3 := idivmod_call d (-g) hd (by rw [ln_neg]; omega) k0
    rw [k1] at c2
    rw [k2] at c3
    have c4 := ineg_call g (by omega)
    obtain ⟨g', hg'⟩ : ∃ g' : Int, g' = -g := ⟨_, rfl⟩
    rw [← hg'] at c2 c3 c4
    obtain ⟨x, hx⟩ : ∃ x, x = (Rat.divInt n d).num := ⟨_, rfl⟩
    obtain ⟨y, hy⟩ : ∃ y, y = (Rat.divInt n d).den := ⟨_, rfl⟩
    obtain ⟨x', hx'⟩ : ∃ x, x = n % g' := ⟨_, rfl⟩
    obtain ⟨y', hy'⟩ : ∃ x, x = d % g' := ⟨_, rfl⟩
    rw [← hx, ← hx'] at c2
    rw [← hy, ← hy'] at c3
    rw [show sgn d = -1 by simp [sgn, hd0]]
    conv => whnf
    refine ⟨_, c4, ?_⟩
    conv => whnf
    refine ⟨_, c2, ?_⟩
    conv => whnf
    refine ⟨_, c3, ?_⟩
    conv => whnf
    refine ⟨.inl ?_, trivial⟩
    rw [hx, hy]; rfl
  · rw [if_neg hd0] at k0 k1 k2
    have c2 := idivmod_call n g hn (by omega) k0
    have c3 := idivmod_call d g hd (by omega) k0
    rw [k1] at c2
    rw [k2] at c3
    obtain ⟨x, hx⟩ : ∃ x, x = (Rat.divInt n d).num := ⟨_, rfl⟩
    obtain ⟨y, hy⟩ : ∃ y, y = (Rat.divInt n d).den := ⟨_, rfl⟩
    obtain ⟨x', hx'⟩ : ∃ x, x = n % g := ⟨_, rfl⟩
    obtain ⟨y', hy'⟩ : ∃ x, x = d % g := ⟨_, rfl⟩
    rw [← hx, ← hx'] at c2
    rw [← hy, ← hy'] at c3
    rw [decide_eq_false (show ¬ sgn d < 0 by simp only [sgn]; rw [if_neg hd0]; split <;> omega)]
    conv => whnf
    refine ⟨_, c2, ?_⟩
    conv => whnf
    refine ⟨_, c3, ?_⟩
    conv => whnf
    refine ⟨.inl ?_, trivial⟩
    rw [hx, hy]; rfl
theorem rnew_call (n d : Int) (hn : ln n < 1099511626000) (hd : ln d < 1099511626000) (h0 : d ≠ 0) : ACall Tryz.prog 202 [.agg (intC n), .agg (intC d)] [.p (.agg (ratC (Rat.divInt n d))), .p (nI 0)] := by
  refine acall_of_awp (hE []) Tryz.func202 rfl (by kernel_rfl) [] ?_
  conv => whnf
  refine ⟨_, isign_call d, ?_⟩
  conv => whnf
  rw [show (sgn d == 0) = false by simp only [sgn, beq_eq_false_iff_ne]; split <;> (try split) <;> omega]
  conv => whnf
  refine ⟨_, rlowest_call n d hn hd h0, ?_⟩
  conv => whnf
  refine ⟨.inl (by rfl), ?_⟩
  conv => whnf
  exact ⟨.inl rfl, trivial⟩
theorem rof_call (n : Int) : ACall Tryz.prog 288 [.agg (intC n)] [.p (.agg (ratC (n : Rat)))] := by
  refine acall_of_awp (hE []) Tryz.func288 rfl (by kernel_rfl) [] ?_
  conv => whnf
  refine ⟨by kernel_rfl, ?_⟩
  conv => whnf
  refine ⟨_, iof_call 1 (by omega) (by omega), ?_⟩
  conv => whnf
  refine ⟨.inl (by kernel_rfl), ?_⟩
  conv => whnf
  exact ⟨.inl rfl, trivial⟩
theorem rwhole_call (n : Int) (h0 : -9223372036854775808 ≤ n) (h1 : n < 9223372036854775808) : ACall Tryz.prog 251 [nI n] [.p (.agg (ratC (n : Rat)))] := by
  refine acall_of_awp (hE []) Tryz.func251 rfl (by kernel_rfl) [] ?_
  conv => whnf
  refine ⟨_, iof_call n h0 h1, ?_⟩
  conv => whnf
  refine ⟨_, rof_call n, ?_⟩
  conv => whnf
  exact ⟨.inl rfl, trivial⟩
theorem rsign_call (q : Rat) : ACall Tryz.prog 293 [.agg (ratC q)] [.p (nI (sgn q.num))] := by
  refine acall_of_awp (hE []) Tryz.func293 rfl (by kernel_rfl) [] ?_
  conv => whnf
  refine ⟨_, isign_call q.num, ?_⟩
  conv => whnf
  exact ⟨.inl rfl, trivial⟩
theorem rmul_call (p q : Rat) (h : lq p + lq q < 1099511625000) : ACall Tryz.prog 250 [.agg (ratC p), .agg (ratC q)] [.p (.agg (ratC (p * q)))] := by
  simp only [lq] at h
  have m1 := ln_mul p.num q.num
  have m2 := ln_mul (p.den : Int) q.den
  have c1 := product2_call p.num q.num (by omega)
  have c2 := product2_call (p.den : Int) q.den (by omega)
  have c3 := rlowest_call (p.num * q.num) ((p.den : Int) * q.den) (by omega) (by omega) (Int.mul_ne_zero (den_ne p) (den_ne q))
  rw [mul_as] at c3
  obtain ⟨r, hr⟩ : ∃ r, r = p * q := ⟨_, rfl⟩
  rw [← hr] at c3 ⊢
  refine acall_of_awp (hE []) Tryz.func250 rfl (by kernel_rfl) [] ?_
  conv => whnf
  refine ⟨by kernel_rfl, ?_⟩
  conv => whnf
  refine ⟨_, c1, ?_⟩
  conv => whnf
  refine ⟨_, c2, ?_⟩
  conv => whnf
  refine ⟨_, c3, ?_⟩
  conv => whnf
  refine ⟨.inl (by kernel_rfl), ?_⟩
  conv => whnf
  exact ⟨.inl rfl, trivial⟩
theorem rdiv_call (p q : Rat) (h : lq p + lq q < 1099511625000) (h0 : q ≠ 0) : ACall Tryz.prog 289 [.agg (ratC p), .agg (ratC q)] [.p (.agg (ratC (p / q))), .p (nI 0)] := by
  simp only [lq] at h
  have m1 := ln_mul p.num (q.den : Int)
  have m2 := ln_mul (p.den : Int) q.num
  have c1 := product2_call p.num (q.den : Int) (by omega)
  have c2 := product2_call (p.den : Int) q.num (by omega)
  have c3 := rnew_call (p.num * q.den) ((p.den : Int) * q.num) (by omega) (by omega) (Int.mul_ne_zero (den_ne p) (num_ne h0))
  rw [div_as] at c3
  obtain ⟨r, hr⟩ : ∃ r, r = p / q := ⟨_, rfl⟩
  rw [← hr] at c3 ⊢
  refine acall_of_awp (hE []) Tryz.func289 rfl (by kernel_rfl) [] ?_
  conv => whnf
  refine ⟨by kernel_rfl, ?_⟩
  conv => whnf
  refine ⟨_, c1, ?_⟩
  conv => whnf
  refine ⟨_, c2, ?_⟩
  conv => whnf
  refine ⟨_, c3, ?_⟩
  conv => whnf
  refine ⟨.inl (by kernel_rfl), ?_⟩
  conv => whnf
  refine ⟨.inl (by rfl), ?_⟩
  conv => whnf
  exact ⟨.inl rfl, trivial⟩
theorem rneg_call (q : Rat) (h : lq q < 1099511625000) : ACall Tryz.prog 80 [.agg (ratC q)] [.p (.agg (ratC (-q)))] := by
  simp only [lq] at h
  refine acall_of_awp (hE []) Tryz.func80 rfl (by kernel_rfl) [] ?_
  conv => whnf
  refine ⟨by kernel_rfl, ?_⟩
  conv => whnf
  refine ⟨_, ineg_call q.num (by omega), ?_⟩
  conv => whnf
  refine ⟨_, product1_call (q.den : Int) (by omega), ?_⟩
  conv => whnf
  refine ⟨.inl (by kernel_rfl), ?_⟩
  conv => whnf
  exact ⟨.inl rfl, trivial⟩
theorem radd_call (p q : Rat) (h : lq p + lq q < 1099511625000) : ACall Tryz.prog 256 [.agg (ratC p), .agg (ratC q)] [.p (.agg (ratC (p + q)))] := by
  simp only [lq] at h
  have m1 := ln_mul p.num (q.den : Int)
  have m2 := ln_mul q.num (p.den : Int)
  have m3 := ln_mul (p.den : Int) q.den
  have m4 := ln_add (p.num * q.den) (q.num * p.den)
  have c1 := product2_call p.num (q.den : Int) (by omega)
  have c2 := product2_call q.num (p.den : Int) (by omega)
  have c3 := product2_call (p.den : Int) q.den (by omega)
  have c4 := iadd_call (p.num * q.den) (q.num * p.den) (by omega) (by omega)
  have c5 := rlowest_call (p.num * q.den + q.num * p.den) ((p.den : Int) * q.den) (by omega) (by omega) (Int.mul_ne_zero (den_ne p) (den_ne q))
  rw [add_as] at c5
  obtain ⟨r, hr⟩ : ∃ r, r = p + q := ⟨_, rfl⟩
  rw [← hr] at c5 ⊢
  refine acall_of_awp (hE []) Tryz.func256 rfl (by kernel_rfl) [] ?_
  conv => whnf
  refine ⟨by kernel_rfl, ?_⟩
  conv => whnf
  refine ⟨_, c1, ?_⟩
  conv => whnf
  refine ⟨_, c2, ?_⟩
  conv => whnf
  refine ⟨_, c4, ?_⟩
  conv => whnf
  refine ⟨_, c3, ?_⟩
  conv => whnf
  refine ⟨_, c5, ?_⟩
  conv => whnf
  refine ⟨.inl (by kernel_rfl), ?_⟩
  conv => whnf
  exact ⟨.inl rfl, trivial⟩
theorem rsub_call (p q : Rat) (h : lq p + lq q < 1099511625000) : ACall Tryz.prog 290 [.agg (ratC p), .agg (ratC q)] [.p (.agg (ratC (p - q)))] := by
  simp only [lq] at h
  have m1 := ln_mul p.num (q.den : Int)
  have m2 := ln_mul q.num (p.den : Int)
  have m3 := ln_mul (p.den : Int) q.den
  have m4 := ln_add (p.num * q.den) (-(q.num * p.den))
  rw [ln_neg, ← Int.sub_eq_add_neg] at m4
  have c1 := product2_call p.num (q.den : Int) (by omega)
  have c2 := product2_call q.num (p.den : Int) (by omega)
  have c3 := product2_call (p.den : Int) q.den (by omega)
  have c4 := isub_call (p.num * q.den) (q.num * p.den) (by omega) (by omega)
  have c5 := rlowest_call (p.num * q.den - q.num * p.den) ((p.den : Int) * q.den) (by omega) (by omega) (Int.mul_ne_zero (den_ne p) (den_ne q))
  rw [sub_as] at c5
  obtain ⟨r, hr⟩ : ∃ r, r = p - q := ⟨_, rfl⟩
  rw [← hr] at c5 ⊢
  refine acall_of_awp (hE []) Tryz.func290 rfl (by kernel_rfl) [] ?_
  conv => whnf
  refine ⟨by kernel_rfl, ?_⟩
  conv => whnf
  refine ⟨_, c1, ?_⟩
  conv => whnf
  refine ⟨_, c2, ?_⟩
  conv => whnf
  refine ⟨_, c4, ?_⟩
  conv => whnf
  refine ⟨_, c3, ?_⟩
  conv => whnf
  refine ⟨_, c5, ?_⟩
  conv => whnf
  refine ⟨.inl (by kernel_rfl), ?_⟩
  conv => whnf
  exact ⟨.inl rfl, trivial⟩
theorem rinv_call (q : Rat) (h : lq q < 1099511625000) (h0 : q ≠ 0) : ACall Tryz.prog 258 [.agg (ratC q)] [.p (.agg (ratC q⁻¹)), .p (nI 0)] := by
  simp only [lq] at h
  have c3 := rnew_call (q.den : Int) q.num (by omega) (by omega) (num_ne h0)
  rw [inv_as] at c3
  obtain ⟨r, hr⟩ : ∃ r, r = q⁻¹ := ⟨_, rfl⟩
  rw [← hr] at c3 ⊢
  refine acall_of_awp (hE []) Tryz.func258 rfl (by kernel_rfl) [] ?_
  conv => whnf
  refine ⟨_, c3, ?_⟩
  conv => whnf
  refine ⟨.inl (by rfl), ?_⟩
  conv => whnf
  exact ⟨.inl rfl, trivial⟩
theorem rcmp_call (p q : Rat) (h : lq p + lq q < 1099511625000) : ACall Tryz.prog 82 [.agg (ratC p), .agg (ratC q)] [.p (nI (cmpQ p q))] := by
  simp only [lq] at h
  have m1 := ln_mul p.num (q.den : Int)
  have m2 := ln_mul q.num (p.den : Int)
  have c1 := product2_call p.num (q.den : Int) (by omega)
  have c2 := product2_call q.num (p.den : Int) (by omega)
  have c4 := icmp_call (p.num * q.den) (q.num * p.den) (by omega) (by omega)
  rw [cmpQ_eq] at c4
  obtain ⟨r, hr⟩ : ∃ r, r = cmpQ p q := ⟨_, rfl⟩
  rw [← hr] at c4 ⊢
  refine acall_of_awp (hE []) Tryz.func82 rfl (by kernel_rfl) [] ?_
  conv => whnf
  refine ⟨by kernel_rfl, ?_⟩
  conv => whnf
  refine ⟨_, c1, ?_⟩
  conv => whnf
  refine ⟨_, c2, ?_⟩
  conv => whnf
  refine ⟨_, c4, ?_⟩
  conv => whnf
  refine ⟨.inl (by kernel_rfl), ?_⟩
  conv => whnf
  exact ⟨.inl rfl, trivial⟩
end Go.Am

set_option linter.unusedVariables false
set_option linter.unusedSimpArgs false
namespace Go.Am
open Go Go.Proofs
set_option maxRecDepth 100000
set_option maxHeartbeats 4000000
/-- Bytes with signs as rows. -/
def bl8 (l : List Int) : List (List PV) := l.map fun z => [.val (.int .i8 z)]
theorem bl8_at {l : List Int} {i : Int} (n : Nat) (e : i = n) (h : n < l.length) : (bl8 l)[i.toNat]? = some [.val (.int .i8 l[n])] := by subst e; simp [bl8, h]
theorem bl8_len (l : List Int) : (bl8 l).length = l.length := by simp [bl8]
def I8 (l : List Int) : Prop := ∀ z ∈ l, -128 ≤ z ∧ z < 128
/-- The coefficient that a byte stands for. -/
def cq (z : Int) : Rat := if 100 ≤ z then ((Int.tmod z 7 : Int) : Rat) / 3 else ((Int.tmod z 7 : Int) : Rat)
def trimQ (l : List Rat) : List Rat := (l.reverse.dropWhile (· == 0)).reverse
theorem trimQ_snoc0 (l : List Rat) : trimQ (l ++ [0]) = trimQ l := by simp [trimQ]
theorem trimQ_snoc (l : List Rat) (x : Rat) (h : x ≠ 0) : trimQ (l ++ [x]) = l ++ [x] := by simp [trimQ, h]
theorem lnz (z : Int) (h : z.natAbs < 4294967296) : ln z ≤ 1 := digs_len_of (by omega)
theorem lq_int (z : Int) (h : z.natAbs < 4294967296) : lq (z : Rat) ≤ 2 := by
  have h1 := lnz z h
  have h2 : ln 1 = 1 := by decide
  show ln z + ln ((1 : Nat) : Int) ≤ 2
  have h3 : ln ((1 : Nat) : Int) = 1 := h2
  omega
theorem upoly_call (l : List Int) (m : Nat) (hl : I8 l) (hm : m < 100) : ACall Tryz.prog 17 [.sl (bl8 l), nI m] [.p (.sl (ql (trimQ ((l.take (m + 1)).map cq))))] := by
  refine acall_of_awp (hE []) Tryz.func17 rfl (by kernel_rfl) [8,9] ?_
  conv => whnf
  obtain ⟨L, hL⟩ : ∃ L, L = (l.take (m + 1)).map cq := ⟨_, rfl⟩
  rw [← hL]
  have hLl : L.length ≤ 100 := by rw [hL]; simp; omega
  refine ⟨Unit, fun _ => True, fun _ => ⟨[.top, .top, .top, .top, .top, .own 0 4 L.length, .top, .top, .top, .top, .top, .top, .top, .top, .top, .top, .top, .top, .top, .top, .top, .top, .top, .top, .top, .top, .top, .top, .top, .top, .top, .top, .top, .top, .top, .top, .top, .top, .top, .top, .top, .top, .top, .top, .top, .top, .top, .top, .top, .top, .top, .top, .top, .top, .top, .top, .top, .top, .top, .top, .top], [some (.row 4 (ql L) true)]⟩, ?_, ?_⟩
  rotate_left
  · rintro _ _
    conv => whnf
    refine ⟨Nat, fun n => n ≤ L.length ∧ trimQ (L.take n) = trimQ L, id, fun n => ⟨[.top, .top, .top, .top, .top, .own 0 4 n, .top, .top, .top, .top, .top, .top, .top, .top, .top, .top, .top, .top, .top, .top, .top, .top, .top, .top, .top, .top, .top, .top, .top, .top, .top, .top, .top, .top, .top, .top, .top, .top, .top, .top, .top, .top, .top, .top, .top, .top, .top, .top, .top, .top, .top, .top, .top, .top, .top, .top, .top, .top, .top, .top, .top], [some (.row 4 (ql (L.take n)) true)]⟩, [], L.length, ?_, ?_⟩
    · conv => whnf
      repeat ((first | refine ⟨.inl rfl, ?_⟩ | refine ⟨rfl, ?_⟩); conv => whnf)
      refine ⟨.inl (by rw [List.take_of_length_le (Nat.le_refl _)]), ?_⟩
      conv => whnf
      exact ⟨Nat.le_refl _, by rw [List.take_of_length_le (Nat.le_refl _)]⟩
    · rintro n ⟨h1, h2⟩
      cases n with
      | zero =>
        conv => whnf
        refine ⟨.inl ?_, trivial⟩
        rw [← h2]; simp [trimQ, ql]
      | succ n =>
        conv => whnf
        rw [decide_eq_true (show ((n + 1 : Nat) : Int) > 0 by omega)]
        conv => whnf
        have e1 : IntKind.wrap .i64 (((n + 1 : Nat) : Int) - 1) = (n : Int) := by rw [wi64 (by omega) (by omega)]; omega
        rw [e1]
        conv => whnf
        refine chk_of (by first | omega | (simp only [wl_len, ul_len] at *; omega)) ?_
        conv => whnf
        have hs := List.take_succ_eq_append_getElem (show n < L.length by omega)
        refine obind_of ((ql_get (l := L.take (n + 1)) (i := n) (by simp; omega)).trans (by rw [List.getElem_take])) ?_
        conv => whnf
        refine ⟨_, qsign_call (L[n]), ?_⟩
        conv => whnf
        by_cases h0 : L[n] = 0
        · rw [show (sgn (L[n]).num == 0) = true by rw [h0]; rfl]
          conv => whnf
          rw [e1]
          conv => whnf
          refine chk_of (by rw [ql_len, List.length_take]; omega) ?_
          conv => whnf
          refine ⟨n, ?_⟩
          conv => whnf
          refine ⟨by rw [show ((n : Int)).toNat = n from rfl, ql_take, ql_len, List.take_take, List.length_take]; omega, ?_⟩
          conv => whnf
          repeat ((first | refine ⟨.inl rfl, ?_⟩ | refine ⟨rfl, ?_⟩); conv => whnf)
          refine ⟨.inl (by rw [show ((n : Int)).toNat = n from rfl, ql_take, List.take_take, Nat.min_eq_left (by omega)]), ?_⟩
          conv => whnf
          exact ⟨⟨by omega, by rw [← h2, hs, h0, trimQ_snoc0]⟩, Nat.lt_succ_self n⟩
        · have hn0 := num_ne h0
          rw [show (sgn (L[n]).num == 0) = false by simp only [sgn, beq_eq_false_iff_ne]; split <;> (try split) <;> omega]
          conv => whnf
          refine ⟨.inl ?_, trivial⟩
          rw [← h2, hs, trimQ_snoc _ _ h0]
  refine ⟨Nat, fun i => i ≤ l.length ∧ i ≤ m + 1, fun i => l.length - i,
    fun i => ⟨[.p (.sl (bl8 l)), iI m, .top, .top, .top, .own 0 4 i, iI i, .top, .top, .top, .top, .top, .top, .top, .top, .top, .top, .top, .top, .top, .top, .top, .top, .top, .top, .top, .top, .top, .top, .top, .top, .top, .top, .top, .top, .top, .top, .top, .top, .top, .top, .top, .top, .top, .top, .top, .top, .top, .top, .top, .top, .top, .top, .top, .top, .top, .top, .top, .top, .top, .top], [some (.row 4 (ql ((l.take i).map cq)) true)]⟩, [], 0, ?_, ?_⟩
  · conv => whnf
    repeat ((first | refine ⟨.inl rfl, ?_⟩ | refine ⟨rfl, ?_⟩); conv => whnf)
    exact ⟨by omega, by omega⟩
  · rintro i ⟨h1, h2⟩
    conv => whnf
    by_cases hi : i < l.length
    · rw [decide_eq_true (show (i : Int) < ((bl8 l).length : Nat) by rw [bl8_len]; omega)]
      conv => whnf
      by_cases him : i ≤ m
      · rw [decide_eq_true (show (i : Int) ≤ m by omega)]
        conv => whnf
        refine obind_of (bl8_at i rfl hi) ?_
        conv => whnf
        have hz := hl l[i] (List.getElem_mem hi)
        obtain ⟨z, hzz⟩ : ∃ z, z = l[i] := ⟨_, rfl⟩
        rw [← hzz] at hz ⊢
        have hc : cq z = if 100 ≤ z then ((Int.tmod z 7 : Int) : Rat) / 3 else ((Int.tmod z 7 : Int) : Rat) := rfl
        have ht : -7 < Int.tmod z 7 ∧ Int.tmod z 7 < 7 := by
          rcases Int.le_total 0 z with h | h
          · rw [Int.tmod_eq_emod_of_nonneg h]; omega
          · have e : z = -(-z) := by omega
            rw [e, Int.neg_tmod, Int.tmod_eq_emod_of_nonneg (by omega)]; omega
        obtain ⟨t, htt⟩ : ∃ t, t = Int.tmod z 7 := ⟨_, rfl⟩
        rw [← htt] at ht hc ⊢
        rw [wi64 (by omega) (by omega)]
        have l1 := lq_int t (by omega)
        have l3 : lq (3 : Rat) ≤ 2 := lq_int 3 (by omega)
        have w1 := whole_call t (by omega) (by omega)
        have w3 := whole_call 3 (by omega) (by omega)
        have d1 := qdiv_call (t : Rat) 3 (by omega) (by decide)
        obtain ⟨x, hx⟩ : ∃ x : Rat, x = (t : Rat) := ⟨_, rfl⟩
        obtain ⟨y, hy⟩ : ∃ y : Rat, y = x / 3 := ⟨_, rfl⟩
        rw [← hx] at w1 d1 hc
        rw [← hy] at d1 hc
        refine ⟨_, w1, ?_⟩
        conv => whnf
        refine ⟨Unit, fun _ => True, fun _ => ⟨[.p (.sl (bl8 l)), iI m, .top, .top, .top, .own 0 4 i, iI i, .ptr 1 0 0, .top, .top, .top, .top, .top, .top, .top, .top, .top, .top, .top, .top, .top, .top, .top, .top, .top, .top, .top, .top, .top, .top, .top, .top, .top, .top, .top, .top, .top, .top, .top, .top, .top, .top, .top, .top, .top, .top, .top, .top, .top, .top, .top, .top, .top, .top, .top, .top, .top, .top, .top, .top, .top], [some (.row 4 (ql ((l.take i).map cq)) true), qBox (cq z)]⟩, ?_, ?_⟩
        · conv => whnf
          refine obind_of (bl8_at i rfl hi) ?_
          conv => whnf
          rw [← hzz]
          by_cases hz100 : 100 ≤ z
          · rw [decide_eq_true (show z ≥ 100 by omega)]
            rw [if_pos hz100] at hc
            conv => whnf
            refine ⟨by kernel_rfl, ?_⟩
            conv => whnf
            refine ⟨_, w3, ?_⟩
            conv => whnf
            refine ⟨_, d1, ?_⟩
            conv => whnf
            refine ⟨.inl (by kernel_rfl), ?_⟩
            conv => whnf
            refine ⟨[], (), ?_⟩
            rw [hc]
            conv => whnf
            repeat ((first | refine ⟨.inl rfl, ?_⟩ | refine ⟨rfl, ?_⟩); conv => whnf)
            trivial
          · rw [decide_eq_false (show ¬ z ≥ 100 by omega)]
            rw [if_neg hz100] at hc
            conv => whnf
            refine ⟨[], (), ?_⟩
            rw [hc]
            conv => whnf
            repeat ((first | refine ⟨.inl rfl, ?_⟩ | refine ⟨rfl, ?_⟩); conv => whnf)
            trivial
        · rintro _ _
          conv => whnf
          refine chk_of (by rw [ql_len, List.length_map, List.length_take]; show (min i l.length + 1) * 64 ≤ 140737488355328; omega) ?_
          conv => whnf
          refine ⟨i + 1, ?_⟩
          conv => whnf
          repeat ((first | refine ⟨.inl rfl, ?_⟩ | refine ⟨rfl, ?_⟩); conv => whnf)
          refine ⟨by rw [ql_len, List.length_map, List.length_take, Nat.min_eq_left (by omega)]; rfl, ?_⟩
          conv => whnf
          refine ⟨.inl (vi (by rw [wi64 (by omega) (by omega)]; rfl)), ?_⟩
          conv => whnf
          have e2 : ql ((l.take i).map cq) ++ [ratC (cq z)] = ql ((l.take (i + 1)).map cq) := by
            rw [List.take_succ_eq_append_getElem hi, ← hzz, List.map_append, ← ql_app]; rfl
          refine ⟨.inl (e2), ?_⟩
          conv => whnf
          exact ⟨⟨hi, by omega⟩, by simp only; omega⟩
      · rw [decide_eq_false (show ¬ (i : Int) ≤ m by omega)]
        conv => whnf
        have e3 : (l.take i).map cq = L := by rw [hL, show i = m + 1 by omega]
        refine ⟨[], (), ?_⟩
        rw [e3]
        conv => whnf
        refine ⟨by rw [← e3, List.length_map, List.length_take]; omega, ?_⟩
        conv => whnf
        repeat ((first | refine ⟨.inl rfl, ?_⟩ | refine ⟨rfl, ?_⟩); conv => whnf)
        trivial
    · rw [decide_eq_false (show ¬ (i : Int) < ((bl8 l).length : Nat) by rw [bl8_len]; omega)]
      conv => whnf
      have e3 : (l.take i).map cq = L := by rw [hL, List.take_of_length_le (by omega), List.take_of_length_le (by omega)]
      refine ⟨[], (), ?_⟩
      rw [e3]
      conv => whnf
      refine ⟨by rw [← e3, List.length_map, List.length_take]; omega, ?_⟩
      conv => whnf
      repeat ((first | refine ⟨.inl rfl, ?_⟩ | refine ⟨rfl, ?_⟩); conv => whnf)
      trivial
end Go.Am

set_option linter.unusedVariables false
namespace Go.Am

/-! ### Finite sums -/
def Sm : Nat → (Nat → Int) → Int
  | 0, _ => 0
  | n + 1, f => Sm n f + f n
theorem Sm_congr {n : Nat} {f g : Nat → Int} (h : ∀ i, i < n → f i = g i) : Sm n f = Sm n g := by
  induction n with
  | zero => rfl
  | succ n ih => simp only [Sm]; rw [ih fun i hi => h i (by omega), h n (by omega)]
theorem Sm_add (n : Nat) (f g : Nat → Int) : Sm n (fun i => f i + g i) = Sm n f + Sm n g := by
  induction n with
  | zero => rfl
  | succ n ih => simp only [Sm, ih]; omega
theorem Sm_zero (n : Nat) : Sm n (fun _ => 0) = 0 := by
  induction n with
  | zero => rfl
  | succ n ih => simp only [Sm, ih]; rfl
theorem Sm_mul (n : Nat) (c : Int) (f : Nat → Int) : Sm n (fun i => c * f i) = c * Sm n f := by
  induction n with
  | zero => simp [Sm]
  | succ n ih => simp only [Sm, ih, Int.mul_add]
theorem Sm_mul_right (n : Nat) (c : Int) (f : Nat → Int) : Sm n (fun i => f i * c) = Sm n f * c := by
  induction n with
  | zero => simp [Sm]
  | succ n ih => simp only [Sm, ih, Int.add_mul]
theorem Sm_swap (n m : Nat) (f : Nat → Nat → Int) : Sm n (fun i => Sm m (fun j => f i j)) = Sm m (fun j => Sm n (fun i => f i j)) := by
  induction n with
  | zero => simp only [Sm]; rw [Sm_zero]
  | succ n ih => simp only [Sm, ih]; rw [← Sm_add]
theorem Sm_shift (n : Nat) (f : Nat → Int) : Sm (n + 1) f = f 0 + Sm n (fun i => f (i + 1)) := by
  induction n with
  | zero => simp [Sm]
  | succ n ih => rw [Sm, ih]; simp only [Sm]; omega
theorem Sm_nonneg {n : Nat} {f : Nat → Int} (h : ∀ i, i < n → 0 ≤ f i) : 0 ≤ Sm n f := by
  induction n with
  | zero => exact Int.le_refl _
  | succ n ih => have := ih fun i hi => h i (by omega); have := h n (by omega); simp only [Sm]; omega
theorem Sm_le {n : Nat} {f g : Nat → Int} (h : ∀ i, i < n → f i ≤ g i) : Sm n f ≤ Sm n g := by
  induction n with
  | zero => exact Int.le_refl _
  | succ n ih => have := ih fun i hi => h i (by omega); have := h n (by omega); simp only [Sm]; omega
theorem Sm_one_le {n : Nat} {f : Nat → Int} (h : ∀ i, i < n → 0 ≤ f i) {k : Nat} (hk : k < n) : f k ≤ Sm n f := by
  induction n with
  | zero => omega
  | succ n ih =>
    simp only [Sm]
    have h1 := Sm_nonneg fun i (hi : i < n) => h i (by omega)
    have h2 := h n (by omega)
    rcases Nat.lt_or_ge k n with q | q
    · have := ih (fun i hi => h i (by omega)) q; omega
    · have : k = n := by omega
      subst this; omega
/-- Only one summand counts. -/
theorem Sm_single {n : Nat} {f : Nat → Int} {k : Nat} (hk : k < n) (h : ∀ i, i < n → i ≠ k → f i = 0) : Sm n f = f k := by
  induction n with
  | zero => omega
  | succ n ih =>
    simp only [Sm]
    rcases Nat.lt_or_ge k n with q | q
    · rw [ih q fun i hi => h i (by omega), h n (by omega) (by omega)]; omega
    · have : k = n := by omega
      subst this
      rw [Sm_congr (g := fun _ => 0) fun i hi => h i (by omega) (by omega), Sm_zero]; omega
theorem Sm_sub (n : Nat) (f g : Nat → Int) : Sm n (fun i => f i - g i) = Sm n f - Sm n g := by
  induction n with
  | zero => rfl
  | succ n ih => simp only [Sm, ih]; omega
/-- Summands that are 0 at the end. -/
theorem Sm_ext {n m : Nat} {f : Nat → Int} (h : n ≤ m) (h0 : ∀ i, n ≤ i → i < m → f i = 0) : Sm m f = Sm n f := by
  induction m with
  | zero => have : n = 0 := by omega
            subst this; rfl
  | succ m ih =>
    rcases Nat.lt_or_ge n (m + 1) with q | q
    · simp only [Sm]; rw [ih (by omega) fun i h1 h2 => h0 i h1 (by omega), h0 m (by omega) (by omega)]; omega
    · have : n = m + 1 := by omega
      subst this; rfl

/-! ### Multiplication and derivation, adjoint to each other -/
abbrev Sq := Nat → Int
def fac : Nat → Nat
  | 0 => 1
  | n + 1 => (n + 1) * fac n
def ch : Nat → Nat → Nat
  | _, 0 => 1
  | 0, _ + 1 => 0
  | n + 1, k + 1 => ch n k + ch n (k + 1)
theorem fac_pos (n : Nat) : 0 < fac n := by
  induction n with
  | zero => simp [fac]
  | succ n ih => simp only [fac]; exact Nat.mul_pos (by omega) ih
theorem ch_zero (n : Nat) : ch n 0 = 1 := by cases n <;> rfl
theorem ch_gt : ∀ (n k : Nat), n < k → ch n k = 0 := by
  intro n
  induction n with
  | zero => intro k h; cases k with
    | zero => omega
    | succ k => rfl
  | succ n ih => intro k h; cases k with
    | zero => omega
    | succ k => simp only [ch]; rw [ih k (by omega), ih (k + 1) (by omega)]
theorem ch_self (n : Nat) : ch n n = 1 := by
  induction n with
  | zero => rfl
  | succ n ih => simp only [ch]; rw [ih, ch_gt n (n + 1) (by omega)]
theorem ch_mul : ∀ (n k : Nat), (k + 1) * ch (n + 1) (k + 1) = (n + 1) * ch n k := by
  intro n
  induction n with
  | zero => intro k; cases k <;> simp [ch]
  | succ n ih =>
    intro k
    cases k with
    | zero => have := ih 0; simp only [ch, ch_zero] at this ⊢; omega
    | succ k =>
      have h1 := ih k
      have h2 := ih (k + 1)
      have e : ch (n + 2) (k + 2) = ch (n + 1) (k + 1) + ch (n + 1) (k + 2) := rfl
      rw [e]
      have e2 : ch (n + 1) (k + 1) = ch n k + ch n (k + 1) := rfl
      have h3 : (k + 1 + 1) * ch (n + 1) (k + 1) = (n + 1) * ch n k + ch (n + 1) (k + 1) := by rw [Nat.add_mul, h1]; omega
      have h4 : (k + 1 + 1) * ch (n + 1) (k + 2) = (n + 1) * ch n (k + 1) := h2
      rw [Nat.mul_add, h3, h4]
      have h5 : (n + 1 + 1) * ch (n + 1) (k + 1) = (n + 1) * (ch n k + ch n (k + 1)) + ch (n + 1) (k + 1) := by rw [Nat.add_mul (n + 1) 1]; rw [← e2]; omega
      rw [h5, Nat.mul_add]; omega

def ip (B : Nat) (f g : Sq) : Int := Sm B fun i => fac i * (f i * g i)
def Xs (v : Sq) : Sq := fun i => match i with
  | 0 => 0
  | i + 1 => v i
def Ds (v : Sq) : Sq := fun i => ((i + 1 : Nat) : Int) * v (i + 1)
def It (F : Sq → Sq) : Nat → Sq → Sq
  | 0, v => v
  | n + 1, v => It F n (F v)
theorem It_comm (F : Sq → Sq) (n : Nat) (v : Sq) : It F (n + 1) v = F (It F n v) := by
  induction n generalizing v with
  | zero => rfl
  | succ n ih => show It F (n + 1) (F v) = F (It F n (F v)); exact ih (F v)
theorem sqn (a : Int) : 0 ≤ a * a := by
  rcases Int.le_total 0 a with h | h
  · exact Int.mul_nonneg h h
  · exact Int.mul_nonneg_of_nonpos_of_nonpos h h
theorem ip_comm (B : Nat) (f g : Sq) : ip B f g = ip B g f := Sm_congr fun i _ => by rw [Int.mul_comm (f i)]
theorem ip_add (B : Nat) (f g h : Sq) : ip B f (fun i => g i + h i) = ip B f g + ip B f h := by
  simp only [ip]; rw [← Sm_add]; exact Sm_congr fun i _ => by rw [Int.mul_add, Int.mul_add]
theorem ip_mul (B : Nat) (c : Int) (f g : Sq) : ip B f (fun i => c * g i) = c * ip B f g := by
  simp only [ip]; rw [← Sm_mul]; exact Sm_congr fun i _ => by rw [← Int.mul_assoc (f i), Int.mul_comm (f i) c, Int.mul_assoc c, ← Int.mul_assoc, Int.mul_comm (fac i : Int) c, Int.mul_assoc]
theorem ip_mul_left (B : Nat) (c : Int) (f g : Sq) : ip B (fun i => c * f i) g = c * ip B f g := by
  rw [ip_comm, ip_mul, ip_comm]
theorem ip_Sm (B n : Nat) (f : Sq) (g : Nat → Sq) : ip B f (fun i => Sm n fun k => g k i) = Sm n fun k => ip B f (g k) := by
  induction n with
  | zero => simp only [Sm]; simp only [ip, Int.mul_zero]; exact Sm_zero B
  | succ n ih => simp only [Sm]; rw [ip_add, ih]
theorem ip_nonneg (B : Nat) (f : Sq) : 0 ≤ ip B f f := Sm_nonneg fun i _ => Int.mul_nonneg (by omega) (sqn _)
/-- Multiplication by x and derivation are adjoint. -/
theorem ip_adj (B : Nat) (f g : Sq) (h : ∀ i, B ≤ i + 1 → f i = 0) : ip B (Xs f) g = ip B f (Ds g) := by
  cases B with
  | zero => rfl
  | succ B =>
    rw [ip, Sm_shift]
    simp only [ip, Sm, Xs, Ds, h B (by omega), Int.zero_mul, Int.mul_zero, Int.zero_add, Int.add_zero]
    exact Sm_congr fun i _ => by
      simp only [fac, Int.natCast_mul]
      rw [Int.mul_left_comm (f i), ← Int.mul_assoc (fac i : Int), Int.mul_comm (fac i : Int)]
def below (n : Nat) (v : Sq) : Prop := ∀ i, n ≤ i → v i = 0
theorem below.X {n : Nat} {v : Sq} (h : below n v) : below (n + 1) (Xs v) := fun i hi => by
  cases i with
  | zero => rfl
  | succ i => exact h i (by omega)
theorem below.D {n : Nat} {v : Sq} (h : below n v) : below n (Ds v) := fun i hi => by simp only [Ds]; rw [h (i + 1) (by omega), Int.mul_zero]
theorem below.mono {n m : Nat} {v : Sq} (h : below n v) (hm : n ≤ m) : below m v := fun i hi => h i (by omega)
theorem below.ItX {n : Nat} {v : Sq} (h : below n v) (k : Nat) : below (n + k) (It Xs k v) := by
  induction k with
  | zero => exact h
  | succ k ih => rw [It_comm]; exact ih.X
theorem ip_adj_It (B n k : Nat) (f g : Sq) (h : below n f) (hB : n + k ≤ B) : ip B (It Xs k f) g = ip B f (It Ds k g) := by
  induction k generalizing g with
  | zero => rfl
  | succ k ih => rw [It_comm, ip_adj B _ _ (fun i hi => (h.ItX k) i (by omega)), ih _ (by omega)]; rfl
theorem Ds_X (w : Sq) : Ds (Xs w) = fun i => Xs (Ds w) i + w i := by
  funext i
  cases i with
  | zero => simp [Ds, Xs]
  | succ i => simp only [Ds, Xs, Int.natCast_add, Int.add_mul]; omega
theorem Xs_add (f g : Sq) : Xs (fun i => f i + g i) = fun i => Xs f i + Xs g i := by
  funext i; cases i <;> rfl
theorem Xs_mul (c : Int) (f : Sq) : Xs (fun i => c * f i) = fun i => c * Xs f i := by
  funext i; cases i <;> simp [Xs]
theorem Ds_ItX (j : Nat) (w : Sq) : Ds (It Xs j w) = fun i => It Xs j (Ds w) i + (j : Int) * It Xs (j - 1) w i := by
  induction j with
  | zero => funext i; simp [It]
  | succ j ih =>
    rw [It_comm, Ds_X, ih, Xs_add, Xs_mul]
    funext i
    rw [It_comm, show j + 1 - 1 = j by omega]
    cases j with
    | zero => simp
    | succ j => rw [show j + 1 - 1 = j by omega, ← It_comm Xs j w]; simp only [Int.natCast_add, Int.add_mul]; omega

def cc (i j k : Nat) : Int := (fac k * ch i k * ch j k : Nat)
theorem cc_step (i j k : Nat) : cc (i + 1) j (k + 1) = cc i j (k + 1) + j * cc i (j - 1) k := by
  cases j with
  | zero => simp [cc, ch]
  | succ j =>
    rw [show j + 1 - 1 = j by omega]
    simp only [cc]
    rw [← Int.natCast_mul, ← Int.natCast_add]
    congr 1
    have h := ch_mul j k
    have e : ch (i + 1) (k + 1) = ch i k + ch i (k + 1) := rfl
    rw [e, Nat.mul_add, Nat.add_mul, Nat.add_comm]
    congr 1
    simp only [fac]
    calc (k + 1) * fac k * ch i k * ch (j + 1) (k + 1) = fac k * ch i k * ((k + 1) * ch (j + 1) (k + 1)) := by grind
      _ = _ := by rw [h]; grind
theorem cc_zero (i j : Nat) : cc i j 0 = 1 := by simp [cc, ch_zero, fac]
theorem cc_big (i j k : Nat) (h : i < k ∨ j < k) : cc i j k = 0 := by
  rcases h with h | h
  · simp [cc, ch_gt i k h]
  · simp [cc, ch_gt j k h]
/-- Powers of x moved past each other. -/
theorem normal_order (B : Nat) : ∀ (i j n n' K : Nat) (v w : Sq), below n v → below n' w → n + i ≤ B → n' + j ≤ B → n + j ≤ B → i < K → j < K →
    ip B (It Xs i v) (It Xs j w) = Sm K fun k => cc i j k * ip B (It Ds (j - k) v) (It Ds (i - k) w) := by
  intro i
  induction i with
  | zero =>
    intro j n n' K v w hv hw h1 h2 h3 h4 h5
    rw [Sm_single (k := 0) (by omega) (fun k _ hk => by rw [cc_big 0 j k (.inl (by omega))]; simp)]
    rw [cc_zero, Int.one_mul, Nat.sub_zero, Nat.sub_zero]
    simp only [It]
    rw [ip_comm, ip_adj_It B n' j w v hw h2, ip_comm]
  | succ i ih =>
    intro j n n' K v w hv hw h1 h2 h3 h4 h5
    rw [It_comm, ip_adj B _ _ (fun q hq => (hv.ItX i) q (by omega)), Ds_ItX, ip_add, ip_mul]
    rw [ih j n n' K v (Ds w) hv hw.D (by omega) h2 h3 (by omega) h5]
    cases K with
    | zero => omega
    | succ K =>
      rw [ih (j - 1) n n' (K + 1) v w hv hw (by omega) (by omega) (by omega) (by omega) (by omega)]
      rw [Sm_shift K, Sm_shift K (fun k => cc (i + 1) j k * _)]
      have hz : (j : Int) * Sm (K + 1) (fun k => cc i (j - 1) k * ip B (It Ds (j - 1 - k) v) (It Ds (i - k) w)) = Sm K (fun k => (j : Int) * (cc i (j - 1) k * ip B (It Ds (j - 1 - k) v) (It Ds (i - k) w))) := by
        rw [Sm_mul]
        simp only [Sm]
        rw [cc_big i (j - 1) K (.inl (by omega))]; simp
      rw [hz, cc_zero, cc_zero, Int.add_assoc, ← Sm_add]
      congr 1
      refine Sm_congr fun k hk => ?_
      rw [cc_step, show j - 1 - k = j - (k + 1) by omega, show i + 1 - (k + 1) = i - k by omega, Int.add_mul, Int.mul_assoc]
      congr 1
      by_cases hki : k + 1 ≤ i
      · rw [show i - k = (i - (k + 1)) + 1 by omega]; rfl
      · rw [cc_big i j (k + 1) (.inl (by omega))]; simp

/-- The product of polynomials: p of degree below n. -/
def cv (n : Nat) (p v : Sq) : Sq := fun s => Sm n fun i => p i * It Xs i v s
theorem ip_cv (B n : Nat) (p v : Sq) (f : Sq) : ip B f (cv n p v) = Sm n fun i => p i * ip B f (It Xs i v) := by
  show ip B f (fun s => Sm n fun i => (fun s => p i * It Xs i v s) s) = _
  rw [ip_Sm B n f (fun i s => p i * It Xs i v s)]
  exact Sm_congr fun i _ => by rw [ip_mul]
/-- The norm of a product is at least that of a factor. -/
theorem norm_cv (B m n : Nat) (p v : Sq) (hv : below n v) (hB : n + m ≤ B) : (fac m : Int) * (p m * p m) * ip B v v ≤ ip B (cv (m + 1) p v) (cv (m + 1) p v) := by
  have e1 : ip B (cv (m + 1) p v) (cv (m + 1) p v) = Sm (m + 1) fun k => (fac k : Int) * ip B (fun s => Sm (m + 1) fun i => (p i * ch i k) * It Ds (i - k) v s) (fun s => Sm (m + 1) fun i => (p i * ch i k) * It Ds (i - k) v s) := by
    rw [ip_cv]
    have : ∀ i, i < m + 1 → p i * ip B (cv (m + 1) p v) (It Xs i v) = Sm (m + 1) fun k => Sm (m + 1) fun j => p i * p j * (cc i j k * ip B (It Ds (j - k) v) (It Ds (i - k) v)) := by
      intro i hi
      rw [ip_comm, ip_cv, ← Sm_mul, Sm_swap]
      refine Sm_congr fun j hj => ?_
      rw [normal_order B i j n n (m + 1) v v hv hv (by omega) (by omega) (by omega) hi hj, ← Int.mul_assoc, ← Sm_mul]
    rw [Sm_congr this, Sm_swap]
    refine Sm_congr fun k hk => ?_
    rw [ip_Sm B (m + 1) _ (fun i s => (p i * ch i k) * It Ds (i - k) v s), ← Sm_mul]
    refine Sm_congr fun i hi => ?_
    rw [ip_comm, ip_Sm B (m + 1) _ (fun i s => (p i * ch i k) * It Ds (i - k) v s), ← Sm_mul]
    refine Sm_congr fun j hj => ?_
    rw [ip_mul, ip_mul_left, ip_comm B (It Ds (j - k) v)]
    simp only [cc, Int.natCast_mul]
    generalize ip B _ _ = z
    grind
  rw [e1]
  have h0 : ∀ k, k < m + 1 → 0 ≤ (fac k : Int) * ip B (fun s => Sm (m + 1) fun i => (p i * ch i k) * It Ds (i - k) v s) (fun s => Sm (m + 1) fun i => (p i * ch i k) * It Ds (i - k) v s) :=
    fun k _ => Int.mul_nonneg (by omega) (ip_nonneg _ _)
  refine Int.le_trans ?_ (Sm_one_le h0 (show m < m + 1 by omega))
  have e2 : (fun s => Sm (m + 1) fun i => (p i * ch i m) * It Ds (i - m) v s) = fun s => p m * v s := by
    funext s
    rw [Sm_single (k := m) (by omega) (fun i hi hne => by rw [ch_gt i m (by omega)]; simp)]
    rw [ch_self, Nat.sub_self]; simp [It]
  rw [e2, ip_mul, ip_mul_left]
  generalize ip B v v = z
  apply Int.le_of_eq
  grind
end Go.Am

set_option linter.unusedVariables false
set_option linter.unusedSimpArgs false
namespace Go.Am
open Go Go.Proofs
set_option maxRecDepth 100000
set_option maxHeartbeats 4000000
def trimZ (l : List Int) : List Int := (l.reverse.dropWhile (· == 0)).reverse
theorem trimZ_snoc0 (l : List Int) : trimZ (l ++ [0]) = trimZ l := by simp [trimZ]
theorem trimZ_snoc (l : List Int) (x : Int) (h : x ≠ 0) : trimZ (l ++ [x]) = l ++ [x] := by simp [trimZ, h]
theorem sgn_zero {z : Int} : (sgn z == 0) = decide (z = 0) := by
  by_cases h : z = 0
  · subst h; rfl
  · rw [decide_eq_false h]; simp only [sgn, beq_eq_false_iff_ne]; split <;> (try split) <;> omega
theorem rtrim_call (l : List Int) (hn : l.length < 1000000) : ACall Tryz.prog 118 [.sl (zl l)] [.p (.sl (zl (trimZ l)))] := by
  refine acall_of_awp (hE []) Tryz.func118 rfl (by kernel_rfl) [] ?_
  conv => whnf
  refine ⟨Nat, fun n => n ≤ l.length ∧ trimZ (l.take n) = trimZ l, id, fun n => ⟨[.p (.sl (zl (l.take n))), .top, .top, .top, .top, .top, .top, .top, .top, .top, .top, .top, .top, .top, .top, .top, .top, .top, .top, .top, .top, .top], []⟩, [], l.length, ?_, ?_⟩
  · conv => whnf
    refine ⟨.inl (by rw [List.take_of_length_le (Nat.le_refl _)]), ?_⟩
    conv => whnf
    repeat ((first | refine ⟨.inl rfl, ?_⟩ | refine ⟨rfl, ?_⟩); conv => whnf)
    exact ⟨Nat.le_refl _, by rw [List.take_of_length_le (Nat.le_refl _)]⟩
  · rintro n ⟨h1, h2⟩
    cases n with
    | zero =>
      conv => whnf
      refine ⟨.inl ?_, trivial⟩
      rw [← h2]; simp [trimZ, zl]
    | succ n =>
      have hs := List.take_succ_eq_append_getElem (show n < l.length by omega)
      have hlen : (zl (l.take (n + 1))).length = n + 1 := by rw [zl_len, List.length_take]; omega
      have e1 : IntKind.wrap .i64 (((zl (l.take (n + 1))).length : Nat) - 1) = (n : Int) := by rw [hlen, wi64 (by omega) (by omega)]; omega
      conv => whnf
      rw [decide_eq_true (show ((zl (l.take (n + 1))).length : Int) > 0 by rw [hlen]; omega)]
      conv => whnf
      rw [e1]
      refine obind_of ((zl_get (l := l.take (n + 1)) (i := n) (by simp; omega)).trans (by rw [List.getElem_take])) ?_
      conv => whnf
      obtain ⟨x, hx⟩ : ∃ x, x = l[n] := ⟨_, rfl⟩
      rw [← hx] at hs ⊢
      refine ⟨_, sign_call x, ?_⟩
      conv => whnf
      rw [sgn_zero]
      by_cases h0 : x = 0
      · rw [decide_eq_true h0]
        conv => whnf
        rw [e1]
        conv => whnf
        refine chk_of (by rw [hlen]; omega) ?_
        conv => whnf
        refine ⟨n, ?_⟩
        conv => whnf
        refine ⟨.inl (by rw [show ((n : Int)).toNat = n from rfl, zl_take, List.take_take, Nat.min_eq_left (by omega)]), ?_⟩
        conv => whnf
        repeat ((first | refine ⟨.inl rfl, ?_⟩ | refine ⟨rfl, ?_⟩); conv => whnf)
        exact ⟨⟨by omega, by rw [← h2, hs, h0, trimZ_snoc0]⟩, Nat.lt_succ_self n⟩
      · rw [decide_eq_false h0]
        conv => whnf
        refine ⟨.inl ?_, trivial⟩
        rw [← h2, hs, trimZ_snoc _ _ h0]
theorem iat_call (l : List Int) (i : Nat) : ACall Tryz.prog 119 [.sl (zl l), nI i] [.p (.agg (intC (l.getD i 0)))] := by
  have c0 := of_call 0 (by omega) (by omega)
  refine acall_of_awp (hE []) Tryz.func119 rfl (by kernel_rfl) [] ?_
  conv => whnf
  by_cases h : i < l.length
  · rw [decide_eq_true (show ((i : Nat) : Int) < ((zl l).length : Nat) by rw [zl_len]; omega)]
    have e : l.getD i 0 = l[i] := by simp [h]
    obtain ⟨x, hx⟩ : ∃ x, x = l[i] := ⟨_, rfl⟩
    have hg := zl_get h
    rw [← hx] at hg e
    rw [e]
    conv => whnf
    refine obind_of (hg) ?_
    conv => whnf
    exact ⟨.inl (intC_eq rfl), trivial⟩
  · rw [decide_eq_false (show ¬ ((i : Nat) : Int) < ((zl l).length : Nat) by rw [zl_len]; omega)]
    rw [show l.getD i 0 = 0 by simp [Nat.le_of_not_lt h]]
    conv => whnf
    refine ⟨_, c0, ?_⟩
    conv => whnf
    exact ⟨.inl (intC_eq rfl), trivial⟩
/-- The coefficients of a product, not cut. -/
def convF (a b : List Int) (n : Nat) : Int := Sm (n + 1) fun i => a.getD i 0 * b.getD (n - i) 0
def convZ (a b : List Int) : List Int := (List.range (a.length + b.length - 1)).map (convF a b)
def Bd (l : List Int) (A : Nat) : Prop := ∀ x ∈ l, x.natAbs ≤ A
theorem Bd.getD {l : List Int} {A : Nat} (h : Bd l A) (i : Nat) : (l.getD i 0).natAbs ≤ A := by
  by_cases hi : i < l.length
  · rw [show l.getD i 0 = l[i] by simp [hi]]; exact h _ (List.getElem_mem hi)
  · rw [show l.getD i 0 = 0 by simp [Nat.le_of_not_lt hi]]; simp
theorem Sm_natAbs {n B : Nat} {f : Nat → Int} (h : ∀ i, i < n → (f i).natAbs ≤ B) : (Sm n f).natAbs ≤ n * B := by
  induction n with
  | zero => simp [Sm]
  | succ n ih =>
    have h1 := ih fun i hi => h i (by omega)
    have h2 := h n (by omega)
    have h3 := Int.natAbs_add_le (Sm n f) (f n)
    simp only [Sm]
    rw [Nat.add_mul, Nat.one_mul]
    omega
theorem imulr_call (a b : List Int) (A C L : Nat) (ha : Bd a A) (hb : Bd b C) (hA : A < 4294967296 ^ L) (hC : C < 4294967296 ^ L) (hs : (a.length + b.length) * (A * C) < 4294967296 ^ L) (hL : 2 * L < 1099511626000) (hl : a.length + b.length < 1000000) :
    ACall Tryz.prog 43 [.sl (zl a), .sl (zl b)] [.p (.sl (zl (trimZ (convZ a b))))] := by
  have c0 := of_call 0 (by omega) (by omega)
  refine acall_of_awp (hE []) Tryz.func43 rfl (by kernel_rfl) [] ?_
  conv => whnf
  refine ⟨Nat, fun n => n ≤ a.length + b.length - 1, fun n => a.length + b.length - n,
    fun n => ⟨[.p (.sl (zl a)), .p (.sl (zl b)), .top, .top, .top, .own 0 2 n, iI n, .top, .top, .top, .top, .top, .top, .top, .top, .top, .top, .top, .top, .top, .top, .top, .top, .top, .top, .top, .top, .top, .top, .top, .top, .top, .top, .top, .top, .top, .top, .top, .top, .top, .top, .top, .top], [some (.row 2 (zl ((List.range n).map (convF a b))) true)]⟩, [], 0, ?_, ?_⟩
  · conv => whnf
    repeat ((first | refine ⟨.inl rfl, ?_⟩ | refine ⟨rfl, ?_⟩); conv => whnf)
    exact Nat.zero_le _
  · rintro n hn
    conv => whnf
    have e1 : IntKind.wrap .i64 ((n : Int) + 1) = ((n + 1 : Nat) : Int) := by rw [wi64 (by omega) (by omega)]; omega
    have e2 : IntKind.wrap .i64 (((zl a).length : Nat) + ((zl b).length : Nat)) = ((a.length + b.length : Nat) : Int) := by rw [zl_len, zl_len, wi64 (by omega) (by omega)]; omega
    rw [e1, e2]
    by_cases hi : n + 1 < a.length + b.length
    · rw [decide_eq_true (show ((n + 1 : Nat) : Int) < ((a.length + b.length : Nat) : Int) by omega)]
      conv => whnf
      refine ⟨_, c0, ?_⟩
      conv => whnf
      refine ⟨Nat × Int, fun x => x.1 ≤ n + 1 ∧ x.2 = Sm x.1 (fun i => a.getD i 0 * b.getD (n - i) 0), fun x => n + 1 - x.1,
        fun x => ⟨[.p (.sl (zl a)), .p (.sl (zl b)), .top, .top, .top, .own 0 2 n, iI n, .ptr 1 0 0, iI x.1, .top, .top, .top, .top, .top, .top, .top, .top, .top, .top, .top, .top, .top, .top, .top, .top, .top, .top, .top, .top, .top, .top, .top, .top, .top, .top, .top, .top, .top, .top, .top, .top, .top, .top], [some (.row 2 (zl ((List.range n).map (convF a b))) true), iBox x.2]⟩, [], (0, 0), ?_, ?_⟩
      · conv => whnf
        repeat ((first | refine ⟨.inl rfl, ?_⟩ | refine ⟨rfl, ?_⟩); conv => whnf)
        exact ⟨Nat.zero_le _, rfl⟩
      · rintro ⟨i, s⟩ ⟨k1, k2⟩
        simp only at k1 k2
        refine atS (s' := ⟨[.p (.sl (zl a)), .p (.sl (zl b)), .top, .top, .top, .own 0 2 n, iI n, .ptr 1 0 0, iI i, .top, .top, .top, .top, .top, .top, .top, .top, .top, .top, .top, .top, .top, .top, .top, .top, .top, .top, .top, .top, .top, .top, .top, .top, .top, .top, .top, .top, .top, .top, .top, .top, .top, .top], [some (.row 2 (zl ((List.range n).map (convF a b))) true), iBox s]⟩) rfl ?_
        conv => whnf
        by_cases hin : i ≤ n
        · rw [decide_eq_true (show (i : Int) ≤ n by omega)]
          have hx := ha.getD i
          have hy := hb.getD (n - i)
          have ca := iat_call a i
          have cb := iat_call b (n - i)
          have hsz : s.natAbs ≤ i * (A * C) := by
            rw [k2]
            exact Sm_natAbs fun j hj => by rw [Int.natAbs_mul]; exact Nat.mul_le_mul (ha.getD j) (hb.getD (n - j))
          have k3 : Sm (i + 1) (fun i => a.getD i 0 * b.getD (n - i) 0) = s + a.getD i 0 * b.getD (n - i) 0 := by rw [k2]; rfl
          obtain ⟨x, hxx⟩ : ∃ x, x = a.getD i 0 := ⟨_, rfl⟩
          obtain ⟨y, hyy⟩ : ∃ y, y = b.getD (n - i) 0 := ⟨_, rfl⟩
          rw [← hxx] at hx ca k3
          rw [← hyy] at hy cb k3
          have lx : ln x ≤ L := ln_le (by omega)
          have ly : ln y ≤ L := ln_le (by omega)
          have ls : ln s ≤ L := ln_le (by
            have : i * (A * C) ≤ (a.length + b.length) * (A * C) := Nat.mul_le_mul_right _ (by omega)
            omega)
          have lxy := ln_mul x y
          have cm := mul_call x y (by omega)
          have cs := add_call s (x * y) (by omega) (by omega)
          obtain ⟨p, hp⟩ : ∃ p, p = x * y := ⟨_, rfl⟩
          rw [← hp] at cm cs k3
          obtain ⟨q, hq⟩ : ∃ q, q = s + p := ⟨_, rfl⟩
          rw [← hq] at cs k3
          have e3 : IntKind.wrap .i64 ((n : Int) - i) = ((n - i : Nat) : Int) := by rw [wi64 (by omega) (by omega)]; omega
          conv => whnf
          refine ⟨by kernel_rfl, ?_⟩
          conv => whnf
          refine ⟨_, ca, ?_⟩
          conv => whnf
          rw [e3]
          refine ⟨_, cb, ?_⟩
          conv => whnf
          refine ⟨_, cm, ?_⟩
          conv => whnf
          refine ⟨_, cs, ?_⟩
          conv => whnf
          refine ⟨.inl (by kernel_rfl), ?_⟩
          conv => whnf
          refine ⟨(i + 1, q), ?_⟩
          conv => whnf
          repeat ((first | refine ⟨.inl rfl, ?_⟩ | refine ⟨rfl, ?_⟩); conv => whnf)
          refine ⟨.inl (vi (by rw [wi64 (by omega) (by omega)]; rfl)), ?_⟩
          conv => whnf
          repeat ((first | refine ⟨.inl rfl, ?_⟩ | refine ⟨rfl, ?_⟩); conv => whnf)
          exact ⟨⟨by simp only; omega, k3.symm⟩, by simp only; omega⟩
        · rw [decide_eq_false (show ¬ (i : Int) ≤ n by omega)]
          conv => whnf
          refine chk_of (by rw [zl_len, List.length_map, List.length_range]; show (n + 1) * 32 ≤ 140737488355328; omega) ?_
          conv => whnf
          refine ⟨n + 1, ?_⟩
          conv => whnf
          repeat ((first | refine ⟨.inl rfl, ?_⟩ | refine ⟨rfl, ?_⟩); conv => whnf)
          refine ⟨by rw [zl_len, List.length_map, List.length_range]; rfl, ?_⟩
          conv => whnf
          refine ⟨.inl (vi (by rw [wi64 (by omega) (by omega)]; rfl)), ?_⟩
          conv => whnf
          have e3 : zl ((List.range n).map (convF a b)) ++ [intC s] = zl ((List.range (n + 1)).map (convF a b)) := by
            rw [List.range_succ, List.map_append, ← zl_app, k2, show i = n + 1 by omega]; rfl
          refine ⟨.inl (e3), ?_⟩
          conv => whnf
          exact ⟨by omega, by simp only; omega⟩
    · rw [decide_eq_false (show ¬ ((n + 1 : Nat) : Int) < ((a.length + b.length : Nat) : Int) by omega)]
      have hn' : n = a.length + b.length - 1 := by omega
      have cr := rtrim_call (convZ a b) (by simp [convZ]; omega)
      rw [hn']
      conv => whnf
      refine ⟨_, cr, ?_⟩
      conv => whnf
      exact ⟨.inl rfl, trivial⟩
end Go.Am

set_option linter.unusedVariables false
set_option linter.unusedSimpArgs false
namespace Go.Am
open Go Go.Proofs
set_option maxRecDepth 100000
set_option maxHeartbeats 4000000
def absSum (l : List Int) : Nat := (l.map Int.natAbs).sum
theorem absSum_snoc (l : List Int) (x : Int) : absSum (l ++ [x]) = absSum l + x.natAbs := by simp [absSum]
theorem absSum_take (l : List Int) (i : Nat) (h : i < l.length) : absSum (l.take (i + 1)) = absSum (l.take i) + (l[i]).natAbs := by
  rw [List.take_succ_eq_append_getElem h, absSum_snoc]
theorem absSum_le (l : List Int) (i : Nat) : absSum (l.take i) ≤ absSum l := by
  have : ∀ a b : List Int, absSum (a ++ b) = absSum a + absSum b := fun a b => by simp [absSum]
  have := this (l.take i) (l.drop i)
  rw [List.take_append_drop] at this
  omega
/-- What bounds the factors' coefficients. -/
def boundF (l : List Int) : Int := (absSum l : Int) * 2 ^ (l.length - 1)
theorem bound_call (l : List Int) (L : Nat) (hs : absSum l < 4294967296 ^ L) (hL : L < 100000000) (hl : l.length ≤ 4096) : ACall Tryz.prog 33 [.sl (zl l)] [.p (.agg (intC (boundF l)))] := by
  have c0 := iof_call 0 (by omega) (by omega)
  have c2 := iof_call 2 (by omega) (by omega)
  have l2 : ln 2 = 1 := by decide
  have cp := ipow_call 2 (l.length - 1) (by omega) (by rw [l2]; omega)
  have lp := ln_pow 2 (l.length - 1)
  have lz : ln (absSum l : Int) ≤ L := ln_le (by simpa using hs)
  have cm := imul_call (absSum l : Int) (2 ^ (l.length - 1)) (by rw [l2] at lp; omega)
  obtain ⟨P, hP⟩ : ∃ P : Int, P = 2 ^ (l.length - 1) := ⟨_, rfl⟩
  rw [← hP] at cp cm lp
  have hbF : boundF l = (absSum l : Int) * P := by rw [hP]; rfl
  rw [← hbF] at cm
  obtain ⟨Bn, hBn⟩ : ∃ Bn, Bn = boundF l := ⟨_, rfl⟩
  rw [← hBn] at cm ⊢
  refine acall_of_awp (hE []) Tryz.func33 rfl (by kernel_rfl) [7] ?_
  conv => whnf
  refine ⟨_, c0, ?_⟩
  conv => whnf
  refine ⟨Nat × Int, fun x => x.1 ≤ l.length ∧ x.2 = (absSum (l.take x.1) : Int), fun x => l.length - x.1,
    fun x => ⟨[.p (.sl (zl l)), .top, .ptr 0 0 0, .ptr 1 0 0, .top, .top, .top, .top, .top, .p (.sl (zl l)), iI (((zl l).length : Nat) : Int), iI x.1, .top, .top, .top, .top, .top, .top, .top, .top, .top, .top, .top, .top, .top, .top, .top, .top, .top, .top, .top, .top, .top, .top, .top, .top], [some (.box [.p (.val (.bool false)), .p (.val (.slice none 0 0))]), iBox x.2]⟩, [], (0, 0), ?_, ?_⟩
  · conv => whnf
    repeat ((first | refine ⟨.inl rfl, ?_⟩ | refine ⟨rfl, ?_⟩); conv => whnf)
    exact ⟨Nat.zero_le _, by simp [absSum]⟩
  · rintro ⟨i, s⟩ ⟨h1, h2⟩
    simp only at h1 h2
    refine atS (s' := ⟨[.p (.sl (zl l)), .top, .ptr 0 0 0, .ptr 1 0 0, .top, .top, .top, .top, .top, .p (.sl (zl l)), iI (((zl l).length : Nat) : Int), iI i, .top, .top, .top, .top, .top, .top, .top, .top, .top, .top, .top, .top, .top, .top, .top, .top, .top, .top, .top, .top, .top, .top, .top, .top], [some (.box [.p (.val (.bool false)), .p (.val (.slice none 0 0))]), iBox s]⟩) rfl ?_
    conv => whnf
    by_cases hi : i < l.length
    · rw [decide_eq_true (show (i : Int) < ((zl l).length : Nat) by rw [zl_len]; omega)]
      have hg := zl_get hi
      have hat := absSum_take l i hi
      have hle := absSum_le l (i + 1)
      obtain ⟨x, hx⟩ : ∃ x, x = l[i] := ⟨_, rfl⟩
      rw [← hx] at hg hat
      have lx : ln x ≤ L := ln_le (by omega)
      have ls : ln s ≤ L := ln_le (by rw [h2]; simp; omega)
      conv => whnf
      refine obind_of (hg) ?_
      conv => whnf
      refine ⟨Unit, fun _ => True, fun _ => ⟨[.p (.sl (zl l)), .top, .ptr 0 0 0, .ptr 1 0 0, .top, .ptr 2 0 0, .top, .top, .top, .p (.sl (zl l)), iI (((zl l).length : Nat) : Int), iI i, .top, .top, .top, .top, .top, .top, .top, .top, .top, .top, .top, .top, .top, .top, .top, .top, .top, .top, .top, .top, .top, .top, .top, .top], [some (.box [.p (.val (.bool false)), .p (.val (.slice none 0 0))]), iBox s, iBox (x.natAbs : Nat)]⟩, ?_, ?_⟩
      · have cs := isign_call x
        conv => whnf
        refine ⟨_, cs, ?_⟩
        conv => whnf
        by_cases hx0 : x < 0
        · rw [show sgn x = -1 by simp [sgn, hx0]]
          have cn := ineg_call x (by omega)
          rw [show -x = (x.natAbs : Int) by omega] at cn
          conv => whnf
          refine ⟨_, cn, ?_⟩
          conv => whnf
          refine ⟨[], (), ?_⟩
          conv => whnf
          repeat ((first | refine ⟨.inl rfl, ?_⟩ | refine ⟨rfl, ?_⟩); conv => whnf)
          trivial
        · rw [decide_eq_false (show ¬ sgn x < 0 by simp only [sgn]; rw [if_neg hx0]; split <;> omega)]
          refine ⟨[], (), ?_⟩
          rw [show ((x.natAbs : Nat) : Int) = x by omega]
          conv => whnf
          repeat ((first | refine ⟨.inl rfl, ?_⟩ | refine ⟨rfl, ?_⟩); conv => whnf)
          trivial
      · rintro _ _
        have ca := iadd_call s (x.natAbs : Nat) (by omega) (by have : ln ((x.natAbs : Nat) : Int) = ln x := by simp [ln]
                                                               omega)
        obtain ⟨t, ht⟩ : ∃ t, t = s + (x.natAbs : Nat) := ⟨_, rfl⟩
        rw [← ht] at ca
        conv => whnf
        refine ⟨_, ca, ?_⟩
        conv => whnf
        refine ⟨(i + 1, t), ?_⟩
        conv => whnf
        repeat ((first | refine ⟨.inl rfl, ?_⟩ | refine ⟨rfl, ?_⟩); conv => whnf)
        refine ⟨.inl (vi (by rw [wi64 (by omega) (by omega)]; rfl)), ?_⟩
        conv => whnf
        repeat ((first | refine ⟨.inl rfl, ?_⟩ | refine ⟨rfl, ?_⟩); conv => whnf)
        exact ⟨⟨hi, by simp only; rw [ht, h2, hat]; omega⟩, by simp only; omega⟩
    · rw [decide_eq_false (show ¬ (i : Int) < ((zl l).length : Nat) by rw [zl_len]; omega)]
      rw [List.take_of_length_le (by omega)] at h2
      subst h2
      conv => whnf
      refine ⟨_, c2, ?_⟩
      conv => whnf
      have e1 : (if (0 : Int) > IntKind.wrap .i64 (((zl l).length : Nat) - 1) then (0 : Int) else IntKind.wrap .i64 (((zl l).length : Nat) - 1)) = ((l.length - 1 : Nat) : Int) := by
        rw [zl_len, wi64 (by omega) (by omega)]; split <;> omega
      rw [e1]
      refine ⟨_, cp, ?_⟩
      conv => whnf
      refine ⟨_, cm, ?_⟩
      conv => whnf
      exact ⟨.inl (intC_eq rfl), trivial⟩
end Go.Am

set_option linter.unusedVariables false
set_option linter.unusedSimpArgs false
namespace Go.Am
open Go Go.Proofs
set_option maxRecDepth 100000
set_option maxHeartbeats 4000000
def lcmS (d : Int) (q : Rat) : Int := d * ((q.den : Int) / (Int.gcd d (q.den : Int) : Int))
/-- A common multiple of the denominators. -/
def lcmF (l : List Rat) : Int := l.foldl lcmS 1
def xsF (l : List Rat) : List Int := l.map fun q => (q * ((lcmF l : Int) : Rat)).num
def gcdL (l : List Int) : Int := l.foldl (fun g x => (Int.gcd g x : Int)) 0
def gSg (l : List Int) : Int := if l ≠ [] ∧ l.getD (l.length - 1) 0 < 0 then -gcdL l else gcdL l
def integralF (l : List Rat) : List Int := (xsF l).map (· / gSg (xsF l))
def SQ : List Rat → Nat
  | [] => 1
  | q :: r => lq q + SQ r
theorem SQ_pos (l : List Rat) : 1 ≤ SQ l := by
  induction l with
  | nil => simp [SQ]
  | cons q r ih => simp only [SQ]; omega
theorem SQ_get (l : List Rat) (i : Nat) (h : i < l.length) : lq l[i] ≤ SQ l := by
  induction l generalizing i with
  | nil => simp at h
  | cons q r ih =>
    cases i with
    | zero => simp only [SQ, List.getElem_cons_zero]; omega
    | succ i => have := ih i (by simpa using h); simp only [SQ, List.getElem_cons_succ]; omega
theorem SQ_take (l : List Rat) (i : Nat) (h : i < l.length) : SQ (l.take i) + lq l[i] ≤ SQ l := by
  induction l generalizing i with
  | nil => simp at h
  | cons q r ih =>
    cases i with
    | zero => have := SQ_pos r; simp only [List.take_zero, SQ, List.getElem_cons_zero]; omega
    | succ i => have := ih i (by simpa using h); simp only [List.take_succ_cons, SQ, List.getElem_cons_succ]; omega
theorem SQ_take_le (l : List Rat) (i : Nat) : SQ (l.take i) ≤ SQ l := by
  induction l generalizing i with
  | nil => simp [SQ]
  | cons q r ih =>
    cases i with
    | zero => have := SQ_pos r; simp only [List.take_zero, SQ]; omega
    | succ i => have := ih i; simp only [List.take_succ_cons, SQ]; omega
theorem lcm_pos (l : List Rat) : ∀ d : Int, 0 < d → 0 < l.foldl lcmS d ∧ ln (l.foldl lcmS d) + 1 ≤ ln d + SQ l := by
  induction l with
  | nil => intro d h; simp [SQ, h]
  | cons q r ih =>
    intro d h
    have hden : (0 : Int) < q.den := by have := q.den_nz; omega
    have hg : (Int.gcd d (q.den : Int) : Int) ∣ (q.den : Int) := Int.gcd_dvd_right ..
    have hgp : (0 : Int) < (Int.gcd d (q.den : Int) : Int) := by
      have : Int.gcd d (q.den : Int) ≠ 0 := fun e => by have := (Int.gcd_eq_zero_iff.1 e).1; omega
      omega
    have h1 : 0 < (q.den : Int) / (Int.gcd d (q.den : Int) : Int) := Int.ediv_pos_of_pos_of_dvd hden (by omega) hg
    have h2 : 0 < lcmS d q := Int.mul_pos h h1
    obtain ⟨k1, k2⟩ := ih (lcmS d q) h2
    have h3 : ln (lcmS d q) ≤ ln d + ln ((q.den : Int) / (Int.gcd d (q.den : Int) : Int)) := ln_mul _ _
    have h4 := ln_mono (natAbs_ediv_le _ _ hg)
    simp only [List.foldl_cons, SQ, lq]
    exact ⟨k1, by omega⟩
theorem ln_one : ln 1 = 1 := by decide
theorem lcmF_pos (l : List Rat) : 0 < lcmF l ∧ ln (lcmF l) ≤ SQ l := by
  have := lcm_pos l 1 (by omega)
  rw [ln_one] at this
  exact ⟨this.1, by have := this.2; simp only [lcmF]; omega⟩
theorem lcmF_snoc (l : List Rat) (i : Nat) (h : i < l.length) : lcmF (l.take (i + 1)) = lcmS (lcmF (l.take i)) l[i] := by
  rw [List.take_succ_eq_append_getElem h]; simp only [lcmF, List.foldl_append, List.foldl_cons, List.foldl_nil]
theorem gcdL_snoc (l : List Int) (x : Int) : gcdL (l ++ [x]) = (Int.gcd (gcdL l) x : Int) := by simp [gcdL]
theorem ln_gcd2 {g x : Int} {M : Nat} (h1 : ln g ≤ M) (h2 : ln x ≤ M) : ln (Int.gcd g x : Int) ≤ M := by
  by_cases hx : x = 0
  · subst hx; rw [Int.gcd_zero_right]; simp only [ln, Int.natAbs_natCast] at h1 ⊢; exact h1
  · have := ln_gcd g x hx; omega
theorem lq_ofInt (z : Int) : lq (z : Rat) = ln z + 1 := by
  show ln z + ln ((1 : Nat) : Int) = _
  rw [show ((1 : Nat) : Int) = 1 from rfl, ln_one]
theorem set_mid (xs : List Int) (f : Int → Int) (i : Nat) (h : i < xs.length) : ((xs.take i).map f ++ xs.drop i).set i (f xs[i]) = (xs.take (i + 1)).map f ++ xs.drop (i + 1) := by
  have e : ((xs.take i).map f).length = i := by rw [List.length_map, List.length_take]; omega
  rw [List.set_append_right _ _ (by omega), e, Nat.sub_self, List.drop_eq_getElem_cons h, List.set_cons_zero, List.take_succ_eq_append_getElem h, List.map_append]
  simp only [List.map_cons, List.map_nil, List.append_assoc, List.cons_append, List.nil_append]
theorem integral_call (l : List Rat) (hs : SQ l < 100000000) (hl : l.length < 1000000) (hlast : ∀ h : l ≠ [], l.getLast h ≠ 0) : ACall Tryz.prog 26 [.sl (ql l)] [.p (.sl (zl (integralF l)))] := by
  have c1 := of_call 1 (by omega) (by omega)
  have c0 := of_call 0 (by omega) (by omega)
  obtain ⟨hD0, hDl⟩ := lcmF_pos l
  obtain ⟨D, hD⟩ : ∃ D, D = lcmF l := ⟨_, rfl⟩
  have hxs : xsF l = l.map fun q => (q * (D : Rat)).num := by rw [hD]; rfl
  rw [← hD] at hD0 hDl
  refine acall_of_awp (hE []) Tryz.func26 rfl (by kernel_rfl) [8,18] ?_
  conv => whnf
  refine ⟨_, c1, ?_⟩
  conv => whnf
  refine ⟨Unit, fun _ => True, fun _ => ⟨[.p (.sl (ql l)), .top, .top, .ptr 0 0 0, .top, .top, .top, .top, .top, .top, .top, .top, .top, .top, .top, .top, .top, .top, .top, .top, .top, .top, .top, .top, .top, .top, .top, .top, .top, .top, .top, .top, .top, .top, .top, .top, .top, .top, .top, .top, .top, .top, .top, .top, .top, .top, .top, .top, .top, .top, .top, .top, .top, .top, .top, .top, .top, .top, .top, .top, .top, .top, .top, .top, .top, .top, .top, .top, .top, .top, .top, .top, .top, .top, .top, .top, .top, .top, .top, .top, .top, .top, .top, .top, .top, .top, .top, .top, .top, .top, .top, .top, .top, .top, .top, .top, .top, .top, .top, .top, .top, .top, .top, .top, .top, .top], [iBox D]⟩, ?_, ?_⟩
  · conv => whnf
    refine ⟨Nat × Int, fun x => x.1 ≤ l.length ∧ x.2 = lcmF (l.take x.1), fun x => l.length - x.1,
      fun x => ⟨[.p (.sl (ql l)), .top, .top, .ptr 0 0 0, iI x.1, .top, .top, .top, .top, .top, .top, .top, .top, .top, .top, .top, .top, .top, .top, .top, .top, .top, .top, .top, .top, .top, .top, .top, .top, .top, .top, .top, .top, .top, .top, .top, .top, .top, .top, .top, .top, .top, .top, .top, .top, .top, .top, .top, .top, .top, .top, .top, .top, .top, .top, .top, .top, .top, .top, .top, .top, .top, .top, .top, .top, .top, .top, .top, .top, .top, .top, .top, .top, .top, .top, .top, .top, .top, .top, .top, .top, .top, .top, .top, .top, .top, .top, .top, .top, .top, .top, .top, .top, .top, .top, .top, .top, .top, .top, .top, .top, .top, .top, .top, .top, .top], [iBox x.2]⟩, [], (0, 1), ?_, ?_⟩
    · conv => whnf
      repeat ((first | refine ⟨.inl rfl, ?_⟩ | refine ⟨rfl, ?_⟩); conv => whnf)
      exact ⟨Nat.zero_le _, rfl⟩
    · rintro ⟨i, d⟩ ⟨h1, h2⟩
      simp only at h1 h2
      refine atS (s' := ⟨[.p (.sl (ql l)), .top, .top, .ptr 0 0 0, iI i, .top, .top, .top, .top, .top, .top, .top, .top, .top, .top, .top, .top, .top, .top, .top, .top, .top, .top, .top, .top, .top, .top, .top, .top, .top, .top, .top, .top, .top, .top, .top, .top, .top, .top, .top, .top, .top, .top, .top, .top, .top, .top, .top, .top, .top, .top, .top, .top, .top, .top, .top, .top, .top, .top, .top, .top, .top, .top, .top, .top, .top, .top, .top, .top, .top, .top, .top, .top, .top, .top, .top, .top, .top, .top, .top, .top, .top, .top, .top, .top, .top, .top, .top, .top, .top, .top, .top, .top, .top, .top, .top, .top, .top, .top, .top, .top, .top, .top, .top, .top, .top], [iBox d]⟩) rfl ?_
      conv => whnf
      by_cases hi : i < l.length
      · rw [decide_eq_true (show (i : Int) < ((ql l).length : Nat) by rw [ql_len]; omega)]
        have hg := ql_get hi
        have hsn := lcmF_snoc l i hi
        have hlqi := SQ_get l i hi
        have hti := SQ_take_le l i
        obtain ⟨hd0, hdl⟩ := lcmF_pos (l.take i)
        rw [← h2] at hsn hd0 hdl
        obtain ⟨q, hq⟩ : ∃ q, q = l[i] := ⟨_, rfl⟩
        rw [← hq] at hg hsn hlqi
        simp only [lq] at hlqi
        have hden : (0 : Int) < q.den := by have := q.den_nz; omega
        have hgn : (Int.gcd d (q.den : Int) : Int) ≠ 0 := by
          have : Int.gcd d (q.den : Int) ≠ 0 := fun e => by have := (Int.gcd_eq_zero_iff.1 e).1; omega
          omega
        have hgl := ln_gcd d (q.den : Int) (by omega)
        have hgd : (Int.gcd d (q.den : Int) : Int) ∣ (q.den : Int) := Int.gcd_dvd_right ..
        have hql := ln_mono (natAbs_ediv_le _ _ hgd)
        have cg := gcd_call d (q.den : Int) (by omega) (by omega)
        have cd := divmod_call (q.den : Int) (Int.gcd d (q.den : Int) : Int) (by omega) (by omega) hgn
        have cm := mul_call d ((q.den : Int) / (Int.gcd d (q.den : Int) : Int)) (by omega)
        rw [show d * ((q.den : Int) / (Int.gcd d (q.den : Int) : Int)) = lcmS d q from rfl, ← hsn] at cm
        obtain ⟨g, hgg⟩ : ∃ g : Int, g = (Int.gcd d (q.den : Int) : Int) := ⟨_, rfl⟩
        rw [← hgg] at cg cd cm
        obtain ⟨e, he⟩ : ∃ e : Int, e = (q.den : Int) / g := ⟨_, rfl⟩
        obtain ⟨f, hf⟩ : ∃ f : Int, f = (q.den : Int) % g := ⟨_, rfl⟩
        rw [← he, ← hf] at cd
        rw [← he] at cm
        obtain ⟨d', hd'⟩ : ∃ d', d' = lcmF (l.take (i + 1)) := ⟨_, rfl⟩
        rw [← hd'] at cm
        obtain ⟨qd, hqd⟩ : ∃ x : Int, x = (q.den : Int) := ⟨_, rfl⟩
        conv => whnf
        refine ⟨by kernel_rfl, ?_⟩
        conv => whnf
        refine obind_of (hg) ?_
        conv => whnf
        refine ⟨_, cg, ?_⟩
        conv => whnf
        refine ⟨.inl (by kernel_rfl), ?_⟩
        conv => whnf
        refine ⟨by kernel_rfl, ?_⟩
        conv => whnf
        refine obind_of (hg) ?_
        conv => whnf
        refine ⟨_, cd, ?_⟩
        conv => whnf
        refine ⟨.inl (by kernel_rfl), ?_⟩
        conv => whnf
        refine ⟨_, cm, ?_⟩
        conv => whnf
        refine ⟨(i + 1, d'), ?_⟩
        conv => whnf
        repeat ((first | refine ⟨.inl rfl, ?_⟩ | refine ⟨rfl, ?_⟩); conv => whnf)
        refine ⟨.inl (vi (by rw [wi64 (by omega) (by omega)]; rfl)), ?_⟩
        conv => whnf
        repeat ((first | refine ⟨.inl rfl, ?_⟩ | refine ⟨rfl, ?_⟩); conv => whnf)
        exact ⟨⟨hi, hd'⟩, by simp only; omega⟩
      · rw [decide_eq_false (show ¬ (i : Int) < ((ql l).length : Nat) by rw [ql_len]; omega)]
        rw [List.take_of_length_le (by omega), ← hD] at h2
        subst h2
        refine ⟨[], (), ?_⟩
        conv => whnf
        repeat ((first | refine ⟨.inl rfl, ?_⟩ | refine ⟨rfl, ?_⟩); conv => whnf)
        trivial
  · rintro _ _
    have hlen : (xsF l).length = l.length := by rw [hxs]; simp
    have hxi : ∀ i (h : i < l.length), (xsF l)[i]'(by omega) = (l[i] * (D : Rat)).num := fun i h => by simp only [hxs]; simp
    have hlx : ∀ i (h : i < l.length), ln ((l[i] * (D : Rat)).num) ≤ 2 * SQ l + 1 := fun i h => by
      have h1 := lq_mul l[i] (D : Rat)
      rw [lq_ofInt] at h1
      have h2 := SQ_get l i h
      simp only [lq] at h1 h2
      omega
    have hlastx : ∀ h : 0 < l.length, (xsF l).getD (l.length - 1) 0 ≠ 0 := fun h => by
      have h1 := hlast (fun e => by rw [e] at h; simp at h)
      rw [List.getLast_eq_getElem] at h1
      rw [show (xsF l).getD (l.length - 1) 0 = (xsF l)[l.length - 1]'(by omega) by simp [hlen, show l.length - 1 < l.length by omega], hxi _ (by omega)]
      refine num_ne (fun e => ?_)
      rcases Rat.mul_eq_zero.1 e with e | e
      · exact h1 e
      revert e
      have : (D : Rat) ≠ ((0 : Int) : Rat) := fun e => by rw [Rat.intCast_inj] at e; omega
      exact this
    obtain ⟨xs, hxx⟩ : ∃ xs, xs = xsF l := ⟨_, rfl⟩
    have hI : integralF l = xs.map (· / gSg xs) := by rw [hxx]; rfl
    rw [hI]
    rw [← hxx] at hlen hlastx
    have hxi' : ∀ i (h : i < l.length), xs[i]'(by omega) = (l[i] * (D : Rat)).num := fun i h => by
      have := hxi i h
      simp only [← hxx] at this
      exact this
    clear hxs hxi hxx
    have hlg : ∀ i, ln (gcdL (xs.take i)) ≤ 2 * SQ l + 1 := fun i => by
      induction i with
      | zero => simp [gcdL, ln, digs_zero]
      | succ i ih =>
        by_cases h : i < xs.length
        · rw [List.take_succ_eq_append_getElem h, gcdL_snoc, hxi' i (by omega)]
          exact ln_gcd2 ih (hlx i (by omega))
        · rw [List.take_of_length_le (by omega)]; rw [List.take_of_length_le (by omega)] at ih; exact ih
    conv => whnf
    refine ⟨_, c0, ?_⟩
    conv => whnf
    refine ⟨Nat, fun i => i ≤ l.length, fun i => l.length - i,
      fun i => ⟨[.p (.sl (ql l)), .top, .top, .ptr 0 0 0, .top, .top, .top, .top, .top, .own 1 2 i, .ptr 2 0 0, iI i, .top, .top, .top, .top, .top, .top, .top, .top, .top, .top, .top, .top, .top, .top, .top, .top, .top, .top, .top, .top, .top, .top, .top, .top, .top, .top, .top, .top, .top, .top, .top, .top, .top, .top, .top, .top, .top, .top, .top, .top, .top, .top, .top, .top, .top, .top, .top, .top, .top, .top, .top, .top, .top, .top, .top, .top, .top, .top, .top, .top, .top, .top, .top, .top, .top, .top, .top, .top, .top, .top, .top, .top, .top, .top, .top, .top, .top, .top, .top, .top, .top, .top, .top, .top, .top, .top, .top, .top, .top, .top, .top, .top, .top, .top], [iBox D, some (.row 2 (zl (xs.take i)) true), iBox (gcdL (xs.take i))]⟩, [], 0, ?_, ?_⟩
    · conv => whnf
      repeat ((first | refine ⟨.inl rfl, ?_⟩ | refine ⟨rfl, ?_⟩); conv => whnf)
      exact Nat.zero_le _
    · rintro i hi'
      refine atS (s' := ⟨[.p (.sl (ql l)), .top, .top, .ptr 0 0 0, .top, .top, .top, .top, .top, .own 1 2 i, .ptr 2 0 0, iI i, .top, .top, .top, .top, .top, .top, .top, .top, .top, .top, .top, .top, .top, .top, .top, .top, .top, .top, .top, .top, .top, .top, .top, .top, .top, .top, .top, .top, .top, .top, .top, .top, .top, .top, .top, .top, .top, .top, .top, .top, .top, .top, .top, .top, .top, .top, .top, .top, .top, .top, .top, .top, .top, .top, .top, .top, .top, .top, .top, .top, .top, .top, .top, .top, .top, .top, .top, .top, .top, .top, .top, .top, .top, .top, .top, .top, .top, .top, .top, .top, .top, .top, .top, .top, .top, .top, .top, .top, .top, .top, .top, .top, .top, .top], [iBox D, some (.row 2 (zl (xs.take i)) true), iBox (gcdL (xs.take i))]⟩) rfl ?_
      by_cases hi : i < l.length
      · have hg := ql_get hi
        have hlqi := SQ_get l i hi
        have hsn : xs.take (i + 1) = xs.take i ++ [(l[i] * (D : Rat)).num] := by rw [List.take_succ_eq_append_getElem (by omega), hxi' i hi]
        have hlxi := hlx i hi
        have hlgi := hlg i
        obtain ⟨q, hq⟩ : ∃ q, q = l[i] := ⟨_, rfl⟩
        rw [← hq] at hg hsn hlqi hlxi
        have cm := qmul_call q (D : Rat) (by rw [lq_ofInt]; omega)
        obtain ⟨r, hr⟩ : ∃ r, r = q * (D : Rat) := ⟨_, rfl⟩
        rw [← hr] at cm hsn hlxi
        have cg := gcd_call (gcdL (xs.take i)) r.num (by omega) (by omega)
        rw [← gcdL_snoc, ← hsn] at cg
        obtain ⟨g, hgg⟩ : ∃ g, g = gcdL (xs.take i) := ⟨_, rfl⟩
        obtain ⟨g2, hg2⟩ : ∃ g, g = gcdL (xs.take (i + 1)) := ⟨_, rfl⟩
        rw [← hgg, ← hg2] at cg
        rw [← hgg]
        conv => whnf
        rw [decide_eq_true (show (i : Int) < ((ql l).length : Nat) by rw [ql_len]; omega)]
        conv => whnf
        refine ⟨by kernel_rfl, ?_⟩
        conv => whnf
        refine obind_of (hg) ?_
        conv => whnf
        refine ⟨_, c1, ?_⟩
        conv => whnf
        refine ⟨_, cm, ?_⟩
        conv => whnf
        refine ⟨.inl (by kernel_rfl), ?_⟩
        conv => whnf
        refine chk_of (by rw [zl_len, List.length_take]; show (min i xs.length + 1) * 32 ≤ 140737488355328; omega) ?_
        conv => whnf
        refine ⟨_, cg, ?_⟩
        conv => whnf
        refine ⟨i + 1, ?_⟩
        conv => whnf
        repeat ((first | refine ⟨.inl rfl, ?_⟩ | refine ⟨rfl, ?_⟩); conv => whnf)
        refine ⟨by rw [zl_len, List.length_take, Nat.min_eq_left (by omega)]; rfl, ?_⟩
        conv => whnf
        repeat ((first | refine ⟨.inl rfl, ?_⟩ | refine ⟨rfl, ?_⟩); conv => whnf)
        refine ⟨.inl (vi (by rw [wi64 (by omega) (by omega)]; rfl)), ?_⟩
        conv => whnf
        repeat ((first | refine ⟨.inl rfl, ?_⟩ | refine ⟨rfl, ?_⟩); conv => whnf)
        have e3 : zl (xs.take i) ++ [intC r.num] = zl (xs.take (i + 1)) := by rw [hsn, ← zl_app]; rfl
        refine ⟨.inl (e3), ?_⟩
        conv => whnf
        rw [← hg2]
        repeat ((first | refine ⟨.inl rfl, ?_⟩ | refine ⟨rfl, ?_⟩); conv => whnf)
        exact ⟨hi, by simp only; omega⟩
      · have hil : i = l.length := by omega
        have htk : xs.take i = xs := List.take_of_length_le (by omega)
        have hlgx : ln (gcdL xs) ≤ 2 * SQ l + 1 := by have := hlg i; rwa [htk] at this
        rw [htk]
        obtain ⟨g, hgg⟩ : ∃ g, g = gcdL xs := ⟨_, rfl⟩
        rw [← hgg] at hlgx ⊢
        conv => whnf
        rw [decide_eq_false (show ¬ (i : Int) < ((ql l).length : Nat) by rw [ql_len]; omega)]
        conv => whnf
        refine ⟨Unit, fun _ => True, fun _ => ⟨[.top, .top, .top, .top, .top, .top, .top, .top, .top, .own 0 2 xs.length, .ptr 1 0 0, .top, .top, .top, .top, .top, .top, .top, .top, .top, .top, .top, .top, .top, .top, .top, .top, .top, .top, .top, .top, .top, .top, .top, .top, .top, .top, .top, .top, .top, .top, .top, .top, .top, .top, .top, .top, .top, .top, .top, .top, .top, .top, .top, .top, .top, .top, .top, .top, .top, .top, .top, .top, .top, .top, .top, .top, .top, .top, .top, .top, .top, .top, .top, .top, .top, .top, .top, .top, .top, .top, .top, .top, .top, .top, .top, .top, .top, .top, .top, .top, .top, .top, .top, .top, .top, .top, .top, .top, .top, .top, .top, .top, .top, .top, .top], [some (.row 2 (zl xs) true), iBox (gSg xs)]⟩, ?_, ?_⟩
        · by_cases hl0 : 0 < l.length
          · have hlx0 := hlastx hl0
            have e1 : IntKind.wrap .i64 (((zl xs).length : Nat) - 1) = ((l.length - 1 : Nat) : Int) := by rw [zl_len, hlen, wi64 (by omega) (by omega)]; omega
            have e1' : IntKind.wrap .i64 (((l.length : Nat) : Int) - 1) = ((l.length - 1 : Nat) : Int) := by rw [wi64 (by omega) (by omega)]; omega
            have hgx := zl_get (l := xs) (i := l.length - 1) (by omega)
            have hgS : gSg xs = if xs.getD (l.length - 1) 0 < 0 then -g else g := by
              simp only [gSg, ← hgg, hlen]
              have : xs ≠ [] := fun e => by rw [e] at hlen; simp at hlen; omega
              simp [this]
            rw [show xs.getD (l.length - 1) 0 = xs[l.length - 1]'(by omega) by simp [hlen, show l.length - 1 < l.length by omega]] at hlx0 hgS
            obtain ⟨z, hz⟩ : ∃ z, z = xs[l.length - 1]'(by omega) := ⟨_, rfl⟩
            rw [← hz] at hlx0 hgS hgx
            have cs := sign_call z
            subst hil
            conv => whnf
            rw [decide_eq_true (show ((ql l).length : Int) > 0 by rw [ql_len]; omega)]
            conv => whnf
            rw [e1']
            conv => whnf
            refine chk_of (by first | omega | (simp only [wl_len, ul_len] at *; omega)) ?_
            conv => whnf
            refine obind_of (hgx) ?_
            conv => whnf
            refine ⟨_, cs, ?_⟩
            conv => whnf
            by_cases hz0 : z < 0
            · rw [if_pos hz0] at hgS
              rw [show sgn z = -1 by simp [sgn, hz0]]
              have cn := neg_call g (by omega)
              rw [← hgS] at cn
              obtain ⟨g', hg'⟩ : ∃ g', g' = gSg xs := ⟨_, rfl⟩
              rw [← hg'] at cn
              conv => whnf
              refine ⟨_, cn, ?_⟩
              conv => whnf
              refine ⟨[], (), ?_⟩
              rw [← hg']
              conv => whnf
              refine ⟨by exact hlen.symm, ?_⟩
              conv => whnf
              repeat ((first | refine ⟨.inl rfl, ?_⟩ | refine ⟨rfl, ?_⟩); conv => whnf)
              trivial
            · rw [if_neg hz0] at hgS
              rw [decide_eq_false (show ¬ sgn z < 0 by simp only [sgn]; rw [if_neg hz0]; split <;> omega)]
              refine ⟨[], (), ?_⟩
              rw [hgS]
              conv => whnf
              refine ⟨by exact hlen.symm, ?_⟩
              conv => whnf
              repeat ((first | refine ⟨.inl rfl, ?_⟩ | refine ⟨rfl, ?_⟩); conv => whnf)
              trivial
          · have hx0 : xs = [] := List.eq_nil_of_length_eq_zero (by omega)
            have hgS : gSg xs = g := by simp [gSg, hx0, hgg]
            conv => whnf
            rw [decide_eq_false (show ¬ ((ql l).length : Int) > 0 by rw [ql_len]; omega)]
            refine ⟨[], (), ?_⟩
            rw [hgS]
            conv => whnf
            refine ⟨by omega, ?_⟩
            conv => whnf
            repeat ((first | refine ⟨.inl rfl, ?_⟩ | refine ⟨rfl, ?_⟩); conv => whnf)
            trivial
        · rintro _ _
          have hg0 : 0 < xs.length → gSg xs ≠ 0 := fun h => by
            have hx0 := hlastx (by omega)
            have hne : gcdL xs ≠ 0 := by
              have e := List.dropLast_concat_getLast (l := xs) (fun e => by rw [e] at h; simp at h)
              rw [← e, gcdL_snoc]
              intro h0
              have h1 := (Int.gcd_eq_zero_iff.1 (Int.natCast_eq_zero.1 h0)).2
              rw [List.getLast_eq_getElem] at h1
              refine hx0 ?_
              rw [show xs.getD (l.length - 1) 0 = xs[xs.length - 1]'(by omega) by simp [hlen, show l.length - 1 < l.length by omega]]
              exact h1
            simp only [gSg]; split <;> omega
          have hgl : ln (gSg xs) ≤ 2 * SQ l + 1 := by
            rw [hgg] at hlgx
            simp only [gSg]; split
            · rw [ln_neg]; exact hlgx
            · exact hlgx
          obtain ⟨G, hG⟩ : ∃ G, G = gSg xs := ⟨_, rfl⟩
          rw [← hG] at hg0 hgl ⊢
          refine atS (s' := ⟨[.top, .top, .top, .top, .top, .top, .top, .top, .top, .own 0 2 xs.length, .ptr 1 0 0, .top, .top, .top, .top, .top, .top, .top, .top, .top, .top, .top, .top, .top, .top, .top, .top, .top, .top, .top, .top, .top, .top, .top, .top, .top, .top, .top, .top, .top, .top, .top, .top, .top, .top, .top, .top, .top, .top, .top, .top, .top, .top, .top, .top, .top, .top, .top, .top, .top, .top, .top, .top, .top, .top, .top, .top, .top, .top, .top, .top, .top, .top, .top, .top, .top, .top, .top, .top, .top, .top, .top, .top, .top, .top, .top, .top, .top, .top, .top, .top, .top, .top, .top, .top, .top, .top, .top, .top, .top, .top, .top, .top, .top, .top, .top], [some (.row 2 (zl xs) true), iBox G]⟩) (by rw [hG]) ?_
          conv => whnf
          refine ⟨Nat, fun i => i ≤ xs.length, fun i => xs.length - i,
            fun i => ⟨[.top, .top, .top, .top, .top, .top, .top, .top, .top, .own 0 2 xs.length, .ptr 1 0 0, .top, .top, iI i, .top, .top, .top, .top, .top, .top, .top, .top, .top, .top, .top, .top, .top, .top, .top, .top, .top, .top, .top, .top, .top, .top, .top, .top, .top, .top, .top, .top, .top, .top, .top, .top, .top, .top, .top, .top, .top, .top, .top, .top, .top, .top, .top, .top, .top, .top, .top, .top, .top, .top, .top, .top, .top, .top, .top, .top, .top, .top, .top, .top, .top, .top, .top, .top, .top, .top, .top, .top, .top, .top, .top, .top, .top, .top, .top, .top, .top, .top, .top, .top, .top, .top, .top, .top, .top, .top, .top, .top, .top, .top, .top, .top], [some (.row 2 (zl ((xs.take i).map (· / G) ++ xs.drop i)) true), iBox G]⟩, [], 0, ?_, ?_⟩
          · conv => whnf
            repeat ((first | refine ⟨.inl rfl, ?_⟩ | refine ⟨rfl, ?_⟩); conv => whnf)
            exact Nat.zero_le _
          · rintro i hi'
            refine atS (s' := ⟨[.top, .top, .top, .top, .top, .top, .top, .top, .top, .own 0 2 xs.length, .ptr 1 0 0, .top, .top, iI i, .top, .top, .top, .top, .top, .top, .top, .top, .top, .top, .top, .top, .top, .top, .top, .top, .top, .top, .top, .top, .top, .top, .top, .top, .top, .top, .top, .top, .top, .top, .top, .top, .top, .top, .top, .top, .top, .top, .top, .top, .top, .top, .top, .top, .top, .top, .top, .top, .top, .top, .top, .top, .top, .top, .top, .top, .top, .top, .top, .top, .top, .top, .top, .top, .top, .top, .top, .top, .top, .top, .top, .top, .top, .top, .top, .top, .top, .top, .top, .top, .top, .top, .top, .top, .top, .top, .top, .top, .top, .top, .top, .top], [some (.row 2 (zl ((xs.take i).map (· / G) ++ xs.drop i)) true), iBox G]⟩) rfl ?_
            obtain ⟨O, hO⟩ : ∃ O, O = (xs.take i).map (· / G) ++ xs.drop i := ⟨_, rfl⟩
            have hOl : O.length = xs.length := by rw [hO]; simp; omega
            rw [← hO]
            by_cases hix : i < xs.length
            · have hxl : ln xs[i] ≤ 2 * SQ l + 1 := by rw [hxi' i (by omega)]; exact hlx i (by omega)
              have hOi : O[i]'(by omega) = xs[i] := by
                simp only [hO]
                rw [List.getElem_append_right (by simp; omega)]
                simp [show min i xs.length = i by omega]
              have hset : O.set i (xs[i] / G) = (xs.take (i + 1)).map (· / G) ++ xs.drop (i + 1) := by
                rw [hO]; exact set_mid xs (· / G) i hix
              have hg := zl_get (l := O) (i := i) (by omega)
              rw [hOi] at hg
              obtain ⟨z, hz⟩ : ∃ z, z = xs[i] := ⟨_, rfl⟩
              rw [← hz] at hg hxl hset
              have cd := divmod_call z G (by omega) (by omega) (hg0 (by omega))
              obtain ⟨e, he⟩ : ∃ e, e = z / G := ⟨_, rfl⟩
              obtain ⟨f, hf⟩ : ∃ f, f = z % G := ⟨_, rfl⟩
              rw [← he, ← hf] at cd
              rw [← he] at hset
              conv => whnf
              rw [decide_eq_true (show (i : Int) < (xs.length : Nat) by omega)]
              conv => whnf
              refine ⟨by kernel_rfl, ?_⟩
              conv => whnf
              refine chk_of (by first | omega | (simp only [wl_len, ul_len] at *; omega)) ?_
              conv => whnf
              refine obind_of (hg) ?_
              conv => whnf
              refine ⟨_, cd, ?_⟩
              conv => whnf
              refine ⟨.inl (by kernel_rfl), ?_⟩
              conv => whnf
              refine chk_of (by first | omega | (simp only [wl_len, ul_len] at *; omega)) ?_
              conv => whnf
              refine chk_of (by rw [zl_len]; show i < O.length; omega) ?_
              conv => whnf
              refine ⟨i + 1, ?_⟩
              conv => whnf
              repeat ((first | refine ⟨.inl rfl, ?_⟩ | refine ⟨rfl, ?_⟩); conv => whnf)
              refine ⟨.inl (vi (by rw [wi64 (by omega) (by omega)]; rfl)), ?_⟩
              conv => whnf
              have e3 : (zl O).set i (intC e) = zl ((xs.take (i + 1)).map (· / G) ++ xs.drop (i + 1)) := by rw [zl_set, hset]
              refine ⟨.inl (e3), ?_⟩
              conv => whnf
              repeat ((first | refine ⟨.inl rfl, ?_⟩ | refine ⟨rfl, ?_⟩); conv => whnf)
              exact ⟨by omega, by simp only; omega⟩
            · rw [List.take_of_length_le (by omega), List.drop_of_length_le (by omega), List.append_nil] at hO
              rw [← hO]
              conv => whnf
              rw [decide_eq_false (show ¬ (i : Int) < (xs.length : Nat) by omega)]
              conv => whnf
              exact ⟨.inl rfl, trivial⟩
end Go.Am

set_option linter.unusedVariables false
set_option linter.unusedSimpArgs false
namespace Go.Am
open Go Go.Proofs
set_option maxRecDepth 100000
/-! ### FactorBounds' plain law -/
theorem gcdF_dvd : ∀ (l : List Int) (g : Int), (l.foldl (fun g x => (Int.gcd g x : Int)) g) ∣ g ∧ ∀ x ∈ l, (l.foldl (fun g x => (Int.gcd g x : Int)) g) ∣ x := by
  intro l
  induction l with
  | nil => intro g; exact ⟨Int.dvd_refl _, fun x h => by cases h⟩
  | cons y r ih =>
    intro g
    obtain ⟨h1, h2⟩ := ih (Int.gcd g y : Int)
    refine ⟨Int.dvd_trans h1 (Int.gcd_dvd_left ..), fun x hx => ?_⟩
    rcases List.mem_cons.1 hx with rfl | hx
    · exact Int.dvd_trans h1 (Int.gcd_dvd_right ..)
    · exact h2 x hx
theorem gcdL_dvd (l : List Int) {x : Int} (h : x ∈ l) : gcdL l ∣ x := (gcdF_dvd l 0).2 x h
theorem gSg_dvd (l : List Int) {x : Int} (h : x ∈ l) : gSg l ∣ x := by
  unfold gSg
  split
  · exact Int.neg_dvd.2 (gcdL_dvd l h)
  · exact gcdL_dvd l h
theorem ediv_ne {x g : Int} (hd : g ∣ x) (hx : x ≠ 0) : x / g ≠ 0 := by
  obtain ⟨c, rfl⟩ := hd
  have hg : g ≠ 0 := fun e => hx (by rw [e, Int.zero_mul])
  rw [Int.mul_ediv_cancel_left _ hg]
  exact fun e => hx (by rw [e, Int.mul_zero])
theorem xsF_len (l : List Rat) : (xsF l).length = l.length := by simp [xsF]
theorem integralF_len (l : List Rat) : (integralF l).length = l.length := by simp [integralF, xsF]
theorem integralF_last {l : List Rat} (h0 : l ≠ []) (h : l.getLast h0 ≠ 0) : (integralF l).getD (l.length - 1) 0 ≠ 0 := by
  have hl := List.length_pos_iff.2 h0
  have hi : l.length - 1 < (xsF l).length := by rw [xsF_len]; omega
  have e : (integralF l).getD (l.length - 1) 0 = (xsF l)[l.length - 1] / gSg (xsF l) := by
    rw [List.getD, List.getElem?_eq_getElem (by rw [integralF_len]; omega)]
    simp [integralF]
  rw [e]
  refine ediv_ne (gSg_dvd _ (List.getElem_mem hi)) ?_
  have e2 : (xsF l)[l.length - 1] = (l.getLast h0 * ((lcmF l : Int) : Rat)).num := by
    simp [xsF, List.getLast_eq_getElem]
  rw [e2]
  have hD := (lcmF_pos l).1
  have hne : l.getLast h0 * ((lcmF l : Int) : Rat) ≠ 0 := by
    intro e0
    rcases Rat.mul_eq_zero.1 e0 with e | e
    · exact h e
    · have : ((lcmF l : Int) : Rat).num = (0 : Rat).num := by rw [e]
      simp at this
      omega
  exact fun e => hne (Rat.num_eq_zero.1 e)
theorem integralF_bd (l : List Rat) : Bd (integralF l) (4294967296 ^ (2 * SQ l + 1)) := by
  intro x hx
  obtain ⟨y, hy, rfl⟩ := List.mem_map.1 hx
  have h1 : (y / gSg (xsF l)).natAbs ≤ y.natAbs := natAbs_ediv_le _ _ (gSg_dvd _ hy)
  obtain ⟨q, hq, rfl⟩ := List.mem_map.1 hy
  obtain ⟨i, hi, rfl⟩ := List.getElem_of_mem hq
  have h2 := SQ_get l i hi
  have h3 := (lcmF_pos l).2
  have h4 := lq_mul l[i] ((lcmF l : Int) : Rat)
  rw [lq_ofInt] at h4
  have h5 := ln_lt (l[i] * ((lcmF l : Int) : Rat)).num
  have h6 : ln (l[i] * ((lcmF l : Int) : Rat)).num ≤ lq (l[i] * ((lcmF l : Int) : Rat)) := by unfold lq; omega
  refine Nat.le_trans h1 (Nat.le_of_lt (Nat.lt_of_lt_of_le h5 (Nat.pow_le_pow_right (by omega) (by omega))))
/-! Polynomials as sequences -/
def sq (l : List Int) : Sq := fun i => l.getD i 0
theorem sq_below (l : List Int) : below l.length (sq l) := fun i hi => by simp [sq, hi]
theorem ItX_sh (v : Sq) : ∀ (i s : Nat), It Xs i v s = if i ≤ s then v (s - i) else 0 := by
  intro i
  induction i generalizing v with
  | zero => intro s; simp [It]
  | succ i ih =>
    intro s
    rw [It_comm]
    cases s with
    | zero => simp [Xs]
    | succ s =>
      show It Xs i v s = _
      rw [ih v s]
      by_cases h : i ≤ s
      · rw [if_pos h, if_pos (by omega), show s + 1 - (i + 1) = s - i by omega]
      · rw [if_neg h, if_neg (by omega)]
theorem Sm_rev (n : Nat) : ∀ (f : Nat → Int), Sm (n + 1) f = Sm (n + 1) (fun i => f (n - i)) := by
  induction n with
  | zero => intro f; rfl
  | succ n ih =>
    intro f
    rw [Sm_shift (n + 1) (fun i => f (n + 1 - i))]
    show Sm (n + 1) f + f (n + 1) = _
    rw [ih f]
    have : (Sm (n + 1) fun i => f (n - i)) = Sm (n + 1) fun i => f (n + 1 - (i + 1)) := Sm_congr fun i hi => by rw [show n + 1 - (i + 1) = n - i by omega]
    rw [this, Nat.sub_zero, Int.add_comm]
theorem conv_cv (a b : List Int) (hb : 0 < b.length) (s : Nat) : cv b.length (sq b) (sq a) s = convF a b s := by
  unfold cv convF
  have e1 : (Sm b.length fun i => sq b i * It Xs i (sq a) s) = Sm (max b.length (s + 1)) fun i => sq b i * It Xs i (sq a) s :=
    (Sm_ext (by omega) (fun i h1 _ => by rw [show sq b i = 0 from sq_below b i h1, Int.zero_mul])).symm
  have e2 : (Sm (s + 1) fun i => sq b i * It Xs i (sq a) s) = Sm (max b.length (s + 1)) fun i => sq b i * It Xs i (sq a) s :=
    (Sm_ext (by omega) (fun i h1 _ => by rw [ItX_sh, if_neg (by omega), Int.mul_zero])).symm
  rw [e1, ← e2, Sm_rev s]
  refine Sm_congr fun i hi => ?_
  rw [ItX_sh, if_pos (by omega), show s - (s - i) = i by omega, Int.mul_comm]
  rfl
theorem convF_below (a b : List Int) (hb : 0 < b.length) (s : Nat) (h : a.length + b.length - 1 ≤ s) : convF a b s = 0 := by
  unfold convF
  rw [show (Sm (s + 1) fun i => a.getD i 0 * b.getD (s - i) 0) = Sm (s + 1) fun _ => 0 from Sm_congr fun i hi => by
    by_cases q : i < a.length
    · rw [show b.getD (s - i) 0 = 0 by rw [List.getD, List.getElem?_eq_none (by omega)]; rfl, Int.mul_zero]
    · rw [show a.getD i 0 = 0 by rw [List.getD, List.getElem?_eq_none (by omega)]; rfl, Int.zero_mul]]
  exact Sm_zero _
theorem absSum_Sm (n : Nat) (f : Nat → Int) : ((absSum ((List.range n).map f) : Nat) : Int) = Sm n fun i => ((f i).natAbs : Int) := by
  induction n with
  | zero => rfl
  | succ n ih => rw [List.range_succ, List.map_append]; simp only [List.map_cons, List.map_nil]; rw [absSum_snoc]; simp only [Sm]; rw [← ih]; omega
theorem sq_abs (z : Int) : z * z = (z.natAbs : Int) * z.natAbs := by
  rw [← Int.natCast_mul, ← Int.natAbs_mul, Int.natAbs_of_nonneg (sqn z)]
/-- A sum of squares is at most the square of the sum. -/
theorem Sm_sq_le (n : Nat) (f : Nat → Int) (h : ∀ i, 0 ≤ f i) : (Sm n fun i => f i * f i) ≤ Sm n f * Sm n f := by
  induction n with
  | zero => simp [Sm]
  | succ n ih =>
    simp only [Sm]
    have h1 := Sm_nonneg (n := n) (f := f) fun i _ => h i
    have h2 := Int.mul_nonneg h1 (h n)
    have e : (Sm n f + f n) * (Sm n f + f n) = Sm n f * Sm n f + 2 * (Sm n f * f n) + f n * f n := by
      rw [Int.mul_add, Int.add_mul, Int.add_mul, Int.mul_comm (f n) (Sm n f)]; omega
    rw [e]; omega
theorem fac_mono {i n : Nat} (h : i ≤ n) : fac i ≤ fac n := by
  induction n with
  | zero => rw [show i = 0 by omega]; exact Nat.le_refl _
  | succ n ih =>
    by_cases e : i = n + 1
    · rw [e]; exact Nat.le_refl _
    · have := ih (by omega)
      simp only [fac]
      have h2 := Nat.le_mul_of_pos_left (fac n) (show 0 < n + 1 by omega)
      omega
theorem sq_le_of {x y : Nat} (h : x * x ≤ y * y) : x ≤ y := by
  rcases Nat.lt_or_ge y x with q | q
  · have := Nat.mul_lt_mul_of_lt_of_le q (Nat.le_of_lt q) (by omega)
    omega
  · exact q
/-- n!/m! is at most 4 ^ n, as far as we need it. -/
theorem fac_four : ∀ n m, n < 13 → m < 7 → m ≤ n → n ≤ m + 6 → fac n ≤ fac m * 4 ^ n := by
  have : (List.range 13).all (fun n => (List.range 7).all fun m => !(Nat.ble m n && Nat.ble n (m + 6)) || Nat.ble (fac n) (fac m * 4 ^ n)) = true := by decide
  intro n m h1 h2 h3 h4
  have h := List.all_eq_true.1 (List.all_eq_true.1 this n (List.mem_range.2 h1)) m (List.mem_range.2 h2)
  simp only [Bool.or_eq_true, Bool.not_eq_true', Bool.and_eq_false_iff] at h
  rcases h with (h | h) | h
  · rw [Nat.ble_eq_true_of_le h3] at h; cases h
  · rw [Nat.ble_eq_true_of_le h4] at h; cases h
  · exact Nat.le_of_ble_eq_true h
theorem bounds_plain (a b : List Int) (ha : 0 < a.length) (hb : 0 < b.length) (la : a.length ≤ 7) (lb : b.length ≤ 7) (hbl : b.getD (b.length - 1) 0 ≠ 0) (i : Nat) (hi : i < a.length) :
    (a[i].natAbs : Int) ≤ boundF (convZ a b) := by
  obtain ⟨m, hm⟩ : ∃ m, b.length = m + 1 := ⟨b.length - 1, by omega⟩
  obtain ⟨N, hN⟩ : ∃ N, a.length + b.length - 1 = N + 1 := ⟨a.length + b.length - 2, by omega⟩
  have hlen : (convZ a b).length = N + 1 := by simp [convZ, hN]
  have h1 := norm_cv (N + 1) m a.length (sq b) (sq a) (sq_below a) (by omega)
  rw [← hm] at h1
  have ecv : cv b.length (sq b) (sq a) = convF a b := funext fun s => conv_cv a b hb s
  rw [ecv] at h1
  -- the right side
  obtain ⟨S, hS⟩ : ∃ S, S = absSum (convZ a b) := ⟨_, rfl⟩
  have hSm : (S : Int) = Sm (N + 1) fun i => ((convF a b i).natAbs : Int) := by rw [hS, ← absSum_Sm]; simp only [convZ, hN]
  have h2 : ip (N + 1) (convF a b) (convF a b) ≤ (fac N : Int) * ((S : Int) * S) := by
    have q1 : ip (N + 1) (convF a b) (convF a b) ≤ Sm (N + 1) fun i => (fac N : Int) * (((convF a b i).natAbs : Int) * (convF a b i).natAbs) := by
      refine Sm_le fun i hi => ?_
      rw [sq_abs]
      exact Int.mul_le_mul_of_nonneg_right (by have := fac_mono (show i ≤ N by omega); omega) (Int.mul_nonneg (by omega) (by omega))
    rw [Sm_mul] at q1
    have q2 := Sm_sq_le (N + 1) (fun i => ((convF a b i).natAbs : Int)) (fun i => by omega)
    rw [← hSm] at q2
    exact Int.le_trans q1 (Int.mul_le_mul_of_nonneg_left q2 (by omega))
  -- the left side
  have h3 : (a[i].natAbs : Int) * a[i].natAbs ≤ ip (N + 1) (sq a) (sq a) := by
    have := Sm_one_le (n := N + 1) (f := fun i => (fac i : Int) * (sq a i * sq a i)) (fun i _ => Int.mul_nonneg (by omega) (sqn _)) (k := i) (by omega)
    refine Int.le_trans ?_ this
    show _ ≤ (fac i : Int) * (sq a i * sq a i)
    rw [show sq a i = a[i] by simp [sq, hi], sq_abs a[i]]
    have q := fac_pos i
    have := Int.mul_le_mul_of_nonneg_right (show (1 : Int) ≤ fac i by omega) (Int.mul_nonneg (Int.natCast_nonneg a[i].natAbs) (Int.natCast_nonneg a[i].natAbs))
    omega
  have h4 : (1 : Int) ≤ sq b m * sq b m := by
    have : sq b m ≠ 0 := by rw [hm] at hbl; exact hbl
    rw [sq_abs]
    have q : 1 ≤ (sq b m).natAbs := by omega
    have := Nat.mul_le_mul q q
    omega
  have hip := ip_nonneg (N + 1) (sq a)
  have h5 : (fac m : Int) * ip (N + 1) (sq a) (sq a) ≤ (fac m : Int) * (sq b m * sq b m) * ip (N + 1) (sq a) (sq a) := by
    refine Int.mul_le_mul_of_nonneg_right ?_ hip
    have := Int.mul_le_mul_of_nonneg_left h4 (Int.natCast_nonneg (fac m))
    omega
  have h6 : (fac m : Int) * ((a[i].natAbs : Int) * a[i].natAbs) ≤ (fac N : Int) * ((S : Int) * S) :=
    Int.le_trans (Int.mul_le_mul_of_nonneg_left h3 (by omega)) (Int.le_trans h5 (Int.le_trans h1 h2))
  have h7 := fac_four N m (by omega) (by omega) (by omega) (by omega)
  have h8 : fac m * (a[i].natAbs * a[i].natAbs) ≤ fac m * ((S * 2 ^ N) * (S * 2 ^ N)) := by
    have q1 : fac m * (a[i].natAbs * a[i].natAbs) ≤ fac N * (S * S) := by
      have := h6
      rw [← Int.natCast_mul, ← Int.natCast_mul, ← Int.natCast_mul, ← Int.natCast_mul] at this
      exact Int.ofNat_le.1 this
    have q2 := Nat.mul_le_mul_right (S * S) h7
    have e : fac m * 4 ^ N * (S * S) = fac m * ((S * 2 ^ N) * (S * 2 ^ N)) := by
      rw [show (4 : Nat) = 2 * 2 from rfl, Nat.mul_pow]
      simp only [Nat.mul_assoc, Nat.mul_left_comm, Nat.mul_comm]
    omega
  have h9 := sq_le_of (Nat.le_of_mul_le_mul_left h8 (fac_pos m))
  unfold boundF
  rw [← hS, hlen, show N + 1 - 1 = N by omega]
  have : ((S * 2 ^ N : Nat) : Int) = (S : Int) * 2 ^ N := by simp
  rw [← this]
  exact Int.ofNat_le.2 h9
end Go.Am

set_option linter.unusedVariables false
set_option linter.unusedSimpArgs false
namespace Go.Am
open Go Go.Proofs
set_option maxRecDepth 100000
set_option maxHeartbeats 4000000
def zero4 : List PV := [.val (.bool false), .sl [], .val (.bool false), .sl []]
theorem factor_big (l : List Rat) (h : 13 < l.length) : ACall Tryz.prog 75 [.sl (ql l)] [.p (.agg zero4), .p (.sl []), .p (nI 2)] := by
  refine acall_of_awp (hE []) Tryz.func75 rfl (by kernel_rfl) [] ?_
  conv => whnf
  rw [show (((ql l).length : Int) == 0) = false by simp only [ql_len, beq_eq_false_iff_ne]; omega]
  conv => whnf
  rw [decide_eq_true (show ((ql l).length : Int) > 13 by rw [ql_len]; omega)]
  conv => whnf
  refine ⟨.inl (by rfl), ?_⟩
  conv => whnf
  refine ⟨.inl (by rfl), ?_⟩
  conv => whnf
  exact ⟨.inl rfl, trivial⟩
theorem whole_big (l : List Rat) (h : 13 < l.length) : ACall Tryz.prog 18 [.sl (ql l)] [.p (.agg [.val (.bool false), .sl [], .val (.bool false), .sl [], .sl [], nI 2])] := by
  refine acall_of_awp (hE []) Tryz.func18 rfl (by kernel_rfl) [] ?_
  conv => whnf
  refine ⟨_, factor_big l h, ?_⟩
  conv => whnf
  exact ⟨.inl rfl, trivial⟩
theorem irreducible_big (l : List Rat) (h : 13 < l.length) : ACall Tryz.prog 22 [.sl (ql l)] [.p (.val (.bool false))] := by
  refine acall_of_awp (hE []) Tryz.func22 rfl (by kernel_rfl) [] ?_
  conv => whnf
  refine ⟨_, factor_big l h, ?_⟩
  conv => whnf
  exact ⟨.inl rfl, trivial⟩
abbrev cmpFun : Value := .func (.func 82) #[] #[]
theorem isort0 : ACall Tryz.prog 210 [.sl [], nI 0, nI 0, .val cmpFun] [] := by
  have e : IntKind.wrap .i64 (0 + 1) = 1 := by rw [wi64 (by omega) (by omega)]; rfl
  refine acall_of_awp (hE []) Tryz.func210 rfl (by kernel_rfl) [] ?_
  conv => whnf
  refine ⟨Unit, fun _ => True, fun _ => 0, fun _ => ⟨[.top, .top, iI 0, .top, .top, .top, .top, .top, iI 1, .top, .top, .top, .top, .top, .top, .top, .top, .top, .top, .top, .top, .top, .top, .top, .top, .top, .top, .top, .top, .top, .top, .top, .top, .top, .top, .top, .top, .top, .top, .top, .top, .top, .top, .top, .top, .top, .top, .top, .top, .top, .top, .top, .top], []⟩, [], (), ?_, ?_⟩
  · conv => whnf
    repeat ((first | refine ⟨.inl rfl, ?_⟩ | refine ⟨rfl, ?_⟩); conv => whnf)
    trivial
  · rintro _ _
    conv => whnf
    trivial
theorem pdq0 : ACall Tryz.prog 152 [.sl [], nI 0, nI 0, nI 0, .val cmpFun] [] := by
  refine acall_of_awp (hE []) Tryz.func152 rfl (by kernel_rfl) [] ?_
  conv => whnf
  refine ⟨Unit, fun _ => True, fun _ => 0, fun _ => ⟨[.p (.sl []), iI 0, iI 0, .top, .p (.val cmpFun), .top, .top, .top, .top, .top, .top, .top, .top, .top, .top, .top, .top, .top, .top, .top, .top, .top, .top, .top, .top, .top, .top, .top, .top, .top, .top, .top, .top, .top, .top, .top, .top, .top, .top, .top, .top, .top, .top, .top, .top, .top, .top, .top, .top, .top, .top, .top, .top, .top, .top, .top, .top, .top, .top, .top, .top, .top, .top, .top, .top, .top, .top, .top, .top, .top, .top, .top, .top, .top, .top, .top, .top, .top, .top, .top, .top, .top, .top, .top, .top, .top, .top, .top, .top, .top, .top, .top, .top, .top, .top, .top, .top, .top, .top, .top, .top, .top, .top, .top, .top, .top, .top, .top, .top, .top, .top, .top, .top, .top, .top, .top, .top, .top, .top, .top, .top, .top, .top, .top, .top, .top, .top, .top, .top, .top, .top, .top, .top, .top, .top, .top, .top, .top, .top, .top, .top, .top, .top, .top, .top, .top, .top, .top], []⟩, [], (), ?_, ?_⟩
  · conv => whnf
    repeat ((first | refine ⟨.inl rfl, ?_⟩ | refine ⟨rfl, ?_⟩); conv => whnf)
    trivial
  · rintro _ _
    conv => whnf
    refine ⟨_, isort0, ?_⟩
    conv => whnf
    trivial
theorem sort0 : ACall Tryz.prog 81 [.sl [], .val cmpFun] [] := by
  have cl := len_call 0 (by omega)
  rw [show bl 0 = 0 by decide] at cl
  refine acall_of_awp (hE []) Tryz.func81 rfl (by kernel_rfl) [] ?_
  conv => whnf
  refine ⟨_, cl, ?_⟩
  conv => whnf
  refine ⟨_, pdq0, ?_⟩
  conv => whnf
  trivial
theorem roots_big (l : List Rat) (h : 13 < l.length) : ACall Tryz.prog 24 [.sl (ql l)] [.p (.sl [])] := by
  refine acall_of_awp (hE []) Tryz.func24 rfl (by kernel_rfl) [] ?_
  conv => whnf
  refine ⟨_, factor_big l h, ?_⟩
  conv => whnf
  refine ⟨Unit, fun _ => True, fun _ => 0, fun _ => ⟨[.top, .top, .top, .top, .top, .top, .p (.val (.slice none 0 0)), .top, .top, .top, .top, .top, .top, .top, .top, .p (.sl []), iI 0, iI 0, .top, .top, .top, .top, .top, .top, .top, .top, .top, .top, .top, .top, .top, .top, .top, .top, .top, .top, .top], []⟩, [], (), ?_, ?_⟩
  · conv => whnf
    repeat ((first | refine ⟨.inl rfl, ?_⟩ | refine ⟨rfl, ?_⟩); conv => whnf)
    trivial
  · rintro _ _
    conv => whnf
    refine ⟨_, sort0, ?_⟩
    conv => whnf
    exact ⟨.inl rfl, trivial⟩
end Go.Am

set_option linter.unusedVariables false
set_option linter.unusedSimpArgs false
namespace Go.Am
open Go Go.Proofs
set_option maxRecDepth 100000
set_option maxHeartbeats 4000000
/-- The polynomial that the law makes of its argument. -/
def polyL (l : List Int) : List Rat := trimQ ((l.take 7).map cq)
theorem trimQ_spec : ∀ (n : Nat) (l : List Rat), l.length = n → (trimQ l).length ≤ l.length ∧ (∀ x ∈ trimQ l, x ∈ l) ∧ ∀ h : trimQ l ≠ [], (trimQ l).getLast h ≠ 0 := by
  intro n
  induction n with
  | zero => intro l h; rw [List.eq_nil_of_length_eq_zero h]; exact ⟨Nat.le_refl _, fun x hx => hx, fun h => absurd rfl h⟩
  | succ n ih =>
    intro l h
    rcases List.eq_nil_or_concat l with rfl | ⟨t, x, rfl⟩
    · simp at h
    · have ht : t.length = n := by simpa using h
      rw [List.concat_eq_append]
      by_cases h0 : x = 0
      · obtain ⟨h1, h2, h3⟩ := ih t ht
        rw [h0, trimQ_snoc0]
        exact ⟨by simp; omega, fun y hy => List.mem_append_left _ (h2 y hy), h3⟩
      · rw [trimQ_snoc _ _ h0]
        exact ⟨Nat.le_refl _, fun y hy => hy, fun h => by simpa using h0⟩
theorem SQ_le {K : Nat} : ∀ {l : List Rat}, (∀ x ∈ l, lq x ≤ K) → SQ l ≤ 1 + l.length * K := by
  intro l
  induction l with
  | nil => intro _; simp [SQ]
  | cons q r ih =>
    intro h
    have h1 := h q List.mem_cons_self
    have h2 := ih fun x hx => h x (List.mem_cons_of_mem _ hx)
    simp only [SQ, List.length_cons, Nat.add_mul, Nat.one_mul]; omega
theorem lq_third : lq ((3 : Rat)⁻¹) ≤ 2 := Nat.le_of_ble_eq_true (by kernel_rfl)
theorem lq_cq {z : Int} (h : -128 ≤ z ∧ z < 128) : lq (cq z) ≤ 4 := by
  have h1 : (Int.tmod z 7).natAbs < 4294967296 := by
    have := Int.natAbs_tmod z 7
    rw [this]
    have := Nat.mod_lt z.natAbs (show 0 < (7 : Int).natAbs by decide)
    have e : (7 : Int).natAbs = 7 := rfl
    omega
  have h2 := lq_int (Int.tmod z 7) h1
  unfold cq
  split
  · rw [Rat.div_def]
    have := lq_mul ((Int.tmod z 7 : Int) : Rat) (3 : Rat)⁻¹
    have := lq_third
    omega
  · omega
/-- What the law's polynomials are. -/
structure PolyOK (p : List Rat) : Prop where
  len : p.length ≤ 7
  sz : SQ p ≤ 29
  last : ∀ h : p ≠ [], p.getLast h ≠ 0
theorem polyOK {l : List Int} (hl : I8 l) (n : Nat) (hn : n ≤ 7) : PolyOK (trimQ ((l.take n).map cq)) := by
  obtain ⟨h1, h2, h3⟩ := trimQ_spec _ ((l.take n).map cq) rfl
  have hlen : ((l.take n).map cq).length ≤ 7 := by simp; omega
  refine ⟨by omega, ?_, h3⟩
  have := SQ_le (K := 4) (l := trimQ ((l.take n).map cq)) (fun x hx => by
    obtain ⟨z, hz, rfl⟩ := List.mem_map.1 (h2 x hx)
    exact lq_cq (hl z (List.mem_of_mem_take hz)))
  omega
theorem Bd.mono {l : List Int} {A B : Nat} (h : Bd l A) (hAB : A ≤ B) : Bd l B := fun x hx => Nat.le_trans (h x hx) hAB
theorem absSum_bd {l : List Int} {A : Nat} (h : Bd l A) : absSum l ≤ l.length * A := by
  induction l with
  | nil => simp [absSum]
  | cons x r ih =>
    have h1 := h x List.mem_cons_self
    have h2 := ih fun y hy => h y (List.mem_cons_of_mem _ hy)
    simp only [absSum, List.map_cons, List.sum_cons, List.length_cons, Nat.add_mul, Nat.one_mul] at h2 ⊢
    omega
theorem trimZ_self {l : List Int} (h : l.getD (l.length - 1) 0 ≠ 0) : trimZ l = l := by
  rcases List.eq_nil_or_concat l with rfl | ⟨t, x, rfl⟩
  · rfl
  · rw [List.concat_eq_append] at h ⊢
    simp at h
    exact trimZ_snoc _ _ h
theorem conv_last {a b : List Int} (la : 0 < a.length) (lb : 0 < b.length) : (convZ a b).getD ((convZ a b).length - 1) 0 = a.getD (a.length - 1) 0 * b.getD (b.length - 1) 0 := by
  have len : (convZ a b).length = a.length + b.length - 1 := by simp [convZ]
  rw [len]
  have hi : a.length + b.length - 1 - 1 < (convZ a b).length := by rw [len]; omega
  rw [show (convZ a b).getD (a.length + b.length - 1 - 1) 0 = convF a b (a.length + b.length - 1 - 1) by rw [List.getD, List.getElem?_eq_getElem hi]; simp [convZ]]
  unfold convF
  rw [Sm_single (k := a.length - 1) (by omega) ?_, show a.length + b.length - 1 - 1 - (a.length - 1) = b.length - 1 by omega]
  intro i h1 h2
  by_cases q : i < a.length
  · rw [show b.getD (a.length + b.length - 1 - 1 - i) 0 = 0 by rw [List.getD, List.getElem?_eq_none (by omega)]; rfl, Int.mul_zero]
  · rw [show a.getD i 0 = 0 by rw [List.getD, List.getElem?_eq_none (by omega)]; rfl, Int.zero_mul]
theorem convZ_bd' {a b : List Int} {A C : Nat} (ha : Bd a A) (hb : Bd b C) : Bd (convZ a b) ((a.length + b.length) * (A * C)) := by
  intro x hx
  obtain ⟨k, hk, rfl⟩ := List.mem_map.1 hx
  have hk := List.mem_range.1 hk
  refine Nat.le_trans (Sm_natAbs (B := A * C) fun i _ => ?_) (Nat.mul_le_mul_right _ (by omega))
  rw [Int.natAbs_mul]
  exact Nat.mul_le_mul (ha.getD i) (hb.getD (k - i))
theorem Bd.trimZ {l : List Int} {A : Nat} (h : Bd l A) : Bd (trimZ l) A := fun x hx => h x (by
  have : ∀ x ∈ (l.reverse.dropWhile (· == 0)), x ∈ l.reverse := fun x hx => (List.dropWhile_sublist _).subset hx
  have := this x (by simpa [Am.trimZ] using hx)
  simpa using this)
theorem trimZ_len (l : List Int) : (trimZ l).length ≤ l.length := by
  have := (List.dropWhile_sublist (fun x : Int => x == 0) (l := l.reverse)).length_le
  simpa [trimZ] using this
theorem bounds_walk (l m : List Int) (hl : I8 l) (hm : I8 m) (hs : ACall Tryz.prog 9 [] [.p (.val (.bool true))]) : ACall Tryz.prog 8 [.sl (bl8 l), .sl (bl8 m)] [.p (.val (.bool true))] := by
  have u1 := upoly_call l 6 hl (by omega)
  have u2 := upoly_call m 6 hm (by omega)
  obtain ⟨p, hp⟩ : ∃ p, p = trimQ ((l.take (6 + 1)).map cq) := ⟨_, rfl⟩
  obtain ⟨q, hq⟩ : ∃ q, q = trimQ ((m.take (6 + 1)).map cq) := ⟨_, rfl⟩
  rw [← hp] at u1
  rw [← hq] at u2
  have okp : PolyOK p := hp ▸ polyOK hl 7 (Nat.le_refl _)
  have okq : PolyOK q := hq ▸ polyOK hm 7 (Nat.le_refl _)
  have i1 : ACall Tryz.prog 26 [.sl (ql p)] [.p (.sl (zl (integralF p)))] := integral_call p (by have := okp.sz; omega) (by have := okp.len; omega) okp.last
  have i2 : ACall Tryz.prog 26 [.sl (ql q)] [.p (.sl (zl (integralF q)))] := integral_call q (by have := okq.sz; omega) (by have := okq.len; omega) okq.last
  obtain ⟨a, ha⟩ : ∃ a, a = integralF p := ⟨_, rfl⟩
  obtain ⟨b, hb⟩ : ∃ b, b = integralF q := ⟨_, rfl⟩
  rw [← ha] at i1
  rw [← hb] at i2
  have pw : ∀ {i j : Nat}, i ≤ j → 4294967296 ^ i ≤ 4294967296 ^ j := fun h => Nat.pow_le_pow_right (by omega) h
  have hab : Bd a (4294967296 ^ 60) := ha ▸ (integralF_bd p).mono (pw (by have := okp.sz; omega))
  have hbb : Bd b (4294967296 ^ 60) := hb ▸ (integralF_bd q).mono (pw (by have := okq.sz; omega))
  have hla : a.length ≤ 7 := by rw [ha, integralF_len]; exact okp.len
  have hlb : b.length ≤ 7 := by rw [hb, integralF_len]; exact okq.len
  have hal : a ≠ [] → a.getD (a.length - 1) 0 ≠ 0 := fun h => by
    have hp0 : p ≠ [] := fun e => h (by rw [ha, e]; rfl)
    have := integralF_last hp0 (okp.last hp0)
    rwa [← integralF_len p, ← ha] at this
  have hbl : b ≠ [] → b.getD (b.length - 1) 0 ≠ 0 := fun h => by
    have hq0 : q ≠ [] := fun e => h (by rw [hb, e]; rfl)
    have := integralF_last hq0 (okq.last hq0)
    rwa [← integralF_len q, ← hb] at this
  have hW : (4294967296 ^ 60 * 4294967296 ^ 60 : Nat) = 4294967296 ^ 120 := (Nat.pow_add 4294967296 60 60).symm
  have hW2 : (256 * 4294967296 ^ 120 : Nat) < 4294967296 ^ 121 := by
    rw [Nat.pow_succ 4294967296 120, Nat.mul_comm (4294967296 ^ 120)]
    exact Nat.mul_lt_mul_of_pos_right (by omega) (Nat.pow_pos (by omega))
  have hcv : Bd (convZ a b) (14 * 4294967296 ^ 120) := by
    have := convZ_bd' hab hbb
    rw [hW] at this
    exact this.mono (Nat.mul_le_mul_right _ (by omega))
  have pwl : ∀ {i j : Nat}, i < j → 4294967296 ^ i < 4294967296 ^ j := fun h => Nat.pow_lt_pow_right (by omega) h
  have cm : ACall Tryz.prog 43 [.sl (zl a), .sl (zl b)] [.p (.sl (zl (trimZ (convZ a b))))] :=
    imulr_call a b _ _ 121 hab hbb (pwl (by omega)) (pwl (by omega)) (by rw [hW]; exact Nat.lt_of_le_of_lt (Nat.mul_le_mul_right _ (by omega)) hW2) (by omega) (by omega)
  obtain ⟨c, hc⟩ : ∃ c, c = trimZ (convZ a b) := ⟨_, rfl⟩
  rw [← hc] at cm
  have hclen : c.length ≤ 13 := by rw [hc]; have := trimZ_len (convZ a b); have : (convZ a b).length = a.length + b.length - 1 := by simp [convZ]
                                   omega
  have hcs : absSum c < 4294967296 ^ 121 := by
    have h1 := absSum_bd (hc ▸ hcv.trimZ : Bd c _)
    refine Nat.lt_of_le_of_lt h1 (Nat.lt_of_le_of_lt ?_ hW2)
    rw [← Nat.mul_assoc]
    exact Nat.mul_le_mul_right _ (by omega)
  have cb : ACall Tryz.prog 33 [.sl (zl c)] [.p (.agg (intC (boundF c)))] := bound_call c 121 hcs (by omega) (by omega)
  have cb0 := bound_call [] 1 (by decide) (by omega) (by simp)
  obtain ⟨B, hB⟩ : ∃ B, B = boundF c := ⟨_, rfl⟩
  rw [← hB] at cb
  refine acall_of_awp (hE []) Tryz.func8 rfl (by kernel_rfl) [] ?_
  conv => whnf
  refine ⟨_, hs, ?_⟩
  conv => whnf
  refine ⟨_, u1, ?_⟩
  conv => whnf
  refine ⟨_, i1, ?_⟩
  conv => whnf
  refine ⟨_, u2, ?_⟩
  conv => whnf
  refine ⟨_, i2, ?_⟩
  conv => whnf
  refine ⟨_, cm, ?_⟩
  conv => whnf
  refine ⟨_, cb, ?_⟩
  conv => whnf
  have zlen : ∀ (x : List Int), x ≠ [] → ((((zl x).length : Nat) : Int) == 0) = false := fun x hx => by
    rw [zl_len, beq_eq_false_iff_ne]
    have := List.length_pos_iff.2 hx
    omega
  by_cases ha0 : a = []
  · rw [show ((((zl a).length : Nat) : Int) == 0) = true by rw [ha0]; rfl]
    conv => whnf
    refine ⟨_, cb0, ?_⟩
    conv => whnf
    refine ⟨_, sign_call (boundF []), ?_⟩
    conv => whnf
    exact ⟨.inl rfl, trivial⟩
  · rw [show ((((zl a).length : Nat) : Int) == 0) = false from zlen a ha0]
    conv => whnf
    by_cases hb0 : b = []
    · rw [show ((((zl b).length : Nat) : Int) == 0) = true by rw [hb0]; rfl]
      conv => whnf
      refine ⟨_, cb0, ?_⟩
      conv => whnf
      refine ⟨_, sign_call (boundF []), ?_⟩
      conv => whnf
      exact ⟨.inl rfl, trivial⟩
    · rw [show ((((zl b).length : Nat) : Int) == 0) = false from zlen b hb0]
      conv => whnf
      have hbd : ∀ (i : Nat) (hi : i < a.length), (a[i].natAbs : Int) ≤ B := fun i hi => by
        have la := List.length_pos_iff.2 ha0
        have lb := List.length_pos_iff.2 hb0
        have hcc : c = convZ a b := by
          rw [hc]
          refine trimZ_self ?_
          rw [conv_last la lb]
          exact Int.mul_ne_zero (hal ha0) (hbl hb0)
        rw [hB, hcc]
        exact bounds_plain a b la lb hla hlb (hbl hb0) i hi
      have hlnB : ln B < 1099511620000 := by
        have h1 : ln B ≤ 122 := ln_le (by
          rw [hB, boundF, Int.natAbs_mul]
          have e : ((2 : Int) ^ (c.length - 1)).natAbs = 2 ^ (c.length - 1) := by rw [Int.natAbs_pow]; rfl
          rw [e, Int.natAbs_natCast, Nat.pow_succ 4294967296 121]
          have h2 : 2 ^ (c.length - 1) ≤ 2 ^ 12 := Nat.pow_le_pow_right (by omega) (by omega)
          exact Nat.mul_lt_mul_of_lt_of_le hcs (Nat.le_trans h2 (by decide)) (by omega))
        omega
      have hlna : ∀ x ∈ a, ln x < 1099511620000 := fun x hx => by
        have : ln x ≤ 61 := ln_le (Nat.lt_of_le_of_lt (hab x hx) (pwl (by omega)))
        omega
      refine ⟨Nat, fun i => i ≤ a.length, fun i => a.length - i, fun i => ⟨[.top, .top, .top, .top, .top, .p (.val (.bool true)), .p (.sl (zl a)), .top, .top, .ptr 0 0 0, iI i, .top, .top, .top, .top, .top, .top, .top, .top, .top, .top, .top, .top, .top, .top, .top, .top, .top, .top, .top, .top, .top, .top, .top, .top, .top, .top, .top, .top, .top, .top, .top, .top, .top, .top, .top, .top, .top, .top, .top, .top, .top, .top, .top, .top, .top, .top, .top, .top, .top, .top, .top, .top, .top, .top, .top, .top, .top, .top, .top, .top, .top, .top, .top, .top, .top, .top, .top, .top, .top, .top, .top, .top, .top, .top, .top, .top, .top, .top, .top, .top, .top, .top, .top, .top, .top], [iBox B]⟩, [], 0, ?_, ?_⟩
      · conv => whnf
        repeat ((first | refine ⟨.inl rfl, ?_⟩ | refine ⟨rfl, ?_⟩); conv => whnf)
        exact Nat.zero_le _
      · rintro i hi'
        refine atS (s' := ⟨[.top, .top, .top, .top, .top, .p (.val (.bool true)), .p (.sl (zl a)), .top, .top, .ptr 0 0 0, iI i, .top, .top, .top, .top, .top, .top, .top, .top, .top, .top, .top, .top, .top, .top, .top, .top, .top, .top, .top, .top, .top, .top, .top, .top, .top, .top, .top, .top, .top, .top, .top, .top, .top, .top, .top, .top, .top, .top, .top, .top, .top, .top, .top, .top, .top, .top, .top, .top, .top, .top, .top, .top, .top, .top, .top, .top, .top, .top, .top, .top, .top, .top, .top, .top, .top, .top, .top, .top, .top, .top, .top, .top, .top, .top, .top, .top, .top, .top, .top, .top, .top, .top, .top, .top, .top], [iBox B]⟩) rfl ?_
        conv => whnf
        by_cases hi : i < a.length
        · rw [decide_eq_true (show (i : Int) < ((zl a).length : Nat) by rw [zl_len]; omega)]
          have hg := zl_get hi
          have hb1 := hbd i hi
          have hl1 := hlna _ (List.getElem_mem hi)
          obtain ⟨x, hx⟩ : ∃ x, x = a[i] := ⟨_, rfl⟩
          rw [← hx] at hg hb1 hl1
          have e1 : IntKind.wrap .i64 ((i : Int) + 1) = ((i + 1 : Nat) : Int) := by rw [wi64 (by omega) (by omega)]; omega
          conv => whnf
          refine obind_of (hg) ?_
          conv => whnf
          refine ⟨_, sign_call x, ?_⟩
          conv => whnf
          by_cases hx0 : x < 0
          · rw [decide_eq_true (show sgn x < 0 by simp [sgn, hx0])]
            have cn := neg_call x (by omega)
            have cc := cmp_call (-x) B (by rw [ln_neg]; omega) (by omega)
            obtain ⟨y, hy⟩ : ∃ y, y = -x := ⟨_, rfl⟩
            rw [← hy] at cn cc
            conv => whnf
            refine ⟨_, cn, ?_⟩
            conv => whnf
            refine ⟨_, cc, ?_⟩
            conv => whnf
            rw [decide_eq_false (show ¬ cmpZ y B > 0 by simp only [cmpZ]; split <;> (try split) <;> omega)]
            conv => whnf
            refine ⟨i + 1, ?_⟩
            conv => whnf
            repeat ((first | refine ⟨.inl rfl, ?_⟩ | refine ⟨rfl, ?_⟩); conv => whnf)
            refine ⟨.inl (vi (by rw [e1])), ?_⟩
            conv => whnf
            repeat ((first | refine ⟨.inl rfl, ?_⟩ | refine ⟨rfl, ?_⟩); conv => whnf)
            exact ⟨hi, by simp only; omega⟩
          · rw [decide_eq_false (show ¬ sgn x < 0 by simp only [sgn]; rw [if_neg hx0]; split <;> omega)]
            have cc := cmp_call x B (by omega) (by omega)
            conv => whnf
            refine ⟨_, cc, ?_⟩
            conv => whnf
            rw [decide_eq_false (show ¬ cmpZ x B > 0 by simp only [cmpZ]; split <;> (try split) <;> omega)]
            conv => whnf
            refine ⟨i + 1, ?_⟩
            conv => whnf
            repeat ((first | refine ⟨.inl rfl, ?_⟩ | refine ⟨rfl, ?_⟩); conv => whnf)
            refine ⟨.inl (vi (by rw [e1])), ?_⟩
            conv => whnf
            repeat ((first | refine ⟨.inl rfl, ?_⟩ | refine ⟨rfl, ?_⟩); conv => whnf)
            exact ⟨hi, by simp only; omega⟩
        · rw [decide_eq_false (show ¬ (i : Int) < ((zl a).length : Nat) by rw [zl_len]; omega)]
          conv => whnf
          refine ⟨Nat, fun k => k ≤ 14, fun k => 14 - k, fun k => ⟨[.top, .top, .top, .top, .top, .p (.val (.bool true)), .top, .top, .top, .top, .top, .top, .own 0 4 k, iI k, .top, .top, .top, .top, .top, .top, .top, .top, .top, .top, .top, .top, .top, .top, .top, .top, .top, .top, .top, .top, .top, .top, .top, .top, .top, .top, .top, .top, .top, .top, .top, .top, .top, .top, .top, .top, .top, .top, .top, .top, .top, .top, .top, .top, .top, .top, .top, .top, .top, .top, .top, .top, .top, .top, .top, .top, .top, .top, .top, .top, .top, .top, .top, .top, .top, .top, .top, .top, .top, .top, .top, .top, .top, .top, .top, .top, .top, .top, .top, .top, .top, .top], [some (.row 4 (ql (List.replicate k 1)) true)]⟩, [], 0, ?_, ?_⟩
          · conv => whnf
            repeat ((first | refine ⟨.inl rfl, ?_⟩ | refine ⟨rfl, ?_⟩); conv => whnf)
            exact Nat.zero_le _
          · rintro k hk'
            refine atS (s' := ⟨[.top, .top, .top, .top, .top, .p (.val (.bool true)), .top, .top, .top, .top, .top, .top, .own 0 4 k, iI k, .top, .top, .top, .top, .top, .top, .top, .top, .top, .top, .top, .top, .top, .top, .top, .top, .top, .top, .top, .top, .top, .top, .top, .top, .top, .top, .top, .top, .top, .top, .top, .top, .top, .top, .top, .top, .top, .top, .top, .top, .top, .top, .top, .top, .top, .top, .top, .top, .top, .top, .top, .top, .top, .top, .top, .top, .top, .top, .top, .top, .top, .top, .top, .top, .top, .top, .top, .top, .top, .top, .top, .top, .top, .top, .top, .top, .top, .top, .top, .top, .top, .top], [some (.row 4 (ql (List.replicate k 1)) true)]⟩) rfl ?_
            conv => whnf
            by_cases hk : k < 14
            · rw [decide_eq_true (show (k : Int) < 14 by omega)]
              have cw := whole_call 1 (by omega) (by omega)
              conv => whnf
              refine ⟨_, cw, ?_⟩
              conv => whnf
              refine chk_of (by rw [ql_len, List.length_replicate]; simp only [List.length_singleton]; omega) ?_
              conv => whnf
              refine ⟨k + 1, ?_⟩
              conv => whnf
              repeat ((first | refine ⟨.inl rfl, ?_⟩ | refine ⟨rfl, ?_⟩); conv => whnf)
              refine ⟨by rw [ql_len, List.length_replicate]; rfl, ?_⟩
              conv => whnf
              repeat ((first | refine ⟨.inl rfl, ?_⟩ | refine ⟨rfl, ?_⟩); conv => whnf)
              refine ⟨.inl (vi (by rw [wi64 (by omega) (by omega)]; rfl)), ?_⟩
              conv => whnf
              repeat ((first | refine ⟨.inl rfl, ?_⟩ | refine ⟨rfl, ?_⟩); conv => whnf)
              refine ⟨.inl (by rw [List.replicate_succ', ← ql_app]; rfl), ?_⟩
              conv => whnf
              exact ⟨by omega, by simp only; omega⟩
            · rw [decide_eq_false (show ¬ (k : Int) < 14 by omega)]
              obtain rfl : k = 14 := by omega
              have wb := whole_big (List.replicate 14 1) (by simp)
              have ib := irreducible_big (List.replicate 14 1) (by simp)
              have rb := roots_big (List.replicate 14 1) (by simp)
              conv => whnf
              refine ⟨_, wb, ?_⟩
              conv => whnf
              refine ⟨_, ib, ?_⟩
              conv => whnf
              refine ⟨_, rb, ?_⟩
              conv => whnf
              exact ⟨.inl rfl, trivial⟩
end Go.Am

set_option linter.unusedVariables false
set_option maxRecDepth 100000
namespace Go.Am
open Go Go.Proofs
/-- The bits that are set, of the first twelve. -/
def pop (m : Nat) : Nat := (List.range 12).countP (fun i => m / 2 ^ i % 2 == 1)
theorem all_range (f g : Nat → Int) (h : (List.range 4096).all (fun m => Int.beq' (f m) (g m)) = true) : ∀ m, m < 4096 → f m = g m := fun m hm => by
  have := List.all_eq_true.1 h m (List.mem_range.2 hm)
  exact Int.beq'_eq _ _ ▸ this
theorem ones64_call (m : Nat) (h : m < 4096) : ACall Tryz.prog 304 [.val (.int .u64 (m : Int))] [.p (.val (.int .i64 (pop m : Nat)))] := by
  refine acall_of_awp (hE []) Tryz.func304 rfl (by kernel_rfl) [] ?_
  conv => whnf
  refine ⟨.inl ?_, trivial⟩
  refine congrArg (fun z => PV.val (.int .i64 z)) ?_
  revert h
  revert m
  refine all_range _ _ ?_
  kernel_rfl
theorem ones_call (m : Nat) (h : m < 4096) : ACall Tryz.prog 295 [.val (.int .u64 (m : Int))] [.p (.val (.int .i64 (pop m : Nat)))] := by
  refine acall_of_awp (hE []) Tryz.func295 rfl (by kernel_rfl) [] ?_
  conv => whnf
  refine ⟨_, ones64_call m h, ?_⟩
  conv => whnf
  exact ⟨.inl rfl, trivial⟩
end Go.Am

set_option linter.unusedVariables false
set_option maxRecDepth 100000
set_option maxHeartbeats 2000000
namespace Go.Am
noncomputable section
open Go Go.Proofs
/-- The operations of the region of this number. -/
def opsOf (n : Nat) (c : Code) : List (Array Oper) :=
  Code.rec (motive := fun _ => List (Array Oper)) [] (fun id ops _ => match Nat.beq id n with
    | true => [ops]
    | false => []) (fun _ _ x y => x ++ y) (fun _ _ _ x y => x ++ y) (fun _ _ x => x) (fun _ x => x) (fun _ _ _ _ x y => x ++ y) (fun _ => []) (fun _ _ => []) (fun _ => []) (fun _ => []) [] (fun _ => []) c
def ops3 : Array Oper := ((opsOf 3 (Tryz.f294.body.getD .skip)).head?).getD #[]
section
variable {F : Fence} {n : Nat} {P : Program} {ops : Array Oper} {Q : Exit → Act → World → Prop} {i : Nat} {o : Oper} {a : Act} {w : World} {K : Act → World → Prop}
theorem opRun (hW : Wide F) (hro : F.round = none) (ho : ops[i]? = some o) (hw : Region.wanted o (yielded ops a.tmps) = true) (h : o.uponIn F n P a K Q ((execOp a.eval o).run P w)) : wpOpIn F n P ops Q i K a w := by
  unfold wpOpIn
  rw [ho]
  simp only
  rw [if_pos hw]
  refine ⟨fun f _ => hW.fn f, ?_⟩
  rw [hro, Oper.semAt_none]
  exact h
theorem opRun' (hW : Wide F) (hro : F.round = none) (ho : ops[i]? = some o) (hw : Region.wanted o (yielded ops a.tmps) = true) {r : Result Next} (hr : (execOp a.eval o).run P w = r) (h : o.uponIn F n P a K Q r) : wpOpIn F n P ops Q i K a w :=
  opRun hW hro ho hw (by rw [hr]; exact h)
theorem opVal (hW : Wide F) (hro : F.round = none) (ho : ops[i]? = some o) (hw : Region.wanted o (yielded ops a.tmps) = true) {v : Value} (hv : (execOp a.eval o).run P w = .ok (.value v) w) (h : K (a.put o.dst v) w) : wpOpIn F n P ops Q i K a w := by
  refine opRun hW hro ho hw ?_
  rw [hv]
  exact h
theorem opSkip (hW : Wide F) (ho : ops[i]? = some o) (hw : Region.wanted o (yielded ops a.tmps) = false) (h : K (a.put o.dst undef) w) : wpOpIn F n P ops Q i K a w := by
  unfold wpOpIn
  rw [ho]
  simp only
  rw [if_neg (by rw [hw]; simp)]
  exact ⟨fun f _ => hW.fn f, h⟩
end
theorem ops3_ready0 : Region.ready .any ops3 #[false, false, false, false, false, false, false, false, false, false] = [0, 2] := by kernel_rfl
theorem ops3_ready1 : Region.ready .any ops3 #[true, false, false, false, false, false, false, false, false, false] = [1, 2] := by kernel_rfl
theorem ops3_ready2 : Region.ready .any ops3 #[true, true, false, false, false, false, false, false, false, false] = [2] := by kernel_rfl
theorem ops3_ready3 : Region.ready .any ops3 #[true, false, true, false, false, false, false, false, false, false] = [1] := by kernel_rfl
theorem ops3_ready4 : Region.ready .any ops3 #[false, false, true, false, false, false, false, false, false, false] = [0] := by kernel_rfl
theorem ops3_ready5 : Region.ready .any ops3 #[true, true, true, false, false, false, false, false, false, false] = [3] := by kernel_rfl
theorem ops3_ready6 : Region.ready .any ops3 #[true, true, true, true, false, false, false, false, false, false] = [4] := by kernel_rfl
theorem ops3_ready7 : Region.ready .any ops3 #[true, true, true, true, true, false, false, false, false, false] = [5, 6] := by kernel_rfl
theorem ops3_ready8 : Region.ready .any ops3 #[true, true, true, true, true, true, false, false, false, false] = [6] := by kernel_rfl
theorem ops3_ready9 : Region.ready .any ops3 #[true, true, true, true, true, false, true, false, false, false] = [5] := by kernel_rfl
theorem ops3_ready10 : Region.ready .any ops3 #[true, true, true, true, true, true, true, false, false, false] = [7] := by kernel_rfl
theorem ops3_ready11 : Region.ready .any ops3 #[true, true, true, true, true, true, true, true, false, false] = [8] := by kernel_rfl
theorem ops3_ready12 : Region.ready .any ops3 #[true, true, true, true, true, true, true, true, true, false] = [9] := by kernel_rfl
theorem ops3_ready13 : Region.ready .any ops3 #[true, true, true, true, true, true, true, true, true, true] = [] := by kernel_rfl
/-- One operation is ready. -/
theorem any_one {F : Fence} {n : Nat} {P : Program} {ops : Array Oper} {Q : Exit → Act → World → Prop} {i fuel : Nat} {listed : Array Bool} {a : Act} {w : World} (hr : Region.ready .any ops listed = [i])
    (h : wpOpIn F n P ops Q i (wpAnyIn F n P .any ops Q fuel (listed.setIfInBounds i true)) a w) : wpAnyIn F n P .any ops Q (fuel + 1) listed a w :=
  wpAnyIn_all hr (by simp) (fun j hj => by rw [List.mem_singleton.1 hj]; exact h)
theorem any_two {F : Fence} {n : Nat} {P : Program} {ops : Array Oper} {Q : Exit → Act → World → Prop} {i j fuel : Nat} {listed : Array Bool} {a : Act} {w : World} (hr : Region.ready .any ops listed = [i, j])
    (h : wpOpIn F n P ops Q i (wpAnyIn F n P .any ops Q fuel (listed.setIfInBounds i true)) a w) (h' : wpOpIn F n P ops Q j (wpAnyIn F n P .any ops Q fuel (listed.setIfInBounds j true)) a w) : wpAnyIn F n P .any ops Q (fuel + 1) listed a w :=
  wpAnyIn_all hr (by simp) (fun k hk => by
    rcases List.mem_cons.1 hk with rfl | hk
    · exact h
    · rw [List.mem_singleton.1 hk]; exact h')
end
end Go.Am

set_option linter.unusedVariables false
set_option maxRecDepth 100000
set_option maxHeartbeats 2000000
namespace Go.Am
noncomputable section
open Go Go.Proofs
theorem ones_in {F : Fence} (hW : Wide F) (m k : Nat) (hk : k < 4096) (w : World) : CallsIn F m Tryz.prog 295 #[.int .u64 (k : Int)] w fun e w' => e = .returned (.int .i64 (pop k : Nat)) ∧ RowKit.Below w.heap.size w w' := by
  refine hW.calls ?_
  have := (ones_call k hk).run (fun _ => False) w [.int .u64 (k : Int)] 0 (fun _ h => h.elim) rfl (fun i x y h1 h2 => by
    cases i with
    | zero => simp at h1 h2; subst h1; subst h2; exact .val _
    | succ i => simp at h1)
  refine this.mono ?_
  rintro e w' ⟨v, β', F', rfl, h1, h2, h3, h4, h5⟩
  exact ⟨congrArg _ (repVal h4), h1⟩
def tm3 (l : Nat) (A B : Addr) (k : Nat) (c5 c6 c7 c8 c9 v10 v11 v12 v13 v14 v15 v16 v17 v18 v19 v20 : Value) : Act :=
  { tmps := #[.func (.yield l) #[] #[], .pointer (some A), .pointer (some B), undef, .int .u64 (k : Int), c5, c6, c7, c8, c9, v10, v11, v12, v13, v14, v15, v16, v17, v18, v19, v20], defers := [] }
theorem region3 {F : Fence} (hW : Wide F) (hro : F.round = none) (n : Nat) (l : Nat) (A : Addr) (Bb Bo : Nat) (k s : Nat) (hk : k < 4096) (c5 c6 c7 c8 c9 v10 v11 v12 v13 v14 v15 v16 v17 v18 v19 v20 : Value) (J J1 J2 : World → Prop) {Q : Exit → Act → World → Prop}
    (hB : ∀ w, J w → w.cell? ⟨Bb, Bo, none⟩ = some (.int .i64 (s : Int))) (hJ : ∀ w w', J w → RowKit.Below w.heap.size w w' → J w')
    (hY : ∀ w, J w → pop k = s → YieldAt F (n - 1) Tryz.prog l #[.int .u64 (k : Int)] w fun e W' => (e = .returned (.bool true) ∧ J1 W') ∨ (e = .returned (.bool false) ∧ J2 W'))
    (hQ0 : ∀ u10 u11 u12 u13 u14 u15 u16 u17 u18 w, pop k ≠ s → J w → Q .normal (tm3 l A ⟨Bb, Bo, none⟩ k c5 c6 c7 c8 c9 u10 u11 u12 u13 u14 u15 u16 u17 u18 (.bool false) v20) w)
    (hQ1 : ∀ u10 u11 u12 u13 u14 u15 u16 u17 u18 w, pop k = s → J1 w → Q .normal (tm3 l A ⟨Bb, Bo, none⟩ k c5 c6 c7 c8 c9 u10 u11 u12 u13 u14 u15 u16 u17 u18 (.bool false) v20) w)
    (hQ2 : ∀ u10 u11 u12 u13 u14 u15 u16 u17 u18 w, pop k = s → J2 w → Q .normal (tm3 l A ⟨Bb, Bo, none⟩ k c5 c6 c7 c8 c9 u10 u11 u12 u13 u14 u15 u16 u17 u18 (.bool true) v20) w)
    (w : World) (hw : J w) : wpAnyIn F n Tryz.prog .any ops3 Q 10 #[false, false, false, false, false, false, false, false, false, false] (tm3 l A ⟨Bb, Bo, none⟩ k c5 c6 c7 c8 c9 v10 v11 v12 v13 v14 v15 v16 v17 v18 v19 v20) w := by
  have hno : ∀ {m : Nat}, F.depth.isSome = true → 1 ≤ m := fun q => by rw [hW.depth] at q; cases q
  -- behind the comparison
  have tail : ∀ w, J w → wpAnyIn F n Tryz.prog .any ops3 Q 7 #[true, true, true, false, false, false, false, false, false, false] (tm3 l A ⟨Bb, Bo, none⟩ k c5 c6 c7 c8 c9 (.int .u64 (k : Int)) (.int .i64 (pop k : Nat)) (.int .i64 (s : Int)) v13 v14 v15 v16 v17 v18 v19 v20) w := by
    intro w hw
    refine any_one ops3_ready5 (opVal hW hro rfl rfl (v := .bool ((pop k : Int) == (s : Int))) rfl ?_)
    refine any_one ops3_ready6 (opVal hW hro rfl rfl (v := .bool ((pop k : Int) == (s : Int))) rfl ?_)
    by_cases h : pop k = s
    · rw [show ((pop k : Int) == (s : Int)) = true by simp [h]]
      have t2 : ∀ w, J w → wpAnyIn F n Tryz.prog .any ops3 Q 3 #[true, true, true, true, true, true, true, false, false, false] (tm3 l A ⟨Bb, Bo, none⟩ k c5 c6 c7 c8 c9 (.int .u64 (k : Int)) (.int .i64 (pop k : Nat)) (.int .i64 (s : Int)) (.bool true) (.bool true) (.func (.yield l) #[] #[]) (.int .u64 (k : Int)) v17 v18 v19 v20) w := by
        intro w hw
        obtain ⟨fn, tmps, assign, body, hy, hR⟩ := hY w hw h
        refine any_one ops3_ready10 (opRun' hW hro rfl rfl (Eq.trans (by kernel_rfl) hy) ?_)
        refine ⟨hno, hR.mono ?_⟩
        rintro e W3 (⟨rfl, hJ3⟩ | ⟨rfl, hJ3⟩)
        · refine any_one ops3_ready11 (opVal hW hro rfl rfl (v := .bool false) rfl ?_)
          refine any_one ops3_ready12 (opVal hW hro rfl rfl (v := .bool false) rfl ?_)
          exact wpAnyIn_done ops3_ready13 (hQ1 _ _ _ _ _ _ _ _ _ W3 h hJ3) 0
        · refine any_one ops3_ready11 (opVal hW hro rfl rfl (v := .bool true) rfl ?_)
          refine any_one ops3_ready12 (opVal hW hro rfl rfl (v := .bool true) rfl ?_)
          exact wpAnyIn_done ops3_ready13 (hQ2 _ _ _ _ _ _ _ _ _ W3 h hJ3) 0
      refine any_two ops3_ready7 (opVal hW hro rfl rfl (v := .func (.yield l) #[] #[]) rfl ?_) (opVal hW hro rfl rfl (v := .int .u64 (k : Int)) rfl ?_)
      · exact any_one ops3_ready8 (opVal hW hro rfl rfl (v := .int .u64 (k : Int)) rfl (t2 w hw))
      · exact any_one ops3_ready9 (opVal hW hro rfl rfl (v := .func (.yield l) #[] #[]) rfl (t2 w hw))
    · rw [show ((pop k : Int) == (s : Int)) = false by simp; omega]
      have t2 : wpAnyIn F n Tryz.prog .any ops3 Q 3 #[true, true, true, true, true, true, true, false, false, false] (tm3 l A ⟨Bb, Bo, none⟩ k c5 c6 c7 c8 c9 (.int .u64 (k : Int)) (.int .i64 (pop k : Nat)) (.int .i64 (s : Int)) (.bool false) (.bool false) undef undef v17 v18 v19 v20) w := by
        refine any_one ops3_ready10 (opSkip hW rfl rfl ?_)
        refine any_one ops3_ready11 (opSkip hW rfl rfl ?_)
        refine any_one ops3_ready12 (opVal hW hro rfl rfl (v := .bool false) rfl ?_)
        exact wpAnyIn_done ops3_ready13 (hQ0 _ _ _ _ _ _ _ _ _ w h hw) 0
      refine any_two ops3_ready7 (opSkip hW rfl rfl ?_) (opSkip hW rfl rfl ?_)
      · exact any_one ops3_ready8 (opSkip hW rfl rfl t2)
      · exact any_one ops3_ready9 (opSkip hW rfl rfl t2)
  have load : ∀ (v10 v11 : Value) w, J w → (execOp (tm3 l A ⟨Bb, Bo, none⟩ k c5 c6 c7 c8 c9 v10 v11 v12 v13 v14 v15 v16 v17 v18 v19 v20).eval (ops3[2]?.getD default)).run Tryz.prog w = .ok (.value (.int .i64 (s : Int))) w := by
    intro v10 v11 w hw
    have h1 := (run_load (P := Tryz.prog) hT (t := 3) (by rfl) w Bb Bo [.int .i64 (s : Int)] (fun j u hj => by
      cases j with
      | zero => simp at hj; subst hj; exact hB w hw
      | succ j => simp at hj) (by rfl)).2 (by rfl) _ rfl
    have e : execOp (tm3 l A ⟨Bb, Bo, none⟩ k c5 c6 c7 c8 c9 v10 v11 v12 v13 v14 v15 v16 v17 v18 v19 v20).eval (ops3[2]?.getD default) = (do return .value (← Instr.loadAt 3 (.pointer (some ⟨Bb, Bo, none⟩)))) := rfl
    rw [e]
    simp only [Sem.run_bind, h1, Result.andThen_ok, Sem.run_pure]
  have call : ∀ (v12 : Value) w, J w → wpOpIn F n Tryz.prog ops3 Q 1 (fun a w' => a = tm3 l A ⟨Bb, Bo, none⟩ k c5 c6 c7 c8 c9 (.int .u64 (k : Int)) (.int .i64 (pop k : Nat)) v12 v13 v14 v15 v16 v17 v18 v19 v20 ∧ J w') (tm3 l A ⟨Bb, Bo, none⟩ k c5 c6 c7 c8 c9 (.int .u64 (k : Int)) v11 v12 v13 v14 v15 v16 v17 v18 v19 v20) w := by
    intro v12 w hw
    refine opRun' hW hro rfl rfl (r := .ok (.enter 295 #[.int .u64 (k : Int)]) w) (by kernel_rfl) ?_
    refine ⟨hno, (ones_in hW _ k hk w).mono ?_⟩
    rintro e w' ⟨rfl, hb⟩
    exact ⟨rfl, hJ w w' hw hb⟩
  refine any_two ops3_ready0 (opVal hW hro rfl rfl (v := .int .u64 (k : Int)) rfl ?_) (opVal hW hro rfl rfl (load _ _ w hw) ?_)
  · refine any_two ops3_ready1 (wpOpIn_mono ?_ (call v12 w hw)) (opVal hW hro rfl rfl (load _ _ w hw) ?_)
    · rintro a w' ⟨rfl, hw'⟩
      exact any_one ops3_ready2 (opVal hW hro rfl rfl (load _ _ w' hw') (tail w' hw'))
    · refine any_one ops3_ready3 (wpOpIn_mono ?_ (call _ w hw))
      rintro a w' ⟨rfl, hw'⟩
      exact tail w' hw'
  · refine any_one ops3_ready4 (opVal hW hro rfl rfl (v := .int .u64 (k : Int)) rfl ?_)
    refine any_one ops3_ready3 (wpOpIn_mono ?_ (call _ w hw))
    rintro a w' ⟨rfl, hw'⟩
    exact tail w' hw'
end
end Go.Am
