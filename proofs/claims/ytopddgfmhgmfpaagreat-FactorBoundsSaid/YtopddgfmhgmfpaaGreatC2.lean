import Derived.Test.YtopddgfmhgmfpaaGreatC1
set_option linter.unusedVariables false
set_option linter.unusedSimpArgs false
set_option linter.unusedVariables false
set_option linter.unusedSimpArgs false
namespace Go.Am
open Go Go.Proofs
set_option maxRecDepth 100000
set_option maxHeartbeats 1000000
theorem add32_call (x y c : Nat) (hx : x < 4294967296) (hy : y < 4294967296) (hc : c ≤ 1) : ACall Tryz.prog 242 [nW x, nW y, nW c] [.p (nW ((x + y + c) % 4294967296 : Nat)), .p (nW ((x + y + c) / 4294967296 : Nat))] := by
  have t1 : IntKind.wrap .u64 (IntKind.wrap .u64 (IntKind.wrap .u64 (x : Int) + IntKind.wrap .u64 (y : Int)) + IntKind.wrap .u64 (c : Int)) = ((x + y + c : Nat) : Int) := by
    rw [u64_nn (by omega), u64_nn (by omega), u64_nn (by omega), wu64 (n := (x : Int) + y) (by omega) (by omega), wu64 (by omega) (by omega)]; omega
  obtain ⟨t, ht⟩ : ∃ t, t = x + y + c := ⟨_, rfl⟩
  rw [← ht] at t1 ⊢
  have w1 : IntKind.wrap .u32 (t : Int) = ((t % 4294967296 : Nat) : Int) := by simp [IntKind.wrap, IntKind.bits, IntKind.signed]
  refine acall_of_awp (hE []) Tryz.func242 rfl (by kernel_rfl) [] ?_
  conv => whnf
  rw [t1]
  refine ⟨.inl (vi (by exact w1)), ?_⟩
  conv => whnf
  refine ⟨.inl (vi ?_), trivial⟩
  rw [shr32, u32_nn (by omega)]
theorem sub32_call (x y c : Nat) (hx : x < 4294967296) (hy : y < 4294967296) (hc : c ≤ 1) : ACall Tryz.prog 243 [nW x, nW y, nW c] [.p (nW ((4294967296 + x - y - c) % 4294967296 : Nat)), .p (nW (if x < y + c then 1 else 0 : Nat))] := by
  have t1 : IntKind.wrap .u32 (IntKind.wrap .u32 ((x : Int) - y) - c) = (((4294967296 + x - y - c) % 4294967296 : Nat) : Int) := by
    simp only [IntKind.wrap, IntKind.bits, IntKind.signed]; simp; omega
  have bb := borrow_bits x y c hx hy hc
  refine acall_of_awp (hE []) Tryz.func243 rfl (by kernel_rfl) [] ?_
  conv => whnf
  rw [t1]
  refine ⟨.inl (vi (by rfl)), ?_⟩
  conv => whnf
  refine ⟨.inl (vi ?_), trivial⟩
  generalize (4294967296 + x - y - c) % 4294967296 = d at *
  rw [← bb]
  have e0 : (if IntKind.u32.signed = true then (-1 : Int) else IntKind.u32.max) = ((4294967295 : Nat) : Int) := rfl
  rw [e0]
  have B : ∀ b : BitVec IntKind.u32.bits, IntKind.wrap .u32 (b.toNat : Nat) = (b.toNat : Int) := fun b => wrapB b
  have C : ∀ b : BitVec IntKind.u32.bits, BitVec.ofInt IntKind.u32.bits (b.toNat : Int) = b := fun b => by rw [ofInt_toNat, BitVec.ofNat_toNat]; simp
  simp only [B, C, ofInt_toNat, shr31]
  rfl
theorem div32_call (h l d : Nat) (hh : h < d) (hl : l < 4294967296) (hd : d < 4294967296) : ACall Tryz.prog 301 [nW h, nW l, nW d] [.p (nW ((h * 4294967296 + l) / d : Nat)), .p (nW ((h * 4294967296 + l) % d : Nat))] := by
  have o1 := or_add32 h l (by omega) hl
  have s1 := shl32 h (by omega)
  obtain ⟨t, ht⟩ : ∃ t, t = h * 4294967296 + l := ⟨_, rfl⟩
  rw [← ht] at o1 ⊢
  have hdiv : t / d < 4294967296 := Nat.div_lt_of_lt_mul (by
    have := Nat.mul_le_mul_right 4294967296 (show h + 1 ≤ d by omega)
    omega)
  have hmod := Nat.mod_lt t (show 0 < d by omega)
  obtain ⟨t0, ht0⟩ : ∃ t0, t0 = h * 4294967296 := ⟨_, rfl⟩
  rw [← ht0] at s1 o1
  refine acall_of_awp (hE []) Tryz.func301 rfl (by kernel_rfl) [] ?_
  conv => whnf
  rw [show ((d : Int) != 0) = true by simp; omega]
  conv => whnf
  rw [decide_eq_false (show ¬ (d : Int) ≤ h by omega)]
  conv => whnf
  rw [u64_nn (show h < 18446744073709551616 by omega), u64_nn (show l < 18446744073709551616 by omega), s1, o1]
  refine ⟨by kernel_rfl, ?_⟩
  conv => whnf
  rw [u64_nn (show d < 18446744073709551616 by omega)]
  refine chk_of (by first | omega | (simp only [wl_len, ul_len] at *; omega)) ?_
  conv => whnf
  rw [u64_nn (show d < 18446744073709551616 by omega)]
  refine chk_of (by first | omega | (simp only [wl_len, ul_len] at *; omega)) ?_
  conv => whnf
  refine ⟨.inl (by kernel_rfl), ?_⟩
  conv => whnf
  refine ⟨.inl (vi (by rw [u64_div (by omega)]; exact u32_nn hdiv)), ?_⟩
  conv => whnf
  refine ⟨.inl (vi ?_), trivial⟩
  rw [mod_nn]; exact u32_nn (by omega)
theorem norm_call (l : List Nat) (hn : l.length < 4611686018427387904) : ACall Tryz.prog 228 [.sl (wl l)] [.p (.sl (wl (trimL l)))] := by
  refine acall_of_awp (hE []) Tryz.func228 rfl (by kernel_rfl) [] ?_
  conv => whnf
  refine ⟨Nat, fun n => n ≤ l.length ∧ trimL (l.take n) = trimL l, id, fun n => ⟨[.p (.sl (wl l)), .top, .top, iI n, .top, .top, .top, .top, .top, .top, .top, .top, .top, .top, .top, .top, .top, .top, .top, .top, .top, .top], []⟩, [], l.length, ?_, ?_⟩
  · conv => whnf
    repeat ((first | refine ⟨.inl rfl, ?_⟩ | refine ⟨rfl, ?_⟩); conv => whnf)
    refine ⟨.inl (vi (by rw [wl_len])), ?_⟩
    conv => whnf
    exact ⟨Nat.le_refl _, by simp⟩
  · rintro n ⟨h1, h2⟩
    conv => whnf
    cases n with
    | zero =>
      conv => whnf
      refine ⟨.inl ?_, trivial⟩
      rw [← h2]; simp [trimL, wl]
    | succ n =>
      rw [decide_eq_true (show ((n + 1 : Nat) : Int) > 0 by omega)]
      conv => whnf
      rw [show IntKind.wrap .i64 (((n + 1 : Nat) : Int) - 1) = (n : Int) by rw [wi64 (by omega) (by omega)]; omega]
      conv => whnf
      refine obind_of (wl_at n rfl (by omega)) ?_
      conv => whnf
      have hs := List.take_succ_eq_append_getElem (show n < l.length by omega)
      by_cases h0 : l[n] = 0
      · rw [show (((l[n] : Nat) : Int) == 0) = true by simp [h0]]
        conv => whnf
        refine ⟨n, ?_⟩
        conv => whnf
        repeat ((first | refine ⟨.inl rfl, ?_⟩ | refine ⟨rfl, ?_⟩); conv => whnf)
        refine ⟨.inl (vi (by rw [wi64 (by omega) (by omega)]; omega)), ?_⟩
        conv => whnf
        exact ⟨⟨by omega, by rw [← h2, hs, h0, trimL_snoc0]⟩, Nat.lt_succ_self n⟩
      · rw [show (((l[n] : Nat) : Int) == 0) = false by simpa using h0]
        conv => whnf
        refine chk_of (by first | omega | (simp only [wl_len, ul_len] at *; omega)) ?_
        conv => whnf
        refine chk_of (by first | omega | (simp only [wl_len, ul_len] at *; omega)) ?_
        conv => whnf
        refine ⟨.inl ?_, trivial⟩
        rw [show (((n + 1 : Nat) : Int)).toNat = n + 1 by omega, wl_take, ← h2, hs, trimL_snoc _ _ h0]
theorem norm_call' (l : List Nat) (hl : WB l) (hn : l.length < 4611686018427387904) : ACall Tryz.prog 228 [.sl (wl l)] [.p (.sl (wl (digs (val l))))] := by
  rw [← digs_of hl]; exact norm_call l hn
theorem norm_digs (n : Nat) (hn : (digs n).length < 4611686018427387904) : ACall Tryz.prog 228 [.sl (wl (digs n))] [.p (.sl (wl (digs n)))] := by
  have := norm_call' (digs n) (WB.digs n) hn
  rwa [val_digs] at this
theorem natural_call (n : Nat) (hn : n < 18446744073709551616) : ACall Tryz.prog 159 [nU n] [.p (.sl (wl (digs n)))] := by
  have w1 : IntKind.wrap .u32 (n : Int) = ((n % 4294967296 : Nat) : Int) := by simp [IntKind.wrap, IntKind.bits, IntKind.signed]
  have w2 : IntKind.wrap .u32 (Int.fdiv (n : Int) (2 ^ min (Int.toNat 32) IntKind.u64.bits)) = ((n / 4294967296 : Nat) : Int) := by rw [shr32, u32_nn (by omega)]
  have hw : WB [n % 4294967296, n / 4294967296] := WB.cons (by omega) (WB.cons (by omega) WB.nil)
  have hv : val [n % 4294967296, n / 4294967296] = n := by simp only [val]; omega
  have ht := norm_call' _ hw (by simp)
  rw [hv] at ht
  refine acall_of_awp (hE []) Tryz.func159 rfl (by kernel_rfl) [] ?_
  conv => whnf
  rw [w1, w2]
  refine ⟨[.p (.sl (wl (digs n)))], ht, ?_⟩
  conv => whnf
  exact ⟨.inl rfl, trivial⟩
theorem wl_szs (l : List Nat) : ∀ e ∈ wl l, e.length = 1 := wl_one l
theorem signed_call (n : Nat) (s : Bool) (hn : (digs n).length < 35184372088832) : ACall Tryz.prog 160 [.sl (wl (digs n)), .val (.bool s)] [.p (.agg (intC (if s then -(n : Int) else n)))] := by
  have cl := clone_nat (wl (digs n)) (wl_one _) (by rw [wl_len]; omega)
  cases s with
  | false =>
    refine acall_of_awp (hE []) Tryz.func160 rfl (by kernel_rfl) [] ?_
    conv => whnf
    refine ⟨_, norm_digs n (by omega), ?_⟩
    conv => whnf
    refine ⟨_, cl, ?_⟩
    conv => whnf
    refine ⟨.inl ?_, trivial⟩
    simp [intC]
  | true =>
    refine acall_of_awp (hE []) Tryz.func160 rfl (by kernel_rfl) [] ?_
    conv => whnf
    refine ⟨_, norm_digs n (by omega), ?_⟩
    conv => whnf
    refine ⟨_, cl, ?_⟩
    conv => whnf
    refine ⟨.inl ?_, trivial⟩
    by_cases h0 : n = 0
    · simp [intC, h0, digs_zero, wl]
    · have := digs_pos h0
      simp [intC, wl_len]
      omega
theorem at_call (l : List Nat) (hl : WB l) (i : Nat) : ACall Tryz.prog 233 [.sl (wl l), nI i] [.p (nW (l.getD i 0 : Nat))] := by
  refine acall_of_awp (hE []) Tryz.func233 rfl (by kernel_rfl) [] ?_
  conv => whnf
  by_cases h : i < l.length
  · rw [decide_eq_true (show ((i : Nat) : Int) < ((wl l).length : Nat) by rw [wl_len]; omega)]
    conv => whnf
    refine obind_of (wl_at i rfl h) ?_
    conv => whnf
    refine ⟨.inl (vi ?_), trivial⟩
    simp [h]
  · rw [decide_eq_false (show ¬ ((i : Nat) : Int) < ((wl l).length : Nat) by rw [wl_len]; omega)]
    conv => whnf
    refine ⟨.inl (vi ?_), trivial⟩
    simp [Nat.le_of_not_lt h]
end Go.Am

set_option linter.unusedVariables false
set_option linter.unusedSimpArgs false
namespace Go.Am
open Go Go.Proofs
set_option maxRecDepth 100000
set_option maxHeartbeats 1000000
theorem isnan_call (x : Int) : ACall Tryz.prog 230 [nI x] [.p (.val (.bool false))] := by
  refine acall_of_awp (hE []) Tryz.func230 rfl (by kernel_rfl) [] ?_
  conv => whnf
  exact ⟨.inl (by simp), trivial⟩
theorem isnan32_call (x : Int) : ACall Tryz.prog 280 [nW x] [.p (.val (.bool false))] := by
  refine acall_of_awp (hE []) Tryz.func280 rfl (by kernel_rfl) [] ?_
  conv => whnf
  exact ⟨.inl (by simp), trivial⟩
theorem compareI_call (x y : Int) : ACall Tryz.prog 162 [nI x, nI y] [.p (nI (cmpZ x y))] := by
  refine acall_of_awp (hE []) Tryz.func162 rfl (by kernel_rfl) [] ?_
  conv => whnf
  refine ⟨_, isnan_call x, ?_⟩
  conv => whnf
  refine ⟨_, isnan_call y, ?_⟩
  conv => whnf
  by_cases h : x < y
  · rw [decide_eq_true h]
    conv => whnf
    exact ⟨.inl (vi (by simp [cmpZ, h])), trivial⟩
  · rw [decide_eq_false h]
    conv => whnf
    by_cases h2 : y < x
    · rw [decide_eq_true (show x > y from h2)]
      conv => whnf
      exact ⟨.inl (vi (by simp [cmpZ, h, h2])), trivial⟩
    · rw [decide_eq_false (show ¬ x > y from h2)]
      conv => whnf
      exact ⟨.inl (vi (by simp [cmpZ, h, h2])), trivial⟩
theorem compareW_call (x y : Int) : ACall Tryz.prog 231 [nW x, nW y] [.p (nI (cmpZ x y))] := by
  refine acall_of_awp (hE []) Tryz.func231 rfl (by kernel_rfl) [] ?_
  conv => whnf
  refine ⟨_, isnan32_call x, ?_⟩
  conv => whnf
  refine ⟨_, isnan32_call y, ?_⟩
  conv => whnf
  by_cases h : x < y
  · rw [decide_eq_true h]
    conv => whnf
    exact ⟨.inl (vi (by simp [cmpZ, h])), trivial⟩
  · rw [decide_eq_false h]
    conv => whnf
    by_cases h2 : y < x
    · rw [decide_eq_true (show x > y from h2)]
      conv => whnf
      exact ⟨.inl (vi (by simp [cmpZ, h, h2])), trivial⟩
    · rw [decide_eq_false (show ¬ x > y from h2)]
      conv => whnf
      exact ⟨.inl (vi (by simp [cmpZ, h, h2])), trivial⟩
theorem ncmp_call (m n : Nat) (hm : (digs m).length < 1099511627776) (hn : (digs n).length < 1099511627776) : ACall Tryz.prog 163 [.sl (wl (digs m)), .sl (wl (digs n))] [.p (nI (cmpN m n))] := by
  have wa := WB.digs m
  have wb := WB.digs n
  have hin : digs m = digs n → m = n := digs_inj
  have hl1 : (digs m).length < (digs n).length → m < n := digs_len_lt
  have hl2 : (digs n).length < (digs m).length → n < m := digs_len_lt
  have va := val_digs m
  have vb := val_digs n
  generalize digs m = a at *
  generalize digs n = b at *
  refine acall_of_awp (hE []) Tryz.func163 rfl (by kernel_rfl) [] ?_
  conv => whnf
  by_cases hne : a.length = b.length
  · rw [show (((wl a).length : Int) != ((wl b).length : Nat)) = false by rw [wl_len, wl_len, hne]; simp]
    conv => whnf
    refine ⟨Nat, fun i => i ≤ a.length ∧ a.drop (a.length - i) = b.drop (a.length - i), fun i => a.length - i, fun i => ⟨[.p (.sl (wl a)), .p (.sl (wl b)), .top, .top, .top, .top, .top, .top, .top, .top, .top, .top, .top, .top, .top, .top, .top, .top, iI (((wl a).length : Nat) : Int), iI i, .top, .top, .top, .top, .top, .top, .top, .top, .top, .top, .top, .top, .top, .top, .top, .top, .top, .top, .top, .top, .top, .top, .top, .top, .top, .top], []⟩, [], 0, ?_, ?_⟩
    · conv => whnf
      repeat ((first | refine ⟨.inl rfl, ?_⟩ | refine ⟨rfl, ?_⟩); conv => whnf)
      exact ⟨Nat.zero_le _, by rw [List.drop_of_length_le (by omega), List.drop_of_length_le (by omega)]⟩
    · rintro i ⟨h3, h4⟩
      conv => whnf
      by_cases hi : i < a.length
      · rw [decide_eq_true (show (i : Int) < ((wl a).length : Nat) by rw [wl_len]; omega)]
        conv => whnf
        refine ⟨by kernel_rfl, ?_⟩
        conv => whnf
        obtain ⟨k, hk⟩ : ∃ k, k = a.length - 1 - i := ⟨_, rfl⟩
        have ek : IntKind.wrap .i64 (IntKind.wrap .i64 (((wl a).length : Nat) - 1) - i) = (k : Int) := by
          rw [wl_len, wi64 (n := (a.length : Int) - 1) (by omega) (by omega), wi64 (by omega) (by omega)]; omega
        rw [ek]
        conv => whnf
        refine obind_of (wl_at k rfl (by omega)) ?_
        conv => whnf
        refine obind_of (wl_at k rfl (by omega)) ?_
        conv => whnf
        refine ⟨.inl (by kernel_rfl), ?_⟩
        conv => whnf
        by_cases h0 : a[k] = b[k]
        · rw [show (((a[k] : Nat) : Int) != ((b[k] : Nat) : Int)) = false by rw [h0]; simp]
          conv => whnf
          refine ⟨i + 1, ?_⟩
          conv => whnf
          repeat ((first | refine ⟨.inl rfl, ?_⟩ | refine ⟨rfl, ?_⟩); conv => whnf)
          refine ⟨.inl (vi (by rw [wi64 (by omega) (by omega)]; rfl)), ?_⟩
          conv => whnf
          refine ⟨⟨by omega, ?_⟩, by simp only; omega⟩
          rw [show a.length - (i + 1) = k by omega, List.drop_eq_getElem_cons (by omega), List.drop_eq_getElem_cons (l := b) (by omega), h0, show k + 1 = a.length - i by omega, h4]
        · rw [show (((a[k] : Nat) : Int) != ((b[k] : Nat) : Int)) = true by simp; omega]
          conv => whnf
          refine ⟨by kernel_rfl, ?_⟩
          conv => whnf
          refine obind_of (wl_at k rfl (by omega)) ?_
          conv => whnf
          refine obind_of (wl_at k rfl (by omega)) ?_
          conv => whnf
          refine ⟨_, compareW_call (a[k] : Nat) (b[k] : Nat), ?_⟩
          conv => whnf
          refine ⟨.inl (by kernel_rfl), ?_⟩
          conv => whnf
          refine ⟨.inl (vi ?_), trivial⟩
          have h4' : a.drop (k + 1) = b.drop (k + 1) := by rw [show k + 1 = a.length - i by omega, h4]
          by_cases h5 : a[k] < b[k]
          · have := val_cmp wa wb k (by omega) (by omega) h4' h5
            simp only [cmpZ, cmpN]
            rw [if_pos (by omega), if_pos (by omega)]
          · have := val_cmp wb wa k (by omega) (by omega) h4'.symm (by omega)
            simp only [cmpZ, cmpN]
            rw [if_neg (by omega), if_pos (by omega), if_neg (by omega), if_pos (by omega)]
      · rw [decide_eq_false (show ¬ (i : Int) < ((wl a).length : Nat) by rw [wl_len]; omega)]
        conv => whnf
        refine ⟨.inl (vi ?_), trivial⟩
        have : m = n := hin (by
          rw [show a.length - i = 0 by omega] at h4
          simpa using h4)
        simp [cmpN, this]
  · rw [show (((wl a).length : Int) != ((wl b).length : Nat)) = true by rw [wl_len, wl_len]; simp; omega]
    conv => whnf
    refine ⟨_, compareI_call ((wl a).length : Nat) ((wl b).length : Nat), ?_⟩
    conv => whnf
    refine ⟨.inl (vi ?_), trivial⟩
    rw [wl_len, wl_len]
    rcases Nat.lt_or_ge a.length b.length with h | h
    · have := hl1 h
      simp only [cmpZ, cmpN]
      rw [if_pos (by omega), if_pos (by omega)]
    · have := hl2 (by omega)
      simp only [cmpZ, cmpN]
      rw [if_neg (by omega), if_pos (by omega), if_neg (by omega), if_pos (by omega)]
end Go.Am

set_option linter.unusedVariables false
set_option linter.unusedSimpArgs false
namespace Go.Am
open Go Go.Proofs
set_option maxRecDepth 100000
set_option maxHeartbeats 1000000
theorem nadd_call (m n : Nat) (hla : (digs m).length < 1099511627000) (hlb : (digs n).length < 1099511627000) : ACall Tryz.prog 172 [.sl (wl (digs m)), .sl (wl (digs n))] [.p (.sl (wl (digs (m + n))))] := by
  have ha := WB.digs m
  have hb := WB.digs n
  have va := val_digs m
  have vb := val_digs n
  rw [show digs (m + n) = digs (val (digs m) + val (digs n)) by rw [va, vb]]
  clear va vb
  generalize digs m = a at *
  generalize digs n = b at *
  refine acall_of_awp (hE []) Tryz.func172 rfl (by kernel_rfl) [] ?_
  conv => whnf
  have hN : (if ((wl b).length : Int) > ((wl a).length : Int) then ((wl b).length : Int) else ((wl a).length : Int)) = ((max a.length b.length : Nat) : Int) := by
    rw [wl_len, wl_len]; split <;> omega
  rw [hN]
  obtain ⟨N, hM⟩ : ∃ N, N = max a.length b.length := ⟨_, rfl⟩
  rw [← hM]
  conv => whnf
  obtain ⟨M, hMM⟩ : ∃ M, M = N + 1 := ⟨_, rfl⟩
  have e1 : IntKind.wrap .i64 ((N : Int) + 1) = (M : Int) := by rw [wi64 (by omega) (by omega)]; omega
  rw [e1]
  conv => whnf
  refine chk_of (rfl) ?_
  conv => whnf
  refine chk_of (by show (4 : Int) * M ≤ 281474976710656; omega) ?_
  conv => whnf
  refine chk_of (by first | omega | (simp only [wl_len, ul_len] at *; omega)) ?_
  conv => whnf
  refine ⟨Nat × List Nat × Nat, fun x => x.1 ≤ N ∧ x.2.1.length = M ∧ WB x.2.1 ∧ x.2.2 ≤ 1 ∧ val (x.2.1.take x.1) + 4294967296 ^ x.1 * x.2.2 = val (a.take x.1) + val (b.take x.1), fun x => N - x.1,
    fun x => ⟨[.p (.sl (wl a)), .p (.sl (wl b)), .top, .top, .top, iI N, .own 0 1 M, iW x.2.2, .top, .top, .top, .top, .top, .top, .top, .top, .top, iI N, iI x.1, .top, .top, .top, .top, .top, .top, .top, .top, .top, .top, .top, .top, .top, .top, .top, .top, .top, .top, .top, .top, .top, .top, .top], [some (.row 1 (wl x.2.1) true)]⟩, [], (0, List.replicate M 0, 0), ?_, ?_⟩
  · conv => whnf
    repeat ((first | refine ⟨.inl rfl, ?_⟩ | refine ⟨rfl, ?_⟩); conv => whnf)
    refine ⟨.inl (by simpa using wl_rep M), ?_⟩
    conv => whnf
    refine ⟨Nat.zero_le _, by simp, WB.zeros _, by simp, by simp [val]⟩
  · rintro ⟨i, l, c⟩ ⟨h1, h2, h3, h4, h5⟩
    simp only at h1 h2 h3 h4 h5
    refine atS (s' := ⟨[.p (.sl (wl a)), .p (.sl (wl b)), .top, .top, .top, iI N, .own 0 1 M, iW c, .top, .top, .top, .top, .top, .top, .top, .top, .top, iI N, iI i, .top, .top, .top, .top, .top, .top, .top, .top, .top, .top, .top, .top, .top, .top, .top, .top, .top, .top, .top, .top, .top, .top, .top], [some (.row 1 (wl l) true)]⟩) rfl ?_
    conv => whnf
    by_cases hi : i < N
    · rw [decide_eq_true (show (i : Int) < N by omega)]
      conv => whnf
      refine ⟨_, at_call a ha i, ?_⟩
      conv => whnf
      refine ⟨_, at_call b hb i, ?_⟩
      conv => whnf
      have wa := ha.getD i
      have wb := hb.getD i
      generalize hx : a.getD i 0 = x at wa ⊢
      generalize hy : b.getD i 0 = y at wb ⊢
      refine ⟨_, add32_call x y c wa wb h4, ?_⟩
      conv => whnf
      refine chk_of (by first | omega | (simp only [wl_len, ul_len] at *; omega)) ?_
      conv => whnf
      refine chk_of (by first | omega | (simp only [wl_len, ul_len] at *; omega)) ?_
      conv => whnf
      refine ⟨(i + 1, l.set i ((x + y + c) % 4294967296), (x + y + c) / 4294967296), ?_⟩
      conv => whnf
      repeat ((first | refine ⟨.inl rfl, ?_⟩ | refine ⟨rfl, ?_⟩); conv => whnf)
      refine ⟨.inl (vi (by rw [wi64 (by omega) (by omega)]; rfl)), ?_⟩
      conv => whnf
      refine ⟨.inl (wl_set' (l := l) (i := (i : Int)) rfl rfl), ?_⟩
      conv => whnf
      refine ⟨⟨by omega, by simp [h2], h3.set i (Nat.mod_lt _ (by omega)), by show (x + y + c) / 4294967296 ≤ 1; omega, ?_⟩, by simp only; omega⟩
      simp only
      rw [take_set_succ l i _ (by omega), val_snoc, List.length_take, Nat.min_eq_left (by omega), val_take_succ a i, val_take_succ b i, hx, hy, Nat.pow_succ]
      have := Nat.div_add_mod (x + y + c) 4294967296
      generalize (x + y + c) / 4294967296 = d at *
      generalize (x + y + c) % 4294967296 = r at *
      generalize 4294967296 ^ i = P at *
      grind
    · rw [decide_eq_false (show ¬ (i : Int) < N by omega)]
      conv => whnf
      refine chk_of (by first | omega | (simp only [wl_len, ul_len] at *; omega)) ?_
      conv => whnf
      refine chk_of (by first | omega | (simp only [wl_len, ul_len] at *; omega)) ?_
      conv => whnf
      have hiN : i = N := by omega
      subst hiN
      have hs : WB (l.set i c) := h3.set i (by omega)
      rw [show (wl l).set ((i : Int)).toNat [PV.val (Value.int .u32 (c : Int))] = wl (l.set i c) from wl_set' (l := l) (i := (i : Int)) rfl rfl]
      refine ⟨_, norm_call' _ hs (by simp; omega), ?_⟩
      conv => whnf
      refine ⟨.inl ?_, trivial⟩
      have e1 : a.take i = a := List.take_of_length_le (by omega)
      have e2 : b.take i = b := List.take_of_length_le (by omega)
      rw [e1, e2] at h5
      have e3 : (l.set i c).take (i + 1) = l.set i c := List.take_of_length_le (by simp; omega)
      rw [← e3, take_set_succ l i c (by omega), val_snoc, List.length_take, Nat.min_eq_left (by omega), h5]
theorem nsub_call (m n : Nat) (hla : (digs m).length < 1099511627000) (hle : n ≤ m) : ACall Tryz.prog 173 [.sl (wl (digs m)), .sl (wl (digs n))] [.p (.sl (wl (digs (m - n))))] := by
  have ha := WB.digs m
  have hb := WB.digs n
  have hlen := digs_len_mono hle
  have hle : val (digs n) ≤ val (digs m) := by rw [val_digs, val_digs]; exact hle
  rw [show digs (m - n) = digs (val (digs m) - val (digs n)) by rw [val_digs, val_digs]]
  generalize digs m = a at *
  generalize digs n = b at *
  refine acall_of_awp (hE []) Tryz.func173 rfl (by kernel_rfl) [] ?_
  conv => whnf
  rw [wl_len]
  obtain ⟨N, hM⟩ : ∃ N, N = a.length := ⟨_, rfl⟩
  rw [← hM]
  refine chk_of (rfl) ?_
  conv => whnf
  refine chk_of (by show (4 : Int) * N ≤ 281474976710656; omega) ?_
  conv => whnf
  refine chk_of (by first | omega | (simp only [wl_len, ul_len] at *; omega)) ?_
  conv => whnf
  refine ⟨Nat × List Nat × Nat, fun x => x.1 ≤ N ∧ x.2.1.length = N ∧ WB x.2.1 ∧ x.2.2 ≤ 1 ∧ val (x.2.1.take x.1) + val (b.take x.1) = val (a.take x.1) + 4294967296 ^ x.1 * x.2.2, fun x => N - x.1,
    fun x => ⟨[.p (.sl (wl a)), .p (.sl (wl b)), .top, .top, .top, .own 0 1 N, iW x.2.2, .top, .top, .top, .top, .top, iI N, iI x.1, .top, .top, .top, .top, .top, .top, .top, .top, .top, .top, .top, .top, .top, .top, .top, .top, .top, .top, .top, .top], [some (.row 1 (wl x.2.1) true)]⟩, [], (0, List.replicate N 0, 0), ?_, ?_⟩
  · conv => whnf
    repeat ((first | refine ⟨.inl rfl, ?_⟩ | refine ⟨rfl, ?_⟩); conv => whnf)
    refine ⟨.inl (by simpa using wl_rep N), ?_⟩
    conv => whnf
    refine ⟨Nat.zero_le _, by simp, WB.zeros _, by simp, by simp [val]⟩
  · rintro ⟨i, l, c⟩ ⟨h1, h2, h3, h4, h5⟩
    simp only at h1 h2 h3 h4 h5
    refine atS (s' := ⟨[.p (.sl (wl a)), .p (.sl (wl b)), .top, .top, .top, .own 0 1 N, iW c, .top, .top, .top, .top, .top, iI N, iI i, .top, .top, .top, .top, .top, .top, .top, .top, .top, .top, .top, .top, .top, .top, .top, .top, .top, .top, .top, .top], [some (.row 1 (wl l) true)]⟩) rfl ?_
    conv => whnf
    by_cases hi : i < N
    · rw [decide_eq_true (show (i : Int) < N by omega)]
      conv => whnf
      refine ⟨by kernel_rfl, ?_⟩
      conv => whnf
      have hia : i < a.length := by omega
      refine obind_of (wl_at i rfl hia) ?_
      conv => whnf
      refine ⟨_, at_call b hb i, ?_⟩
      conv => whnf
      have wa := ha.getD i
      have wb := hb.getD i
      rw [← getD_at hia]
      generalize hx : a.getD i 0 = x at wa ⊢
      generalize hy : b.getD i 0 = y at wb ⊢
      refine ⟨_, sub32_call x y c wa wb h4, ?_⟩
      conv => whnf
      refine chk_of (by first | omega | (simp only [wl_len, ul_len] at *; omega)) ?_
      conv => whnf
      refine chk_of (by first | omega | (simp only [wl_len, ul_len] at *; omega)) ?_
      conv => whnf
      refine ⟨.inl (by kernel_rfl), ?_⟩
      conv => whnf
      have eb : (if x < y + c then 1 else 0 : Nat) ≤ 1 := by split <;> omega
      refine ⟨(i + 1, l.set i ((4294967296 + x - y - c) % 4294967296), if x < y + c then 1 else 0), ?_⟩
      conv => whnf
      repeat ((first | refine ⟨.inl rfl, ?_⟩ | refine ⟨rfl, ?_⟩); conv => whnf)
      refine ⟨.inl (vi (by rw [wi64 (by omega) (by omega)]; rfl)), ?_⟩
      conv => whnf
      refine ⟨.inl (wl_set' (l := l) (i := (i : Int)) rfl rfl), ?_⟩
      conv => whnf
      refine ⟨⟨by omega, by simp [h2], h3.set i (Nat.mod_lt _ (by omega)), eb, ?_⟩, by simp only; omega⟩
      simp only
      rw [take_set_succ l i _ (by omega), val_snoc, List.length_take, Nat.min_eq_left (by omega), val_take_succ a i, val_take_succ b i, hx, hy, Nat.pow_succ]
      have k1 : (4294967296 + x - y - c) % 4294967296 + y + c = x + 4294967296 * (if x < y + c then 1 else 0) := by split <;> omega
      generalize (4294967296 + x - y - c) % 4294967296 = r at *
      generalize (if x < y + c then 1 else 0 : Nat) = e at *
      generalize 4294967296 ^ i = P at *
      grind
    · rw [decide_eq_false (show ¬ (i : Int) < N by omega)]
      conv => whnf
      refine ⟨_, norm_call' l h3 (by omega), ?_⟩
      conv => whnf
      refine ⟨.inl ?_, trivial⟩
      have hiN : i = N := by omega
      subst hiN
      have e1 : a.take i = a := List.take_of_length_le (by omega)
      have e2 : b.take i = b := List.take_of_length_le (by omega)
      have e3 : l.take i = l := List.take_of_length_le (by omega)
      rw [e1, e2, e3] at h5
      have vl := val_lt h3
      rw [h2] at vl
      have hc : c = 0 := by
        rcases Nat.lt_or_ge 0 c with h | h
        · have : c = 1 := by omega
          subst this
          omega
        · omega
      subst hc
      rw [show val l = val a - val b by omega]
theorem nmul_call (m n : Nat) (hla : (digs m).length < 1099511627000) (hlb : (digs n).length < 1099511627000) : ACall Tryz.prog 175 [.sl (wl (digs m)), .sl (wl (digs n))] [.p (.sl (wl (digs (m * n))))] := by
  have ha := WB.digs m
  have hb := WB.digs n
  rw [show digs (m * n) = digs (val (digs m) * val (digs n)) by rw [val_digs, val_digs]]
  generalize digs m = a at *
  generalize digs n = b at *
  refine acall_of_awp (hE []) Tryz.func175 rfl (by kernel_rfl) [] ?_
  conv => whnf
  have hN : IntKind.i64.wrap (((wl a).length : Int) + ((wl b).length : Int)) = ((a.length + b.length : Nat) : Int) := by
    rw [wl_len, wl_len, wi64 (by omega) (by omega)]; omega
  rw [hN]
  obtain ⟨N, hM⟩ : ∃ N, N = a.length + b.length := ⟨_, rfl⟩
  rw [← hM]
  conv => whnf
  refine chk_of (rfl) ?_
  conv => whnf
  refine chk_of (by show (4 : Int) * N ≤ 281474976710656; omega) ?_
  conv => whnf
  refine chk_of (by first | omega | (simp only [wl_len, ul_len] at *; omega)) ?_
  conv => whnf
  refine ⟨Nat × List Nat, fun x => x.1 ≤ a.length ∧ x.2.length = N ∧ WB x.2 ∧ val (x.2.take (x.1 + b.length)) = val (a.take x.1) * val b, fun x => a.length - x.1,
    fun x => ⟨[.p (.sl (wl a)), .p (.sl (wl b)), .top, .top, .top, .own 0 1 N, .top, .top, .top, .top, .top, .top, .top, .top, .top, .top, .top, .p (.sl (wl a)), iI (((wl a).length : Nat) : Int), iI x.1, .top, .top, .top, .top, .top, .top, .top, .top, .top, .top, .top, .top, .top, .top, .top, .top, .top, .top, .top, .top, .top, .top, .top, .top, .top, .top, .top, .top, .top, .top, .top, .top, .top, .top, .top, .top, .top, .top, .top, .top, .top, .top, .top, .top, .top, .top, .top], [some (.row 1 (wl x.2) true)]⟩, [], (0, List.replicate N 0), ?_, ?_⟩
  · conv => whnf
    repeat ((first | refine ⟨.inl rfl, ?_⟩ | refine ⟨rfl, ?_⟩); conv => whnf)
    refine ⟨.inl (by simpa using wl_rep N), ?_⟩
    conv => whnf
    refine ⟨Nat.zero_le _, by simp, WB.zeros _, ?_⟩
    simp only [List.take_zero, val, Nat.zero_mul]
    rw [List.take_replicate, val_zeros]
  · rintro ⟨i, l0⟩ ⟨h1, h2, h3, h4⟩
    simp only at h1 h2 h3 h4
    refine atS (s' := ⟨[.p (.sl (wl a)), .p (.sl (wl b)), .top, .top, .top, .own 0 1 N, .top, .top, .top, .top, .top, .top, .top, .top, .top, .top, .top, .p (.sl (wl a)), iI (((wl a).length : Nat) : Int), iI i, .top, .top, .top, .top, .top, .top, .top, .top, .top, .top, .top, .top, .top, .top, .top, .top, .top, .top, .top, .top, .top, .top, .top, .top, .top, .top, .top, .top, .top, .top, .top, .top, .top, .top, .top, .top, .top, .top, .top, .top, .top, .top, .top, .top, .top, .top, .top], [some (.row 1 (wl l0) true)]⟩) rfl ?_
    conv => whnf
    refine if_of (fun hi => ?_) (fun hi => ?_)
    · conv => whnf
      rw [wl_len] at hi
      have hi : i < a.length := by omega
      have wa := ha.get hi
      refine obind_of (wl_at i rfl hi) ?_
      conv => whnf
      refine ⟨Nat × List Nat × Nat, fun x => x.1 ≤ b.length ∧ x.2.1.length = N ∧ WB x.2.1 ∧ x.2.2 < 4294967296 ∧ val (x.2.1.take (i + x.1)) + 4294967296 ^ (i + x.1) * x.2.2 = val (l0.take (i + x.1)) + 4294967296 ^ i * (a[i] * val (b.take x.1)) ∧ ∀ q, i + x.1 ≤ q → x.2.1.getD q 0 = l0.getD q 0, fun x => b.length - x.1,
        fun x => ⟨[.p (.sl (wl a)), .p (.sl (wl b)), .top, .top, .top, .own 0 1 N, iI i, iW (a[i] : Nat), iU x.2.2, .top, .top, .top, .top, .top, .top, .top, .top, .p (.sl (wl a)), iI (((wl a).length : Nat) : Int), iI i, .top, .top, .top, .top, .p (.sl (wl b)), iI (((wl b).length : Nat) : Int), iI x.1, .top, .top, .top, .top, .top, .top, .top, .top, .top, .top, .top, .top, .top, .top, .top, .top, .top, .top, .top, .top, .top, .top, .top, .top, .top, .top, .top, .top, .top, .top, .top, .top, .top, .top, .top, .top, .top, .top, .top, .top], [some (.row 1 (wl x.2.1) true)]⟩, [], (0, l0, 0), ?_, ?_⟩
      · conv => whnf
        repeat ((first | refine ⟨.inl rfl, ?_⟩ | refine ⟨rfl, ?_⟩); conv => whnf)
        exact ⟨Nat.zero_le _, h2, h3, by simp, by simp [val], fun _ _ => rfl⟩
      · rintro ⟨k, l, c⟩ ⟨g1, g2, g3, g4, g5, g6⟩
        simp only at g1 g2 g3 g4 g5 g6
        refine atS (s' := ⟨[.p (.sl (wl a)), .p (.sl (wl b)), .top, .top, .top, .own 0 1 N, iI i, iW (a[i] : Nat), iU c, .top, .top, .top, .top, .top, .top, .top, .top, .p (.sl (wl a)), iI (((wl a).length : Nat) : Int), iI i, .top, .top, .top, .top, .p (.sl (wl b)), iI (((wl b).length : Nat) : Int), iI k, .top, .top, .top, .top, .top, .top, .top, .top, .top, .top, .top, .top, .top, .top, .top, .top, .top, .top, .top, .top, .top, .top, .top, .top, .top, .top, .top, .top, .top, .top, .top, .top, .top, .top, .top, .top, .top, .top, .top, .top], [some (.row 1 (wl l) true)]⟩) rfl ?_
        conv => whnf
        refine if_of (fun hk => ?_) (fun hk => ?_)
        · conv => whnf
          rw [wl_len] at hk
          have hk : k < b.length := by omega
          refine obind_of (wl_at k rfl hk) ?_
          conv => whnf
          have wb := hb.get hk
          have hikN : i + k < l.length := by omega
          have wk := g3.get hikN
          have eik : IntKind.wrap .i64 ((i : Int) + k) = ((i + k : Nat) : Int) := by rw [wi64 (by omega) (by omega)]; omega
          rw [eik]
          conv => whnf
          refine chk_of (by first | omega | (simp only [wl_len, ul_len] at *; omega)) ?_
          conv => whnf
          refine obind_of (wl_at (i + k) rfl hikN) ?_
          conv => whnf
          have hmul : a[i] * b[k] ≤ 4294967295 * 4294967295 := Nat.mul_le_mul (by omega) (by omega)
          obtain ⟨t, ht⟩ : ∃ t, t = a[i] * b[k] + l[i + k] + c := ⟨_, rfl⟩
          have t1 : IntKind.wrap .u64 (c + IntKind.wrap .u64 (IntKind.wrap .u64 (IntKind.wrap .u64 ((a[i] : Nat) : Int) * IntKind.wrap .u64 ((b[k] : Nat) : Int)) + IntKind.wrap .u64 ((l[i + k] : Nat) : Int))) = (t : Int) := by
            rw [wu64 (n := ((a[i] : Nat) : Int)) (by omega) (by omega), wu64 (n := ((b[k] : Nat) : Int)) (by omega) (by omega), wu64 (n := ((l[i + k] : Nat) : Int)) (by omega) (by omega), ← Int.natCast_mul]
            generalize a[i] * b[k] = ab at *
            rw [wu64 (n := (ab : Int)) (by omega) (by omega), wu64 (n := (ab : Int) + (l[i + k] : Nat)) (by omega) (by omega), wu64 (by omega) (by omega)]; omega
          rw [t1, eik]
          refine chk_of (by first | omega | (simp only [wl_len, ul_len] at *; omega)) ?_
          conv => whnf
          refine chk_of (by first | omega | (simp only [wl_len, ul_len] at *; omega)) ?_
          conv => whnf
          refine ⟨(k + 1, l.set (i + k) (t % 4294967296), t / 4294967296), ?_⟩
          conv => whnf
          repeat ((first | refine ⟨.inl rfl, ?_⟩ | refine ⟨rfl, ?_⟩); conv => whnf)
          refine ⟨.inl (vi (by rw [shr32])), ?_⟩
          conv => whnf
          repeat ((first | refine ⟨.inl rfl, ?_⟩ | refine ⟨rfl, ?_⟩); conv => whnf)
          refine ⟨.inl (vi (by rw [wi64 (by omega) (by omega)]; rfl)), ?_⟩
          conv => whnf
          have w1 : IntKind.wrap .u32 (t : Int) = ((t % 4294967296 : Nat) : Int) := by simp [IntKind.wrap, IntKind.bits, IntKind.signed]
          refine ⟨.inl (wl_set' (l := l) (i := ((i + k : Nat) : Int)) rfl w1), ?_⟩
          conv => whnf
          have hl0 : l[i + k] = l0.getD (i + k) 0 := by
            rw [← g6 (i + k) (Nat.le_refl _)]; simp [hikN]
          have hbk : b.getD k 0 = b[k] := by simp [hk]
          refine ⟨⟨hk, by simp [g2], g3.set _ (Nat.mod_lt _ (by omega)), by show t / 4294967296 < 4294967296; omega, ?_, ?_⟩, by simp only; omega⟩
          · show val ((l.set (i + k) (t % 4294967296)).take (i + k + 1)) + 4294967296 ^ (i + k + 1) * (t / 4294967296) = val (l0.take (i + k + 1)) + 4294967296 ^ i * (a[i] * val (b.take (k + 1)))
            rw [take_set_succ _ _ _ hikN, val_snoc, List.length_take, Nat.min_eq_left (by omega), val_take_succ l0, val_take_succ b, hbk, ← hl0]
            have hd := Nat.div_add_mod t 4294967296
            rw [ht] at hd ⊢
            have p1 : 4294967296 ^ (i + k) = 4294967296 ^ i * 4294967296 ^ k := Nat.pow_add _ _ _
            have p2 : 4294967296 ^ (i + k + 1) = 4294967296 ^ (i + k) * 4294967296 := by rw [Nat.pow_succ]
            generalize 4294967296 ^ (i + k + 1) = P2 at *
            generalize 4294967296 ^ (i + k) = P1 at *
            generalize 4294967296 ^ i = Pi at *
            generalize 4294967296 ^ k = Pk at *
            generalize (a[i] * b[k] + l[i + k] + c) / 4294967296 = d at *
            generalize (a[i] * b[k] + l[i + k] + c) % 4294967296 = r at *
            grind
          · intro q hq
            simp only at hq ⊢
            rw [← g6 q (by omega)]
            simp [List.getElem?_set, show ¬ i + k = q by omega]
        · conv => whnf
          rw [wl_len] at hk
          have hkb : k = b.length := by omega
          have eik : IntKind.wrap .i64 ((i : Int) + ((wl b).length : Nat)) = ((i + b.length : Nat) : Int) := by rw [wl_len, wi64 (by omega) (by omega)]; omega
          rw [eik]
          refine chk_of (by first | omega | (simp only [wl_len, ul_len] at *; omega)) ?_
          conv => whnf
          refine chk_of (by first | omega | (simp only [wl_len, ul_len] at *; omega)) ?_
          conv => whnf
          refine ⟨(i + 1, l.set (i + b.length) c), ?_⟩
          conv => whnf
          repeat ((first | refine ⟨.inl rfl, ?_⟩ | refine ⟨rfl, ?_⟩); conv => whnf)
          refine ⟨.inl (vi (by rw [wi64 (by omega) (by omega)]; rfl)), ?_⟩
          conv => whnf
          refine ⟨.inl (wl_set' (l := l) (i := ((i + b.length : Nat) : Int)) rfl (u32_nn g4)), ?_⟩
          conv => whnf
          refine ⟨⟨hi, by simp [g2], g3.set _ g4, ?_⟩, by simp only; omega⟩
          show val ((l.set (i + b.length) c).take (i + 1 + b.length)) = val (a.take (i + 1)) * val b
          subst hkb
          rw [show i + 1 + b.length = i + b.length + 1 by omega, take_set_succ _ _ _ (by omega), val_snoc, List.length_take, Nat.min_eq_left (by omega), g5, h4, val_take_succ a, show a.getD i 0 = a[i] by simp [hi], List.take_of_length_le (Nat.le_refl _)]
          grind
    · conv => whnf
      rw [wl_len] at hi
      refine ⟨_, norm_call' l0 h3 (by omega), ?_⟩
      conv => whnf
      refine ⟨.inl ?_, trivial⟩
      have e1 : a.take i = a := List.take_of_length_le (by omega)
      have e3 : l0.take (i + b.length) = l0 := List.take_of_length_le (by omega)
      rw [e1, e3] at h4
      rw [h4]
end Go.Am

set_option linter.unusedVariables false
set_option linter.unusedSimpArgs false
namespace Go.Am
open Go Go.Proofs
set_option maxRecDepth 100000
set_option maxHeartbeats 1000000
def blF : Nat → Nat → Nat
  | 0, _ => 0
  | f + 1, n => if n = 0 then 0 else blF f (n / 2) + 1
/-- How many bits a number has. -/
def bl (n : Nat) : Nat := blF 64 n
theorem blF_eq : ∀ (f g n : Nat), n < 2 ^ f → n < 2 ^ g → blF f n = blF g n := by
  intro f
  induction f with
  | zero =>
    intro g n h _
    have : n = 0 := by simpa using h
    subst this
    cases g <;> simp [blF]
  | succ f ih =>
    intro g n h h'
    cases g with
    | zero =>
      have : n = 0 := by simpa using h'
      subst this
      simp [blF]
    | succ g =>
      simp only [blF]
      rw [Nat.pow_succ] at h h'
      rw [ih g (n / 2) (by omega) (by omega)]
theorem bl_shift (n k : Nat) (h : n < 2 ^ 64) (h0 : 2 ^ k ≤ n) : bl n = bl (n / 2 ^ k) + k := by
  induction k with
  | zero => simp
  | succ k ih =>
    have hp : 2 ^ (k + 1) = 2 ^ k * 2 := Nat.pow_succ ..
    have hk : 0 < 2 ^ k := Nat.pow_pos (by omega)
    rw [ih (by omega)]
    have e : n / 2 ^ (k + 1) = n / 2 ^ k / 2 := by rw [hp, Nat.div_div_eq_div_mul]
    have hm : 2 ≤ n / 2 ^ k := (Nat.le_div_iff_mul_le hk).2 (by omega)
    have hlt : n / 2 ^ k ≤ n := Nat.div_le_self _ _
    rw [e]
    generalize n / 2 ^ k = m at *
    have e1 : bl m = blF 63 (m / 2) + 1 := by simp only [bl, blF]; rw [if_neg (by omega)]
    have e2 : bl (m / 2) = blF 63 (m / 2) := blF_eq 64 63 _ (by omega) (by omega)
    rw [e1, e2]; omega
theorem bl_pow {n : Nat} (h : n < 2 ^ 64) (h0 : 0 < n) : 2 ^ (bl n - 1) ≤ n ∧ n < 2 ^ bl n ∧ 0 < bl n := by
  have : ∀ (f n : Nat), n < 2 ^ f → 0 < n → 2 ^ (blF f n - 1) ≤ n ∧ n < 2 ^ blF f n ∧ 0 < blF f n := by
    intro f
    induction f with
    | zero => intro n h h0; simp at h; omega
    | succ f ih =>
      intro n h h0
      simp only [blF]
      rw [if_neg (by omega)]
      rw [Nat.pow_succ] at h
      by_cases h1 : n / 2 = 0
      · rw [h1]
        have : blF f 0 = 0 := by cases f <;> simp [blF]
        rw [this]
        refine ⟨by simp; omega, by simp; omega, by omega⟩
      · obtain ⟨g1, g2, g3⟩ := ih (n / 2) (by omega) (by omega)
        have e : blF f (n / 2) + 1 - 1 = (blF f (n / 2) - 1) + 1 := by omega
        rw [e, Nat.pow_succ, Nat.pow_succ]
        refine ⟨by omega, by omega, by omega⟩
  exact this 64 n h h0
def len8 : ByteArray := { data := (([0, 1, 2, 2, 3, 3, 3, 3, 4, 4, 4, 4, 4, 4, 4, 4, 5, 5, 5, 5, 5, 5, 5, 5, 5, 5, 5, 5, 5, 5, 5, 5, 6, 6, 6, 6, 6, 6, 6, 6, 6, 6, 6, 6, 6, 6, 6, 6, 6, 6, 6, 6, 6, 6, 6, 6, 6, 6, 6, 6, 6, 6, 6, 6].append [7, 7, 7, 7, 7, 7, 7, 7, 7, 7, 7, 7, 7, 7, 7, 7, 7, 7, 7, 7, 7, 7, 7, 7, 7, 7, 7, 7, 7, 7, 7, 7, 7, 7, 7, 7, 7, 7, 7, 7, 7, 7, 7, 7, 7, 7, 7, 7, 7, 7, 7, 7, 7, 7, 7, 7, 7, 7, 7, 7, 7, 7, 7, 7]).append ([8, 8, 8, 8, 8, 8, 8, 8, 8, 8, 8, 8, 8, 8, 8, 8, 8, 8, 8, 8, 8, 8, 8, 8, 8, 8, 8, 8, 8, 8, 8, 8, 8, 8, 8, 8, 8, 8, 8, 8, 8, 8, 8, 8, 8, 8, 8, 8, 8, 8, 8, 8, 8, 8, 8, 8, 8, 8, 8, 8, 8, 8, 8, 8].append [8, 8, 8, 8, 8, 8, 8, 8, 8, 8, 8, 8, 8, 8, 8, 8, 8, 8, 8, 8, 8, 8, 8, 8, 8, 8, 8, 8, 8, 8, 8, 8, 8, 8, 8, 8, 8, 8, 8, 8, 8, 8, 8, 8, 8, 8, 8, 8, 8, 8, 8, 8, 8, 8, 8, 8, 8, 8, 8, 8, 8, 8, 8, 8])).toArray }
theorem len8_all : (List.range 256).all (fun i => len8[i]? == some (UInt8.ofNat (bl i))) = true := by kernel_rfl
theorem len8_at {i : Int} (n : Nat) (e : i = n) (h : n < 256) : len8[i.toNat]? = some (UInt8.ofNat (bl n)) := by
  subst e
  have := List.all_eq_true.1 len8_all n (by simpa using h)
  simpa using this
theorem bl_small {n : Nat} (h : n < 256) : bl n ≤ 8 := by
  rcases Nat.eq_zero_or_pos n with h0 | h0
  · subst h0; decide
  · obtain ⟨h1, _, h3⟩ := bl_pow (n := n) (by omega) h0
    rcases Nat.lt_or_ge 8 (bl n) with q | q
    · have : 2 ^ 8 ≤ 2 ^ (bl n - 1) := Nat.pow_le_pow_right (by omega) (by omega)
      omega
    · exact q
theorem shr16 (a : Nat) : Int.fdiv (a : Int) (2 ^ min (Int.toNat 16) IntKind.u32.bits) = ((a / 65536 : Nat) : Int) := fdiv_nn a 65536
theorem shr8 (a : Nat) : Int.fdiv (a : Int) (2 ^ min (Int.toNat 8) IntKind.u32.bits) = ((a / 256 : Nat) : Int) := fdiv_nn a 256
theorem wu8 {n : Nat} (h : n < 256) : IntKind.wrap .u8 (n : Int) = n := by
  simp [IntKind.wrap, IntKind.bits, IntKind.signed]; omega
theorem len8_val {n : Nat} (h : n < 256) : IntKind.wrap .i64 (((UInt8.ofNat (bl n)).toNat : Nat) : Int) = (bl n : Int) := by
  have h1 := bl_small h
  have e : (UInt8.ofNat (bl n)).toNat = bl n := by simp; omega
  rw [e, wi64 (by omega) (by omega)]
theorem len32_call (x : Nat) (hx : x < 4294967296) : ACall Tryz.prog 189 [nW x] [.p (nI (bl x : Nat))] := by
  refine acall_of_awp (hE []) Tryz.func189 rfl (by kernel_rfl) [] ?_
  conv => whnf
  by_cases h1 : 65536 ≤ x
  · have b1 := bl_shift x 16 (by omega) h1
    rw [decide_eq_true (show (x : Int) ≥ 65536 by omega)]
    conv => whnf
    rw [shr16]
    rw [show (2 : Nat) ^ 16 = 65536 from rfl] at b1
    obtain ⟨y, hy⟩ : ∃ y, y = x / 65536 := ⟨_, rfl⟩
    rw [← hy] at b1 ⊢
    by_cases h2 : 256 ≤ y
    · have b2 := bl_shift y 8 (by omega) h2
      rw [decide_eq_true (show (y : Int) ≥ 256 by omega)]
      conv => whnf
      rw [shr8]
      rw [show (2 : Nat) ^ 8 = 256 from rfl] at b2
      obtain ⟨z, hz⟩ : ∃ z, z = y / 256 := ⟨_, rfl⟩
      rw [← hz] at b2 ⊢
      have hz8 : z < 256 := by omega
      have hb := bl_small hz8
      rw [wu8 hz8]
      refine obind_of (len8_at z rfl hz8) ?_
      conv => whnf
      rw [len8_val hz8]
      refine ⟨.inl (vi ?_), trivial⟩
      rw [show IntKind.wrap .i64 (16 + 8) = 24 from by rw [wi64 (by omega) (by omega)]; rfl, wi64 (by omega) (by omega)]
      omega
    · rw [decide_eq_false (show ¬ (y : Int) ≥ 256 by omega)]
      conv => whnf
      have hz8 : y < 256 := by omega
      have hb := bl_small hz8
      rw [wu8 hz8]
      refine obind_of (len8_at y rfl hz8) ?_
      conv => whnf
      rw [len8_val hz8]
      refine ⟨.inl (vi ?_), trivial⟩
      rw [wi64 (by omega) (by omega)]
      omega
  · rw [decide_eq_false (show ¬ (x : Int) ≥ 65536 by omega)]
    conv => whnf
    by_cases h2 : 256 ≤ x
    · have b2 := bl_shift x 8 (by omega) h2
      rw [decide_eq_true (show (x : Int) ≥ 256 by omega)]
      conv => whnf
      rw [shr8]
      rw [show (2 : Nat) ^ 8 = 256 from rfl] at b2
      obtain ⟨z, hz⟩ : ∃ z, z = x / 256 := ⟨_, rfl⟩
      rw [← hz] at b2 ⊢
      have hz8 : z < 256 := by omega
      have hb := bl_small hz8
      rw [wu8 hz8]
      refine obind_of (len8_at z rfl hz8) ?_
      conv => whnf
      rw [len8_val hz8]
      refine ⟨.inl (vi ?_), trivial⟩
      rw [show IntKind.wrap .i64 (0 + 8) = 8 from by rw [wi64 (by omega) (by omega)]; rfl, wi64 (by omega) (by omega)]
      omega
    · rw [decide_eq_false (show ¬ (x : Int) ≥ 256 by omega)]
      conv => whnf
      have hz8 : x < 256 := by omega
      have hb := bl_small hz8
      rw [wu8 hz8]
      refine obind_of (len8_at x rfl hz8) ?_
      conv => whnf
      rw [len8_val hz8]
      refine ⟨.inl (vi ?_), trivial⟩
      rw [wi64 (by omega) (by omega)]
      omega
theorem lz32_call (x : Nat) (hx : x < 4294967296) : ACall Tryz.prog 282 [nW x] [.p (nI ((32 - bl x : Nat) : Int))] := by
  refine acall_of_awp (hE []) Tryz.func282 rfl (by kernel_rfl) [] ?_
  conv => whnf
  refine ⟨_, len32_call x hx, ?_⟩
  conv => whnf
  have h1 : bl x ≤ 32 := by
    rcases Nat.eq_zero_or_pos x with h0 | h0
    · subst h0; decide
    · obtain ⟨h1, _, h3⟩ := bl_pow (n := x) (by omega) h0
      rcases Nat.lt_or_ge 32 (bl x) with q | q
      · have : 2 ^ 32 ≤ 2 ^ (bl x - 1) := Nat.pow_le_pow_right (by omega) (by omega)
        omega
      · exact q
  refine ⟨.inl (vi ?_), trivial⟩
  rw [wi64 (by omega) (by omega)]
  omega
end Go.Am

set_option linter.unusedVariables false
set_option linter.unusedSimpArgs false
namespace Go.Am
open Go Go.Proofs
set_option maxRecDepth 100000
set_option maxHeartbeats 1000000
/-- The first n words of a number. -/
def wrd : Nat → Nat → List Nat
  | 0, _ => []
  | n + 1, v => v % 4294967296 :: wrd n (v / 4294967296)
theorem wrd_len : ∀ (n v : Nat), (wrd n v).length = n := by
  intro n
  induction n with
  | zero => intro v; rfl
  | succ n ih => intro v; simp [wrd, ih]
theorem wrd_of : ∀ {l : List Nat} {n : Nat}, WB l → l.length = n → l = wrd n (val l) := by
  intro l
  induction l with
  | nil => intro n _ h; subst h; rfl
  | cons d r ih =>
    intro n hl h
    subst h
    have hd := hl d List.mem_cons_self
    simp only [List.length_cons, wrd, val]
    have e1 : (d + 4294967296 * val r) % 4294967296 = d := by omega
    have e2 : (d + 4294967296 * val r) / 4294967296 = val r := by omega
    rw [e1, e2, ← ih (fun x hx => hl x (List.mem_cons_of_mem _ hx)) rfl]
theorem WB.wrd (n v : Nat) : WB (wrd n v) := by
  induction n generalizing v with
  | zero => exact WB.nil
  | succ n ih => exact WB.cons (Nat.mod_lt _ (by omega)) (ih _)
theorem val_wrd : ∀ (n v : Nat), v < 4294967296 ^ n → val (wrd n v) = v := by
  intro n
  induction n with
  | zero => intro v h; simp at h; simp [Am.wrd, val, h]
  | succ n ih =>
    intro v h
    rw [Nat.pow_succ] at h
    simp only [Am.wrd, val]
    rw [ih _ (by omega)]
    omega
theorem nword_call (m d : Nat) (hla : (digs m).length < 1099511627000) (hd : 0 < d) (hdB : d < 4294967296) : ACall Tryz.prog 281 [.sl (wl (digs m)), nW d] [.p (.sl (wl (digs (m / d)))), .p (nW (m % d : Nat))] := by
  have ha := WB.digs m
  rw [show m / d = val (digs m) / d by rw [val_digs], show m % d = val (digs m) % d by rw [val_digs]]
  generalize digs m = a at *
  refine acall_of_awp (hE []) Tryz.func281 rfl (by kernel_rfl) [] ?_
  conv => whnf
  rw [wl_len]
  obtain ⟨N, hN⟩ : ∃ N, N = a.length := ⟨_, rfl⟩
  rw [← hN]
  refine chk_of (rfl) ?_
  conv => whnf
  refine chk_of (by show (4 : Int) * (N : Nat) ≤ 281474976710656; omega) ?_
  conv => whnf
  refine chk_of (by first | omega | (simp only [wl_len, ul_len] at *; omega)) ?_
  conv => whnf
  refine ⟨Nat × List Nat × Nat, fun x => x.1 ≤ N ∧ x.2.1.length = N ∧ WB x.2.1 ∧ x.2.2 < d ∧ val (a.drop (N - x.1)) = d * val (x.2.1.drop (N - x.1)) + x.2.2, fun x => N - x.1,
    fun x => ⟨[.p (.sl (wl a)), iW d, .top, .top, .top, .top, .own 0 1 N, iW x.2.2, .top, .top, .top, .top, .top, .top, iI (((wl a).length : Nat) : Int), iI x.1, .top, .top, .top, .top, .top, .top, .top, .top, .top, .top, .top, .top, .top, .top, .top, .top, .top, .top, .top, .top, .top, .top, .top, .top], [some (.row 1 (wl x.2.1) true)]⟩, [], (0, List.replicate N 0, 0), ?_, ?_⟩
  · conv => whnf
    repeat ((first | refine ⟨.inl rfl, ?_⟩ | refine ⟨rfl, ?_⟩); conv => whnf)
    refine ⟨.inl (by simpa using wl_rep N), ?_⟩
    conv => whnf
    exact ⟨Nat.zero_le _, by simp, WB.zeros _, hd, by rw [List.drop_of_length_le (by omega), List.drop_of_length_le (by simp)]; simp [val]⟩
  · rintro ⟨i, l, r⟩ ⟨h1, h2, h3, h4, h5⟩
    simp only at h1 h2 h3 h4 h5
    refine atS (s' := ⟨[.p (.sl (wl a)), iW d, .top, .top, .top, .top, .own 0 1 N, iW r, .top, .top, .top, .top, .top, .top, iI (((wl a).length : Nat) : Int), iI i, .top, .top, .top, .top, .top, .top, .top, .top, .top, .top, .top, .top, .top, .top, .top, .top, .top, .top, .top, .top, .top, .top, .top, .top], [some (.row 1 (wl l) true)]⟩) rfl ?_
    conv => whnf
    by_cases hi : i < N
    · rw [decide_eq_true (show (i : Int) < ((wl a).length : Nat) by rw [wl_len]; omega)]
      conv => whnf
      obtain ⟨k, hk⟩ : ∃ k, k = N - 1 - i := ⟨_, rfl⟩
      have ek : IntKind.wrap .i64 (IntKind.wrap .i64 (((wl a).length : Nat) - 1) - i) = (k : Int) := by
        rw [wl_len, wi64 (n := (a.length : Int) - 1) (by omega) (by omega), wi64 (by omega) (by omega)]; omega
      rw [ek]
      conv => whnf
      have hka : k < a.length := by omega
      have wa := ha.get hka
      refine obind_of (wl_at k rfl hka) ?_
      conv => whnf
      refine ⟨_, div32_call r (a[k]) d h4 wa hdB, ?_⟩
      conv => whnf
      obtain ⟨t, ht⟩ : ∃ t, t = r * 4294967296 + a[k] := ⟨_, rfl⟩
      rw [← ht]
      have hdiv : t / d < 4294967296 := Nat.div_lt_of_lt_mul (by
        have := Nat.mul_le_mul_right 4294967296 (show r + 1 ≤ d by omega)
        omega)
      refine chk_of (by first | omega | (simp only [wl_len, ul_len] at *; omega)) ?_
      conv => whnf
      refine chk_of (by first | omega | (simp only [wl_len, ul_len] at *; omega)) ?_
      conv => whnf
      refine ⟨(i + 1, l.set k (t / d), t % d), ?_⟩
      conv => whnf
      repeat ((first | refine ⟨.inl rfl, ?_⟩ | refine ⟨rfl, ?_⟩); conv => whnf)
      refine ⟨.inl (vi (by rw [wi64 (by omega) (by omega)]; rfl)), ?_⟩
      conv => whnf
      refine ⟨.inl (wl_set' (l := l) (i := (k : Int)) rfl rfl), ?_⟩
      conv => whnf
      have hm : t % d < d := Nat.mod_lt _ hd
      have h2' : k < l.length := by omega
      refine ⟨⟨by simp only; omega, by simp [h2], h3.set _ hdiv, hm, ?_⟩, by simp only; omega⟩
      simp only
      rw [show N - i = k + 1 by omega] at h5
      rw [show N - (i + 1) = k by omega, val_drop a k hka, val_drop _ k (by simpa using h2'), List.getElem_set_self, List.drop_set_of_lt (by omega), h5]
      have hdm := Nat.div_add_mod t d
      rw [Nat.mul_add d, Nat.mul_left_comm d, Nat.add_right_comm, hdm, ht, Nat.mul_add]
      omega
    · rw [decide_eq_false (show ¬ (i : Int) < ((wl a).length : Nat) by rw [wl_len]; omega)]
      conv => whnf
      refine ⟨_, norm_call' l h3 (by omega), ?_⟩
      conv => whnf
      rw [show N - i = 0 by omega] at h5
      simp only [List.drop_zero] at h5
      have e1 : val a / d = val l := by rw [h5, Nat.mul_add_div hd, Nat.div_eq_of_lt h4]; omega
      have e2 : val a % d = r := by rw [h5, Nat.mul_add_mod, Nat.mod_eq_of_lt h4]
      refine ⟨.inl (by rw [e1]), ?_⟩
      conv => whnf
      exact ⟨.inl (vi (by rw [e2])), trivial⟩
theorem or_comm32 (b k a : Nat) (hb : b < 2 ^ k) (h : a * 2 ^ k + b < 2 ^ 32) : IntKind.wrap .u32 ((BitVec.ofInt IntKind.u32.bits (b : Int) ||| BitVec.ofInt IntKind.u32.bits ((a * 2 ^ k : Nat) : Int)).toNat : Nat) = ((a * 2 ^ k + b : Nat) : Int) := by
  have := or_add (w := 32) k a b hb h
  rw [BitVec.or_comm]
  have e : (BitVec.ofInt IntKind.u32.bits ((a * 2 ^ k : Nat) : Int) ||| BitVec.ofInt IntKind.u32.bits (b : Int)).toNat = a * 2 ^ k + b := this
  rw [e, u32_nn (by omega)]
theorem shl_call (l0 : List Nat) (s : Nat) (hl0 : WB l0) (hla : l0.length < 1099511627000) (hs : s < 32) : ACall Tryz.prog 283 [.sl (wl l0), nI s] [.new 1 (wl (wrd (l0.length + 1) (val l0 * 2 ^ s)))] := by
  obtain ⟨M, hM⟩ : ∃ M, M = l0.length + 1 := ⟨_, rfl⟩
  have hs32 : (2 : Nat) ^ s * 2 ^ (32 - s) = 4294967296 := by rw [← Nat.pow_add, show s + (32 - s) = 32 by omega]
  have hS : (2 : Nat) ^ s ≤ 2147483648 := Nat.pow_le_pow_right (by omega) (show s ≤ 31 by omega)
  have hS0 : 0 < (2 : Nat) ^ s := Nat.pow_pos (by omega)
  obtain ⟨S, hSS⟩ : ∃ S, S = 2 ^ s := ⟨_, rfl⟩
  obtain ⟨R, hRR⟩ : ∃ R, R = 2 ^ (32 - s) := ⟨_, rfl⟩
  rw [← hM]
  refine acall_of_awp (hE []) Tryz.func283 rfl (by kernel_rfl) [] ?_
  conv => whnf
  have e1 : IntKind.wrap .i64 (((wl l0).length : Nat) + 1) = (M : Int) := by rw [wl_len, wi64 (by omega) (by omega)]; omega
  rw [e1]
  conv => whnf
  refine chk_of (rfl) ?_
  conv => whnf
  refine chk_of (by show (4 : Int) * (M : Nat) ≤ 281474976710656; omega) ?_
  conv => whnf
  refine chk_of (by first | omega | (simp only [wl_len, ul_len] at *; omega)) ?_
  conv => whnf
  refine ⟨Nat × List Nat, fun x => x.1 ≤ l0.length ∧ x.2.length = M ∧ WB x.2 ∧ x.2.getD x.1 0 < S ∧ val (x.2.take (x.1 + 1)) = val (l0.take x.1) * S, fun x => l0.length - x.1,
    fun x => ⟨[.p (.sl (wl l0)), iI s, .top, .top, .top, .own 0 1 M, .top, .top, .top, .top, .top, .top, .top, .p (.sl (wl l0)), iI (((wl l0).length : Nat) : Int), iI x.1, .top, .top, .top, .top, .top, .top, .top, .top, .top, .top, .top, .top, .top, .top, .top, .top, .top, .top, .top, .top, .top, .top, .top, .top, .top], [some (.row 1 (wl x.2) true)]⟩, [], (0, List.replicate M 0), ?_, ?_⟩
  · conv => whnf
    repeat ((first | refine ⟨.inl rfl, ?_⟩ | refine ⟨rfl, ?_⟩); conv => whnf)
    refine ⟨.inl (by simpa using wl_rep M), ?_⟩
    conv => whnf
    refine ⟨Nat.zero_le _, by simp, WB.zeros _, ?_, ?_⟩
    · simp only
      rw [getD_at (by simp; omega)]
      simp; omega
    · simp only [List.take_zero, val, Nat.zero_mul]
      rw [List.take_replicate, val_zeros]
  · rintro ⟨i, l⟩ ⟨h1, h2, h3, h4, h5⟩
    simp only at h1 h2 h3 h4 h5
    refine atS (s' := ⟨[.p (.sl (wl l0)), iI s, .top, .top, .top, .own 0 1 M, .top, .top, .top, .top, .top, .top, .top, .p (.sl (wl l0)), iI (((wl l0).length : Nat) : Int), iI i, .top, .top, .top, .top, .top, .top, .top, .top, .top, .top, .top, .top, .top, .top, .top, .top, .top, .top, .top, .top, .top, .top, .top, .top, .top], [some (.row 1 (wl l) true)]⟩) rfl ?_
    conv => whnf
    by_cases hi : i < l0.length
    · rw [decide_eq_true (show (i : Int) < ((wl l0).length : Nat) by rw [wl_len]; omega)]
      conv => whnf
      have wa := hl0.get hi
      refine obind_of (wl_at i rfl hi) ?_
      conv => whnf
      generalize hw : l0[i] = w at *
      have hil : i < l.length := by omega
      have hwS : w * S ≤ 4294967295 * 2147483648 := Nat.mul_le_mul (by omega) (by omega)
      obtain ⟨t, ht⟩ : ∃ t, t = w * S := ⟨_, rfl⟩
      have t1 : IntKind.wrap .u64 (IntKind.wrap .u64 (w : Int) * 2 ^ min (Int.toNat (s : Int)) IntKind.u64.bits) = (t : Int) := by
        rw [u64_nn (by omega), show min (Int.toNat (s : Int)) IntKind.u64.bits = s from Nat.min_eq_left (by show s ≤ 64; omega), ht, hSS]
        rw [show (w : Int) * 2 ^ s = ((w * 2 ^ s : Nat) : Int) by simp]
        rw [← hSS]
        exact u64_nn (by omega)
      rw [t1]
      have hSR : R * S = 4294967296 := by rw [hSS, hRR, Nat.mul_comm]; exact hs32
      have m1 : t % 4294967296 = (w % R) * S := by rw [ht, ← hSR, Nat.mul_mod_mul_right]
      have m2 : t / 4294967296 = w / R := by rw [ht, ← hSR]; exact Nat.mul_div_mul_right _ _ (by omega)
      have hR0 : 0 < R := by
        rcases Nat.eq_zero_or_pos R with h | h
        · subst h; simp at hSR
        · exact h
      have m3 : w / R < S := Nat.div_lt_of_lt_mul (by rw [hSR]; exact wa)
      have m4 : (w % R) * S + S ≤ 4294967296 := by
        have := Nat.mul_le_mul_right S (show w % R + 1 ≤ R from Nat.mod_lt _ hR0)
        rw [Nat.add_mul, Nat.one_mul] at this
        omega
      have w1 : IntKind.wrap .u32 (t : Int) = (((w % R) * S : Nat) : Int) := by rw [← m1]; simp [IntKind.wrap, IntKind.bits, IntKind.signed]
      refine chk_of (by first | omega | (simp only [wl_len, ul_len] at *; omega)) ?_
      conv => whnf
      refine obind_of (wl_get hil) ?_
      conv => whnf
      rw [w1]
      rw [getD_at hil] at h4
      have o1 := or_comm32 (l[i]) s (w % R) (by rw [← hSS]; exact h4) (by rw [← hSS]; omega)
      rw [← hSS] at o1
      rw [o1]
      refine chk_of (by first | omega | (simp only [wl_len, ul_len] at *; omega)) ?_
      conv => whnf
      refine chk_of (by first | omega | (simp only [wl_len, ul_len] at *; omega)) ?_
      conv => whnf
      have e2 : IntKind.wrap .i64 ((i : Int) + 1) = ((i + 1 : Nat) : Int) := by rw [wi64 (by omega) (by omega)]; omega
      rw [e2]
      conv => whnf
      refine chk_of (by first | omega | (simp only [wl_len, ul_len] at *; omega)) ?_
      conv => whnf
      refine chk_of (by simp [wl_len]; omega) ?_
      conv => whnf
      refine ⟨(i + 1, (l.set i ((w % R) * S + l[i])).set (i + 1) (w / R)), ?_⟩
      conv => whnf
      repeat ((first | refine ⟨.inl rfl, ?_⟩ | refine ⟨rfl, ?_⟩); conv => whnf)
      refine ⟨.inl (vi (by rw [e2])), ?_⟩
      conv => whnf
      have w2 : IntKind.wrap .u32 (Int.fdiv (t : Int) (2 ^ min (Int.toNat 32) IntKind.u64.bits)) = ((w / R : Nat) : Int) := by rw [shr32, m2]; exact u32_nn (by omega)
      refine ⟨.inl ((by rw [wl_set' (l := l) (i := (i : Int)) (k := i) (v := (w % R) * S + l[i]) rfl rfl]; exact wl_set' (i := ((i + 1 : Nat) : Int)) rfl w2)), ?_⟩
      conv => whnf
      refine ⟨⟨hi, by simp [h2], (h3.set _ (by omega)).set _ (by omega), ?_, ?_⟩, by simp only; omega⟩
      · show ((l.set i ((w % R) * S + l[i])).set (i + 1) (w / R)).getD (i + 1) 0 < S
        rw [getD_set _ _ _ _ (by simp; omega), if_pos rfl]; exact m3
      · show val (((l.set i ((w % R) * S + l[i])).set (i + 1) (w / R)).take (i + 1 + 1)) = val (l0.take (i + 1)) * S
        rw [take_set_succ _ _ _ (by simp; omega), val_snoc, take_set_succ _ _ _ hil, val_snoc, List.length_append, List.length_take, Nat.min_eq_left (by omega)]
        rw [val_take_succ l i, getD_at hil] at h5
        rw [val_take_succ l0 i, getD_at hi, hw]
        simp only [List.length_singleton]
        rw [Nat.pow_succ]
        have hd := Nat.div_add_mod t 4294967296
        rw [m1, m2, ht] at hd
        generalize 4294967296 ^ i = P at *
        generalize w / R = q at *
        generalize w % R = r at *
        grind
    · rw [decide_eq_false (show ¬ (i : Int) < ((wl l0).length : Nat) by rw [wl_len]; omega)]
      conv => whnf
      refine ⟨?_, ?_⟩
      · have hi' : i = l0.length := by omega
        subst hi'
        rw [List.take_of_length_le (by omega), List.take_of_length_le (Nat.le_refl _)] at h5
        rw [wrd_of h3 h2, h5, hSS]
      · conv => whnf
        trivial
end Go.Am

set_option linter.unusedVariables false
set_option linter.unusedSimpArgs false
namespace Go.Am
open Go Go.Proofs
set_option maxRecDepth 100000
set_option maxHeartbeats 1000000
theorem digit_of (l : List Nat) (hl : WB l) (i : Nat) (h : i < l.length) : ∃ z, val l / 4294967296 ^ i = l[i] + 4294967296 * (l.getD (i + 1) 0 + 4294967296 * z) := by
  have e1 := val_drop_parts l i 0 (by omega)
  have hp := val_lt (hl.take i)
  rw [List.length_take, Nat.min_eq_left (by omega)] at hp
  have e0 : val l = val (l.take i) + 4294967296 ^ i * val (l.drop i) := by
    have : val l = val (l.take i ++ l.drop i) := by rw [List.take_append_drop]
    rw [this, val_append, List.length_take, Nat.min_eq_left (by omega)]
  have e2 : val l / 4294967296 ^ i = val (l.drop i) := by
    rw [e0, Nat.add_mul_div_left _ _ (Nat.pow_pos (by omega)), Nat.div_eq_of_lt hp]; omega
  rw [e2, val_drop l i h]
  by_cases h1 : i + 1 < l.length
  · exact ⟨val (l.drop (i + 1 + 1)), by rw [val_drop l (i + 1) h1, getD_at h1]⟩
  · exact ⟨0, by rw [List.drop_of_length_le (by omega), getD_big (by omega)]; simp [val]⟩
theorem nshr_call (m s : Nat) (hla : (digs m).length < 1099511627000) (hs : s < 32) : ACall Tryz.prog 285 [.sl (wl (digs m)), nI s] [.p (.sl (wl (digs (m / 2 ^ s))))] := by
  have ha := WB.digs m
  have hm := val_lt ha
  rw [show m / 2 ^ s = val (digs m) / 2 ^ s by rw [val_digs]]
  generalize digs m = a at *
  have hs32 : (2 : Nat) ^ s * 2 ^ (32 - s) = 4294967296 := by rw [← Nat.pow_add, show s + (32 - s) = 32 by omega]
  have hS0 : 0 < (2 : Nat) ^ s := Nat.pow_pos (by omega)
  obtain ⟨S, hSS⟩ : ∃ S, S = 2 ^ s := ⟨_, rfl⟩
  obtain ⟨R, hRR⟩ : ∃ R, R = 2 ^ (32 - s) := ⟨_, rfl⟩
  have hSR : S * R = 4294967296 := by rw [hSS, hRR]; exact hs32
  rw [← hSS]
  rw [← hSS] at hS0
  refine acall_of_awp (hE []) Tryz.func285 rfl (by kernel_rfl) [] ?_
  conv => whnf
  rw [wl_len]
  obtain ⟨N, hN⟩ : ∃ N, N = a.length := ⟨_, rfl⟩
  rw [← hN]
  refine chk_of (rfl) ?_
  conv => whnf
  refine chk_of (by show (4 : Int) * (N : Nat) ≤ 281474976710656; omega) ?_
  conv => whnf
  refine chk_of (by first | omega | (simp only [wl_len, ul_len] at *; omega)) ?_
  conv => whnf
  refine ⟨Nat × List Nat, fun x => x.1 ≤ N ∧ x.2.length = N ∧ WB x.2 ∧ val (x.2.take x.1) = val a / S % 4294967296 ^ x.1, fun x => N - x.1,
    fun x => ⟨[.p (.sl (wl a)), iI s, .top, .top, .top, .own 0 1 N, .top, .top, .top, .top, .top, iI (((wl a).length : Nat) : Int), iI x.1, .top, .top, .top, .top, .top, .top, .top, .top, .top, .top, .top, .top, .top, .top, .top, .top, .top, .top, .top, .top, .top, .top, .top], [some (.row 1 (wl x.2) true)]⟩, [], (0, List.replicate N 0), ?_, ?_⟩
  · conv => whnf
    repeat ((first | refine ⟨.inl rfl, ?_⟩ | refine ⟨rfl, ?_⟩); conv => whnf)
    refine ⟨.inl (by simpa using wl_rep N), ?_⟩
    conv => whnf
    exact ⟨Nat.zero_le _, by simp, WB.zeros _, by simp [val, Nat.mod_one]⟩
  · rintro ⟨i, l⟩ ⟨h1, h2, h3, h5⟩
    simp only at h1 h2 h3 h5
    refine atS (s' := ⟨[.p (.sl (wl a)), iI s, .top, .top, .top, .own 0 1 N, .top, .top, .top, .top, .top, iI (((wl a).length : Nat) : Int), iI i, .top, .top, .top, .top, .top, .top, .top, .top, .top, .top, .top, .top, .top, .top, .top, .top, .top, .top, .top, .top, .top, .top, .top], [some (.row 1 (wl l) true)]⟩) rfl ?_
    conv => whnf
    by_cases hi : i < N
    · rw [decide_eq_true (show (i : Int) < ((wl a).length : Nat) by rw [wl_len]; omega)]
      conv => whnf
      have hia : i < a.length := by omega
      have wa := ha.get hia
      have wb := ha.getD (i + 1)
      refine ⟨by kernel_rfl, ?_⟩
      conv => whnf
      have e2 : IntKind.wrap .i64 ((i : Int) + 1) = ((i + 1 : Nat) : Int) := by rw [wi64 (by omega) (by omega)]; omega
      rw [e2]
      refine ⟨_, at_call a ha (i + 1), ?_⟩
      conv => whnf
      refine obind_of (wl_at i rfl hia) ?_
      conv => whnf
      obtain ⟨z, hz⟩ := digit_of a ha i hia
      generalize hx : a[i] = x at *
      generalize hy : a.getD (i + 1) 0 = y at *
      have s1 := shl32 y wb
      have o1 := or_add32 y x wb wa
      obtain ⟨t0, ht0⟩ : ∃ t0, t0 = y * 4294967296 := ⟨_, rfl⟩
      obtain ⟨t, ht⟩ : ∃ t, t = t0 + x := ⟨_, rfl⟩
      rw [← ht0] at s1 o1
      rw [← ht] at o1
      rw [u64_nn (show y < 18446744073709551616 by omega), s1, u64_nn (show x < 18446744073709551616 by omega), o1]
      have f1 : Int.fdiv (t : Int) (2 ^ min (Int.toNat (s : Int)) IntKind.u64.bits) = ((t / S : Nat) : Int) := by
        rw [show min (Int.toNat (s : Int)) IntKind.u64.bits = s from Nat.min_eq_left (by show s ≤ 64; omega)]
        rw [show (2 : Int) ^ s = ((S : Nat) : Int) by rw [hSS]; simp]
        exact fdiv_nn t S
      rw [f1]
      have w1 : IntKind.wrap .u32 ((t / S : Nat) : Int) = ((t / S % 4294967296 : Nat) : Int) := by
        generalize t / S = q
        simp [IntKind.wrap, IntKind.bits, IntKind.signed]
      rw [w1]
      refine chk_of (by first | omega | (simp only [wl_len, ul_len] at *; omega)) ?_
      conv => whnf
      refine chk_of (by first | omega | (simp only [wl_len, ul_len] at *; omega)) ?_
      conv => whnf
      refine ⟨.inl (by kernel_rfl), ?_⟩
      conv => whnf
      refine ⟨(i + 1, l.set i (t / S % 4294967296)), ?_⟩
      conv => whnf
      repeat ((first | refine ⟨.inl rfl, ?_⟩ | refine ⟨rfl, ?_⟩); conv => whnf)
      refine ⟨.inl (vi (by rw [e2])), ?_⟩
      conv => whnf
      refine ⟨.inl (wl_set' (l := l) (i := (i : Int)) rfl rfl), ?_⟩
      conv => whnf
      refine ⟨⟨hi, by simp [h2], h3.set _ (Nat.mod_lt _ (by omega)), ?_⟩, by simp only; omega⟩
      show val ((l.set i (t / S % 4294967296)).take (i + 1)) = val a / S % 4294967296 ^ (i + 1)
      rw [take_set_succ _ _ _ (by omega), val_snoc, List.length_take, Nat.min_eq_left (by omega), Nat.mod_pow_succ, h5]
      congr 2
      rw [Nat.div_div_eq_div_mul, Nat.mul_comm S, ← Nat.div_div_eq_div_mul, hz, ht, ht0]
      have e3 : x + 4294967296 * (y + 4294967296 * z) = (y * 4294967296 + x) + S * (R * 4294967296 * z) := by
        rw [← Nat.mul_assoc S, ← Nat.mul_assoc S, hSR]; omega
      rw [e3, Nat.add_mul_div_left _ _ hS0, show R * 4294967296 * z = 4294967296 * (R * z) by rw [Nat.mul_comm R, Nat.mul_assoc], Nat.add_mul_mod_self_left]
    · rw [decide_eq_false (show ¬ (i : Int) < ((wl a).length : Nat) by rw [wl_len]; omega)]
      conv => whnf
      refine ⟨_, norm_call' l h3 (by omega), ?_⟩
      conv => whnf
      refine ⟨.inl ?_, trivial⟩
      rw [show i = N by omega, List.take_of_length_le (by omega), hN] at h5
      rw [h5, Nat.mod_eq_of_lt (Nat.lt_of_le_of_lt (Nat.div_le_self _ _) hm)]
end Go.Am

set_option linter.unusedVariables false
set_option linter.unusedSimpArgs false
namespace Go.Am
open Go Go.Proofs
set_option maxRecDepth 100000
set_option maxHeartbeats 4000000
theorem us_get (u : List Nat) (j n i : Nat) (hi : i < n) : ((u.drop j).take n).getD i 0 = u.getD (j + i) 0 := by
  simp only [List.getD_eq_getElem?_getD]
  rw [List.getElem?_take_of_lt hi, List.getElem?_drop]
theorem reduce_call (u v qs : List Nat) (j n m : Nat) (hm : m = n + 2) (hu : WB u) (hv : WB v) (hn : v.length = m) (hj : j + m + 1 ≤ u.length) (hl : u.length < 1099511627776) (hv1 : 2147483648 ≤ v.getD (n + 1) 0)
    (hW : sv u j (m + 1) < 4294967296 * val v) :
    SCall Tryz.prog 284 [.win 0 1 j (m + 1), .p (.sl (wl v))] [some (.row 1 (wl u) true), some (.row 1 (wl qs) true)] fun xs m' => ∃ (u' : List Nat) (dg : Nat),
      xs = [.p (nW dg)] ∧ m' = [some (.row 1 (wl u') true), some (.row 1 (wl qs) true)] ∧ u'.length = u.length ∧ WB u' ∧ (∀ p, p < j ∨ j + m + 1 ≤ p → u'.getD p 0 = u.getD p 0) ∧
      sv u' j (m + 1) + dg * val v = sv u j (m + 1) ∧ sv u' j (m + 1) < val v ∧ dg < 4294967296 := by
  have g1 : v.getD (n + 1) 0 = v[n + 1]'(by omega) := getD_at (by omega)
  have g2 : v.getD n 0 = v[n]'(by omega) := getD_at (by omega)
  have g3 : u.getD (j + m) 0 = u[j + m]'(by omega) := getD_at (by omega)
  have g4 : u.getD (j + (n + 1)) 0 = u[j + (n + 1)]'(by omega) := getD_at (by omega)
  have g5 : u.getD (j + n) 0 = u[j + n]'(by omega) := getD_at (by omega)
  have b1 := hv.getD (n + 1)
  have b2 := hv.getD n
  have b3 := hu.getD (j + m)
  have b4 := hu.getD (j + (n + 1))
  have b5 := hu.getD (j + n)
  have wus : WB ((u.drop j).take (m + 1)) := fun x hx => hu x (List.mem_of_mem_drop (List.mem_of_mem_take hx))
  have hlus : ((u.drop j).take (m + 1)).length = v.length + 1 := by rw [List.length_take, List.length_drop]; omega
  have hG := gqL_spec _ v wus hv (by omega) hlus (by rw [hn, show m - 1 = n + 1 by omega]; exact hv1) hW
  have eG : gqL ((u.drop j).take (m + 1)) v = gq (v.getD (n + 1) 0) (v.getD n 0) (u.getD (j + n) 0) ((u.getD (j + m) 0 * 4294967296 + u.getD (j + (n + 1)) 0) / v.getD (n + 1) 0 + 1) ((u.getD (j + m) 0 * 4294967296 + u.getD (j + (n + 1)) 0) / v.getD (n + 1) 0) ((u.getD (j + m) 0 * 4294967296 + u.getD (j + (n + 1)) 0) % v.getD (n + 1) 0) := by
    simp only [gqL, hn, show m - 1 = n + 1 by omega, show m - 2 = n by omega]
    rw [us_get _ _ _ _ (by omega), us_get _ _ _ _ (by omega), us_get _ _ _ _ (by omega)]
  rw [eG] at hG
  clear eG
  have i1 : IntKind.wrap .i64 ((m : Int) - 1) = ((n + 1 : Nat) : Int) := by rw [wi64 (by omega) (by omega)]; omega
  have i2 : IntKind.wrap .i64 ((m : Int) - 2) = ((n : Nat) : Int) := by rw [wi64 (by omega) (by omega)]; omega
  have hlen : (wl v).length = m := by rw [wl_len]; exact hn
  have hVV := val_lt hv
  rw [hn] at hVV
  change _ ∧ sv u j (m + 1) < _ ∧ _ at hG
  obtain ⟨V, hV⟩ : ∃ V, V = val v := ⟨_, rfl⟩
  rw [← hV] at hW hG hVV ⊢
  obtain ⟨W, hWW⟩ : ∃ W, W = sv u j (m + 1) := ⟨_, rfl⟩
  rw [← hWW] at hW hG ⊢
  obtain ⟨v1, hx1⟩ : ∃ v1, v1 = v.getD (n + 1) 0 := ⟨_, rfl⟩
  obtain ⟨v2, hx2⟩ : ∃ v2, v2 = v.getD n 0 := ⟨_, rfl⟩
  obtain ⟨u0, hx3⟩ : ∃ u0, u0 = u.getD (j + m) 0 := ⟨_, rfl⟩
  obtain ⟨u1, hx4⟩ : ∃ u1, u1 = u.getD (j + (n + 1)) 0 := ⟨_, rfl⟩
  obtain ⟨u2, hx5⟩ : ∃ u2, u2 = u.getD (j + n) 0 := ⟨_, rfl⟩
  rw [← hx1, ← hx2, ← hx3, ← hx4, ← hx5] at hG
  rw [← hx1] at g1 b1 hv1
  rw [← hx2] at g2 b2
  rw [← hx3] at g3 b3
  rw [← hx4] at g4 b4
  rw [← hx5] at g5 b5
  obtain ⟨G, hGG⟩ : ∃ G, G = gq v1 v2 u2 ((u0 * 4294967296 + u1) / v1 + 1) ((u0 * 4294967296 + u1) / v1) ((u0 * 4294967296 + u1) % v1) := ⟨_, rfl⟩
  rw [← hGG] at hG
  obtain ⟨hG1, hG2, hG3⟩ := hG
  refine scall_of_awp (hE []) Tryz.func284 rfl (by kernel_rfl) [10] ?_
  conv => whnf
  refine ⟨Nat, fun x => x < 4294967296 ∧ W < (x + 1) * V, fun x => ⟨[.win 0 1 j (m + 1), .p (.sl (wl v)), .top, .top, .top, .top, iU x, .top, .top, .top, .top, .top, .top, .top, .top, .top, .top, .top, .top, .top, .top, .top, .top, .top, .top, .top, .top, .top, .top, .top, .top, .top, .top, .top, .top, .top, .top, .top, .top, .top, .top, .top, .top, .top, .top, .top, .top, .top, .top, .top, .top, .top, .top, .top, .top, .top, .top, .top, .top, .top, .top, .top, .top, .top, .top, .top, .top, .top, .top, .top, .top, .top, .top, .top, .top, .top, .top, .top, .top, .top, .top, .top, .top, .top, .top, .top, .top, .top, .top, .top, .top, .top, .top, .top, .top, .top, .top, .top, .top, .top, .top, .top, .top, .top, .top, .top, .top, .top, .top, .top, .top, .top, .top, .top, .top, .top, .top, .top, .top, .top, .top, .top, .top, .top, .top, .top, .top, .top, .top, .top, .top, .top, .top, .top, .top, .top, .top, .top, .top, .top, .top], [some (.row 1 (wl u) true), some (.row 1 (wl qs) true)]⟩, ?_, ?_⟩
  · conv => whnf
    rw [hlen]
    refine ⟨by kernel_rfl, ?_⟩
    conv => whnf
    refine chk_of (by first | omega | (simp only [wl_len, ul_len] at *; omega)) ?_
    conv => whnf
    refine obind_of (wl_at (j + m) rfl (by omega)) ?_
    conv => whnf
    rw [i1]
    refine obind_of (wl_at (n + 1) rfl (by omega)) ?_
    conv => whnf
    rw [← g3, ← g1]
    refine ⟨.inl (by kernel_rfl), ?_⟩
    conv => whnf
    by_cases hlt : u0 < v1
    · rw [decide_eq_true (show (u0 : Int) < v1 by omega)]
      conv => whnf
      refine ⟨by kernel_rfl, ?_⟩
      conv => whnf
      refine chk_of (by first | omega | (simp only [wl_len, ul_len] at *; omega)) ?_
      conv => whnf
      refine obind_of (wl_at (j + m) rfl (by omega)) ?_
      conv => whnf
      rw [i1]
      refine chk_of (by first | omega | (simp only [wl_len, ul_len] at *; omega)) ?_
      conv => whnf
      refine obind_of (wl_get (l := u) (i := j + (n + 1)) (by omega)) ?_
      conv => whnf
      rw [i1]
      conv => whnf
      refine obind_of (wl_at (n + 1) rfl (by omega)) ?_
      conv => whnf
      rw [← g3, ← g4, ← g1]
      obtain ⟨t, ht⟩ : ∃ t, t = u0 * 4294967296 + u1 := ⟨_, rfl⟩
      have dv := div32_call u0 u1 v1 hlt b4 b1
      rw [← ht] at dv hGG
      refine ⟨_, dv, ?_⟩
      conv => whnf
      refine ⟨.inl (by kernel_rfl), ?_⟩
      conv => whnf
      have hq0 : t / v1 < 4294967296 := Nat.div_lt_of_lt_mul (by
        have := Nat.mul_le_mul_right 4294967296 (show u0 + 1 ≤ v1 by omega)
        omega)
      have hr0 : t % v1 < v1 := Nat.mod_lt _ (by omega)
      rw [u64_nn (show t % v1 < 18446744073709551616 by omega), u64_nn (show t / v1 < 18446744073709551616 by omega)]
      refine ⟨Nat × Nat, fun x => x.1 < 4294967296 ∧ x.2 < 8589934592 ∧ ((x.2 < 4294967296 ∧ gq v1 v2 u2 (x.1 + 1) x.1 x.2 = G) ∨ (4294967296 ≤ x.2 ∧ x.1 = G)), fun x => x.1,
        fun x => ⟨[.win 0 1 j (m + 1), .p (.sl (wl v)), .top, .top, .top, iI m, iU x.1, .top, .top, iU x.2, .top, .top, .top, .top, .top, .top, .top, .top, .top, .top, .top, .top, .top, .top, .top, .top, .top, .top, .top, .top, .top, .top, .top, .top, .top, .top, .top, .top, .top, .top, .top, .top, .top, .top, .top, .top, .top, .top, .top, .top, .top, .top, .top, .top, .top, .top, .top, .top, .top, .top, .top, .top, .top, .top, .top, .top, .top, .top, .top, .top, .top, .top, .top, .top, .top, .top, .top, .top, .top, .top, .top, .top, .top, .top, .top, .top, .top, .top, .top, .top, .top, .top, .top, .top, .top, .top, .top, .top, .top, .top, .top, .top, .top, .top, .top, .top, .top, .top, .top, .top, .top, .top, .top, .top, .top, .top, .top, .top, .top, .top, .top, .top, .top, .top, .top, .top, .top, .top, .top, .top, .top, .top, .top, .top, .top, .top, .top, .top, .top, .top, .top], [some (.row 1 (wl u) true), some (.row 1 (wl qs) true)]⟩, [], (t / v1, t % v1), ?_, ?_⟩
      · conv => whnf
        repeat ((first | refine ⟨.inl rfl, ?_⟩ | refine ⟨rfl, ?_⟩); conv => whnf)
        exact ⟨hq0, by simp only; omega, .inl ⟨by simp only; omega, hGG.symm⟩⟩
      · rintro ⟨q, r⟩ ⟨h1, h2, h3⟩
        simp only at h1 h2 h3
        refine atS (s' := ⟨[.win 0 1 j (m + 1), .p (.sl (wl v)), .top, .top, .top, iI m, iU q, .top, .top, iU r, .top, .top, .top, .top, .top, .top, .top, .top, .top, .top, .top, .top, .top, .top, .top, .top, .top, .top, .top, .top, .top, .top, .top, .top, .top, .top, .top, .top, .top, .top, .top, .top, .top, .top, .top, .top, .top, .top, .top, .top, .top, .top, .top, .top, .top, .top, .top, .top, .top, .top, .top, .top, .top, .top, .top, .top, .top, .top, .top, .top, .top, .top, .top, .top, .top, .top, .top, .top, .top, .top, .top, .top, .top, .top, .top, .top, .top, .top, .top, .top, .top, .top, .top, .top, .top, .top, .top, .top, .top, .top, .top, .top, .top, .top, .top, .top, .top, .top, .top, .top, .top, .top, .top, .top, .top, .top, .top, .top, .top, .top, .top, .top, .top, .top, .top, .top, .top, .top, .top, .top, .top, .top, .top, .top, .top, .top, .top, .top, .top, .top, .top], [some (.row 1 (wl u) true), some (.row 1 (wl qs) true)]⟩) rfl ?_
        generalize hL : (4294967295 : Int) = L
        revert L
        refine lock ?_
        intro L hL
        conv => whnf
        refine ⟨by kernel_rfl, ?_⟩
        conv => whnf
        by_cases hr : r < 4294967296
        · rw [decide_eq_true (show (r : Int) ≤ L by omega)]
          conv => whnf
          rw [i2]
          refine obind_of (wl_at n rfl (by omega)) ?_
          conv => whnf
          rw [i2]
          refine chk_of (by first | omega | (simp only [wl_len, ul_len] at *; omega)) ?_
          conv => whnf
          refine obind_of (wl_get (l := u) (i := j + n) (by omega)) ?_
          conv => whnf
          rw [← g2, ← g5]
          have m0 : q * v2 ≤ 4294967295 * 4294967295 := Nat.mul_le_mul (by omega) (by omega)
          have m1 : IntKind.wrap .u64 ((q : Int) * v2) = ((q * v2 : Nat) : Int) := by
            rw [← Int.natCast_mul]
            generalize q * v2 = z at *
            exact u64_nn (by omega)
          have s1 := shl32 r hr
          have o1 := or_add32 r u2 hr b5
          obtain ⟨z0, hz0⟩ : ∃ z, z = r * 4294967296 := ⟨_, rfl⟩
          obtain ⟨z2, hz2⟩ : ∃ z, z = z0 + u2 := ⟨_, rfl⟩
          obtain ⟨z1, hz1⟩ : ∃ z, z = q * v2 := ⟨_, rfl⟩
          rw [← hz0] at s1 o1
          rw [← hz2] at o1
          rw [u64_nn (show v2 < 18446744073709551616 by omega), u64_nn (show u2 < 18446744073709551616 by omega), m1, s1, o1, ← hz1]
          refine ⟨.inl (by kernel_rfl), ?_⟩
          conv => whnf
          have h3' : gq v1 v2 u2 (q + 1) q r = G := by
            rcases h3 with h | h
            · exact h.2
            · omega
          by_cases hz : z2 < z1
          · rw [decide_eq_true (show (z1 : Int) > z2 by omega)]
            conv => whnf
            rw [i1]
            conv => whnf
            refine obind_of (wl_at (n + 1) rfl (by omega)) ?_
            conv => whnf
            rw [← g1]
            have hq1 : 1 ≤ q := by
              rcases Nat.eq_zero_or_pos q with h0 | h0
              · subst h0; omega
              · exact h0
            rw [gq, if_pos (.inr (by omega))] at h3'
            refine ⟨(q - 1, r + v1), ?_⟩
            conv => whnf
            repeat ((first | refine ⟨.inl rfl, ?_⟩ | refine ⟨rfl, ?_⟩); conv => whnf)
            refine ⟨.inl (vi (by rw [wu64 (by omega) (by omega)]; simp only; omega)), ?_⟩
            conv => whnf
            repeat ((first | refine ⟨.inl rfl, ?_⟩ | refine ⟨rfl, ?_⟩); conv => whnf)
            refine ⟨.inl (vi (by rw [u64_nn (show v1 < 18446744073709551616 by omega), wu64 (by omega) (by omega)]; simp only; omega)), ?_⟩
            conv => whnf
            repeat ((first | refine ⟨.inl rfl, ?_⟩ | refine ⟨rfl, ?_⟩); conv => whnf)
            refine ⟨⟨by simp only; omega, by simp only; omega, ?_⟩, by simp only; omega⟩
            simp only
            by_cases hrv : 4294967296 ≤ r + v1
            · rw [if_pos hrv] at h3'; exact .inr ⟨hrv, h3'⟩
            · rw [if_neg hrv] at h3'; exact .inl ⟨by omega, by rw [Nat.sub_add_cancel hq1]; exact h3'⟩
          · rw [decide_eq_false (show ¬ (z1 : Int) > z2 by omega)]
            conv => whnf
            refine ⟨[], q, ?_⟩
            conv => whnf
            repeat ((first | refine ⟨.inl rfl, ?_⟩ | refine ⟨rfl, ?_⟩); conv => whnf)
            rw [gq, if_neg (by omega)] at h3'
            rw [h3']
            exact ⟨hG1, hG2⟩
        · rw [decide_eq_false (show ¬ (r : Int) ≤ L by omega)]
          conv => whnf
          refine ⟨.inl (by kernel_rfl), ?_⟩
          conv => whnf
          refine ⟨[], q, ?_⟩
          conv => whnf
          repeat ((first | refine ⟨.inl rfl, ?_⟩ | refine ⟨rfl, ?_⟩); conv => whnf)
          have : q = G := by
            rcases h3 with h | h
            · omega
            · exact h.2
          rw [this]
          exact ⟨hG1, hG2⟩
    · rw [decide_eq_false (show ¬ (u0 : Int) < v1 by omega)]
      conv => whnf
      refine ⟨[], 4294967295, ?_⟩
      conv => whnf
      repeat ((first | refine ⟨.inl rfl, ?_⟩ | refine ⟨rfl, ?_⟩); conv => whnf)
      exact ⟨by omega, by omega⟩
  · rintro D ⟨hD, hDW⟩
    conv => whnf
    -- multiplied and taken away
    refine ⟨Nat × List Nat × Nat × Nat, fun x => x.1 ≤ m + 1 ∧ x.2.1.length = u.length ∧ WB x.2.1 ∧ x.2.2.1 < 4294967296 ∧ x.2.2.2 ≤ 1 ∧ sv x.2.1 j x.1 + D * val (v.take x.1) = sv u j x.1 + 4294967296 ^ x.1 * (x.2.2.1 + x.2.2.2) ∧ 4294967296 ^ x.1 * x.2.2.1 ≤ D * val (v.take x.1) ∧ ∀ p, p < j ∨ j + x.1 ≤ p → x.2.1.getD p 0 = u.getD p 0, fun x => m + 1 - x.1,
      fun x => ⟨[.win 0 1 j (m + 1), .p (.sl (wl v)), .top, .top, .top, .top, iU D, .top, .top, .top, iU x.2.2.1, iW x.2.2.2, .top, .top, .top, .top, .top, .top, .top, .top, .top, .top, .top, .top, .top, .top, .top, .top, .top, .top, .top, .top, .top, .top, .top, .top, .top, .top, .top, .top, .top, .top, .top, .top, .top, .top, .top, .top, .top, .top, .top, .top, .top, .top, .top, .top, .top, .top, .top, .top, .top, .top, .top, .top, .top, .top, .top, .top, .top, .top, .top, .top, .top, .top, .top, .top, .top, .top, .top, .top, .top, .top, iI ((m + 1 : Nat) : Int), iI x.1, .top, .top, .top, .top, .top, .top, .top, .top, .top, .top, .top, .top, .top, .top, .top, .top, .top, .top, .top, .top, .top, .top, .top, .top, .top, .top, .top, .top, .top, .top, .top, .top, .top, .top, .top, .top, .top, .top, .top, .top, .top, .top, .top, .top, .top, .top, .top, .top, .top, .top, .top, .top, .top, .top, .top, .top, .top], [some (.row 1 (wl x.2.1) true), some (.row 1 (wl qs) true)]⟩, [], (0, u, 0, 0), ?_, ?_⟩
    · conv => whnf
      repeat ((first | refine ⟨.inl rfl, ?_⟩ | refine ⟨rfl, ?_⟩); conv => whnf)
      exact ⟨Nat.zero_le _, rfl, hu, by simp, by simp, by simp [sv, val], by simp [val], fun _ _ => rfl⟩
    · rintro ⟨i, l, c, b⟩ ⟨h1, h2, h3, h4, h5, h6, h7, h8⟩
      simp only at h1 h2 h3 h4 h5 h6 h7 h8
      refine atS (s' := ⟨[.win 0 1 j (m + 1), .p (.sl (wl v)), .top, .top, .top, .top, iU D, .top, .top, .top, iU c, iW b, .top, .top, .top, .top, .top, .top, .top, .top, .top, .top, .top, .top, .top, .top, .top, .top, .top, .top, .top, .top, .top, .top, .top, .top, .top, .top, .top, .top, .top, .top, .top, .top, .top, .top, .top, .top, .top, .top, .top, .top, .top, .top, .top, .top, .top, .top, .top, .top, .top, .top, .top, .top, .top, .top, .top, .top, .top, .top, .top, .top, .top, .top, .top, .top, .top, .top, .top, .top, .top, .top, iI ((m + 1 : Nat) : Int), iI i, .top, .top, .top, .top, .top, .top, .top, .top, .top, .top, .top, .top, .top, .top, .top, .top, .top, .top, .top, .top, .top, .top, .top, .top, .top, .top, .top, .top, .top, .top, .top, .top, .top, .top, .top, .top, .top, .top, .top, .top, .top, .top, .top, .top, .top, .top, .top, .top, .top, .top, .top, .top, .top, .top, .top, .top, .top], [some (.row 1 (wl l) true), some (.row 1 (wl qs) true)]⟩) rfl ?_
      conv => whnf
      refine if_of (fun hi => ?_) (fun hi => ?_)
      · conv => whnf
        refine ⟨_, at_call v hv i, ?_⟩
        conv => whnf
        have wv := hv.getD i
        have hil : j + i < l.length := by omega
        generalize hy' : v.getD i 0 = y at wv ⊢
        have hm : D * y ≤ 4294967295 * 4294967295 := Nat.mul_le_mul (by omega) (by omega)
        obtain ⟨p, hp⟩ : ∃ p, p = D * y + c := ⟨_, rfl⟩
        have p1 : IntKind.wrap .u64 (c + IntKind.wrap .u64 ((D : Int) * IntKind.wrap .u64 (y : Int))) = (p : Int) := by
          rw [u64_nn (show y < 18446744073709551616 by omega), ← Int.natCast_mul]
          generalize D * y = z at *
          rw [u64_nn (by omega), wu64 (by omega) (by omega)]; omega
        rw [p1]
        have hi : i < m + 1 := by omega
        have wl' := h3.getD (j + i)
        have hx : l[j + i] = l.getD (j + i) 0 := (getD_at hil).symm
        have hu0 : l.getD (j + i) 0 = u.getD (j + i) 0 := h8 _ (.inr (Nat.le_refl _))
        refine chk_of (by first | omega | (simp only [wl_len, ul_len] at *; omega)) ?_
        conv => whnf
        refine obind_of (wl_get hil) ?_
        conv => whnf
        rw [hx]
        generalize hx' : l.getD (j + i) 0 = x at wl' hu0 ⊢
        have w1 : IntKind.wrap .u32 (p : Int) = ((p % 4294967296 : Nat) : Int) := by simp [IntKind.wrap, IntKind.bits, IntKind.signed]
        rw [w1]
        refine ⟨_, sub32_call x (p % 4294967296) b wl' (Nat.mod_lt _ (by omega)) h5, ?_⟩
        conv => whnf
        refine chk_of (by first | omega | (simp only [wl_len, ul_len] at *; omega)) ?_
        conv => whnf
        refine chk_of (by first | omega | (simp only [wl_len, ul_len] at *; omega)) ?_
        conv => whnf
        have eb : (if x < p % 4294967296 + b then 1 else 0 : Nat) ≤ 1 := by split <;> omega
        refine ⟨(i + 1, l.set (j + i) ((4294967296 + x - p % 4294967296 - b) % 4294967296), p / 4294967296, if x < p % 4294967296 + b then 1 else 0), ?_⟩
        conv => whnf
        repeat ((first | refine ⟨.inl rfl, ?_⟩ | refine ⟨rfl, ?_⟩); conv => whnf)
        refine ⟨.inl (vi (by rw [shr32])), ?_⟩
        conv => whnf
        repeat ((first | refine ⟨.inl rfl, ?_⟩ | refine ⟨rfl, ?_⟩); conv => whnf)
        refine ⟨.inl (vi (by rw [wi64 (by omega) (by omega)]; rfl)), ?_⟩
        conv => whnf
        refine ⟨.inl (wl_set' (l := l) (i := ((j + i : Nat) : Int)) rfl rfl), ?_⟩
        conv => whnf
        repeat ((first | refine ⟨.inl rfl, ?_⟩ | refine ⟨rfl, ?_⟩); conv => whnf)
        have k1 : (4294967296 + x - p % 4294967296 - b) % 4294967296 + (D * y + c) + b = x + 4294967296 * (p / 4294967296 + (if x < p % 4294967296 + b then 1 else 0)) := by split <;> omega
        have hd : (4294967296 + x - p % 4294967296 - b) % 4294967296 < 4294967296 := Nat.mod_lt _ (by omega)
        generalize (4294967296 + x - p % 4294967296 - b) % 4294967296 = d at *
        generalize (if x < p % 4294967296 + b then 1 else 0 : Nat) = e at *
        have sl : sv (l.set (j + i) d) j i = sv l j i := sv_congr fun p h1 h2 => by rw [getD_set _ _ _ _ hil, if_neg (by omega)]
        refine ⟨⟨hi, by simp [h2], h3.set _ hd, by show p / 4294967296 < 4294967296; omega, eb, ?_, ?_, ?_⟩, by simp only; omega⟩
        · show sv (l.set (j + i) d) j (i + 1) + D * val (v.take (i + 1)) = sv u j (i + 1) + 4294967296 ^ (i + 1) * (p / 4294967296 + e)
          rw [sv_succ, sv_succ, sl, getD_set _ _ _ _ hil, if_pos rfl, val_take_succ, hy', ← hu0, Nat.pow_succ]
          generalize 4294967296 ^ i = P at *
          generalize p / 4294967296 + e = w at *
          grind
        · show 4294967296 ^ (i + 1) * (p / 4294967296) ≤ D * val (v.take (i + 1))
          rw [val_take_succ, hy', Nat.pow_succ, Nat.mul_assoc, Nat.mul_add]
          have : 4294967296 ^ i * (4294967296 * (p / 4294967296)) ≤ 4294967296 ^ i * (D * y + c) := Nat.mul_le_mul_left _ (by omega)
          rw [Nat.mul_add] at this
          have e : D * (4294967296 ^ i * y) = 4294967296 ^ i * (D * y) := Nat.mul_left_comm _ _ _
          omega
        · intro p' hp'
          simp only at hp' ⊢
          rw [getD_set _ _ _ _ hil, if_neg (by omega)]
          exact h8 _ (by omega)
      · conv => whnf
        have hin : i = m + 1 := by omega
        subst hin
        have hv' : v.take (m + 1) = v := List.take_of_length_le (by omega)
        rw [hv', ← hV] at h6 h7
        rw [← hWW] at h6
        have hP : 4294967296 ^ (m + 1) = 4294967296 ^ m * 4294967296 := by rw [Nat.pow_succ]
        have hqv : D * V < 4294967296 ^ (m + 1) := by
          rw [hP]
          have h1 : D * V ≤ 4294967295 * V := Nat.mul_le_mul_right _ (by omega)
          omega
        have hc0 : c = 0 := by
          rcases Nat.eq_zero_or_pos c with h | h
          · exact h
          · have : 4294967296 ^ (m + 1) * 1 ≤ 4294967296 ^ (m + 1) * c := Nat.mul_le_mul_left _ h
            omega
        subst hc0
        clear h7
        -- added back
        refine ⟨Nat × List Nat × Nat, fun x => x.1 < 4294967296 ∧ x.2.1.length = u.length ∧ WB x.2.1 ∧ x.2.2 ≤ 1 ∧ sv x.2.1 j (m + 1) + x.1 * V = W + 4294967296 ^ (m + 1) * x.2.2 ∧ W < (x.1 + 1) * V ∧ ∀ p, p < j ∨ j + m + 1 ≤ p → x.2.1.getD p 0 = u.getD p 0, fun x => x.1,
          fun x => ⟨[.win 0 1 j (m + 1), .p (.sl (wl v)), .top, .top, .top, .top, iU x.1, .top, .top, .top, .top, iW x.2.2, .top, .top, .top, .top, .top, .top, .top, .top, .top, .top, .top, .top, .top, .top, .top, .top, .top, .top, .top, .top, .top, .top, .top, .top, .top, .top, .top, .top, .top, .top, .top, .top, .top, .top, .top, .top, .top, .top, .top, .top, .top, .top, .top, .top, .top, .top, .top, .top, .top, .top, .top, .top, .top, .top, .top, .top, .top, .top, .top, .top, .top, .top, .top, .top, .top, .top, .top, .top, .top, .top, .top, .top, .top, .top, .top, .top, .top, .top, .top, .top, .top, .top, .top, .top, .top, .top, .top, .top, .top, .top, .top, .top, .top, .top, .top, .top, .top, .top, .top, .top, .top, .top, .top, .top, .top, .top, .top, .top, .top, .top, .top, .top, .top, .top, .top, .top, .top, .top, .top, .top, .top, .top, .top, .top, .top, .top, .top, .top, .top], [some (.row 1 (wl x.2.1) true), some (.row 1 (wl qs) true)]⟩, [], (D, l, b), ?_, ?_⟩
        · conv => whnf
          repeat ((first | refine ⟨.inl rfl, ?_⟩ | refine ⟨rfl, ?_⟩); conv => whnf)
          exact ⟨hD, h2, h3, h5, by simpa using h6, hDW, fun p hp => h8 p (by omega)⟩
        · rintro ⟨dg, l2, b2⟩ ⟨k1, k2, k3, k4, k5, k6, k7⟩
          simp only at k1 k2 k3 k4 k5 k6 k7
          refine atS (s' := ⟨[.win 0 1 j (m + 1), .p (.sl (wl v)), .top, .top, .top, .top, iU dg, .top, .top, .top, .top, iW b2, .top, .top, .top, .top, .top, .top, .top, .top, .top, .top, .top, .top, .top, .top, .top, .top, .top, .top, .top, .top, .top, .top, .top, .top, .top, .top, .top, .top, .top, .top, .top, .top, .top, .top, .top, .top, .top, .top, .top, .top, .top, .top, .top, .top, .top, .top, .top, .top, .top, .top, .top, .top, .top, .top, .top, .top, .top, .top, .top, .top, .top, .top, .top, .top, .top, .top, .top, .top, .top, .top, .top, .top, .top, .top, .top, .top, .top, .top, .top, .top, .top, .top, .top, .top, .top, .top, .top, .top, .top, .top, .top, .top, .top, .top, .top, .top, .top, .top, .top, .top, .top, .top, .top, .top, .top, .top, .top, .top, .top, .top, .top, .top, .top, .top, .top, .top, .top, .top, .top, .top, .top, .top, .top, .top, .top, .top, .top, .top, .top], [some (.row 1 (wl l2) true), some (.row 1 (wl qs) true)]⟩) rfl ?_
          have hb2 : b2 = 0 ∨ b2 = 1 := by omega
          rcases hb2 with rfl | rfl
          · conv => whnf
            rw [Nat.mul_zero, Nat.add_zero] at k5
            refine ⟨l2, dg, ?_, rfl, k2, k3, k7, k5, ?_, k1⟩
            · show [AV.p (.val (.int .u32 (IntKind.wrap .u32 (dg : Int))))] = _
              rw [u32_nn k1]
            · rw [Nat.add_mul, Nat.one_mul] at k6
              generalize dg * V = z at *
              generalize sv l2 j (m + 1) = y at *
              omega
          · conv => whnf
            have bs := sv_lt k3 j (m + 1)
            have hdg : 1 ≤ dg := by
              rcases Nat.eq_zero_or_pos dg with h | h
              · subst h; omega
              · exact h
            have e1 : (dg - 1) * V + V = dg * V := by
              rw [← Nat.succ_mul]; congr 1; omega
            have hWd : W < dg * V := by
              clear hqv hP hVV
              rw [Nat.mul_one] at k5
              generalize 4294967296 ^ (m + 1) = P at bs k5
              omega
            rw [show IntKind.wrap .u64 ((dg : Int) - 1) = ((dg - 1 : Nat) : Int) by rw [wu64 (by omega) (by omega)]; omega]
            refine ⟨Nat × List Nat × Nat, fun x => x.1 ≤ m + 1 ∧ x.2.1.length = u.length ∧ WB x.2.1 ∧ x.2.2 ≤ 1 ∧ sv x.2.1 j x.1 + 4294967296 ^ x.1 * x.2.2 = sv l2 j x.1 + val (v.take x.1) ∧ ∀ p, p < j ∨ j + x.1 ≤ p → x.2.1.getD p 0 = l2.getD p 0, fun x => m + 1 - x.1,
              fun x => ⟨[.win 0 1 j (m + 1), .p (.sl (wl v)), .top, .top, .top, .top, iU (dg - 1 : Nat), .top, .top, .top, .top, iW 1, .top, iW x.2.2, .top, .top, .top, .top, .top, .top, .top, .top, .top, .top, .top, .top, .top, .top, .top, .top, .top, .top, .top, .top, .top, .top, .top, .top, .top, .top, .top, .top, .top, .top, .top, .top, .top, .top, .top, .top, .top, .top, .top, .top, .top, .top, .top, .top, .top, .top, .top, .top, .top, .top, .top, .top, .top, .top, .top, .top, .top, .top, .top, .top, .top, .top, .top, .top, .top, .top, .top, .top, .top, .top, .top, .top, .top, .top, .top, .top, .top, .top, .top, .top, .top, .top, .top, .top, .top, .top, .top, .top, .top, .top, .top, .top, .top, .top, .top, .top, .top, .top, .top, .top, .top, .top, iI ((m + 1 : Nat) : Int), iI x.1, .top, .top, .top, .top, .top, .top, .top, .top, .top, .top, .top, .top, .top, .top, .top, .top, .top, .top, .top, .top, .top, .top, .top], [some (.row 1 (wl x.2.1) true), some (.row 1 (wl qs) true)]⟩, [], (0, l2, 0), ?_, ?_⟩
            · conv => whnf
              repeat ((first | refine ⟨.inl rfl, ?_⟩ | refine ⟨rfl, ?_⟩); conv => whnf)
              exact ⟨Nat.zero_le _, k2, k3, by simp, by simp [sv, val], fun _ _ => rfl⟩
            · rintro ⟨i, l3, c⟩ ⟨h1, h2, h3, h4, h6, h8⟩
              simp only at h1 h2 h3 h4 h6 h8
              refine atS (s' := ⟨[.win 0 1 j (m + 1), .p (.sl (wl v)), .top, .top, .top, .top, iU (dg - 1 : Nat), .top, .top, .top, .top, iW 1, .top, iW c, .top, .top, .top, .top, .top, .top, .top, .top, .top, .top, .top, .top, .top, .top, .top, .top, .top, .top, .top, .top, .top, .top, .top, .top, .top, .top, .top, .top, .top, .top, .top, .top, .top, .top, .top, .top, .top, .top, .top, .top, .top, .top, .top, .top, .top, .top, .top, .top, .top, .top, .top, .top, .top, .top, .top, .top, .top, .top, .top, .top, .top, .top, .top, .top, .top, .top, .top, .top, .top, .top, .top, .top, .top, .top, .top, .top, .top, .top, .top, .top, .top, .top, .top, .top, .top, .top, .top, .top, .top, .top, .top, .top, .top, .top, .top, .top, .top, .top, .top, .top, .top, .top, iI ((m + 1 : Nat) : Int), iI i, .top, .top, .top, .top, .top, .top, .top, .top, .top, .top, .top, .top, .top, .top, .top, .top, .top, .top, .top, .top, .top, .top, .top], [some (.row 1 (wl l3) true), some (.row 1 (wl qs) true)]⟩) rfl ?_
              conv => whnf
              refine if_of (fun hi => ?_) (fun hi => ?_)
              · conv => whnf
                have hi : i < m + 1 := by omega
                have wv := hv.getD i
                have hil : j + i < l3.length := by omega
                have wl' := h3.getD (j + i)
                have hx : l3[j + i] = l3.getD (j + i) 0 := (getD_at hil).symm
                have hu0 : l3.getD (j + i) 0 = l2.getD (j + i) 0 := h8 _ (.inr (Nat.le_refl _))
                refine ⟨by kernel_rfl, ?_⟩
                conv => whnf
                refine chk_of (by first | omega | (simp only [wl_len, ul_len] at *; omega)) ?_
                conv => whnf
                refine obind_of (wl_get hil) ?_
                conv => whnf
                rw [hx]
                generalize hx' : l3.getD (j + i) 0 = x at wl' hu0 ⊢
                refine ⟨_, at_call v hv i, ?_⟩
                conv => whnf
                generalize hy' : v.getD i 0 = y at wv ⊢
                refine ⟨_, add32_call x y c wl' wv h4, ?_⟩
                conv => whnf
                obtain ⟨t, ht⟩ : ∃ t, t = x + y + c := ⟨_, rfl⟩
                rw [← ht]
                refine chk_of (by first | omega | (simp only [wl_len, ul_len] at *; omega)) ?_
                conv => whnf
                refine chk_of (by first | omega | (simp only [wl_len, ul_len] at *; omega)) ?_
                conv => whnf
                refine ⟨.inl (by kernel_rfl), ?_⟩
                conv => whnf
                refine ⟨(i + 1, l3.set (j + i) (t % 4294967296), t / 4294967296), ?_⟩
                conv => whnf
                repeat ((first | refine ⟨.inl rfl, ?_⟩ | refine ⟨rfl, ?_⟩); conv => whnf)
                refine ⟨.inl (vi (by rw [wi64 (by omega) (by omega)]; rfl)), ?_⟩
                conv => whnf
                refine ⟨.inl (wl_set' (l := l3) (i := ((j + i : Nat) : Int)) rfl rfl), ?_⟩
                conv => whnf
                repeat ((first | refine ⟨.inl rfl, ?_⟩ | refine ⟨rfl, ?_⟩); conv => whnf)
                have q1 : t % 4294967296 + 4294967296 * (t / 4294967296) = x + y + c := by omega
                have sl : sv (l3.set (j + i) (t % 4294967296)) j i = sv l3 j i := sv_congr fun p h1 h2 => by rw [getD_set _ _ _ _ hil, if_neg (by omega)]
                refine ⟨⟨hi, by simp [h2], h3.set _ (Nat.mod_lt _ (by omega)), by show t / 4294967296 ≤ 1; omega, ?_, ?_⟩, by simp only; omega⟩
                · show sv (l3.set (j + i) (t % 4294967296)) j (i + 1) + 4294967296 ^ (i + 1) * (t / 4294967296) = sv l2 j (i + 1) + val (v.take (i + 1))
                  rw [sv_succ, sv_succ, sl, getD_set _ _ _ _ hil, if_pos rfl, val_take_succ, hy', ← hu0, Nat.pow_succ]
                  generalize 4294967296 ^ i = P at *
                  generalize t / 4294967296 = w at *
                  generalize t % 4294967296 = d at *
                  grind
                · intro p' hp'
                  simp only at hp' ⊢
                  rw [getD_set _ _ _ _ hil, if_neg (by omega)]
                  exact h8 _ (by omega)
              · conv => whnf
                have hin : i = m + 1 := by omega
                subst hin
                rw [hv', ← hV] at h6
                refine ⟨(dg - 1, l3, 1 - c), ?_⟩
                conv => whnf
                repeat ((first | refine ⟨.inl rfl, ?_⟩ | refine ⟨rfl, ?_⟩); conv => whnf)
                refine ⟨.inl (vi (by rw [wu32 (by omega) (by omega)]; simp only; omega)), ?_⟩
                conv => whnf
                repeat ((first | refine ⟨.inl rfl, ?_⟩ | refine ⟨rfl, ?_⟩); conv => whnf)
                clear hqv hP hVV bs
                simp only
                have hc : c = 0 ∨ c = 1 := by clear h6 k5; omega
                have f1 : dg - 1 < 4294967296 := by clear h6 k5; omega
                have f2 : l3.length = u.length := h2
                have f3 : 1 - c ≤ 1 := by clear h6 k5; omega
                have f4 : dg - 1 < dg := by clear h6 k5; omega
                obtain ⟨P, hPP⟩ : ∃ P, P = 4294967296 ^ (m + 1) := ⟨_, rfl⟩
                rw [← hPP] at h6 k5 ⊢
                clear hPP
                refine ⟨⟨f1, f2, h3, f3, ?_, ?_, fun p hp => by rw [h8 p (by omega), k7 p hp]⟩, f4⟩
                · generalize sv l3 j (m + 1) = y3 at *
                  generalize sv l2 j (m + 1) = y2 at *
                  rcases hc with rfl | rfl <;> simp only [Nat.mul_zero, Nat.mul_one, Nat.add_zero, Nat.sub_zero, Nat.sub_self] at h6 k5 ⊢ <;> omega
                · rw [Nat.sub_add_cancel hdg]
                  exact hWd
end Go.Am

set_option linter.unusedVariables false
set_option linter.unusedSimpArgs false
namespace Go.Am
open Go Go.Proofs
set_option maxRecDepth 100000
set_option maxHeartbeats 4000000
/-- A normalized divisor. -/
theorem norm_gen (b n d x : Nat) (hn : (digs b).length = n + 2) (hx : (digs b).getD (n + 1) 0 = x) (k1 : 2147483648 ≤ x * d) (k2 : (x + 1) * d ≤ 4294967296) (k3 : 0 < d) :
    (digs (b * d)).length = n + 2 ∧ 2147483648 ≤ (digs (b * d)).getD (n + 1) 0 := by
  have wb := WB.digs b
  have e : (digs b).take (n + 2) = digs b := List.take_of_length_le (by omega)
  have hb1 := val_take_succ (digs b) (n + 1)
  rw [show n + 1 + 1 = n + 2 by omega, e, hx, val_digs] at hb1
  have hb2 := val_lt (wb.take (n + 1))
  rw [List.length_take, Nat.min_eq_left (by omega)] at hb2
  have hP : 4294967296 ^ (n + 2) = 4294967296 ^ (n + 1) * 4294967296 := by rw [Nat.pow_succ]
  have up : b * d < 4294967296 ^ (n + 2) := by
    have h1 : b < 4294967296 ^ (n + 1) * (x + 1) := by rw [Nat.mul_add]; omega
    have h2 : b * d < 4294967296 ^ (n + 1) * (x + 1) * d := Nat.mul_lt_mul_of_pos_right h1 k3
    have h3 : 4294967296 ^ (n + 1) * ((x + 1) * d) ≤ 4294967296 ^ (n + 1) * 4294967296 := Nat.mul_le_mul_left _ k2
    rw [Nat.mul_assoc] at h2
    omega
  have low : 4294967296 ^ (n + 1) * 2147483648 ≤ b * d := by
    have h1 : 4294967296 ^ (n + 1) * (x * d) ≤ b * d := by
      rw [← Nat.mul_assoc]
      exact Nat.mul_le_mul_right _ (by omega)
    exact Nat.le_trans (Nat.mul_le_mul_left _ k1) h1
  have wv := WB.digs (b * d)
  have hlen : (digs (b * d)).length = n + 2 := by
    have h1 := val_lt wv
    rw [val_digs] at h1
    rcases Nat.lt_or_ge (n + 1) (digs (b * d)).length with q | q
    · rcases Nat.lt_or_ge (n + 2) (digs (b * d)).length with q2 | q2
      · have h2 := trimL_last (trim_digs (b * d)) (fun e => by rw [e] at q; simp at q)
        rw [val_digs] at h2
        have : 4294967296 ^ (n + 2) ≤ 4294967296 ^ ((digs (b * d)).length - 1) := Nat.pow_le_pow_right (by omega) (by omega)
        omega
      · omega
    · have : 4294967296 ^ (digs (b * d)).length ≤ 4294967296 ^ (n + 1) := Nat.pow_le_pow_right (by omega) q
      have hp : 0 < 4294967296 ^ (n + 1) := Nat.pow_pos (by omega)
      omega
  refine ⟨hlen, ?_⟩
  have e' : (digs (b * d)).take (n + 2) = digs (b * d) := List.take_of_length_le (by omega)
  have hv1 := val_take_succ (digs (b * d)) (n + 1)
  rw [show n + 1 + 1 = n + 2 by omega, e', val_digs] at hv1
  have hv2 := val_lt (wv.take (n + 1))
  rw [List.length_take, Nat.min_eq_left (by omega)] at hv2
  rcases Nat.lt_or_ge ((digs (b * d)).getD (n + 1) 0) 2147483648 with q | q
  · exfalso
    have h1 : 4294967296 ^ (n + 1) * ((digs (b * d)).getD (n + 1) 0 + 1) ≤ 4294967296 ^ (n + 1) * 2147483648 := Nat.mul_le_mul_left _ q
    rw [Nat.mul_add] at h1
    omega
  · exact q
theorem lz_norm (x : Nat) (h0 : 0 < x) (hB : x < 4294967296) : ∃ s, s < 32 ∧ 32 - bl x = s ∧ 2147483648 ≤ x * 2 ^ s ∧ (x + 1) * 2 ^ s ≤ 4294967296 := by
  obtain ⟨h1, h2, h3⟩ := bl_pow (n := x) (by omega) h0
  have h4 : bl x ≤ 32 := by
    rcases Nat.lt_or_ge 32 (bl x) with q | q
    · have : 2 ^ 32 ≤ 2 ^ (bl x - 1) := Nat.pow_le_pow_right (by omega) (by omega)
      omega
    · exact q
  refine ⟨32 - bl x, by omega, rfl, ?_, ?_⟩
  · have e : (2147483648 : Nat) = 2 ^ (bl x - 1) * 2 ^ (32 - bl x) := by rw [← Nat.pow_add, show bl x - 1 + (32 - bl x) = 31 by omega]
    rw [e]; exact Nat.mul_le_mul_right _ h1
  · have e : (4294967296 : Nat) = 2 ^ bl x * 2 ^ (32 - bl x) := by rw [← Nat.pow_add, show bl x + (32 - bl x) = 32 by omega]
    rw [e]; exact Nat.mul_le_mul_right _ h2
theorem ndiv_call (a b : Nat) (hb : b ≠ 0) (hla : (digs a).length < 1099511626000) (hlb : (digs b).length < 1099511626000) :
    ACall Tryz.prog 232 [.sl (wl (digs a)), .sl (wl (digs b))] [.p (.sl (wl (digs (a / b)))), .p (.sl (wl (digs (a % b))))] := by
  refine acall_of_awp (hE [284]) Tryz.func232 rfl (by kernel_rfl) [] ?_
  conv => whnf
  refine ⟨_, ncmp_call a b (by omega) (by omega), ?_⟩
  conv => whnf
  by_cases hab : a < b
  · rw [show cmpN a b = -1 by simp [cmpN, hab]]
    conv => whnf
    refine ⟨.inl (by rw [Nat.div_eq_of_lt hab]; rfl), ?_⟩
    conv => whnf
    exact ⟨.inl (by rw [Nat.mod_eq_of_lt hab]), trivial⟩
  rw [decide_eq_false (show ¬ cmpN a b < 0 by simp only [cmpN, if_neg hab]; split <;> omega)]
  conv => whnf
  have hbp : 0 < (digs b).length := digs_pos hb
  by_cases h1 : (digs b).length = 1
  · rw [show (((wl (digs b)).length : Int) == 1) = true by simp [wl_len, h1]]
    conv => whnf
    refine obind_of (wl_get (l := digs b) (i := 0) (by omega)) ?_
    conv => whnf
    have hb0 : (digs b)[0]'(by omega) = b := by
      have e := val_take_succ (digs b) 0
      rw [List.take_of_length_le (by omega), val_digs, getD_at (by omega)] at e
      simp [val] at e
      exact e.symm
    have hbB := (WB.digs b).get (i := 0) (by omega)
    rw [hb0] at hbB
    rw [hb0]
    refine ⟨_, nword_call a b (by omega) (by omega) hbB, ?_⟩
    conv => whnf
    have hr : a % b < b := Nat.mod_lt _ (by omega)
    have nc := norm_call' [a % b] (WB.cons (by omega) WB.nil) (by simp)
    rw [show val [a % b] = a % b by simp [val]] at nc
    refine ⟨_, nc, ?_⟩
    conv => whnf
    refine ⟨.inl (by rfl), ?_⟩
    conv => whnf
    exact ⟨.inl rfl, trivial⟩
  rw [show (((wl (digs b)).length : Int) == 1) = false by simp only [wl_len, beq_eq_false_iff_ne]; omega]
  conv => whnf
  obtain ⟨n, hn⟩ : ∃ n, (digs b).length = n + 2 := ⟨(digs b).length - 2, by omega⟩
  have i1 : IntKind.wrap .i64 (((wl (digs b)).length : Nat) - 1) = ((n + 1 : Nat) : Int) := by rw [wl_len, wi64 (by omega) (by omega)]; omega
  rw [i1]
  conv => whnf
  refine obind_of (wl_at (n + 1) rfl (by omega)) ?_
  conv => whnf
  have htop := (WB.digs b).getD (n + 1)
  have hx := getD_at (l := digs b) (i := n + 1) (by omega)
  have hlast := last_pos hb
  rw [hn, show n + 2 - 1 = n + 1 by omega] at hlast
  rw [← hx]
  obtain ⟨x, hxx⟩ : ∃ x, (digs b).getD (n + 1) 0 = x := ⟨_, rfl⟩
  rw [hxx] at htop hlast ⊢
  obtain ⟨s, hs, hsb, k1, k2⟩ := lz_norm x (by omega) htop
  have lz := lz32_call x htop
  rw [hsb] at lz
  refine ⟨_, lz, ?_⟩
  conv => whnf
  have sx := shl_call (digs a) s (WB.digs a) (by omega) hs
  have sy := shl_call (digs b) s (WB.digs b) (by omega) hs
  rw [val_digs] at sx sy
  have hd0 : 0 < 2 ^ s := Nat.pow_pos (by omega)
  have hdS : 2 ^ s ≤ 2147483648 := Nat.pow_le_pow_right (by omega) (show s ≤ 31 by omega)
  have sh := fun r h => nshr_call (r * 2 ^ s) s h hs
  obtain ⟨hv1, hv2⟩ := norm_gen b n (2 ^ s) x hn hxx k1 k2 hd0
  have shd : ∀ r, r * 2 ^ s / 2 ^ s = r := fun r => Nat.mul_div_cancel _ hd0
  obtain ⟨d, hd⟩ : ∃ d, d = 2 ^ s := ⟨_, rfl⟩
  rw [← hd] at sx sy k1 k2 hd0 hdS hv1 hv2
  rw [← hd] at sh shd
  refine ⟨_, sx, ?_⟩
  conv => whnf
  refine ⟨_, sy, ?_⟩
  conv => whnf
  have hdB : d < 4294967296 := by omega
  have hlab : (digs b).length ≤ (digs a).length := digs_len_mono (by omega)
  have hva := val_lt (WB.digs a)
  have hvb := val_lt (WB.digs b)
  rw [val_digs] at hva hvb
  have hub : b * d < 4294967296 ^ ((digs b).length + 1) := by
    rw [Nat.pow_succ]
    exact Nat.lt_of_lt_of_le (Nat.mul_lt_mul_of_pos_right hvb hd0) (Nat.mul_le_mul_left _ (Nat.le_of_lt hdB))
  have hua : a * d < 4294967296 ^ ((digs a).length + 1) := by
    rw [Nat.pow_succ]
    exact Nat.lt_of_lt_of_le (Nat.mul_lt_mul_of_pos_right hva hd0) (Nat.mul_le_mul_left _ (Nat.le_of_lt hdB))
  have nc := norm_call' (wrd ((digs b).length + 1) (b * d)) (WB.wrd _ _) (by rw [wrd_len]; omega)
  rw [val_wrd _ _ hub] at nc
  refine ⟨_, nc, ?_⟩
  conv => whnf
  obtain ⟨M, hM⟩ : ∃ M, M = (digs a).length + 1 := ⟨_, rfl⟩
  obtain ⟨N, hN⟩ : ∃ N, N = n + 2 := ⟨_, rfl⟩
  rw [← hN] at hn hv1
  have hLu : (wl (wrd ((digs a).length + 1) (a * d))).length = M := by rw [wl_len, wrd_len, hM]
  rw [← hM] at hua
  have hbw : 4294967296 ^ (N - 1) ≤ b := by
    have h2 := trimL_last (trim_digs b) (fun e => by rw [e] at hbp; simp at hbp)
    rwa [val_digs, hn] at h2
  have wv := WB.digs (b * d)
  have vv := val_digs (b * d)
  have hV0 : 0 < b * d := Nat.mul_pos (by omega) hd0
  have hV1 := val_lt wv
  rw [vv, hv1] at hV1
  generalize hVV : digs (b * d) = V at *
  have i3 : IntKind.wrap .i64 ((((wl (wrd ((digs a).length + 1) (a * d))).length : Nat) : Int) - ((wl V).length : Nat)) = ((M - N : Nat) : Int) := by
    rw [hLu, wl_len, wi64 (by omega) (by omega)]; omega
  obtain ⟨R, hR⟩ : ∃ R, R = M - N := ⟨_, rfl⟩
  rw [i3, ← hR]
  conv => whnf
  refine chk_of (rfl) ?_
  conv => whnf
  refine chk_of (by show (4 : Int) * (R : Nat) ≤ 281474976710656; omega) ?_
  conv => whnf
  refine chk_of (by first | omega | (simp only [wl_len, ul_len] at *; omega)) ?_
  conv => whnf
  refine ⟨Nat × List Nat × List Nat, fun x => x.1 ≤ R ∧ x.2.1.length = M ∧ WB x.2.1 ∧ x.2.2.length = R ∧ WB x.2.2 ∧ val x.2.1 + 4294967296 ^ (R - x.1) * (b * d * val (x.2.2.drop (R - x.1))) = a * d ∧ val (x.2.1.drop (R - x.1)) < b * d, fun x => R - x.1,
    fun x => ⟨[.top, .top, .top, .top, .top, .top, .top, .top, iI s, .own 0 1 M, .p (.sl (wl V)), .own 1 1 R, .top, .top, .top, .top, .top, .top, .top, .top, .top, .top, .top, .top, .top, .top, .top, .top, .top, .top, .top, .top, .top, .top, .top, .top, .top, .top, .top, .top, .top, .top, .top, .top, .top, .top, .top, .top, .top, .top, .top, .top, .top, .top, .top, iI R, iI x.1, .top, .top, .top, .top, .top, .top, .top, .top, .top, .top, .top, .top, .top, .top, .top, .top, .top, .top, .top, .top, .top, .top, .top, .top, .top, .top, .top], [some (.row 1 (wl x.2.1) true), some (.row 1 (wl x.2.2) true)]⟩, [], (0, wrd M (a * d), List.replicate R 0), ?_, ?_⟩
  · conv => whnf
    repeat ((first | refine ⟨.inl rfl, ?_⟩ | refine ⟨rfl, ?_⟩); conv => whnf)
    refine ⟨by exact hLu, ?_⟩
    conv => whnf
    repeat ((first | refine ⟨.inl rfl, ?_⟩ | refine ⟨rfl, ?_⟩); conv => whnf)
    refine ⟨.inl (by rw [hM]), ?_⟩
    conv => whnf
    refine ⟨.inl (by simpa using wl_rep R), ?_⟩
    conv => whnf
    have hva' := val_wrd M (a * d) hua
    refine ⟨Nat.zero_le _, wrd_len _ _, WB.wrd _ _, by simp, WB.zeros _, ?_, ?_⟩
    · show val (wrd M (a * d)) + 4294967296 ^ (R - 0) * (b * d * val ((List.replicate R 0).drop (R - 0))) = a * d
      rw [List.drop_of_length_le (by simp), hva']; simp [val]
    · show val ((wrd M (a * d)).drop (R - 0)) < b * d
      rw [Nat.sub_zero]
      have h2 := val_drop_parts (wrd M (a * d)) 0 R (by rw [wrd_len]; omega)
      rw [List.drop_zero, hva', Nat.zero_add] at h2
      have h3 : a < b * 4294967296 ^ R := by
        have e : 4294967296 ^ (digs a).length = 4294967296 ^ (N - 1) * 4294967296 ^ R := by rw [← Nat.pow_add]; congr 1; omega
        rw [e] at hva
        exact Nat.lt_of_lt_of_le hva (Nat.mul_le_mul_right _ hbw)
      have h4 : a * d < b * 4294967296 ^ R * d := Nat.mul_lt_mul_of_pos_right h3 hd0
      rw [Nat.mul_right_comm, Nat.mul_comm (b * d)] at h4
      exact Nat.lt_of_mul_lt_mul_left (a := 4294967296 ^ R) (by omega)
  · rintro ⟨i, u, qs⟩ ⟨h2, h3, h4, h5, h6, h7, h8⟩
    simp only at h2 h3 h4 h5 h6 h7 h8
    refine atS (s' := ⟨[.top, .top, .top, .top, .top, .top, .top, .top, iI s, .own 0 1 M, .p (.sl (wl V)), .own 1 1 R, .top, .top, .top, .top, .top, .top, .top, .top, .top, .top, .top, .top, .top, .top, .top, .top, .top, .top, .top, .top, .top, .top, .top, .top, .top, .top, .top, .top, .top, .top, .top, .top, .top, .top, .top, .top, .top, .top, .top, .top, .top, .top, .top, iI R, iI i, .top, .top, .top, .top, .top, .top, .top, .top, .top, .top, .top, .top, .top, .top, .top, .top, .top, .top, .top, .top, .top, .top, .top, .top, .top, .top, .top], [some (.row 1 (wl u) true), some (.row 1 (wl qs) true)]⟩) rfl ?_
    conv => whnf
    by_cases hi : i < R
    · rw [decide_eq_true (show (i : Int) < R by omega)]
      conv => whnf
      obtain ⟨k, hk⟩ : ∃ k, k = R - 1 - i := ⟨_, rfl⟩
      have ek : IntKind.wrap .i64 (IntKind.wrap .i64 ((R : Int) - 1) - i) = (k : Int) := by
        rw [wi64 (n := (R : Int) - 1) (by omega) (by omega), wi64 (by omega) (by omega)]; omega
      have i4 : IntKind.wrap .i64 (IntKind.wrap .i64 ((k : Int) + ((wl V).length : Nat)) + 1) = ((k + N + 1 : Nat) : Int) := by
        rw [wl_len, wi64 (n := (k : Int) + V.length) (by omega) (by omega), wi64 (by omega) (by omega)]; omega
      rw [ek, i4]
      conv => whnf
      refine chk_of (by first | omega | (simp only [wl_len, ul_len] at *; omega)) ?_
      conv => whnf
      refine chk_of (by first | omega | (simp only [wl_len, ul_len] at *; omega)) ?_
      conv => whnf
      refine chk_of (by first | omega | (simp only [wl_len, ul_len] at *; omega)) ?_
      conv => whnf
      have i5 : (((k + N + 1 : Nat) : Int) - (k : Int)).toNat = N + 1 := by omega
      rw [i5]
      rw [show R - i = k + 1 by omega] at h7 h8
      have t1 := val_drop_parts u k (N + 1) (by omega)
      have t2 := val_drop_parts u (k + 1) N (by omega)
      have t3 := val_drop u k (by omega)
      have t4 := val_parts u k (N + 1) (by omega)
      have hz : val (u.drop (k + 1 + N)) = 0 := by
        rcases Nat.eq_zero_or_pos (val (u.drop (k + 1 + N))) with h | h
        · exact h
        · have : 4294967296 ^ N * 1 ≤ 4294967296 ^ N * val (u.drop (k + 1 + N)) := Nat.mul_le_mul_left _ h
          omega
      rw [show k + (N + 1) = k + 1 + N by omega, hz] at t1 t4
      have hWB : sv u k (N + 1) < 4294967296 * (b * d) := by
        have := h4.get (i := k) (by omega)
        omega
      refine SCall.mono (reduce_call u V qs k n N hN h4 wv hv1 (by omega) (by omega) hv2 (by rw [vv]; exact hWB)) ?_
      rintro xs m' ⟨u2, dg, rfl, rfl, r2, r3, r4, r5, r6, r1⟩
      rw [vv] at r5 r6
      conv => whnf
      refine chk_of (by first | omega | (simp only [wl_len, ul_len] at *; omega)) ?_
      conv => whnf
      refine chk_of (by first | omega | (simp only [wl_len, ul_len] at *; omega)) ?_
      conv => whnf
      refine ⟨(i + 1, u2, qs.set k dg), ?_⟩
      conv => whnf
      repeat ((first | refine ⟨.inl rfl, ?_⟩ | refine ⟨rfl, ?_⟩); conv => whnf)
      refine ⟨.inl (vi (by rw [wi64 (by omega) (by omega)]; rfl)), ?_⟩
      conv => whnf
      repeat ((first | refine ⟨.inl rfl, ?_⟩ | refine ⟨rfl, ?_⟩); conv => whnf)
      refine ⟨.inl (wl_set' (l := qs) (i := (k : Int)) rfl rfl), ?_⟩
      conv => whnf
      have hqk : k < qs.length := by omega
      have e1 : (qs.set k dg).drop k = dg :: qs.drop (k + 1) := by
        rw [List.drop_eq_getElem_cons (by simpa using hqk), List.getElem_set_self, List.drop_set_of_lt (by omega)]
      have e2 : u2.drop (k + 1 + N) = u.drop (k + 1 + N) := drop_congr (by omega) fun p hp => r4 p (by omega)
      have e3 : u2.take k = u.take k := take_congr (by omega) fun p hp => r4 p (.inl hp)
      have t5 := val_parts u2 k (N + 1) (by omega)
      have t6 := val_drop_parts u2 k (N + 1) (by omega)
      rw [show k + (N + 1) = k + 1 + N by omega, e2, hz, Nat.mul_zero, Nat.add_zero] at t5 t6
      rw [Nat.mul_zero, Nat.add_zero] at t4
      rw [e3] at t5
      refine ⟨⟨hi, by simp only; omega, r3, by simpa using h5, h6.set _ r1, ?_, ?_⟩, by simp only; omega⟩
      · show val u2 + 4294967296 ^ (R - (i + 1)) * (b * d * val ((qs.set k dg).drop (R - (i + 1)))) = a * d
        rw [show R - (i + 1) = k by omega, e1, t5, ← h7, t4, ← r5, Nat.pow_succ]
        simp only [val]
        generalize val (qs.drop (k + 1)) = z
        generalize sv u2 k (N + 1) = y
        generalize val (u.take k) = x
        generalize 4294967296 ^ k = P
        generalize b * d = D
        grind
      · show val (u2.drop (R - (i + 1))) < b * d
        rw [show R - (i + 1) = k by omega, t6]; exact r6
    · rw [decide_eq_false (show ¬ (i : Int) < R by omega)]
      conv => whnf
      refine ⟨_, norm_call' qs h6 (by omega), ?_⟩
      conv => whnf
      refine ⟨_, norm_call' u h4 (by omega), ?_⟩
      conv => whnf
      rw [show R - i = 0 by omega] at h7 h8
      simp only [List.drop_zero, Nat.pow_zero, Nat.one_mul] at h7 h8
      have hQ : val qs = a / b := by
        have e1 : a * d / (b * d) = a / b := Nat.mul_div_mul_right _ _ hd0
        rw [← e1, ← h7, Nat.add_mul_div_left _ _ hV0, Nat.div_eq_of_lt h8]; omega
      have hRm : val u = a % b * d := by
        have e1 : a * d % (b * d) = a % b * d := Nat.mul_mod_mul_right _ _ _
        have e2 : val u = a * d % (b * d) := by rw [← h7, Nat.add_mul_mod_self_left, Nat.mod_eq_of_lt h8]
        rw [e2, e1]
      have hul := trimL_len u
      rw [digs_of h4, hRm] at hul
      have shc := sh (a % b) (by omega)
      rw [shd] at shc
      rw [hRm]
      refine ⟨_, shc, ?_⟩
      conv => whnf
      refine ⟨.inl (by rw [hQ]), ?_⟩
      conv => whnf
      exact ⟨.inl rfl, trivial⟩
end Go.Am

set_option linter.unusedVariables false
set_option linter.unusedSimpArgs false
namespace Go.Am
open Go Go.Proofs
set_option maxRecDepth 100000
set_option maxHeartbeats 4000000
theorem iof_call (n : Int) (h0 : -9223372036854775808 ≤ n) (h1 : n < 9223372036854775808) : ACall Tryz.prog 93 [nI n] [.p (.agg (intC n))] := by
  have hl : (digs n.natAbs).length < 35184372088832 := by have := digs_len_of (n := n.natAbs) (L := 2) (by omega); omega
  refine acall_of_awp (hE []) Tryz.func93 rfl (by kernel_rfl) [] ?_
  conv => whnf
  by_cases hn : n < 0
  · rw [decide_eq_true hn]
    conv => whnf
    have e1 : IntKind.wrap .u64 (0 - IntKind.wrap .u64 n) = ((n.natAbs : Nat) : Int) := by
      simp only [IntKind.wrap, IntKind.bits, IntKind.signed]; simp; omega
    rw [e1]
    refine ⟨_, natural_call n.natAbs (by omega), ?_⟩
    conv => whnf
    refine ⟨_, signed_call n.natAbs true hl, ?_⟩
    conv => whnf
    exact ⟨.inl (intC_eq (by simp; omega)), trivial⟩
  · rw [decide_eq_false hn]
    conv => whnf
    have e1 : IntKind.wrap .u64 n = ((n.natAbs : Nat) : Int) := by rw [wu64 (by omega) (by omega)]; omega
    rw [e1]
    refine ⟨_, natural_call n.natAbs (by omega), ?_⟩
    conv => whnf
    refine ⟨_, signed_call n.natAbs false hl, ?_⟩
    conv => whnf
    exact ⟨.inl (intC_eq (by simp; omega)), trivial⟩
theorem isign_call (z : Int) : ACall Tryz.prog 105 [.agg (intC z)] [.p (nI (sgn z))] := by
  obtain ⟨s, n, e, hz, hs, hn⟩ := intC_cases z
  rw [e]
  cases s with
  | true =>
    refine acall_of_awp (hE []) Tryz.func105 rfl (by kernel_rfl) [] ?_
    conv => whnf
    refine ⟨.inl (vi ?_), trivial⟩
    have := hs rfl
    have : z < 0 := by rw [hz]; simp; omega
    simp [sgn, this]
  | false =>
    have hz : z = n := by simpa using hz
    refine acall_of_awp (hE []) Tryz.func105 rfl (by kernel_rfl) [] ?_
    conv => whnf
    refine ⟨.inl (vi ?_), trivial⟩
    rw [wl_len]
    by_cases h0 : n = 0
    · subst h0; simp [sgn, hz, digs_zero]
    · have := digs_pos h0
      simp only [sgn]
      rw [if_neg (show ¬ z < 0 by omega), if_neg (show ¬ z = 0 by omega)]
      split <;> omega
theorem icmp_call (a b : Int) (ha : ln a < 1099511627000) (hb : ln b < 1099511627000) : ACall Tryz.prog 97 [.agg (intC a), .agg (intC b)] [.p (nI (cmpZ a b))] := by
  have sa := isign_call a
  have sb := isign_call b
  obtain ⟨s, m, e, hz, hs, hm⟩ := intC_cases a
  obtain ⟨t, n, e', hz', ht, hn⟩ := intC_cases b
  have hl : (digs m).length < 1099511627000 := by rw [← hm]; exact ha
  have hl' : (digs n).length < 1099511627000 := by rw [← hn]; exact hb
  rw [e] at sa
  rw [e'] at sb
  rw [e, e']
  cases s <;> cases t
  · refine acall_of_awp (hE []) Tryz.func97 rfl (by kernel_rfl) [] ?_
    conv => whnf
    refine ⟨_, ncmp_call m n (by omega) (by omega), ?_⟩
    conv => whnf
    refine ⟨.inl (vi ?_), trivial⟩
    simp at hz hz'
    simp only [cmpN, cmpZ, hz, hz', Int.ofNat_lt]
  · have h2 := ht rfl
    simp at hz hz'
    have hb0 : b < 0 := by omega
    refine acall_of_awp (hE []) Tryz.func97 rfl (by kernel_rfl) [] ?_
    conv => whnf
    refine ⟨by kernel_rfl, ?_⟩
    conv => whnf
    refine ⟨_, sa, ?_⟩
    conv => whnf
    refine ⟨_, sb, ?_⟩
    conv => whnf
    refine ⟨_, compareI_call (sgn a) (sgn b), ?_⟩
    conv => whnf
    refine ⟨.inl (by kernel_rfl), ?_⟩
    conv => whnf
    refine ⟨.inl (vi ?_), trivial⟩
    have e1 : sgn b = -1 := by simp [sgn, hb0]
    have e2 : 0 ≤ sgn a := by simp only [sgn]; rw [if_neg (by omega)]; split <;> omega
    simp only [cmpZ]
    rw [e1, if_neg (by omega), if_pos (by omega), if_neg (by omega), if_pos (by omega)]
  · have h2 := hs rfl
    simp at hz hz'
    have hb0 : a < 0 := by omega
    refine acall_of_awp (hE []) Tryz.func97 rfl (by kernel_rfl) [] ?_
    conv => whnf
    refine ⟨by kernel_rfl, ?_⟩
    conv => whnf
    refine ⟨_, sa, ?_⟩
    conv => whnf
    refine ⟨_, sb, ?_⟩
    conv => whnf
    refine ⟨_, compareI_call (sgn a) (sgn b), ?_⟩
    conv => whnf
    refine ⟨.inl (by kernel_rfl), ?_⟩
    conv => whnf
    refine ⟨.inl (vi ?_), trivial⟩
    have e1 : sgn a = -1 := by simp [sgn, hb0]
    have e2 : 0 ≤ sgn b := by simp only [sgn]; rw [if_neg (by omega)]; split <;> omega
    simp only [cmpZ]
    rw [e1, if_pos (by omega), if_pos (by omega)]
  · refine acall_of_awp (hE []) Tryz.func97 rfl (by kernel_rfl) [] ?_
    conv => whnf
    refine ⟨_, ncmp_call n m (by omega) (by omega), ?_⟩
    conv => whnf
    refine ⟨.inl (vi ?_), trivial⟩
    simp at hz hz'
    simp only [cmpN, cmpZ, hz, hz']
    (repeat' split) <;> omega
theorem ineg_call (z : Int) (h : ln z < 1099511627000) : ACall Tryz.prog 106 [.agg (intC z)] [.p (.agg (intC (-z)))] := by
  obtain ⟨s, n, e, hz, hs, hn⟩ := intC_cases z
  have hl : (digs n).length < 1099511627000 := by rw [← hn]; exact h
  rw [e]
  refine acall_of_awp (hE []) Tryz.func106 rfl (by kernel_rfl) [] ?_
  conv => whnf
  refine ⟨_, signed_call n (!s) (by omega), ?_⟩
  conv => whnf
  refine ⟨.inl (intC_eq ?_), trivial⟩
  rw [hz]
  cases s <;> simp
theorem iadd_call (a b : Int) (ha : ln a < 1099511626000) (hb : ln b < 1099511626000) : ACall Tryz.prog 107 [.agg (intC a), .agg (intC b)] [.p (.agg (intC (a + b)))] := by
  obtain ⟨s, m, e, hz, hs, hm⟩ := intC_cases a
  obtain ⟨t, n, e', hz', ht, hn⟩ := intC_cases b
  have hl : (digs m).length < 1099511626000 := by rw [← hm]; exact ha
  have hl' : (digs n).length < 1099511626000 := by rw [← hn]; exact hb
  have hsum : (digs (m + n)).length < 1099511627776 := by
    have := ln_add (m : Int) (n : Int)
    rw [← Int.natCast_add] at this
    simp only [ln, Int.natAbs_natCast] at this
    omega
  rw [e, e']
  by_cases hst : s = t
  · subst hst
    refine acall_of_awp (hE []) Tryz.func107 rfl (by kernel_rfl) [] ?_
    conv => whnf
    refine ⟨by kernel_rfl, ?_⟩
    conv => whnf
    refine ⟨.inl (by kernel_rfl), ?_⟩
    conv => whnf
    rw [show (s == s) = true by simp]
    conv => whnf
    refine ⟨by kernel_rfl, ?_⟩
    conv => whnf
    refine ⟨_, nadd_call m n (by omega) (by omega), ?_⟩
    conv => whnf
    refine ⟨_, signed_call (m + n) s (by omega), ?_⟩
    conv => whnf
    refine ⟨.inl (by kernel_rfl), ?_⟩
    conv => whnf
    refine ⟨.inl (intC_eq ?_), trivial⟩
    rw [hz, hz']
    cases s <;> simp <;> omega
  · have hbeq : (s == t) = false := by simpa using hst
    have hts : t = !s := by cases s <;> cases t <;> simp at hst ⊢
    refine acall_of_awp (hE []) Tryz.func107 rfl (by kernel_rfl) [] ?_
    conv => whnf
    refine ⟨by kernel_rfl, ?_⟩
    conv => whnf
    refine ⟨.inl (by kernel_rfl), ?_⟩
    conv => whnf
    rw [hbeq]
    conv => whnf
    refine ⟨_, ncmp_call m n (by omega) (by omega), ?_⟩
    conv => whnf
    by_cases hmn : m < n
    · rw [show cmpN m n = -1 by simp [cmpN, hmn]]
      conv => whnf
      refine ⟨by kernel_rfl, ?_⟩
      conv => whnf
      refine ⟨_, nsub_call n m (by omega) (by omega), ?_⟩
      conv => whnf
      refine ⟨_, signed_call (n - m) t (by have := digs_len_mono (show n - m ≤ n by omega); omega), ?_⟩
      conv => whnf
      refine ⟨.inl (by kernel_rfl), ?_⟩
      conv => whnf
      refine ⟨.inl (intC_eq ?_), trivial⟩
      rw [hz, hz', hts]
      cases s <;> simp <;> omega
    · rw [decide_eq_false (show ¬ cmpN m n < 0 by simp only [cmpN, if_neg hmn]; split <;> omega)]
      conv => whnf
      refine ⟨by kernel_rfl, ?_⟩
      conv => whnf
      refine ⟨_, nsub_call m n (by omega) (by omega), ?_⟩
      conv => whnf
      refine ⟨_, signed_call (m - n) s (by have := digs_len_mono (show m - n ≤ m by omega); omega), ?_⟩
      conv => whnf
      refine ⟨.inl (by kernel_rfl), ?_⟩
      conv => whnf
      refine ⟨.inl (intC_eq ?_), trivial⟩
      rw [hz, hz', hts]
      cases s <;> simp <;> omega
theorem isub_call (a b : Int) (ha : ln a < 1099511626000) (hb : ln b < 1099511626000) : ACall Tryz.prog 238 [.agg (intC a), .agg (intC b)] [.p (.agg (intC (a - b)))] := by
  refine acall_of_awp (hE []) Tryz.func238 rfl (by kernel_rfl) [] ?_
  conv => whnf
  refine ⟨by kernel_rfl, ?_⟩
  conv => whnf
  refine ⟨_, ineg_call b (by omega), ?_⟩
  conv => whnf
  refine ⟨_, iadd_call a (-b) ha (by rw [ln_neg]; exact hb), ?_⟩
  conv => whnf
  refine ⟨.inl (by kernel_rfl), ?_⟩
  conv => whnf
  exact ⟨.inl (intC_eq (by rw [Int.sub_eq_add_neg])), trivial⟩
theorem imul_call (a b : Int) (h : ln a + ln b < 1099511627000) : ACall Tryz.prog 109 [.agg (intC a), .agg (intC b)] [.p (.agg (intC (a * b)))] := by
  obtain ⟨s, m, e, hz, hs, hm⟩ := intC_cases a
  obtain ⟨t, n, e', hz', ht, hn⟩ := intC_cases b
  have hl : (digs m).length + (digs n).length < 1099511627000 := by rw [← hm, ← hn]; exact h
  have hprod : (digs (m * n)).length < 1099511627776 := by
    have := ln_mul (m : Int) (n : Int)
    rw [← Int.natCast_mul] at this
    simp only [ln, Int.natAbs_natCast] at this
    omega
  rw [e, e']
  refine acall_of_awp (hE []) Tryz.func109 rfl (by kernel_rfl) [] ?_
  conv => whnf
  refine ⟨by kernel_rfl, ?_⟩
  conv => whnf
  refine ⟨_, nmul_call m n (by omega) (by omega), ?_⟩
  conv => whnf
  refine ⟨_, signed_call (m * n) (s != t) (by omega), ?_⟩
  conv => whnf
  refine ⟨.inl (by kernel_rfl), ?_⟩
  conv => whnf
  refine ⟨.inl (intC_eq ?_), trivial⟩
  rw [hz, hz']
  cases s <;> cases t <;> simp [Int.neg_mul, Int.mul_neg]
end Go.Am

set_option linter.unusedVariables false
set_option linter.unusedSimpArgs false
namespace Go.Am
open Go Go.Proofs
set_option maxRecDepth 100000
set_option maxHeartbeats 4000000
theorem idivmod_call (a b : Int) (ha : ln a < 1099511626000) (hb : ln b < 1099511626000) (h0 : b ≠ 0) : ACall Tryz.prog 164 [.agg (intC a), .agg (intC b)] [.p (.agg (intC (a / b))), .p (.agg (intC (a % b))), .p (nI 0)] := by
  obtain ⟨s, m, e, hz, hs, hm⟩ := intC_cases a
  obtain ⟨t, n, e', hz', ht, hn⟩ := intC_cases b
  have hl : (digs m).length < 1099511626000 := by rw [← hm]; exact ha
  have hl' : (digs n).length < 1099511626000 := by rw [← hn]; exact hb
  have hn0 : n ≠ 0 := by rw [← hn]; omega
  have hp := digs_pos hn0
  have hq := digs_len_mono (Nat.div_le_self m n)
  have hr := Nat.mod_lt m (show 0 < n by omega)
  have hr2 := digs_len_mono (show m % n ≤ n by omega)
  have hr3 := digs_len_mono (show n - m % n ≤ n by omega)
  have e1l : (digs 1).length = 1 := by decide
  have hq1 : (digs (m / n + 1)).length ≤ (digs m).length + 2 := by
    have := ln_add ((m / n : Nat) : Int) 1
    rw [show ((m / n : Nat) : Int) + 1 = ((m / n + 1 : Nat) : Int) by omega] at this
    simp only [ln, Int.natAbs_natCast] at this
    have e1 : (digs (Int.natAbs 1)).length = 1 := by decide
    omega
  have key := ediv_nn m n s t hn0 hs a b hz hz'
  rw [e, e']
  refine acall_of_awp (hE []) Tryz.func164 rfl (by kernel_rfl) [] ?_
  conv => whnf
  rw [show (((wl (digs n)).length : Int) == 0) = false by simp only [wl_len, beq_eq_false_iff_ne]; omega]
  conv => whnf
  refine ⟨_, ndiv_call m n hn0 hl hl', ?_⟩
  conv => whnf
  by_cases hc : s = true ∧ m % n ≠ 0
  · rw [if_pos hc] at key
    obtain ⟨k1, k2⟩ := key
    obtain ⟨rfl, hr0⟩ := hc
    have hrp := digs_pos hr0
    conv => whnf
    rw [decide_eq_true (show ((wl (digs (m % n))).length : Int) > 0 by rw [wl_len]; omega)]
    conv => whnf
    refine ⟨_, natural_call 1 (by omega), ?_⟩
    conv => whnf
    refine ⟨_, nadd_call (m / n) 1 (by omega) (by omega), ?_⟩
    conv => whnf
    refine ⟨_, nsub_call n (m % n) (by omega) (by omega), ?_⟩
    conv => whnf
    refine ⟨_, signed_call (m / n + 1) (true != t) (by omega), ?_⟩
    conv => whnf
    refine ⟨_, signed_call (n - m % n) false (by omega), ?_⟩
    conv => whnf
    refine ⟨.inl (intC_eq k1), ?_⟩
    conv => whnf
    refine ⟨.inl (intC_eq (by simpa using k2)), ?_⟩
    conv => whnf
    exact ⟨.inl rfl, trivial⟩
  · rw [if_neg hc] at key
    obtain ⟨k1, k2⟩ := key
    cases s with
    | false =>
      conv => whnf
      refine ⟨_, signed_call (m / n) (false != t) (by omega), ?_⟩
      conv => whnf
      refine ⟨_, signed_call (m % n) false (by omega), ?_⟩
      conv => whnf
      refine ⟨.inl (intC_eq k1), ?_⟩
      conv => whnf
      refine ⟨.inl (intC_eq (by simpa using k2)), ?_⟩
      conv => whnf
      exact ⟨.inl rfl, trivial⟩
    | true =>
      have hr0 : m % n = 0 := by
        rcases Nat.eq_zero_or_pos (m % n) with h | h
        · exact h
        · exact absurd ⟨rfl, by omega⟩ hc
      rw [hr0] at k2 ⊢
      conv => whnf
      refine ⟨_, signed_call (m / n) (true != t) (by omega), ?_⟩
      conv => whnf
      refine ⟨_, signed_call 0 false (by rw [digs_zero]; simp), ?_⟩
      conv => whnf
      refine ⟨.inl (intC_eq k1), ?_⟩
      conv => whnf
      refine ⟨.inl (intC_eq (by simpa using k2)), ?_⟩
      conv => whnf
      exact ⟨.inl rfl, trivial⟩
theorem idivmod0_call (a : Int) : ACall Tryz.prog 164 [.agg (intC a), .agg (intC 0)] [.p (.agg (intC 0)), .p (.agg (intC 0)), .p (nI 10)] := by
  obtain ⟨s, m, e, hz, hs, hm⟩ := intC_cases a
  rw [e]
  refine acall_of_awp (hE []) Tryz.func164 rfl (by kernel_rfl) [] ?_
  conv => whnf
  refine ⟨.inl rfl, ?_⟩
  conv => whnf
  refine ⟨.inl rfl, ?_⟩
  conv => whnf
  exact ⟨.inl rfl, trivial⟩
theorem igcd_call (a b : Int) (ha : ln a < 1099511626000) (hb : ln b < 1099511626000) : ACall Tryz.prog 262 [.agg (intC a), .agg (intC b)] [.p (.agg (intC (Int.gcd a b : Nat)))] := by
  obtain ⟨s, m, e, hz, hs, hm⟩ := intC_cases a
  obtain ⟨t, n, e', hz', ht, hn⟩ := intC_cases b
  have hl : (digs m).length < 1099511626000 := by rw [← hm]; exact ha
  have hl' : (digs n).length < 1099511626000 := by rw [← hn]; exact hb
  have hg : Int.gcd a b = Nat.gcd m n := by simp [Int.gcd, hm, hn]
  rw [hg]
  rw [e, e']
  refine acall_of_awp (hE []) Tryz.func262 rfl (by kernel_rfl) [] ?_
  conv => whnf
  refine ⟨by kernel_rfl, ?_⟩
  conv => whnf
  refine ⟨.inl (by kernel_rfl), ?_⟩
  conv => whnf
  refine ⟨Nat × Nat, fun x => (digs x.1).length < 1099511626000 ∧ (digs x.2).length < 1099511626000 ∧ Nat.gcd x.1 x.2 = Nat.gcd m n, fun x => x.2,
    fun x => ⟨[.top, .top, .top, .top, .ptr 0 0 0, .p (.sl (wl (digs x.1))), .p (.sl (wl (digs x.2))), .top, .top, .top, .top, .top, .top, .top, .top, .top, .top, .top, .top, .top, .top, .top, .top, .top, .top, .top], [some (.box [.p (.val (.bool false)), .p (.val (.slice none 0 0))])]⟩, [], (m, n), ?_, ?_⟩
  · conv => whnf
    repeat ((first | refine ⟨.inl rfl, ?_⟩ | refine ⟨rfl, ?_⟩); conv => whnf)
    exact ⟨hl, hl', rfl⟩
  · rintro ⟨x, y⟩ ⟨k1, k2, h3⟩
    simp only at k1 k2 h3
    refine atS (s' := ⟨[.top, .top, .top, .top, .ptr 0 0 0, .p (.sl (wl (digs x))), .p (.sl (wl (digs y))), .top, .top, .top, .top, .top, .top, .top, .top, .top, .top, .top, .top, .top, .top, .top, .top, .top, .top, .top], [some (.box [.p (.val (.bool false)), .p (.val (.slice none 0 0))])]⟩) rfl ?_
    by_cases hy : y = 0
    · subst hy
      have hs : (digs x).length < 35184372088832 := by omega
      conv => whnf
      refine ⟨_, signed_call x false hs, ?_⟩
      conv => whnf
      refine ⟨.inl (intC_eq ?_), trivial⟩
      rw [← h3, Nat.gcd_zero_right]; rfl
    · have hp := digs_pos hy
      conv => whnf
      rw [decide_eq_true (show ((wl (digs y)).length : Int) > 0 by rw [wl_len]; omega)]
      conv => whnf
      refine ⟨_, ndiv_call x y hy (by omega) (by omega), ?_⟩
      conv => whnf
      refine ⟨(y, x % y), ?_⟩
      conv => whnf
      repeat ((first | refine ⟨.inl rfl, ?_⟩ | refine ⟨rfl, ?_⟩); conv => whnf)
      have hm := Nat.mod_lt x (show 0 < y by omega)
      have hml := digs_len_mono (Nat.le_of_lt hm)
      exact ⟨⟨k2, by simp only; omega, by simp only; rw [← h3, Nat.gcd_comm x, Nat.gcd_rec y x, Nat.gcd_comm]⟩, hm⟩
theorem ismall_call (z : Int) (h0 : -9223372036854775808 ≤ z) (h1 : z < 9223372036854775808) : ACall Tryz.prog 165 [.agg (intC z)] [.p (nI z), .p (.val (.bool true))] := by
  obtain ⟨s, n, e, hz, hs, hn⟩ := intC_cases z
  have hl : (digs n).length ≤ 2 := digs_len_of (by omega)
  have hw := WB.digs n
  have hnum := number_digs hl
  have w1 := hw.getD 1
  have w0 := hw.getD 0
  have a1 := at_call (digs n) hw 1
  have a0 := at_call (digs n) hw 0
  have s1 := shl32 _ w1
  have o1 := or_add32 _ _ w1 w0
  rw [hnum] at o1
  obtain ⟨x1, hx1⟩ : ∃ x, x = (digs n).getD 1 0 := ⟨_, rfl⟩
  obtain ⟨x0, hx0⟩ : ∃ x, x = (digs n).getD 0 0 := ⟨_, rfl⟩
  rw [← hx1] at w1 a1 s1 o1
  rw [← hx0] at w0 a0 o1
  obtain ⟨z1, hz1⟩ : ∃ x, x = x1 * 4294967296 := ⟨_, rfl⟩
  rw [← hz1] at s1 o1
  have u1 := u64_nn (show x1 < 18446744073709551616 by omega)
  have u0 := u64_nn (show x0 < 18446744073709551616 by omega)
  rw [e]
  cases s with
  | false =>
    have hz : z = n := by simpa using hz
    refine acall_of_awp (hE []) Tryz.func165 rfl (by kernel_rfl) [] ?_
    conv => whnf
    generalize hM : (9223372036854775808 : Int) = M
    revert M
    refine lock ?_
    intro M hM
    conv => whnf
    refine ⟨_, a1, ?_⟩
    conv => whnf
    rw [u1, s1]
    refine ⟨_, a0, ?_⟩
    conv => whnf
    rw [u0, o1]
    conv => whnf
    rw [decide_eq_false (show ¬ ((wl (digs n)).length : Int) > 2 by rw [wl_len]; omega)]
    conv => whnf
    rw [decide_eq_true (show (n : Int) < M by omega)]
    conv => whnf
    refine ⟨.inl (vi (by rw [wi64 (by omega) (by omega)]; exact hz.symm)), ?_⟩
    conv => whnf
    exact ⟨.inl rfl, trivial⟩
  | true =>
    have hz : z = -(n : Int) := by simpa using hz
    have hn0 := hs rfl
    refine acall_of_awp (hE []) Tryz.func165 rfl (by kernel_rfl) [] ?_
    conv => whnf
    generalize hM : (9223372036854775808 : Int) = M
    revert M
    refine lock ?_
    intro M hM
    conv => whnf
    refine ⟨_, a1, ?_⟩
    conv => whnf
    rw [u1, s1]
    refine ⟨_, a0, ?_⟩
    conv => whnf
    rw [u0, o1]
    conv => whnf
    rw [decide_eq_false (show ¬ ((wl (digs n)).length : Int) > 2 by rw [wl_len]; omega)]
    conv => whnf
    rw [decide_eq_true (show (n : Int) ≤ M by omega)]
    conv => whnf
    refine ⟨.inl (vi (by simp only [IntKind.wrap, IntKind.bits, IntKind.signed]; simp; omega)), ?_⟩
    conv => whnf
    exact ⟨.inl rfl, trivial⟩
theorem len_call (x : Nat) (hx : x < 65536) : ACall Tryz.prog 136 [nU x] [.p (nI (bl x : Nat))] := by
  have l64 : ACall Tryz.prog 190 [nU x] [.p (nI (bl x : Nat))] := by
    have shr8' : Int.fdiv (x : Int) (2 ^ min (Int.toNat 8) IntKind.u64.bits) = ((x / 256 : Nat) : Int) := fdiv_nn x 256
    refine acall_of_awp (hE []) Tryz.func190 rfl (by kernel_rfl) [] ?_
    conv => whnf
    generalize hA : (4294967296 : Int) = A
    revert A
    refine lock ?_
    intro A hA
    conv => whnf
    rw [decide_eq_false (show ¬ (x : Int) ≥ A by omega)]
    conv => whnf
    rw [decide_eq_false (show ¬ (x : Int) ≥ 65536 by omega)]
    conv => whnf
    by_cases h2 : 256 ≤ x
    · have b2 := bl_shift x 8 (by omega) h2
      rw [decide_eq_true (show (x : Int) ≥ 256 by omega)]
      conv => whnf
      rw [shr8']
      rw [show (2 : Nat) ^ 8 = 256 from rfl] at b2
      obtain ⟨z, hz⟩ : ∃ z, z = x / 256 := ⟨_, rfl⟩
      rw [← hz] at b2 ⊢
      have hz8 : z < 256 := by omega
      have hb := bl_small hz8
      rw [wu8 hz8]
      refine obind_of (len8_at z rfl hz8) ?_
      conv => whnf
      rw [len8_val hz8]
      refine ⟨.inl (vi ?_), trivial⟩
      rw [show IntKind.wrap .i64 (0 + 8) = 8 from by rw [wi64 (by omega) (by omega)]; rfl, wi64 (by omega) (by omega)]
      omega
    · rw [decide_eq_false (show ¬ (x : Int) ≥ 256 by omega)]
      conv => whnf
      have hz8 : x < 256 := by omega
      have hb := bl_small hz8
      rw [wu8 hz8]
      refine obind_of (len8_at x rfl hz8) ?_
      conv => whnf
      rw [len8_val hz8]
      refine ⟨.inl (vi ?_), trivial⟩
      rw [wi64 (by omega) (by omega)]
      omega
  refine acall_of_awp (hE []) Tryz.func136 rfl (by kernel_rfl) [] ?_
  conv => whnf
  refine ⟨_, l64, ?_⟩
  conv => whnf
  exact ⟨.inl rfl, trivial⟩
end Go.Am

set_option linter.unusedVariables false
set_option linter.unusedSimpArgs false
namespace Go.Am
open Go Go.Proofs
set_option maxRecDepth 100000
set_option maxHeartbeats 4000000
theorem and_one (x : Nat) (h : x < 9223372036854775808) : IntKind.wrap .i64 ((BitVec.ofInt IntKind.i64.bits (x : Int) &&& BitVec.ofInt IntKind.i64.bits 1).toNat : Nat) = ((x % 2 : Nat) : Int) := by
  have e : (BitVec.ofInt IntKind.i64.bits (x : Int) &&& BitVec.ofInt IntKind.i64.bits 1).toNat = x % 2 := by
    have : (BitVec.ofInt 64 (x : Int) &&& BitVec.ofInt 64 ((1 : Nat) : Int)).toNat = x % 2 := by
      rw [ofInt_toNat, ofInt_toNat, BitVec.toNat_and, BitVec.toNat_ofNat, BitVec.toNat_ofNat, Nat.mod_eq_of_lt (by omega), Nat.mod_eq_of_lt (by omega), Nat.and_one_is_mod]
    exact this
  rw [e, wi64 (by omega) (by omega)]
theorem digs_pow (m k : Nat) : (digs (m ^ k)).length ≤ (digs m).length * k + 1 := by
  have h := val_lt (WB.digs m)
  rw [val_digs] at h
  rcases Nat.eq_zero_or_pos k with h0 | h0
  · subst h0; simp; decide
  · refine Nat.le_succ_of_le (digs_len_of ?_)
    rw [Nat.pow_mul]
    exact Nat.pow_lt_pow_left h (by omega)
theorem npow_call (m n : Nat) (hn : n ≤ 4096) (hs : (digs m).length * n < 1099511626000) : ACall Tryz.prog 174 [.sl (wl (digs m)), nI n] [.p (.sl (wl (digs (m ^ n))))] := by
  have hbl : n = 0 ∨ (2 ^ (bl n - 1) ≤ n ∧ n < 2 ^ bl n ∧ 0 < bl n) := by
    rcases Nat.eq_zero_or_pos n with h | h
    · exact .inl h
    · exact .inr (bl_pow (by omega) h)
  have hb0 : n = 0 → bl n = 0 := by rintro rfl; decide
  have hbig : n < 2 ^ bl n := by
    rcases hbl with h | h
    · rw [hb0 h, h]; decide
    · exact h.2.1
  have hbl16 : bl n ≤ 16 := by
    rcases hbl with h | h
    · rw [hb0 h]; omega
    · rcases Nat.lt_or_ge 16 (bl n) with q | q
      · have : 2 ^ 16 ≤ 2 ^ (bl n - 1) := Nat.pow_le_pow_right (by omega) (by omega)
        omega
      · exact q
  have hpos : ∀ i, i < bl n → 2 ^ i ≤ n := fun i hi => by
    rcases hbl with h | h
    · rw [hb0 h] at hi; omega
    · exact Nat.le_trans (Nat.pow_le_pow_right (by omega) (by omega)) h.1
  have size : ∀ k, k ≤ n → (digs (m ^ k)).length < 1099511627000 := fun k hk => by
    have h1 := digs_pow m k
    have h2 : (digs m).length * k ≤ (digs m).length * n := Nat.mul_le_mul_left _ hk
    omega
  refine acall_of_awp (hE []) Tryz.func174 rfl (by kernel_rfl) [7] ?_
  conv => whnf
  refine ⟨_, natural_call 1 (by omega), ?_⟩
  conv => whnf
  rw [u64_nn (show n < 18446744073709551616 by omega)]
  refine ⟨_, len_call n (by omega), ?_⟩
  conv => whnf
  refine ⟨Nat × Nat × Nat, fun x => x.1 ≤ bl n ∧ x.2.1 = m ^ (n % 2 ^ x.1) ∧ (x.1 < bl n → x.2.2 = m ^ 2 ^ x.1), fun x => bl n - x.1,
    fun x => ⟨[.p (.sl (wl (digs x.2.2))), iI n, .top, .top, .top, .p (.sl (wl (digs x.2.1))), .top, .top, .top, .top, iI (bl n : Nat), iI x.1, .top, .top, .top, .top, .top, .top, .top, .top, .top, .top, .top, .top, .top, .top, .top, .top, .top, .top, .top], []⟩, [], (0, 1, m), ?_, ?_⟩
  · conv => whnf
    repeat ((first | refine ⟨.inl rfl, ?_⟩ | refine ⟨rfl, ?_⟩); conv => whnf)
    exact ⟨Nat.zero_le _, by simp [Nat.mod_one], fun _ => by simp⟩
  · rintro ⟨i, o, x⟩ ⟨h1, h2, h3⟩
    simp only at h1 h2 h3
    refine atS (s' := ⟨[.p (.sl (wl (digs x))), iI n, .top, .top, .top, .p (.sl (wl (digs o))), .top, .top, .top, .top, iI (bl n : Nat), iI i, .top, .top, .top, .top, .top, .top, .top, .top, .top, .top, .top, .top, .top, .top, .top, .top, .top, .top, .top], []⟩) rfl ?_
    conv => whnf
    by_cases hi : i < bl n
    · rw [decide_eq_true (show (i : Int) < (bl n : Nat) by omega)]
      conv => whnf
      have hx := h3 hi
      have h2i := hpos i hi
      have hpm := Nat.mod_lt n (show 0 < 2 ^ i from Nat.pow_pos (by omega))
      have so : (digs o).length < 1099511627000 := by rw [h2]; exact size _ (by omega)
      have sx : (digs x).length < 1099511627000 := by rw [hx]; exact size _ h2i
      have f1 : Int.fdiv (n : Int) (2 ^ min (Int.toNat (i : Int)) IntKind.i64.bits) = ((n / 2 ^ i : Nat) : Int) := by
        rw [show min (Int.toNat (i : Int)) IntKind.i64.bits = i from Nat.min_eq_left (by show i ≤ 64; omega)]
        rw [show (2 : Int) ^ i = ((2 ^ i : Nat) : Int) by simp]
        exact fdiv_nn n (2 ^ i)
      have hni : n / 2 ^ i ≤ n := Nat.div_le_self _ _
      have hsucc : n % 2 ^ (i + 1) = n % 2 ^ i + 2 ^ i * (n / 2 ^ i % 2) := Nat.mod_pow_succ
      refine ⟨Nat, fun q => q = m ^ (n % 2 ^ (i + 1)), fun q => ⟨[.p (.sl (wl (digs x))), iI n, .top, .top, .top, .p (.sl (wl (digs q))), iI i, .top, .top, .top, iI (bl n : Nat), iI i, .top, .top, .top, .top, .top, .top, .top, .top, .top, .top, .top, .top, .top, .top, .top, .top, .top, .top, .top], []⟩, ?_, ?_⟩
      · conv => whnf
        rw [f1, and_one _ (by omega)]
        by_cases hbit : n / 2 ^ i % 2 = 1
        · rw [hbit]
          conv => whnf
          refine ⟨_, nmul_call o x so sx, ?_⟩
          conv => whnf
          refine ⟨[], o * x, ?_⟩
          conv => whnf
          repeat ((first | refine ⟨.inl rfl, ?_⟩ | refine ⟨rfl, ?_⟩); conv => whnf)
          rw [hsucc, hbit, Nat.mul_one, Nat.pow_add, ← h2, ← hx]
        · rw [show n / 2 ^ i % 2 = 0 by omega]
          conv => whnf
          refine ⟨[], o, ?_⟩
          conv => whnf
          repeat ((first | refine ⟨.inl rfl, ?_⟩ | refine ⟨rfl, ?_⟩); conv => whnf)
          rw [hsucc, show n / 2 ^ i % 2 = 0 by omega, Nat.mul_zero, Nat.add_zero]
          exact h2
      · rintro q hq
        conv => whnf
        rw [f1]
        by_cases hb : 1 < n / 2 ^ i
        · rw [decide_eq_true (show ((n / 2 ^ i : Nat) : Int) > 1 by omega)]
          conv => whnf
          refine ⟨_, nmul_call x x sx sx, ?_⟩
          conv => whnf
          refine ⟨(i + 1, q, x * x), ?_⟩
          conv => whnf
          repeat ((first | refine ⟨.inl rfl, ?_⟩ | refine ⟨rfl, ?_⟩); conv => whnf)
          refine ⟨.inl (vi (by rw [wi64 (by omega) (by omega)]; rfl)), ?_⟩
          conv => whnf
          exact ⟨⟨hi, hq, fun _ => by simp only; rw [hx, ← Nat.pow_add]; congr 1; rw [Nat.pow_succ]; omega⟩, by simp only; omega⟩
        · rw [decide_eq_false (show ¬ ((n / 2 ^ i : Nat) : Int) > 1 by omega)]
          conv => whnf
          refine ⟨(i + 1, q, x), ?_⟩
          conv => whnf
          repeat ((first | refine ⟨.inl rfl, ?_⟩ | refine ⟨rfl, ?_⟩); conv => whnf)
          refine ⟨.inl (vi (by rw [wi64 (by omega) (by omega)]; rfl)), ?_⟩
          conv => whnf
          refine ⟨⟨hi, hq, fun h => ?_⟩, by simp only; omega⟩
          exfalso
          have := hpos (i + 1) h
          have : 2 ≤ n / 2 ^ i := (Nat.le_div_iff_mul_le (Nat.pow_pos (by omega))).2 (by rw [Nat.pow_succ] at this; omega)
          omega
    · rw [decide_eq_false (show ¬ (i : Int) < (bl n : Nat) by omega)]
      conv => whnf
      refine ⟨.inl ?_, trivial⟩
      rw [h2, show i = bl n by omega, Nat.mod_eq_of_lt hbig]
end Go.Am

set_option linter.unusedVariables false
set_option linter.unusedSimpArgs false
namespace Go.Am
open Go Go.Proofs
set_option maxRecDepth 100000
set_option maxHeartbeats 4000000
/-- Rational numbers as cells. -/
def ratC (q : Rat) : List PV := intC q.num ++ intC (q.den : Int)
theorem low_eq (n d : Int) (hd : d ≠ 0) : (if d < 0 then -(Int.gcd n d : Int) else (Int.gcd n d : Int)) ≠ 0 ∧ n / (if d < 0 then -(Int.gcd n d : Int) else (Int.gcd n d : Int)) = (Rat.divInt n d).num ∧ d / (if d < 0 then -(Int.gcd n d : Int) else (Int.gcd n d : Int)) = ((Rat.divInt n d).den : Int) := by
  have hg : (Int.gcd n d : Int) ≠ 0 := by
    intro h
    have := Int.gcd_eq_zero_iff.1 (show Int.gcd n d = 0 by omega)
    exact hd this.2
  have hgn : (Int.gcd n d : Int) ∣ n := Int.gcd_dvd_left ..
  have hgd : (Int.gcd n d : Int) ∣ d := Int.gcd_dvd_right ..
  rw [Rat.num_divInt, Rat.den_divInt, if_neg hd, Int.gcd_comm d n]
  have hgn2 : Int.gcd n d ∣ d.natAbs := by
    have := Int.natAbs_dvd_natAbs.2 hgd
    simpa using this
  by_cases h : d < 0
  · rw [if_pos h]
    refine ⟨by omega, ?_, ?_⟩
    · rw [Int.ediv_neg, Int.sign_eq_neg_one_of_neg h, Int.neg_mul, Int.one_mul, Int.neg_ediv_of_dvd hgn]
    · rw [Int.ediv_neg, Int.natCast_ediv, show (d.natAbs : Int) = -d by omega, Int.neg_ediv_of_dvd hgd]
  · rw [if_neg h]
    refine ⟨hg, ?_, ?_⟩
    · rw [Int.sign_eq_one_of_pos (by omega), Int.one_mul]
    · rw [Int.natCast_ediv, show (d.natAbs : Int) = d by omega]
theorem natAbs_ediv_le (a b : Int) (h : b ∣ a) : (a / b).natAbs ≤ a.natAbs := by
  rw [Int.natAbs_ediv_of_dvd h]
  exact Nat.div_le_self _ _
theorem ln_divInt (n d : Int) (hd : d ≠ 0) : ln (Rat.divInt n d).num ≤ ln n ∧ ln ((Rat.divInt n d).den : Int) ≤ ln d := by
  obtain ⟨h0, h1, h2⟩ := low_eq n d hd
  rw [← h1, ← h2]
  have hgn : (Int.gcd n d : Int) ∣ n := Int.gcd_dvd_left ..
  have hgd : (Int.gcd n d : Int) ∣ d := Int.gcd_dvd_right ..
  constructor
  · refine ln_mono (natAbs_ediv_le _ _ ?_)
    split
    · exact Int.neg_dvd.2 hgn
    · exact hgn
  · refine ln_mono (natAbs_ediv_le _ _ ?_)
    split
    · exact Int.neg_dvd.2 hgd
    · exact hgd
theorem exact_call (a b : Int) (ha : ln a < 1099511627000) (hb : ln b < 1099511627000) (h0 : b ≠ 0) : ACall Tryz.prog 224 [.agg (intC a), .agg (intC b)] [.p (.agg (intC (a / b)))] := by
  refine acall_of_awp (hE []) Tryz.func224 rfl (by kernel_rfl) [] ?_
  conv => whnf
  refine ⟨_, divmod_call a b ha hb h0, ?_⟩
  conv => whnf
  exact ⟨.inl rfl, trivial⟩
theorem ln_gcd (n d : Int) (hd : d ≠ 0) : ln (Int.gcd n d : Int) ≤ ln d := ln_mono (by
  have h : (Int.gcd n d : Int) ∣ d := Int.gcd_dvd_right ..
  have := Int.natAbs_dvd_natAbs.2 h
  exact Nat.le_of_dvd (by omega) this)
theorem lowest_call (n d : Int) (hn : ln n < 1099511627000) (hd : ln d < 1099511627000) (h0 : d ≠ 0) : ACall Tryz.prog 155 [.agg (intC n), .agg (intC d)] [.p (.agg (ratC (Rat.divInt n d)))] := by
  obtain ⟨k0, k1, k2⟩ := low_eq n d h0
  have hg := ln_gcd n d h0
  refine acall_of_awp (hE []) Tryz.func155 rfl (by kernel_rfl) [] ?_
  conv => whnf
  refine ⟨_, gcd_call n d hn hd, ?_⟩
  conv => whnf
  refine ⟨_, sign_call d, ?_⟩
  conv => whnf
  by_cases hd0 : d < 0
  · rw [if_pos hd0] at k0 k1 k2
    rw [show sgn d = -1 by simp [sgn, hd0]]
    conv => whnf
    refine ⟨_, neg_call (Int.gcd n d : Nat) (by omega), ?_⟩
    conv => whnf
    refine ⟨by kernel_rfl, ?_⟩
    conv => whnf
    refine ⟨_, exact_call n _ hn (by rw [ln_neg]; omega) k0, ?_⟩
    conv => whnf
    refine ⟨_, exact_call d _ hd (by rw [ln_neg]; omega) k0, ?_⟩
    conv => whnf
    refine ⟨.inl (by kernel_rfl), ?_⟩
    conv => whnf
    refine ⟨.inl ?_, trivial⟩
    rw [k1, k2]; rfl
  · rw [if_neg hd0] at k0 k1 k2
    rw [decide_eq_false (show ¬ sgn d < 0 by simp only [sgn]; rw [if_neg hd0]; split <;> omega)]
    conv => whnf
    refine ⟨by kernel_rfl, ?_⟩
    conv => whnf
    refine ⟨_, exact_call n _ hn (by omega) k0, ?_⟩
    conv => whnf
    refine ⟨_, exact_call d _ hd (by omega) k0, ?_⟩
    conv => whnf
    refine ⟨.inl (by kernel_rfl), ?_⟩
    conv => whnf
    refine ⟨.inl ?_, trivial⟩
    rw [k1, k2]; rfl
theorem new_call (n d : Int) (hn : ln n < 1099511627000) (hd : ln d < 1099511627000) (h0 : d ≠ 0) : ACall Tryz.prog 123 [.agg (intC n), .agg (intC d)] [.p (.agg (ratC (Rat.divInt n d))), .p (nI 0)] := by
  refine acall_of_awp (hE []) Tryz.func123 rfl (by kernel_rfl) [] ?_
  conv => whnf
  refine ⟨_, sign_call d, ?_⟩
  conv => whnf
  rw [show (sgn d == 0) = false by simp only [sgn, beq_eq_false_iff_ne]; split <;> (try split) <;> omega]
  conv => whnf
  refine ⟨_, lowest_call n d hn hd h0, ?_⟩
  conv => whnf
  refine ⟨.inl (by rfl), ?_⟩
  conv => whnf
  exact ⟨.inl rfl, trivial⟩
theorem whole_call (n : Int) (h0 : -9223372036854775808 ≤ n) (h1 : n < 9223372036854775808) : ACall Tryz.prog 46 [nI n] [.p (.agg (ratC (n : Rat)))] := by
  refine acall_of_awp (hE []) Tryz.func46 rfl (by kernel_rfl) [] ?_
  conv => whnf
  refine ⟨_, of_call n h0 h1, ?_⟩
  conv => whnf
  refine ⟨_, of_call 1 (by omega) (by omega), ?_⟩
  conv => whnf
  exact ⟨.inl rfl, trivial⟩
theorem qsign_call (q : Rat) : ACall Tryz.prog 53 [.agg (ratC q)] [.p (nI (sgn q.num))] := by
  refine acall_of_awp (hE []) Tryz.func53 rfl (by kernel_rfl) [] ?_
  conv => whnf
  refine ⟨_, sign_call q.num, ?_⟩
  conv => whnf
  exact ⟨.inl rfl, trivial⟩
end Go.Am
