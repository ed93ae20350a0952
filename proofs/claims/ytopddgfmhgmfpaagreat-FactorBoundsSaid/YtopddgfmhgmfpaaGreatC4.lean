import Derived.Test.YtopddgfmhgmfpaaGreatC3
import Derived.Test.YtopddgfmhgmfpaaGreatAm3
import Derived.WalkKit
import Derived.ProofKit
import Derived.OpenShut
import Derived.ChangeOld
import Derived.Below
import Derived.SizedLaws
import Derived.Test.YtopddgfmhgmfpaaGreatRows
set_option linter.unusedVariables false
set_option linter.unusedSimpArgs false
set_option linter.unusedVariables false
set_option maxRecDepth 100000
set_option maxHeartbeats 2000000
namespace Go.Am
open Go Go.Proofs
/-- The masks below k of s bits, as the iterator yields them. -/
def masksTo (s k : Nat) : List Value := ((List.range k).filter (fun m => pop m == s)).map fun m : Nat => Value.int .u64 (m : Int)
theorem masksTo_succ (s k : Nat) : masksTo s (k + 1) = masksTo s k ++ (if pop k == s then [Value.int .u64 (k : Int)] else []) := by
  simp only [masksTo, List.range_succ, List.filter_append, List.map_append, List.filter_cons, List.filter_nil]
  by_cases h : (pop k == s) = true
  · rw [if_pos h, if_pos h]; rfl
  · rw [if_neg h, if_neg h]; rfl
def lessBy (N : Nat) : Value → Nat
  | .int _ i => N - i.toNat
  | _ => 0
theorem subs_in (F : Fence) (hW : Wide F) (hro : F.round = none) (n : Nat) (N s : Nat) (hN : N ≤ 12) (l : Nat) (A : Addr) (Bb Bo : Nat) (J Jx : List Value → World → Prop) (W : World)
    (hA : ∀ W, (∃ pre, J pre W) → W.cell? A = some (.int .i64 (N : Int)) ∧ W.cell? ⟨Bb, Bo, none⟩ = some (.int .i64 (s : Int)))
    (hJ : ∀ pre W W', J pre W → RowKit.Below W.heap.size W W' → J pre W')
    (hY : ∀ (k : Nat) (W : World), k < 2 ^ N → pop k = s → J (masksTo s k) W → YieldAt F (n - 1) Tryz.prog l #[.int .u64 (k : Int)] W fun e W' =>
      (e = .returned (.bool true) ∧ J (masksTo s k ++ [.int .u64 (k : Int)]) W') ∨ (e = .returned (.bool false) ∧ Jx (masksTo s k ++ [.int .u64 (k : Int)]) W'))
    (h0 : J [] W) :
    CallsIn F n Tryz.prog 294 #[.func (.yield l) #[] #[], .pointer (some A), .pointer (some ⟨Bb, Bo, none⟩)] W fun e W' => (∃ v, e = .returned v) ∧
      (J (masksTo s (2 ^ N)) W' ∨ ∃ k, k < 2 ^ N ∧ Jx (masksTo s (k + 1)) W') := by
  refine callsIn_of_wp Tryz.func294 rfl (hW.fn _) ?_ hro
  simp only [Tryz.ntmps294, List.size_toArray, List.length_cons, List.length_nil, Nat.reduceAdd, Nat.reduceSub, Array.replicate_succ, Array.replicate_zero, List.push_toArray, List.append_toArray, List.nil_append, List.cons_append]
  have hA0 := (hA W ⟨_, h0⟩).1
  gi_wp2
  have h2N : 2 ^ N ≤ 4096 := Nat.pow_le_pow_right (by omega) hN
  obtain ⟨Mx, hT⟩ : ∃ Mx, Mx = 2 ^ N := ⟨_, rfl⟩
  have e6 : IntKind.wrap .u64 (2 ^ N) = (Mx : Int) := by
    rw [hT]
    have := wu64 (n := ((2 ^ N : Nat) : Int)) (by omega) (by omega)
    simpa using this
  rw [e6]
  clear e6
  rw [← hT] at h2N
  have hT' : Aside (Mx = 2 ^ N) := hT
  clear hT
  gi_loopw [7] (fun c wr => ∃ k : Nat, k ≤ Mx ∧ c = .int .u64 (k : Int) ∧ J (masksTo s k) wr) (fun c _ => lessBy Mx c)
  case atStart => exact ⟨0, Nat.zero_le _, rfl, h0⟩
  case round =>
    obtain ⟨k, hk, rfl, hJs⟩ := hrel
    have hAB := hA wr ⟨_, hJs⟩
    by_cases hlt : k < Mx
    · have hlt' : (k : Int) < (Mx : Int) := by omega
      gi_wp2
      refine wpIn_region_any hmix ?_
      refine region3 hW hro n l A Bb Bo k s (by omega) _ _ _ _ _ _ _ _ _ _ _ _ _ _ _ _ (J (masksTo s k)) (J (masksTo s k ++ [.int .u64 (k : Int)])) (Jx (masksTo s k ++ [.int .u64 (k : Int)])) (fun w h => (hA w ⟨_, h⟩).2) (fun w w' => hJ _ w w') (fun w h hp => hY k w (hT'.out ▸ hlt) hp h) ?_ ?_ ?_ _ (hJ _ _ _ hJs ⟨rfl, rfl, rfl, Nat.le_refl _, fun _ _ => rfl⟩)
      · intro u10 u11 u12 u13 u14 u15 u16 u17 u18 w h hw
        unfold tm3
        gi_wp2
        go_roundw
        case rel => exact ⟨k + 1, by omega, (by
          first
          | (rw [wu64 (by omega) (by omega)]; simp)
          | simp), by rw [masksTo_succ, if_neg (by simpa using h)]; simpa using hw⟩
        case measure => simp [lessBy]; omega
      · intro u10 u11 u12 u13 u14 u15 u16 u17 u18 w h hw
        unfold tm3
        gi_wp2
        go_roundw
        case rel => exact ⟨k + 1, by omega, (by
          first
          | (rw [wu64 (by omega) (by omega)]; simp)
          | simp), by rw [masksTo_succ, if_pos (by simpa using h)]; exact hw⟩
        case measure => simp [lessBy]; omega
      · intro u10 u11 u12 u13 u14 u15 u16 u17 u18 w h hw
        unfold tm3
        gi_wp2
        refine bodyPost_ret (results_none rfl _ _ _) rfl ?_
        exact ⟨⟨_, rfl⟩, .inr ⟨k, hT'.out ▸ hlt, by rw [masksTo_succ, if_pos (by simpa using h)]; exact hw⟩⟩
    · have hlt' : ¬ (k : Int) < (Mx : Int) := by omega
      have hkM : masksTo s k = masksTo s (2 ^ N) := by rw [show k = 2 ^ N by have := hT'.out; omega]
      rw [hkM] at hJs
      gi_wp2
      go_end0
      exact ⟨⟨_, rfl⟩, .inl hJs⟩
theorem masksTo_pre (s : Nat) {k m : Nat} (h : k ≤ m) : masksTo s k <+: masksTo s m := by
  induction m with
  | zero => rw [show k = 0 by omega]; exact List.prefix_refl _
  | succ m ih =>
    by_cases hk : k = m + 1
    · rw [hk]; exact List.prefix_refl _
    · refine (ih (by omega)).trans ?_
      rw [masksTo_succ]
      exact List.prefix_append _ _
theorem Wide.plain {G : Fence} (h : Wide G) : Wide G.plain := ⟨h.fn, h.depth, h.alive⟩
/-- THE ITERATOR OF subsets, by content. -/
theorem subsets_icall (N s : Nat) (hN : N ≤ 12) : ICall Tryz.prog 294 [.int .i64 (N : Int), .int .i64 (s : Int)] (masksTo s (2 ^ N)) := by
  refine ⟨⟨Tryz.f294, _, Tryz.func294, rfl, by kernel_rfl⟩, fun G n w ads hW hlen hbox => ?_⟩
  intro l J Jx W hbelow hJab hJxab hY h0
  obtain ⟨a1, a2, rfl⟩ : ∃ a1 a2, ads = [a1, a2] := by
    match ads, hlen with
    | [a1, a2], _ => exact ⟨a1, a2, rfl⟩
  have hlt : ∀ {W : World} {b o : Nat} {v : Value}, W.cell? ⟨b, o, none⟩ = some v → b < W.heap.size := fun {W b o v} h => by
    simp only [World.cell?] at h
    split at h
    · rename_i hb; exact (Array.getElem?_eq_some_iff.1 hb).1
    · cases h
  have hcell : ∀ {W W' : World} {b o : Nat} {v : Value}, W.cell? ⟨b, o, none⟩ = some v → W'.heap[b]? = W.heap[b]? → W'.cell? ⟨b, o, none⟩ = some v := fun {W W' b o v} h e => by
    simp only [World.cell?] at h ⊢
    rw [e]; exact h
  have b1 := hbox 0 a1 (.int .i64 (N : Int)) rfl rfl
  have b2 := hbox 1 a2 (.int .i64 (s : Int)) rfl rfl
  have c1 := hcell b1 (hbelow.block _ (hlt b1))
  have c2 := hcell b2 (hbelow.block _ (hlt b2))
  have boxes : ∀ {W : World}, W.cell? ⟨a1.1, a1.2, none⟩ = some (.int .i64 (N : Int)) ∧ W.cell? ⟨a2.1, a2.2, none⟩ = some (.int .i64 (s : Int)) → BoxesAt [a1, a2] [.int .i64 (N : Int), .int .i64 (s : Int)] W := fun {W} h k a v h1 h2 => by
    match k with
    | 0 => simp at h1 h2; subst h1; subst h2; exact h.1
    | 1 => simp at h1 h2; subst h1; subst h2; exact h.2
    | k + 2 => simp at h1
  refine (show CallsIn G.plain n Tryz.prog 294 #[.func (.yield l) #[] #[], .pointer (some ⟨a1.1, a1.2, none⟩), .pointer (some ⟨a2.1, a2.2, none⟩)] W _ from
    (subs_in G.plain hW.plain rfl n N s hN l ⟨a1.1, a1.2, none⟩ a2.1 a2.2
      (fun pre W => (∃ xs : List {v // v ∈ masksTo s (2 ^ N)}, xs.map (·.1) = pre ∧ J xs W) ∧ W.cell? ⟨a1.1, a1.2, none⟩ = some (.int .i64 (N : Int)) ∧ W.cell? ⟨a2.1, a2.2, none⟩ = some (.int .i64 (s : Int)))
      (fun pre W => ∃ xs : List {v // v ∈ masksTo s (2 ^ N)}, xs.map (·.1) = pre ∧ Jx xs W) W (fun W ⟨_, h⟩ => h.2) ?_ ?_ ⟨⟨[], rfl, h0⟩, c1, c2⟩).mono ?_)
  · rintro pre W1 W2 ⟨⟨xs, q1, q2⟩, q3, q4⟩ hb
    exact ⟨⟨xs, q1, hJab xs W1 W2 none q2 ⟨hb.os, hb.tape, hb.output, hb.size, fun k hk _ => hb.block k hk⟩ (fun r e => by cases e)⟩, hcell q3 (hb.block _ (hlt q3)), hcell q4 (hb.block _ (hlt q4))⟩
  · rintro k W1 hk hp ⟨⟨xs, q1, q2⟩, q3⟩
    have hpre : masksTo s k ++ [.int .u64 (k : Int)] <+: masksTo s (2 ^ N) := by
      have := masksTo_pre s (show k + 1 ≤ 2 ^ N from hk)
      rwa [masksTo_succ, if_pos (by simpa using hp)] at this
    have hmem : Value.int .u64 (k : Int) ∈ masksTo s (2 ^ N) := hpre.subset (by simp)
    have hl : xs.length < (masksTo s (2 ^ N)).length := by
      have := hpre.length_le
      have e : xs.length = (masksTo s k).length := by rw [← q1]; simp
      simp at this
      omega
    obtain ⟨fn, tmps, asg, body, y1, y2⟩ := hY xs ⟨_, hmem⟩ W1 q2 hl
    refine ⟨fn, tmps, asg, body, y1, y2.mono ?_⟩
    rintro e W2 (⟨rfl, g1, g2⟩ | ⟨rfl, g1⟩)
    · have gb := g2 (boxes q3)
      exact .inl ⟨rfl, ⟨xs ++ [⟨_, hmem⟩], by simp [q1], g1⟩, gb 0 a1 _ rfl rfl, gb 1 a2 _ rfl rfl⟩
    · exact .inr ⟨rfl, xs ++ [⟨_, hmem⟩], by simp [q1], g1⟩
  · rintro e W2 ⟨g1, ⟨⟨xs, q1, q2⟩, _⟩ | ⟨k, hk, xs, q1, q2⟩⟩
    · exact ⟨g1, .inl ⟨xs, q1, q2⟩⟩
    · exact ⟨g1, .inr ⟨xs, by show List.map _ xs <+: _; rw [q1]; exact masksTo_pre s hk, q2⟩⟩
end Go.Am
namespace Go.Am
open Go Go.Proofs
/-- subsets' value: the closure, its two boxes. -/
theorem subsets_call (N s : Int) (b0 b1 b2 b3 : Blk) : SCall Tryz.prog 263 [.p (.val (.int .i64 N)), .p (.val (.int .i64 s))] [some b0, some b1, some b2, some b3] fun xs m' =>
    xs = [.clo 294 [.ptr 4 0 0, .ptr 5 0 0]] ∧ m' = [some b0, some b1, some b2, some b3, some (.box [.p (.val (.int .i64 N))]), some (.box [.p (.val (.int .i64 s))])] := by
  refine scall_of_awp (hE []) Tryz.func263 rfl (by kernel_rfl) [] ?_
  conv => whnf
  exact ⟨rfl, rfl⟩
end Go.Am

set_option linter.unusedVariables false
set_option linter.unusedSimpArgs false
namespace Go.Am
open Go Go.Proofs
set_option maxRecDepth 100000
set_option maxHeartbeats 4000000
theorem cut_call (l : List Int) (hn : l.length < 1000000) : ACall Tryz.prog 239 [.sl (zl l)] [.p (.sl (zl (trimZ l)))] := by
  refine acall_of_awp (hE []) Tryz.func239 rfl (by kernel_rfl) [] ?_
  conv => whnf
  refine ⟨Nat, fun n => n ≤ l.length ∧ trimZ (l.take n) = trimZ l, id, fun n => ⟨[.p (.sl (zl (l.take n))), .top, .top, .top, .top, .top, .top, .top, .top, .top, .top, .top, .top, .top, .top, .top, .top, .top, .top, .top, .top, .top], []⟩, [], l.length, ?_, ?_⟩
  · conv => whnf
    refine ⟨.inl (by rw [List.take_of_length_le (Nat.le_refl _)]), ?_⟩
    conv => whnf
    repeat ((first | refine ⟨.inl rfl, ?_⟩ | refine ⟨rfl, ?_⟩); conv => whnf)
    exact ⟨Nat.le_refl _, by rw [List.take_of_length_le (Nat.le_refl _)]⟩
  · rintro n ⟨h1, h2⟩
    cases n with
    | zero =>
      conv => whnf
      refine ⟨.inl ?_, trivial⟩
      rw [← h2]; simp [trimZ, zl]
    | succ n =>
      have hs := List.take_succ_eq_append_getElem (show n < l.length by omega)
      have hlen : (zl (l.take (n + 1))).length = n + 1 := by rw [zl_len, List.length_take]; omega
      have e1 : IntKind.wrap .i64 (((zl (l.take (n + 1))).length : Nat) - 1) = (n : Int) := by rw [hlen, wi64 (by omega) (by omega)]; omega
      conv => whnf
      rw [decide_eq_true (show ((zl (l.take (n + 1))).length : Int) > 0 by rw [hlen]; omega)]
      conv => whnf
      rw [e1]
      refine obind_of ((zl_get (l := l.take (n + 1)) (i := n) (by simp; omega)).trans (by rw [List.getElem_take])) ?_
      conv => whnf
      obtain ⟨x, hx⟩ : ∃ x, x = l[n] := ⟨_, rfl⟩
      rw [← hx] at hs ⊢
      refine ⟨_, isign_call x, ?_⟩
      conv => whnf
      rw [sgn_zero]
      by_cases h0 : x = 0
      · rw [decide_eq_true h0]
        conv => whnf
        rw [e1]
        conv => whnf
        refine chk_of (by rw [hlen]; omega) ?_
        conv => whnf
        refine ⟨n, ?_⟩
        conv => whnf
        refine ⟨.inl (by rw [show ((n : Int)).toNat = n from rfl, zl_take, List.take_take, Nat.min_eq_left (by omega)]), ?_⟩
        conv => whnf
        repeat ((first | refine ⟨.inl rfl, ?_⟩ | refine ⟨rfl, ?_⟩); conv => whnf)
        exact ⟨⟨by omega, by rw [← h2, hs, h0, trimZ_snoc0]⟩, Nat.lt_succ_self n⟩
      · rw [decide_eq_false h0]
        conv => whnf
        refine ⟨.inl ?_, trivial⟩
        rw [← h2, hs, trimZ_snoc _ _ h0]
end Go.Am
namespace Go.Am
open Go Go.Proofs
/-- The nearest to naught of its class. -/
def nearZ (m x : Int) : Int := if m < x % m + x % m then x % m - m else x % m
def nearL (m : Int) (l : List Int) (i : Nat) : List Int := (l.take i).map (nearZ m) ++ List.replicate (l.length - i) 0
theorem zrows (n : Nat) : RowsLe (List.replicate n [.val (.bool false), .val (.slice none 0 0)]) (zl (List.replicate n 0)) := by
  refine ⟨by simp [zl], fun i e e' h1 h2 => ?_⟩
  have hi : i < n := by have := (List.getElem?_eq_some_iff.1 h1).1; simpa using this
  rw [List.getElem?_replicate_of_lt hi] at h1
  have : (zl (List.replicate n 0))[i]? = some (intC 0) := by simp [zl, hi]
  rw [this] at h2
  cases h1; cases h2
  exact CellsLe.cons (.rf _) (CellsLe.cons (PVle.nil 0) CellsLe.nil)
theorem nearL_set (m : Int) (l : List Int) {i : Nat} (hi : i < l.length) : (zl (nearL m l i)).set i (intC (nearZ m l[i])) = zl (nearL m l (i + 1)) := by
  have e1 : (zl (nearL m l i)).set i (intC (nearZ m l[i])) = zl ((nearL m l i).set i (nearZ m l[i])) := by simp [zl, List.map_set]
  rw [e1]
  congr 1
  unfold nearL
  rw [List.set_append_right _ _ (by simp; omega), List.take_succ_eq_append_getElem hi, List.map_append]
  have e2 : i - ((l.take i).map (nearZ m)).length = 0 := by simp; omega
  rw [e2, show l.length - i = (l.length - (i + 1)) + 1 by omega, List.replicate_succ]
  simp
theorem near_call (l : List Int) (m : Int) (hm : 0 < m) (hl : l.length < 1000000) (hs : ∀ x ∈ l, ln x < 1099511620000) (hms : ln m < 1099511620000) : ACall Tryz.prog 168 [.sl (zl l), .agg (intC m)] [.p (.sl (zl (trimZ (l.map (nearZ m)))))] := by
  refine acall_of_awp (hE []) Tryz.func168 rfl (by kernel_rfl) [] ?_
  conv => whnf
  rw [zl_len]
  refine chk_of (by rfl) ?_
  conv => whnf
  refine chk_of (by show (32 : Int) * (l.length : Nat) ≤ 281474976710656; omega) ?_
  conv => whnf
  rw [decide_eq_true (show ((l.length : Nat) : Int) ≤ 9223372036854775807 by omega)]
  conv => whnf
  refine ⟨Nat, fun i => i ≤ l.length, fun i => l.length - i,
    fun i => ⟨[.p (.sl (zl l)), .top, .top, .ptr 0 0 0, .top, .own 1 2 l.length, .top, .top, .top, .top, .top, .top, .top, .top, .p (.sl (zl l)), iI l.length, iI i, .top, .top, .top, .top, .top, .top, .top, .top, .top, .top, .top, .top, .top, .top, .top, .top, .top, .top, .top, .top, .top, .top, .top, .top, .top, .top, .top], [iBox m, some (.row 2 (zl (nearL m l i)) true)]⟩, [], 0, ?_, ?_⟩
  · conv => whnf
    repeat ((first | refine ⟨.inl rfl, ?_⟩ | refine ⟨rfl, ?_⟩); conv => whnf)
    refine ⟨.inl (vi (by rw [zl_len])), ?_⟩
    conv => whnf
    repeat ((first | refine ⟨.inl rfl, ?_⟩ | refine ⟨rfl, ?_⟩); conv => whnf)
    refine ⟨.inr (by rw [show nearL m l 0 = List.replicate l.length 0 by simp [nearL]]; exact zrows l.length), ?_⟩
    conv => whnf
    exact Nat.zero_le _
  · rintro i h1
    have e1 : IntKind.wrap .i64 ((i : Int) + 1) = ((i + 1 : Nat) : Int) := by rw [wi64 (by omega) (by omega)]; omega
    refine atS (s' := ⟨[.p (.sl (zl l)), .top, .top, .ptr 0 0 0, .top, .own 1 2 l.length, .top, .top, .top, .top, .top, .top, .top, .top, .p (.sl (zl l)), iI l.length, iI i, .top, .top, .top, .top, .top, .top, .top, .top, .top, .top, .top, .top, .top, .top, .top, .top, .top, .top, .top, .top, .top, .top, .top, .top, .top, .top, .top], [iBox m, some (.row 2 (zl (nearL m l i)) true)]⟩) rfl ?_
    conv => whnf
    by_cases hi : i < l.length
    · rw [decide_eq_true (show (i : Int) < (l.length : Nat) by omega)]
      have hln : ln l[i] < 1099511620000 := hs _ (List.getElem_mem hi)
      obtain ⟨x, hx⟩ : ∃ x, x = l[i] := ⟨_, rfl⟩
      have hg := zl_get hi
      rw [← hx] at hg hln
      have cd := idivmod_call x m (by omega) (by omega) (by omega)
      conv => whnf
      refine obind_of (hg) ?_
      conv => whnf
      refine ⟨_, cd, ?_⟩
      conv => whnf
      have hr0 := Int.emod_nonneg x (show m ≠ 0 by omega)
      have hr1 := Int.emod_lt_of_pos x hm
      have hnx : nearZ m x = if m < x % m + x % m then x % m - m else x % m := rfl
      obtain ⟨r, hr⟩ : ∃ r, r = x % m := ⟨_, rfl⟩
      rw [← hr] at hr0 hr1 hnx ⊢
      have lr : ln r < 1099511620000 := Nat.lt_of_le_of_lt (ln_mono (by omega)) hms
      have lrr : ln (r + r) < 1099511626000 := by have := ln_add r r; omega
      have ca := iadd_call r r (by omega) (by omega)
      have cc := icmp_call (r + r) m (by omega) (by omega)
      have cs := isub_call r m (by omega) (by omega)
      obtain ⟨q, hq⟩ : ∃ q, q = r + r := ⟨_, rfl⟩
      rw [← hq] at ca cc hnx
      obtain ⟨d, hd⟩ : ∃ d, d = r - m := ⟨_, rfl⟩
      rw [← hd] at cs hnx
      refine ⟨by kernel_rfl, ?_⟩
      conv => whnf
      refine ⟨_, ca, ?_⟩
      conv => whnf
      refine ⟨_, cc, ?_⟩
      conv => whnf
      refine ⟨.inl (by kernel_rfl), ?_⟩
      conv => whnf
      have fin : ∀ z, z = nearZ m x → (zl (nearL m l i)).set i (intC z) = zl (nearL m l (i + 1)) := fun z hz => by
        rw [hz, hx, nearL_set m l hi]
      have hlen : (zl (nearL m l i)).length = l.length := by rw [zl_len]; simp [nearL]; omega
      by_cases h : m < q
      · rw [decide_eq_true (show cmpZ q m > 0 by simp only [cmpZ]; split <;> (try split) <;> omega)]
        rw [if_pos h] at hnx
        conv => whnf
        refine ⟨_, cs, ?_⟩
        conv => whnf
        rw [decide_eq_true (show (i : Int) < (l.length : Nat) by omega)]
        conv => whnf
        rw [decide_eq_true (show ((i : Int)).toNat < (zl (nearL m l i)).length by rw [hlen]; omega)]
        conv => whnf
        refine ⟨i + 1, ?_⟩
        conv => whnf
        repeat ((first | refine ⟨.inl rfl, ?_⟩ | refine ⟨rfl, ?_⟩); conv => whnf)
        refine ⟨.inl (vi (by rw [e1])), ?_⟩
        conv => whnf
        repeat ((first | refine ⟨.inl rfl, ?_⟩ | refine ⟨rfl, ?_⟩); conv => whnf)
        refine ⟨.inl (fin d hnx.symm), ?_⟩
        conv => whnf
        exact ⟨by omega, by simp only; omega⟩
      · rw [decide_eq_false (show ¬ cmpZ q m > 0 by simp only [cmpZ]; split <;> (try split) <;> omega)]
        rw [if_neg h] at hnx
        conv => whnf
        rw [decide_eq_true (show (i : Int) < (l.length : Nat) by omega)]
        conv => whnf
        rw [decide_eq_true (show ((i : Int)).toNat < (zl (nearL m l i)).length by rw [hlen]; omega)]
        conv => whnf
        refine ⟨i + 1, ?_⟩
        conv => whnf
        repeat ((first | refine ⟨.inl rfl, ?_⟩ | refine ⟨rfl, ?_⟩); conv => whnf)
        refine ⟨.inl (vi (by rw [e1])), ?_⟩
        conv => whnf
        repeat ((first | refine ⟨.inl rfl, ?_⟩ | refine ⟨rfl, ?_⟩); conv => whnf)
        refine ⟨.inl (fin r hnx.symm), ?_⟩
        conv => whnf
        exact ⟨by omega, by simp only; omega⟩
    · rw [decide_eq_false (show ¬ (i : Int) < (l.length : Nat) by omega)]
      have ei : i = l.length := by omega
      have el : nearL m l i = l.map (nearZ m) := by rw [ei]; simp [nearL]
      rw [el]
      have cc := cut_call (l.map (nearZ m)) (by simpa using hl)
      conv => whnf
      refine ⟨_, cc, ?_⟩
      conv => whnf
      exact ⟨.inl rfl, trivial⟩
end Go.Am

set_option linter.unusedVariables false
set_option linter.unusedSimpArgs false
namespace Go.Am
open Go Go.Proofs
set_option maxRecDepth 100000
set_option maxHeartbeats 4000000
/-- One summand of a product's coefficient. -/
def trm (a b : List Int) (k i : Nat) : Int := if i ≤ k then a.getD i 0 * b.getD (k - i) 0 else 0
/-- The product's coefficients, i rows and j places of the next row being done. -/
def accF (a b : List Int) (i j k : Nat) : Int := Sm i (trm a b k) + (if k < i + j then trm a b k i else 0)
def accL (a b : List Int) (i j : Nat) : List Int := (List.range (a.length + b.length - 1)).map (accF a b i j)
theorem Sm_congr' {n : Nat} {f g : Nat → Int} (h : ∀ i, i < n → f i = g i) : Sm n f = Sm n g := by
  induction n with
  | zero => rfl
  | succ n ih => simp only [Sm]; rw [ih fun i hi => h i (by omega), h n (by omega)]
theorem Sm_zero_tail {n m : Nat} {f : Nat → Int} (h : n ≤ m) (h0 : ∀ i, n ≤ i → i < m → f i = 0) : Sm m f = Sm n f := by
  induction m with
  | zero => rw [show n = 0 by omega]
  | succ m ih =>
    by_cases e : n = m + 1
    · rw [e]
    · simp only [Sm]; rw [ih (by omega) (fun i q1 q2 => h0 i q1 (by omega)), h0 m (by omega) (by omega)]; omega
theorem accL_end (a b : List Int) : accL a b a.length 0 = convZ a b := by
  unfold accL convZ
  refine List.map_congr_left fun k hk => ?_
  have e0 : (if k < a.length + 0 then trm a b k a.length else 0) = 0 := by
    split
    · unfold trm; rw [if_neg (by omega)]
    · rfl
  unfold accF
  rw [e0]
  unfold convF
  have e1 : Sm a.length (trm a b k) = Sm (max a.length (k + 1)) (trm a b k) := (Sm_zero_tail (by omega) (fun i h1 h2 => by
    unfold trm; split
    · rw [show a.getD i 0 = 0 by simp [h1]]; simp
    · rfl)).symm
  have e2 : Sm (k + 1) (trm a b k) = Sm (max a.length (k + 1)) (trm a b k) := (Sm_zero_tail (by omega) (fun i h1 h2 => by
    unfold trm; rw [if_neg (by omega)])).symm
  rw [Int.add_zero, e1, ← e2]
  exact Sm_congr' fun i hi => by unfold trm; rw [if_pos (by omega)]
theorem accL_start (a b : List Int) : accL a b 0 0 = List.replicate (a.length + b.length - 1) 0 := by
  refine List.ext_getElem (by simp [accL]) fun k h1 h2 => ?_
  simp [accL, accF, Sm]
theorem accL_next (a b : List Int) (i : Nat) : accL a b i b.length = accL a b (i + 1) 0 := by
  unfold accL
  refine List.map_congr_left fun k hk => ?_
  unfold accF
  simp only [Sm, Nat.add_zero]
  have e0 : (if k < i + 1 then trm a b k (i + 1) else 0) = 0 := by
    split
    · unfold trm; rw [if_neg (by omega)]
    · rfl
  rw [e0, Int.add_zero]
  split
  · rfl
  · rename_i h
    rw [show trm a b k i = 0 by
      unfold trm
      split
      · rw [show b.getD (k - i) 0 = 0 by rw [List.getD, List.getElem?_eq_none (by omega)]; rfl]; simp
      · rfl]
theorem accL_set (a b : List Int) (i j : Nat) (hi : i < a.length) (hj : j < b.length) : (accL a b i j).set (i + j) ((accL a b i j).getD (i + j) 0 + a.getD i 0 * b.getD j 0) = accL a b i (j + 1) := by
  have hlen : (accL a b i j).length = a.length + b.length - 1 := by simp [accL]
  refine List.ext_getElem (by simp [accL]) fun k h1 h2 => ?_
  have hk : k < a.length + b.length - 1 := by simpa [accL] using h2
  rw [List.getElem_set]
  have get : ∀ (j k : Nat) (h : k < (accL a b i j).length), (accL a b i j)[k] = accF a b i j k := fun j k h => by simp [accL]
  by_cases e : i + j = k
  · subst e
    rw [if_pos rfl, show (accL a b i j).getD (i + j) 0 = accF a b i j (i + j) by
      have h3 : i + j < (accL a b i j).length := by rw [hlen]; exact hk
      simp [List.getD, List.getElem?_eq_getElem h3, get j _ h3], get (j + 1) _ h2]
    unfold accF
    rw [if_neg (by omega), if_pos (by omega)]
    rw [show trm a b (i + j) i = a.getD i 0 * b.getD j 0 by unfold trm; rw [if_pos (by omega), show i + j - i = j by omega]]
    omega
  · rw [if_neg e, get j k (by rw [hlen]; exact hk), get (j + 1) k h2]
    unfold accF
    by_cases q : k < i + j
    · rw [if_pos q, if_pos (by omega)]
    · rw [if_neg q, if_neg (by omega)]
theorem accF_abs (a b : List Int) (A C : Nat) (ha : Bd a A) (hb : Bd b C) (i j k : Nat) : (accF a b i j k).natAbs ≤ (i + 1) * (A * C) := by
  have ht : ∀ i, (trm a b k i).natAbs ≤ A * C := fun i => by
    unfold trm; split
    · rw [Int.natAbs_mul]; exact Nat.mul_le_mul (ha.getD i) (hb.getD (k - i))
    · simp
  have h1 := Sm_natAbs (n := i) (B := A * C) (f := trm a b k) fun i _ => ht i
  have h2 : (if k < i + j then trm a b k i else 0).natAbs ≤ A * C := by
    split
    · exact ht i
    · simp
  have h3 := Int.natAbs_add_le (Sm i (trm a b k)) (if k < i + j then trm a b k i else 0)
  unfold accF
  rw [Nat.add_mul, Nat.one_mul]
  omega
theorem multiply_call (a b : List Int) (A C L : Nat) (ha : Bd a A) (hb : Bd b C) (hA : A < 4294967296 ^ L) (hC : C < 4294967296 ^ L) (hs : (a.length + b.length) * (A * C) < 4294967296 ^ L) (hL : 2 * L < 1099511626000) (hl : a.length + b.length < 1000000) (h1 : a ≠ []) (h2 : b ≠ []) :
    ACall Tryz.prog 237 [.sl (zl a), .sl (zl b)] [.p (.sl (zl (trimZ (convZ a b))))] := by
  have c0 := iof_call 0 (by omega) (by omega)
  have la : 0 < a.length := List.length_pos_iff.2 h1
  have lb : 0 < b.length := List.length_pos_iff.2 h2
  refine acall_of_awp (hE []) Tryz.func237 rfl (by kernel_rfl) [] ?_
  conv => whnf
  rw [show (((zl a).length : Int) == 0) = false by simp only [zl_len, beq_eq_false_iff_ne]; omega]
  conv => whnf
  rw [show (((zl b).length : Int) == 0) = false by simp only [zl_len, beq_eq_false_iff_ne]; omega]
  conv => whnf
  obtain ⟨N, hN⟩ : ∃ N, N = a.length + b.length - 1 := ⟨_, rfl⟩
  have e0 : IntKind.wrap .i64 (IntKind.wrap .i64 (((zl a).length : Nat) + ((zl b).length : Nat)) - 1) = (N : Int) := by
    rw [zl_len, zl_len, wi64 (n := ((a.length : Nat) : Int) + (b.length : Nat)) (by omega) (by omega), wi64 (by omega) (by omega)]; omega
  rw [e0]
  rw [decide_eq_true (show (0 : Int) ≤ (N : Int) by omega)]
  conv => whnf
  refine chk_of (by rfl) ?_
  conv => whnf
  refine chk_of (by show (32 : Int) * (N : Nat) ≤ 281474976710656; omega) ?_
  conv => whnf
  rw [decide_eq_true (show ((N : Nat) : Int) ≤ 9223372036854775807 by omega)]
  conv => whnf
  refine ⟨Nat, fun i => i ≤ N, fun i => N - i,
    fun i => ⟨[.p (.sl (zl a)), .p (.sl (zl b)), .top, .top, .top, .own 0 2 N, .top, .top, .top, .top, .top, .top, .top, .top, .top, .top, .top, .top, .top, .top, .top, .top, .top, .top, .top, .top, .top, iI N, iI i, .top, .top, .top, .top, .top, .top, .top, .top, .top, .top, .top, .top, .top, .top, .top, .top, .top, .top, .top, .top, .top, .top, .top, .top, .top, .top, .top, .top, .top, .top, .top, .top, .top, .top, .top, .top, .top, .top, .top, .top], [some (.row 2 (zl (List.replicate N 0)) true)]⟩, [], 0, ?_, ?_⟩
  · conv => whnf
    repeat ((first | refine ⟨.inl rfl, ?_⟩ | refine ⟨rfl, ?_⟩); conv => whnf)
    refine ⟨.inr (zrows N), ?_⟩
    conv => whnf
    exact Nat.zero_le _
  · rintro i g1
    refine atS (s' := ⟨[.p (.sl (zl a)), .p (.sl (zl b)), .top, .top, .top, .own 0 2 N, .top, .top, .top, .top, .top, .top, .top, .top, .top, .top, .top, .top, .top, .top, .top, .top, .top, .top, .top, .top, .top, iI N, iI i, .top, .top, .top, .top, .top, .top, .top, .top, .top, .top, .top, .top, .top, .top, .top, .top, .top, .top, .top, .top, .top, .top, .top, .top, .top, .top, .top, .top, .top, .top, .top, .top, .top, .top, .top, .top, .top, .top, .top, .top], [some (.row 2 (zl (List.replicate N 0)) true)]⟩) rfl ?_
    conv => whnf
    by_cases hi : i < N
    · rw [decide_eq_true (show (i : Int) < (N : Nat) by omega)]
      have e1 : IntKind.wrap .i64 ((i : Int) + 1) = ((i + 1 : Nat) : Int) := by rw [wi64 (by omega) (by omega)]; omega
      have z0 : (zl (List.replicate N 0)).set i (intC 0) = zl (List.replicate N 0) := by
        simp only [zl, List.map_replicate]
        exact List.ext_getElem (by simp) fun k h1 h2 => by rw [List.getElem_set]; split <;> simp
      have hlen : (zl (List.replicate N 0)).length = N := by simp [zl]
      conv => whnf
      refine ⟨_, c0, ?_⟩
      conv => whnf
      rw [decide_eq_true (show (i : Int) < (N : Nat) by omega)]
      conv => whnf
      rw [decide_eq_true (show ((i : Int)).toNat < (zl (List.replicate N 0)).length by rw [hlen]; omega)]
      conv => whnf
      refine ⟨i + 1, ?_⟩
      conv => whnf
      repeat ((first | refine ⟨.inl rfl, ?_⟩ | refine ⟨rfl, ?_⟩); conv => whnf)
      refine ⟨.inl (vi (by rw [e1])), ?_⟩
      conv => whnf
      repeat ((first | refine ⟨.inl rfl, ?_⟩ | refine ⟨rfl, ?_⟩); conv => whnf)
      refine ⟨.inl (z0), ?_⟩
      conv => whnf
      exact ⟨by omega, by simp only; omega⟩
    · rw [decide_eq_false (show ¬ (i : Int) < (N : Nat) by omega)]
      conv => whnf
      have hl0 : accL a b 0 0 = List.replicate N 0 := by rw [hN]; exact accL_start a b
      refine ⟨Nat, fun i => i ≤ a.length, fun i => a.length - i,
        fun i => ⟨[.p (.sl (zl a)), .p (.sl (zl b)), .top, .top, .top, .own 0 2 N, .top, .top, .top, .top, .top, .top, .top, .top, .top, .top, .top, .top, .top, .top, .top, .top, .top, .top, .top, .top, .top, .top, .top, .top, .top, .top, .top, .top, .top, .top, .p (.sl (zl a)), iI a.length, iI i, .top, .top, .top, .top, .top, .top, .top, .top, .top, .top, .top, .top, .top, .top, .top, .top, .top, .top, .top, .top, .top, .top, .top, .top, .top, .top, .top, .top, .top, .top], [some (.row 2 (zl (accL a b i 0)) true)]⟩, [], 0, ?_, ?_⟩
      · conv => whnf
        repeat ((first | refine ⟨.inl rfl, ?_⟩ | refine ⟨rfl, ?_⟩); conv => whnf)
        refine ⟨.inl (vi (by rw [zl_len])), ?_⟩
        conv => whnf
        repeat ((first | refine ⟨.inl rfl, ?_⟩ | refine ⟨rfl, ?_⟩); conv => whnf)
        refine ⟨.inl ((by rw [hl0])), ?_⟩
        conv => whnf
        exact Nat.zero_le _
      · rintro i g2
        refine atS (s' := ⟨[.p (.sl (zl a)), .p (.sl (zl b)), .top, .top, .top, .own 0 2 N, .top, .top, .top, .top, .top, .top, .top, .top, .top, .top, .top, .top, .top, .top, .top, .top, .top, .top, .top, .top, .top, .top, .top, .top, .top, .top, .top, .top, .top, .top, .p (.sl (zl a)), iI a.length, iI i, .top, .top, .top, .top, .top, .top, .top, .top, .top, .top, .top, .top, .top, .top, .top, .top, .top, .top, .top, .top, .top, .top, .top, .top, .top, .top, .top, .top, .top, .top], [some (.row 2 (zl (accL a b i 0)) true)]⟩) rfl ?_
        conv => whnf
        by_cases hia : i < a.length
        · rw [decide_eq_true (show (i : Int) < (a.length : Nat) by omega)]
          obtain ⟨x, hx⟩ : ∃ x, x = a[i] := ⟨_, rfl⟩
          have hg := zl_get hia
          rw [← hx] at hg
          conv => whnf
          refine obind_of (hg) ?_
          conv => whnf
          refine ⟨Nat, fun j => j ≤ b.length, fun j => b.length - j,
            fun j => ⟨[.p (.sl (zl a)), .p (.sl (zl b)), .top, .top, .top, .own 0 2 N, .top, iI i, .ptr 1 0 0, .top, .top, .top, .top, .top, .top, .top, .top, .top, .top, .top, .top, .top, .top, .top, .top, .top, .top, .top, .top, .top, .top, .top, .top, .top, .top, .top, .p (.sl (zl a)), iI a.length, iI i, .top, .top, .top, .top, .p (.sl (zl b)), iI b.length, iI j, .top, .top, .top, .top, .top, .top, .top, .top, .top, .top, .top, .top, .top, .top, .top, .top, .top, .top, .top, .top, .top, .top, .top], [some (.row 2 (zl (accL a b i j)) true), iBox x]⟩, [], 0, ?_, ?_⟩
          · conv => whnf
            repeat ((first | refine ⟨.inl rfl, ?_⟩ | refine ⟨rfl, ?_⟩); conv => whnf)
            refine ⟨.inl (vi (by rw [zl_len])), ?_⟩
            conv => whnf
            repeat ((first | refine ⟨.inl rfl, ?_⟩ | refine ⟨rfl, ?_⟩); conv => whnf)
            exact Nat.zero_le _
          · rintro j g3
            refine atS (s' := ⟨[.p (.sl (zl a)), .p (.sl (zl b)), .top, .top, .top, .own 0 2 N, .top, iI i, .ptr 1 0 0, .top, .top, .top, .top, .top, .top, .top, .top, .top, .top, .top, .top, .top, .top, .top, .top, .top, .top, .top, .top, .top, .top, .top, .top, .top, .top, .top, .p (.sl (zl a)), iI a.length, iI i, .top, .top, .top, .top, .p (.sl (zl b)), iI b.length, iI j, .top, .top, .top, .top, .top, .top, .top, .top, .top, .top, .top, .top, .top, .top, .top, .top, .top, .top, .top, .top, .top, .top, .top], [some (.row 2 (zl (accL a b i j)) true), iBox x]⟩) rfl ?_
            conv => whnf
            by_cases hjb : j < b.length
            · rw [decide_eq_true (show (j : Int) < (b.length : Nat) by omega)]
              obtain ⟨y, hy⟩ : ∃ y, y = b[j] := ⟨_, rfl⟩
              have hgy := zl_get hjb
              rw [← hy] at hgy
              have hlen : (accL a b i j).length = N := by rw [hN]; simp [accL]
              have hij : i + j < (accL a b i j).length := by rw [hlen]; omega
              have hset := accL_set a b i j hia hjb
              have hab := accF_abs a b A C ha hb i j (i + j)
              have hxa := ha.getD i
              have hyb := hb.getD j
              rw [show a.getD i 0 = x by rw [hx]; simp [hia], show b.getD j 0 = y by rw [hy]; simp [hjb]] at hset
              rw [show a.getD i 0 = x by rw [hx]; simp [hia]] at hxa
              rw [show b.getD j 0 = y by rw [hy]; simp [hjb]] at hyb
              have hgs := zl_get hij
              have hsv : (accL a b i j)[i + j] = accF a b i j (i + j) := by simp [accL]
              rw [show (accL a b i j).getD (i + j) 0 = (accL a b i j)[i + j] by simp [hij]] at hset
              obtain ⟨s0, hs0⟩ : ∃ s0, s0 = (accL a b i j)[i + j] := ⟨_, rfl⟩
              rw [← hs0] at hgs hset hsv
              rw [← hsv] at hab
              have lx : ln x ≤ L := ln_le (by omega)
              have ly : ln y ≤ L := ln_le (by omega)
              have ls : ln s0 ≤ L := ln_le (by
                have : (i + 1) * (A * C) ≤ (a.length + b.length) * (A * C) := Nat.mul_le_mul_right _ (by omega)
                omega)
              have lxy := ln_mul x y
              have cm := imul_call x y (by omega)
              have cs := iadd_call s0 (x * y) (by omega) (by omega)
              obtain ⟨p, hp⟩ : ∃ p, p = x * y := ⟨_, rfl⟩
              rw [← hp] at cm cs hset
              obtain ⟨q, hq⟩ : ∃ q, q = s0 + p := ⟨_, rfl⟩
              rw [← hq] at cs hset
              have e3 : IntKind.wrap .i64 ((i : Int) + j) = ((i + j : Nat) : Int) := by rw [wi64 (by omega) (by omega)]; omega
              conv => whnf
              refine obind_of (hgy) ?_
              conv => whnf
              conv => whnf
              refine ⟨by kernel_rfl, ?_⟩
              conv => whnf
              rw [e3]
              rw [decide_eq_true (show (0 : Int) ≤ ((i + j : Nat) : Int) by omega)]
              conv => whnf
              refine chk_of (by omega) ?_
              conv => whnf
              conv => whnf
              refine obind_of (hgs) ?_
              conv => whnf
              conv => whnf
              refine ⟨_, cm, ?_⟩
              conv => whnf
              refine ⟨_, cs, ?_⟩
              conv => whnf
              conv => whnf
              rw [decide_eq_true (show ((i + j : Nat) : Int) < (N : Nat) by omega)]
              conv => whnf
              rw [decide_eq_true (show (((i + j : Nat) : Int)).toNat < (zl (accL a b i j)).length by rw [zl_len]; exact hij)]
              conv => whnf
              refine ⟨.inl (by kernel_rfl), ?_⟩
              conv => whnf
              have e4 : IntKind.wrap .i64 ((j : Int) + 1) = ((j + 1 : Nat) : Int) := by rw [wi64 (by omega) (by omega)]; omega
              have hset2 : (zl (accL a b i j)).set (i + j) (intC q) = zl (accL a b i (j + 1)) := by rw [← hset]; simp [zl, List.map_set]
              refine ⟨j + 1, ?_⟩
              conv => whnf
              repeat ((first | refine ⟨.inl rfl, ?_⟩ | refine ⟨rfl, ?_⟩); conv => whnf)
              refine ⟨.inl (vi (by rw [e4])), ?_⟩
              conv => whnf
              repeat ((first | refine ⟨.inl rfl, ?_⟩ | refine ⟨rfl, ?_⟩); conv => whnf)
              refine ⟨.inl (hset2), ?_⟩
              conv => whnf
              repeat ((first | refine ⟨.inl rfl, ?_⟩ | refine ⟨rfl, ?_⟩); conv => whnf)
              exact ⟨by show j + 1 ≤ b.length; omega, by show b.length - (j + 1) < b.length - j; omega⟩
            · rw [decide_eq_false (show ¬ (j : Int) < (b.length : Nat) by omega)]
              have ej : j = b.length := by omega
              have e1 : IntKind.wrap .i64 ((i : Int) + 1) = ((i + 1 : Nat) : Int) := by rw [wi64 (by omega) (by omega)]; omega
              rw [ej, accL_next]
              conv => whnf
              refine ⟨i + 1, ?_⟩
              conv => whnf
              repeat ((first | refine ⟨.inl rfl, ?_⟩ | refine ⟨rfl, ?_⟩); conv => whnf)
              refine ⟨.inl (vi (by rw [e1])), ?_⟩
              conv => whnf
              repeat ((first | refine ⟨.inl rfl, ?_⟩ | refine ⟨rfl, ?_⟩); conv => whnf)
              exact ⟨by omega, by simp only; omega⟩
        · rw [decide_eq_false (show ¬ (i : Int) < (a.length : Nat) by omega)]
          have ei : i = a.length := by omega
          have hcut := cut_call (convZ a b) (by simp [convZ]; omega)
          rw [← accL_end, ← ei] at hcut
          rw [← accL_end, ← ei]
          conv => whnf
          refine ⟨_, hcut, ?_⟩
          conv => whnf
          exact ⟨.inl rfl, trivial⟩
end Go.Am

set_option linter.unusedVariables false
set_option linter.unusedSimpArgs false
namespace Go.Am
open Go Go.Proofs
set_option maxRecDepth 100000
set_option maxHeartbeats 4000000
/-- c times g, moved up by i, taken off r at its first j places. -/
def subF (g r : List Int) (i : Nat) (c : Int) (j k : Nat) : Int := r.getD k 0 - (if i ≤ k ∧ k < i + j then c * g.getD (k - i) 0 else 0)
def subP (g r : List Int) (i : Nat) (c : Int) (j : Nat) : List Int := (List.range r.length).map (subF g r i c j)
theorem subP_len (g r : List Int) (i : Nat) (c : Int) (j : Nat) : (subP g r i c j).length = r.length := by simp [subP]
theorem subP_zero (g r : List Int) (i : Nat) (c : Int) : subP g r i c 0 = r := by
  refine List.ext_getElem (subP_len ..) fun k h1 h2 => ?_
  simp only [subP, subF, List.getElem_map, List.getElem_range]
  rw [if_neg (by omega)]
  simp [h2]
theorem subP_set (g r : List Int) (i : Nat) (c : Int) (j : Nat) (h : i + j < r.length) : (subP g r i c j).set (i + j) ((subP g r i c j).getD (i + j) 0 - c * g.getD j 0) = subP g r i c (j + 1) := by
  refine List.ext_getElem (by simp [subP_len]) fun k h1 h2 => ?_
  have hk : k < r.length := by simpa [subP_len] using h2
  have get : ∀ (j k : Nat) (h : k < (subP g r i c j).length), (subP g r i c j)[k] = subF g r i c j k := fun j k h => by simp [subP]
  rw [List.getElem_set]
  by_cases e : i + j = k
  · subst e
    have h3 : i + j < (subP g r i c j).length := by rw [subP_len]; exact h
    rw [if_pos rfl, show (subP g r i c j).getD (i + j) 0 = subF g r i c j (i + j) by simp [List.getD, List.getElem?_eq_getElem h3, get j _ h3], get (j + 1) _ h2]
    unfold subF
    rw [if_neg (by omega), if_pos (by omega), show i + j - i = j by omega]
    omega
  · rw [if_neg e, get j k (by rw [subP_len]; exact hk), get (j + 1) k h2]
    unfold subF
    by_cases q : i ≤ k ∧ k < i + j
    · rw [if_pos q, if_pos (by omega)]
    · rw [if_neg q, if_neg (by omega)]
/-- Division by a polynomial whose leading coefficient is one: quotient's coefficients from i - 1 down, and what is left. -/
def exactR (g : List Int) : Nat → List Int → List Int × List Int
  | 0, r => ([], r)
  | i + 1, r => let c := r.getD (i + g.length - 1) 0
    let p := exactR g i (subP g r i c g.length)
    (p.1 ++ [c], p.2)
theorem subP_abs (g r : List Int) (B G : Nat) (hr : Bd r B) (hg : Bd g G) (i j : Nat) (c : Int) (hc : c.natAbs ≤ B) : Bd (subP g r i c j) (B * (1 + G)) := by
  intro x hx
  obtain ⟨k, _, rfl⟩ := List.mem_map.1 hx
  unfold subF
  have h1 := hr.getD k
  have h2 : (if i ≤ k ∧ k < i + j then c * g.getD (k - i) 0 else 0).natAbs ≤ B * G := by
    split
    · rw [Int.natAbs_mul]; exact Nat.mul_le_mul hc (hg.getD _)
    · simp
  have h3 := Int.natAbs_sub_le (r.getD k 0) (if i ≤ k ∧ k < i + j then c * g.getD (k - i) 0 else 0)
  rw [Nat.mul_add, Nat.mul_one]
  omega
theorem fexact_call (f g : List Int) (A G L : Nat) (hf : Bd f A) (hg : Bd g G) (hG : G < 4294967296 ^ L) (hs : A * (1 + G) ^ (f.length + 1) < 4294967296 ^ L) (hL : 2 * L < 1099511626000) (hl : f.length + g.length < 1000000) (hg0 : g ≠ []) :
    ACall Tryz.prog 264 [.sl (zl f), .sl (zl g)] [.p (.sl (zl (exactR g (f.length + 1 - g.length) f).1)), .p (.val (.bool (decide (trimZ (exactR g (f.length + 1 - g.length) f).2 = []))))] := by
  have lg : 0 < g.length := List.length_pos_iff.2 hg0
  have cc := clone_ints (zl f) (fun e he => by obtain ⟨z, _, rfl⟩ := List.mem_map.1 he; rfl) (by rw [zl_len]; omega)
  obtain ⟨K, hK⟩ : ∃ K, K = f.length + 1 - g.length := ⟨_, rfl⟩
  rw [← hK]
  refine acall_of_awp (hE []) Tryz.func264 rfl (by kernel_rfl) [] ?_
  conv => whnf
  refine ⟨_, cc, ?_⟩
  conv => whnf
  have e0 : IntKind.wrap .i64 (IntKind.wrap .i64 (((zl f).length : Nat) - ((zl g).length : Nat)) + 1) = ((f.length : Nat) : Int) - (g.length : Nat) + 1 := by
    rw [zl_len, zl_len, wi64 (n := ((f.length : Nat) : Int) - (g.length : Nat)) (by omega) (by omega), wi64 (by omega) (by omega)]
  have eK : (if 0 > ((f.length : Nat) : Int) - (g.length : Nat) + 1 then 0 else ((f.length : Nat) : Int) - (g.length : Nat) + 1) = (K : Int) := by
    split <;> omega
  rw [e0, eK]
  rw [decide_eq_true (show (0 : Int) ≤ (K : Int) by omega)]
  conv => whnf
  refine chk_of (by rfl) ?_
  conv => whnf
  refine chk_of (by show (32 : Int) * (K : Nat) ≤ 281474976710656; omega) ?_
  conv => whnf
  rw [decide_eq_true (show ((K : Nat) : Int) ≤ 9223372036854775807 by omega)]
  conv => whnf
  have e1 : IntKind.wrap .i64 ((K : Int) - 1) = (K : Int) - 1 := wi64 (by omega) (by omega)
  refine ⟨Nat × List Int × List Int, fun x => x.1 ≤ K ∧ x.2.1.length = f.length ∧ Bd x.2.1 (A * (1 + G) ^ (K - x.1)) ∧ x.1 + x.2.2.length = K ∧ exactR g K f = ((exactR g x.1 x.2.1).1 ++ x.2.2, (exactR g x.1 x.2.1).2), fun x => x.1,
    fun x => ⟨[.own 0 2 f.length, .p (.sl (zl g)), .top, .top, .top, .top, .own 1 2 K, iI ((x.1 : Int) - 1), .top, .top, .top, .top, .top, .top, .top, .top, .top, .top, .top, .top, .top, .top, .top, .top, .top, .top, .top, .top, .top, .top, .top, .top, .top, .top, .top, .top, .top, .top, .top, .top, .top, .top, .top, .top, .top, .top, .top, .top, .top, .top, .top, .top, .top, .top, .top, .top, .top, .top, .top, .top, .top, .top, .top, .top, .top, .top, .top, .top, .top], [some (.row 2 (zl x.2.1) true), some (.row 2 (zl (List.replicate x.1 0 ++ x.2.2)) true)]⟩, [], (K, f, []), ?_, ?_⟩
  · conv => whnf
    repeat ((first | refine ⟨.inl rfl, ?_⟩ | refine ⟨rfl, ?_⟩); conv => whnf)
    refine ⟨by rw [zl_len], ?_⟩
    conv => whnf
    repeat ((first | refine ⟨.inl rfl, ?_⟩ | refine ⟨rfl, ?_⟩); conv => whnf)
    refine ⟨.inl (vi (by simp only [Int.toNat_natCast]; exact e1)), ?_⟩
    conv => whnf
    repeat ((first | refine ⟨.inl rfl, ?_⟩ | refine ⟨rfl, ?_⟩); conv => whnf)
    refine ⟨.inr (by rw [List.append_nil]; exact zrows K), ?_⟩
    conv => whnf
    exact ⟨Nat.le_refl _, rfl, by simpa using hf, by simp, by simp⟩
  · rintro ⟨i, r, qs⟩ ⟨k1, k2, k3, k4, k5⟩
    simp only at k1 k2 k3 k4 k5
    refine atS (s' := ⟨[.own 0 2 f.length, .p (.sl (zl g)), .top, .top, .top, .top, .own 1 2 K, iI ((i : Int) - 1), .top, .top, .top, .top, .top, .top, .top, .top, .top, .top, .top, .top, .top, .top, .top, .top, .top, .top, .top, .top, .top, .top, .top, .top, .top, .top, .top, .top, .top, .top, .top, .top, .top, .top, .top, .top, .top, .top, .top, .top, .top, .top, .top, .top, .top, .top, .top, .top, .top, .top, .top, .top, .top, .top, .top, .top, .top, .top, .top, .top, .top], [some (.row 2 (zl r) true), some (.row 2 (zl (List.replicate i 0 ++ qs)) true)]⟩) rfl ?_
    conv => whnf
    cases i with
    | zero =>
      rw [decide_eq_false (show ¬ ((0 : Nat) : Int) - 1 ≥ 0 by omega)]
      have hcut := cut_call r (by omega)
      rw [k5]
      simp only [exactR, List.nil_append, List.replicate_zero]
      conv => whnf
      refine ⟨_, hcut, ?_⟩
      conv => whnf
      have hb : ((((zl (trimZ r)).length : Nat) : Int) == 0) = decide (trimZ r = []) := by
        rw [zl_len]
        by_cases h : trimZ r = []
        · rw [h]; rfl
        · rw [decide_eq_false h, beq_eq_false_iff_ne]
          have := List.length_pos_iff.2 h
          omega
      refine ⟨.inl rfl, ?_⟩
      conv => whnf
      exact ⟨.inl (by rw [hb]; exact congrArg (fun b => PV.val (.bool b)) (decide_eq_decide.2 Iff.rfl)), trivial⟩
    | succ i =>
      rw [decide_eq_true (show ((i + 1 : Nat) : Int) - 1 ≥ 0 by omega), show ((i + 1 : Nat) : Int) - 1 = (i : Int) by omega]
      have e2 : IntKind.wrap .i64 ((i : Int) + (((zl g).length : Nat) : Int)) = ((i + g.length : Nat) : Int) := by rw [zl_len, wi64 (by omega) (by omega)]; omega
      have e3 : IntKind.wrap .i64 (((i + g.length : Nat) : Int) - 1) = ((i + g.length - 1 : Nat) : Int) := by rw [wi64 (by omega) (by omega)]; omega
      have hc : i + g.length - 1 < r.length := by omega
      have hgc := zl_get hc
      have hcb : (r[i + g.length - 1]).natAbs ≤ A * (1 + G) ^ (K - (i + 1)) := k3 _ (List.getElem_mem hc)
      have hcd : r.getD (i + g.length - 1) 0 = r[i + g.length - 1] := by simp [hc]
      obtain ⟨c, hcc⟩ : ∃ c, c = r[i + g.length - 1] := ⟨_, rfl⟩
      rw [← hcc] at hgc hcb hcd
      conv => whnf
      rw [e2, e3]
      conv => whnf
      rw [decide_eq_true (show ((i + g.length - 1 : Nat) : Int) < (f.length : Nat) by omega)]
      conv => whnf
      refine obind_of (hgc) ?_
      conv => whnf
      conv => whnf
      have hq : (zl (List.replicate (i + 1) 0 ++ qs)).set i (intC c) = zl (List.replicate i 0 ++ c :: qs) := by
        have e : (zl (List.replicate (i + 1) 0 ++ qs)).set i (intC c) = zl ((List.replicate (i + 1) 0 ++ qs).set i c) := by simp [zl, List.map_set]
        rw [e, List.replicate_succ', List.append_assoc, List.set_append_right _ _ (by simp)]
        simp
      have hql : (zl (List.replicate (i + 1) 0 ++ qs)).length = K := by rw [zl_len]; simp; omega
      rw [decide_eq_true (show (i : Int) < (K : Nat) by omega)]
      conv => whnf
      rw [decide_eq_true (show ((i : Int)).toNat < (zl (List.replicate (i + 1) 0 ++ qs)).length by rw [hql]; omega)]
      conv => whnf
      refine ⟨Nat, fun j => j ≤ g.length, fun j => g.length - j,
        fun j => ⟨[.own 0 2 f.length, .p (.sl (zl g)), .top, .top, .top, .top, .own 1 2 K, iI i, .top, .top, .top, .top, .top, .top, .top, .top, .top, .top, .top, .top, .top, .top, .top, .top, .top, .top, .top, .top, .top, .top, .top, .top, .top, .top, .top, .top, .top, .top, .p (.sl (zl g)), iI g.length, iI j, .top, .top, .top, .top, .top, .top, .top, .top, .top, .top, .top, .top, .top, .top, .top, .top, .top, .top, .top, .top, .top, .top, .top, .top, .top, .top, .top, .top], [some (.row 2 (zl (subP g r i c j)) true), some (.row 2 (zl (List.replicate i 0 ++ c :: qs)) true)]⟩, [], 0, ?_, ?_⟩
      · conv => whnf
        repeat ((first | refine ⟨.inl rfl, ?_⟩ | refine ⟨rfl, ?_⟩); conv => whnf)
        refine ⟨.inl (vi (by rw [zl_len])), ?_⟩
        conv => whnf
        repeat ((first | refine ⟨.inl rfl, ?_⟩ | refine ⟨rfl, ?_⟩); conv => whnf)
        refine ⟨.inl ((by rw [subP_zero])), ?_⟩
        conv => whnf
        refine ⟨.inl (hq), ?_⟩
        conv => whnf
        exact Nat.zero_le _
      · rintro j g3
        refine atS (s' := ⟨[.own 0 2 f.length, .p (.sl (zl g)), .top, .top, .top, .top, .own 1 2 K, iI i, .top, .top, .top, .top, .top, .top, .top, .top, .top, .top, .top, .top, .top, .top, .top, .top, .top, .top, .top, .top, .top, .top, .top, .top, .top, .top, .top, .top, .top, .top, .p (.sl (zl g)), iI g.length, iI j, .top, .top, .top, .top, .top, .top, .top, .top, .top, .top, .top, .top, .top, .top, .top, .top, .top, .top, .top, .top, .top, .top, .top, .top, .top, .top, .top, .top], [some (.row 2 (zl (subP g r i c j)) true), some (.row 2 (zl (List.replicate i 0 ++ c :: qs)) true)]⟩) rfl ?_
        conv => whnf
        by_cases hj : j < g.length
        · rw [decide_eq_true (show (j : Int) < (g.length : Nat) by omega)]
          obtain ⟨y, hy⟩ : ∃ y, y = g[j] := ⟨_, rfl⟩
          have hgy := zl_get hj
          rw [← hy] at hgy
          have hij : i + j < (subP g r i c j).length := by rw [subP_len]; omega
          have hset := subP_set g r i c j (by omega)
          have hgs := zl_get hij
          have hab := (subP_abs g r _ G k3 hg i j c hcb) _ (List.getElem_mem hij)
          have hyb := hg _ (List.getElem_mem hj)
          rw [show g.getD j 0 = y by rw [hy]; simp [hj], show (subP g r i c j).getD (i + j) 0 = (subP g r i c j)[i + j] by simp [hij]] at hset
          obtain ⟨s0, hs0⟩ : ∃ s0, s0 = (subP g r i c j)[i + j] := ⟨_, rfl⟩
          rw [← hs0] at hgs hset hab
          rw [← hy] at hyb
          have hbig : A * (1 + G) ^ (K - (i + 1)) * (1 + G) ≤ A * (1 + G) ^ (f.length + 1) := by
            rw [Nat.mul_assoc, ← Nat.pow_succ]
            exact Nat.mul_le_mul_left _ (Nat.pow_le_pow_right (by omega) (by omega))
          have hbig2 : A * (1 + G) ^ (K - (i + 1)) ≤ A * (1 + G) ^ (K - (i + 1)) * (1 + G) := Nat.le_mul_of_pos_right _ (by omega)
          have lc : ln c ≤ L := ln_le (by omega)
          have ly : ln y ≤ L := ln_le (by omega)
          have ls : ln s0 ≤ L := ln_le (by omega)
          have lcy := ln_mul c y
          have cm := imul_call c y (by omega)
          have cs := isub_call s0 (c * y) (by omega) (by omega)
          obtain ⟨p, hp⟩ : ∃ p, p = c * y := ⟨_, rfl⟩
          rw [← hp] at cm cs hset
          obtain ⟨q, hqq⟩ : ∃ q, q = s0 - p := ⟨_, rfl⟩
          rw [← hqq] at cs hset
          have e5 : IntKind.wrap .i64 ((i : Int) + j) = ((i + j : Nat) : Int) := by rw [wi64 (by omega) (by omega)]; omega
          have hqi : (zl (List.replicate i 0 ++ c :: qs))[i]? = some (intC c) := by simp [zl]
          conv => whnf
          refine obind_of (hgy) ?_
          conv => whnf
          conv => whnf
          refine ⟨by kernel_rfl, ?_⟩
          conv => whnf
          rw [e5]
          rw [decide_eq_true (show (0 : Int) ≤ ((i + j : Nat) : Int) by omega)]
          conv => whnf
          refine chk_of (by omega) ?_
          conv => whnf
          conv => whnf
          refine obind_of (hgs) ?_
          conv => whnf
          conv => whnf
          refine chk_of (by omega) ?_
          conv => whnf
          conv => whnf
          refine obind_of (hqi) ?_
          conv => whnf
          conv => whnf
          refine ⟨_, cm, ?_⟩
          conv => whnf
          refine ⟨_, cs, ?_⟩
          conv => whnf
          conv => whnf
          rw [decide_eq_true (show ((i + j : Nat) : Int) < (f.length : Nat) by omega)]
          conv => whnf
          rw [decide_eq_true (show (((i + j : Nat) : Int)).toNat < (zl (subP g r i c j)).length by rw [zl_len]; exact hij)]
          conv => whnf
          refine ⟨.inl (by kernel_rfl), ?_⟩
          conv => whnf
          have e6 : IntKind.wrap .i64 ((j : Int) + 1) = ((j + 1 : Nat) : Int) := by rw [wi64 (by omega) (by omega)]; omega
          have hset2 : (zl (subP g r i c j)).set (i + j) (intC q) = zl (subP g r i c (j + 1)) := by rw [← hset]; simp [zl, List.map_set]
          refine ⟨j + 1, ?_⟩
          conv => whnf
          repeat ((first | refine ⟨.inl rfl, ?_⟩ | refine ⟨rfl, ?_⟩); conv => whnf)
          refine ⟨.inl (vi (by rw [e6])), ?_⟩
          conv => whnf
          repeat ((first | refine ⟨.inl rfl, ?_⟩ | refine ⟨rfl, ?_⟩); conv => whnf)
          refine ⟨.inl (hset2), ?_⟩
          conv => whnf
          repeat ((first | refine ⟨.inl rfl, ?_⟩ | refine ⟨rfl, ?_⟩); conv => whnf)
          exact ⟨by show j + 1 ≤ g.length; omega, by show g.length - (j + 1) < g.length - j; omega⟩
        · rw [decide_eq_false (show ¬ (j : Int) < (g.length : Nat) by omega)]
          have ej : j = g.length := by omega
          have e4 : IntKind.wrap .i64 ((i : Int) - 1) = (i : Int) - 1 := wi64 (by omega) (by omega)
          rw [ej]
          conv => whnf
          refine ⟨(i, subP g r i c g.length, c :: qs), ?_⟩
          conv => whnf
          repeat ((first | refine ⟨.inl rfl, ?_⟩ | refine ⟨rfl, ?_⟩); conv => whnf)
          refine ⟨.inl (vi (by rw [e4])), ?_⟩
          conv => whnf
          repeat ((first | refine ⟨.inl rfl, ?_⟩ | refine ⟨rfl, ?_⟩); conv => whnf)
          refine ⟨⟨by simp only; omega, by simp only [subP_len]; omega, ?_, by simp only [List.length_cons]; omega, ?_⟩, Nat.lt_succ_self i⟩
          · have := subP_abs g r _ G k3 hg i g.length c hcb
            simp only
            rw [show K - i = (K - (i + 1)) + 1 by omega, Nat.pow_succ, ← Nat.mul_assoc]
            exact this
          · rw [k5]
            simp only [exactR, hcd, List.append_assoc, List.singleton_append]
end Go.Am

set_option linter.unusedVariables false
set_option linter.unusedSimpArgs false
namespace Go.Am
open Go Go.Proofs
set_option maxRecDepth 100000
set_option maxHeartbeats 4000000
/-- The product of the lifted factors that the mask names, near naught mod m; and the factors that it does not name. -/
def gOf (m : Int) (set : Nat) : Nat → List (List Int) → List Int → List Int
  | _, [], g => g
  | i, x :: l, g => gOf m set (i + 1) l (if set / 2 ^ i % 2 = 1 then trimZ ((trimZ (convZ g x)).map (nearZ m)) else g)
def restOf (set : Nat) : Nat → List (List Int) → List (List Int)
  | _, [] => []
  | i, x :: l => if set / 2 ^ i % 2 = 1 then restOf set (i + 1) l else x :: restOf set (i + 1) l
/-- Does the mask's product divide? Quotient, what is left to combine, and the factor. -/
def tryMask (f : List Int) (l : List (List Int)) (m : Int) (set : Nat) : Option (List Int × List (List Int) × List Int) :=
  let g := gOf m set 0 l [1]
  let p := exactR g (f.length + 1 - g.length) f
  if trimZ p.2 = [] then some (p.1, restOf set 0 l, g) else none
/-- The masks of one size; those below a size, by size, then by value. -/
def masksOf (n s : Nat) : List Nat := (List.range (2 ^ n)).filter (fun k => pop k == s)
def masksUpto (n : Nat) : Nat → List Nat
  | 0 => []
  | s + 1 => masksUpto n s ++ masksOf n (s + 1)
def combineG (R : List Int → List (List Int) → List (List Int)) (f : List Int) (l : List (List Int)) (m : Int) : List (List Int) :=
  match (masksUpto l.length (l.length / 2)).findSome? (tryMask f l m) with
  | some (q, rest, g) => R q rest ++ [g]
  | none => [f]
def combineF : Nat → List Int → List (List Int) → Int → List (List Int)
  | 0, f, _, _ => [f]
  | n + 1, f, l, m => combineG (fun q rest => combineF n q rest m) f l m
theorem masksTo_eq (s n : Nat) : masksTo s (2 ^ n) = (masksOf n s).map fun m : Nat => Value.int .u64 (m : Int) := rfl
/-! ### Plain facts -/
def Mon (l : List Int) : Prop := ∃ t, l = t ++ [1]
theorem Mon.ne {l : List Int} (h : Mon l) : l ≠ [] := by obtain ⟨t, rfl⟩ := h; simp
theorem Mon.trim {l : List Int} (h : Mon l) : trimZ l = l := by obtain ⟨t, rfl⟩ := h; exact trimZ_snoc _ _ (by decide)
theorem Mon.last {l : List Int} (h : Mon l) : l.getD (l.length - 1) 0 = 1 := by obtain ⟨t, rfl⟩ := h; simp
theorem mon_of {l : List Int} (h0 : l ≠ []) (h : l.getD (l.length - 1) 0 = 1) : Mon l := by
  rcases List.eq_nil_or_concat l with rfl | ⟨t, x, rfl⟩
  · exact absurd rfl h0
  · simp at h; subst h; exact ⟨t, by simp⟩
theorem nearZ_one {m : Int} (hm : 2 ≤ m) : nearZ m 1 = 1 := by
  unfold nearZ
  rw [Int.emod_eq_of_lt (by omega) (by omega), if_neg (by omega)]
theorem nearZ_abs {m : Int} (hm : 2 ≤ m) (x : Int) : (nearZ m x).natAbs ≤ m.natAbs := by
  have h0 := Int.emod_nonneg x (show m ≠ 0 by omega)
  have h1 := Int.emod_lt_of_pos x (show 0 < m by omega)
  unfold nearZ
  split <;> omega
theorem Mon.near {l : List Int} (h : Mon l) {m : Int} (hm : 2 ≤ m) : Mon (l.map (nearZ m)) := by
  obtain ⟨t, rfl⟩ := h
  exact ⟨t.map (nearZ m), by simp [nearZ_one hm]⟩
theorem Mon.conv {a b : List Int} (ha : Mon a) (hb : Mon b) : Mon (convZ a b) := by
  have la := List.length_pos_iff.2 ha.ne
  have lb := List.length_pos_iff.2 hb.ne
  have len : (convZ a b).length = a.length + b.length - 1 := by simp [convZ]
  refine mon_of (by rw [ne_eq, ← List.length_eq_zero_iff, len]; omega) ?_
  rw [len]
  have hi : a.length + b.length - 1 - 1 < (convZ a b).length := by rw [len]; omega
  rw [show (convZ a b).getD (a.length + b.length - 1 - 1) 0 = convF a b (a.length + b.length - 1 - 1) by rw [List.getD, List.getElem?_eq_getElem hi]; simp [convZ]]
  unfold convF
  rw [Sm_single (k := a.length - 1) (by omega) ?_, show a.length + b.length - 1 - 1 - (a.length - 1) = b.length - 1 by omega, ha.last, hb.last]; · rfl
  intro i h1 h2
  by_cases q : i < a.length
  · rw [show b.getD (a.length + b.length - 1 - 1 - i) 0 = 0 by rw [List.getD, List.getElem?_eq_none (by omega)]; rfl, Int.mul_zero]
  · rw [show a.getD i 0 = 0 by rw [List.getD, List.getElem?_eq_none (by omega)]; rfl, Int.zero_mul]
theorem convZ_bd {a b : List Int} {A C : Nat} (ha : Bd a A) (hb : Bd b C) : Bd (convZ a b) ((a.length + b.length) * (A * C)) := by
  intro x hx
  obtain ⟨k, hk, rfl⟩ := List.mem_map.1 hx
  have hk := List.mem_range.1 hk
  refine Nat.le_trans (Sm_natAbs (B := A * C) fun i _ => ?_) (Nat.mul_le_mul_right _ (by omega))
  rw [Int.natAbs_mul]
  exact Nat.mul_le_mul (ha.getD i) (hb.getD (k - i))
theorem convZ_len (a b : List Int) : (convZ a b).length = a.length + b.length - 1 := by simp [convZ]
/-- One factor more. -/
theorem gstep {m : Int} (hm : 2 ≤ m) {g x : List Int} (hg : Mon g) (hx : Mon x) : trimZ ((trimZ (convZ g x)).map (nearZ m)) = (convZ g x).map (nearZ m) := by
  rw [(hg.conv hx).trim, ((hg.conv hx).near hm).trim]
theorem gstep_bd {m : Int} (hm : 2 ≤ m) (l : List Int) : Bd (l.map (nearZ m)) m.natAbs := by
  intro x hx
  obtain ⟨k, hk, rfl⟩ := List.mem_map.1 hx
  exact nearZ_abs hm k
theorem restOf_le (set : Nat) : ∀ (l : List (List Int)) (k : Nat), (restOf set k l).length ≤ l.length := by
  intro l
  induction l with
  | nil => intro k; exact Nat.le_refl _
  | cons x l ih =>
    intro k
    have := ih (k + 1)
    simp only [restOf]
    split <;> simp only [List.length_cons] <;> omega
theorem restOf_lt (set : Nat) : ∀ (l : List (List Int)) (k i : Nat), i < l.length → set / 2 ^ (k + i) % 2 = 1 → (restOf set k l).length < l.length := by
  intro l
  induction l with
  | nil => intro k i h; simp at h
  | cons x l ih =>
    intro k i h1 h2
    have := restOf_le set l (k + 1)
    simp only [restOf]
    cases i with
    | zero => rw [if_pos (by simpa using h2)]; simp only [List.length_cons]; omega
    | succ i =>
      have := ih (k + 1) i (by simpa using h1) (by rw [show k + 1 + i = k + (i + 1) by omega]; exact h2)
      split <;> simp only [List.length_cons] <;> omega
theorem restOf_mem (set : Nat) : ∀ (l : List (List Int)) (k : Nat), ∀ x ∈ restOf set k l, x ∈ l := by
  intro l
  induction l with
  | nil => intro k x h; exact h
  | cons y l ih =>
    intro k x h
    simp only [restOf] at h
    split at h
    · exact List.mem_cons_of_mem _ (ih _ _ h)
    · rcases List.mem_cons.1 h with rfl | h
      · exact List.mem_cons_self
      · exact List.mem_cons_of_mem _ (ih _ _ h)
theorem bit_ex : ∀ (n k : Nat), 0 < k → k < 2 ^ n → ∃ i, i < n ∧ k / 2 ^ i % 2 = 1 := by
  intro n
  induction n with
  | zero => intro k h1 h2; simp at h2; omega
  | succ n ih =>
    intro k h1 h2
    by_cases h : k % 2 = 1
    · exact ⟨0, by omega, by simpa using h⟩
    · obtain ⟨i, q1, q2⟩ := ih (k / 2) (by omega) (by rw [Nat.pow_succ] at h2; omega)
      exact ⟨i + 1, by omega, by rw [Nat.pow_succ, Nat.mul_comm, ← Nat.div_div_eq_div_mul]; exact q2⟩
theorem pop_zero : pop 0 = 0 := by decide
theorem restOf_mask {l : List (List Int)} {k s : Nat} (hk : k ∈ masksOf l.length s) (hs : 1 ≤ s) : (restOf k 0 l).length < l.length := by
  obtain ⟨h1, h2⟩ := List.mem_filter.1 hk
  have h1 := List.mem_range.1 h1
  have h3 : 0 < k := by
    rcases Nat.eq_zero_or_pos k with rfl | h
    · rw [pop_zero] at h2; have := eq_of_beq h2; omega
    · exact h
  obtain ⟨i, q1, q2⟩ := bit_ex _ k h3 h1
  exact restOf_lt k l 0 i q1 (by simpa using q2)
/-- What is so of g behind i factors. -/
structure GOK (m : Int) (D i : Nat) (g : List Int) : Prop where
  mon : Mon g
  bd : Bd g m.natAbs
  len : g.length ≤ 1 + i * D
theorem GOK.start {m : Int} (hm : 2 ≤ m) (D : Nat) : GOK m D 0 [1] := ⟨⟨[], rfl⟩, fun x hx => by simp at hx; subst hx; omega, by simp⟩
theorem GOK.skip {m : Int} {D i : Nat} {g : List Int} (h : GOK m D i g) : GOK m D (i + 1) g := ⟨h.mon, h.bd, by have := h.len; rw [Nat.add_mul]; omega⟩
theorem GOK.step {m : Int} (hm : 2 ≤ m) {D i : Nat} {g x : List Int} (h : GOK m D i g) (hx : Mon x) (hD : x.length ≤ D) : GOK m D (i + 1) ((convZ g x).map (nearZ m)) :=
  ⟨(h.mon.conv hx).near hm, gstep_bd hm _, by have := h.len; rw [List.length_map, convZ_len, Nat.add_mul]; omega⟩
theorem gOf_ok {m : Int} (hm : 2 ≤ m) {D : Nat} (set : Nat) : ∀ (l : List (List Int)) (i : Nat) (g : List Int), (∀ x ∈ l, Mon x ∧ x.length ≤ D) → GOK m D i g → GOK m D (i + l.length) (gOf m set i l g) := by
  intro l
  induction l with
  | nil => intro i g _ h; exact h
  | cons x l ih =>
    intro i g hl h
    obtain ⟨h1, h2⟩ := hl x List.mem_cons_self
    simp only [gOf, List.length_cons]
    rw [show i + (l.length + 1) = (i + 1) + l.length by omega]
    refine ih _ _ (fun y hy => hl y (List.mem_cons_of_mem _ hy)) ?_
    split
    · rw [gstep hm h.mon h1]; exact h.step hm h1 h2
    · exact h.skip
theorem exactR_bd (g : List Int) (G : Nat) (hg : Bd g G) : ∀ (i : Nat) (r : List Int) (B : Nat), Bd r B → Bd (exactR g i r).1 (B * (1 + G) ^ i) ∧ (exactR g i r).1.length = i := by
  intro i
  induction i with
  | zero => intro r B h; exact ⟨fun x hx => by simp [exactR] at hx, rfl⟩
  | succ i ih =>
    intro r B h
    have hc := h.getD (i + g.length - 1)
    obtain ⟨h1, h2⟩ := ih (subP g r i (r.getD (i + g.length - 1) 0) g.length) _ (subP_abs g r B G h hg i g.length _ hc)
    have hp : 0 < (1 + G) ^ (i + 1) := Nat.pow_pos (by omega)
    refine ⟨fun x hx => ?_, by simp only [exactR, List.length_append, h2, List.length_singleton]⟩
    simp only [exactR, List.mem_append, List.mem_singleton] at hx
    rcases hx with hx | rfl
    · have := h1 x hx
      rw [Nat.pow_succ, Nat.mul_comm ((1 + G) ^ i), ← Nat.mul_assoc]
      exact this
    · exact Nat.le_trans hc (Nat.le_mul_of_pos_right _ hp)
theorem findSome_app {α β : Type} (f : α → Option β) (a b : List α) : (a ++ b).findSome? f = match a.findSome? f with
  | some x => some x
  | none => b.findSome? f := by
  rw [List.findSome?_append]
  cases a.findSome? f <;> rfl
theorem masksUpto_some {α : Type} (n : Nat) (f : Nat → Option α) {s t : Nat} (h : s ≤ t) {r : α} (hs : (masksUpto n s).findSome? f = some r) : (masksUpto n t).findSome? f = some r := by
  induction t with
  | zero => rw [show s = 0 by omega] at hs; exact hs
  | succ t ih =>
    by_cases e : s = t + 1
    · rw [← e]; exact hs
    · simp only [masksUpto]; rw [findSome_app, ih (by omega)]
theorem masksUpto_mem (n : Nat) {s t k : Nat} (h1 : 1 ≤ s) (h : s ≤ t) (hk : k ∈ masksOf n s) : k ∈ masksUpto n t := by
  induction t with
  | zero => omega
  | succ t ih =>
    simp only [masksUpto, List.mem_append]
    by_cases e : s = t + 1
    · rw [← e]; exact .inr hk
    · exact .inl (ih (by omega))
theorem masks_first {α : Type} {l : List Nat} {pre : List Value} {k : Nat} {f : Nat → Option α} {r : α} (h : pre ++ [Value.int .u64 (k : Int)] <+: l.map fun m : Nat => Value.int .u64 (m : Int)) (h0 : ∀ k : Nat, Value.int .u64 (k : Int) ∈ pre → f k = none) (hk : f k = some r) : l.findSome? f = some r := by
  obtain ⟨t, ht⟩ := h
  obtain ⟨a, b, rfl, ha, hb⟩ := List.map_eq_append_iff.1 ht.symm
  obtain ⟨a1, a2, rfl, h1, h2⟩ := List.map_eq_append_iff.1 ha
  obtain ⟨k', rfl⟩ : ∃ k', a2 = [k'] := by
    match a2, h2 with
    | [k'], _ => exact ⟨k', rfl⟩
  simp at h2
  obtain rfl : k' = k := by omega
  rw [findSome_app, findSome_app]
  have : a1.findSome? f = none := by
    rw [List.findSome?_eq_none_iff]
    exact fun x hx => h0 x (by rw [← h1]; exact List.mem_map.2 ⟨x, hx, rfl⟩)
  rw [this]
  simp [hk]
end Go.Am

set_option linter.unusedVariables false
set_option linter.unusedSimpArgs false
namespace Go.Am
open Go Go.Proofs
set_option maxRecDepth 100000
set_option maxHeartbeats 4000000
/-- A row of rows. -/
def lzl (l : List (List Int)) : List (List PV) := l.map fun x => [.sl (zl x)]
theorem lzl_len (l : List (List Int)) : (lzl l).length = l.length := by simp [lzl]
theorem lzl_get {l : List (List Int)} {i : Nat} (h : i < l.length) : (lzl l)[i]? = some [.sl (zl l[i])] := by simp [lzl, h]
theorem lzl_app (a b : List (List Int)) : lzl a ++ lzl b = lzl (a ++ b) := by simp [lzl]
theorem and_one64 (x : Nat) (h : x < 18446744073709551616) : IntKind.wrap .u64 ((BitVec.ofInt IntKind.u64.bits (x : Int) &&& BitVec.ofInt IntKind.u64.bits 1).toNat : Nat) = ((x % 2 : Nat) : Int) := by
  have e : (BitVec.ofInt IntKind.u64.bits (x : Int) &&& BitVec.ofInt IntKind.u64.bits 1).toNat = x % 2 := by
    have : (BitVec.ofInt 64 (x : Int) &&& BitVec.ofInt 64 ((1 : Nat) : Int)).toNat = x % 2 := by
      rw [ofInt_toNat, ofInt_toNat, BitVec.toNat_and, BitVec.toNat_ofNat, BitVec.toNat_ofNat, Nat.mod_eq_of_lt (by omega), Nat.mod_eq_of_lt (by omega), Nat.and_one_is_mod]
    exact this
  rw [e]
  exact u64_nn (by omega)
/-- The sizes that combine wants. -/
structure CombOK (f : List Int) (l : List (List Int)) (m : Int) (A L : Nat) : Prop where
  m2 : 2 ≤ m
  mon : ∀ x ∈ l, Mon x ∧ Bd x m.natAbs ∧ x.length ≤ 100
  l12 : l.length ≤ 12
  f100 : f.length ≤ 100
  bd : Bd f A
  size : A * (1 + m.natAbs) ^ (101 * (l.length + 1)) < 4294967296 ^ L
  msize : 1000000 * (m.natAbs * m.natAbs) < 4294967296 ^ L
  hL : 2 * L < 1099511600000
theorem combine_g {f : List Int} {l : List (List Int)} {m : Int} {A L : Nat} (h : CombOK f l m A L) (R : List Int → List (List Int) → List (List Int))
    (IH : ∀ k g q rest, k ∈ masksUpto l.length (l.length / 2) → tryMask f l m k = some (q, rest, g) → ACall Tryz.prog 201 [.sl (zl q), .sl (lzl rest), .agg (intC m)] [.new 1 (lzl (R q rest))] ∧ (R q rest).length < 1000) :
    ACall Tryz.prog 201 [.sl (zl f), .sl (lzl l), .agg (intC m)] [.new 1 (lzl (combineG R f l m))] := by
  have hll : (lzl l).length = l.length := lzl_len l
  have hl := h.l12
  have c1 := iof_call 1 (by omega) (by omega)
  refine acall_of_awp (hE [263]) Tryz.func201 rfl (by kernel_rfl) [] ?_
  conv => whnf
  refine ⟨Nat, fun s => 1 ≤ s ∧ s ≤ l.length + 1 ∧ (masksUpto l.length (s - 1)).findSome? (tryMask f l m) = none, fun s => l.length + 1 - s,
    fun s => ⟨[.top, .top, .top, .ptr 0 0 0, .ptr 1 0 0, .ptr 2 0 0, .ptr 3 0 0, iI s, .top, .top, .top, .top, .top, .top, .top, .top, .top, .top, .top, .top, .top, .top, .top, .top, .top, .top, .top, .top, .top, .top, .top, .top, .top, .top, .top, .top, .top, .top, .top, .top, .top, .top, .top, .top, .top, .top, .top, .top, .top, .top, .top, .top, .top, .top, .top, .top, .top, .top, .top, .top, .top, .top, .top, .top, .top, .top, .top], [some (.box [.p (.sl (zl f))]), some (.box [.p (.sl (lzl l))]), iBox m, some (.box [.p (.val (.slice none 0 0))])]⟩, [], 1, ?_, ?_⟩
  · conv => whnf
    repeat ((first | refine ⟨.inl rfl, ?_⟩ | refine ⟨rfl, ?_⟩); conv => whnf)
    exact ⟨Nat.le_refl _, by omega, rfl⟩
  · rintro s ⟨g1, g2, g3⟩
    refine atS (s' := ⟨[.top, .top, .top, .ptr 0 0 0, .ptr 1 0 0, .ptr 2 0 0, .ptr 3 0 0, iI s, .top, .top, .top, .top, .top, .top, .top, .top, .top, .top, .top, .top, .top, .top, .top, .top, .top, .top, .top, .top, .top, .top, .top, .top, .top, .top, .top, .top, .top, .top, .top, .top, .top, .top, .top, .top, .top, .top, .top, .top, .top, .top, .top, .top, .top, .top, .top, .top, .top, .top, .top, .top, .top, .top, .top, .top, .top, .top, .top], [some (.box [.p (.sl (zl f))]), some (.box [.p (.sl (lzl l))]), iBox m, some (.box [.p (.val (.slice none 0 0))])]⟩) rfl ?_
    have e1 : IntKind.wrap .i64 (2 * (s : Int)) = ((2 * s : Nat) : Int) := by rw [wi64 (by omega) (by omega)]; omega
    conv => whnf
    rw [e1]
    by_cases hs : 2 * s ≤ l.length
    · rw [decide_eq_true (show ((2 * s : Nat) : Int) ≤ ((lzl l).length : Nat) by rw [hll]; omega)]
      conv => whnf
      refine (subsets_call _ _ _ _ _ _).mono ?_
      rintro xs m' ⟨rfl, rfl⟩
      conv => whnf
      rw [hll]
      have hup : masksUpto l.length s = masksUpto l.length (s - 1) ++ masksOf l.length s := by
        obtain ⟨t, rfl⟩ : ∃ t, s = t + 1 := ⟨s - 1, by omega⟩
        rfl
      refine ⟨_, subsets_icall l.length s hl, Nat.le_of_ble_eq_true rfl, Unit, fun pre _ => ∀ k : Nat, Value.int .u64 (k : Int) ∈ pre → tryMask f l m k = none,
        fun _ => [some (.box [.p (.sl (zl f))]), some (.box [.p (.sl (lzl l))]), iBox m, some (.box [.p (.val (.slice none 0 0))]), some (.box [.p (.val (.int .i64 (l.length : Nat)))]), some (.box [.p (.val (.int .i64 (s : Nat)))])], (), ?_, ?_, ?_⟩
      · conv => whnf
        repeat ((first | refine ⟨.inl rfl, ?_⟩ | refine ⟨rfl, ?_⟩); conv => whnf)
        intro k hk
        simp at hk
      · rintro pre v ⟨⟩ hI hv
        rw [masksTo_eq] at hv
        obtain ⟨k, hk, rfl⟩ := List.mem_map.1 hv
        clear hv
        obtain ⟨hk1, hk2⟩ := List.mem_filter.1 hk
        have hk1 := List.mem_range.1 hk1
        have hk12 : k < 4096 := Nat.lt_of_lt_of_le hk1 (Nat.pow_le_pow_right (n := 2) (by omega) hl)
        have hm2 := h.m2
        conv => whnf
        refine ⟨_, c1, ?_⟩
        conv => whnf
        conv => whnf
        refine ⟨Nat × List Int × List (List Int), fun x => x.1 ≤ l.length ∧ GOK m 100 x.1 x.2.1 ∧ gOf m k x.1 (l.drop x.1) x.2.1 = gOf m k 0 l [1] ∧ x.2.2 ++ restOf k x.1 (l.drop x.1) = restOf k 0 l, fun x => l.length - x.1,
          fun x => ⟨[.top, .top, .top, .ptr 0 0 0, .ptr 1 0 0, .ptr 2 0 0, .ptr 3 0 0, iI s, .p (.val (.int .u64 (k : Int))), .p (.sl (zl x.2.1)), .own 6 1 x.2.2.length, .top, .top, .top, .top, .top, .top, .top, .top, .top, .top, .top, .top, .top, .top, .top, .top, .top, .top, .p (.sl (lzl l)), iI l.length, iI x.1, .top, .top, .top, .top, .top, .top, .top, .top, .top, .top, .top, .top, .top, .top, .top, .top, .top, .top, .top, .top, .top, .top, .top, .top, .top, .top, .top, .top, .top, .top, .top, .top, .top, .top, .top],
            [some (.box [.p (.sl (zl f))]), some (.box [.p (.sl (lzl l))]), iBox m, some (.box [.p (.val (.slice none 0 0))]), some (.box [.p (.val (.int .i64 (l.length : Nat)))]), some (.box [.p (.val (.int .i64 (s : Nat)))]), some (.row 1 (lzl x.2.2) true)]⟩, [(9, 0), (10, 1)], (0, [1], []), ?_, ?_⟩
        · conv => whnf
          repeat ((first | refine ⟨.inl rfl, ?_⟩ | refine ⟨rfl, ?_⟩); conv => whnf)
          refine ⟨.inl (vi (by rw [hll])), ?_⟩
          conv => whnf
          repeat ((first | refine ⟨.inl rfl, ?_⟩ | refine ⟨rfl, ?_⟩); conv => whnf)
          exact ⟨Nat.zero_le _, GOK.start hm2 100, rfl, rfl⟩
        · rintro ⟨i, g, rest⟩ ⟨k1, k2, k3, k4⟩
          simp only at k1 k2 k3 k4
          refine atS (s' := ⟨[.top, .top, .top, .ptr 0 0 0, .ptr 1 0 0, .ptr 2 0 0, .ptr 3 0 0, iI s, .p (.val (.int .u64 (k : Int))), .p (.sl (zl g)), .own 6 1 rest.length, .top, .top, .top, .top, .top, .top, .top, .top, .top, .top, .top, .top, .top, .top, .top, .top, .top, .top, .p (.sl (lzl l)), iI l.length, iI i, .top, .top, .top, .top, .top, .top, .top, .top, .top, .top, .top, .top, .top, .top, .top, .top, .top, .top, .top, .top, .top, .top, .top, .top, .top, .top, .top, .top, .top, .top, .top, .top, .top, .top, .top],
            [some (.box [.p (.sl (zl f))]), some (.box [.p (.sl (lzl l))]), iBox m, some (.box [.p (.val (.slice none 0 0))]), some (.box [.p (.val (.int .i64 (l.length : Nat)))]), some (.box [.p (.val (.int .i64 (s : Nat)))]), some (.row 1 (lzl rest) true)]⟩) rfl ?_
          conv => whnf
          by_cases hi : i < l.length
          · rw [decide_eq_true (show (i : Int) < (l.length : Nat) by omega)]
            have hgl := lzl_get hi
            have hdrop : l.drop i = l[i] :: l.drop (i + 1) := List.drop_eq_getElem_cons hi
            obtain ⟨x, hx⟩ : ∃ x, x = l[i] := ⟨_, rfl⟩
            rw [← hx] at hgl hdrop
            obtain ⟨hmx, hbx, hdx⟩ := h.mon x (by rw [hx]; exact List.getElem_mem hi)
            have f1 : Int.fdiv (k : Int) (2 ^ min (Int.toNat (i : Int)) IntKind.u64.bits) = ((k / 2 ^ i : Nat) : Int) := by
              rw [show min (Int.toNat (i : Int)) IntKind.u64.bits = i from Nat.min_eq_left (by show i ≤ 64; omega)]
              rw [show (2 : Int) ^ i = ((2 ^ i : Nat) : Int) by simp]
              exact fdiv_nn k (2 ^ i)
            have hni : k / 2 ^ i ≤ k := Nat.div_le_self _ _
            have e6 : IntKind.wrap .i64 ((i : Int) + 1) = ((i + 1 : Nat) : Int) := by rw [wi64 (by omega) (by omega)]; omega
            conv => whnf
            refine obind_of (hgl) ?_
            conv => whnf
            rw [f1, and_one64 _ (by omega)]
            have hMM : m.natAbs ≤ m.natAbs * m.natAbs := Nat.le_mul_of_pos_left _ (by omega)
            have hms := h.msize
            have hLL := h.hL
            have hgl2 := k2.len
            by_cases hbit : k / 2 ^ i % 2 = 1
            · rw [hbit]
              have hsz : (g.length + x.length) * (m.natAbs * m.natAbs) < 4294967296 ^ L := Nat.lt_of_le_of_lt (Nat.mul_le_mul_right _ (by omega)) hms
              have cm := multiply_call g x m.natAbs m.natAbs L k2.bd hbx (by omega) (by omega) hsz (by omega) (by omega) k2.mon.ne hmx.ne
              have hcl := convZ_len g x
              have cn := near_call (convZ g x) m (by omega) (by omega) (fun y hy => Nat.lt_of_le_of_lt (ln_le (Nat.lt_of_le_of_lt (convZ_bd k2.bd hbx y hy) hsz)) (by omega)) (Nat.lt_of_le_of_lt (ln_le (L := L) (by omega)) (by omega))
              rw [(k2.mon.conv hmx).trim] at cm
              rw [((k2.mon.conv hmx).near hm2).trim] at cn
              have k2' := k2.step hm2 hmx hdx
              have hgs := gstep hm2 k2.mon hmx
              obtain ⟨c, hc⟩ : ∃ c, c = convZ g x := ⟨_, rfl⟩
              rw [← hc] at cm cn k2'
              obtain ⟨g', hg'⟩ : ∃ g', g' = c.map (nearZ m) := ⟨_, rfl⟩
              rw [← hg'] at cn k2'
              conv => whnf
              refine ⟨by kernel_rfl, ?_⟩
              conv => whnf
              refine ⟨_, cm, ?_⟩
              conv => whnf
              refine ⟨_, cn, ?_⟩
              conv => whnf
              refine ⟨.inl (by kernel_rfl), ?_⟩
              conv => whnf
              refine ⟨(i + 1, g', rest), ?_⟩
              conv => whnf
              repeat ((first | refine ⟨.inl rfl, ?_⟩ | refine ⟨rfl, ?_⟩); conv => whnf)
              refine ⟨.inl (vi (by rw [e6])), ?_⟩
              conv => whnf
              repeat ((first | refine ⟨.inl rfl, ?_⟩ | refine ⟨rfl, ?_⟩); conv => whnf)
              exact ⟨⟨hi, k2', by rw [← k3, hdrop]; simp only [gOf]; rw [if_pos hbit, hgs, hg', hc], by rw [← k4, hdrop]; simp only [restOf]; rw [if_pos hbit]⟩, by simp only; omega⟩
            · rw [show k / 2 ^ i % 2 = 0 by omega]
              conv => whnf
              refine chk_of (by rw [lzl_len]; simp only [List.length_singleton]; have : rest.length ≤ l.length := Nat.le_trans (by rw [← k4] at *; simp) (restOf_le k l 0); omega) ?_
              conv => whnf
              refine ⟨(i + 1, g, rest ++ [x]), ?_⟩
              conv => whnf
              repeat ((first | refine ⟨.inl rfl, ?_⟩ | refine ⟨rfl, ?_⟩); conv => whnf)
              refine ⟨by rw [lzl_len, List.length_append]; rfl, ?_⟩
              conv => whnf
              repeat ((first | refine ⟨.inl rfl, ?_⟩ | refine ⟨rfl, ?_⟩); conv => whnf)
              refine ⟨.inl (vi (by rw [e6])), ?_⟩
              conv => whnf
              repeat ((first | refine ⟨.inl rfl, ?_⟩ | refine ⟨rfl, ?_⟩); conv => whnf)
              refine ⟨.inl (by exact lzl_app rest [x]), ?_⟩
              conv => whnf
              exact ⟨⟨hi, k2.skip, by rw [← k3, hdrop]; simp only [gOf]; rw [if_neg hbit], by rw [← k4, hdrop]; simp only [restOf]; rw [if_neg hbit, List.append_assoc]; rfl⟩, by simp only; omega⟩
          · rw [decide_eq_false (show ¬ (i : Int) < (l.length : Nat) by omega)]
            have ei : i = l.length := by omega
            subst ei
            rw [List.drop_length] at k3 k4
            simp only [gOf, restOf, List.append_nil] at k3 k4
            have hg1 := List.length_pos_iff.2 k2.mon.ne
            have hgl2 := k2.len
            have hms := h.msize
            have hLL := h.hL
            have hf1 := h.f100
            have hMM : m.natAbs ≤ m.natAbs * m.natAbs := Nat.le_mul_of_pos_left _ (by omega)
            have hsz : A * (1 + m.natAbs) ^ (f.length + 1) < 4294967296 ^ L := Nat.lt_of_le_of_lt (Nat.mul_le_mul_left _ (Nat.pow_le_pow_right (by omega) (by rw [Nat.mul_add]; omega))) h.size
            have ce := fexact_call f g A m.natAbs L h.bd k2.bd (by omega) hsz (by omega) (by omega) k2.mon.ne
            have htry : tryMask f l m k = if trimZ (exactR g (f.length + 1 - g.length) f).2 = [] then some ((exactR g (f.length + 1 - g.length) f).1, rest, g) else none := by
              rw [k4, k3]; rfl
            obtain ⟨ex, hex⟩ : ∃ ex, ex = exactR g (f.length + 1 - g.length) f := ⟨_, rfl⟩
            rw [← hex] at ce htry
            obtain ⟨q, r⟩ := ex
            simp only at ce htry
            have hIH := fun e => IH k g q rest (masksUpto_mem _ g1 (show s ≤ l.length / 2 by omega) hk) e
            clear hex k3 k4 hsz
            conv => whnf
            refine ⟨_, ce, ?_⟩
            conv => whnf
            conv => whnf
            by_cases hr : trimZ r = []
            · rw [decide_eq_true hr]
              rw [if_pos hr] at htry
              obtain ⟨cI, hRl⟩ := hIH htry
              conv => whnf
              refine ⟨_, cI, ?_⟩
              conv => whnf
              refine chk_of (by rw [lzl_len]; simp only [List.length_singleton]; omega) ?_
              conv => whnf
              intro hpre
              conv => whnf
              refine ⟨?_, trivial⟩
              have := masks_first hpre hI htry
              unfold combineG
              rw [masksUpto_some _ _ (show s ≤ l.length / 2 by omega) (show (masksUpto l.length s).findSome? (tryMask f l m) = some (q, rest, g) by rw [hup, findSome_app, g3]; exact this)]
              exact lzl_app _ [g]
            · rw [decide_eq_false hr]
              rw [if_neg hr] at htry
              conv => whnf
              refine ⟨rfl, (), ?_⟩
              conv => whnf
              repeat ((first | refine ⟨.inl rfl, ?_⟩ | refine ⟨rfl, ?_⟩); conv => whnf)
              intro k' hk'
              simp only [List.mem_append, List.mem_singleton, Value.int.injEq, true_and] at hk'
              rcases hk' with hk' | hk'
              · exact hI k' hk'
              · rw [show k' = k by omega]; exact htry
      · rintro ⟨⟩ hI
        conv => whnf
        refine ⟨s + 1, ?_⟩
        conv => whnf
        repeat ((first | refine ⟨.inl rfl, ?_⟩ | refine ⟨rfl, ?_⟩); conv => whnf)
        refine ⟨.inl (vi (by rw [wi64 (by omega) (by omega)]; omega)), ?_⟩
        conv => whnf
        repeat ((first | refine ⟨.inl rfl, ?_⟩ | refine ⟨rfl, ?_⟩); conv => whnf)
        refine ⟨⟨by omega, by omega, ?_⟩, by simp only; omega⟩
        show (masksUpto l.length s).findSome? (tryMask f l m) = none
        rw [hup, findSome_app, g3]
        simp only
        rw [List.findSome?_eq_none_iff]
        exact fun k hk => hI k (by rw [masksTo_eq]; exact List.mem_map.2 ⟨k, hk, rfl⟩)
    · rw [decide_eq_false (show ¬ ((2 * s : Nat) : Int) ≤ ((lzl l).length : Nat) by rw [hll]; omega)]
      conv => whnf
      refine ⟨?_, trivial⟩
      have : (masksUpto l.length (l.length / 2)).findSome? (tryMask f l m) = none := by
        have hle : ∀ t, l.length / 2 = t → t ≤ s - 1 → (masksUpto l.length (s - 1)).findSome? (tryMask f l m) = none → (masksUpto l.length t).findSome? (tryMask f l m) = none := fun t _ ht h0 => by
          cases hx : (masksUpto l.length t).findSome? (tryMask f l m) with
          | none => rfl
          | some r => rw [masksUpto_some _ _ ht hx] at h0; cases h0
        exact hle _ rfl (by omega) g3
      unfold combineG
      rw [this]
      rfl
theorem combineF_len : ∀ (n : Nat) (f : List Int) (l : List (List Int)) (m : Int), (combineF n f l m).length ≤ n + 1 := by
  intro n
  induction n with
  | zero => intro f l m; simp [combineF]
  | succ n ih =>
    intro f l m
    simp only [combineF, combineG]
    split
    · rename_i q rest g _
      have := ih q rest m
      simp only [List.length_append, List.length_singleton]; omega
    · simp
/-- combine: the factors, by content. -/
theorem combine_call : ∀ (n : Nat) (f : List Int) (l : List (List Int)) (m : Int) (A L : Nat), CombOK f l m A L → l.length ≤ n → n ≤ 12 → ACall Tryz.prog 201 [.sl (zl f), .sl (lzl l), .agg (intC m)] [.new 1 (lzl (combineF n f l m))] := by
  intro n
  induction n with
  | zero =>
    intro f l m A L h hl _
    have hl0 : l = [] := List.eq_nil_of_length_eq_zero (by omega)
    subst hl0
    exact combine_g h (fun _ _ => []) (fun k g q rest hk => by simp [masksUpto] at hk)
  | succ n ih =>
    intro f l m A L h hl hn
    refine combine_g h (fun q rest => combineF n q rest m) (fun k g q rest hk htry => ⟨?_, by have := combineF_len n q rest m; omega⟩)
    have hm2 := h.m2
    unfold tryMask at htry
    simp only at htry
    have hok := gOf_ok hm2 k l 0 [1] (fun x hx => ⟨(h.mon x hx).1, (h.mon x hx).2.2⟩) (GOK.start hm2 100)
    obtain ⟨G, hG⟩ : ∃ G, G = gOf m k 0 l [1] := ⟨_, rfl⟩
    rw [← hG] at htry hok
    split at htry
    case isFalse => cases htry
    simp only [Option.some.injEq, Prod.mk.injEq] at htry
    obtain ⟨rfl, rfl, _⟩ := htry
    have hG1 := List.length_pos_iff.2 hok.mon.ne
    obtain ⟨b1, b2⟩ := exactR_bd G m.natAbs hok.bd (f.length + 1 - G.length) f A h.bd
    have hrest : (restOf k 0 l).length < l.length := by
      have : ∀ t, k ∈ masksUpto l.length t → ∃ s, 1 ≤ s ∧ k ∈ masksOf l.length s := fun t => by
        induction t with
        | zero => intro h; simp [masksUpto] at h
        | succ t ih =>
          intro h
          simp only [masksUpto, List.mem_append] at h
          rcases h with h | h
          · exact ih h
          · exact ⟨t + 1, by omega, h⟩
      obtain ⟨s, hs, hks⟩ := this _ hk
      exact restOf_mask hks hs
    have hf1 := h.f100
    have h12 := h.l12
    refine ih _ _ m (A * (1 + m.natAbs) ^ 101) L ⟨hm2, fun x hx => h.mon x (restOf_mem k l 0 x hx), by omega, by rw [b2]; omega, fun x hx => ?_, ?_, h.msize, h.hL⟩ (by omega) (by omega)
    · exact Nat.le_trans (b1 x hx) (Nat.mul_le_mul_left _ (Nat.pow_le_pow_right (by omega) (by omega)))
    · refine Nat.lt_of_le_of_lt ?_ h.size
      rw [Nat.mul_assoc, ← Nat.pow_add]
      exact Nat.mul_le_mul_left _ (Nat.pow_le_pow_right (by omega) (by omega))
end Go.Am

set_option linter.unusedVariables false
set_option linter.unusedSimpArgs false
namespace Go.Am
open Go Go.Proofs
set_option maxRecDepth 100000
set_option maxHeartbeats 4000000
/-- The table by which x[:h] is a window. -/
noncomputable abbrev TW : Tab := tabOf ((1, ⟨.other, 1, 8, [.nilFunc]⟩) :: tbl)
theorem hTW : TabOK Tryz.prog TW := tabOf_eq (by kernel_rfl)
noncomputable abbrev EW (S : List Nat) : Env := ⟨TW, anyCall Tryz.prog, S, SCall Tryz.prog, ICall Tryz.prog, true⟩
theorem hEW (S : List Nat) : EnvOK Tryz.prog (EW S) := ⟨hTW, anyCall_ok _, fun _ _ _ _ h => h, fun _ _ _ h => h, hmix⟩
theorem and_mask (x : Nat) (hx : x < 18446744073709551616) : IntKind.wrap .u64 ((BitVec.ofInt IntKind.u64.bits (x : Int) &&& BitVec.ofInt IntKind.u64.bits 4294967295).toNat : Nat) = ((x % 4294967296 : Nat) : Int) := by
  have e : (BitVec.ofInt IntKind.u64.bits (x : Int) &&& BitVec.ofInt IntKind.u64.bits 4294967295).toNat = x % 4294967296 := by
    have : (BitVec.ofInt 64 (x : Int) &&& BitVec.ofInt 64 ((4294967295 : Nat) : Int)).toNat = x % 4294967296 := by
      rw [ofInt_toNat, ofInt_toNat, BitVec.toNat_and, BitVec.toNat_ofNat, BitVec.toNat_ofNat, Nat.mod_eq_of_lt (by omega), Nat.mod_eq_of_lt (by omega)]
      exact Nat.and_two_pow_sub_one_eq_mod x 32
    exact this
  rw [e]
  exact u64_nn (by omega)
theorem mul64_call (a b : Nat) (ha : a < 4294967296) (hb : b < 4294967296) : ACall Tryz.prog 307 [nU a, nU b] [.p (nU 0), .p (nU (a * b : Nat))] := by
  have hp : a * b ≤ 4294967295 * 4294967295 := Nat.mul_le_mul (by omega) (by omega)
  have hab : IntKind.wrap .u64 ((a : Int) * b) = ((a * b : Nat) : Int) := by rw [← Int.natCast_mul]; exact u64_nn (by omega)
  have a0 : a / 4294967296 = 0 := by omega
  have b0 : b / 4294967296 = 0 := by omega
  have am : a % 4294967296 = a := by omega
  have bm : b % 4294967296 = b := by omega
  refine acall_of_awp (hE []) Tryz.func307 rfl (by kernel_rfl) [] ?_
  conv => whnf
  refine ⟨.inl ?_, ?_⟩
  · refine congrArg (fun z => PV.val (.int .u64 z)) ?_
    simp only [and_mask a (by omega), and_mask b (by omega), shr32, a0, b0, am, bm, hab]
    obtain ⟨p, hpp⟩ : ∃ p, p = a * b := ⟨_, rfl⟩
    rw [← hpp] at hp ⊢
    have t0 : IntKind.wrap .u64 (((0 : Nat) : Int) * (b : Int)) = ((0 : Nat) : Int) := by rw [Int.natCast_zero, Int.zero_mul]; rfl
    have t1 : IntKind.wrap .u64 ((a : Int) * ((0 : Nat) : Int)) = ((0 : Nat) : Int) := by rw [Int.natCast_zero, Int.mul_zero]; rfl
    have t2 : IntKind.wrap .u64 (((0 : Nat) : Int) * ((0 : Nat) : Int)) = ((0 : Nat) : Int) := rfl
    have q1 : p / 4294967296 < 4294967296 := by omega
    obtain ⟨q, hq⟩ : ∃ q, q = p / 4294967296 := ⟨_, rfl⟩
    rw [← hq] at q1 ⊢
    have t3 : IntKind.wrap .u64 (((0 : Nat) : Int) + (q : Int)) = (q : Int) := by rw [Int.natCast_zero, Int.zero_add]; exact u64_nn (by omega)
    have t4 : IntKind.wrap .u64 ((q : Int) + ((0 : Nat) : Int)) = (q : Int) := by rw [Int.natCast_zero, Int.add_zero]; exact u64_nn (by omega)
    have t5 : q / 4294967296 = 0 := by omega
    have t6 : q % 4294967296 = q := by omega
    simp only [t0, t1, t2, t3, and_mask q (by omega), t6, t4, shr32, t5]
    rfl
  · conv => whnf
    exact ⟨.inl (congrArg (fun z => PV.val (.int .u64 z)) hab), trivial⟩
theorem mul_uint (a b : Nat) (ha : a < 4294967296) (hb : b < 4294967296) : ACall Tryz.prog 302 [nU a, nU b] [.p (nU 0), .p (nU (a * b : Nat))] := by
  refine acall_of_awp (hE []) Tryz.func302 rfl (by kernel_rfl) [] ?_
  conv => whnf
  refine ⟨_, mul64_call a b ha hb, ?_⟩
  conv => whnf
  repeat ((first | refine ⟨.inl rfl, ?_⟩ | refine ⟨rfl, ?_⟩); conv => whnf)
  trivial
def zero4c : List PV := [.val (.bool false), .val (.slice none 0 0), .val (.bool false), .val (.slice none 0 0)]
/-- k copies made. -/
def rowK (c : List PV) (n k : Nat) : List (List PV) := List.replicate k c ++ List.replicate (n - k) zero4c
theorem rowK_len (c : List PV) {n k : Nat} (h : k ≤ n) : (rowK c n k).length = n := by simp [rowK]; omega
theorem rowK_zero (c : List PV) (n : Nat) : splice (List.replicate n zero4c) 0 (List.take n [c]) = rowK c n (min 1 n) := by
  cases n with
  | zero => simp [splice, rowK]
  | succ n => simp [splice, rowK, Nat.min_eq_left]
theorem rowK_copy (c : List PV) {n k : Nat} (h : k ≤ n) : splice (rowK c n k) k (((rowK c n k).take k).take (n - k)) = rowK c n (k + min k (n - k)) := by
  have e : (rowK c n k).take k = List.replicate k c := by simp [rowK]
  have e2 : (rowK c n k).drop (k + min k (n - k)) = List.replicate (n - (k + min k (n - k))) zero4c := by
    simp only [rowK]
    rw [List.drop_append, List.drop_eq_nil_of_le (by simp), List.nil_append, List.drop_replicate]
    congr 1
    simp; omega
  rw [e, List.take_replicate]
  unfold splice
  rw [List.length_replicate, Nat.min_comm (n - k) k, e2, e, List.replicate_append_replicate]
  rfl
theorem repeat_call (c : List PV) (hc : c.length = 4) (n : Nat) (hn : n ≤ 1000000) : ACall Tryz.prog 291 [.sl [c], nI n] [.new 4 (List.replicate n c)] := by
  have cm := mul_uint 1 n (by omega) (by omega)
  rw [Nat.one_mul] at cm
  have e1 : IntKind.wrap .u64 ([c].length : Int) = ((1 : Nat) : Int) := rfl
  have e2 : IntKind.wrap .u64 (n : Int) = (n : Int) := u64_nn (by omega)
  have e3 : IntKind.wrap .i64 (n : Int) = (n : Int) := wi64 (by omega) (by omega)
  refine acall_of_awp (hEW []) Tryz.func291 rfl (by kernel_rfl) [] ?_
  conv => whnf
  rw [e2]
  rw [decide_eq_false (show ¬ (n : Int) < 0 by omega)]
  conv => whnf
  refine ⟨_, cm, ?_⟩
  conv => whnf
  conv => whnf
  rw [decide_eq_false (show ¬ (n : Int) > 9223372036854775807 by omega)]
  conv => whnf
  rw [e3]
  refine chk_of (by omega) ?_
  conv => whnf
  refine chk_of (by show (64 : Int) * (n : Nat) ≤ 281474976710656; omega) ?_
  conv => whnf
  rw [decide_eq_true (show ((n : Nat) : Int) ≤ 9223372036854775807 by omega)]
  conv => whnf
  refine chk_of (by intro e he; simp at he; subst he; exact hc) ?_
  conv => whnf
  refine ⟨Nat, fun k => k ≤ n ∧ (k = 0 → n = 0), fun k => n - k, fun k => ⟨[.top, .top, .top, .top, .top, .top, .top, .own 0 4 n, iI k, .top, .top, .top, .top, .top, .top, .top, .top, .top, .top, .top, .top, .top, .top, .top, .top, .top, .top, .top, .top, .top, .top, .top, .top, .top, .top, .top, .top, .top, .top, .top, .top, .top, .top, .top, .top, .top, .top, .top], [some (.row 4 (rowK c n k) true)]⟩, [], min 1 n, ?_, ?_⟩
  · conv => whnf
    repeat ((first | refine ⟨.inl rfl, ?_⟩ | refine ⟨rfl, ?_⟩); conv => whnf)
    refine ⟨.inl (vi (by rw [List.length_replicate]; simp [Int.toNat_natCast])), ?_⟩
    conv => whnf
    repeat ((first | refine ⟨.inl rfl, ?_⟩ | refine ⟨rfl, ?_⟩); conv => whnf)
    refine ⟨.inl ((by rw [List.length_replicate, Int.toNat_natCast]; exact rowK_zero c n)), ?_⟩
    conv => whnf
    exact ⟨Nat.min_le_right _ _, fun h => by omega⟩
  · rintro k ⟨h1, h2⟩
    refine atS (s' := ⟨[.top, .top, .top, .top, .top, .top, .top, .own 0 4 n, iI k, .top, .top, .top, .top, .top, .top, .top, .top, .top, .top, .top, .top, .top, .top, .top, .top, .top, .top, .top, .top, .top, .top, .top, .top, .top, .top, .top, .top, .top, .top, .top, .top, .top, .top, .top, .top, .top, .top, .top], [some (.row 4 (rowK c n k) true)]⟩) rfl ?_
    conv => whnf
    by_cases hk : k < n
    · rw [decide_eq_true (show (k : Int) < (n : Nat) by omega)]
      conv => whnf
      have hlen := rowK_len c h1
      refine ⟨by kernel_rfl, ?_⟩
      conv => whnf
      rw [decide_eq_true (show (k : Int) < (n : Nat) by omega)]
      conv => whnf
      refine chk_of (by omega) ?_
      conv => whnf
      refine chk_of (by omega) ?_
      conv => whnf
      refine chk_of (by rw [hlen]; simp; omega) ?_
      conv => whnf
      refine ⟨.inl (by kernel_rfl), ?_⟩
      conv => whnf
      refine ⟨k + min k (n - k), ?_⟩
      conv => whnf
      repeat ((first | refine ⟨.inl rfl, ?_⟩ | refine ⟨rfl, ?_⟩); conv => whnf)
      refine ⟨.inl (vi (by rw [List.drop_zero, List.length_take, hlen, Int.toNat_natCast, Nat.min_eq_left h1, wi64 (by omega) (by omega)]; rfl)), ?_⟩
      conv => whnf
      repeat ((first | refine ⟨.inl rfl, ?_⟩ | refine ⟨rfl, ?_⟩); conv => whnf)
      refine ⟨.inl ((by rw [List.drop_zero, Int.toNat_natCast]; exact rowK_copy c h1)), ?_⟩
      conv => whnf
      exact ⟨⟨by omega, fun h => by omega⟩, by simp only; omega⟩
    · rw [decide_eq_false (show ¬ (k : Int) < (n : Nat) by omega)]
      conv => whnf
      refine ⟨?_, trivial⟩
      rw [show k = n by omega, rowK, Nat.sub_self, List.replicate_zero, List.append_nil]
/-- n coefficients, those of a from the place s on. -/
def grownF (a : List Rat) (n s : Nat) : List Rat := splice (List.replicate n 0) s (a.take (n - s))
theorem ql_splice (l : List Rat) (s : Nat) (m : List Rat) : splice (ql l) s (ql m) = ql (splice l s m) := by
  simp only [splice, ql, List.map_append, List.map_take, List.map_drop, List.length_map]
theorem ql_rep (n : Nat) (q : Rat) : List.replicate n (ratC q) = ql (List.replicate n q) := by simp [ql]
theorem zero_call : ACall Tryz.prog 292 [] [.p (.agg (ratC 0))] := by
  refine acall_of_awp (hE []) Tryz.func292 rfl (by kernel_rfl) [] ?_
  conv => whnf
  refine ⟨_, rwhole_call 0 (by omega) (by omega), ?_⟩
  conv => whnf
  exact ⟨.inl rfl, trivial⟩
theorem grown_call (a : List Rat) (n s : Nat) (hs : s ≤ n) (hn : n ≤ 1000000) : ACall Tryz.prog 255 [.sl (ql a), nI n, nI s] [.new 4 (ql (grownF a n s))] := by
  have cr := repeat_call (ratC 0) rfl n hn
  rw [ql_rep] at cr
  refine acall_of_awp (hEW []) Tryz.func255 rfl (by kernel_rfl) [] ?_
  conv => whnf
  refine ⟨_, zero_call, ?_⟩
  conv => whnf
  conv => whnf
  refine ⟨_, cr, ?_⟩
  conv => whnf
  conv => whnf
  have hz : (ql (List.replicate n 0)).length = n := by rw [ql_len, List.length_replicate]
  rw [hz]
  have fin : ∀ (b : List Rat), b.length = n → List.length b = n := fun b h => h
  by_cases h : s < n
  · rw [decide_eq_true (show (s : Int) < (n : Nat) by omega)]
    conv => whnf
    refine chk_of (ql_szs a) ?_
    conv => whnf
    refine chk_of (by rw [hz]; simp; omega) ?_
    conv => whnf
    refine ⟨?_, trivial⟩
    rw [Int.toNat_natCast, show List.take (n - s) (ql a) = ql (a.take (n - s)) from ql_take a _, ql_splice]
    rfl
  · rw [decide_eq_false (show ¬ (s : Int) < (n : Nat) by omega)]
    conv => whnf
    refine chk_of (by omega) ?_
    conv => whnf
    refine chk_of (ql_szs a) ?_
    conv => whnf
    refine ⟨?_, trivial⟩
    rw [grownF, show n - s = 0 by omega, List.take_zero]
    simp [splice]
    congr 2
    omega
end Go.Am

set_option linter.unusedVariables false
set_option linter.unusedSimpArgs false
namespace Go.Am
open Go Go.Proofs
set_option maxRecDepth 100000
/-! ### Contents read back -/
def decW : List (List PV) → Option (List Nat)
  | [] => some []
  | c :: r => match c with
    | [.val (.int .u32 d)] => match d with
      | .ofNat n => match Nat.blt n 4294967296 with
        | true => match decW r with
          | some l => some (n :: l)
          | none => none
        | false => none
      | _ => none
    | _ => none
theorem decW_spec : ∀ {rows : List (List PV)} {l : List Nat}, decW rows = some l → rows = wl l ∧ WB l := by
  intro rows
  induction rows with
  | nil => intro l h; simp [decW] at h; subst h; exact ⟨rfl, WB.nil⟩
  | cons c r ih =>
    intro l h
    simp only [decW] at h
    split at h
    case h_2 => cases h
    split at h
    case h_2 => cases h
    rename_i d n
    split at h
    case h_2 => cases h
    rename_i hb
    split at h
    case h_2 => cases h
    rename_i l' hl
    cases h
    obtain ⟨h1, h2⟩ := ih hl
    have hn : n < 4294967296 := by simpa [Nat.blt_eq] using hb
    exact ⟨by rw [h1]; simp [wl], h2.cons hn⟩
def lastOK : List Nat → Bool
  | [] => true
  | [d] => !(Nat.beq d 0)
  | _ :: r => lastOK r
theorem lastOK_spec : ∀ {l : List Nat}, lastOK l = true → trimL l = l := by
  intro l
  induction l with
  | nil => intro _; rfl
  | cons d r ih =>
    intro h
    cases r with
    | nil =>
      have hd : d ≠ 0 := by intro e; subst e; simp [lastOK] at h
      exact trimL_snoc [] d hd
    | cons e r =>
      have := ih (by simpa [lastOK] using h)
      rw [trimL_cons, this, if_neg (by simp)]
def decN : PV → Option Nat
  | .sl rows => match decW rows with
    | some l => match lastOK l with
      | true => some (val l)
      | false => none
    | none => none
  | .val (.slice none 0 _) => some 0
  | _ => none
theorem decN_spec {p : PV} {n : Nat} (h : decN p = some n) : PVle p (.sl (wl (digs n))) := by
  unfold decN at h
  split at h
  · rename_i rows
    split at h
    case h_2 => cases h
    rename_i l hl
    split at h
    case h_2 => cases h
    rename_i hk
    cases h
    obtain ⟨h1, h2⟩ := decW_spec hl
    rw [← digs_of h2, lastOK_spec hk, h1]
    exact .rf _
  · cases h
    rw [digs_zero]
    exact PVle.nil _
  · cases h
def decI : List PV → Option Int
  | [.val (.bool s), p] => match decN p with
    | some n => match s with
      | false => some (Int.ofNat n)
      | true => match n with
        | 0 => none
        | m + 1 => some (Int.negSucc m)
    | none => none
  | _ => none
theorem decI_spec {c : List PV} {z : Int} (h : decI c = some z) : CellsLe c (intC z) := by
  unfold decI at h
  split at h
  case h_2 => cases h
  rename_i s p
  split at h
  case h_2 => cases h
  rename_i n hn
  have hp := decN_spec hn
  split at h
  · cases h
    have e : intC (Int.ofNat n) = [.val (.bool false), .sl (wl (digs n))] := by
      unfold intC; rw [decide_eq_false (by simp)]; rfl
    rw [e]
    exact CellsLe.cons (.rf _) (CellsLe.cons hp CellsLe.nil)
  · split at h
    · cases h
    · cases h
      rename_i m
      have e : intC (Int.negSucc m) = [.val (.bool true), .sl (wl (digs (m + 1)))] := by
        unfold intC; rw [decide_eq_true (Int.negSucc_lt_zero m)]; rfl
      rw [e]
      exact CellsLe.cons (.rf _) (CellsLe.cons hp CellsLe.nil)
theorem CellsLe.append {a a' b b' : List PV} (h : CellsLe a a') (g : CellsLe b b') : CellsLe (a ++ b) (a' ++ b') := by
  refine ⟨by simp [h.1, g.1], fun j x y h1 h2 => ?_⟩
  rcases Nat.lt_or_ge j a.length with q | q
  · rw [List.getElem?_append_left q] at h1
    rw [List.getElem?_append_left (by rw [← h.1]; exact q)] at h2
    exact h.2 j x y h1 h2
  · rw [List.getElem?_append_right q] at h1
    rw [List.getElem?_append_right (by rw [← h.1]; exact q), ← h.1] at h2
    exact g.2 _ x y h1 h2
def decQ : List PV → Option Rat
  | [a, b, c, d] => match decI [a, b] with
    | some n => match decI [c, d] with
      | some (.ofNat k) => if h : k ≠ 0 ∧ n.natAbs.Coprime k then some ⟨n, k, h.1, h.2⟩ else none
      | _ => none
    | none => none
  | _ => none
theorem decQ_spec {c : List PV} {q : Rat} (h : decQ c = some q) : CellsLe c (ratC q) := by
  unfold decQ at h
  split at h
  case h_2 => cases h
  rename_i a b c d
  split at h
  case h_2 => cases h
  rename_i n hn
  split at h
  case h_2 => cases h
  rename_i k hk
  split at h
  case isFalse => cases h
  cases h
  exact CellsLe.append (a := [a, b]) (b := [c, d]) (decI_spec hn) (decI_spec hk)
def decZ : List (List PV) → Option (List Int)
  | [] => some []
  | c :: r => match decI c with
    | some z => match decZ r with
      | some l => some (z :: l)
      | none => none
    | none => none
theorem decZ_spec : ∀ {rows : List (List PV)} {l : List Int}, decZ rows = some l → RowsLe rows (zl l) := by
  intro rows
  induction rows with
  | nil => intro l h; simp [decZ] at h; subst h; exact .rf _
  | cons c r ih =>
    intro l h
    simp only [decZ] at h
    split at h
    case h_2 => cases h
    rename_i z hz
    split at h
    case h_2 => cases h
    rename_i l' hl
    cases h
    exact RowsLe.cons (decI_spec hz) (ih hl)
def decR : List (List PV) → Option (List Rat)
  | [] => some []
  | c :: r => match decQ c with
    | some z => match decR r with
      | some l => some (z :: l)
      | none => none
    | none => none
theorem decR_spec : ∀ {rows : List (List PV)} {l : List Rat}, decR rows = some l → RowsLe rows (ql l) := by
  intro rows
  induction rows with
  | nil => intro l h; simp [decR] at h; subst h; exact .rf _
  | cons c r ih =>
    intro l h
    simp only [decR] at h
    split at h
    case h_2 => cases h
    rename_i z hz
    split at h
    case h_2 => cases h
    rename_i l' hl
    cases h
    exact RowsLe.cons (decQ_spec hz) (ih hl)
def decA : PV → Option (List Int)
  | .sl rows => decZ rows
  | .val (.slice none 0 _) => some []
  | _ => none
theorem decA_spec {p : PV} {l : List Int} (h : decA p = some l) : PVle p (.sl (zl l)) := by
  unfold decA at h
  split at h
  · exact PVle.sl (decZ_spec h)
  · cases h; exact PVle.nil _
  · cases h
def decL : List (List PV) → Option (List (List Int))
  | [] => some []
  | c :: r => match c with
    | [p] => match decA p with
      | some z => match decL r with
        | some l => some (z :: l)
        | none => none
      | none => none
    | _ => none
theorem decL_spec : ∀ {rows : List (List PV)} {l : List (List Int)}, decL rows = some l → RowsLe rows (lzl l) := by
  intro rows
  induction rows with
  | nil => intro l h; simp [decL] at h; subst h; exact .rf _
  | cons c r ih =>
    intro l h
    simp only [decL] at h
    split at h
    case h_2 => cases h
    split at h
    case h_2 => cases h
    rename_i z hz
    split at h
    case h_2 => cases h
    rename_i l' hl
    cases h
    exact RowsLe.cons (CellsLe.cons (decA_spec hz) CellsLe.nil) (ih hl)
/-! ### One value: what it reads as -/
structure Dec (α : Type) where
  rd : PV → Option α
  wr : α → PV
  ok : ∀ p a, rd p = some a → PVle p (wr a)
def dI : Dec Int := ⟨fun p => match p with
  | .agg c => decI c
  | _ => none, fun z => .agg (intC z), fun p a h => by
    split at h
    · exact PVle.agg (decI_spec h)
    · cases h⟩
def dQ : Dec Rat := ⟨fun p => match p with
  | .agg c => decQ c
  | _ => none, fun z => .agg (ratC z), fun p a h => by
    split at h
    · exact PVle.agg (decQ_spec h)
    · cases h⟩
def dN : Dec Int := ⟨fun p => match p with
  | .val (.int .i64 n) => some n
  | _ => none, fun z => nI z, fun p a h => by
    split at h
    · cases h; exact .rf _
    · cases h⟩
def dU : Dec Nat := ⟨fun p => match p with
  | .val (.int .u64 n) => match n with
    | .ofNat k => some k
    | _ => none
  | _ => none, fun z => nU z, fun p a h => by
    split at h
    · split at h
      · cases h; exact .rf _
      · cases h
    · cases h⟩
def dA : Dec (List Int) := ⟨decA, fun l => .sl (zl l), fun p a h => decA_spec h⟩
def dQL : Dec (List Rat) := ⟨fun p => match p with
  | .sl rows => decR rows
  | .val (.slice none 0 _) => some []
  | _ => none, fun l => .sl (ql l), fun p a h => by
    split at h
    · exact PVle.sl (decR_spec h)
    · cases h; exact PVle.nil _
    · cases h⟩
def dL : Dec (List (List Int)) := ⟨fun p => match p with
  | .sl rows => decL rows
  | .val (.slice none 0 _) => some []
  | _ => none, fun l => .sl (lzl l), fun p a h => by
    split at h
    · exact PVle.sl (decL_spec h)
    · cases h; exact PVle.nil _
    · cases h⟩
def dR : Dec (List (List PV)) := ⟨fun p => match p with
  | .sl rows => some rows
  | .val (.slice none 0 _) => some []
  | _ => none, fun l => .sl l, fun p a h => by
    split at h
    · cases h; exact .rf _
    · cases h; exact PVle.nil _
    · cases h⟩
/-- One proved function of the library. -/
structure LE where
  f : Nat
  fn : List PV → Option (List RV)
  ok : ∀ ps rs, fn ps = some rs → ACall Tryz.prog f ps rs
def le1 {α : Type} (f : Nat) (d : Dec α) (g : α → Option (List RV)) (h : ∀ a rs, g a = some rs → ACall Tryz.prog f [d.wr a] rs) : LE := ⟨f, fun ps => match ps with
  | [p] => match d.rd p with
    | some a => g a
    | none => none
  | _ => none, fun ps rs e => by
    split at e
    case h_2 => cases e
    split at e
    case h_2 => cases e
    rename_i p a ha
    exact (h a rs e).arg (CellsLe.cons (d.ok _ _ ha) CellsLe.nil)⟩
def le2 {α β : Type} (f : Nat) (d : Dec α) (d' : Dec β) (g : α → β → Option (List RV)) (h : ∀ a b rs, g a b = some rs → ACall Tryz.prog f [d.wr a, d'.wr b] rs) : LE := ⟨f, fun ps => match ps with
  | [p, q] => match d.rd p with
    | some a => match d'.rd q with
      | some b => g a b
      | none => none
    | none => none
  | _ => none, fun ps rs e => by
    split at e
    case h_2 => cases e
    split at e
    case h_2 => cases e
    rename_i p q a ha
    split at e
    case h_2 => cases e
    rename_i b hb
    exact (h a b rs e).arg (CellsLe.cons (d.ok _ _ ha) (CellsLe.cons (d'.ok _ _ hb) CellsLe.nil))⟩
def le3 {α β γ : Type} (f : Nat) (d : Dec α) (d' : Dec β) (d'' : Dec γ) (g : α → β → γ → Option (List RV)) (h : ∀ a b c rs, g a b c = some rs → ACall Tryz.prog f [d.wr a, d'.wr b, d''.wr c] rs) : LE := ⟨f, fun ps => match ps with
  | [p, q, r] => match d.rd p with
    | some a => match d'.rd q with
      | some b => match d''.rd r with
        | some c => g a b c
        | none => none
      | none => none
    | none => none
  | _ => none, fun ps rs e => by
    split at e
    case h_2 => cases e
    split at e
    case h_2 => cases e
    rename_i p q r a ha
    split at e
    case h_2 => cases e
    rename_i b hb
    split at e
    case h_2 => cases e
    rename_i c hc
    exact (h a b c rs e).arg (CellsLe.cons (d.ok _ _ ha) (CellsLe.cons (d'.ok _ _ hb) (CellsLe.cons (d''.ok _ _ hc) CellsLe.nil)))⟩
noncomputable def findL (f : Nat) (ps : List PV) (l : List LE) : Option (List RV) := List.rec none (fun p _ ih => match Nat.beq p.f f with | true => p.fn ps | false => ih) l
theorem findL_ok : ∀ {l : List LE} {f : Nat} {ps : List PV} {rs : List RV}, findL f ps l = some rs → ACall Tryz.prog f ps rs := by
  intro l
  induction l with
  | nil => intro f ps rs h; cases h
  | cons p r ih =>
    intro f ps rs h
    have h : (match Nat.beq p.f f with | true => p.fn ps | false => findL f ps r) = some rs := h
    split at h
    · rename_i hb
      rw [← Nat.eq_of_beq_eq_true hb]
      exact p.ok ps rs h
    · exact ih h
def big : Nat := 4294967296 ^ 40
def smI (z : Int) : Bool := Nat.blt z.natAbs big
def smQ (q : Rat) : Bool := match smI q.num with
  | true => smI q.den
  | false => false
theorem smI_ln {z : Int} (h : smI z = true) : ln z ≤ 40 := ln_le (by
  have : z.natAbs < big := by simpa [smI, Nat.blt_eq] using h
  exact this)
theorem smQ_lq {q : Rat} (h : smQ q = true) : lq q ≤ 80 := by
  unfold smQ at h
  split at h
  · rename_i h1
    have := smI_ln h1
    have := smI_ln h
    unfold lq; omega
  · cases h
def grd (b : Bool) (r : List RV) : Option (List RV) := match b with
  | true => some r
  | false => none
theorem grd_spec {b : Bool} {r rs : List RV} (h : grd b r = some rs) : b = true ∧ rs = r := by
  cases b with
  | true => cases h; exact ⟨rfl, rfl⟩
  | false => cases h
def and2 (a b : Bool) : Bool := match a with
  | true => b
  | false => false
theorem and2_spec {a b : Bool} (h : and2 a b = true) : a = true ∧ b = true := by cases a <;> cases b <;> simp_all [and2]
def i64ok (z : Int) : Bool := match Int.decLe (-9223372036854775808) z with
  | isTrue _ => match Int.decLt z 9223372036854775808 with
    | isTrue _ => true
    | isFalse _ => false
  | isFalse _ => false
theorem i64ok_spec {z : Int} (h : i64ok z = true) : -9223372036854775808 ≤ z ∧ z < 9223372036854775808 := by
  unfold i64ok at h
  split at h
  · split at h
    · exact ⟨by assumption, by assumption⟩
    · cases h
  · cases h
def nz (z : Int) : Bool := match z with
  | .ofNat 0 => false
  | _ => true
theorem nz_spec {z : Int} (h : nz z = true) : z ≠ 0 := by rintro rfl; cases h
theorem qnz {q : Rat} (h : nz q.num = true) : q ≠ 0 := by rintro rfl; cases h
/-! ### Values carried out at once -/
noncomputable def grdI (b : Bool) (z : Int) (r : Int → List RV) : Option (List RV) := match b with
  | true => fI z fun z => some (r z)
  | false => none
theorem grdI_spec {b : Bool} {z : Int} {r : Int → List RV} {rs : List RV} (h : grdI b z r = some rs) : b = true ∧ rs = r z := by
  cases b with
  | true => simp only [grdI, fI_eq] at h; cases h; exact ⟨rfl, rfl⟩
  | false => cases h
noncomputable def grdI2 (b : Bool) (y z : Int) (r : Int → Int → List RV) : Option (List RV) := match b with
  | true => fI y fun y => fI z fun z => some (r y z)
  | false => none
theorem grdI2_spec {b : Bool} {y z : Int} {r : Int → Int → List RV} {rs : List RV} (h : grdI2 b y z r = some rs) : b = true ∧ rs = r y z := by
  cases b with
  | true => simp only [grdI2, fI_eq] at h; cases h; exact ⟨rfl, rfl⟩
  | false => cases h
noncomputable def grdQ (b : Bool) (q : Rat) (r : List PV → List RV) : Option (List RV) := match b with
  | true => fI q.num fun n => fN q.den fun d => some (r (intC n ++ intC (d : Int)))
  | false => none
theorem grdQ_spec {b : Bool} {q : Rat} {r : List PV → List RV} {rs : List RV} (h : grdQ b q r = some rs) : b = true ∧ rs = r (ratC q) := by
  cases b with
  | true => simp only [grdQ, fI_eq, fN_eq] at h; cases h; exact ⟨rfl, rfl⟩
  | false => cases h
noncomputable def lib : List LE := [
  le1 93 dN (fun n => grdI (i64ok n) n fun z => [.p (.agg (intC z))]) (fun a rs h => by obtain ⟨hg, rfl⟩ := grdI_spec h; exact iof_call a (i64ok_spec hg).1 (i64ok_spec hg).2),
  le2 97 dI dI (fun a b => grd (and2 (smI a) (smI b)) [.p (nI (cmpZ a b))]) (fun a b rs h => by obtain ⟨hg, rfl⟩ := grd_spec h; obtain ⟨h1, h2⟩ := and2_spec hg; have := smI_ln h1; have := smI_ln h2; exact icmp_call a b (by omega) (by omega)),
  le1 105 dI (fun a => some [.p (nI (sgn a))]) (fun a rs h => by cases h; exact isign_call a),
  le1 106 dI (fun a => grdI (smI a) (-a) fun z => [.p (.agg (intC z))]) (fun a rs h => by obtain ⟨hg, rfl⟩ := grdI_spec h; have := smI_ln hg; exact ineg_call a (by omega)),
  le2 107 dI dI (fun a b => grdI (and2 (smI a) (smI b)) (a + b) fun z => [.p (.agg (intC z))]) (fun a b rs h => by obtain ⟨hg, rfl⟩ := grdI_spec h; obtain ⟨h1, h2⟩ := and2_spec hg; have := smI_ln h1; have := smI_ln h2; exact iadd_call a b (by omega) (by omega)),
  le2 238 dI dI (fun a b => grdI (and2 (smI a) (smI b)) (a - b) fun z => [.p (.agg (intC z))]) (fun a b rs h => by obtain ⟨hg, rfl⟩ := grdI_spec h; obtain ⟨h1, h2⟩ := and2_spec hg; have := smI_ln h1; have := smI_ln h2; exact isub_call a b (by omega) (by omega)),
  le2 109 dI dI (fun a b => grdI (and2 (smI a) (smI b)) (a * b) fun z => [.p (.agg (intC z))]) (fun a b rs h => by obtain ⟨hg, rfl⟩ := grdI_spec h; obtain ⟨h1, h2⟩ := and2_spec hg; have := smI_ln h1; have := smI_ln h2; exact imul_call a b (by omega)),
  le2 108 dI dN (fun a n => match n with
    | .ofNat k => grdI (and2 (smI a) (Nat.blt k 1000)) (a ^ k) fun z => [.p (.agg (intC z)), .p (nI 0)]
    | _ => none) (fun a n rs h => by
      cases n with
      | ofNat k =>
        obtain ⟨hg, rfl⟩ := grdI_spec h; obtain ⟨h1, h2⟩ := and2_spec hg; have := smI_ln h1
        have h2 : k < 1000 := by simpa [Nat.blt_eq] using h2
        have := Nat.mul_le_mul this (Nat.le_of_lt h2)
        exact ipow_call a k (by omega) (by omega)
      | negSucc k => cases h),
  le2 164 dI dI (fun a b => grdI2 (and2 (and2 (smI a) (smI b)) (nz b)) (a / b) (a % b) fun y z => [.p (.agg (intC y)), .p (.agg (intC z)), .p (nI 0)]) (fun a b rs h => by obtain ⟨hg, rfl⟩ := grdI2_spec h; obtain ⟨hg, h3⟩ := and2_spec hg; obtain ⟨h1, h2⟩ := and2_spec hg; have := smI_ln h1; have := smI_ln h2; exact idivmod_call a b (by omega) (by omega) (nz_spec h3)),
  le2 262 dI dI (fun a b => grdI (and2 (smI a) (smI b)) (Int.gcd a b : Nat) fun z => [.p (.agg (intC z))]) (fun a b rs h => by obtain ⟨hg, rfl⟩ := grdI_spec h; obtain ⟨h1, h2⟩ := and2_spec hg; have := smI_ln h1; have := smI_ln h2; exact igcd_call a b (by omega) (by omega)),
  le1 165 dI (fun n => grd (i64ok n) [.p (nI n), .p (.val (.bool true))]) (fun a rs h => by obtain ⟨hg, rfl⟩ := grd_spec h; exact ismall_call a (i64ok_spec hg).1 (i64ok_spec hg).2),
  le1 251 dN (fun n => grdQ (i64ok n) (n : Rat) fun z => [.p (.agg z)]) (fun a rs h => by obtain ⟨hg, rfl⟩ := grdQ_spec h; exact rwhole_call a (i64ok_spec hg).1 (i64ok_spec hg).2),
  le2 202 dI dI (fun a b => grdQ (and2 (and2 (smI a) (smI b)) (nz b)) (Rat.divInt a b) fun z => [.p (.agg z), .p (nI 0)]) (fun a b rs h => by obtain ⟨hg, rfl⟩ := grdQ_spec h; obtain ⟨hg, h3⟩ := and2_spec hg; obtain ⟨h1, h2⟩ := and2_spec hg; have := smI_ln h1; have := smI_ln h2; exact rnew_call a b (by omega) (by omega) (nz_spec h3)),
  le1 293 dQ (fun q => some [.p (nI (sgn q.num))]) (fun a rs h => by cases h; exact rsign_call a),
  le2 250 dQ dQ (fun a b => grdQ (and2 (smQ a) (smQ b)) (a * b) fun z => [.p (.agg z)]) (fun a b rs h => by obtain ⟨hg, rfl⟩ := grdQ_spec h; obtain ⟨h1, h2⟩ := and2_spec hg; have := smQ_lq h1; have := smQ_lq h2; exact rmul_call a b (by omega)),
  le2 289 dQ dQ (fun a b => grdQ (and2 (and2 (smQ a) (smQ b)) (nz b.num)) (a / b) fun z => [.p (.agg z), .p (nI 0)]) (fun a b rs h => by obtain ⟨hg, rfl⟩ := grdQ_spec h; obtain ⟨hg, h3⟩ := and2_spec hg; obtain ⟨h1, h2⟩ := and2_spec hg; have := smQ_lq h1; have := smQ_lq h2; exact rdiv_call a b (by omega) (qnz h3)),
  le1 80 dQ (fun a => grdQ (smQ a) (-a) fun z => [.p (.agg z)]) (fun a rs h => by obtain ⟨hg, rfl⟩ := grdQ_spec h; have := smQ_lq hg; exact rneg_call a (by omega)),
  le2 256 dQ dQ (fun a b => grdQ (and2 (smQ a) (smQ b)) (a + b) fun z => [.p (.agg z)]) (fun a b rs h => by obtain ⟨hg, rfl⟩ := grdQ_spec h; obtain ⟨h1, h2⟩ := and2_spec hg; have := smQ_lq h1; have := smQ_lq h2; exact radd_call a b (by omega)),
  le2 290 dQ dQ (fun a b => grdQ (and2 (smQ a) (smQ b)) (a - b) fun z => [.p (.agg z)]) (fun a b rs h => by obtain ⟨hg, rfl⟩ := grdQ_spec h; obtain ⟨h1, h2⟩ := and2_spec hg; have := smQ_lq h1; have := smQ_lq h2; exact rsub_call a b (by omega)),
  le1 258 dQ (fun a => grdQ (and2 (smQ a) (nz a.num)) a⁻¹ fun z => [.p (.agg z), .p (nI 0)]) (fun a rs h => by obtain ⟨hg, rfl⟩ := grdQ_spec h; obtain ⟨h1, h2⟩ := and2_spec hg; have := smQ_lq h1; exact rinv_call a (by omega) (qnz h2)),
  le2 82 dQ dQ (fun a b => grd (and2 (smQ a) (smQ b)) [.p (nI (cmpQ a b))]) (fun a b rs h => by obtain ⟨hg, rfl⟩ := grd_spec h; obtain ⟨h1, h2⟩ := and2_spec hg; have := smQ_lq h1; have := smQ_lq h2; exact rcmp_call a b (by omega)),
  le1 136 dU (fun n => grd (Nat.blt n 65536) [.p (nI (bl n : Nat))]) (fun a rs h => by obtain ⟨hg, rfl⟩ := grd_spec h; exact len_call a (by simpa [Nat.blt_eq] using hg)),
  le1 38 dN (fun n => grdI (i64ok n) n fun z => [.p (.agg (intC z))]) (fun a rs h => by obtain ⟨hg, rfl⟩ := grdI_spec h; exact of_call a (i64ok_spec hg).1 (i64ok_spec hg).2),
  le1 46 dN (fun n => grdQ (i64ok n) (n : Rat) fun z => [.p (.agg z)]) (fun a rs h => by obtain ⟨hg, rfl⟩ := grdQ_spec h; exact whole_call a (i64ok_spec hg).1 (i64ok_spec hg).2),
  le2 51 dQ dQ (fun a b => grdQ (and2 (and2 (smQ a) (smQ b)) (nz b.num)) (a / b) fun z => [.p (.agg z), .p (nI 0)]) (fun a b rs h => by obtain ⟨hg, rfl⟩ := grdQ_spec h; obtain ⟨hg, h3⟩ := and2_spec hg; obtain ⟨h1, h2⟩ := and2_spec hg; have := smQ_lq h1; have := smQ_lq h2; exact qdiv_call a b (by omega) (qnz h3)),
  le1 53 dQ (fun q => some [.p (nI (sgn q.num))]) (fun a rs h => by cases h; exact qsign_call a),
  le2 36 dI dI (fun a b => grdI (and2 (smI a) (smI b)) (a + b) fun z => [.p (.agg (intC z))]) (fun a b rs h => by obtain ⟨hg, rfl⟩ := grdI_spec h; obtain ⟨h1, h2⟩ := and2_spec hg; have := smI_ln h1; have := smI_ln h2; exact add_call a b (by omega) (by omega)),
  le2 37 dI dI (fun a b => grdI (and2 (smI a) (smI b)) (a * b) fun z => [.p (.agg (intC z))]) (fun a b rs h => by obtain ⟨hg, rfl⟩ := grdI_spec h; obtain ⟨h1, h2⟩ := and2_spec hg; have := smI_ln h1; have := smI_ln h2; exact mul_call a b (by omega)),
  le1 57 dI (fun a => some [.p (nI (sgn a))]) (fun a rs h => by cases h; exact sign_call a)
  ]
end Go.Am

set_option linter.unusedVariables false
namespace Go.Am
open Go Go.Proofs
set_option maxRecDepth 100000
set_option maxHeartbeats 4000000
noncomputable def ftab : List (Nat × FE) := [
  (60, FE.of Tryz.f60),
  (61, FE.of Tryz.f61),
  (62, FE.of Tryz.f62),
  (63, FE.of Tryz.f63),
  (64, FE.of Tryz.f64),
  (66, FE.of Tryz.f66),
  (67, FE.of Tryz.f67),
  (99, FE.of Tryz.f99),
  (100, FE.of Tryz.f100),
  (102, FE.of Tryz.f102),
  (126, FE.of Tryz.f126),
  (127, FE.of Tryz.f127),
  (128, FE.of Tryz.f128),
  (129, FE.of Tryz.f129),
  (130, FE.of Tryz.f130),
  (131, FE.of Tryz.f131),
  (132, FE.of Tryz.f132),
  (133, FE.of Tryz.f133),
  (134, FE.of Tryz.f134),
  (138, FE.of Tryz.f138),
  (167, FE.of Tryz.f167),
  (180, FE.of Tryz.f180),
  (191, FE.of Tryz.f191),
  (192, FE.of Tryz.f192),
  (193, FE.of Tryz.f193),
  (194, FE.of Tryz.f194),
  (195, FE.of Tryz.f195),
  (196, FE.of Tryz.f196),
  (197, FE.of Tryz.f197),
  (200, FE.of Tryz.f200),
  (234, FE.of Tryz.f234),
  (252, FE.of Tryz.f252),
  (253, FE.of Tryz.f253),
  (254, FE.of Tryz.f254),
  (257, FE.of Tryz.f257),
  (259, FE.of Tryz.f259),
  (260, FE.of Tryz.f260),
  (261, FE.of Tryz.f261),
  (292, FE.of Tryz.f292),
  (9, FE.of Tryz.f9),
  (10, FE.of Tryz.f10),
  (12, FE.of Tryz.f12),
  (13, FE.of Tryz.f13),
  (14, FE.of Tryz.f14),
  (17, FE.of Tryz.f17),
  (18, FE.of Tryz.f18),
  (20, FE.of Tryz.f20),
  (21, FE.of Tryz.f21),
  (22, FE.of Tryz.f22),
  (23, FE.of Tryz.f23),
  (24, FE.of Tryz.f24),
  (26, FE.of Tryz.f26),
  (28, FE.of Tryz.f28),
  (29, FE.of Tryz.f29),
  (31, FE.of Tryz.f31),
  (32, FE.of Tryz.f32),
  (33, FE.of Tryz.f33),
  (35, FE.of Tryz.f35),
  (40, FE.of Tryz.f40),
  (43, FE.of Tryz.f43),
  (47, FE.of Tryz.f47),
  (50, FE.of Tryz.f50),
  (65, FE.of Tryz.f65),
  (68, FE.of Tryz.f68),
  (69, FE.of Tryz.f69),
  (70, FE.of Tryz.f70),
  (74, FE.of Tryz.f74),
  (75, FE.of Tryz.f75),
  (77, FE.of Tryz.f77),
  (79, FE.of Tryz.f79),
  (81, FE.of Tryz.f81),
  (91, FE.of Tryz.f91),
  (94, FE.of Tryz.f94),
  (95, FE.of Tryz.f95),
  (96, FE.of Tryz.f96),
  (98, FE.of Tryz.f98),
  (101, FE.of Tryz.f101),
  (117, FE.of Tryz.f117),
  (118, FE.of Tryz.f118),
  (119, FE.of Tryz.f119),
  (135, FE.of Tryz.f135),
  (137, FE.of Tryz.f137),
  (139, FE.of Tryz.f139),
  (140, FE.of Tryz.f140),
  (141, FE.of Tryz.f141),
  (142, FE.of Tryz.f142),
  (152, FE.of Tryz.f152),
  (161, FE.of Tryz.f161),
  (166, FE.of Tryz.f166),
  (168, FE.of Tryz.f168),
  (181, FE.of Tryz.f181),
  (182, FE.of Tryz.f182),
  (183, FE.of Tryz.f183),
  (184, FE.of Tryz.f184),
  (185, FE.of Tryz.f185),
  (186, FE.of Tryz.f186),
  (187, FE.of Tryz.f187),
  (188, FE.of Tryz.f188),
  (198, FE.of Tryz.f198),
  (199, FE.of Tryz.f199),
  (203, FE.of Tryz.f203),
  (210, FE.of Tryz.f210),
  (211, FE.of Tryz.f211),
  (212, FE.of Tryz.f212),
  (213, FE.of Tryz.f213),
  (214, FE.of Tryz.f214),
  (215, FE.of Tryz.f215),
  (216, FE.of Tryz.f216),
  (217, FE.of Tryz.f217),
  (229, FE.of Tryz.f229),
  (235, FE.of Tryz.f235),
  (236, FE.of Tryz.f236),
  (237, FE.of Tryz.f237),
  (239, FE.of Tryz.f239),
  (241, FE.of Tryz.f241),
  (244, FE.of Tryz.f244),
  (245, FE.of Tryz.f245),
  (247, FE.of Tryz.f247),
  (248, FE.of Tryz.f248),
  (264, FE.of Tryz.f264),
  (266, FE.of Tryz.f266),
  (267, FE.of Tryz.f267),
  (268, FE.of Tryz.f268),
  (269, FE.of Tryz.f269),
  (270, FE.of Tryz.f270),
  (271, FE.of Tryz.f271),
  (272, FE.of Tryz.f272),
  (273, FE.of Tryz.f273),
  (276, FE.of Tryz.f276),
  (277, FE.of Tryz.f277),
  (278, FE.of Tryz.f278),
  (286, FE.of Tryz.f286),
  (287, FE.of Tryz.f287),
  (297, FE.of Tryz.f297),
  (298, FE.of Tryz.f298),
  (299, FE.of Tryz.f299),
  (300, FE.of Tryz.f300),
  (302, FE.of Tryz.f302),
  (305, FE.of Tryz.f305),
  (306, FE.of Tryz.f306),
  (307, FE.of Tryz.f307)]
theorem ftab_ok : ∀ p ∈ ftab, FEOK Tryz.prog p.1 p.2 := by
  unfold ftab
  repeat' (first | refine List.forall_mem_cons.2 ⟨?_, ?_⟩)
  · exact FEOK.of Tryz.func60 rfl (by kernel_rfl)
  · exact FEOK.of Tryz.func61 rfl (by kernel_rfl)
  · exact FEOK.of Tryz.func62 rfl (by kernel_rfl)
  · exact FEOK.of Tryz.func63 rfl (by kernel_rfl)
  · exact FEOK.of Tryz.func64 rfl (by kernel_rfl)
  · exact FEOK.of Tryz.func66 rfl (by kernel_rfl)
  · exact FEOK.of Tryz.func67 rfl (by kernel_rfl)
  · exact FEOK.of Tryz.func99 rfl (by kernel_rfl)
  · exact FEOK.of Tryz.func100 rfl (by kernel_rfl)
  · exact FEOK.of Tryz.func102 rfl (by kernel_rfl)
  · exact FEOK.of Tryz.func126 rfl (by kernel_rfl)
  · exact FEOK.of Tryz.func127 rfl (by kernel_rfl)
  · exact FEOK.of Tryz.func128 rfl (by kernel_rfl)
  · exact FEOK.of Tryz.func129 rfl (by kernel_rfl)
  · exact FEOK.of Tryz.func130 rfl (by kernel_rfl)
  · exact FEOK.of Tryz.func131 rfl (by kernel_rfl)
  · exact FEOK.of Tryz.func132 rfl (by kernel_rfl)
  · exact FEOK.of Tryz.func133 rfl (by kernel_rfl)
  · exact FEOK.of Tryz.func134 rfl (by kernel_rfl)
  · exact FEOK.of Tryz.func138 rfl (by kernel_rfl)
  · exact FEOK.of Tryz.func167 rfl (by kernel_rfl)
  · exact FEOK.of Tryz.func180 rfl (by kernel_rfl)
  · exact FEOK.of Tryz.func191 rfl (by kernel_rfl)
  · exact FEOK.of Tryz.func192 rfl (by kernel_rfl)
  · exact FEOK.of Tryz.func193 rfl (by kernel_rfl)
  · exact FEOK.of Tryz.func194 rfl (by kernel_rfl)
  · exact FEOK.of Tryz.func195 rfl (by kernel_rfl)
  · exact FEOK.of Tryz.func196 rfl (by kernel_rfl)
  · exact FEOK.of Tryz.func197 rfl (by kernel_rfl)
  · exact FEOK.of Tryz.func200 rfl (by kernel_rfl)
  · exact FEOK.of Tryz.func234 rfl (by kernel_rfl)
  · exact FEOK.of Tryz.func252 rfl (by kernel_rfl)
  · exact FEOK.of Tryz.func253 rfl (by kernel_rfl)
  · exact FEOK.of Tryz.func254 rfl (by kernel_rfl)
  · exact FEOK.of Tryz.func257 rfl (by kernel_rfl)
  · exact FEOK.of Tryz.func259 rfl (by kernel_rfl)
  · exact FEOK.of Tryz.func260 rfl (by kernel_rfl)
  · exact FEOK.of Tryz.func261 rfl (by kernel_rfl)
  · exact FEOK.of Tryz.func292 rfl (by kernel_rfl)
  · exact FEOK.of Tryz.func9 rfl (by kernel_rfl)
  · exact FEOK.of Tryz.func10 rfl (by kernel_rfl)
  · exact FEOK.of Tryz.func12 rfl (by kernel_rfl)
  · exact FEOK.of Tryz.func13 rfl (by kernel_rfl)
  · exact FEOK.of Tryz.func14 rfl (by kernel_rfl)
  · exact FEOK.of Tryz.func17 rfl (by kernel_rfl)
  · exact FEOK.of Tryz.func18 rfl (by kernel_rfl)
  · exact FEOK.of Tryz.func20 rfl (by kernel_rfl)
  · exact FEOK.of Tryz.func21 rfl (by kernel_rfl)
  · exact FEOK.of Tryz.func22 rfl (by kernel_rfl)
  · exact FEOK.of Tryz.func23 rfl (by kernel_rfl)
  · exact FEOK.of Tryz.func24 rfl (by kernel_rfl)
  · exact FEOK.of Tryz.func26 rfl (by kernel_rfl)
  · exact FEOK.of Tryz.func28 rfl (by kernel_rfl)
  · exact FEOK.of Tryz.func29 rfl (by kernel_rfl)
  · exact FEOK.of Tryz.func31 rfl (by kernel_rfl)
  · exact FEOK.of Tryz.func32 rfl (by kernel_rfl)
  · exact FEOK.of Tryz.func33 rfl (by kernel_rfl)
  · exact FEOK.of Tryz.func35 rfl (by kernel_rfl)
  · exact FEOK.of Tryz.func40 rfl (by kernel_rfl)
  · exact FEOK.of Tryz.func43 rfl (by kernel_rfl)
  · exact FEOK.of Tryz.func47 rfl (by kernel_rfl)
  · exact FEOK.of Tryz.func50 rfl (by kernel_rfl)
  · exact FEOK.of Tryz.func65 rfl (by kernel_rfl)
  · exact FEOK.of Tryz.func68 rfl (by kernel_rfl)
  · exact FEOK.of Tryz.func69 rfl (by kernel_rfl)
  · exact FEOK.of Tryz.func70 rfl (by kernel_rfl)
  · exact FEOK.of Tryz.func74 rfl (by kernel_rfl)
  · exact FEOK.of Tryz.func75 rfl (by kernel_rfl)
  · exact FEOK.of Tryz.func77 rfl (by kernel_rfl)
  · exact FEOK.of Tryz.func79 rfl (by kernel_rfl)
  · exact FEOK.of Tryz.func81 rfl (by kernel_rfl)
  · exact FEOK.of Tryz.func91 rfl (by kernel_rfl)
  · exact FEOK.of Tryz.func94 rfl (by kernel_rfl)
  · exact FEOK.of Tryz.func95 rfl (by kernel_rfl)
  · exact FEOK.of Tryz.func96 rfl (by kernel_rfl)
  · exact FEOK.of Tryz.func98 rfl (by kernel_rfl)
  · exact FEOK.of Tryz.func101 rfl (by kernel_rfl)
  · exact FEOK.of Tryz.func117 rfl (by kernel_rfl)
  · exact FEOK.of Tryz.func118 rfl (by kernel_rfl)
  · exact FEOK.of Tryz.func119 rfl (by kernel_rfl)
  · exact FEOK.of Tryz.func135 rfl (by kernel_rfl)
  · exact FEOK.of Tryz.func137 rfl (by kernel_rfl)
  · exact FEOK.of Tryz.func139 rfl (by kernel_rfl)
  · exact FEOK.of Tryz.func140 rfl (by kernel_rfl)
  · exact FEOK.of Tryz.func141 rfl (by kernel_rfl)
  · exact FEOK.of Tryz.func142 rfl (by kernel_rfl)
  · exact FEOK.of Tryz.func152 rfl (by kernel_rfl)
  · exact FEOK.of Tryz.func161 rfl (by kernel_rfl)
  · exact FEOK.of Tryz.func166 rfl (by kernel_rfl)
  · exact FEOK.of Tryz.func168 rfl (by kernel_rfl)
  · exact FEOK.of Tryz.func181 rfl (by kernel_rfl)
  · exact FEOK.of Tryz.func182 rfl (by kernel_rfl)
  · exact FEOK.of Tryz.func183 rfl (by kernel_rfl)
  · exact FEOK.of Tryz.func184 rfl (by kernel_rfl)
  · exact FEOK.of Tryz.func185 rfl (by kernel_rfl)
  · exact FEOK.of Tryz.func186 rfl (by kernel_rfl)
  · exact FEOK.of Tryz.func187 rfl (by kernel_rfl)
  · exact FEOK.of Tryz.func188 rfl (by kernel_rfl)
  · exact FEOK.of Tryz.func198 rfl (by kernel_rfl)
  · exact FEOK.of Tryz.func199 rfl (by kernel_rfl)
  · exact FEOK.of Tryz.func203 rfl (by kernel_rfl)
  · exact FEOK.of Tryz.func210 rfl (by kernel_rfl)
  · exact FEOK.of Tryz.func211 rfl (by kernel_rfl)
  · exact FEOK.of Tryz.func212 rfl (by kernel_rfl)
  · exact FEOK.of Tryz.func213 rfl (by kernel_rfl)
  · exact FEOK.of Tryz.func214 rfl (by kernel_rfl)
  · exact FEOK.of Tryz.func215 rfl (by kernel_rfl)
  · exact FEOK.of Tryz.func216 rfl (by kernel_rfl)
  · exact FEOK.of Tryz.func217 rfl (by kernel_rfl)
  · exact FEOK.of Tryz.func229 rfl (by kernel_rfl)
  · exact FEOK.of Tryz.func235 rfl (by kernel_rfl)
  · exact FEOK.of Tryz.func236 rfl (by kernel_rfl)
  · exact FEOK.of Tryz.func237 rfl (by kernel_rfl)
  · exact FEOK.of Tryz.func239 rfl (by kernel_rfl)
  · exact FEOK.of Tryz.func241 rfl (by kernel_rfl)
  · exact FEOK.of Tryz.func244 rfl (by kernel_rfl)
  · exact FEOK.of Tryz.func245 rfl (by kernel_rfl)
  · exact FEOK.of Tryz.func247 rfl (by kernel_rfl)
  · exact FEOK.of Tryz.func248 rfl (by kernel_rfl)
  · exact FEOK.of Tryz.func264 rfl (by kernel_rfl)
  · exact FEOK.of Tryz.func266 rfl (by kernel_rfl)
  · exact FEOK.of Tryz.func267 rfl (by kernel_rfl)
  · exact FEOK.of Tryz.func268 rfl (by kernel_rfl)
  · exact FEOK.of Tryz.func269 rfl (by kernel_rfl)
  · exact FEOK.of Tryz.func270 rfl (by kernel_rfl)
  · exact FEOK.of Tryz.func271 rfl (by kernel_rfl)
  · exact FEOK.of Tryz.func272 rfl (by kernel_rfl)
  · exact FEOK.of Tryz.func273 rfl (by kernel_rfl)
  · exact FEOK.of Tryz.func276 rfl (by kernel_rfl)
  · exact FEOK.of Tryz.func277 rfl (by kernel_rfl)
  · exact FEOK.of Tryz.func278 rfl (by kernel_rfl)
  · exact FEOK.of Tryz.func286 rfl (by kernel_rfl)
  · exact FEOK.of Tryz.func287 rfl (by kernel_rfl)
  · exact FEOK.of Tryz.func297 rfl (by kernel_rfl)
  · exact FEOK.of Tryz.func298 rfl (by kernel_rfl)
  · exact FEOK.of Tryz.func299 rfl (by kernel_rfl)
  · exact FEOK.of Tryz.func300 rfl (by kernel_rfl)
  · exact FEOK.of Tryz.func302 rfl (by kernel_rfl)
  · exact FEOK.of Tryz.func305 rfl (by kernel_rfl)
  · exact FEOK.of Tryz.func306 rfl (by kernel_rfl)
  · exact FEOK.of Tryz.func307 rfl (by kernel_rfl)
  · intro p hp; cases hp
end Go.Am

set_option linter.unusedVariables false
set_option linter.unusedSimpArgs false
namespace Go.Am
open Go Go.Proofs
set_option maxRecDepth 100000
def monB : List Int → Bool
  | [] => false
  | [z] => match z with
    | .ofNat n => Nat.beq n 1
    | _ => false
  | _ :: r => monB r
theorem monB_spec : ∀ {l : List Int}, monB l = true → Mon l := by
  intro l
  induction l with
  | nil => intro h; cases h
  | cons z r ih =>
    intro h
    cases r with
    | nil =>
      simp only [monB] at h
      split at h
      · have := Nat.eq_of_beq_eq_true h; subst this; exact ⟨[], rfl⟩
      · cases h
    | cons y r =>
      obtain ⟨t, ht⟩ := ih h
      exact ⟨z :: t, by rw [ht]; rfl⟩
def allB {α : Type} (p : α → Bool) : List α → Bool
  | [] => true
  | x :: r => and2 (p x) (allB p r)
theorem allB_spec {α : Type} {p : α → Bool} : ∀ {l : List α}, allB p l = true → ∀ x ∈ l, p x = true := by
  intro l
  induction l with
  | nil => intro _ x hx; cases hx
  | cons y r ih =>
    intro h x hx
    obtain ⟨h1, h2⟩ := and2_spec h
    rcases List.mem_cons.1 hx with rfl | hx
    · exact h1
    · exact ih h2 x hx
def lenB {α : Type} (n : Nat) (l : List α) : Bool := Nat.ble l.length n
theorem lenB_spec {α : Type} {n : Nat} {l : List α} (h : lenB n l = true) : l.length ≤ n := Nat.le_of_ble_eq_true h
def absB (A : Nat) (z : Int) : Bool := Nat.ble z.natAbs A
/-- The sizes of combine's arguments, asked by computing. -/
def combB (f : List Int) (l : List (List Int)) (m : Int) : Bool :=
  and2 (and2 (match m with
    | .ofNat k => and2 (Nat.ble 2 k) (Nat.ble k 1000000000000)
    | _ => false) (allB (fun x => and2 (monB x) (and2 (allB (absB m.natAbs) x) (lenB 100 x))) l)) (and2 (lenB 12 l) (and2 (lenB 100 f) (allB (absB 1000000000000) f)))
theorem combB_spec {f : List Int} {l : List (List Int)} {m : Int} (h : combB f l m = true) : CombOK f l m 1000000000000 3000 := by
  obtain ⟨h, h3⟩ := and2_spec h
  obtain ⟨h1, h2⟩ := and2_spec h
  obtain ⟨h3, h4⟩ := and2_spec h3
  obtain ⟨h4, h5⟩ := and2_spec h4
  split at h1
  case h_2 => cases h1
  rename_i k _
  obtain ⟨q1, q2⟩ := and2_spec h1
  have q1 := Nat.le_of_ble_eq_true q1
  have q2 := Nat.le_of_ble_eq_true q2
  have e : (Int.ofNat k).natAbs = k := rfl
  have l12 := lenB_spec h3
  refine ⟨Int.ofNat_le.2 q1, fun x hx => ?_, l12, lenB_spec h4, fun x hx => Nat.le_of_ble_eq_true (allB_spec h5 x hx), ?_, ?_, by omega⟩
  · obtain ⟨g1, g2⟩ := and2_spec (allB_spec h2 x hx)
    obtain ⟨g2, g3⟩ := and2_spec g2
    exact ⟨monB_spec g1, fun y hy => Nat.le_of_ble_eq_true (allB_spec g2 y hy), lenB_spec g3⟩
  · rw [e]
    obtain ⟨E, hE⟩ : ∃ E, E = 1313 := ⟨_, rfl⟩
    have h1 : 1000000000000 * (1 + k) ^ (101 * (l.length + 1)) ≤ 1000000000000 * (1000000000001) ^ E :=
      Nat.mul_le_mul_left _ (Nat.le_trans (Nat.pow_le_pow_left (by omega) _) (Nat.pow_le_pow_right (by omega) (by omega)))
    refine Nat.lt_of_le_of_lt h1 ?_
    rw [hE]
    exact Nat.le_of_ble_eq_true (by kernel_rfl)
  · rw [e]
    have h1 : 1000000 * (k * k) ≤ 1000000 * (1000000000000 * 1000000000000) := Nat.mul_le_mul_left _ (Nat.mul_le_mul q2 q2)
    refine Nat.lt_of_le_of_lt h1 ?_
    exact Nat.le_of_ble_eq_true (by kernel_rfl)
noncomputable def lib2 : List LE :=
  le3 255 dQL dN dN (fun a n s => match n with
    | .ofNat n => match s with
      | .ofNat s => grd (and2 (Nat.ble s n) (Nat.ble n 1000000)) [.new 4 (ql (grownF a n s))]
      | _ => none
    | _ => none) (fun a n s rs h => by
      match n, s, h with
      | .ofNat n, .ofNat s, h =>
        obtain ⟨hg, rfl⟩ := grd_spec h
        obtain ⟨h1, h2⟩ := and2_spec hg
        exact grown_call a n s (Nat.le_of_ble_eq_true h1) (Nat.le_of_ble_eq_true h2)) ::
  le2 291 dR dN (fun r n => match r with
    | [c] => match n with
      | .ofNat k => grd (and2 (Nat.beq c.length 4) (Nat.ble k 1000000)) [.new 4 (List.replicate k c)]
      | _ => none
    | _ => none) (fun r n rs h => by
      match r, n, h with
      | [c], .ofNat k, h =>
        obtain ⟨hg, rfl⟩ := grd_spec h
        obtain ⟨h1, h2⟩ := and2_spec hg
        exact repeat_call c (Nat.eq_of_beq_eq_true h1) k (Nat.le_of_ble_eq_true h2)) ::
  le3 201 dA dL dI (fun f l m => grd (combB f l m) [.new 1 (lzl (combineF 12 f l m))]) (fun f l m rs h => by
    obtain ⟨hg, rfl⟩ := grd_spec h
    have hc := combB_spec hg
    exact combine_call 12 f l m _ _ hc hc.l12 (by omega)) ::
  le1 249 dR (fun r => grd (and2 (allB (fun e => Nat.beq e.length 4) r) (lenB 1000000 r)) [.new 4 r]) (fun r rs h => by
    obtain ⟨hg, rfl⟩ := grd_spec h
    obtain ⟨h1, h2⟩ := and2_spec hg
    have := lenB_spec h2
    exact clone_rats r (fun e he => Nat.eq_of_beq_eq_true (allB_spec h1 e he)) (by omega)) ::
  le1 296 dR (fun r => grd (and2 (allB (fun e => Nat.beq e.length 2) r) (lenB 1000000 r)) [.new 2 r]) (fun r rs h => by
    obtain ⟨hg, rfl⟩ := grd_spec h
    obtain ⟨h1, h2⟩ := and2_spec hg
    have := lenB_spec h2
    exact clone_ints r (fun e he => Nat.eq_of_beq_eq_true (allB_spec h1 e he)) (by omega)) :: lib
noncomputable def XV (S : List Nat) : XEnv := ⟨T, fun f => findF f ftab, fun f ps => findL f ps lib2, S⟩
theorem XV_ok (S : List Nat) : XOK Tryz.prog (XV S) := ⟨hT, fun f fe h => findF_ok ftab_ok f fe h, fun f ps rs h => findL_ok (l := lib2) h, hmix⟩
/-- A closed call, computed. -/
theorem closed {S : List Nat} (n : Nat) {f : FuncId} {ps : List PV} {rs : List RV} (h : (xcall (XV S) (X (XV S) n) f ps fun r => r = rs) = (rs = rs)) : ACall Tryz.prog f ps rs := by
  obtain ⟨r, h1, rfl⟩ := acall_run (XV_ok S) n (h ▸ rfl)
  exact h1
end Go.Am

set_option linter.unusedVariables false
namespace Go.Am
open Go Go.Proofs
set_option maxRecDepth 1000000
def decU : List (List PV) → Option (List Nat)
  | [] => some []
  | c :: r => match c with
    | [.val (.int .u64 d)] => match d with
      | .ofNat n => match decU r with
        | some l => some (n :: l)
        | none => none
      | _ => none
    | _ => none
theorem decU_spec : ∀ {rows : List (List PV)} {l : List Nat}, decU rows = some l → rows = ul l := by
  intro rows
  induction rows with
  | nil => intro l h; simp [decU] at h; subst h; rfl
  | cons c r ih =>
    intro l h
    simp only [decU] at h
    split at h
    case h_2 => cases h
    split at h
    case h_2 => cases h
    rename_i d n
    split at h
    case h_2 => cases h
    rename_i l' hl
    cases h
    rw [ih hl]; simp [ul]
def dUL : Dec (List Nat) := ⟨fun p => match p with
  | .sl rows => decU rows
  | .val (.slice none 0 _) => some []
  | _ => none, fun l => .sl (ul l), fun p a h => by
    split at h
    · rw [decU_spec h]; exact .rf _
    · cases h; exact PVle.nil _
    · cases h⟩
def decUL : List (List PV) → Option (List (List Nat))
  | [] => some []
  | c :: r => match c with
    | [p] => match dUL.rd p with
      | some z => match decUL r with
        | some l => some (z :: l)
        | none => none
      | none => none
    | _ => none
def ull (l : List (List Nat)) : List (List PV) := l.map fun x => [.sl (ul x)]
theorem decUL_spec : ∀ {rows : List (List PV)} {l : List (List Nat)}, decUL rows = some l → RowsLe rows (ull l) := by
  intro rows
  induction rows with
  | nil => intro l h; simp [decUL] at h; subst h; exact .rf _
  | cons c r ih =>
    intro l h
    simp only [decUL] at h
    split at h
    case h_2 => cases h
    split at h
    case h_2 => cases h
    rename_i z hz
    split at h
    case h_2 => cases h
    rename_i l' hl
    cases h
    exact RowsLe.cons (CellsLe.cons (dUL.ok _ _ hz) CellsLe.nil) (ih hl)
def dULL : Dec (List (List Nat)) := ⟨fun p => match p with
  | .sl rows => decUL rows
  | .val (.slice none 0 _) => some []
  | _ => none, fun l => .sl (ull l), fun p a h => by
    split at h
    · exact PVle.sl (decUL_spec h)
    · cases h; exact PVle.nil _
    · cases h⟩
def le4 {α β γ δ : Type} (f : Nat) (d : Dec α) (d' : Dec β) (d'' : Dec γ) (e' : Dec δ) (g : α → β → γ → δ → Option (List RV)) (h : ∀ a b c x rs, g a b c x = some rs → ACall Tryz.prog f [d.wr a, d'.wr b, d''.wr c, e'.wr x] rs) : LE := ⟨f, fun ps => match ps with
  | [p, q, r, s] => match d.rd p with
    | some a => match d'.rd q with
      | some b => match d''.rd r with
        | some c => match e'.rd s with
          | some x => g a b c x
          | none => none
        | none => none
      | none => none
    | none => none
  | _ => none, fun ps rs e => by
    split at e
    case h_2 => cases e
    split at e
    case h_2 => cases e
    rename_i p q r s a ha
    split at e
    case h_2 => cases e
    rename_i b hb
    split at e
    case h_2 => cases e
    rename_i c hc
    split at e
    case h_2 => cases e
    rename_i x hx
    exact (h a b c x rs e).arg (CellsLe.cons (d.ok _ _ ha) (CellsLe.cons (d'.ok _ _ hb) (CellsLe.cons (d''.ok _ _ hc) (CellsLe.cons (e'.ok _ _ hx) CellsLe.nil))))⟩
def dRing : Dec Nat := ⟨fun p => match p with
  | .agg [.val (.int .u64 n)] => match n with
    | .ofNat k => some k
    | _ => none
  | _ => none, fun z => .agg [nU z], fun p a h => by
    split at h
    · split at h
      · cases h; exact .rf _
      · cases h
    · cases h⟩
noncomputable def XL (L : List LE) (S : List Nat) : XEnv := ⟨T, fun f => findF f ftab, fun f ps => findL f ps L, S⟩
theorem XL_ok (L : List LE) (S : List Nat) : XOK Tryz.prog (XL L S) := ⟨hT, fun f fe h => findF_ok ftab_ok f fe h, fun f ps rs h => findL_ok (l := L) h, hmix⟩
theorem closedL (L : List LE) {S : List Nat} (n : Nat) {f : FuncId} {ps : List PV} {rs : List RV} (h : (xcall (XL L S) (X (XL L S) n) f ps fun r => r = rs) = (rs = rs)) : ACall Tryz.prog f ps rs := by
  obtain ⟨r, h1, rfl⟩ := acall_run (XL_ok L S) n (h ▸ rfl)
  exact h1
end Go.Am

set_option linter.unusedVariables false
namespace Go.Am
open Go
/-! ### From a contract to a law's row -/
def IsRow (k : IntKind) (w : World) (a : Option Addr) (len cap : Nat) (zs : List Int) : Prop :=
  (a = none ∧ len = 0 ∧ cap = 0 ∧ zs = []) ∨
  ∃ x, a = some x ∧ len ≤ cap ∧ cap ≤ maxLen ∧ zs.length = cap ∧ (∀ i, i < zs.length → w.cell? (x.add i) = some (.int k (zs.getD i 0))) ∧ ∀ n ∈ zs, (Lit.int k n).wf = true
theorem rep_row {k : IntKind} {w : World} {a : Option Addr} {len cap : Nat} {zs : List Int} (h : IsRow k w a len cap zs) :
    RepP (fun b => b < w.heap.size) w (.sl ((zs.take len).map fun z => [.val (.int k z)])) (.slice a len cap) := by
  rcases h with ⟨rfl, rfl, rfl, rfl⟩ | ⟨x, rfl, h1, h2, h3, h4, h5⟩
  · exact .sl [] none 0 0 0 0 (fun _ => []) (Nat.zero_le _) (fun h => by simp at h) (fun i e h => by simp at h) (fun i e j x y h => by simp at h)
  · have hlen : ((zs.take len).map fun z => [PV.val (.int k z)]).length = len := by simp; omega
    have hsome : 0 < len → x = ⟨x.block, x.off, none⟩ ∧ x.block < w.heap.size ∧ CellAt w x.block := fun h0 => by
      have := h4 0 (by omega)
      rw [show x.add 0 = x from rfl] at this
      simp only [World.cell?] at this
      split at this
      case h_2 => cases this
      rename_i c e r hb
      split at this
      · cases this
      · rename_i hs
        obtain ⟨b, o, s⟩ := x
        have : s = none := by cases s <;> simp_all
        subst this
        exact ⟨rfl, (Array.getElem?_eq_some_iff.1 hb).1, c, e, r, hb⟩
    have hel : ∀ (i : Nat) (e : List PV), ((zs.take len).map fun z => [PV.val (.int k z)])[i]? = some e → i < len ∧ e = [PV.val (.int k (zs.getD i 0))] := fun i e he => by
      have hi : i < len := by rw [← hlen]; exact (List.getElem?_eq_some_iff.1 he).1
      refine ⟨hi, ?_⟩
      have hz : i < zs.length := by omega
      rw [List.getElem?_map, List.getElem?_take, if_pos hi, List.getElem?_eq_getElem hz] at he
      simp at he
      rw [← he]
      simp [hz]
    have := RepP.sl (F := fun b => b < w.heap.size) (w := w) ((zs.take len).map fun z => [PV.val (.int k z)]) (some x) cap x.block x.off 1 (fun i => [.int k (zs.getD i 0)]) (by rw [hlen]; exact h1) (fun h0 => by
        rw [hlen] at h0
        obtain ⟨q1, q2, q3⟩ := hsome h0
        exact ⟨by rw [q1], q2, q3⟩) (fun i e he => by
        obtain ⟨hi, rfl⟩ := hel i e he
        refine ⟨rfl, rfl, ?_, fun v hv => by simp at hv; subst hv; rfl⟩
        intro j v hv
        cases j with
        | succ j => simp at hv
        | zero =>
          simp at hv
          subst hv
          have hx := (hsome (by omega)).1
          have := h4 i (by omega)
          rw [hx, Addr.add_mid] at this
          simpa using this) (fun i e j y z he h1 h2 => by
        obtain ⟨hi, rfl⟩ := hel i e he
        cases j with
        | succ j => simp at h1
        | zero => simp at h1 h2; subst h1; subst h2; exact .val _)
    rw [hlen] at this
    exact this
theorem row_wf {k : IntKind} {w : World} {a : Option Addr} {len cap : Nat} {zs : List Int} (h : IsRow k w a len cap zs) : ∀ z ∈ zs.take len, (Lit.int k z).wf = true := by
  rcases h with ⟨rfl, rfl, rfl, rfl⟩ | ⟨x, rfl, h1, h2, h3, h4, h5⟩
  · intro z hz; simp at hz
  · exact fun z hz => h5 z (List.mem_of_mem_take hz)
theorem law_calls {P : Program} {f : FuncId} {ps : List PV} (h : ACall P f ps [.p (.val (.bool true))]) (vs : List Value) {W : World} (hl : ps.length = vs.length)
    (hx : ∀ (k : Nat) (x : PV) (y : Value), ps[k]? = some x → vs[k]? = some y → RepP (fun b => b < W.heap.size) W x y) :
    Calls P f vs.toArray W fun e w' => e = .returned (.bool true) ∧ RowKit.Below W.heap.size W w' := by
  refine (h.run (fun b => b < W.heap.size) W vs 0 (fun b hb => hb) hl hx).mono ?_
  rintro e w' ⟨v, β', F', rfl, h1, h2, h3, h4, h5⟩
  have : v = .bool true := repVal h4
  exact ⟨by rw [this], h1⟩
end Go.Am
