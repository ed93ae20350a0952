import Derived.Test.YtopddgfmhgmfpaaGreatAm3
import Derived.Test.YtopddgfmhgmfpaaGreatProg
set_option linter.unusedVariables false
set_option linter.unusedSimpArgs false
namespace Go.Am
open Go Go.Proofs
def tbl : List (Nat × TI) :=
 [(9, ⟨.str, 1, 16, [.string ⟨#[]⟩]⟩), (44, ⟨.strct [(0, 4),
  (1, 42)], 2, 32, [.bool false, .slice none 0 0]⟩),
  (3, ⟨.int .i64, 1, 8, [.int .i64 0]⟩),
  (25, ⟨.int .u64, 1, 8, [.int .u64 0]⟩),
  (22, ⟨.slice 25, 1, 24, [.slice none 0 0]⟩),
  (57, ⟨.slice 44, 1, 24, [.slice none 0 0]⟩),
  (46, ⟨.strct [(0, 44),
  (2, 44)], 4, 64, [.bool false, .slice none 0 0, .bool false, .slice none 0 0]⟩),
  (40, ⟨.slice 46, 1, 24, [.slice none 0 0]⟩),
  (42, ⟨.slice 23, 1, 24, [.slice none 0 0]⟩),
  (102, ⟨.slice 25, 1, 24, [.slice none 0 0]⟩),
  (23, ⟨.int .u32, 1, 4, [.int .u32 0]⟩),
  (172, ⟨.slice 23, 1, 24, [.slice none 0 0]⟩),
  (101, ⟨.strct [(0, 25)], 1, 8, [.int .u64 0]⟩),
  (4, ⟨.bool, 1, 1, [.bool false]⟩),
  (2, ⟨.int .i64, 1, 8, [.int .i64 0]⟩),
  (61, ⟨.slice 57, 1, 24, [.slice none 0 0]⟩),
  (47, ⟨.slice 80, 1, 24, [.slice none 0 0]⟩),
  (60, ⟨.slice 22, 1, 24, [.slice none 0 0]⟩),
  (28, ⟨.slice 33, 1, 24, [.slice none 0 0]⟩),
  (80, ⟨.strct [(0, 40),
  (1, 3)], 2, 32, [.slice none 0 0, .int .i64 0]⟩),
  (33, ⟨.strct [(0, 22),
  (1, 3)], 2, 32, [.slice none 0 0, .int .i64 0]⟩),
  (69, ⟨.strct [(0, 57),
  (1, 60),
  (2, 25)], 3, 56, [.slice none 0 0, .slice none 0 0, .int .u64 0]⟩),
  (39, ⟨.slice 46, 1, 24, [.slice none 0 0]⟩),
  (104, ⟨.slice 102, 1, 24, [.slice none 0 0]⟩),
  (38, ⟨.slice 86, 1, 24, [.slice none 0 0]⟩),
  (49, ⟨.strct [(0, 46),
  (4, 47),
  (5, 29)], 6, 96, [.bool false, .slice none 0 0, .bool false, .slice none 0 0, .slice none 0 0, .int .i64 0]⟩),
  (157, ⟨.int .u64, 1, 8, [.int .u64 0]⟩),
  (29, ⟨.int .i64, 1, 8, [.int .i64 0]⟩),
  (230, ⟨.int .u64, 1, 8, [.int .u64 0]⟩),
  (183, ⟨.strct [(0, 57),
  (1, 57)], 2, 48, [.slice none 0 0, .slice none 0 0]⟩),
  (86, ⟨.int .i8, 1, 1, [.int .i8 0]⟩),
  (125, ⟨.strct [(0, 22),
  (1, 22)], 2, 48, [.slice none 0 0, .slice none 0 0]⟩),
  (116, ⟨.slice 40, 1, 24, [.slice none 0 0]⟩),
  (5, ⟨.int .u8, 1, 1, [.int .u8 0]⟩),
  (149, ⟨.arr 4 25, 4, 32, [.int .u64 0, .int .u64 0, .int .u64 0, .int .u64 0]⟩),
  (113, ⟨.other, 1, 8, [.nilFunc]⟩),
  (161, ⟨.other, 1, 8, [.nilFunc]⟩),
  (92, ⟨.other, 1, 8, [.nilFunc]⟩),
  (130, ⟨.other, 1, 8, [.nilFunc]⟩),
  (110, ⟨.other, 1, 8, [.nilFunc]⟩),
  (269, ⟨.other, 1, 16, [.nilIface]⟩),
  (237, ⟨.other, 1, 8, [.nilFunc]⟩)]
noncomputable abbrev T : Tab := tabOf tbl
theorem hT : TabOK Tryz.prog T := tabOf_eq (by kernel_rfl)
theorem hmix : Tryz.prog.follows .mixedOrders = true := by kernel_rfl
end Go.Am

set_option linter.unusedVariables false
namespace Go.Am

/-! ### Words of natural numbers -/
def val : List Nat → Nat
  | [] => 0
  | d :: r => d + 4294967296 * val r
def digF : Nat → Nat → List Nat
  | 0, _ => []
  | f + 1, n => if n = 0 then [] else n % 4294967296 :: digF f (n / 4294967296)
def digs (n : Nat) : List Nat := digF n n
def WB (l : List Nat) : Prop := ∀ d ∈ l, d < 4294967296
def trimL (l : List Nat) : List Nat := (l.reverse.dropWhile (· == 0)).reverse

theorem WB.nil : WB [] := fun d h => by cases h
theorem WB.cons {d : Nat} {l : List Nat} (h : d < 4294967296) (hl : WB l) : WB (d :: l) := fun x hx => by
  rcases List.mem_cons.1 hx with rfl | hx
  · exact h
  · exact hl x hx
theorem WB.append {a b : List Nat} (h : WB a) (g : WB b) : WB (a ++ b) := fun x hx => (List.mem_append.1 hx).elim (h x) (g x)
theorem WB.take {a : List Nat} (h : WB a) (n : Nat) : WB (a.take n) := fun x hx => h x (List.mem_of_mem_take hx)
theorem WB.get {l : List Nat} (h : WB l) {i : Nat} (hi : i < l.length) : l[i] < 4294967296 := h _ (List.getElem_mem hi)
theorem trimL_snoc0 (l : List Nat) : trimL (l ++ [0]) = trimL l := by simp [trimL]
theorem trimL_snoc (l : List Nat) (x : Nat) (h : x ≠ 0) : trimL (l ++ [x]) = l ++ [x] := by simp [trimL, h]
theorem trimL_nil : trimL [] = [] := rfl
theorem val_append (a b : List Nat) : val (a ++ b) = val a + 4294967296 ^ a.length * val b := by
  induction a with
  | nil => simp [val]
  | cons d r ih =>
    simp only [List.cons_append, val, ih, List.length_cons, Nat.pow_succ]
    rw [Nat.mul_add, Nat.add_assoc, Nat.mul_comm (4294967296 ^ r.length) 4294967296, Nat.mul_assoc]
theorem val_snoc (a : List Nat) (x : Nat) : val (a ++ [x]) = val a + 4294967296 ^ a.length * x := by
  rw [val_append]; simp [val]
theorem val_lt {l : List Nat} (h : WB l) : val l < 4294967296 ^ l.length := by
  induction l with
  | nil => simp [val]
  | cons d r ih =>
    have h1 := h d List.mem_cons_self
    have h2 := ih fun x hx => h x (List.mem_cons_of_mem _ hx)
    simp only [val, List.length_cons, Nat.pow_succ]
    have : 4294967296 * (val r + 1) ≤ 4294967296 * 4294967296 ^ r.length := Nat.mul_le_mul_left _ h2
    rw [Nat.mul_comm (4294967296 ^ r.length)]
    omega
/-- A property by the end of the list. -/
theorem snoc_ind {p : List Nat → Prop} (h0 : p []) (h1 : ∀ l x, p l → p (l ++ [x])) (l : List Nat) : p l := by
  have : ∀ r : List Nat, p r.reverse := by
    intro r
    induction r with
    | nil => exact h0
    | cons x r ih => rw [List.reverse_cons]; exact h1 _ _ ih
  have := this l.reverse
  rwa [List.reverse_reverse] at this
theorem val_trim (l : List Nat) : val (trimL l) = val l := by
  induction l using snoc_ind with
  | h0 => rfl
  | h1 l x ih =>
    by_cases hx : x = 0
    · subst hx; rw [trimL_snoc0, val_snoc, ih]; simp
    · rw [trimL_snoc _ _ hx]
theorem trimL_pre (l : List Nat) : ∃ n, n ≤ l.length ∧ trimL l = l.take n := by
  induction l using snoc_ind with
  | h0 => exact ⟨0, Nat.le_refl _, rfl⟩
  | h1 l x ih =>
    by_cases hx : x = 0
    · subst hx
      obtain ⟨n, h1, h2⟩ := ih
      exact ⟨n, by simp; omega, by rw [trimL_snoc0, h2, List.take_append_of_le_length h1]⟩
    · exact ⟨l.length + 1, by simp, by rw [trimL_snoc _ _ hx]; exact (List.take_of_length_le (by simp)).symm⟩
theorem WB.trim {l : List Nat} (h : WB l) : WB (trimL l) := by
  obtain ⟨n, _, e⟩ := trimL_pre l
  rw [e]; exact h.take n
theorem trimL_len (l : List Nat) : (trimL l).length ≤ l.length := by
  obtain ⟨n, h, e⟩ := trimL_pre l
  rw [e]; simp; omega
theorem trimL_trim (l : List Nat) : trimL (trimL l) = trimL l := by
  induction l using snoc_ind with
  | h0 => rfl
  | h1 l x ih =>
    by_cases hx : x = 0
    · subst hx; rw [trimL_snoc0, ih]
    · rw [trimL_snoc _ _ hx, trimL_snoc _ _ hx]
theorem trimL_cons {d : Nat} {r : List Nat} : trimL (d :: r) = if trimL r = [] ∧ d = 0 then [] else d :: trimL r := by
  induction r using snoc_ind with
  | h0 => by_cases h : d = 0 <;> simp [trimL, h]
  | h1 r x ih =>
    rw [← List.cons_append]
    by_cases hx : x = 0
    · subst hx; rw [trimL_snoc0, trimL_snoc0, ih]
    · rw [trimL_snoc _ _ hx, trimL_snoc _ _ hx]; simp
/-- Trimmed words are the number's. -/
theorem trim_digF : ∀ (f n : Nat) (l : List Nat), WB l → trimL l = l → val l = n → n ≤ f → digF f n = l := by
  intro f
  induction f with
  | zero =>
    intro n l hl ht hv hn
    have hn0 : n = 0 := Nat.le_zero.1 hn
    subst hn0
    cases l with
    | nil => rfl
    | cons d r =>
      exfalso
      simp only [val] at hv
      have hd : d = 0 := by omega
      have hr : val r = 0 := by omega
      rw [trimL_cons] at ht
      split at ht
      · cases ht
      · rename_i hne
        have hr2 : trimL r = r := by simpa using ht
        have : ∀ r : List Nat, val r = 0 → trimL r = [] := by
          intro r
          induction r with
          | nil => intro _; rfl
          | cons x r ih =>
            intro h
            simp only [val] at h
            rw [trimL_cons, if_pos ⟨ih (by omega), by omega⟩]
        exact hne ⟨this r hr, hd⟩
  | succ f ih =>
    intro n l hl ht hv hn
    have zero : ∀ r : List Nat, val r = 0 → trimL r = [] := by
      intro r
      induction r with
      | nil => intro _; rfl
      | cons x r ih =>
        intro h
        simp only [val] at h
        rw [trimL_cons, if_pos ⟨ih (by omega), by omega⟩]
    simp only [digF]
    by_cases h0 : n = 0
    · rw [if_pos h0, ← ht, zero l (by omega)]
    · rw [if_neg h0]
      cases l with
      | nil => simp [val] at hv; omega
      | cons d r =>
        simp only [val] at hv
        have hd := hl d List.mem_cons_self
        have e1 : n % 4294967296 = d := by omega
        have e2 : n / 4294967296 = val r := by omega
        rw [e1, e2]
        congr 1
        rw [trimL_cons] at ht
        split at ht
        · cases ht
        · exact ih _ r (fun x hx => hl x (List.mem_cons_of_mem _ hx)) (by simpa using ht) rfl (by omega)
theorem digs_of {l : List Nat} (hl : WB l) : trimL l = digs (val l) :=
  (trim_digF _ _ (trimL l) hl.trim (trimL_trim l) (val_trim l) (Nat.le_refl _)).symm
theorem digF_spec : ∀ (f n : Nat), n ≤ f → WB (digF f n) ∧ val (digF f n) = n := by
  intro f
  induction f with
  | zero => intro n h; exact ⟨WB.nil, by simp [digF, val]; omega⟩
  | succ f ih =>
    intro n h
    simp only [digF]
    by_cases h0 : n = 0
    · rw [if_pos h0]; exact ⟨WB.nil, by simp [val, h0]⟩
    · rw [if_neg h0]
      obtain ⟨h1, h2⟩ := ih (n / 4294967296) (by omega)
      exact ⟨WB.cons (by omega) h1, by simp only [val, h2]; omega⟩
theorem WB.digs (n : Nat) : WB (digs n) := (digF_spec n n (Nat.le_refl _)).1
theorem val_digs (n : Nat) : val (digs n) = n := (digF_spec n n (Nat.le_refl _)).2
theorem trim_digs (n : Nat) : trimL (digs n) = digs n := by rw [digs_of (WB.digs n), val_digs]
theorem val_take_succ (l : List Nat) (i : Nat) : val (l.take (i + 1)) = val (l.take i) + 4294967296 ^ i * l.getD i 0 := by
  by_cases h : i < l.length
  · rw [List.take_succ_eq_append_getElem h, val_snoc, List.length_take, Nat.min_eq_left (by omega)]
    simp [h]
  · rw [List.take_of_length_le (by omega), List.take_of_length_le (by omega)]
    simp [Nat.le_of_not_lt h]
theorem take_set_succ (l : List Nat) (i d : Nat) (h : i < l.length) : (l.set i d).take (i + 1) = l.take i ++ [d] := by
  rw [List.take_succ_eq_append_getElem (by simpa using h), List.getElem_set_self, List.take_set_of_le (Nat.le_refl _)]
theorem WB.set {l : List Nat} (h : WB l) (i : Nat) {d : Nat} (hd : d < 4294967296) : WB (l.set i d) := fun x hx => by
  rcases List.mem_or_eq_of_mem_set hx with q | rfl
  · exact h x q
  · exact hd
theorem WB.getD {l : List Nat} (h : WB l) (i : Nat) : l.getD i 0 < 4294967296 := by
  by_cases hi : i < l.length
  · simpa [hi] using h.get hi
  · simp [Nat.le_of_not_lt hi]
theorem digs_inj {m n : Nat} (h : digs m = digs n) : m = n := by rw [← val_digs m, h, val_digs]
theorem trimL_last {l : List Nat} (h : trimL l = l) (h0 : l ≠ []) : 4294967296 ^ (l.length - 1) ≤ val l := by
  induction l using snoc_ind with
  | h0 => exact absurd rfl h0
  | h1 l x ih =>
    by_cases hx : x = 0
    · subst hx
      rw [trimL_snoc0] at h
      have := congrArg List.length h
      have := trimL_len l
      simp at *
      omega
    · rw [val_snoc]
      simp only [List.length_append, List.length_singleton, Nat.add_sub_cancel]
      exact Nat.le_trans (Nat.le_mul_of_pos_right _ (Nat.pos_of_ne_zero hx)) (Nat.le_add_left _ _)
theorem digs_len_lt {m n : Nat} (h : (digs m).length < (digs n).length) : m < n := by
  have h1 := val_lt (WB.digs m)
  have h2 := trimL_last (trim_digs n) (fun e => by rw [e] at h; simp at h)
  rw [val_digs] at h1 h2
  exact Nat.lt_of_lt_of_le h1 (Nat.le_trans (Nat.pow_le_pow_right (by omega) (by omega)) h2)
theorem digs_len_mono {m n : Nat} (h : m ≤ n) : (digs m).length ≤ (digs n).length := by
  rcases Nat.lt_or_ge (digs n).length (digs m).length with q | q
  · have := digs_len_lt q; omega
  · exact q
theorem val_split (l : List Nat) (k : Nat) (h : k < l.length) : val l = val (l.take k) + 4294967296 ^ k * l[k] + 4294967296 ^ (k + 1) * val (l.drop (k + 1)) := by
  have h1 : val (l.take (k + 1) ++ l.drop (k + 1)) = val l := by rw [List.take_append_drop]
  have h2 : val (l.take (k + 1)) = val (l.take k) + 4294967296 ^ k * l[k] := by
    rw [List.take_succ_eq_append_getElem h, val_snoc, List.length_take, Nat.min_eq_left (by omega)]
  rw [← h1, val_append, h2, List.length_take, Nat.min_eq_left (by omega)]
theorem val_cmp {a b : List Nat} (ha : WB a) (hb : WB b) (k : Nat) (h1 : k < a.length) (h2 : k < b.length) (hd : a.drop (k + 1) = b.drop (k + 1)) (hlt : a[k] < b[k]) : val a < val b := by
  rw [val_split a k h1, val_split b k h2, hd]
  have := val_lt (ha.take k)
  rw [List.length_take, Nat.min_eq_left (by omega)] at this
  have h3 : 4294967296 ^ k * (a[k] + 1) ≤ 4294967296 ^ k * b[k] := Nat.mul_le_mul_left _ hlt
  rw [Nat.mul_add] at h3
  omega
theorem val_set (l : List Nat) (j d : Nat) (h : j < l.length) : val (l.set j d) + 4294967296 ^ j * l[j] = val l + 4294967296 ^ j * d := by
  rw [val_split l j h, val_split (l.set j d) j (by simpa using h), List.getElem_set_self, List.take_set_of_le (Nat.le_refl _), List.drop_set_of_lt (by omega)]
  omega
theorem val_set_take (l : List Nat) (j d n : Nat) (h : j < l.length) (hn : j < n) : val ((l.set j d).take n) + 4294967296 ^ j * l[j] = val (l.take n) + 4294967296 ^ j * d := by
  have := val_set (l.take n) j d (by rw [List.length_take]; omega)
  rw [List.getElem_take] at this
  rw [List.take_set]
  exact this
theorem val_zeros (n : Nat) : val (List.replicate n 0) = 0 := by
  induction n with
  | zero => rfl
  | succ n ih => simp [List.replicate_succ, val, ih]
theorem WB.zeros (n : Nat) : WB (List.replicate n 0) := fun d hd => by rw [List.eq_of_mem_replicate hd]; omega
end Go.Am

set_option linter.unusedVariables false
namespace Go.Am
open Go Go.Proofs
noncomputable abbrev EV (S : List Nat) : Env := ⟨T, anyCall Tryz.prog, S, SCall Tryz.prog, ICall Tryz.prog, true⟩
theorem hE (S : List Nat) : EnvOK Tryz.prog (EV S) := ⟨hT, anyCall_ok _, fun _ _ _ _ h => h, fun _ _ _ h => h, hmix⟩
def wl (l : List Nat) : List (List PV) := l.map fun (d : Nat) => [.val (.int .u32 (d : Int))]
theorem wl_get {l : List Nat} {i : Nat} (h : i < l.length) : (wl l)[i]? = some [.val (.int .u32 (l[i] : Nat))] := by simp [wl, h]
theorem wl_len (l : List Nat) : (wl l).length = l.length := by simp [wl]
theorem wl_take (l : List Nat) (n : Nat) : (wl l).take n = wl (l.take n) := by simp [wl, List.map_take]
theorem wl_set (l : List Nat) (i d : Nat) : (wl l).set i [.val (.int .u32 (d : Nat))] = wl (l.set i d) := by simp [wl, List.map_set]
theorem wl_rep (n : Nat) : List.replicate n [PV.val (.int .u32 0)] = wl (List.replicate n 0) := by simp [wl]
theorem wl_app (a b : List Nat) : wl a ++ wl b = wl (a ++ b) := by simp [wl]
theorem wl_one (l : List Nat) : ∀ e ∈ wl l, e.length = 1 := by
  intro e he
  simp only [wl, List.mem_map] at he
  obtain ⟨d, _, rfl⟩ := he
  rfl
theorem wu64 {n : Int} (h0 : 0 ≤ n) (h1 : n < 18446744073709551616) : IntKind.wrap .u64 n = n := by
  simp [IntKind.wrap, IntKind.bits, IntKind.signed]; omega
theorem wu32 {n : Int} (h0 : 0 ≤ n) (h1 : n < 4294967296) : IntKind.wrap .u32 n = n := by
  simp [IntKind.wrap, IntKind.bits, IntKind.signed]; omega
theorem wi64 {n : Int} (h0 : -9223372036854775808 ≤ n) (h1 : n < 9223372036854775808) : IntKind.wrap .i64 n = n := by
  simp [IntKind.wrap, IntKind.bits, IntKind.signed]; omega
theorem vi {k : IntKind} {a b : Int} (h : a = b) : PV.val (.int k a) = PV.val (.int k b) := by rw [h]
abbrev iI (n : Int) : AV := .p (.val (.int .i64 n))
abbrev iU (n : Int) : AV := .p (.val (.int .u64 n))
abbrev iW (n : Int) : AV := .p (.val (.int .u32 n))
abbrev nI (n : Int) : PV := .val (.int .i64 n)
abbrev nU (n : Int) : PV := .val (.int .u64 n)
abbrev nW (n : Int) : PV := .val (.int .u32 n)
theorem wl_set' {l : List Nat} {i x : Int} {k v : Nat} (e1 : i = k) (e2 : x = v) : (wl l).set i.toNat [.val (.int .u32 x)] = wl (l.set k v) := by
  subst e1; subst e2; exact wl_set l k v
theorem u64_div {a b : Nat} (h : a < 18446744073709551616) : IntKind.wrap .u64 (Int.tdiv (a : Int) (b : Int)) = ((a / b : Nat) : Int) := by
  have h1 : a / b ≤ a := Nat.div_le_self a b
  rw [Int.tdiv_eq_ediv_of_nonneg (by omega), ← Int.natCast_ediv]
  generalize a / b = q at *
  exact wu64 (by omega) (by omega)
theorem u64_mod {a b : Nat} (h : a < 18446744073709551616) : IntKind.wrap .u64 (Int.tmod (a : Int) (b : Int)) = ((a % b : Nat) : Int) := by
  have h1 : a % b ≤ a := Nat.mod_le a b
  rw [Int.tmod_eq_emod_of_nonneg (by omega), ← Int.natCast_emod]
  generalize a % b = q at *
  exact wu64 (by omega) (by omega)
theorem mod_nn {a b : Nat} : Int.tmod (a : Int) (b : Int) = ((a % b : Nat) : Int) := by
  rw [Int.tmod_eq_emod_of_nonneg (by omega), ← Int.natCast_emod]
theorem div_nn {a b : Nat} : Int.tdiv (a : Int) (b : Int) = ((a / b : Nat) : Int) := by
  rw [Int.tdiv_eq_ediv_of_nonneg (by omega), ← Int.natCast_ediv]
theorem u32_nn {a : Nat} (h : a < 4294967296) : IntKind.wrap .u32 (a : Int) = (a : Int) := wu32 (by omega) (by omega)
theorem u64_nn {a : Nat} (h : a < 18446744073709551616) : IntKind.wrap .u64 (a : Int) = (a : Int) := wu64 (by omega) (by omega)
/-- The state written otherwise. -/
theorem atS {R : (Exit → ASt → Prop) → ASt → Prop} {K : Exit → ASt → Prop} {s s' : ASt} (h : s = s') (g : R K s') : R K s := h ▸ g
theorem lock {p : Prop} (h : p) : p := h
def cnd (b : Bool) (A B : Prop) : Prop := match b with
  | true => A
  | false => B
theorem if_of {p : Prop} [Decidable p] {A B : Prop} (h1 : p → A) (h0 : ¬ p → B) : cnd (decide p) A B := by
  by_cases h : p
  · rw [decide_eq_true h]; exact h1 h
  · rw [decide_eq_false h]; exact h0 h
theorem ifb_of {b : Bool} {A B : Prop} (h1 : b = true → A) (h0 : b = false → B) : cnd b A B := by
  cases b with
  | true => exact h1 rfl
  | false => exact h0 rfl
theorem wl_at {l : List Nat} {i : Int} (n : Nat) (e : i = n) (h : n < l.length) : (wl l)[i.toNat]? = some [.val (.int .u32 (l[n] : Nat))] := by
  subst e; exact wl_get h
/-- 64-bit words as rows. -/
def ul (l : List Nat) : List (List PV) := l.map fun (d : Nat) => [.val (.int .u64 (d : Int))]
theorem ul_get {l : List Nat} {i : Nat} (h : i < l.length) : (ul l)[i]? = some [.val (.int .u64 (l[i] : Nat))] := by simp [ul, h]
theorem ul_len (l : List Nat) : (ul l).length = l.length := by simp [ul]
theorem ul_at {l : List Nat} {i : Int} (n : Nat) (e : i = n) (h : n < l.length) : (ul l)[i.toNat]? = some [.val (.int .u64 (l[n] : Nat))] := by
  subst e; exact ul_get h
theorem ul_take (l : List Nat) (n : Nat) : (ul l).take n = ul (l.take n) := by simp [ul, List.map_take]
theorem ul_set (l : List Nat) (i d : Nat) : (ul l).set i [.val (.int .u64 (d : Nat))] = ul (l.set i d) := by simp [ul, List.map_set]
theorem ul_rep (n : Nat) : List.replicate n [PV.val (.int .u64 0)] = ul (List.replicate n 0) := by simp [ul]
theorem ul_app (a b : List Nat) : ul a ++ ul b = ul (a ++ b) := by simp [ul]
end Go.Am

set_option linter.unusedVariables false
namespace Go.Am
open Go Go.Proofs
set_option maxRecDepth 100000
theorem word_call (l : List Nat) (hl : WB l) (i : Nat) : ACall Tryz.prog 177 [.sl (wl l), nI i] [.p (nU (l.getD i 0 : Nat))] := by
  refine acall_of_awp (hE []) Tryz.func177 rfl (by kernel_rfl) [] ?_
  conv => whnf
  by_cases h : i < l.length
  · rw [decide_eq_true (show ((i : Nat) : Int) < ((wl l).length : Nat) by rw [wl_len]; omega)]
    conv => whnf
    rw [show (wl l)[(i : Int).toNat]? = _ from wl_get h]
    conv => whnf
    refine ⟨.inl (vi ?_), ?_⟩
    · have := hl.get h
      rw [wu64 (by omega) (by omega)]; simp [h]
    · conv => whnf
      trivial
  · rw [decide_eq_false (show ¬ ((i : Nat) : Int) < ((wl l).length : Nat) by rw [wl_len]; omega)]
    conv => whnf
    refine ⟨.inl (vi ?_), ?_⟩
    · simp [Nat.le_of_not_lt h]
    · conv => whnf
      trivial
theorem trim_call (l : List Nat) (hn : l.length < 4611686018427387904) : ACall Tryz.prog 176 [.sl (wl l)] [.p (.sl (wl (trimL l)))] := by
  refine acall_of_awp (hE []) Tryz.func176 rfl (by kernel_rfl) [] ?_
  conv => whnf
  refine ⟨Nat, fun n => n ≤ l.length ∧ trimL (l.take n) = trimL l, id, fun n => ⟨[.p (.sl (wl l)), .top, .top, iI n, .top, .top, .top, .top, .top, .top, .top, .top, .top, .top, .top, .top, .top, .top, .top, .top, .top], []⟩, [], l.length, ?_, ?_⟩
  · conv => whnf
    first | refine ⟨.inl rfl, ?_⟩ | refine ⟨rfl, ?_⟩
    conv => whnf
    refine ⟨.inl (vi (by rw [wl_len])), ?_⟩
    conv => whnf
    exact ⟨Nat.le_refl _, by simp⟩
  · rintro n ⟨h1, h2⟩
    conv => whnf
    cases n with
    | zero =>
      conv => whnf
      refine ⟨.inl ?_, ?_⟩
      · rw [← h2]; simp [trimL, wl]
      · conv => whnf
        trivial
    | succ n =>
      rw [decide_eq_true (show ((n + 1 : Nat) : Int) > 0 by omega)]
      conv => whnf
      rw [show IntKind.i64.wrap (((n + 1 : Nat) : Int) - 1) = (n : Int) by rw [wi64 (by omega) (by omega)]; omega]
      conv => whnf
      rw [show (wl l)[(n : Int).toNat]? = _ from wl_get (show n < l.length by omega)]
      conv => whnf
      have hs := List.take_succ_eq_append_getElem (show n < l.length by omega)
      by_cases h0 : l[n] = 0
      · rw [show (((l[n] : Nat) : Int) == 0) = true by simp [h0]]
        conv => whnf
        refine ⟨n, ?_⟩
        conv => whnf
        first | refine ⟨.inl rfl, ?_⟩ | refine ⟨rfl, ?_⟩
        conv => whnf
        refine ⟨.inl (vi (by rw [wi64 (by omega) (by omega)]; omega)), ?_⟩
        conv => whnf
        exact ⟨⟨by omega, by rw [← h2, hs, h0, trimL_snoc0]⟩, Nat.lt_succ_self n⟩
      · rw [show (((l[n] : Nat) : Int) == 0) = false by simpa using h0]
        conv => whnf
        refine chk_of (by rw [wl_len]; omega) ?_
        conv => whnf
        refine ⟨.inl ?_, ?_⟩
        · rw [show (((n + 1 : Nat) : Int)).toNat = n + 1 by omega, wl_take, ← h2, hs, trimL_snoc _ _ h0]
        · conv => whnf
          trivial
theorem added_call (a b : List Nat) (ha : WB a) (hb : WB b) (hla : a.length < 1099511627776) (hlb : b.length < 1099511627776) : ACall Tryz.prog 112 [.sl (wl a), .sl (wl b)] [.p (.sl (wl (digs (val a + val b))))] := by
  refine acall_of_awp (hE []) Tryz.func112 rfl (by kernel_rfl) [] ?_
  conv => whnf
  have hN : IntKind.i64.wrap ((if ((wl b).length : Int) > ((wl a).length : Int) then ((wl b).length : Int) else ((wl a).length : Int)) + 1) = ((max a.length b.length + 1 : Nat) : Int) := by
    rw [wl_len, wl_len]; split <;> (rw [wi64 (by omega) (by omega)]; omega)
  rw [hN]
  obtain ⟨N, hM⟩ : ∃ N, N = max a.length b.length + 1 := ⟨_, rfl⟩
  rw [← hM]
  conv => whnf
  refine chk_of rfl ?_
  conv => whnf
  refine chk_of (by show (4 : Int) * N ≤ 281474976710656; omega) ?_
  conv => whnf
  refine chk_of (by omega) ?_
  conv => whnf
  refine ⟨Nat × List Nat × Nat, fun x => x.1 ≤ N ∧ x.2.1.length = N ∧ WB x.2.1 ∧ x.2.2 ≤ 1 ∧ val (x.2.1.take x.1) + 4294967296 ^ x.1 * x.2.2 = val (a.take x.1) + val (b.take x.1), fun x => N - x.1,
    fun x => ⟨[.p (.sl (wl a)), .p (.sl (wl b)), .top, .top, .top, iI N, .own 0 1 N, iU x.2.2, iI x.1, .top, .top, .top, .top, .top, .top, .top, .top, .top, .top, .top, .top, .top, .top, .top, .top, .top, .top, .top, .top, .top, .top, .top, .top, .top, .top, .top, .top, .top, .top, .top, .top, .top], [some (.row 1 (wl x.2.1) true)]⟩, [], (0, List.replicate N 0, 0), ?_, ?_⟩
  · conv => whnf
    repeat ((first | refine ⟨.inl rfl, ?_⟩ | refine ⟨rfl, ?_⟩); conv => whnf)
    refine ⟨.inl (by simpa using wl_rep N), ?_⟩
    conv => whnf
    refine ⟨Nat.zero_le _, by simp, fun d hd => by rw [List.eq_of_mem_replicate hd]; omega, by simp, by simp [val]⟩
  · rintro ⟨i, l, c⟩ ⟨h1, h2, h3, h4, h5⟩
    simp only at h1 h2 h3 h4 h5
    refine atS (s' := ⟨[.p (.sl (wl a)), .p (.sl (wl b)), .top, .top, .top, iI N, .own 0 1 N, iU c, iI i, .top, .top, .top, .top, .top, .top, .top, .top, .top, .top, .top, .top, .top, .top, .top, .top, .top, .top, .top, .top, .top, .top, .top, .top, .top, .top, .top, .top, .top, .top, .top, .top, .top], [some (.row 1 (wl l) true)]⟩) rfl ?_
    conv => whnf
    by_cases hi : i < N
    · rw [decide_eq_true (show (i : Int) < N by omega)]
      conv => whnf
      refine ⟨_, word_call a ha i, ?_⟩
      conv => whnf
      refine ⟨_, word_call b hb i, ?_⟩
      conv => whnf
      have wa := ha.getD i
      have wb := hb.getD i
      generalize hx : a.getD i 0 = x at wa ⊢
      generalize hy : b.getD i 0 = y at wb ⊢
      refine chk_of (by omega) ?_
      conv => whnf
      refine chk_of (by rw [wl_len]; omega) ?_
      conv => whnf
      have t1 : IntKind.wrap .u64 (IntKind.wrap .u64 ((x : Int) + y) + c) = ((x + y + c : Nat) : Int) := by
        rw [wu64 (n := (x : Int) + y) (by omega) (by omega), wu64 (by omega) (by omega)]; omega
      refine ⟨(i + 1, l.set i ((x + y + c) % 4294967296), (x + y + c) / 4294967296), ?_⟩
      conv => whnf
      repeat ((first | refine ⟨.inl rfl, ?_⟩ | refine ⟨rfl, ?_⟩); conv => whnf)
      rw [t1]
      refine ⟨.inl (vi ?_), ?_⟩
      · show IntKind.wrap .u64 (Int.tdiv ((x + y + c : Nat) : Int) 4294967296) = (((x + y + c) / 4294967296 : Nat) : Int)
        rw [Int.tdiv_eq_ediv_of_nonneg (by omega), wu64 (by omega) (by omega)]; omega
      conv => whnf
      refine ⟨.inl (vi (by rw [wi64 (by omega) (by omega)]; rfl)), ?_⟩
      conv => whnf
      refine ⟨.inl ?_, ?_⟩
      · show (wl l).set (i : Int).toNat [nW (IntKind.wrap .u32 (Int.tmod ((x + y + c : Nat) : Int) 4294967296))] = wl (l.set i ((x + y + c) % 4294967296))
        rw [Int.tmod_eq_emod_of_nonneg (by omega), wu32 (by omega) (by omega), show ((x + y + c : Nat) : Int) % 4294967296 = (((x + y + c) % 4294967296 : Nat) : Int) by omega]
        exact wl_set l i _
      conv => whnf
      refine ⟨⟨by omega, by simp [h2], h3.set i (Nat.mod_lt _ (by omega)), by show (x + y + c) / 4294967296 ≤ 1; omega, ?_⟩, by simp only; omega⟩
      simp only
      rw [take_set_succ l i _ (by omega), val_snoc, List.length_take, Nat.min_eq_left (by omega), val_take_succ a i, val_take_succ b i, hx, hy, Nat.pow_succ]
      have := Nat.div_add_mod (x + y + c) 4294967296
      have e : 4294967296 ^ i * ((x + y + c) % 4294967296) + 4294967296 ^ i * 4294967296 * ((x + y + c) / 4294967296) = 4294967296 ^ i * (x + y + c) := by
        rw [Nat.mul_assoc, ← Nat.mul_add]; congr 1; omega
      rw [Nat.add_assoc, e, Nat.mul_add, Nat.mul_add]
      omega
    · rw [decide_eq_false (show ¬ (i : Int) < N by omega)]
      conv => whnf
      refine ⟨_, trim_call l (by omega), ?_⟩
      conv => whnf
      refine ⟨.inl ?_, trivial⟩
      have hiN : i = N := by omega
      subst hiN
      have e1 : a.take i = a := List.take_of_length_le (by omega)
      have e2 : b.take i = b := List.take_of_length_le (by omega)
      have e3 : l.take i = l := List.take_of_length_le (by omega)
      rw [e1, e2, e3] at h5
      have va := val_lt ha
      have vb := val_lt hb
      have pa : 4294967296 ^ a.length ≤ 4294967296 ^ (i - 1) := Nat.pow_le_pow_right (by omega) (by omega)
      have pb : 4294967296 ^ b.length ≤ 4294967296 ^ (i - 1) := Nat.pow_le_pow_right (by omega) (by omega)
      have pi : 4294967296 ^ i = 4294967296 ^ (i - 1) * 4294967296 := by rw [← Nat.pow_succ]; congr 1; omega
      have hc : c = 0 := by
        rcases Nat.lt_or_ge 0 c with h | h
        · have : c = 1 := by omega
          subst this
          omega
        · omega
      subst hc
      rw [digs_of h3, show val l = val a + val b by omega]
end Go.Am

set_option linter.unusedVariables false
namespace Go.Am
open Go Go.Proofs
set_option maxRecDepth 100000
def intC (z : Int) : List PV := [.val (.bool (decide (z < 0))), .sl (wl (digs z.natAbs))]
theorem digs_zero : digs 0 = [] := rfl
theorem digs_nil {n : Nat} : digs n = [] ↔ n = 0 := by
  constructor
  · intro h
    have := val_digs n
    rw [h] at this
    exact this.symm
  · rintro rfl; rfl
theorem digs_pos {n : Nat} (h : n ≠ 0) : 0 < (digs n).length := by
  rcases Nat.eq_zero_or_pos (digs n).length with h0 | h0
  · exact absurd (digs_nil.1 (List.eq_nil_of_length_eq_zero h0)) h
  · exact h0
theorem trim_call' (l : List Nat) (hl : WB l) (hn : l.length < 4611686018427387904) : ACall Tryz.prog 176 [.sl (wl l)] [.p (.sl (wl (digs (val l))))] := by
  rw [← digs_of hl]; exact trim_call l hn
theorem made_call (neg : Bool) (l : List Nat) (hl : WB l) (hn : l.length < 1099511627776) : ACall Tryz.prog 111 [.val (.bool neg), .sl (wl l)] [.p (.agg (intC (if neg then -(val l : Int) else val l)))] := by
  refine acall_of_awp (hE []) Tryz.func111 rfl (by kernel_rfl) [] ?_
  cases neg with
  | false =>
    conv => whnf
    refine ⟨_, trim_call' l hl (by omega), ?_⟩
    conv => whnf
    refine ⟨.inl ?_, trivial⟩
    simp [intC]
  | true =>
    conv => whnf
    refine ⟨_, trim_call' l hl (by omega), ?_⟩
    conv => whnf
    refine ⟨.inl ?_, trivial⟩
    by_cases h0 : val l = 0
    · simp [intC, h0, digs_zero, wl]
    · have := digs_pos h0
      simp [intC, wl_len]
      omega
theorem words_call (n : Nat) (hn : n < 18446744073709551616) : ACall Tryz.prog 116 [nU n] [.p (.sl (wl (digs n)))] := by
  refine acall_of_awp (hE []) Tryz.func116 rfl (by kernel_rfl) [] ?_
  conv => whnf
  have e1 : IntKind.wrap .u32 (Int.tmod (n : Int) 4294967296) = ((n % 4294967296 : Nat) : Int) := by
    rw [Int.tmod_eq_emod_of_nonneg (by omega), wu32 (by omega) (by omega)]; omega
  have e2 : IntKind.wrap .u32 (IntKind.wrap .u64 (Int.tdiv (n : Int) 4294967296)) = ((n / 4294967296 : Nat) : Int) := by
    rw [Int.tdiv_eq_ediv_of_nonneg (by omega), wu64 (by omega) (by omega), wu32 (by omega) (by omega)]; omega
  have hw : WB [n % 4294967296, n / 4294967296] := WB.cons (by omega) (WB.cons (by omega) WB.nil)
  have hv : val [n % 4294967296, n / 4294967296] = n := by simp only [val]; omega
  have ht := trim_call' _ hw (by simp)
  rw [hv] at ht
  refine ⟨[.p (.sl (wl (digs n)))], ?_, ?_⟩
  · show ACall Tryz.prog 176 [.sl [[nW (IntKind.wrap .u32 (Int.tmod (n : Int) 4294967296))], [nW (IntKind.wrap .u32 (IntKind.wrap .u64 (Int.tdiv (n : Int) 4294967296)))]]] [.p (.sl (wl (digs n)))]
    rw [e1, e2]; exact ht
  conv => whnf
  exact ⟨.inl rfl, trivial⟩
theorem number_call (l : List Nat) (hl : WB l) : ACall Tryz.prog 219 [.sl (wl l)] [.p (nU (l.getD 1 0 * 4294967296 + l.getD 0 0 : Nat))] := by
  refine acall_of_awp (hE []) Tryz.func219 rfl (by kernel_rfl) [] ?_
  conv => whnf
  refine ⟨_, word_call l hl 1, ?_⟩
  conv => whnf
  refine ⟨_, word_call l hl 0, ?_⟩
  conv => whnf
  have h1 := hl.getD 1
  have h0 := hl.getD 0
  refine ⟨.inl (vi ?_), trivial⟩
  rw [wu64 (n := ((l.getD 1 0 : Nat) : Int) * 4294967296) (by omega) (by omega), wu64 (by omega) (by omega)]
  omega
end Go.Am

set_option linter.unusedVariables false
namespace Go.Am
open Go Go.Proofs
set_option maxRecDepth 100000
theorem taken_call (a b : List Nat) (ha : WB a) (hb : WB b) (hla : a.length < 1099511627776) (hlb : b.length ≤ a.length) (hle : val b ≤ val a) : ACall Tryz.prog 114 [.sl (wl a), .sl (wl b)] [.p (.sl (wl (digs (val a - val b))))] := by
  refine acall_of_awp (hE []) Tryz.func114 rfl (by kernel_rfl) [] ?_
  conv => whnf
  rw [wl_len]
  refine chk_of rfl ?_
  conv => whnf
  refine chk_of (by show (4 : Int) * (a.length : Nat) ≤ 281474976710656; omega) ?_
  conv => whnf
  refine chk_of (by omega) ?_
  conv => whnf
  obtain ⟨N, hN⟩ : ∃ N, N = a.length := ⟨_, rfl⟩
  refine ⟨Nat × List Nat × Nat, fun x => x.1 ≤ N ∧ x.2.1.length = N ∧ WB x.2.1 ∧ x.2.2 ≤ 1 ∧ val (x.2.1.take x.1) + val (b.take x.1) = val (a.take x.1) + 4294967296 ^ x.1 * x.2.2, fun x => N - x.1,
    fun x => ⟨[.p (.sl (wl a)), .p (.sl (wl b)), .top, .top, .top, .own 0 1 N, iU x.2.2, iI x.1, .top, .top, .top, .top, .top, .top, .top, .top, .top, .top, .top, .top, .top, .top, .top, .top, .top, .top, .top, .top, .top, .top, .top, .top, .top, .top, .top, .top, .top, .top, .top, .top, .top], [some (.row 1 (wl x.2.1) true)]⟩, [], (0, List.replicate N 0, 0), ?_, ?_⟩
  · conv => whnf
    repeat ((first | refine ⟨.inl rfl, ?_⟩ | refine ⟨rfl, ?_⟩); conv => whnf)
    refine ⟨by simp [hN], ?_⟩
    conv => whnf
    repeat ((first | refine ⟨.inl rfl, ?_⟩ | refine ⟨rfl, ?_⟩); conv => whnf)
    refine ⟨.inl (by rw [hN]; simpa using wl_rep a.length), ?_⟩
    conv => whnf
    refine ⟨Nat.zero_le _, by simp, fun d hd => by rw [List.eq_of_mem_replicate hd]; omega, by simp, by simp [val]⟩
  · rintro ⟨i, l, c⟩ ⟨h1, h2, h3, h4, h5⟩
    simp only at h1 h2 h3 h4 h5
    refine atS (s' := ⟨[.p (.sl (wl a)), .p (.sl (wl b)), .top, .top, .top, .own 0 1 N, iU c, iI i, .top, .top, .top, .top, .top, .top, .top, .top, .top, .top, .top, .top, .top, .top, .top, .top, .top, .top, .top, .top, .top, .top, .top, .top, .top, .top, .top, .top, .top, .top, .top, .top, .top], [some (.row 1 (wl l) true)]⟩) rfl ?_
    conv => whnf
    by_cases hi : i < N
    · rw [decide_eq_true (show (i : Int) < ((wl a).length : Nat) by rw [wl_len]; omega)]
      conv => whnf
      refine ⟨by kernel_rfl, ?_⟩
      conv => whnf
      rw [show (wl a)[(i : Int).toNat]? = _ from wl_get (show i < a.length by omega)]
      conv => whnf
      refine ⟨_, word_call b hb i, ?_⟩
      conv => whnf
      refine ⟨.inl (by kernel_rfl), ?_⟩
      conv => whnf
      have wa := ha.getD i
      have wb := hb.getD i
      have hx : a.getD i 0 = a[i]'(by omega) := by simp [show i < a.length by omega]
      rw [← hx]
      generalize hx' : a.getD i 0 = x at wa ⊢
      generalize hy : b.getD i 0 = y at wb ⊢
      refine chk_of (by omega) ?_
      conv => whnf
      refine chk_of (by rw [wl_len]; omega) ?_
      conv => whnf
      have t1 : IntKind.wrap .u64 (IntKind.wrap .u64 (IntKind.wrap .u64 (4294967296 + IntKind.wrap .u64 (x : Int)) - y) - c) = ((4294967296 + x - y - c : Nat) : Int) := by
        rw [wu64 (n := (x : Int)) (by omega) (by omega), wu64 (n := 4294967296 + (x : Int)) (by omega) (by omega), wu64 (n := 4294967296 + (x : Int) - y) (by omega) (by omega), wu64 (by omega) (by omega)]; omega
      obtain ⟨t, ht⟩ : ∃ t, t = 4294967296 + x - y - c := ⟨_, rfl⟩
      rw [← ht] at t1
      refine ⟨(i + 1, l.set i (t % 4294967296), 1 - t / 4294967296), ?_⟩
      conv => whnf
      repeat ((first | refine ⟨.inl rfl, ?_⟩ | refine ⟨rfl, ?_⟩); conv => whnf)
      rw [t1]
      refine ⟨.inl (vi ?_), ?_⟩
      · show IntKind.wrap .u64 (1 - IntKind.wrap .u64 (Int.tdiv (t : Int) 4294967296)) = ((1 - t / 4294967296 : Nat) : Int)
        rw [Int.tdiv_eq_ediv_of_nonneg (by omega), wu64 (n := (t : Int) / 4294967296) (by omega) (by omega), wu64 (by omega) (by omega)]; omega
      conv => whnf
      refine ⟨.inl (vi (by rw [wi64 (by omega) (by omega)]; rfl)), ?_⟩
      conv => whnf
      refine ⟨.inl ?_, ?_⟩
      · show (wl l).set (i : Int).toNat [nW (IntKind.wrap .u32 (Int.tmod (t : Int) 4294967296))] = wl (l.set i (t % 4294967296))
        rw [Int.tmod_eq_emod_of_nonneg (by omega), wu32 (by omega) (by omega), show (t : Int) % 4294967296 = ((t % 4294967296 : Nat) : Int) by omega]
        exact wl_set l i _
      conv => whnf
      refine ⟨⟨by omega, by simp [h2], h3.set i (Nat.mod_lt _ (by omega)), by show 1 - t / 4294967296 ≤ 1; omega, ?_⟩, by simp only; omega⟩
      simp only
      rw [take_set_succ l i _ (by omega), val_snoc, List.length_take, Nat.min_eq_left (by omega), val_take_succ a i, val_take_succ b i, hx', hy, Nat.pow_succ, Nat.mul_assoc]
      have k1 : t % 4294967296 + y + c = x + 4294967296 * (1 - t / 4294967296) := by omega
      have k2 := congrArg (fun z => 4294967296 ^ i * z) k1
      simp only [Nat.mul_add] at k2
      omega
    · rw [decide_eq_false (show ¬ (i : Int) < ((wl a).length : Nat) by rw [wl_len]; omega)]
      conv => whnf
      refine ⟨_, trim_call' l h3 (by omega), ?_⟩
      conv => whnf
      refine ⟨.inl ?_, trivial⟩
      have hiN : i = N := by omega
      subst hiN
      have e1 : a.take i = a := List.take_of_length_le (by omega)
      have e2 : b.take i = b := List.take_of_length_le (by omega)
      have e3 : l.take i = l := List.take_of_length_le (by omega)
      rw [e1, e2, e3] at h5
      have vl := val_lt h3
      rw [h2] at vl
      have hc : c = 0 := by
        rcases Nat.lt_or_ge 0 c with h | h
        · have : c = 1 := by omega
          subst this
          omega
        · omega
      subst hc
      rw [show val l = val a - val b by omega]
end Go.Am

set_option linter.unusedVariables false
namespace Go.Am
open Go Go.Proofs
set_option maxRecDepth 100000
def cmpN (m n : Nat) : Int := if m < n then -1 else if n < m then 1 else 0
theorem compared_call (m n : Nat) (hm : (digs m).length < 1099511627776) (hn : (digs n).length < 1099511627776) : ACall Tryz.prog 113 [.sl (wl (digs m)), .sl (wl (digs n))] [.p (nI (cmpN m n))] := by
  have wa := WB.digs m
  have wb := WB.digs n
  have va := val_digs m
  have vb := val_digs n
  have hin : digs m = digs n → m = n := digs_inj
  have hl1 : (digs m).length < (digs n).length → m < n := digs_len_lt
  have hl2 : (digs n).length < (digs m).length → n < m := digs_len_lt
  generalize digs m = a at *
  generalize digs n = b at *
  refine acall_of_awp (hE []) Tryz.func113 rfl (by kernel_rfl) [] ?_
  conv => whnf
  by_cases h1 : a.length < b.length
  · rw [decide_eq_true (show ((wl a).length : Int) < ((wl b).length : Nat) by rw [wl_len, wl_len]; omega)]
    conv => whnf
    refine ⟨.inl (vi ?_), trivial⟩
    have := hl1 h1
    simp [cmpN, this]
  rw [decide_eq_false (show ¬ ((wl a).length : Int) < ((wl b).length : Nat) by rw [wl_len, wl_len]; omega)]
  conv => whnf
  by_cases h2 : b.length < a.length
  · rw [decide_eq_true (show ((wl a).length : Int) > ((wl b).length : Nat) by rw [wl_len, wl_len]; omega)]
    conv => whnf
    refine ⟨.inl (vi ?_), trivial⟩
    have := hl2 h2
    simp [cmpN, this, show ¬ m < n by omega]
  rw [decide_eq_false (show ¬ ((wl a).length : Int) > ((wl b).length : Nat) by rw [wl_len, wl_len]; omega)]
  conv => whnf
  refine ⟨Nat, fun k => k ≤ a.length ∧ a.drop k = b.drop k, id, fun k => ⟨[.p (.sl (wl a)), .p (.sl (wl b)), .top, .top, .top, iI ((k : Int) - 1), .top, .top, .top, .top, .top, .top, .top, .top, .top, .top, .top, .top, .top, .top, .top, .top, .top, .top, .top, .top, .top, .top, .top, .top, .top, .top, .top, .top, .top, .top, .top, .top, .top, .top, .top], []⟩, [], a.length, ?_, ?_⟩
  · conv => whnf
    first | refine ⟨.inl rfl, ?_⟩ | refine ⟨rfl, ?_⟩
    conv => whnf
    first | refine ⟨.inl rfl, ?_⟩ | refine ⟨rfl, ?_⟩
    conv => whnf
    refine ⟨.inl (vi (by rw [wl_len, wi64 (by omega) (by omega)])), ?_⟩
    conv => whnf
    exact ⟨Nat.le_refl _, by rw [List.drop_of_length_le (by omega), List.drop_of_length_le (by omega)]⟩
  · rintro k ⟨h3, h4⟩
    conv => whnf
    cases k with
    | zero =>
      conv => whnf
      refine ⟨.inl (vi ?_), trivial⟩
      have := hin (by simpa using h4)
      simp [cmpN, this]
    | succ k =>
      rw [show ((k + 1 : Nat) : Int) - 1 = (k : Int) by omega]
      conv => whnf
      refine ⟨by kernel_rfl, ?_⟩
      conv => whnf
      rw [show (wl a)[(k : Int).toNat]? = _ from wl_get (show k < a.length by omega)]
      conv => whnf
      rw [show (wl b)[(k : Int).toNat]? = _ from wl_get (show k < b.length by omega)]
      conv => whnf
      refine ⟨.inl (by kernel_rfl), ?_⟩
      conv => whnf
      by_cases h5 : a[k] < b[k]
      · rw [decide_eq_true (show ((a[k] : Nat) : Int) < ((b[k] : Nat) : Int) by omega)]
        conv => whnf
        refine ⟨.inl (vi ?_), trivial⟩
        have := val_cmp wa wb k (by omega) (by omega) h4 h5
        simp [cmpN, show m < n by omega]
      rw [decide_eq_false (show ¬ ((a[k] : Nat) : Int) < ((b[k] : Nat) : Int) by omega)]
      conv => whnf
      refine ⟨by kernel_rfl, ?_⟩
      conv => whnf
      rw [show (wl a)[(k : Int).toNat]? = _ from wl_get (show k < a.length by omega)]
      conv => whnf
      rw [show (wl b)[(k : Int).toNat]? = _ from wl_get (show k < b.length by omega)]
      conv => whnf
      refine ⟨.inl (by kernel_rfl), ?_⟩
      conv => whnf
      by_cases h6 : b[k] < a[k]
      · rw [decide_eq_true (show ((a[k] : Nat) : Int) > ((b[k] : Nat) : Int) by omega)]
        conv => whnf
        refine ⟨.inl (vi ?_), trivial⟩
        have := val_cmp wb wa k (by omega) (by omega) h4.symm h6
        simp [cmpN, show ¬ m < n by omega, show n < m by omega]
      rw [decide_eq_false (show ¬ ((a[k] : Nat) : Int) > ((b[k] : Nat) : Int) by omega)]
      conv => whnf
      refine ⟨k, ?_⟩
      conv => whnf
      first | refine ⟨.inl rfl, ?_⟩ | refine ⟨rfl, ?_⟩
      conv => whnf
      first | refine ⟨.inl rfl, ?_⟩ | refine ⟨rfl, ?_⟩
      conv => whnf
      refine ⟨.inl (vi (by rw [wi64 (by omega) (by omega)])), ?_⟩
      conv => whnf
      refine ⟨⟨by omega, ?_⟩, Nat.lt_succ_self k⟩
      rw [List.drop_eq_getElem_cons (show k < a.length by omega), List.drop_eq_getElem_cons (show k < b.length by omega), h4, show a[k] = b[k] by omega]
end Go.Am

set_option linter.unusedVariables false
set_option linter.unusedSimpArgs false
namespace Go.Am
open Go Go.Proofs
set_option maxRecDepth 100000
set_option maxHeartbeats 400000
theorem times_call (a b : List Nat) (ha : WB a) (hb : WB b) (hla : a.length < 1099511627776) (hlb : b.length < 1099511627776) : ACall Tryz.prog 115 [.sl (wl a), .sl (wl b)] [.p (.sl (wl (digs (val a * val b))))] := by
  refine acall_of_awp (hE []) Tryz.func115 rfl (by kernel_rfl) [] ?_
  conv => whnf
  have hN : IntKind.i64.wrap (((wl a).length : Int) + ((wl b).length : Int)) = ((a.length + b.length : Nat) : Int) := by
    rw [wl_len, wl_len, wi64 (by omega) (by omega)]; omega
  rw [hN]
  obtain ⟨N, hM⟩ : ∃ N, N = a.length + b.length := ⟨_, rfl⟩
  rw [← hM]
  conv => whnf
  refine chk_of (rfl) ?_
  conv => whnf
  refine chk_of (by show (4 : Int) * N ≤ 281474976710656; omega) ?_
  conv => whnf
  refine chk_of (by first | omega | (simp only [wl_len, ul_len] at *; omega)) ?_
  conv => whnf
  refine ⟨Nat × List Nat, fun x => x.1 ≤ a.length ∧ x.2.length = N ∧ WB x.2 ∧ val (x.2.take (x.1 + b.length)) = val (a.take x.1) * val b, fun x => a.length - x.1,
    fun x => ⟨[.p (.sl (wl a)), .p (.sl (wl b)), .top, .top, .top, .own 0 1 N, iI x.1, .top, .top, .top, .top, .top, .top, .top, .top, .top, .top, .top, .top, .top, .top, .top, .top, .top, .top, .top, .top, .top, .top, .top, .top, .top, .top, .top, .top, .top, .top, .top, .top, .top, .top, .top, .top, .top, .top, .top, .top, .top, .top, .top, .top, .top, .top, .top, .top, .top, .top, .top, .top, .top, .top, .top, .top, .top, .top, .top, .top, .top, .top], [some (.row 1 (wl x.2) true)]⟩, [], (0, List.replicate N 0), ?_, ?_⟩
  · conv => whnf
    repeat ((first | refine ⟨.inl rfl, ?_⟩ | refine ⟨rfl, ?_⟩); conv => whnf)
    refine ⟨.inl (by simpa using wl_rep N), ?_⟩
    conv => whnf
    refine ⟨Nat.zero_le _, by simp, fun d hd => by rw [List.eq_of_mem_replicate hd]; omega, ?_⟩
    simp only [List.take_zero, val, Nat.zero_mul]
    rw [List.take_replicate, val_zeros]
  · rintro ⟨i, l0⟩ ⟨h1, h2, h3, h4⟩
    simp only at h1 h2 h3 h4
    refine atS (s' := ⟨[.p (.sl (wl a)), .p (.sl (wl b)), .top, .top, .top, .own 0 1 N, iI i, .top, .top, .top, .top, .top, .top, .top, .top, .top, .top, .top, .top, .top, .top, .top, .top, .top, .top, .top, .top, .top, .top, .top, .top, .top, .top, .top, .top, .top, .top, .top, .top, .top, .top, .top, .top, .top, .top, .top, .top, .top, .top, .top, .top, .top, .top, .top, .top, .top, .top, .top, .top, .top, .top, .top, .top, .top, .top, .top, .top, .top, .top], [some (.row 1 (wl l0) true)]⟩) rfl ?_
    conv => whnf
    refine if_of (fun hi => ?_) (fun hi => ?_)
    · conv => whnf
      rw [wl_len] at hi
      have hi : i < a.length := by omega
      have wa := ha.get hi
      refine ⟨Nat × List Nat × Nat, fun x => x.1 ≤ b.length ∧ x.2.1.length = N ∧ WB x.2.1 ∧ x.2.2 < 4294967296 ∧ val (x.2.1.take (i + x.1)) + 4294967296 ^ (i + x.1) * x.2.2 = val (l0.take (i + x.1)) + 4294967296 ^ i * (a[i] * val (b.take x.1)) ∧ ∀ q, i + x.1 ≤ q → x.2.1.getD q 0 = l0.getD q 0, fun x => b.length - x.1,
        fun x => ⟨[.p (.sl (wl a)), .p (.sl (wl b)), .top, .top, .top, .own 0 1 N, iI i, iU x.2.2, iI x.1, .top, .top, .top, .top, .top, .top, .top, .top, .top, .top, .top, .top, .top, .top, .top, .top, .top, .top, .top, .top, .top, .top, .top, .top, .top, .top, .top, .top, .top, .top, .top, .top, .top, .top, .top, .top, .top, .top, .top, .top, .top, .top, .top, .top, .top, .top, .top, .top, .top, .top, .top, .top, .top, .top, .top, .top, .top, .top, .top, .top], [some (.row 1 (wl x.2.1) true)]⟩, [], (0, l0, 0), ?_, ?_⟩
      · conv => whnf
        repeat ((first | refine ⟨.inl rfl, ?_⟩ | refine ⟨rfl, ?_⟩); conv => whnf)
        exact ⟨Nat.zero_le _, h2, h3, by simp, by simp [val], fun _ _ => rfl⟩
      · rintro ⟨k, l, c⟩ ⟨g1, g2, g3, g4, g5, g6⟩
        simp only at g1 g2 g3 g4 g5 g6
        refine atS (s' := ⟨[.p (.sl (wl a)), .p (.sl (wl b)), .top, .top, .top, .own 0 1 N, iI i, iU c, iI k, .top, .top, .top, .top, .top, .top, .top, .top, .top, .top, .top, .top, .top, .top, .top, .top, .top, .top, .top, .top, .top, .top, .top, .top, .top, .top, .top, .top, .top, .top, .top, .top, .top, .top, .top, .top, .top, .top, .top, .top, .top, .top, .top, .top, .top, .top, .top, .top, .top, .top, .top, .top, .top, .top, .top, .top, .top, .top, .top, .top], [some (.row 1 (wl l) true)]⟩) rfl ?_
        conv => whnf
        refine if_of (fun hk => ?_) (fun hk => ?_)
        · conv => whnf
          rw [wl_len] at hk
          have hk : k < b.length := by omega
          refine ⟨by kernel_rfl, ?_⟩
          conv => whnf
          refine obind_of (wl_at i rfl hi) ?_
          conv => whnf
          refine obind_of (wl_at k rfl hk) ?_
          conv => whnf
          have wb := hb.get hk
          have hikN : i + k < l.length := by omega
          have wk := g3.get hikN
          have eik : IntKind.wrap .i64 ((i : Int) + k) = ((i + k : Nat) : Int) := by rw [wi64 (by omega) (by omega)]; omega
          rw [eik]
          conv => whnf
          refine chk_of (by first | omega | (simp only [wl_len, ul_len] at *; omega)) ?_
          conv => whnf
          refine obind_of (wl_at (i + k) rfl hikN) ?_
          conv => whnf
          refine ⟨.inl (by kernel_rfl), ?_⟩
          conv => whnf
          rw [eik]
          refine chk_of (by first | omega | (simp only [wl_len, ul_len] at *; omega)) ?_
          conv => whnf
          refine chk_of (by first | omega | (simp only [wl_len, ul_len] at *; omega)) ?_
          conv => whnf
          have hmul : a[i] * b[k] ≤ 4294967295 * 4294967295 := Nat.mul_le_mul (by omega) (by omega)
          obtain ⟨t, ht⟩ : ∃ t, t = a[i] * b[k] + l[i + k] + c := ⟨_, rfl⟩
          have t1 : IntKind.wrap .u64 (IntKind.wrap .u64 (IntKind.wrap .u64 (IntKind.wrap .u64 ((a[i] : Nat) : Int) * IntKind.wrap .u64 ((b[k] : Nat) : Int)) + IntKind.wrap .u64 ((l[i + k] : Nat) : Int)) + c) = (t : Int) := by
            rw [wu64 (n := ((a[i] : Nat) : Int)) (by omega) (by omega), wu64 (n := ((b[k] : Nat) : Int)) (by omega) (by omega), wu64 (n := ((l[i + k] : Nat) : Int)) (by omega) (by omega), ← Int.natCast_mul]
            generalize a[i] * b[k] = ab at *
            rw [wu64 (n := (ab : Int)) (by omega) (by omega), wu64 (n := (ab : Int) + (l[i + k] : Nat)) (by omega) (by omega), wu64 (by omega) (by omega)]; omega
          refine ⟨(k + 1, l.set (i + k) (t % 4294967296), t / 4294967296), ?_⟩
          conv => whnf
          repeat ((first | refine ⟨.inl rfl, ?_⟩ | refine ⟨rfl, ?_⟩); conv => whnf)
          rw [t1]
          refine ⟨.inl (vi (by rw [Int.tdiv_eq_ediv_of_nonneg (by omega), wu64 (by omega) (by omega)]; simp only; omega)), ?_⟩
          conv => whnf
          refine ⟨.inl (vi (by rw [wi64 (by omega) (by omega)]; rfl)), ?_⟩
          conv => whnf
          refine ⟨.inl ?_, ?_⟩
          · show (wl l).set (i + k) [nW (IntKind.wrap .u32 (Int.tmod (t : Int) 4294967296))] = wl (l.set (i + k) (t % 4294967296))
            rw [Int.tmod_eq_emod_of_nonneg (by omega), wu32 (by omega) (by omega), show ((t : Nat) : Int) % 4294967296 = ((t % 4294967296 : Nat) : Int) by omega]
            exact wl_set l _ _
          conv => whnf
          have hl0 : l[i + k] = l0.getD (i + k) 0 := by
            rw [← g6 (i + k) (Nat.le_refl _)]; simp [hikN]
          have hbk : b.getD k 0 = b[k] := by simp [hk]
          refine ⟨⟨hk, by simp [g2], g3.set _ (Nat.mod_lt _ (by omega)), by show t / 4294967296 < 4294967296; omega, ?_, ?_⟩, by simp only; omega⟩
          · show val ((l.set (i + k) (t % 4294967296)).take (i + k + 1)) + 4294967296 ^ (i + k + 1) * (t / 4294967296) = val (l0.take (i + k + 1)) + 4294967296 ^ i * (a[i] * val (b.take (k + 1)))
            rw [take_set_succ _ _ _ hikN, val_snoc, List.length_take, Nat.min_eq_left (by omega), val_take_succ l0, val_take_succ b, hbk, ← hl0]
            have hd := Nat.div_add_mod t 4294967296
            rw [ht] at hd ⊢
            have p1 : 4294967296 ^ (i + k) = 4294967296 ^ i * 4294967296 ^ k := Nat.pow_add _ _ _
            have p2 : 4294967296 ^ (i + k + 1) = 4294967296 ^ (i + k) * 4294967296 := by rw [Nat.pow_succ]
            generalize 4294967296 ^ (i + k + 1) = P2 at *
            generalize 4294967296 ^ (i + k) = P1 at *
            generalize 4294967296 ^ i = Pi at *
            generalize 4294967296 ^ k = Pk at *
            generalize (a[i] * b[k] + l[i + k] + c) / 4294967296 = d at *
            generalize (a[i] * b[k] + l[i + k] + c) % 4294967296 = r at *
            grind
          · intro q hq
            simp only at hq ⊢
            rw [← g6 q (by omega)]
            simp [List.getElem?_set, show ¬ i + k = q by omega]
        · conv => whnf
          rw [wl_len] at hk
          have hkb : k = b.length := by omega
          have eik : IntKind.wrap .i64 ((i : Int) + ((wl b).length : Nat)) = ((i + b.length : Nat) : Int) := by rw [wl_len, wi64 (by omega) (by omega)]; omega
          rw [eik]
          refine chk_of (by first | omega | (simp only [wl_len, ul_len] at *; omega)) ?_
          conv => whnf
          refine chk_of (by first | omega | (simp only [wl_len, ul_len] at *; omega)) ?_
          conv => whnf
          refine ⟨(i + 1, l.set (i + b.length) c), ?_⟩
          conv => whnf
          repeat ((first | refine ⟨.inl rfl, ?_⟩ | refine ⟨rfl, ?_⟩); conv => whnf)
          refine ⟨.inl (vi (by rw [wi64 (by omega) (by omega)]; rfl)), ?_⟩
          conv => whnf
          refine ⟨.inl ?_, ?_⟩
          · show (wl l).set (i + b.length) [nW (IntKind.wrap .u32 (c : Int))] = wl (l.set (i + b.length) c)
            rw [wu32 (by omega) (by omega)]
            exact wl_set l _ _
          conv => whnf
          refine ⟨⟨hi, by simp [g2], g3.set _ g4, ?_⟩, by simp only; omega⟩
          show val ((l.set (i + b.length) c).take (i + 1 + b.length)) = val (a.take (i + 1)) * val b
          subst hkb
          rw [show i + 1 + b.length = i + b.length + 1 by omega, take_set_succ _ _ _ (by omega), val_snoc, List.length_take, Nat.min_eq_left (by omega), g5, h4, val_take_succ a, show a.getD i 0 = a[i] by simp [hi], List.take_of_length_le (Nat.le_refl _)]
          grind
    · conv => whnf
      rw [wl_len] at hi
      refine ⟨_, trim_call' l0 h3 (by omega), ?_⟩
      conv => whnf
      refine ⟨.inl ?_, trivial⟩
      have e1 : a.take i = a := List.take_of_length_le (by omega)
      have e3 : l0.take (i + b.length) = l0 := List.take_of_length_le (by omega)
      rw [e1, e3] at h4
      rw [h4]
end Go.Am

set_option linter.unusedVariables false
set_option linter.unusedSimpArgs false
namespace Go.Am
open Go Go.Proofs
set_option maxRecDepth 100000
set_option maxHeartbeats 400000
theorem val_drop (l : List Nat) (k : Nat) (h : k < l.length) : val (l.drop k) = l[k] + 4294967296 * val (l.drop (k + 1)) := by
  rw [List.drop_eq_getElem_cons h]; rfl
theorem shortly_call (a : List Nat) (d : Nat) (ha : WB a) (hla : a.length < 1099511627776) (hd : 0 < d) (hdB : d < 4294967296) : ACall Tryz.prog 220 [.sl (wl a), nU d] [.p (.sl (wl (digs (val a / d)))), .p (nU (val a % d : Nat))] := by
  refine acall_of_awp (hE []) Tryz.func220 rfl (by kernel_rfl) [] ?_
  conv => whnf
  rw [wl_len]
  refine chk_of (rfl) ?_
  conv => whnf
  refine chk_of (by show (4 : Int) * (a.length : Nat) ≤ 281474976710656; omega) ?_
  conv => whnf
  refine chk_of (by first | omega | (simp only [wl_len, ul_len] at *; omega)) ?_
  conv => whnf
  obtain ⟨N, hN⟩ : ∃ N, N = a.length := ⟨_, rfl⟩
  refine ⟨Nat × List Nat × Nat, fun x => x.1 ≤ N ∧ x.2.1.length = N ∧ WB x.2.1 ∧ x.2.2 < d ∧ val (a.drop x.1) = d * val (x.2.1.drop x.1) + x.2.2, fun x => x.1,
    fun x => ⟨[.p (.sl (wl a)), iU d, .top, .top, .top, .top, .own 0 1 N, iU x.2.2, iI ((x.1 : Int) - 1), .top, .top, .top, .top, .top, .top, .top, .top, .top, .top, .top, .top, .top, .top, .top, .top, .top, .top, .top, .top, .top, .top, .top, .top, .top, .top, .top, .top, .top, .top, .top, .top], [some (.row 1 (wl x.2.1) true)]⟩, [], (N, List.replicate N 0, 0), ?_, ?_⟩
  · conv => whnf
    repeat ((first | refine ⟨.inl rfl, ?_⟩ | refine ⟨rfl, ?_⟩); conv => whnf)
    refine ⟨by simp [hN], ?_⟩
    conv => whnf
    repeat ((first | refine ⟨.inl rfl, ?_⟩ | refine ⟨rfl, ?_⟩); conv => whnf)
    refine ⟨.inl (vi (by rw [wl_len, hN, wi64 (by omega) (by omega)])), ?_⟩
    conv => whnf
    refine ⟨.inl (by rw [hN]; simpa using wl_rep a.length), ?_⟩
    conv => whnf
    exact ⟨Nat.le_refl _, by simp, WB.zeros _, hd, by rw [List.drop_of_length_le (by omega), List.drop_of_length_le (by simp)]; simp [val]⟩
  · rintro ⟨k, l, r⟩ ⟨h1, h2, h3, h4, h5⟩
    simp only at h1 h2 h3 h4 h5
    refine atS (s' := ⟨[.p (.sl (wl a)), iU d, .top, .top, .top, .top, .own 0 1 N, iU r, iI ((k : Int) - 1), .top, .top, .top, .top, .top, .top, .top, .top, .top, .top, .top, .top, .top, .top, .top, .top, .top, .top, .top, .top, .top, .top, .top, .top, .top, .top, .top, .top, .top, .top, .top, .top], [some (.row 1 (wl l) true)]⟩) rfl ?_
    conv => whnf
    cases k with
    | zero =>
      conv => whnf
      refine ⟨_, trim_call' l h3 (by omega), ?_⟩
      conv => whnf
      simp only [List.drop_zero] at h5
      have e1 : val a / d = val l := by rw [h5, Nat.mul_add_div hd, Nat.div_eq_of_lt h4]; omega
      have e2 : val a % d = r := by rw [h5, Nat.mul_add_mod, Nat.mod_eq_of_lt h4]
      refine ⟨.inl (by rw [e1]), ?_⟩
      conv => whnf
      exact ⟨.inl (vi (by rw [e2])), trivial⟩
    | succ k =>
      rw [show ((k + 1 : Nat) : Int) - 1 = (k : Int) by omega]
      conv => whnf
      have hk : k < a.length := by omega
      have wa := ha.get hk
      refine obind_of (wl_at k rfl hk) ?_
      conv => whnf
      have t1 : IntKind.wrap .u64 (IntKind.wrap .u64 ((r : Int) * 4294967296) + IntKind.wrap .u64 ((a[k] : Nat) : Int)) = ((r * 4294967296 + a[k] : Nat) : Int) := by
        rw [wu64 (n := (r : Int) * 4294967296) (by omega) (by omega), u64_nn (by omega), wu64 (by omega) (by omega)]; omega
      rw [t1]
      obtain ⟨t, ht⟩ : ∃ t, t = r * 4294967296 + a[k] := ⟨_, rfl⟩
      rw [← ht]
      have hdiv : t / d < 4294967296 := Nat.div_lt_of_lt_mul (by
        have := Nat.mul_le_mul_right 4294967296 (show r + 1 ≤ d by omega)
        omega)
      refine chk_of (by first | omega | (simp only [wl_len, ul_len] at *; omega)) ?_
      conv => whnf
      refine chk_of (by first | omega | (simp only [wl_len, ul_len] at *; omega)) ?_
      conv => whnf
      refine chk_of (by first | omega | (simp only [wl_len, ul_len] at *; omega)) ?_
      conv => whnf
      refine chk_of (by first | omega | (simp only [wl_len, ul_len] at *; omega)) ?_
      conv => whnf
      refine ⟨(k, l.set k (t / d), t % d), ?_⟩
      conv => whnf
      repeat ((first | refine ⟨.inl rfl, ?_⟩ | refine ⟨rfl, ?_⟩); conv => whnf)
      refine ⟨.inl (vi (by simp only; rw [wi64 (by omega) (by omega)])), ?_⟩
      conv => whnf
      refine ⟨.inl (wl_set' rfl (by rw [u64_div (by omega), u32_nn hdiv])), ?_⟩
      conv => whnf
      have hm : t % d < d := Nat.mod_lt _ hd
      have h2' : k < l.length := by omega
      refine ⟨⟨by simp only; omega, by simp [h2], h3.set _ hdiv, hm, ?_⟩, by simp only; omega⟩
      simp only
      rw [val_drop a k hk, val_drop _ k (by simpa using h2'), List.getElem_set_self, List.drop_set_of_lt (by omega), h5]
      have hdm := Nat.div_add_mod t d
      rw [Nat.mul_add d, Nat.mul_left_comm d, Nat.add_right_comm, hdm, ht, Nat.mul_add]
      omega
end Go.Am

set_option linter.unusedVariables false
namespace Go.Am

/-! ### The digit of a long division -/
def gq (v1 v2 u2 : Nat) : Nat → Nat → Nat → Nat
  | 0, q, _ => q
  | f + 1, q, r => if 4294967296 ≤ q ∨ r * 4294967296 + u2 < q * v2 then (if 4294967296 ≤ r + v1 then q - 1 else gq v1 v2 u2 f (q - 1) (r + v1)) else q
theorem gq_spec {v1 v2 u2 P ul vl t U V : Nat} (hP : 0 < P) (hul : ul < P) (hvl : vl < P) (hu2 : u2 < 4294967296) (hv2 : v2 < 4294967296) (hv1 : 0 < v1) (hU : U = (t * 4294967296 + u2) * P + ul) (hV : V = (v1 * 4294967296 + v2) * P + vl) (hUV : U < 4294967296 * V) :
    ∀ (f q r : Nat), q < f → t = q * v1 + r → U < (q + 1) * V → gq v1 v2 u2 f q r < 4294967296 ∧ U < (gq v1 v2 u2 f q r + 1) * V ∧ gq v1 v2 u2 f q r * V < U + V := by
  have hVP : 4294967296 * P ≤ V := by
    rw [hV]
    have : 4294967296 * P ≤ (v1 * 4294967296 + v2) * P := Nat.mul_le_mul_right _ (by omega)
    omega
  -- what makes a digit not too great
  have low : ∀ q r, t = q * v1 + r → q < 4294967296 → q * v2 ≤ r * 4294967296 + u2 → q * V < U + V := by
    intro q r ht hq h
    have e1 : q * V = q * (v1 * 4294967296 * P) + q * v2 * P + q * vl := by rw [hV]; grind
    have e2 : U = q * (v1 * 4294967296 * P) + (r * 4294967296 + u2) * P + ul := by rw [hU, ht]; grind
    have h1 : q * v2 * P ≤ (r * 4294967296 + u2) * P := Nat.mul_le_mul_right _ h
    have h2 : q * vl ≤ 4294967295 * P := Nat.mul_le_mul (by omega) (by omega)
    omega
  have tb : t < (v1 + 1) * 4294967296 := by
    rcases Nat.lt_or_ge t ((v1 + 1) * 4294967296) with h | h
    · exact h
    · exfalso
      have h1 : (v1 + 1) * 4294967296 * 4294967296 * P ≤ U := by
        rw [hU]
        have : (v1 + 1) * 4294967296 * 4294967296 * P ≤ (t * 4294967296 + u2) * P := Nat.mul_le_mul_right _ (Nat.le_trans (Nat.mul_le_mul_right _ h) (Nat.le_add_right _ _))
        omega
      have h2 : V ≤ (v1 + 1) * 4294967296 * P := by
        rw [hV]
        have : (v1 * 4294967296 + v2 + 1) * P ≤ (v1 + 1) * 4294967296 * P := Nat.mul_le_mul_right _ (by omega)
        rw [Nat.add_mul _ 1, Nat.one_mul] at this
        omega
      have h3 : 4294967296 * V ≤ 4294967296 * ((v1 + 1) * 4294967296 * P) := Nat.mul_le_mul_left _ h2
      have h4 : 4294967296 * ((v1 + 1) * 4294967296 * P) = (v1 + 1) * 4294967296 * 4294967296 * P := by grind
      omega
  intro f
  induction f with
  | zero => intro q r h; omega
  | succ f ih =>
    intro q r hf ht hq
    simp only [gq]
    split
    · rename_i hc
      have hq1 : 1 ≤ q := by
        rcases hc with h | h
        · omega
        · rcases Nat.eq_zero_or_pos q with h0 | h0
          · subst h0; omega
          · exact h0
      have hUq : U < (q - 1 + 1) * V := by
        rw [Nat.sub_add_cancel hq1]
        rcases Nat.lt_or_ge q 4294967296 with h0 | h0
        · rcases hc with h | h
          · omega
          · have e1 : q * V = q * (v1 * 4294967296 * P) + q * v2 * P + q * vl := by rw [hV]; grind
            have e2 : U = q * (v1 * 4294967296 * P) + (r * 4294967296 + u2) * P + ul := by rw [hU, ht]; grind
            have h1 : (r * 4294967296 + u2 + 1) * P ≤ q * v2 * P := Nat.mul_le_mul_right _ h
            rw [Nat.add_mul _ 1, Nat.one_mul] at h1
            omega
        · exact Nat.lt_of_lt_of_le hUV (Nat.mul_le_mul_right _ h0)
      have ht' : t = (q - 1) * v1 + (r + v1) := by
        rw [ht, Nat.sub_mul]
        have : 1 * v1 ≤ q * v1 := Nat.mul_le_mul_right _ hq1
        omega
      split
      · rename_i hr
        have hqB : q - 1 < 4294967296 := by
          rcases Nat.lt_or_ge (q - 1) 4294967296 with h | h
          · exact h
          · exfalso
            have : 4294967296 * v1 ≤ (q - 1) * v1 := Nat.mul_le_mul_right _ h
            rw [Nat.add_mul] at tb
            omega
        refine ⟨hqB, hUq, low (q - 1) (r + v1) ht' hqB ?_⟩
        have : (q - 1) * v2 ≤ 4294967295 * 4294967295 := Nat.mul_le_mul (by omega) (by omega)
        have : 4294967296 * 4294967296 ≤ (r + v1) * 4294967296 := Nat.mul_le_mul_right _ hr
        omega
      · exact ih (q - 1) (r + v1) (by omega) ht' hUq
    · rename_i hc
      have h1 : q < 4294967296 := by omega
      have h2 : q * v2 ≤ r * 4294967296 + u2 := by omega
      exact ⟨h1, hq, low q r ht h1 h2⟩
/-- The first digit that is tried. -/
theorem gq_start {v1 v2 u2 P ul vl t U V : Nat} (hul : ul < P) (hu2 : u2 < 4294967296) (hv1 : 0 < v1) (hU : U = (t * 4294967296 + u2) * P + ul) (hV : V = (v1 * 4294967296 + v2) * P + vl) : U < (t / v1 + 1) * V := by
  have h1 : t + 1 ≤ (t / v1 + 1) * v1 := by
    have := Nat.div_add_mod t v1
    have := Nat.mod_lt t hv1
    rw [Nat.add_mul, Nat.mul_comm]; omega
  have h2 : (t * 4294967296 + u2) * P + ul < (t + 1) * 4294967296 * P := by
    have : (t * 4294967296 + u2 + 1) * P ≤ (t + 1) * 4294967296 * P := Nat.mul_le_mul_right _ (by omega)
    rw [Nat.add_mul _ 1, Nat.one_mul] at this
    omega
  have h3 : (t + 1) * 4294967296 * P ≤ (t / v1 + 1) * v1 * 4294967296 * P := Nat.mul_le_mul_right _ (Nat.mul_le_mul_right _ h1)
  have h4 : (t / v1 + 1) * v1 * 4294967296 * P ≤ (t / v1 + 1) * V := by
    rw [hV, Nat.mul_assoc, Nat.mul_assoc]
    refine Nat.mul_le_mul_left _ ?_
    rw [Nat.add_mul, ← Nat.mul_assoc]
    exact Nat.le_trans (Nat.le_add_right _ _) (Nat.le_add_right _ _)
  omega
end Go.Am

set_option linter.unusedVariables false
set_option linter.unusedSimpArgs false
namespace Go.Am
open Go Go.Proofs
set_option maxRecDepth 100000
set_option maxHeartbeats 400000
/-- The digit that is guessed for the words u, one more than v has. -/
def gqL (u v : List Nat) : Nat :=
  let n := v.length
  let t := u.getD n 0 * 4294967296 + u.getD (n - 1) 0
  gq (v.getD (n - 1) 0) (v.getD (n - 2) 0) (u.getD (n - 2) 0) (t / v.getD (n - 1) 0 + 1) (t / v.getD (n - 1) 0) (t % v.getD (n - 1) 0)
theorem guess_call (u v : List Nat) (hu : WB u) (hv : WB v) (hn : 2 ≤ v.length) (hl : u.length = v.length + 1) (hb : v.length < 1099511627776) (hv1 : 2147483648 ≤ v.getD (v.length - 1) 0) :
    ACall Tryz.prog 221 [.sl (wl u), .sl (wl v)] [.p (nU (gqL u v : Nat))] := by
  obtain ⟨n, hN⟩ : ∃ n, n + 2 = v.length := ⟨v.length - 2, by omega⟩
  have g1 : v.getD (n + 1) 0 = v[n + 1]'(by omega) := by simp [show n + 1 < v.length by omega]
  have g2 : v.getD n 0 = v[n]'(by omega) := by simp [show n < v.length by omega]
  have g3 : u.getD (n + 2) 0 = u[n + 2]'(by omega) := by simp [show n + 2 < u.length by omega]
  have g4 : u.getD (n + 1) 0 = u[n + 1]'(by omega) := by simp [show n + 1 < u.length by omega]
  have g5 : u.getD n 0 = u[n]'(by omega) := by simp [show n < u.length by omega]
  have b1 := hv.getD (n + 1)
  have b2 := hv.getD n
  have b3 := hu.getD (n + 2)
  have b4 := hu.getD (n + 1)
  have b5 := hu.getD n
  have eG : gqL u v = gq (v.getD (n + 1) 0) (v.getD n 0) (u.getD n 0) ((u.getD (n + 2) 0 * 4294967296 + u.getD (n + 1) 0) / v.getD (n + 1) 0 + 1) ((u.getD (n + 2) 0 * 4294967296 + u.getD (n + 1) 0) / v.getD (n + 1) 0) ((u.getD (n + 2) 0 * 4294967296 + u.getD (n + 1) 0) % v.getD (n + 1) 0) := by
    simp only [gqL, ← hN, show n + 2 - 1 = n + 1 by omega, show n + 2 - 2 = n by omega]
  rw [← hN, show n + 2 - 1 = n + 1 by omega] at hv1
  rw [eG]
  have i1 : IntKind.wrap .i64 (((wl v).length : Nat) - 1) = ((n + 1 : Nat) : Int) := by rw [wl_len, wi64 (by omega) (by omega)]; omega
  have i2 : IntKind.wrap .i64 (((wl v).length : Nat) - 2) = ((n : Nat) : Int) := by rw [wl_len, wi64 (by omega) (by omega)]; omega
  generalize hx1 : v.getD (n + 1) 0 = v1 at *
  generalize hx2 : v.getD n 0 = v2 at *
  generalize hx3 : u.getD (n + 2) 0 = u0 at *
  generalize hx4 : u.getD (n + 1) 0 = u1 at *
  generalize hx5 : u.getD n 0 = u2 at *
  refine acall_of_awp (hE []) Tryz.func221 rfl (by kernel_rfl) [6] ?_
  conv => whnf
  refine ⟨by kernel_rfl, ?_⟩
  conv => whnf
  refine obind_of (wl_at (n + 2) (by rw [wl_len]; omega) (by omega)) ?_
  conv => whnf
  rw [i1]
  conv => whnf
  refine obind_of (wl_at (n + 1) rfl (by omega)) ?_
  conv => whnf
  refine ⟨.inl (by kernel_rfl), ?_⟩
  conv => whnf
  rw [i1]
  conv => whnf
  refine obind_of (wl_at (n + 1) rfl (by omega)) ?_
  conv => whnf
  obtain ⟨t, ht⟩ : ∃ t, t = u0 * 4294967296 + u1 := ⟨_, rfl⟩
  have t1 : IntKind.wrap .u64 (IntKind.wrap .u64 (IntKind.wrap .u64 ((u[n + 2] : Nat) : Int) * 4294967296) + IntKind.wrap .u64 ((u[n + 1] : Nat) : Int)) = (t : Int) := by
    rw [← g3, ← g4, u64_nn (by omega), u64_nn (by omega), wu64 (n := (u0 : Int) * 4294967296) (by omega) (by omega), wu64 (by omega) (by omega)]; omega
  have e1 : IntKind.wrap .u64 ((v[n + 1] : Nat) : Int) = (v1 : Int) := by rw [← g1, u64_nn (by omega)]
  have e2 : IntKind.wrap .u64 ((v[n] : Nat) : Int) = (v2 : Int) := by rw [← g2, u64_nn (by omega)]
  have e3 : IntKind.wrap .u64 ((u[n] : Nat) : Int) = (u2 : Int) := by rw [← g5, u64_nn (by omega)]
  rw [e1, t1]
  refine chk_of (by first | omega | (simp only [wl_len, ul_len] at *; omega)) ?_
  conv => whnf
  rw [i1]
  conv => whnf
  refine obind_of (wl_at (n + 1) rfl (by omega)) ?_
  conv => whnf
  rw [e1]
  refine chk_of (by first | omega | (simp only [wl_len, ul_len] at *; omega)) ?_
  conv => whnf
  rw [← ht]
  have hq0 : t / v1 ≤ t := Nat.div_le_self _ _
  have hr0 : t % v1 < v1 := Nat.mod_lt _ (by omega)
  refine ⟨Nat × Nat, fun x => x.2 < 4294967296 ∧ x.1 < 18446744073709551616 ∧ gq v1 v2 u2 (x.1 + 1) x.1 x.2 = gq v1 v2 u2 (t / v1 + 1) (t / v1) (t % v1), fun x => x.1,
    fun x => ⟨[.p (.sl (wl u)), .p (.sl (wl v)), .top, .top, .top, iI (((wl v).length : Nat) : Int), .top, iU x.1, iU x.2, .top, .top, .top, .top, .top, .top, .top, .top, .top, .top, .top, .top, .top, .top, .top, .top, .top, .top, .top, .top, .top, .top, .top, .top, .top, .top, .top, .top, .top, .top, .top, .top, .top, .top, .top, .top, .top, .top, .top, .top, .top, .top, .top, .top, .top, .top, .top, .top, .top, .top, .top, .top, .top, .top, .top, .top, .top, .top, .top, .top, .top, .top, .top, .top, .top, .top], []⟩, [], (t / v1, t % v1), ?_, ?_⟩
  · conv => whnf
    repeat ((first | refine ⟨.inl rfl, ?_⟩ | refine ⟨rfl, ?_⟩); conv => whnf)
    refine ⟨.inl (vi (by rw [u64_div (by omega)])), ?_⟩
    conv => whnf
    repeat ((first | refine ⟨.inl rfl, ?_⟩ | refine ⟨rfl, ?_⟩); conv => whnf)
    exact ⟨by simp only; omega, by simp only; omega, rfl⟩
  · rintro ⟨q, r⟩ ⟨h1, h2, h3⟩
    simp only at h1 h2 h3
    refine atS (s' := ⟨[.p (.sl (wl u)), .p (.sl (wl v)), .top, .top, .top, iI (((wl v).length : Nat) : Int), .top, iU q, iU r, .top, .top, .top, .top, .top, .top, .top, .top, .top, .top, .top, .top, .top, .top, .top, .top, .top, .top, .top, .top, .top, .top, .top, .top, .top, .top, .top, .top, .top, .top, .top, .top, .top, .top, .top, .top, .top, .top, .top, .top, .top, .top, .top, .top, .top, .top, .top, .top, .top, .top, .top, .top, .top, .top, .top, .top, .top, .top, .top, .top, .top, .top, .top, .top, .top, .top], []⟩) rfl ?_
    conv => whnf
    refine ⟨Unit, fun _ => 4294967296 ≤ q ∨ r * 4294967296 + u2 < q * v2, fun _ => ⟨[.p (.sl (wl u)), .p (.sl (wl v)), .top, .top, .top, iI (((wl v).length : Nat) : Int), .top, iU q, iU r, .top, .top, .top, .top, .top, .top, .top, .top, .top, .top, .top, .top, .top, .top, .top, .top, .top, .top, .top, .top, .top, .top, .top, .top, .top, .top, .top, .top, .top, .top, .top, .top, .top, .top, .top, .top, .top, .top, .top, .top, .top, .top, .top, .top, .top, .top, .top, .top, .top, .top, .top, .top, .top, .top, .top, .top, .top, .top, .top, .top, .top, .top, .top, .top, .top, .top], []⟩, ?_, ?_⟩
    · conv => whnf
      refine ⟨by kernel_rfl, ?_⟩
      conv => whnf
      refine if_of (fun hq => ?_) (fun hq => ?_)
      · conv => whnf
        refine ⟨.inl (by kernel_rfl), ?_⟩
        conv => whnf
        refine ⟨[], (), ?_⟩
        conv => whnf
        repeat ((first | refine ⟨.inl rfl, ?_⟩ | refine ⟨rfl, ?_⟩); conv => whnf)
        exact .inl (by omega)
      · conv => whnf
        rw [i2]
        conv => whnf
        refine obind_of (wl_at n rfl (by omega)) ?_
        conv => whnf
        rw [i2]
        conv => whnf
        refine obind_of (wl_at n rfl (by omega)) ?_
        conv => whnf
        have m0 : q * v2 ≤ 4294967295 * 4294967295 := Nat.mul_le_mul (by omega) (by omega)
        have m1 : IntKind.wrap .u64 ((q : Int) * v2) = ((q * v2 : Nat) : Int) := by
          rw [← Int.natCast_mul]
          generalize q * v2 = z at *
          exact u64_nn (by omega)
        have m2 : IntKind.wrap .u64 (IntKind.wrap .u64 ((r : Int) * 4294967296) + u2) = ((r * 4294967296 + u2 : Nat) : Int) := by
          rw [wu64 (n := (r : Int) * 4294967296) (by omega) (by omega), wu64 (by omega) (by omega)]; omega
        obtain ⟨z2, hz2⟩ : ∃ z, z = r * 4294967296 + u2 := ⟨_, rfl⟩
        obtain ⟨z1, hz1⟩ : ∃ z, z = q * v2 := ⟨_, rfl⟩
        rw [e2, e3, m1, m2, ← hz2, ← hz1]
        refine ⟨.inl (by kernel_rfl), ?_⟩
        conv => whnf
        refine if_of (fun hz => ?_) (fun hz => ?_)
        · conv => whnf
          refine ⟨[], (), ?_⟩
          conv => whnf
          repeat ((first | refine ⟨.inl rfl, ?_⟩ | refine ⟨rfl, ?_⟩); conv => whnf)
          exact .inr (by omega)
        · conv => whnf
          refine ⟨.inl (vi ?_), trivial⟩
          have : ¬ (4294967296 ≤ q ∨ r * 4294967296 + u2 < q * v2) := by omega
          rw [← h3, gq, if_neg this]
    · rintro _ hc
      conv => whnf
      rw [i1]
      conv => whnf
      refine obind_of (wl_at (n + 1) rfl (by omega)) ?_
      conv => whnf
      have hq1 : 1 ≤ q := by
        rcases hc with h | h
        · omega
        · rcases Nat.eq_zero_or_pos q with h0 | h0
          · subst h0; omega
          · exact h0
      have m3 : IntKind.wrap .u64 ((r : Int) + v1) = ((r + v1 : Nat) : Int) := by rw [wu64 (by omega) (by omega)]; omega
      have m4 : IntKind.wrap .u64 ((q : Int) - 1) = ((q - 1 : Nat) : Int) := by rw [wu64 (by omega) (by omega)]; omega
      rw [e1, m3, m4]
      rw [gq, if_pos hc] at h3
      refine if_of (fun hz => ?_) (fun hz => ?_)
      · conv => whnf
        refine ⟨.inl (vi ?_), trivial⟩
        rw [if_pos (by omega)] at h3
        rw [h3]
      · conv => whnf
        rw [if_neg (by omega)] at h3
        refine ⟨(q - 1, r + v1), ?_⟩
        conv => whnf
        repeat ((first | refine ⟨.inl rfl, ?_⟩ | refine ⟨rfl, ?_⟩); conv => whnf)
        exact ⟨⟨by simp only; omega, by simp only; omega, by simp only; rw [Nat.sub_add_cancel hq1]; exact h3⟩, by simp only; omega⟩
end Go.Am

set_option linter.unusedVariables false
set_option linter.unusedSimpArgs false
namespace Go.Am
open Go Go.Proofs
set_option maxRecDepth 100000
set_option maxHeartbeats 400000
theorem getD_at {l : List Nat} {i : Nat} (h : i < l.length) : l.getD i 0 = l[i] := by simp [h]
theorem getD_big {l : List Nat} {i : Nat} (h : l.length ≤ i) : l.getD i 0 = 0 := by simp [h]
theorem getD_set (l : List Nat) (i d p : Nat) (h : i < l.length) : (l.set i d).getD p 0 = if p = i then d else l.getD p 0 := by
  by_cases hp : p = i
  · subst hp; simp [h]
  · simp [List.getElem?_set, hp, show ¬ i = p by omega]
/-- The value of i words from place j on. -/
def sv (u : List Nat) (j i : Nat) : Nat := val ((u.drop j).take i)
theorem sv_succ (u : List Nat) (j i : Nat) : sv u j (i + 1) = sv u j i + 4294967296 ^ i * u.getD (j + i) 0 := by
  simp only [sv]
  rw [val_take_succ]
  simp [List.getElem?_drop]
theorem sv_congr {u u' : List Nat} {j i : Nat} (h : ∀ p, j ≤ p → p < j + i → u'.getD p 0 = u.getD p 0) : sv u' j i = sv u j i := by
  induction i with
  | zero => simp [sv]
  | succ i ih => rw [sv_succ, sv_succ, ih fun p h1 h2 => h p h1 (by omega), h (j + i) (by omega) (by omega)]
theorem sv_lt {u : List Nat} (h : WB u) (j i : Nat) : sv u j i < 4294967296 ^ i := by
  have h1 : WB ((u.drop j).take i) := fun x hx => h x (List.mem_of_mem_drop (List.mem_of_mem_take hx))
  have h2 := val_lt h1
  have h3 : 4294967296 ^ ((u.drop j).take i).length ≤ 4294967296 ^ i := Nat.pow_le_pow_right (by omega) (by simp; omega)
  simp only [sv]; omega
theorem lessen_call (u v qs : List Nat) (j q n : Nat) (hu : WB u) (hv : WB v) (hn : v.length = n) (hj : j + n + 1 ≤ u.length) (hl : u.length < 1099511627776) (hq : q < 4294967296) :
    SCall Tryz.prog 222 [.win 0 1 j (n + 1), .p (.sl (wl v)), .p (nU q)] [some (.row 1 (wl u) true), some (.row 1 (wl qs) true)] fun xs m' => ∃ u' : List Nat,
      xs = [.p (.val (.bool (decide (sv u j (n + 1) < q * val v))))] ∧ m' = [some (.row 1 (wl u') true), some (.row 1 (wl qs) true)] ∧ u'.length = u.length ∧ WB u' ∧ (∀ p, p < j ∨ j + n + 1 ≤ p → u'.getD p 0 = u.getD p 0) ∧
      sv u' j (n + 1) + q * val v = sv u j (n + 1) + if sv u j (n + 1) < q * val v then 4294967296 ^ (n + 1) else 0 := by
  refine scall_of_awp (hE []) Tryz.func222 rfl (by kernel_rfl) [] ?_
  conv => whnf
  refine ⟨Nat × List Nat × Nat × Nat, fun x => x.1 ≤ n + 1 ∧ x.2.1.length = u.length ∧ WB x.2.1 ∧ x.2.2.1 < 4294967296 ∧ x.2.2.2 ≤ 1 ∧ sv x.2.1 j x.1 + q * val (v.take x.1) = sv u j x.1 + 4294967296 ^ x.1 * (x.2.2.1 + x.2.2.2) ∧ 4294967296 ^ x.1 * x.2.2.1 ≤ q * val (v.take x.1) ∧ ∀ p, p < j ∨ j + x.1 ≤ p → x.2.1.getD p 0 = u.getD p 0, fun x => n + 1 - x.1,
    fun x => ⟨[.win 0 1 j (n + 1), .p (.sl (wl v)), iU q, .top, .top, .top, .top, iU x.2.2.1, iU x.2.2.2, iI x.1, .top, .top, .top, .top, .top, .top, .top, .top, .top, .top, .top, .top, .top, .top, .top, .top, .top, .top, .top, .top, .top, .top, .top, .top, .top, .top, .top, .top, .top, .top, .top, .top, .top, .top, .top, .top, .top, .top, .top], [some (.row 1 (wl x.2.1) true), some (.row 1 (wl qs) true)]⟩, [], (0, u, 0, 0), ?_, ?_⟩
  · conv => whnf
    repeat ((first | refine ⟨.inl rfl, ?_⟩ | refine ⟨rfl, ?_⟩); conv => whnf)
    exact ⟨Nat.zero_le _, rfl, hu, by simp, by simp, by simp [sv, val], by simp [val], fun _ _ => rfl⟩
  · rintro ⟨i, l, c, b⟩ ⟨h1, h2, h3, h4, h5, h6, h7, h8⟩
    simp only at h1 h2 h3 h4 h5 h6 h7 h8
    refine atS (s' := ⟨[.win 0 1 j (n + 1), .p (.sl (wl v)), iU q, .top, .top, .top, .top, iU c, iU b, iI i, .top, .top, .top, .top, .top, .top, .top, .top, .top, .top, .top, .top, .top, .top, .top, .top, .top, .top, .top, .top, .top, .top, .top, .top, .top, .top, .top, .top, .top, .top, .top, .top, .top, .top, .top, .top, .top, .top, .top], [some (.row 1 (wl l) true), some (.row 1 (wl qs) true)]⟩) rfl ?_
    conv => whnf
    refine if_of (fun hi => ?_) (fun hi => ?_)
    · conv => whnf
      refine ⟨_, word_call v hv i, ?_⟩
      conv => whnf
      have wv := hv.getD i
      have hil : j + i < l.length := by omega
      have hy : v.getD i 0 = v.getD i 0 := rfl
      generalize hy' : v.getD i 0 = y at wv ⊢
      have hm : q * y ≤ 4294967295 * 4294967295 := Nat.mul_le_mul (by omega) (by omega)
      obtain ⟨p, hp⟩ : ∃ p, p = q * y + c := ⟨_, rfl⟩
      have p1 : IntKind.wrap .u64 (IntKind.wrap .u64 ((q : Int) * y) + c) = (p : Int) := by
        rw [← Int.natCast_mul]
        generalize q * y = z at *
        rw [u64_nn (by omega), wu64 (by omega) (by omega)]; omega
      rw [p1]
      have hi : i < n + 1 := by omega
      have wl' := h3.getD (j + i)
      have hx : l[j + i] = l.getD (j + i) 0 := (getD_at hil).symm
      have hu0 : l.getD (j + i) 0 = u.getD (j + i) 0 := h8 _ (.inr (Nat.le_refl _))
      refine chk_of (by first | omega | (simp only [wl_len, ul_len] at *; omega)) ?_
      conv => whnf
      refine obind_of (wl_get hil) ?_
      conv => whnf
      rw [hx]
      generalize hx' : l.getD (j + i) 0 = x at wl' hu0 ⊢
      obtain ⟨t, ht⟩ : ∃ t, t = 4294967296 + x - p % 4294967296 - b := ⟨_, rfl⟩
      have t1 : IntKind.wrap .u64 (IntKind.wrap .u64 (IntKind.wrap .u64 (4294967296 + IntKind.wrap .u64 (x : Int)) - Int.tmod (p : Int) 4294967296) - b) = (t : Int) := by
        rw [Int.tmod_eq_emod_of_nonneg (by omega), u64_nn (by omega), wu64 (n := 4294967296 + (x : Int)) (by omega) (by omega), wu64 (n := 4294967296 + (x : Int) - _) (by omega) (by omega), wu64 (by omega) (by omega)]; omega
      rw [t1]
      refine chk_of (by first | omega | (simp only [wl_len, ul_len] at *; omega)) ?_
      conv => whnf
      refine chk_of (by first | omega | (simp only [wl_len, ul_len] at *; omega)) ?_
      conv => whnf
      refine ⟨(i + 1, l.set (j + i) (t % 4294967296), p / 4294967296, 1 - t / 4294967296), ?_⟩
      conv => whnf
      repeat ((first | refine ⟨.inl rfl, ?_⟩ | refine ⟨rfl, ?_⟩); conv => whnf)
      refine ⟨.inl (vi (by rw [Int.tdiv_eq_ediv_of_nonneg (by omega), wu64 (by omega) (by omega)]; simp only; omega)), ?_⟩
      conv => whnf
      refine ⟨.inl (vi (by rw [Int.tdiv_eq_ediv_of_nonneg (by omega), wu64 (n := (t : Int) / 4294967296) (by omega) (by omega), wu64 (by omega) (by omega)]; simp only; omega)), ?_⟩
      conv => whnf
      refine ⟨.inl (vi (by rw [wi64 (by omega) (by omega)]; rfl)), ?_⟩
      conv => whnf
      refine ⟨.inl (wl_set' (l := l) (i := ((j + i : Nat) : Int)) rfl (by rw [Int.tmod_eq_emod_of_nonneg (by omega), wu32 (by omega) (by omega)]; omega)), ?_⟩
      conv => whnf
      repeat ((first | refine ⟨.inl rfl, ?_⟩ | refine ⟨rfl, ?_⟩); conv => whnf)
      have k1 : t % 4294967296 + (q * y + c) + b = x + 4294967296 * (p / 4294967296 + (1 - t / 4294967296)) := by omega
      have sl : sv (l.set (j + i) (t % 4294967296)) j i = sv l j i := sv_congr fun p h1 h2 => by rw [getD_set _ _ _ _ hil, if_neg (by omega)]
      refine ⟨⟨hi, by simp [h2], h3.set _ (Nat.mod_lt _ (by omega)), by show p / 4294967296 < 4294967296; omega, by show 1 - t / 4294967296 ≤ 1; omega, ?_, ?_, ?_⟩, by simp only; omega⟩
      · show sv (l.set (j + i) (t % 4294967296)) j (i + 1) + q * val (v.take (i + 1)) = sv u j (i + 1) + 4294967296 ^ (i + 1) * (p / 4294967296 + (1 - t / 4294967296))
        rw [sv_succ, sv_succ, sl, getD_set _ _ _ _ hil, if_pos rfl, val_take_succ, hy', ← hu0, Nat.pow_succ]
        generalize 4294967296 ^ i = P at *
        generalize p / 4294967296 + (1 - t / 4294967296) = w at *
        generalize t % 4294967296 = d at *
        grind
      · show 4294967296 ^ (i + 1) * (p / 4294967296) ≤ q * val (v.take (i + 1))
        rw [val_take_succ, hy', Nat.pow_succ, Nat.mul_assoc, Nat.mul_add]
        have : 4294967296 ^ i * (4294967296 * (p / 4294967296)) ≤ 4294967296 ^ i * (q * y + c) := Nat.mul_le_mul_left _ (by omega)
        rw [Nat.mul_add] at this
        have e : q * (4294967296 ^ i * y) = 4294967296 ^ i * (q * y) := Nat.mul_left_comm _ _ _
        omega
      · intro p' hp'
        simp only at hp' ⊢
        rw [getD_set _ _ _ _ hil, if_neg (by omega)]
        exact h8 _ (by omega)
    · conv => whnf
      have hin : i = n + 1 := by omega
      subst hin
      have hv' : v.take (n + 1) = v := List.take_of_length_le (by omega)
      rw [hv'] at h6 h7
      have hvl := val_lt hv
      rw [hn] at hvl
      have hP : 4294967296 ^ (n + 1) = 4294967296 ^ n * 4294967296 := by rw [Nat.pow_succ]
      have hqv : q * val v < 4294967296 ^ (n + 1) := by
        rw [hP]
        have h1 : q * val v ≤ 4294967295 * val v := Nat.mul_le_mul_right _ (by omega)
        omega
      have hc0 : c = 0 := by
        rcases Nat.eq_zero_or_pos c with h | h
        · exact h
        · have : 4294967296 ^ (n + 1) * 1 ≤ 4294967296 ^ (n + 1) * c := Nat.mul_le_mul_left _ h
          omega
      subst hc0
      have sl := sv_lt h3 j (n + 1)
      have su := sv_lt hu j (n + 1)
      have hb : b = 0 ∨ b = 1 := by omega
      refine ⟨l, ?_, rfl, h2, h3, fun p hp => h8 p (by omega), ?_⟩
      · show [AV.p (.val (.bool ((b : Int) == 1)))] = _
        congr 4
        rcases hb with rfl | rfl
        · rw [decide_eq_false (by omega)]; rfl
        · rw [decide_eq_true (by omega)]; rfl
      · rcases hb with rfl | rfl
        · rw [if_neg (by omega)]; omega
        · rw [if_pos (by omega)]; omega
theorem restore_call (u v qs : List Nat) (j n : Nat) (hu : WB u) (hv : WB v) (hn : v.length = n) (hj : j + n + 1 ≤ u.length) (hl : u.length < 1099511627776) :
    SCall Tryz.prog 223 [.win 0 1 j (n + 1), .p (.sl (wl v))] [some (.row 1 (wl u) true), some (.row 1 (wl qs) true)] fun xs m' => ∃ (u' : List Nat) (c : Nat),
      xs = [] ∧ m' = [some (.row 1 (wl u') true), some (.row 1 (wl qs) true)] ∧ u'.length = u.length ∧ WB u' ∧ (∀ p, p < j ∨ j + n + 1 ≤ p → u'.getD p 0 = u.getD p 0) ∧
      sv u' j (n + 1) + 4294967296 ^ (n + 1) * c = sv u j (n + 1) + val v := by
  refine scall_of_awp (hE []) Tryz.func223 rfl (by kernel_rfl) [] ?_
  conv => whnf
  refine ⟨Nat × List Nat × Nat, fun x => x.1 ≤ n + 1 ∧ x.2.1.length = u.length ∧ WB x.2.1 ∧ x.2.2 ≤ 1 ∧ sv x.2.1 j x.1 + 4294967296 ^ x.1 * x.2.2 = sv u j x.1 + val (v.take x.1) ∧ ∀ p, p < j ∨ j + x.1 ≤ p → x.2.1.getD p 0 = u.getD p 0, fun x => n + 1 - x.1,
    fun x => ⟨[.win 0 1 j (n + 1), .p (.sl (wl v)), .top, .top, iU x.2.2, iI x.1, .top, .top, .top, .top, .top, .top, .top, .top, .top, .top, .top, .top, .top, .top, .top, .top, .top, .top, .top, .top, .top, .top, .top, .top, .top, .top], [some (.row 1 (wl x.2.1) true), some (.row 1 (wl qs) true)]⟩, [], (0, u, 0), ?_, ?_⟩
  · conv => whnf
    repeat ((first | refine ⟨.inl rfl, ?_⟩ | refine ⟨rfl, ?_⟩); conv => whnf)
    exact ⟨Nat.zero_le _, rfl, hu, by simp, by simp [sv, val], fun _ _ => rfl⟩
  · rintro ⟨i, l, c⟩ ⟨h1, h2, h3, h4, h6, h8⟩
    simp only at h1 h2 h3 h4 h6 h8
    refine atS (s' := ⟨[.win 0 1 j (n + 1), .p (.sl (wl v)), .top, .top, iU c, iI i, .top, .top, .top, .top, .top, .top, .top, .top, .top, .top, .top, .top, .top, .top, .top, .top, .top, .top, .top, .top, .top, .top, .top, .top, .top, .top], [some (.row 1 (wl l) true), some (.row 1 (wl qs) true)]⟩) rfl ?_
    conv => whnf
    refine if_of (fun hi => ?_) (fun hi => ?_)
    · conv => whnf
      have hi : i < n + 1 := by omega
      have wv := hv.getD i
      have hil : j + i < l.length := by omega
      have wl' := h3.getD (j + i)
      have hx : l[j + i] = l.getD (j + i) 0 := (getD_at hil).symm
      have hu0 : l.getD (j + i) 0 = u.getD (j + i) 0 := h8 _ (.inr (Nat.le_refl _))
      refine ⟨by kernel_rfl, ?_⟩
      conv => whnf
      refine chk_of (by first | omega | (simp only [wl_len, ul_len] at *; omega)) ?_
      conv => whnf
      refine obind_of (wl_get hil) ?_
      conv => whnf
      rw [hx]
      generalize hx' : l.getD (j + i) 0 = x at wl' hu0 ⊢
      refine ⟨_, word_call v hv i, ?_⟩
      conv => whnf
      generalize hy' : v.getD i 0 = y at wv ⊢
      obtain ⟨t, ht⟩ : ∃ t, t = x + y + c := ⟨_, rfl⟩
      have t1 : IntKind.wrap .u64 (IntKind.wrap .u64 (IntKind.wrap .u64 (x : Int) + y) + c) = (t : Int) := by
        rw [u64_nn (by omega), wu64 (n := (x : Int) + y) (by omega) (by omega), wu64 (by omega) (by omega)]; omega
      rw [t1]
      refine ⟨.inl (by kernel_rfl), ?_⟩
      conv => whnf
      refine chk_of (by first | omega | (simp only [wl_len, ul_len] at *; omega)) ?_
      conv => whnf
      refine chk_of (by first | omega | (simp only [wl_len, ul_len] at *; omega)) ?_
      conv => whnf
      refine ⟨(i + 1, l.set (j + i) (t % 4294967296), t / 4294967296), ?_⟩
      conv => whnf
      repeat ((first | refine ⟨.inl rfl, ?_⟩ | refine ⟨rfl, ?_⟩); conv => whnf)
      refine ⟨.inl (vi (by rw [Int.tdiv_eq_ediv_of_nonneg (by omega), wu64 (by omega) (by omega)]; simp only; omega)), ?_⟩
      conv => whnf
      refine ⟨.inl (vi (by rw [wi64 (by omega) (by omega)]; rfl)), ?_⟩
      conv => whnf
      refine ⟨.inl (wl_set' (l := l) (i := ((j + i : Nat) : Int)) rfl (by rw [Int.tmod_eq_emod_of_nonneg (by omega), wu32 (by omega) (by omega)]; omega)), ?_⟩
      conv => whnf
      repeat ((first | refine ⟨.inl rfl, ?_⟩ | refine ⟨rfl, ?_⟩); conv => whnf)
      have k1 : t % 4294967296 + 4294967296 * (t / 4294967296) = x + y + c := by omega
      have sl : sv (l.set (j + i) (t % 4294967296)) j i = sv l j i := sv_congr fun p h1 h2 => by rw [getD_set _ _ _ _ hil, if_neg (by omega)]
      refine ⟨⟨hi, by simp [h2], h3.set _ (Nat.mod_lt _ (by omega)), by show t / 4294967296 ≤ 1; omega, ?_, ?_⟩, by simp only; omega⟩
      · show sv (l.set (j + i) (t % 4294967296)) j (i + 1) + 4294967296 ^ (i + 1) * (t / 4294967296) = sv u j (i + 1) + val (v.take (i + 1))
        rw [sv_succ, sv_succ, sl, getD_set _ _ _ _ hil, if_pos rfl, val_take_succ, hy', ← hu0, Nat.pow_succ]
        generalize 4294967296 ^ i = P at *
        generalize t / 4294967296 = w at *
        generalize t % 4294967296 = d at *
        grind
      · intro p' hp'
        simp only at hp' ⊢
        rw [getD_set _ _ _ _ hil, if_neg (by omega)]
        exact h8 _ (by omega)
    · conv => whnf
      have hin : i = n + 1 := by omega
      subst hin
      have hv' : v.take (n + 1) = v := List.take_of_length_le (by omega)
      rw [hv'] at h6
      exact ⟨l, c, rfl, rfl, h2, h3, fun p hp => h8 p (by omega), h6⟩
end Go.Am

set_option linter.unusedVariables false
set_option linter.unusedSimpArgs false
namespace Go.Am
open Go Go.Proofs
set_option maxRecDepth 100000
set_option maxHeartbeats 1000000
/-! ### A step of the long division -/
theorem val_parts (u : List Nat) (j m : Nat) (h : j + m ≤ u.length) : val u = val (u.take j) + 4294967296 ^ j * (sv u j m + 4294967296 ^ m * val (u.drop (j + m))) := by
  have e1 : val u = val (u.take j ++ u.drop j) := by rw [List.take_append_drop]
  have e2 : val (u.drop j) = val ((u.drop j).take m ++ (u.drop j).drop m) := by rw [List.take_append_drop]
  rw [e1, val_append, List.length_take, Nat.min_eq_left (by omega), e2, val_append, List.length_take, List.length_drop, Nat.min_eq_left (by omega), List.drop_drop]
  rfl
theorem val_drop_parts (u : List Nat) (j m : Nat) (h : j + m ≤ u.length) : val (u.drop j) = sv u j m + 4294967296 ^ m * val (u.drop (j + m)) := by
  have e2 : val (u.drop j) = val ((u.drop j).take m ++ (u.drop j).drop m) := by rw [List.take_append_drop]
  rw [e2, val_append, List.length_take, List.length_drop, Nat.min_eq_left (by omega), List.drop_drop]
  rfl
theorem drop_congr {u u' : List Nat} (hl : u'.length = u.length) {m : Nat} (h : ∀ p, m ≤ p → u'.getD p 0 = u.getD p 0) : u'.drop m = u.drop m := by
  refine List.ext_getElem (by simp [hl]) fun i h1 h2 => ?_
  have := h (m + i) (by omega)
  simp only [List.length_drop] at h1 h2
  rw [getD_at (by omega), getD_at (by omega)] at this
  simpa using this
theorem take_congr {u u' : List Nat} (hl : u'.length = u.length) {m : Nat} (h : ∀ p, p < m → u'.getD p 0 = u.getD p 0) : u'.take m = u.take m := by
  refine List.ext_getElem (by simp [hl]) fun i h1 h2 => ?_
  simp only [List.length_take] at h1 h2
  have := h i (by omega)
  rw [getD_at (by omega), getD_at (by omega)] at this
  simpa using this
/-- The last words of a list. -/
theorem val_last2 (l : List Nat) (n : Nat) (h : l.length = n + 2) : val l = (l.getD (n + 1) 0 * 4294967296 + l.getD n 0) * 4294967296 ^ n + val (l.take n) := by
  have e : l.take (n + 2) = l := List.take_of_length_le (by omega)
  have h1 := val_take_succ l (n + 1)
  have h2 := val_take_succ l n
  rw [show n + 1 + 1 = n + 2 by omega, e] at h1
  rw [h1, h2, Nat.pow_succ]
  grind
theorem val_last3 (l : List Nat) (n : Nat) (h : l.length = n + 3) : val l = ((l.getD (n + 2) 0 * 4294967296 + l.getD (n + 1) 0) * 4294967296 + l.getD n 0) * 4294967296 ^ n + val (l.take n) := by
  have e : l.take (n + 3) = l := List.take_of_length_le (by omega)
  have h1 := val_take_succ l (n + 2)
  have h2 := val_take_succ l (n + 1)
  have h3 := val_take_succ l n
  rw [show n + 2 + 1 = n + 3 by omega, e] at h1
  rw [h1, show n + 2 = n + 1 + 1 by omega, h2, h3, Nat.pow_succ, Nat.pow_succ]
  grind
theorem gqL_spec (us v : List Nat) (hu : WB us) (hv : WB v) (hn : 2 ≤ v.length) (hl : us.length = v.length + 1) (hv1 : 2147483648 ≤ v.getD (v.length - 1) 0) (hUV : val us < 4294967296 * val v) :
    gqL us v < 4294967296 ∧ val us < (gqL us v + 1) * val v ∧ gqL us v * val v < val us + val v := by
  obtain ⟨n, hN⟩ : ∃ n, n + 2 = v.length := ⟨v.length - 2, by omega⟩
  have eG : gqL us v = gq (v.getD (n + 1) 0) (v.getD n 0) (us.getD n 0) ((us.getD (n + 2) 0 * 4294967296 + us.getD (n + 1) 0) / v.getD (n + 1) 0 + 1) ((us.getD (n + 2) 0 * 4294967296 + us.getD (n + 1) 0) / v.getD (n + 1) 0) ((us.getD (n + 2) 0 * 4294967296 + us.getD (n + 1) 0) % v.getD (n + 1) 0) := by
    simp only [gqL, ← hN, show n + 2 - 1 = n + 1 by omega, show n + 2 - 2 = n by omega]
  rw [← hN, show n + 2 - 1 = n + 1 by omega] at hv1
  have hul := val_lt (hu.take n)
  have hvl := val_lt (hv.take n)
  rw [List.length_take, Nat.min_eq_left (by omega)] at hul hvl
  have hU := val_last3 us n (by omega)
  have hV := val_last2 v n (by omega)
  rw [eG]
  have hst := gq_start hul (hu.getD n) (show 0 < v.getD (n + 1) 0 by omega) hU hV
  exact gq_spec (Nat.pow_pos (by omega)) hul hvl (hu.getD n) (hv.getD n) (by omega) hU hV hUV _ _ _ (Nat.lt_succ_self _) (by
    have := Nat.div_add_mod (us.getD (n + 2) 0 * 4294967296 + us.getD (n + 1) 0) (v.getD (n + 1) 0)
    rw [Nat.mul_comm] at this
    exact this.symm) hst
/-- A number that makes the first word great. -/
theorem norm_top (x : Nat) (h0 : 0 < x) (hB : x < 4294967296) : 2147483648 ≤ x * (4294967296 / (x + 1)) ∧ (x + 1) * (4294967296 / (x + 1)) ≤ 4294967296 ∧ 0 < 4294967296 / (x + 1) := by
  have h1 := Nat.div_add_mod 4294967296 (x + 1)
  have h2 := Nat.mod_lt 4294967296 (show 0 < x + 1 by omega)
  have h3 : 0 < 4294967296 / (x + 1) := Nat.div_pos (by omega) (by omega)
  generalize 4294967296 / (x + 1) = d at *
  generalize 4294967296 % (x + 1) = r at *
  rw [Nat.add_mul] at h1 ⊢
  have e : (x + 1) * d = x * d + d := by rw [Nat.add_mul, Nat.one_mul]
  refine ⟨?_, by omega, h3⟩
  rcases Nat.lt_or_ge x 2 with q | q
  · have : x = 1 := by omega
    subst this; omega
  · have h4 : 2 * d ≤ x * d := Nat.mul_le_mul_right _ q
    rcases Nat.lt_or_ge x 1073741824 with q2 | q2
    · omega
    · rcases Nat.lt_or_ge d 2 with q3 | q3
      · have : d = 1 := by omega
        subst this; omega
      · have : 1073741824 * 2 ≤ x * d := Nat.mul_le_mul q2 q3
        omega
end Go.Am

set_option linter.unusedVariables false
set_option linter.unusedSimpArgs false
namespace Go.Am
open Go Go.Proofs
set_option maxRecDepth 100000
set_option maxHeartbeats 1000000
theorem times_call' (m n : Nat) (hla : (digs m).length < 1099511627776) (hlb : (digs n).length < 1099511627776) : ACall Tryz.prog 115 [.sl (wl (digs m)), .sl (wl (digs n))] [.p (.sl (wl (digs (m * n))))] := by
  have := times_call (digs m) (digs n) (WB.digs m) (WB.digs n) hla hlb
  rwa [val_digs, val_digs] at this
theorem shortly_call' (m d : Nat) (hla : (digs m).length < 1099511627776) (hd : 0 < d) (hdB : d < 4294967296) : ACall Tryz.prog 220 [.sl (wl (digs m)), nU d] [.p (.sl (wl (digs (m / d)))), .p (nU (m % d : Nat))] := by
  have := shortly_call (digs m) d (WB.digs m) hla hd hdB
  rwa [val_digs] at this
theorem wl_drop (l : List Nat) (n : Nat) : (wl l).drop n = wl (l.drop n) := by simp [wl, List.map_drop]
/-- A normalized divisor. -/
theorem norm_len (b n d : Nat) (hn : (digs b).length = n + 2) (hd : d = 4294967296 / ((digs b).getD (n + 1) 0 + 1)) :
    (digs (b * d)).length = n + 2 ∧ 2147483648 ≤ (digs (b * d)).getD (n + 1) 0 ∧ 0 < d ∧ d < 4294967296 := by
  have wb := WB.digs b
  have htop := wb.getD (n + 1)
  have hne : (digs b) ≠ [] := fun e => by rw [e] at hn; simp at hn
  have hpos : 0 < (digs b).getD (n + 1) 0 := by
    have h1 := trimL_last (trim_digs b) hne
    rw [hn, show n + 2 - 1 = n + 1 by omega] at h1
    rcases Nat.eq_zero_or_pos ((digs b).getD (n + 1) 0) with h0 | h0
    · exfalso
      have e : (digs b).take (n + 2) = digs b := List.take_of_length_le (by omega)
      have h2 := val_take_succ (digs b) (n + 1)
      rw [show n + 1 + 1 = n + 2 by omega, e, h0, Nat.mul_zero, Nat.add_zero] at h2
      have h3 := val_lt (wb.take (n + 1))
      rw [List.length_take, Nat.min_eq_left (by omega)] at h3
      omega
    · exact h0
  obtain ⟨k1, k2, k3⟩ := norm_top _ hpos htop
  rw [← hd] at k1 k2 k3
  have hdB : d < 4294967296 := by
    rw [hd]; exact Nat.div_lt_of_lt_mul (by
      have : 4294967296 * 2 ≤ 4294967296 * ((digs b).getD (n + 1) 0 + 1) := Nat.mul_le_mul_left _ (by omega)
      rw [Nat.mul_comm]
      omega)
  generalize hx : (digs b).getD (n + 1) 0 = x at *
  have e : (digs b).take (n + 2) = digs b := List.take_of_length_le (by omega)
  have hb1 := val_take_succ (digs b) (n + 1)
  rw [show n + 1 + 1 = n + 2 by omega, e, hx, val_digs] at hb1
  have hb2 := val_lt (wb.take (n + 1))
  rw [List.length_take, Nat.min_eq_left (by omega)] at hb2
  have hP : 4294967296 ^ (n + 2) = 4294967296 ^ (n + 1) * 4294967296 := by rw [Nat.pow_succ]
  have up : b * d < 4294967296 ^ (n + 2) := by
    have h1 : b < 4294967296 ^ (n + 1) * (x + 1) := by rw [Nat.mul_add]; omega
    have h2 : b * d < 4294967296 ^ (n + 1) * (x + 1) * d := Nat.mul_lt_mul_of_pos_right h1 k3
    have h3 : 4294967296 ^ (n + 1) * ((x + 1) * d) ≤ 4294967296 ^ (n + 1) * 4294967296 := Nat.mul_le_mul_left _ k2
    rw [Nat.mul_assoc] at h2
    omega
  have low : 4294967296 ^ (n + 1) * 2147483648 ≤ b * d := by
    have h1 : 4294967296 ^ (n + 1) * (x * d) ≤ b * d := by
      rw [← Nat.mul_assoc]
      exact Nat.mul_le_mul_right _ (by omega)
    exact Nat.le_trans (Nat.mul_le_mul_left _ k1) h1
  have wv := WB.digs (b * d)
  have hlen : (digs (b * d)).length = n + 2 := by
    have h1 := val_lt wv
    rw [val_digs] at h1
    rcases Nat.lt_or_ge (n + 1) (digs (b * d)).length with q | q
    · rcases Nat.lt_or_ge (n + 2) (digs (b * d)).length with q2 | q2
      · have h2 := trimL_last (trim_digs (b * d)) (fun e => by rw [e] at q; simp at q)
        rw [val_digs] at h2
        have : 4294967296 ^ (n + 2) ≤ 4294967296 ^ ((digs (b * d)).length - 1) := Nat.pow_le_pow_right (by omega) (by omega)
        omega
      · omega
    · have : 4294967296 ^ (digs (b * d)).length ≤ 4294967296 ^ (n + 1) := Nat.pow_le_pow_right (by omega) q
      have hp : 0 < 4294967296 ^ (n + 1) := Nat.pow_pos (by omega)
      omega
  refine ⟨hlen, ?_, k3, hdB⟩
  have e' : (digs (b * d)).take (n + 2) = digs (b * d) := List.take_of_length_le (by omega)
  have hv1 := val_take_succ (digs (b * d)) (n + 1)
  rw [show n + 1 + 1 = n + 2 by omega, e', val_digs] at hv1
  have hv2 := val_lt (wv.take (n + 1))
  rw [List.length_take, Nat.min_eq_left (by omega)] at hv2
  rcases Nat.lt_or_ge ((digs (b * d)).getD (n + 1) 0) 2147483648 with q | q
  · exfalso
    have h1 : 4294967296 ^ (n + 1) * ((digs (b * d)).getD (n + 1) 0 + 1) ≤ 4294967296 ^ (n + 1) * 2147483648 := Nat.mul_le_mul_left _ q
    rw [Nat.mul_add] at h1
    omega
  · exact q
theorem divided_call (a b : Nat) (hb : b ≠ 0) (hla : (digs a).length < 1099511627775) (hlb : (digs b).length < 1099511627775) :
    ACall Tryz.prog 154 [.sl (wl (digs a)), .sl (wl (digs b))] [.p (.sl (wl (digs (a / b)))), .p (.sl (wl (digs (a % b))))] := by
  refine acall_of_awp (hE [222,223]) Tryz.func154 rfl (by kernel_rfl) [20] ?_
  conv => whnf
  refine ⟨_, compared_call a b (by omega) (by omega), ?_⟩
  conv => whnf
  by_cases hab : a < b
  · rw [show cmpN a b = -1 by simp [cmpN, hab]]
    conv => whnf
    refine ⟨.inl (by rw [Nat.div_eq_of_lt hab]; rfl), ?_⟩
    conv => whnf
    exact ⟨.inl (by rw [Nat.mod_eq_of_lt hab]), trivial⟩
  rw [decide_eq_false (show ¬ cmpN a b < 0 by simp only [cmpN, if_neg hab]; split <;> omega)]
  conv => whnf
  have hbp : 0 < (digs b).length := digs_pos hb
  by_cases h1 : (digs b).length = 1
  · rw [show (((wl (digs b)).length : Int) == 1) = true by simp [wl_len, h1]]
    conv => whnf
    refine obind_of (wl_get (l := digs b) (i := 0) (by omega)) ?_
    conv => whnf
    have hb0 : (digs b)[0]'(by omega) = b := by
      have e := val_take_succ (digs b) 0
      rw [List.take_of_length_le (by omega), val_digs, getD_at (by omega)] at e
      simp [val] at e
      exact e.symm
    have hbB := (WB.digs b).get (i := 0) (by omega)
    rw [hb0] at hbB
    rw [hb0, u64_nn (by omega)]
    refine ⟨_, shortly_call' a b (by omega) (by omega) hbB, ?_⟩
    conv => whnf
    have hr : a % b < b := Nat.mod_lt _ (by omega)
    refine ⟨_, words_call (a % b) (by omega), ?_⟩
    conv => whnf
    refine ⟨.inl (by rfl), ?_⟩
    conv => whnf
    exact ⟨.inl rfl, trivial⟩
  rw [show (((wl (digs b)).length : Int) == 1) = false by simp [wl_len]; omega]
  conv => whnf
  obtain ⟨n, hn⟩ : ∃ n, (digs b).length = n + 2 := ⟨(digs b).length - 2, by omega⟩
  have i1 : IntKind.wrap .i64 (((wl (digs b)).length : Nat) - 1) = ((n + 1 : Nat) : Int) := by rw [wl_len, wi64 (by omega) (by omega)]; omega
  rw [i1]
  conv => whnf
  refine obind_of (wl_at (n + 1) rfl (by omega)) ?_
  conv => whnf
  have htop := (WB.digs b).getD (n + 1)
  have hx := getD_at (l := digs b) (i := n + 1) (by omega)
  rw [← hx]
  obtain ⟨d, hd⟩ : ∃ d, d = 4294967296 / ((digs b).getD (n + 1) 0 + 1) := ⟨_, rfl⟩
  obtain ⟨hv1, hv2, hd0, hdB⟩ := norm_len b n d hn hd
  generalize hxx : (digs b).getD (n + 1) 0 = x at *
  have d0 : IntKind.wrap .u64 (IntKind.wrap .u64 (x : Int) + 1) = ((x + 1 : Nat) : Int) := by rw [u64_nn (by omega), wu64 (by omega) (by omega)]; omega
  rw [d0]
  refine chk_of (p := ((x + 1 : Nat) : Int) ≠ 0) (by omega) ?_
  conv => whnf
  have d1 : IntKind.wrap .u64 (Int.tdiv 4294967296 ((x + 1 : Nat) : Int)) = (d : Int) := by
    rw [show (4294967296 : Int) = ((4294967296 : Nat) : Int) from rfl, u64_div (by omega), hd]
  rw [d1]
  refine ⟨_, words_call d (by omega), ?_⟩
  conv => whnf
  have hdl : (digs d).length ≤ 1 := by
    have := digs_len_mono (show d ≤ 4294967295 by omega)
    have e : (digs 4294967295).length = 1 := by decide
    omega
  refine ⟨_, times_call' b d (by omega) (by omega), ?_⟩
  conv => whnf
  have hlab : (digs b).length ≤ (digs a).length := digs_len_mono (by omega)
  have hlad : (digs (a * d)).length ≤ (digs a).length + 1 := by
    have h2 := val_lt (WB.digs a)
    rw [val_digs] at h2
    have h3 : a * d < 4294967296 ^ ((digs a).length + 1) := by
      rw [Nat.pow_succ]
      exact Nat.lt_of_lt_of_le (Nat.mul_lt_mul_of_pos_right h2 hd0) (Nat.mul_le_mul_left _ (Nat.le_of_lt hdB))
    rcases Nat.lt_or_ge ((digs a).length + 1) (digs (a * d)).length with q | q
    · have h4 := trimL_last (trim_digs (a * d)) (fun e => by rw [e] at q; simp at q)
      rw [val_digs] at h4
      have : 4294967296 ^ ((digs a).length + 1) ≤ 4294967296 ^ ((digs (a * d)).length - 1) := Nat.pow_le_pow_right (by omega) (by omega)
      omega
    · exact q
  have i2 : IntKind.wrap .i64 (((wl (digs a)).length : Nat) + 1) = (((digs a).length + 1 : Nat) : Int) := by rw [wl_len, wi64 (by omega) (by omega)]; omega
  obtain ⟨M, hM⟩ : ∃ M, M = (digs a).length + 1 := ⟨_, rfl⟩
  rw [i2, ← hM]
  conv => whnf
  refine chk_of (rfl) ?_
  conv => whnf
  refine chk_of (by show (4 : Int) * (M : Nat) ≤ 281474976710656; omega) ?_
  conv => whnf
  refine chk_of (by first | omega | (simp only [wl_len, ul_len] at *; omega)) ?_
  conv => whnf
  refine ⟨_, words_call d (by omega), ?_⟩
  conv => whnf
  refine ⟨_, times_call' a d (by omega) (by omega), ?_⟩
  conv => whnf
  refine chk_of (fun e he => wl_one _ e he) ?_
  conv => whnf
  have i3 : IntKind.wrap .i64 (IntKind.wrap .i64 (((wl (digs a)).length : Nat) - ((wl (digs b)).length : Nat)) + 1) = ((M - (n + 2) : Nat) : Int) := by
    rw [wl_len, wl_len, wi64 (n := ((digs a).length : Int) - (digs b).length) (by omega) (by omega), wi64 (by omega) (by omega)]; omega
  obtain ⟨R, hR⟩ : ∃ R, R = M - (n + 2) := ⟨_, rfl⟩
  rw [i3, ← hR]
  conv => whnf
  refine chk_of (rfl) ?_
  conv => whnf
  refine chk_of (by show (4 : Int) * (R : Nat) ≤ 281474976710656; omega) ?_
  conv => whnf
  refine chk_of (by first | omega | (simp only [wl_len, ul_len] at *; omega)) ?_
  conv => whnf
  obtain ⟨N, hN⟩ : ∃ N, N = n + 2 := ⟨_, rfl⟩
  rw [← hN] at hn hv1
  have wv := WB.digs (b * d)
  have vv := val_digs (b * d)
  have hV0 : 0 < b * d := Nat.mul_pos (by omega) hd0
  have hV1 := val_lt wv
  rw [vv, hv1] at hV1
  have hvw := val_lt (WB.digs a)
  rw [val_digs] at hvw
  have hbw : 4294967296 ^ (N - 1) ≤ b := by
    have h2 := trimL_last (trim_digs b) (fun e => by rw [e] at hbp; simp at hbp)
    rwa [val_digs, hn] at h2
  generalize hVV : digs (b * d) = V at *
  have eU : splice (List.replicate M [PV.val (.int .u32 0)]) 0 ((wl (digs (a * d))).take (List.replicate M [PV.val (.int .u32 0)]).length) = wl (digs (a * d) ++ List.replicate (M - (digs (a * d)).length) 0) := by
    rw [List.length_replicate, wl_take, List.take_of_length_le (by omega)]
    simp only [splice, List.take_zero, List.nil_append, Nat.zero_add, wl_len, List.drop_replicate, ← wl_app, ← wl_rep]
  refine ⟨Nat × List Nat × List Nat, fun x => x.1 ≤ R ∧ x.2.1.length = M ∧ WB x.2.1 ∧ x.2.2.length = R ∧ WB x.2.2 ∧ val x.2.1 + 4294967296 ^ x.1 * (b * d * val (x.2.2.drop x.1)) = a * d ∧ val (x.2.1.drop x.1) < b * d, fun x => x.1,
    fun x => ⟨[.p (.sl (wl (digs a))), .p (.sl (wl (digs b))), .top, .top, .top, .top, .top, .top, iI (((wl (digs b)).length : Nat) : Int), iU d, .p (.sl (wl V)), .own 0 1 M, .own 1 1 R, iI ((x.1 : Int) - 1), .top, .top, .top, .top, .top, .top, .top, .top, .top, .top, .top, .top, .top, .top, .top, .top, .top, .top, .top, .top, .top, .top, .top, .top, .top, .top, .top, .top, .top, .top, .top, .top, .top, .top, .top, .top, .top, .top, .top, .top, .top, .top, .top, .top, .top, .top, .top, .top, .top, .top, .top, .top, .top, .top, .top, .top, .top, .top, .top, .top, .top, .top, .top, .top, .top, .top, .top, .top, .top, .top, .top, .top, .top, .top, .top, .top, .top, .top, .top, .top, .top, .top, .top, .top, .top, .top, .top, .top, .top, .top, .top, .top, .top, .top, .top, .top], [some (.row 1 (wl x.2.1) true), some (.row 1 (wl x.2.2) true)]⟩, [], (R, digs (a * d) ++ List.replicate (M - (digs (a * d)).length) 0, List.replicate R 0), ?_, ?_⟩
  · conv => whnf
    repeat ((first | refine ⟨.inl rfl, ?_⟩ | refine ⟨rfl, ?_⟩); conv => whnf)
    refine ⟨.inl (vi (by rw [wl_len, wl_len, hR, wi64 (by omega) (by omega)]; omega)), ?_⟩
    conv => whnf
    refine ⟨.inl (eU), ?_⟩
    conv => whnf
    refine ⟨.inl (by simpa using wl_rep R), ?_⟩
    conv => whnf
    have hlM : (digs (a * d) ++ List.replicate (M - (digs (a * d)).length) 0).length = M := by simp; omega
    have hva : val (digs (a * d) ++ List.replicate (M - (digs (a * d)).length) 0) = a * d := by rw [val_append, val_zeros, val_digs]; omega
    refine ⟨Nat.le_refl _, hlM, (WB.digs _).append (WB.zeros _), by simp, WB.zeros _, ?_, ?_⟩
    · show val (digs (a * d) ++ List.replicate (M - (digs (a * d)).length) 0) + 4294967296 ^ R * (b * d * val ((List.replicate R 0).drop R)) = a * d
      rw [List.drop_of_length_le (by simp), hva]; simp [val]
    · show val ((digs (a * d) ++ List.replicate (M - (digs (a * d)).length) 0).drop R) < b * d
      have h2 := val_drop_parts (digs (a * d) ++ List.replicate (M - (digs (a * d)).length) 0) 0 R (by omega)
      rw [List.drop_zero, hva, Nat.zero_add] at h2
      have h3 : a < b * 4294967296 ^ R := by
        have e : 4294967296 ^ (digs a).length = 4294967296 ^ (N - 1) * 4294967296 ^ R := by rw [← Nat.pow_add]; congr 1; omega
        rw [e] at hvw
        exact Nat.lt_of_lt_of_le hvw (Nat.mul_le_mul_right _ hbw)
      have h4 : a * d < b * 4294967296 ^ R * d := Nat.mul_lt_mul_of_pos_right h3 hd0
      rw [Nat.mul_right_comm, Nat.mul_comm (b * d)] at h4
      exact Nat.lt_of_mul_lt_mul_left (a := 4294967296 ^ R) (by omega)
  · rintro ⟨k, u, qs⟩ ⟨h2, h3, h4, h5, h6, h7, h8⟩
    simp only at h2 h3 h4 h5 h6 h7 h8
    refine atS (s' := ⟨[.p (.sl (wl (digs a))), .p (.sl (wl (digs b))), .top, .top, .top, .top, .top, .top, iI (((wl (digs b)).length : Nat) : Int), iU d, .p (.sl (wl V)), .own 0 1 M, .own 1 1 R, iI ((k : Int) - 1), .top, .top, .top, .top, .top, .top, .top, .top, .top, .top, .top, .top, .top, .top, .top, .top, .top, .top, .top, .top, .top, .top, .top, .top, .top, .top, .top, .top, .top, .top, .top, .top, .top, .top, .top, .top, .top, .top, .top, .top, .top, .top, .top, .top, .top, .top, .top, .top, .top, .top, .top, .top, .top, .top, .top, .top, .top, .top, .top, .top, .top, .top, .top, .top, .top, .top, .top, .top, .top, .top, .top, .top, .top, .top, .top, .top, .top, .top, .top, .top, .top, .top, .top, .top, .top, .top, .top, .top, .top, .top, .top, .top, .top, .top, .top, .top], [some (.row 1 (wl u) true), some (.row 1 (wl qs) true)]⟩) rfl ?_
    conv => whnf
    cases k with
    | zero =>
      conv => whnf
      refine ⟨_, trim_call' u h4 (by omega), ?_⟩
      conv => whnf
      refine ⟨_, shortly_call' (val u) d (by rw [← digs_of h4]; have := trimL_len u; omega) hd0 hdB, ?_⟩
      conv => whnf
      refine ⟨_, trim_call' qs h6 (by omega), ?_⟩
      conv => whnf
      simp only [List.drop_zero, Nat.pow_zero, Nat.one_mul] at h7 h8
      have hQ : val qs = a / b := by
        have e1 : a * d / (b * d) = a / b := Nat.mul_div_mul_right _ _ hd0
        rw [← e1, ← h7, Nat.add_mul_div_left _ _ hV0, Nat.div_eq_of_lt h8]; omega
      have hRm : val u / d = a % b := by
        have e1 : a * d % (b * d) = a % b * d := Nat.mul_mod_mul_right _ _ _
        have e2 : val u = a * d % (b * d) := by rw [← h7, Nat.add_mul_mod_self_left, Nat.mod_eq_of_lt h8]
        rw [e2, e1, Nat.mul_div_cancel _ hd0]
      refine ⟨.inl (by rw [hQ]), ?_⟩
      conv => whnf
      exact ⟨.inl (by rw [hRm]), trivial⟩
    | succ k =>
      rw [show ((k + 1 : Nat) : Int) - 1 = (k : Int) by omega]
      conv => whnf
      have i4 : IntKind.wrap .i64 (IntKind.wrap .i64 ((k : Int) + ((wl (digs b)).length : Nat)) + 1) = ((k + N + 1 : Nat) : Int) := by
        rw [wl_len, wi64 (n := (k : Int) + (digs b).length) (by omega) (by omega), wi64 (by omega) (by omega)]; omega
      rw [i4]
      refine chk_of (by first | omega | (simp only [wl_len, ul_len] at *; omega)) ?_
      conv => whnf
      refine chk_of (by first | omega | (simp only [wl_len, ul_len] at *; omega)) ?_
      conv => whnf
      refine chk_of (by first | omega | (simp only [wl_len, ul_len] at *; omega)) ?_
      conv => whnf
      have i5 : (((k + N + 1 : Nat) : Int) - (k : Int)).toNat = N + 1 := by omega
      rw [i5]
      have eW : List.take (N + 1) (List.drop (k : Int).toNat (wl u)) = wl ((u.drop k).take (N + 1)) := by
        rw [show (k : Int).toNat = k by omega, wl_drop, wl_take]
      rw [eW]
      have wus : WB ((u.drop k).take (N + 1)) := fun x hx => h4 x (List.mem_of_mem_drop (List.mem_of_mem_take hx))
      have hlus : ((u.drop k).take (N + 1)).length = V.length + 1 := by rw [List.length_take, List.length_drop]; omega
      have hv2' : 2147483648 ≤ V.getD (V.length - 1) 0 := by rw [hv1, show N - 1 = n + 1 by omega]; exact hv2
      have t1 := val_drop_parts u k (N + 1) (by omega)
      have t2 := val_drop_parts u (k + 1) N (by omega)
      have t3 := val_drop u k (by omega)
      have t4 := val_parts u k (N + 1) (by omega)
      have hz : val (u.drop (k + 1 + N)) = 0 := by
        rcases Nat.eq_zero_or_pos (val (u.drop (k + 1 + N))) with h | h
        · exact h
        · have : 4294967296 ^ N * 1 ≤ 4294967296 ^ N * val (u.drop (k + 1 + N)) := Nat.mul_le_mul_left _ h
          omega
      rw [show k + (N + 1) = k + 1 + N by omega, hz] at t1 t4
      have hWB : sv u k (N + 1) < 4294967296 * (b * d) := by
        have := h4.get (i := k) (by omega)
        omega
      obtain ⟨q1, q2, q3⟩ := gqL_spec _ V wus wv (by omega) hlus hv2' (show val ((u.drop k).take (N + 1)) < 4294967296 * val V by rw [vv]; exact hWB)
      rw [vv] at q2 q3
      refine ⟨_, guess_call _ V wus wv (by omega) hlus (by omega) hv2', ?_⟩
      conv => whnf
      generalize gqL ((u.drop k).take (N + 1)) V = g at *
      refine ⟨Nat × List Nat, fun x => x.1 < 4294967296 ∧ x.2.length = M ∧ WB x.2 ∧ (∀ p, p < k ∨ k + N + 1 ≤ p → x.2.getD p 0 = u.getD p 0) ∧ sv x.2 k (N + 1) + x.1 * (b * d) = sv u k (N + 1) ∧ sv x.2 k (N + 1) < b * d,
        fun x => ⟨[.p (.sl (wl (digs a))), .p (.sl (wl (digs b))), .top, .top, .top, .top, .top, .top, iI (((wl (digs b)).length : Nat) : Int), iU d, .p (.sl (wl V)), .own 0 1 M, .own 1 1 R, iI (k : Int), .top, iU x.1, .top, .top, .top, .top, .top, .top, .top, .top, .top, .top, .top, .top, .top, .top, .top, .top, .top, .top, .top, .top, .top, .top, .top, .top, .top, .top, .top, .top, .top, .top, .top, .top, .top, .top, .top, .top, .top, .top, .top, .top, .top, .top, .top, .top, .top, .top, .top, .top, .top, .top, .top, .top, .top, .top, .top, .top, .top, .top, .top, .top, .top, .top, .top, .top, .top, .top, .top, .top, .top, .top, .top, .top, .top, .top, .top, .top, .top, .top, .top, .top, .top, .top, .top, .top, .top, .top, .top, .top, .top, .top, .top, .top, .top, .top], [some (.row 1 (wl x.2) true), some (.row 1 (wl qs) true)]⟩, ?_, ?_⟩
      · conv => whnf
        refine SCall.mono (lessen_call u V qs k g N h4 wv hv1 (by omega) (by omega) q1) ?_
        rintro xs m' ⟨u', hxs, rfl, f1, f2, f3, f4⟩
        rw [vv] at f4 hxs
        have q2' : sv u k (N + 1) < (g + 1) * (b * d) := q2
        have q3' : g * (b * d) < sv u k (N + 1) + b * d := q3
        generalize hbb : decide (sv u k (N + 1) < g * (b * d)) = bb at hxs
        subst hxs
        cases bb with
        | true =>
          have hlt : sv u k (N + 1) < g * (b * d) := of_decide_eq_true hbb
          conv => whnf
          rw [if_pos hlt] at f4
          have hg1 : 1 ≤ g := by
            rcases Nat.eq_zero_or_pos g with h | h
            · subst h; omega
            · exact h
          refine SCall.mono (restore_call u' V qs k N f2 wv hv1 (by omega) (by omega)) ?_
          rintro xs m' ⟨u2, c, rfl, rfl, r1, r2, r3, r4⟩
          conv => whnf
          refine ⟨[], (g - 1, u2), ?_⟩
          conv => whnf
          repeat ((first | refine ⟨.inl rfl, ?_⟩ | refine ⟨rfl, ?_⟩); conv => whnf)
          refine ⟨.inl (vi (by rw [wu64 (by omega) (by omega)]; simp only; omega)), ?_⟩
          conv => whnf
          repeat ((first | refine ⟨.inl rfl, ?_⟩ | refine ⟨rfl, ?_⟩); conv => whnf)
          have e1 : (g - 1) * (b * d) + b * d = g * (b * d) := by
            rw [← Nat.succ_mul]; congr 1; omega
          have b2 := sv_lt r2 k (N + 1)
          rw [vv] at r4
          have hP : 4294967296 ^ (N + 1) = 4294967296 ^ N * 4294967296 := by rw [Nat.pow_succ]
          have hc : c = 1 := by
            rcases Nat.lt_or_ge c 2 with h | h
            · rcases Nat.eq_zero_or_pos c with h0 | h0
              · subst h0; omega
              · omega
            · have : 4294967296 ^ (N + 1) * 2 ≤ 4294967296 ^ (N + 1) * c := Nat.mul_le_mul_left _ h
              omega
          subst hc
          exact ⟨by simp only; omega, by simp only; omega, r2, fun p hp => by rw [r3 p (by omega), f3 p (by omega)], by simp only; omega, by simp only; omega⟩
        | false =>
          have hlt : ¬ sv u k (N + 1) < g * (b * d) := of_decide_eq_false hbb
          conv => whnf
          rw [if_neg hlt] at f4
          refine ⟨[], (g, u'), ?_⟩
          conv => whnf
          repeat ((first | refine ⟨.inl rfl, ?_⟩ | refine ⟨rfl, ?_⟩); conv => whnf)
          have e1 : (g + 1) * (b * d) = g * (b * d) + b * d := Nat.succ_mul _ _
          exact ⟨q1, by simp only; omega, f2, fun p hp => f3 p (by omega), by simp only; omega, by simp only; omega⟩
      · rintro ⟨dg, u2⟩ ⟨r1, r2, r3, r4, r5, r6⟩
        simp only at r1 r2 r3 r4 r5 r6
        conv => whnf
        have wdg : u2.length = M := r2
        refine chk_of (by first | omega | (simp only [wl_len, ul_len] at *; omega)) ?_
        conv => whnf
        refine chk_of (by first | omega | (simp only [wl_len, ul_len] at *; omega)) ?_
        conv => whnf
        refine ⟨(k, u2, qs.set k dg), ?_⟩
        conv => whnf
        repeat ((first | refine ⟨.inl rfl, ?_⟩ | refine ⟨rfl, ?_⟩); conv => whnf)
        refine ⟨.inl (vi (by simp only; rw [wi64 (by omega) (by omega)])), ?_⟩
        conv => whnf
        repeat ((first | refine ⟨.inl rfl, ?_⟩ | refine ⟨rfl, ?_⟩); conv => whnf)
        refine ⟨.inl (wl_set' (l := qs) (i := (k : Int)) rfl (u32_nn r1)), ?_⟩
        conv => whnf
        have hqk : k < qs.length := by omega
        have e1 : (qs.set k dg).drop k = dg :: qs.drop (k + 1) := by
          rw [List.drop_eq_getElem_cons (by simpa using hqk), List.getElem_set_self, List.drop_set_of_lt (by omega)]
        have e2 : u2.drop (k + 1 + N) = u.drop (k + 1 + N) := drop_congr (by omega) fun p hp => r4 p (by omega)
        have e3 : u2.take k = u.take k := take_congr (by omega) fun p hp => r4 p (.inl hp)
        have t5 := val_parts u2 k (N + 1) (by omega)
        have t6 := val_drop_parts u2 k (N + 1) (by omega)
        rw [show k + (N + 1) = k + 1 + N by omega, e2, hz, Nat.mul_zero, Nat.add_zero] at t5 t6
        rw [Nat.mul_zero, Nat.add_zero] at t4
        rw [e3] at t5
        refine ⟨⟨by simp only; omega, r2, r3, by simpa using h5, h6.set _ r1, ?_, ?_⟩, by simp only; omega⟩
        · show val u2 + 4294967296 ^ k * (b * d * val ((qs.set k dg).drop k)) = a * d
          rw [e1, t5, ← h7, t4, ← r5, Nat.pow_succ]
          simp only [val]
          generalize val (qs.drop (k + 1)) = z
          generalize sv u2 k (N + 1) = y
          generalize val (u.take k) = x
          generalize 4294967296 ^ k = P
          generalize b * d = D
          grind
        · show val (u2.drop k) < b * d
          rw [t6]; exact r6
end Go.Am

set_option linter.unusedVariables false
set_option linter.unusedSimpArgs false
namespace Go.Am
open Go Go.Proofs
set_option maxRecDepth 100000
set_option maxHeartbeats 1000000
/-- Numbers that fit into memory by far. -/
def FitN (n : Nat) : Prop := (digs n).length < 1099511627000
def Fit (z : Int) : Prop := FitN z.natAbs
theorem FitN.le {m n : Nat} (h : FitN n) (hm : m ≤ n) : FitN m := Nat.lt_of_le_of_lt (digs_len_mono hm) h
theorem digs_len_of {n L : Nat} (h : n < 4294967296 ^ L) : (digs n).length ≤ L := by
  rcases Nat.lt_or_ge L (digs n).length with q | q
  · have h4 := trimL_last (trim_digs n) (fun e => by rw [e] at q; simp at q)
    rw [val_digs] at h4
    have : 4294967296 ^ L ≤ 4294967296 ^ ((digs n).length - 1) := Nat.pow_le_pow_right (by omega) (by omega)
    omega
  · exact q
theorem FitN.of {n : Nat} (L : Nat) (h : n < 4294967296 ^ L) (hL : L < 1099511627000) : FitN n := Nat.lt_of_le_of_lt (digs_len_of h) hL
theorem FitN.small {n : Nat} (h : n < 340282366920938463463374607431768211456) : FitN n := .of 4 (by omega) (by omega)
theorem number_digs {n : Nat} (h : (digs n).length ≤ 2) : (digs n).getD 1 0 * 4294967296 + (digs n).getD 0 0 = n := by
  have e : (digs n).take 2 = digs n := List.take_of_length_le h
  have h1 := val_take_succ (digs n) 1
  have h2 := val_take_succ (digs n) 0
  rw [e, val_digs] at h1
  simp [val] at h1 h2
  rw [h2] at h1
  simp only [List.getD_eq_getElem?_getD]
  omega
theorem small_of_len {n : Nat} (h : (digs n).length ≤ 2) : n < 18446744073709551616 := by
  have h1 := val_lt (WB.digs n)
  rw [val_digs] at h1
  have : 4294967296 ^ (digs n).length ≤ 4294967296 ^ 2 := Nat.pow_le_pow_right (by omega) h
  omega
theorem euclid_call (a b : Nat) (ha : a < 18446744073709551616) (hb : b < 18446744073709551616) : ACall Tryz.prog 218 [nU a, nU b] [.p (nU (Nat.gcd a b : Nat))] := by
  refine acall_of_awp (hE []) Tryz.func218 rfl (by kernel_rfl) [] ?_
  conv => whnf
  refine ⟨Nat × Nat, fun x => x.1 < 18446744073709551616 ∧ x.2 < 18446744073709551616 ∧ Nat.gcd x.1 x.2 = Nat.gcd a b, fun x => x.2,
    fun x => ⟨[iU x.1, iU x.2, .top, .top, .top, .top, .top, .top, .top, .top, .top, .top, .top, .top], []⟩, [], (a, b), ?_, ?_⟩
  · conv => whnf
    repeat ((first | refine ⟨.inl rfl, ?_⟩ | refine ⟨rfl, ?_⟩); conv => whnf)
    exact ⟨ha, hb, rfl⟩
  · rintro ⟨x, y⟩ ⟨h1, h2, h3⟩
    simp only at h1 h2 h3
    refine atS (s' := ⟨[iU x, iU y, .top, .top, .top, .top, .top, .top, .top, .top, .top, .top, .top, .top], []⟩) rfl ?_
    conv => whnf
    cases y with
    | zero =>
      conv => whnf
      refine ⟨.inl (vi ?_), trivial⟩
      rw [← h3, Nat.gcd_zero_right]
    | succ y =>
      rw [decide_eq_true (show ((y + 1 : Nat) : Int) > 0 by omega)]
      conv => whnf
      refine ⟨(y + 1, x % (y + 1)), ?_⟩
      conv => whnf
      repeat ((first | refine ⟨.inl rfl, ?_⟩ | refine ⟨rfl, ?_⟩); conv => whnf)
      have := Nat.mod_lt x (show 0 < y + 1 by omega)
      exact ⟨⟨h2, by simp only; omega, by simp only; rw [← h3, Nat.gcd_comm x, Nat.gcd_rec (y + 1) x, Nat.gcd_comm]⟩, this⟩
theorem common_call (a b : Nat) (ha : FitN a) (hb : FitN b) : ACall Tryz.prog 153 [.sl (wl (digs a)), .sl (wl (digs b))] [.p (.sl (wl (digs (Nat.gcd a b))))] := by
  refine acall_of_awp (hE []) Tryz.func153 rfl (by kernel_rfl) [4] ?_
  conv => whnf
  refine ⟨Nat × Nat, fun x => FitN x.1 ∧ FitN x.2 ∧ Nat.gcd x.1 x.2 = Nat.gcd a b, fun x => x.2,
    fun x => ⟨[.p (.sl (wl (digs x.1))), .p (.sl (wl (digs x.2))), .top, .top, .top, .top, .top, .top, .top, .top, .top, .top, .top, .top, .top, .top, .top, .top, .top, .top, .top, .top, .top, .top, .top, .top, .top, .top, .top, .top, .top, .top, .top], []⟩, [], (a, b), ?_, ?_⟩
  · conv => whnf
    repeat ((first | refine ⟨.inl rfl, ?_⟩ | refine ⟨rfl, ?_⟩); conv => whnf)
    exact ⟨ha, hb, rfl⟩
  · rintro ⟨x, y⟩ ⟨h1, h2, h3⟩
    simp only at h1 h2 h3
    have k1 : (digs x).length < 1099511627000 := h1
    have k2 : (digs y).length < 1099511627000 := h2
    refine atS (s' := ⟨[.p (.sl (wl (digs x))), .p (.sl (wl (digs y))), .top, .top, .top, .top, .top, .top, .top, .top, .top, .top, .top, .top, .top, .top, .top, .top, .top, .top, .top, .top, .top, .top, .top, .top, .top, .top, .top, .top, .top, .top, .top], []⟩) rfl ?_
    by_cases hy : y = 0
    · subst hy
      conv => whnf
      refine ⟨.inl ?_, trivial⟩
      rw [← h3, Nat.gcd_zero_right]
    · have hp := digs_pos hy
      conv => whnf
      rw [decide_eq_true (show ((wl (digs y)).length : Int) > 0 by rw [wl_len]; omega)]
      conv => whnf
      refine ⟨Unit, fun _ => True, fun _ => ⟨[.p (.sl (wl (digs x))), .p (.sl (wl (digs y))), .top, .top, .top, .top, .top, .top, .top, .top, .top, .top, .top, .top, .top, .top, .top, .top, .top, .top, .top, .top, .top, .top, .top, .top, .top, .top, .top, .top, .top, .top, .top], []⟩, ?_, ?_⟩
      · conv => whnf
        by_cases hs : (digs x).length ≤ 2
        · rw [decide_eq_true (show ((wl (digs x)).length : Int) ≤ 2 by rw [wl_len]; omega)]
          conv => whnf
          by_cases hs2 : (digs y).length ≤ 2
          · rw [decide_eq_true (show ((wl (digs y)).length : Int) ≤ 2 by rw [wl_len]; omega)]
            conv => whnf
            refine ⟨_, number_call _ (WB.digs x), ?_⟩
            conv => whnf
            rw [number_digs hs]
            refine ⟨_, number_call _ (WB.digs y), ?_⟩
            conv => whnf
            rw [number_digs hs2]
            refine ⟨_, euclid_call x y (small_of_len hs) (small_of_len hs2), ?_⟩
            conv => whnf
            have hg : Nat.gcd x y ≤ y := Nat.gcd_le_right _ (by omega)
            have := small_of_len hs2
            refine ⟨_, words_call (Nat.gcd x y) (by omega), ?_⟩
            conv => whnf
            exact ⟨.inl (by rw [h3]), trivial⟩
          · rw [decide_eq_false (show ¬ ((wl (digs y)).length : Int) ≤ 2 by rw [wl_len]; omega)]
            conv => whnf
            refine ⟨[], (), ?_⟩
            conv => whnf
            repeat ((first | refine ⟨.inl rfl, ?_⟩ | refine ⟨rfl, ?_⟩); conv => whnf)
            trivial
        · rw [decide_eq_false (show ¬ ((wl (digs x)).length : Int) ≤ 2 by rw [wl_len]; omega)]
          conv => whnf
          refine ⟨[], (), ?_⟩
          conv => whnf
          repeat ((first | refine ⟨.inl rfl, ?_⟩ | refine ⟨rfl, ?_⟩); conv => whnf)
          trivial
      · rintro _ _
        conv => whnf
        refine ⟨_, divided_call x y hy (by omega) (by omega), ?_⟩
        conv => whnf
        refine ⟨(y, x % y), ?_⟩
        conv => whnf
        repeat ((first | refine ⟨.inl rfl, ?_⟩ | refine ⟨rfl, ?_⟩); conv => whnf)
        have hm := Nat.mod_lt x (show 0 < y by omega)
        exact ⟨⟨h2, h2.le (Nat.le_of_lt hm), by simp only; rw [← h3, Nat.gcd_comm x, Nat.gcd_rec y x, Nat.gcd_comm]⟩, hm⟩
/-- A number by its sign and its absolute value. -/
theorem intC_cases (z : Int) : ∃ (s : Bool) (n : Nat), intC z = [.val (.bool s), .sl (wl (digs n))] ∧ z = (if s then -(n : Int) else n) ∧ (s = true → n ≠ 0) ∧ z.natAbs = n := by
  by_cases h : z < 0
  · exact ⟨true, z.natAbs, by simp [intC, h], by simp; omega, fun _ => by omega, rfl⟩
  · exact ⟨false, z.natAbs, by simp [intC, h], by simp; omega, fun h => by simp at h, rfl⟩
theorem made_call' (s : Bool) (n : Nat) (h : (digs n).length < 1099511627776) : ACall Tryz.prog 111 [.val (.bool s), .sl (wl (digs n))] [.p (.agg (intC (if s then -(n : Int) else n)))] := by
  have := made_call s (digs n) (WB.digs n) h
  rwa [val_digs] at this
end Go.Am

set_option linter.unusedVariables false
set_option linter.unusedSimpArgs false
namespace Go.Am
open Go Go.Proofs
set_option maxRecDepth 100000
set_option maxHeartbeats 1000000
def ln (z : Int) : Nat := (digs z.natAbs).length
theorem ln_le {z : Int} {L : Nat} (h : z.natAbs < 4294967296 ^ L) : ln z ≤ L := digs_len_of h
theorem ln_lt (z : Int) : z.natAbs < 4294967296 ^ ln z := by
  have := val_lt (WB.digs z.natAbs)
  rwa [val_digs] at this
theorem ln_mul (a b : Int) : ln (a * b) ≤ ln a + ln b := ln_le (by
  rw [Int.natAbs_mul, Nat.pow_add]
  exact Nat.mul_lt_mul_of_lt_of_le (ln_lt a) (Nat.le_of_lt (ln_lt b)) (by have := ln_lt b; omega))
theorem ln_mono {a b : Int} (h : a.natAbs ≤ b.natAbs) : ln a ≤ ln b := digs_len_mono h
theorem ln_neg (a : Int) : ln (-a) = ln a := by simp [ln]
theorem ln_add (a b : Int) : ln (a + b) ≤ max (ln a) (ln b) + 1 := ln_le (by
  have h1 := ln_lt a
  have h2 := ln_lt b
  have h3 : 4294967296 ^ ln a ≤ 4294967296 ^ max (ln a) (ln b) := Nat.pow_le_pow_right (by omega) (by omega)
  have h4 : 4294967296 ^ ln b ≤ 4294967296 ^ max (ln a) (ln b) := Nat.pow_le_pow_right (by omega) (by omega)
  rw [Nat.pow_succ]
  omega)
theorem intC_eq {z z' : Int} (h : z = z') : PV.agg [.val (.bool (decide (z < 0))), .sl (wl (digs z.natAbs))] = PV.agg (intC z') := by subst h; rfl
theorem of_call (n : Int) (h0 : -9223372036854775808 ≤ n) (h1 : n < 9223372036854775808) : ACall Tryz.prog 38 [nI n] [.p (.agg (intC n))] := by
  refine acall_of_awp (hE []) Tryz.func38 rfl (by kernel_rfl) [] ?_
  conv => whnf
  by_cases hn : n < 0
  · rw [decide_eq_true hn]
    conv => whnf
    have e1 : IntKind.wrap .u64 (IntKind.wrap .u64 (IntKind.wrap .i64 (0 - IntKind.wrap .i64 (n + 1))) + 1) = ((n.natAbs : Nat) : Int) := by
      rw [wi64 (n := n + 1) (by omega) (by omega), wi64 (by omega) (by omega), wu64 (n := 0 - (n + 1)) (by omega) (by omega), wu64 (by omega) (by omega)]; omega
    rw [e1]
    refine ⟨_, words_call n.natAbs (by omega), ?_⟩
    conv => whnf
    refine ⟨_, made_call' true n.natAbs (by have := digs_len_of (n := n.natAbs) (L := 2) (by omega); omega), ?_⟩
    conv => whnf
    exact ⟨.inl (intC_eq (by simp; omega)), trivial⟩
  · rw [decide_eq_false hn]
    conv => whnf
    have e1 : IntKind.wrap .u64 n = ((n.natAbs : Nat) : Int) := by rw [wu64 (by omega) (by omega)]; omega
    rw [e1]
    refine ⟨_, words_call n.natAbs (by omega), ?_⟩
    conv => whnf
    refine ⟨_, made_call' false n.natAbs (by have := digs_len_of (n := n.natAbs) (L := 2) (by omega); omega), ?_⟩
    conv => whnf
    exact ⟨.inl (intC_eq (by simp; omega)), trivial⟩
theorem neg_call (z : Int) (h : ln z < 1099511627000) : ACall Tryz.prog 58 [.agg (intC z)] [.p (.agg (intC (-z)))] := by
  obtain ⟨s, n, e, hz, hs, hn⟩ := intC_cases z
  have hl : (digs n).length < 1099511627000 := by rw [← hn]; exact h
  rw [e]
  refine acall_of_awp (hE []) Tryz.func58 rfl (by kernel_rfl) [] ?_
  conv => whnf
  refine ⟨_, made_call' (!s) n (by omega), ?_⟩
  conv => whnf
  refine ⟨.inl (intC_eq ?_), trivial⟩
  rw [hz]
  cases s <;> simp
theorem add_call (a b : Int) (ha : ln a < 1099511627000) (hb : ln b < 1099511627000) : ACall Tryz.prog 36 [.agg (intC a), .agg (intC b)] [.p (.agg (intC (a + b)))] := by
  obtain ⟨s, m, e, hz, hs, hm⟩ := intC_cases a
  obtain ⟨t, n, e', hz', ht, hn⟩ := intC_cases b
  have hl : (digs m).length < 1099511627000 := by rw [← hm]; exact ha
  have hl' : (digs n).length < 1099511627000 := by rw [← hn]; exact hb
  have hsum : (digs (m + n)).length < 1099511627776 := by
    have := ln_add (m : Int) (n : Int)
    rw [← Int.natCast_add] at this
    simp only [ln, Int.natAbs_natCast] at this
    omega
  rw [e, e']
  have add1 := added_call (digs m) (digs n) (WB.digs m) (WB.digs n) (by omega) (by omega)
  rw [val_digs, val_digs] at add1
  by_cases hst : s = t
  · subst hst
    refine acall_of_awp (hE []) Tryz.func36 rfl (by kernel_rfl) [] ?_
    conv => whnf
    rw [show (s == s) = true by simp]
    refine ⟨by kernel_rfl, ?_⟩
    conv => whnf
    refine ⟨_, add1, ?_⟩
    conv => whnf
    refine ⟨_, made_call' s (m + n) hsum, ?_⟩
    conv => whnf
    refine ⟨.inl (by kernel_rfl), ?_⟩
    conv => whnf
    refine ⟨.inl (intC_eq ?_), trivial⟩
    rw [hz, hz']
    cases s <;> simp <;> omega
  · have hbeq : (s == t) = false := by simpa using hst
    have hts : t = !s := by cases s <;> cases t <;> simp at hst ⊢
    have tk1 : n ≤ m → ACall Tryz.prog 114 [.sl (wl (digs m)), .sl (wl (digs n))] [.p (.sl (wl (digs (m - n))))] := fun h => by
      have := taken_call (digs m) (digs n) (WB.digs m) (WB.digs n) (by omega) (digs_len_mono h) (by rw [val_digs, val_digs]; exact h)
      rwa [val_digs, val_digs] at this
    have tk2 : m ≤ n → ACall Tryz.prog 114 [.sl (wl (digs n)), .sl (wl (digs m))] [.p (.sl (wl (digs (n - m))))] := fun h => by
      have := taken_call (digs n) (digs m) (WB.digs n) (WB.digs m) (by omega) (digs_len_mono h) (by rw [val_digs, val_digs]; exact h)
      rwa [val_digs, val_digs] at this
    refine acall_of_awp (hE []) Tryz.func36 rfl (by kernel_rfl) [] ?_
    conv => whnf
    rw [hbeq]
    conv => whnf
    refine ⟨_, compared_call m n (by omega) (by omega), ?_⟩
    conv => whnf
    by_cases hmn : m < n
    · rw [show cmpN m n = -1 by simp [cmpN, hmn]]
      conv => whnf
      refine ⟨by kernel_rfl, ?_⟩
      conv => whnf
      refine ⟨_, tk2 (by omega), ?_⟩
      conv => whnf
      refine ⟨_, made_call' t (n - m) (by have := digs_len_mono (show n - m ≤ n by omega); omega), ?_⟩
      conv => whnf
      refine ⟨.inl (by kernel_rfl), ?_⟩
      conv => whnf
      refine ⟨.inl (intC_eq ?_), trivial⟩
      rw [hz, hz', hts]
      cases s <;> simp <;> omega
    · rw [decide_eq_false (show ¬ cmpN m n < 0 by simp only [cmpN, if_neg hmn]; split <;> omega)]
      conv => whnf
      refine ⟨by kernel_rfl, ?_⟩
      conv => whnf
      refine ⟨_, tk1 (by omega), ?_⟩
      conv => whnf
      refine ⟨_, made_call' s (m - n) (by have := digs_len_mono (show m - n ≤ m by omega); omega), ?_⟩
      conv => whnf
      refine ⟨.inl (by kernel_rfl), ?_⟩
      conv => whnf
      refine ⟨.inl (intC_eq ?_), trivial⟩
      rw [hz, hz', hts]
      cases s <;> simp <;> omega
theorem sub_call (a b : Int) (ha : ln a < 1099511627000) (hb : ln b < 1099511627000) : ACall Tryz.prog 110 [.agg (intC a), .agg (intC b)] [.p (.agg (intC (a - b)))] := by
  refine acall_of_awp (hE []) Tryz.func110 rfl (by kernel_rfl) [] ?_
  conv => whnf
  refine ⟨by kernel_rfl, ?_⟩
  conv => whnf
  refine ⟨_, neg_call b hb, ?_⟩
  conv => whnf
  refine ⟨_, add_call a (-b) ha (by rw [ln_neg]; exact hb), ?_⟩
  conv => whnf
  refine ⟨.inl (by kernel_rfl), ?_⟩
  conv => whnf
  exact ⟨.inl (intC_eq (by rw [Int.sub_eq_add_neg])), trivial⟩
theorem mul_call (a b : Int) (h : ln a + ln b < 1099511627000) : ACall Tryz.prog 37 [.agg (intC a), .agg (intC b)] [.p (.agg (intC (a * b)))] := by
  obtain ⟨s, m, e, hz, hs, hm⟩ := intC_cases a
  obtain ⟨t, n, e', hz', ht, hn⟩ := intC_cases b
  have hl : (digs m).length + (digs n).length < 1099511627000 := by rw [← hm, ← hn]; exact h
  have hprod : (digs (m * n)).length < 1099511627776 := by
    have := ln_mul (m : Int) (n : Int)
    rw [← Int.natCast_mul] at this
    simp only [ln, Int.natAbs_natCast] at this
    omega
  rw [e, e']
  refine acall_of_awp (hE []) Tryz.func37 rfl (by kernel_rfl) [] ?_
  conv => whnf
  refine ⟨by kernel_rfl, ?_⟩
  conv => whnf
  refine ⟨_, times_call' m n (by omega) (by omega), ?_⟩
  conv => whnf
  refine ⟨_, made_call' (s != t) (m * n) hprod, ?_⟩
  conv => whnf
  refine ⟨.inl (by kernel_rfl), ?_⟩
  conv => whnf
  refine ⟨.inl (intC_eq ?_), trivial⟩
  rw [hz, hz']
  cases s <;> cases t <;> simp [Int.neg_mul, Int.mul_neg]
end Go.Am

set_option linter.unusedVariables false
set_option linter.unusedSimpArgs false
namespace Go.Am
open Go Go.Proofs
set_option maxRecDepth 100000
set_option maxHeartbeats 1000000
def sgn (z : Int) : Int := if z < 0 then -1 else if z = 0 then 0 else 1
def cmpZ (a b : Int) : Int := if a < b then -1 else if b < a then 1 else 0
theorem sign_call (z : Int) : ACall Tryz.prog 57 [.agg (intC z)] [.p (nI (sgn z))] := by
  obtain ⟨s, n, e, hz, hs, hn⟩ := intC_cases z
  rw [e]
  cases s with
  | true =>
    refine acall_of_awp (hE []) Tryz.func57 rfl (by kernel_rfl) [] ?_
    conv => whnf
    refine ⟨.inl (vi ?_), trivial⟩
    have := hs rfl
    have : z < 0 := by rw [hz]; simp; omega
    simp [sgn, this]
  | false =>
    have hz : z = n := by simpa using hz
    have hp := @digs_nil n
    refine acall_of_awp (hE []) Tryz.func57 rfl (by kernel_rfl) [] ?_
    conv => whnf
    refine ⟨.inl (vi ?_), trivial⟩
    rw [wl_len]
    by_cases h0 : n = 0
    · subst h0; simp [sgn, hz, digs_zero]
    · have := digs_pos h0
      simp only [sgn]
      rw [if_neg (show ¬ z < 0 by omega), if_neg (show ¬ z = 0 by omega)]
      split <;> omega
theorem cmp_call (a b : Int) (ha : ln a < 1099511627000) (hb : ln b < 1099511627000) : ACall Tryz.prog 42 [.agg (intC a), .agg (intC b)] [.p (nI (cmpZ a b))] := by
  obtain ⟨s, m, e, hz, hs, hm⟩ := intC_cases a
  obtain ⟨t, n, e', hz', ht, hn⟩ := intC_cases b
  have hl : (digs m).length < 1099511627000 := by rw [← hm]; exact ha
  have hl' : (digs n).length < 1099511627000 := by rw [← hn]; exact hb
  rw [e, e']
  cases s <;> cases t
  · refine acall_of_awp (hE []) Tryz.func42 rfl (by kernel_rfl) [] ?_
    conv => whnf
    refine ⟨_, compared_call m n (by omega) (by omega), ?_⟩
    conv => whnf
    refine ⟨.inl (vi ?_), trivial⟩
    simp at hz hz'
    simp only [cmpN, cmpZ, hz, hz', Int.ofNat_lt]
  · refine acall_of_awp (hE []) Tryz.func42 rfl (by kernel_rfl) [] ?_
    conv => whnf
    refine ⟨.inl (vi ?_), trivial⟩
    have := ht rfl
    simp at hz hz'
    simp only [cmpZ]
    rw [if_neg (by omega), if_pos (by omega)]
  · refine acall_of_awp (hE []) Tryz.func42 rfl (by kernel_rfl) [] ?_
    conv => whnf
    refine ⟨.inl (vi ?_), trivial⟩
    have := hs rfl
    simp at hz hz'
    simp only [cmpZ]
    rw [if_pos (by omega)]
  · refine acall_of_awp (hE []) Tryz.func42 rfl (by kernel_rfl) [] ?_
    conv => whnf
    refine ⟨_, compared_call n m (by omega) (by omega), ?_⟩
    conv => whnf
    refine ⟨.inl (vi ?_), trivial⟩
    simp at hz hz'
    simp only [cmpN, cmpZ, hz, hz']
    (repeat' split) <;> omega
theorem gcd_call (a b : Int) (ha : ln a < 1099511627000) (hb : ln b < 1099511627000) : ACall Tryz.prog 83 [.agg (intC a), .agg (intC b)] [.p (.agg (intC (Int.gcd a b : Nat)))] := by
  obtain ⟨s, m, e, hz, hs, hm⟩ := intC_cases a
  obtain ⟨t, n, e', hz', ht, hn⟩ := intC_cases b
  have hl : (digs m).length < 1099511627000 := by rw [← hm]; exact ha
  have hl' : (digs n).length < 1099511627000 := by rw [← hn]; exact hb
  have hg : (digs (Nat.gcd m n)).length < 1099511627776 := by
    by_cases h0 : m = 0
    · subst h0; rw [Nat.gcd_zero_left]; omega
    · have := digs_len_mono (Nat.gcd_le_left n (show 0 < m by omega)); omega
  rw [e, e']
  refine acall_of_awp (hE []) Tryz.func83 rfl (by kernel_rfl) [] ?_
  conv => whnf
  refine ⟨_, common_call m n hl hl', ?_⟩
  conv => whnf
  refine ⟨_, made_call' false (Nat.gcd m n) hg, ?_⟩
  conv => whnf
  refine ⟨.inl (intC_eq ?_), trivial⟩
  simp [Int.gcd, hm, hn]
theorem ediv_nn (m n : Nat) (s t : Bool) (hn : n ≠ 0) (hm : s = true → m ≠ 0) (a b : Int) (ha : a = if s then -(m : Int) else m) (hb : b = if t then -(n : Int) else n) :
    (if (s = true ∧ m % n ≠ 0) then (if (s != t) then -((m / n + 1 : Nat) : Int) else (m / n + 1 : Nat)) = a / b ∧ ((n - m % n : Nat) : Int) = a % b else (if (s != t) then -((m / n : Nat) : Int) else (m / n : Nat)) = a / b ∧ ((m % n : Nat) : Int) = a % b) := by
  have hd := Nat.div_add_mod m n
  have hlt := Nat.mod_lt m (show 0 < n by omega)
  generalize hq : m / n = q at *
  generalize hr : m % n = r at *
  have hdi : (n : Int) * q + r = m := by rw [← Int.natCast_mul, ← Int.natCast_add, hd]
  -- for a divisor above 0
  have key : ∀ (q' r' : Int), 0 ≤ r' → r' < n → r' + n * q' = a → (if t then -q' else q') = a / b ∧ r' = a % b := by
    intro q' r' h0 h1 h2
    obtain ⟨e1, e2⟩ := (Int.ediv_emod_unique (show 0 < (n : Int) by omega)).2 ⟨h2, h0, h1⟩
    cases t with
    | false => simp at hb ⊢; subst hb; exact ⟨e1.symm, e2.symm⟩
    | true => simp at hb ⊢; subst hb; rw [Int.ediv_neg, Int.emod_neg, e1, e2]; exact ⟨rfl, rfl⟩
  split
  · rename_i h
    obtain ⟨hs, hr0⟩ := h
    subst hs
    simp at ha
    have h1 := key (-((q : Int) + 1)) (n - r) (by omega) (by omega) (by rw [ha, ← hdi]; grind)
    obtain ⟨h1, h2⟩ := h1
    refine ⟨?_, by rw [← h2]; omega⟩
    rw [← h1]
    cases t <;> simp
  · rename_i h
    cases s with
    | false =>
      simp at ha
      obtain ⟨h1, h2⟩ := key q r (by omega) (by omega) (by rw [ha, ← hdi]; omega)
      refine ⟨?_, h2⟩
      rw [← h1]
      cases t <;> simp
    | true =>
      have hr0 : r = 0 := by
        rcases Nat.eq_zero_or_pos r with h0 | h0
        · exact h0
        · exact absurd ⟨rfl, by omega⟩ h
      subst hr0
      simp at ha
      obtain ⟨h1, h2⟩ := key (-(q : Int)) 0 (by omega) (by omega) (by rw [ha, ← hdi]; grind)
      refine ⟨?_, h2⟩
      rw [← h1]
      cases t <;> simp
end Go.Am

set_option linter.unusedVariables false
set_option linter.unusedSimpArgs false
namespace Go.Am
open Go Go.Proofs
set_option maxRecDepth 100000
set_option maxHeartbeats 1000000
theorem divmod_call (a b : Int) (ha : ln a < 1099511627000) (hb : ln b < 1099511627000) (h0 : b ≠ 0) : ACall Tryz.prog 84 [.agg (intC a), .agg (intC b)] [.p (.agg (intC (a / b))), .p (.agg (intC (a % b))), .p (nI 0)] := by
  obtain ⟨s, m, e, hz, hs, hm⟩ := intC_cases a
  obtain ⟨t, n, e', hz', ht, hn⟩ := intC_cases b
  have hl : (digs m).length < 1099511627000 := by rw [← hm]; exact ha
  have hl' : (digs n).length < 1099511627000 := by rw [← hn]; exact hb
  have hn0 : n ≠ 0 := by rw [← hn]; omega
  have hp := digs_pos hn0
  have hq := digs_len_mono (Nat.div_le_self m n)
  have hr := Nat.mod_lt m (show 0 < n by omega)
  have hr2 := digs_len_mono (show m % n ≤ n by omega)
  have hr3 := digs_len_mono (show n - m % n ≤ n by omega)
  have hq1 : (digs (m / n + 1)).length ≤ (digs m).length + 2 := by
    have := ln_add ((m / n : Nat) : Int) 1
    rw [show ((m / n : Nat) : Int) + 1 = ((m / n + 1 : Nat) : Int) by omega] at this
    simp only [ln, Int.natAbs_natCast] at this
    have e1 : (digs (Int.natAbs 1)).length = 1 := by decide
    omega
  have key := ediv_nn m n s t hn0 hs a b hz hz'
  rw [e, e']
  refine acall_of_awp (hE []) Tryz.func84 rfl (by kernel_rfl) [] ?_
  conv => whnf
  rw [show (((wl (digs n)).length : Int) == 0) = false by simp only [wl_len, beq_eq_false_iff_ne]; omega]
  conv => whnf
  refine ⟨_, divided_call m n hn0 (by omega) (by omega), ?_⟩
  conv => whnf
  by_cases hc : s = true ∧ m % n ≠ 0
  · rw [if_pos hc] at key
    obtain ⟨k1, k2⟩ := key
    obtain ⟨rfl, hr0⟩ := hc
    have hrp := digs_pos hr0
    conv => whnf
    rw [decide_eq_true (show ((wl (digs (m % n))).length : Int) > 0 by rw [wl_len]; omega)]
    conv => whnf
    have add1 := added_call (digs (m / n)) [1] (WB.digs _) (WB.cons (by omega) WB.nil) (by omega) (by simp)
    rw [val_digs, show val [1] = 1 by simp [val]] at add1
    refine ⟨_, add1, ?_⟩
    conv => whnf
    have tk1 := taken_call (digs n) (digs (m % n)) (WB.digs n) (WB.digs _) (by omega) hr2 (by rw [val_digs, val_digs]; omega)
    rw [val_digs, val_digs] at tk1
    refine ⟨_, tk1, ?_⟩
    conv => whnf
    refine ⟨_, made_call' (true != t) (m / n + 1) (by omega), ?_⟩
    conv => whnf
    refine ⟨_, made_call' false (n - m % n) (by omega), ?_⟩
    conv => whnf
    refine ⟨.inl (intC_eq k1), ?_⟩
    conv => whnf
    refine ⟨.inl (intC_eq (by simpa using k2)), ?_⟩
    conv => whnf
    exact ⟨.inl rfl, trivial⟩
  · rw [if_neg hc] at key
    obtain ⟨k1, k2⟩ := key
    cases s with
    | false =>
      conv => whnf
      refine ⟨_, made_call' (false != t) (m / n) (by omega), ?_⟩
      conv => whnf
      refine ⟨_, made_call' false (m % n) (by omega), ?_⟩
      conv => whnf
      refine ⟨.inl (intC_eq k1), ?_⟩
      conv => whnf
      refine ⟨.inl (intC_eq (by simpa using k2)), ?_⟩
      conv => whnf
      exact ⟨.inl rfl, trivial⟩
    | true =>
      have hr0 : m % n = 0 := by
        rcases Nat.eq_zero_or_pos (m % n) with h | h
        · exact h
        · exact absurd ⟨rfl, by omega⟩ hc
      rw [hr0] at k2 ⊢
      conv => whnf
      refine ⟨_, made_call' (true != t) (m / n) (by omega), ?_⟩
      conv => whnf
      refine ⟨_, made_call' false 0 (by rw [digs_zero]; simp), ?_⟩
      conv => whnf
      refine ⟨.inl (intC_eq k1), ?_⟩
      conv => whnf
      refine ⟨.inl (intC_eq (by simpa using k2)), ?_⟩
      conv => whnf
      exact ⟨.inl rfl, trivial⟩
theorem divmod0_call (a : Int) : ACall Tryz.prog 84 [.agg (intC a), .agg (intC 0)] [.p (.agg (intC 0)), .p (.agg (intC 0)), .p (nI 10)] := by
  obtain ⟨s, m, e, hz, hs, hm⟩ := intC_cases a
  rw [e]
  refine acall_of_awp (hE []) Tryz.func84 rfl (by kernel_rfl) [] ?_
  conv => whnf
  refine ⟨.inl rfl, ?_⟩
  conv => whnf
  refine ⟨.inl rfl, ?_⟩
  conv => whnf
  exact ⟨.inl rfl, trivial⟩
theorem last_pos {n : Nat} (h0 : n ≠ 0) : (digs n).getD ((digs n).length - 1) 0 ≠ 0 := by
  intro h
  have hp := digs_pos h0
  obtain ⟨k, hk⟩ : ∃ k, (digs n).length = k + 1 := ⟨(digs n).length - 1, by omega⟩
  rw [hk, show k + 1 - 1 = k by omega] at h
  have e1 := val_take_succ (digs n) k
  rw [List.take_of_length_le (by omega), val_digs, h, Nat.mul_zero, Nat.add_zero] at e1
  have h2 := val_lt ((WB.digs n).take k)
  have h3 := trimL_last (trim_digs n) (fun e => by rw [e] at hp; simp at hp)
  rw [List.length_take, Nat.min_eq_left (by omega)] at h2
  rw [val_digs, hk, show k + 1 - 1 = k by omega] at h3
  omega
theorem valid_call (z : Int) (hl : ln z < 1099511627000) : ACall Tryz.prog 124 [.agg (intC z)] [.p (.val (.bool true))] := by
  obtain ⟨s, n, e, hz, hs, hn⟩ := intC_cases z
  have hl : (digs n).length < 1099511627000 := by rw [← hn]; exact hl
  rw [e]
  by_cases h0 : n = 0
  · subst h0
    cases s with
    | true => exact absurd rfl (hs rfl)
    | false =>
      refine acall_of_awp (hE []) Tryz.func124 rfl (by kernel_rfl) [] ?_
      conv => whnf
      exact ⟨.inl rfl, trivial⟩
  · have hp := digs_pos h0
    have hlast := last_pos h0
    refine acall_of_awp (hE []) Tryz.func124 rfl (by kernel_rfl) [] ?_
    conv => whnf
    rw [show (((wl (digs n)).length : Int) == 0) = false by simp only [wl_len, beq_eq_false_iff_ne]; omega]
    conv => whnf
    have i1 : IntKind.wrap .i64 (((wl (digs n)).length : Nat) - 1) = (((digs n).length - 1 : Nat) : Int) := by rw [wl_len, wi64 (by omega) (by omega)]; omega
    rw [i1]
    conv => whnf
    refine obind_of (wl_at ((digs n).length - 1) rfl (by omega)) ?_
    conv => whnf
    refine ⟨.inl ?_, trivial⟩
    rw [getD_at (by omega)] at hlast
    generalize (digs n)[(digs n).length - 1]'(by omega) = x at *
    simp; omega
theorem number_call' (n : Nat) (h : (digs n).length ≤ 2) : ACall Tryz.prog 219 [.sl (wl (digs n))] [.p (nU n)] := by
  have := number_call _ (WB.digs n)
  rwa [number_digs h] at this
theorem small_call (z : Int) (h0 : -9223372036854775808 ≤ z) (h1 : z < 9223372036854775808) : ACall Tryz.prog 158 [.agg (intC z)] [.p (nI z), .p (.val (.bool true))] := by
  obtain ⟨s, n, e, hz, hs, hn⟩ := intC_cases z
  have hl : (digs n).length ≤ 2 := digs_len_of (by omega)
  rw [e]
  cases s with
  | false =>
    have hz : z = n := by simpa using hz
    refine acall_of_awp (hE []) Tryz.func158 rfl (by kernel_rfl) [] ?_
    conv => whnf
    rw [decide_eq_false (show ¬ ((wl (digs n)).length : Int) > 2 by rw [wl_len]; omega)]
    conv => whnf
    refine ⟨_, number_call' n hl, ?_⟩
    generalize hM : (9223372036854775808 : Int) = M
    revert M
    refine lock ?_
    intro M hM
    conv => whnf
    rw [decide_eq_true (show (n : Int) < M by omega)]
    conv => whnf
    refine ⟨.inl (vi (by rw [wi64 (by omega) (by omega)]; exact hz.symm)), ?_⟩
    conv => whnf
    exact ⟨.inl rfl, trivial⟩
  | true =>
    have hz : z = -(n : Int) := by simpa using hz
    have hn0 := hs rfl
    refine acall_of_awp (hE []) Tryz.func158 rfl (by kernel_rfl) [] ?_
    conv => whnf
    rw [decide_eq_false (show ¬ ((wl (digs n)).length : Int) > 2 by rw [wl_len]; omega)]
    conv => whnf
    refine ⟨_, number_call' n hl, ?_⟩
    generalize hM : (9223372036854775808 : Int) = M
    revert M
    refine lock ?_
    intro M hM
    conv => whnf
    rw [decide_eq_true (show (n : Int) ≤ M by omega)]
    conv => whnf
    refine ⟨.inl (vi (by rw [wu64 (by omega) (by omega), wi64 (n := (n : Int) - 1) (by omega) (by omega), wi64 (n := 0 - ((n : Int) - 1)) (by omega) (by omega), wi64 (by omega) (by omega)]; omega)), ?_⟩
    conv => whnf
    exact ⟨.inl rfl, trivial⟩
end Go.Am

set_option linter.unusedVariables false
set_option linter.unusedSimpArgs false
namespace Go.Am
open Go Go.Proofs
theorem fdiv_nn (a b : Nat) : Int.fdiv (a : Int) (b : Int) = ((a / b : Nat) : Int) := by
  rw [Int.fdiv_eq_ediv_of_nonneg _ (by omega), Int.natCast_ediv]
theorem shr32 (a : Nat) : Int.fdiv (a : Int) (2 ^ min (Int.toNat 32) IntKind.u64.bits) = ((a / 4294967296 : Nat) : Int) := fdiv_nn a 4294967296
theorem shr31 (a : Nat) : Int.fdiv (a : Int) (2 ^ min (Int.toNat 31) IntKind.u32.bits) = ((a / 2147483648 : Nat) : Int) := fdiv_nn a 2147483648
theorem shl32 (a : Nat) (h : a < 4294967296) : IntKind.wrap .u64 ((a : Int) * 2 ^ min (Int.toNat 32) IntKind.u64.bits) = ((a * 4294967296 : Nat) : Int) := by
  show IntKind.wrap .u64 ((a : Int) * 4294967296) = _
  rw [wu64 (by omega) (by omega)]; omega
/-- Words put side by side. -/
theorem or_add {w : Nat} (k a b : Nat) (hb : b < 2 ^ k) (h : a * 2 ^ k + b < 2 ^ w) : (BitVec.ofInt w ((a * 2 ^ k : Nat) : Int) ||| BitVec.ofInt w (b : Int)).toNat = a * 2 ^ k + b := by
  have h1 : a * 2 ^ k < 2 ^ w := by omega
  have h2 : b < 2 ^ w := by omega
  have e := Nat.shiftLeft_add_eq_or_of_lt hb a
  rw [Nat.shiftLeft_eq] at e
  rw [BitVec.toNat_or]
  simp only [BitVec.toNat_ofInt]
  rw [e]
  have i1 : (((a * 2 ^ k : Nat) : Int) % ((2 ^ w : Nat) : Int)).toNat = a * 2 ^ k := by
    rw [← Int.natCast_emod, Nat.mod_eq_of_lt h1]; rfl
  have i2 : ((b : Int) % ((2 ^ w : Nat) : Int)).toNat = b := by
    rw [← Int.natCast_emod, Nat.mod_eq_of_lt h2]; rfl
  rw [i1, i2]
theorem or_add32 (a b : Nat) (ha : a < 4294967296) (hb : b < 4294967296) : IntKind.wrap .u64 ((BitVec.ofInt IntKind.u64.bits ((a * 4294967296 : Nat) : Int) ||| BitVec.ofInt IntKind.u64.bits (b : Int)).toNat : Nat) = ((a * 4294967296 + b : Nat) : Int) := by
  have := or_add (w := 64) 32 a b hb (by omega)
  have e : (BitVec.ofInt IntKind.u64.bits ((a * 4294967296 : Nat) : Int) ||| BitVec.ofInt IntKind.u64.bits (b : Int)).toNat = a * 4294967296 + b := this
  rw [e, u64_nn (by omega)]
theorem ofInt_toNat (w n : Nat) : BitVec.ofInt w (n : Int) = BitVec.ofNat w n := BitVec.ofInt_natCast w n
theorem wrapB (b : BitVec 32) : IntKind.wrap .u32 (b.toNat : Nat) = (b.toNat : Int) := u32_nn b.isLt
theorem msb31 (b : BitVec 32) : b.toNat / 2147483648 = if b.msb then 1 else 0 := by
  have h := b.isLt
  rw [BitVec.msb_eq_decide]
  by_cases q : 2147483648 ≤ b.toNat
  · rw [show decide (2 ^ (32 - 1) ≤ b.toNat) = true from decide_eq_true q]; simp only [if_true]; omega
  · rw [show decide (2 ^ (32 - 1) ≤ b.toNat) = false from decide_eq_false q]; simp only [Bool.false_eq_true, if_false]; omega
/-- The borrow of a subtraction, by its highest bits. -/
theorem borrow_bits (x y c : Nat) (hx : x < 4294967296) (hy : y < 4294967296) (hc : c ≤ 1) :
    (((BitVec.ofNat 32 4294967295 ^^^ BitVec.ofNat 32 x) &&& BitVec.ofNat 32 y) ||| ((BitVec.ofNat 32 4294967295 ^^^ (BitVec.ofNat 32 x ^^^ BitVec.ofNat 32 y)) &&& BitVec.ofNat 32 ((4294967296 + x - y - c) % 4294967296))).toNat / 2147483648 = if x < y + c then 1 else 0 := by
  rw [msb31]
  simp only [BitVec.msb_or, BitVec.msb_and, BitVec.msb_xor]
  have m : ∀ n, n < 4294967296 → (BitVec.ofNat 32 n).msb = decide (2147483648 ≤ n) := by
    intro n hn
    rw [BitVec.msb_eq_decide, BitVec.toNat_ofNat, Nat.mod_eq_of_lt (show n < 2 ^ 32 from hn)]
  rw [m _ hx, m _ hy, m _ (by omega : 4294967295 < 4294967296), m _ (Nat.mod_lt _ (by omega))]
  rw [show decide (2147483648 ≤ 4294967295) = true from rfl]
  by_cases h1 : 2147483648 ≤ x <;> by_cases h2 : 2147483648 ≤ y <;> by_cases h3 : 2147483648 ≤ (4294967296 + x - y - c) % 4294967296 <;>
    simp only [decide_eq_true, decide_eq_false, h1, h2, h3, decide_true, decide_false, Bool.true_xor, Bool.xor_true, Bool.xor_false, Bool.false_xor, Bool.not_true, Bool.not_false, Bool.and_true, Bool.and_false, Bool.true_and, Bool.false_and, Bool.or_true, Bool.or_false, Bool.true_or, Bool.false_or, if_true, Bool.false_eq_true, if_false] <;>
    (split <;> omega)
end Go.Am

namespace Go.Am
open Go Go.Proofs
set_option maxRecDepth 100000
theorem clone_nat (els : List (List PV)) (hz : ∀ e ∈ els, e.length = 1) (hn : els.length * 4 ≤ 140737488355328) : ACall Tryz.prog 229 [.sl els] [.new 1 els] := by
  refine acall_slice ⟨_, _, Tryz.func229, rfl, by kernel_rfl⟩ ?_ ?_ ?_
  · intro h c
    rw [h]
    refine acall_of_awp (hE []) Tryz.func229 rfl (by kernel_rfl) [] ?_
    conv => whnf
    exact ⟨rfl, trivial⟩
  · intro h a c
    rw [h]
    refine acall_of_awp (hE []) Tryz.func229 rfl (by kernel_rfl) [] ?_
    conv => whnf
    exact ⟨rfl, trivial⟩
  · intro e r h
    rw [h] at hz hn ⊢
    refine acall_of_awp (hE []) Tryz.func229 rfl (by kernel_rfl) [] ?_
    conv => whnf
    refine chk_of hz ?_
    conv => whnf
    refine chk_of (by simpa using hn) ?_
    conv => whnf
    exact ⟨rfl, trivial⟩
theorem clone_rats (els : List (List PV)) (hz : ∀ e ∈ els, e.length = 4) (hn : els.length * 64 ≤ 140737488355328) : ACall Tryz.prog 249 [.sl els] [.new 4 els] := by
  refine acall_slice ⟨_, _, Tryz.func249, rfl, by kernel_rfl⟩ ?_ ?_ ?_
  · intro h c
    rw [h]
    refine acall_of_awp (hE []) Tryz.func249 rfl (by kernel_rfl) [] ?_
    conv => whnf
    exact ⟨rfl, trivial⟩
  · intro h a c
    rw [h]
    refine acall_of_awp (hE []) Tryz.func249 rfl (by kernel_rfl) [] ?_
    conv => whnf
    exact ⟨rfl, trivial⟩
  · intro e r h
    rw [h] at hz hn ⊢
    refine acall_of_awp (hE []) Tryz.func249 rfl (by kernel_rfl) [] ?_
    conv => whnf
    refine chk_of hz ?_
    conv => whnf
    refine chk_of (by simpa using hn) ?_
    conv => whnf
    exact ⟨rfl, trivial⟩
theorem clone_ints (els : List (List PV)) (hz : ∀ e ∈ els, e.length = 2) (hn : els.length * 32 ≤ 140737488355328) : ACall Tryz.prog 296 [.sl els] [.new 2 els] := by
  refine acall_slice ⟨_, _, Tryz.func296, rfl, by kernel_rfl⟩ ?_ ?_ ?_
  · intro h c
    rw [h]
    refine acall_of_awp (hE []) Tryz.func296 rfl (by kernel_rfl) [] ?_
    conv => whnf
    exact ⟨rfl, trivial⟩
  · intro h a c
    rw [h]
    refine acall_of_awp (hE []) Tryz.func296 rfl (by kernel_rfl) [] ?_
    conv => whnf
    exact ⟨rfl, trivial⟩
  · intro e r h
    rw [h] at hz hn ⊢
    refine acall_of_awp (hE []) Tryz.func296 rfl (by kernel_rfl) [] ?_
    conv => whnf
    refine chk_of hz ?_
    conv => whnf
    refine chk_of (by simpa using hn) ?_
    conv => whnf
    exact ⟨rfl, trivial⟩
end Go.Am
