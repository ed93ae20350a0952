import Derived.Test.YtopddgfmhgmfpaaGreatAm2
import Derived.RangeFuncFrom
import Derived.Deep.LoopGhost
import Derived.RangeFuncLeaves
import Derived.LoopN
set_option linter.unusedVariables false
set_option linter.unusedSimpArgs false
set_option linter.unusedVariables false
namespace Go.Am
noncomputable section
open Go

/-! ### Contents that say less -/
/-- What is so represented is represented by the other too. -/
def PVle (a b : PV) : Prop := ∀ (F : Nat → Prop) (w : World) (v : Value), RepP F w a v → RepP F w b v
def PEq (a b : PV) : Prop := a = b ∨ PVle a b
theorem PEq.le {a b : PV} (h : PEq a b) : PVle a b := by
  rcases h with rfl | h
  · exact fun _ _ _ h => h
  · exact h
theorem PVle.rf (a : PV) : PVle a a := fun _ _ _ h => h
def CellsLe (e e' : List PV) : Prop := e.length = e'.length ∧ ∀ (j : Nat) (x y : PV), e[j]? = some x → e'[j]? = some y → PVle x y
def RowsLe (els els' : List (List PV)) : Prop := els.length = els'.length ∧ ∀ (i : Nat) (e e' : List PV), els[i]? = some e → els'[i]? = some e' → CellsLe e e'
def REq (els els' : List (List PV)) : Prop := els = els' ∨ RowsLe els els'
theorem CellsLe.rf (e : List PV) : CellsLe e e := ⟨rfl, fun j x y h g => by rw [h] at g; cases g; exact .rf _⟩
theorem RowsLe.rf (els : List (List PV)) : RowsLe els els := ⟨rfl, fun j x y h g => by rw [h] at g; cases g; exact .rf _⟩
theorem REq.le {a b : List (List PV)} (h : REq a b) : RowsLe a b := by
  rcases h with rfl | h
  · exact .rf _
  · exact h
theorem PVle.nil (c : Nat) : PVle (.val (.slice none 0 c)) (.sl []) := fun F w v h => by
  cases h
  exact .sl [] none c 0 0 0 (fun _ => []) (Nat.zero_le _) (fun h => by simp at h) (fun i e h => by simp at h) (fun i e j x y h => by simp at h)
theorem PVle.agg {cs cs' : List PV} (h : CellsLe cs cs') : PVle (.agg cs) (.agg cs') := fun F w v hv => by
  cases hv with
  | agg _ vs hl hx =>
    refine .agg _ vs (by rw [← h.1]; exact hl) (fun k x y h1 h2 => ?_)
    have hk : k < cs.length := by rw [h.1]; exact (List.getElem?_eq_some_iff.1 h1).1
    exact h.2 k _ x (List.getElem?_eq_getElem hk) h1 F w y (hx k _ y (List.getElem?_eq_getElem hk) h2)
theorem PVle.sl {els els' : List (List PV)} (h : RowsLe els els') : PVle (.sl els) (.sl els') := fun F w v hv => by
  cases hv with
  | sl _ a c b o sz vv hc ha hs hx =>
    rw [h.1] at hc ha ⊢
    refine .sl _ a c b o sz vv hc ha (fun i e h1 => ?_) (fun i e j x y h1 h2 h3 => ?_)
    · have hk : i < els.length := by rw [h.1]; exact (List.getElem?_eq_some_iff.1 h1).1
      obtain ⟨g1, g2⟩ := hs i _ (List.getElem?_eq_getElem hk)
      exact ⟨by rw [← (h.2 i _ e (List.getElem?_eq_getElem hk) h1).1]; exact g1, g2⟩
    · have hk : i < els.length := by rw [h.1]; exact (List.getElem?_eq_some_iff.1 h1).1
      have hc := h.2 i _ e (List.getElem?_eq_getElem hk) h1
      have hj : j < els[i].length := by rw [hc.1]; exact (List.getElem?_eq_some_iff.1 h2).1
      exact hc.2 j _ x (List.getElem?_eq_getElem hj) h2 F w y (hx i _ j _ y (List.getElem?_eq_getElem hk) (List.getElem?_eq_getElem hj) h3)
theorem CellsLe.nil : CellsLe [] [] := .rf _
theorem CellsLe.cons {x y : PV} {e e' : List PV} (h : PVle x y) (g : CellsLe e e') : CellsLe (x :: e) (y :: e') := by
  refine ⟨by simp [g.1], fun j a b h1 h2 => ?_⟩
  cases j with
  | zero => simp at h1 h2; subst h1; subst h2; exact h
  | succ j => exact g.2 j a b (by simpa using h1) (by simpa using h2)
theorem RowsLe.cons {x y : List PV} {e e' : List (List PV)} (h : CellsLe x y) (g : RowsLe e e') : RowsLe (x :: e) (y :: e') := by
  refine ⟨by simp [g.1], fun j a b h1 h2 => ?_⟩
  cases j with
  | zero => simp at h1 h2; subst h1; subst h2; exact h
  | succ j => exact g.2 j a b (by simpa using h1) (by simpa using h2)
theorem RowsLe.rep (n : Nat) {x y : List PV} (h : CellsLe x y) : RowsLe (List.replicate n x) (List.replicate n y) := by
  refine ⟨by simp, fun j a b h1 h2 => ?_⟩
  rw [List.getElem?_replicate] at h1 h2
  split at h1
  · rename_i q
    rw [if_pos q] at h2
    cases h1; cases h2; exact h
  · cases h1
theorem RowsAt.le {F : Nat → Prop} {w : World} {b o sz : Nat} {els els' : List (List PV)} (h : RowsLe els els') (hr : RowsAt F w b o sz els) : RowsAt F w b o sz els' := by
  obtain ⟨vv, hv⟩ := hr
  refine ⟨vv, fun i e he => ?_⟩
  have hk : i < els.length := by rw [h.1]; exact (List.getElem?_eq_some_iff.1 he).1
  have hc := h.2 i _ e (List.getElem?_eq_getElem hk) he
  obtain ⟨g1, g2, g3, g4, g5⟩ := hv i _ (List.getElem?_eq_getElem hk)
  refine ⟨by rw [← hc.1]; exact g1, g2, g3, g4, fun j x y h1 h2 => ?_⟩
  have hj : j < els[i].length := by rw [hc.1]; exact (List.getElem?_eq_some_iff.1 h1).1
  exact hc.2 j _ x (List.getElem?_eq_getElem hj) h1 F w y (g5 j _ y (List.getElem?_eq_getElem hj) h2)

/-! ### Weakening, names renamed -/
abbrev Ren := List (Nat × Nat)
def look : Ren → Nat → Option Nat
  | [], _ => none
  | (j', i) :: r, j => match Nat.beq j' j with
    | true => some i
    | false => look r j
def hits : Ren → Nat → Bool
  | [], _ => false
  | (_, i') :: r, i => match Nat.beq i' i with
    | true => true
    | false => hits r i
def bindK (ρ : Ren) (j i : Nat) (k : Ren → Prop) : Prop :=
  match look ρ j with
  | some i' => match Nat.beq i' i with
    | true => k ρ
    | false => False
  | none => match hits ρ i with
    | true => False
    | false => k ((j, i) :: ρ)
def leA : AV → AV → Ren → (Ren → Prop) → Prop
  | x, .top, ρ, k => k ρ
  | .p a, .p b, ρ, k => PEq a b ∧ k ρ
  | .own i sz n, .own j sz' n', ρ, k => match Nat.beq sz sz' with
    | true => bindK ρ j i fun ρ => n = n' ∧ k ρ
    | false => False
  | .win i sz o n, .win j sz' o' n', ρ, k => match Nat.beq sz sz' with
    | true => bindK ρ j i fun ρ => o = o' ∧ n = n' ∧ k ρ
    | false => False
  | .ptr i e c, .ptr j e' c', ρ, k => bindK ρ j i fun ρ => e = e' ∧ c = c' ∧ k ρ
  | .cell cs, .cell cs', ρ, k => cs = cs' ∧ k ρ
  | .agg xs, .agg ys, ρ, k => leL xs ys ρ k
  | .tup xs, .tup ys, ρ, k => leL xs ys ρ k
  | .clo f xs, .clo g ys, ρ, k => match Nat.beq f g with
    | true => leL xs ys ρ k
    | false => False
  | _, _, _, _ => False
 where leL : List AV → List AV → Ren → (Ren → Prop) → Prop
  | [], [], ρ, k => k ρ
  | x :: r, y :: r', ρ, k => leA x y ρ fun ρ => leL r r' ρ k
  | _, _, _, _ => False
def leB : Blk → Blk → Ren → (Ren → Prop) → Prop
  | .row sz els o, .row sz' els' o', ρ, k => match Nat.beq sz sz', o, o' with
    | true, true, true => REq els els' ∧ k ρ
    | true, false, false => REq els els' ∧ k ρ
    | _, _, _ => False
  | .box cs, .box cs', ρ, k => leA.leL cs cs' ρ k
  | _, _, _, _ => False
def leM (m : List (Option Blk)) : Nat → List (Option Blk) → Ren → (Ren → Prop) → Prop
  | _, [], ρ, k => k ρ
  | j, none :: r, ρ, k => leM m (j + 1) r ρ k
  | j, some B :: r, ρ, k => match look ρ j with
    | some i => match nth m i with
      | some (some B0) => leB B0 B ρ fun ρ => leM m (j + 1) r ρ k
      | _ => False
    | none => False
def idRen : Nat → Ren
  | 0 => []
  | n + 1 => (n, n) :: idRen n
def keysLt (n : Nat) : Ren → Bool
  | [] => true
  | (j, _) :: r => match Nat.blt j n with
    | true => keysLt n r
    | false => false
/-- The state s is one of those that sk tells of; then k. -/
def leK (n0 : Nat) (s sk : ASt) (k : Prop) : Prop :=
  leA.leL s.t sk.t (idRen n0) fun ρ => leM s.m 0 sk.m ρ fun ρ => match keysLt sk.m.length ρ with
    | true => k
    | false => False

/-! ### It is so -/
def ren (ρ : Ren) (β : Pl) : Pl := fun j => match look ρ j with
  | some i => β i
  | none => none
def Ext (ρ ρ' : Ren) : Prop := ∀ j i, look ρ j = some i → look ρ' j = some i
def Inj (ρ : Ren) : Prop := ∀ j j' i, look ρ j = some i → look ρ j' = some i → j = j'
theorem Ext.refl (ρ : Ren) : Ext ρ ρ := fun _ _ h => h
theorem Ext.trans {a b c : Ren} (h : Ext a b) (g : Ext b c) : Ext a c := fun j i q => g j i (h j i q)
theorem ren_ext {ρ ρ' : Ren} (h : Ext ρ ρ') {β : Pl} {id : Nat} {bi : BI} (hb : ren ρ β id = some bi) : ren ρ' β id = some bi := by
  unfold ren at hb ⊢
  cases hl : look ρ id with
  | none => simp [hl] at hb
  | some i => simp only [hl] at hb; rw [h _ _ hl]; exact hb
theorem hits_spec : ∀ (ρ : Ren) (i : Nat), hits ρ i = false → ∀ j, look ρ j ≠ some i := by
  intro ρ
  induction ρ with
  | nil => intro i _ j; simp [look]
  | cons p r ih =>
    intro i h j
    obtain ⟨j', i'⟩ := p
    simp only [hits] at h
    simp only [look]
    split at h
    · cases h
    · rename_i hb
      split
      · intro q; cases q; exact Nat.ne_of_beq_eq_false hb rfl
      · exact ih i h j
theorem bindK_spec {ρ : Ren} {j i : Nat} {k : Ren → Prop} (hi : Inj ρ) (h : bindK ρ j i k) : ∃ ρ', Ext ρ ρ' ∧ Inj ρ' ∧ look ρ' j = some i ∧ k ρ' := by
  unfold bindK at h
  split at h
  · rename_i i' hl
    split at h
    · rename_i hb
      have := Nat.eq_of_beq_eq_true hb; subst this
      exact ⟨ρ, .refl _, hi, hl, h⟩
    · exact h.elim
  · rename_i hl
    split at h
    · exact h.elim
    · rename_i hh
      have hns := hits_spec ρ i hh
      have self : look ((j, i) :: ρ) j = some i := by simp [look]
      have other : ∀ j', j' ≠ j → look ((j, i) :: ρ) j' = look ρ j' := fun j' hne => by
        simp only [look]
        split
        · rename_i hb; exact absurd (Nat.eq_of_beq_eq_true hb).symm hne
        · rfl
      refine ⟨_, ?_, ?_, self, h⟩
      · intro a b hab
        by_cases hne : a = j
        · subst hne; rw [hl] at hab; cases hab
        · rw [other a hne]; exact hab
      · intro a b c hac hbc
        by_cases ha : a = j
        · by_cases hb : b = j
          · rw [ha, hb]
          · subst ha
            rw [other b hb] at hbc
            rw [self] at hac; cases hac
            exact absurd hbc (hns b)
        · rw [other a ha] at hac
          by_cases hb : b = j
          · subst hb
            rw [self] at hbc; cases hbc
            exact absurd hac (hns a)
          · rw [other b hb] at hbc
            exact hi a b c hac hbc

/-- What the renaming says of a value. -/
def SemA (ρ : Ren) (x y : AV) : Prop := ∀ (β : Pl) (F : Nat → Prop) (w : World) (v : Value), RepA β F w x v → RepA (ren ρ β) F w y v
theorem SemA.ext {ρ ρ' : Ren} (h : Ext ρ ρ') {x y : AV} (hs : SemA ρ x y) : SemA ρ' x y := fun β F w v hv =>
  RepA.mono (w := w) (w' := w) (F := F) (F' := F) (fun _ _ => ren_ext h) (fun _ h => h) (fun _ _ => rfl) (hs β F w v hv)
def SemL (ρ : Ren) (xs ys : List AV) : Prop := xs.length = ys.length ∧ ∀ (k : Nat) (x y : AV), xs[k]? = some x → ys[k]? = some y → SemA ρ x y

def Goal (ρ : Ren) (S : Ren → Prop) (k : Ren → Prop) : Prop := ∃ ρ', Ext ρ ρ' ∧ Inj ρ' ∧ S ρ' ∧ k ρ'

theorem semL_get {ρ : Ren} {xs ys : List AV} (h : SemL ρ xs ys) {β : Pl} {F : Nat → Prop} {w : World} {vs : List Value} (hl : xs.length = vs.length) (hx : ∀ (k : Nat) (x : AV) (y : Value), xs[k]? = some x → vs[k]? = some y → RepA β F w x y) :
    ∀ (k : Nat) (y : AV) (v : Value), ys[k]? = some y → vs[k]? = some v → RepA (ren ρ β) F w y v := by
  intro k y v hy hv
  have : k < xs.length := by have := (List.getElem?_eq_some_iff.1 hv).1; omega
  have hxk : xs[k]? = some xs[k] := List.getElem?_eq_getElem this
  exact h.2 k _ y hxk hy β F w v (hx k _ v hxk hv)

mutual
theorem leA_spec : ∀ (x y : AV) (ρ : Ren) (k : Ren → Prop), Inj ρ → leA x y ρ k → Goal ρ (fun ρ => SemA ρ x y) k := by
  intro x y ρ k hi h
  cases y with
  | top =>
    have h : k ρ := by cases x <;> simpa only [leA] using h
    exact ⟨ρ, .refl _, hi, fun β F w v _ => .top v, h⟩
  | p b =>
    cases x <;> simp only [leA] at h <;> try exact h.elim
    obtain ⟨he, h⟩ := h
    exact ⟨ρ, .refl _, hi, fun β F w v hv => by cases hv with | p _ _ h => exact .p _ _ (he.le F w v h), h⟩
  | own j sz' n' =>
    cases x <;> simp only [leA] at h <;> try exact h.elim
    rename_i i sz n
    split at h
    case h_2 => exact h.elim
    rename_i hb
    have := Nat.eq_of_beq_eq_true hb; subst this
    obtain ⟨ρ', h1, h2, h3, rfl, h4⟩ := bindK_spec hi h
    refine ⟨ρ', h1, h2, fun β F w v hv => ?_, h4⟩
    have hr : ren ρ' β j = β i := by simp [ren, h3]
    cases hv with
    | ownNil id sz n bi hb h hn => exact .ownNil _ _ _ bi (hr.trans hb) h hn
    | own id sz n bi hb h hz hn hc => exact .own _ _ _ bi (hr.trans hb) h hz hn hc
  | win j sz' o' n' =>
    cases x <;> simp only [leA] at h <;> try exact h.elim
    rename_i i sz o n
    split at h
    case h_2 => exact h.elim
    rename_i hb
    have := Nat.eq_of_beq_eq_true hb; subst this
    obtain ⟨ρ', h1, h2, h3, rfl, rfl, h4⟩ := bindK_spec hi h
    refine ⟨ρ', h1, h2, fun β F w v hv => ?_, h4⟩
    have hr : ren ρ' β j = β i := by simp [ren, h3]
    cases hv with
    | win id sz off n c bi hb h hz hc hn ho => exact .win _ _ _ _ c bi (hr.trans hb) h hz hc hn ho
  | ptr j e' c' =>
    cases x <;> simp only [leA] at h <;> try exact h.elim
    rename_i i e c
    obtain ⟨ρ', h1, h2, h3, rfl, rfl, h4⟩ := bindK_spec hi h
    refine ⟨ρ', h1, h2, fun β F w v hv => ?_, h4⟩
    have hr : ren ρ' β j = β i := by simp [ren, h3]
    cases hv with
    | ptr id i j bi hb h => exact .ptr _ _ _ bi (hr.trans hb) h
  | cell cs' =>
    cases x <;> simp only [leA] at h <;> try exact h.elim
    obtain ⟨rfl, h⟩ := h
    refine ⟨ρ, .refl _, hi, fun β F w v hv => ?_, h⟩
    cases hv with
    | cell _ b o vs hF hl hr h1 hx => exact .cell _ b o vs hF hl hr h1 hx
  | agg ys =>
    cases x <;> simp only [leA] at h <;> try exact h.elim
    rename_i xs
    obtain ⟨ρ', h1, h2, h3, h4⟩ := leL_spec xs ys ρ k hi h
    refine ⟨ρ', h1, h2, fun β F w v hv => ?_, h4⟩
    cases hv with
    | agg cs vs hl hx => exact .agg _ vs (by rw [← h3.1]; exact hl) (semL_get h3 hl hx)
  | tup ys =>
    cases x <;> simp only [leA] at h <;> try exact h.elim
    rename_i xs
    obtain ⟨ρ', h1, h2, h3, h4⟩ := leL_spec xs ys ρ k hi h
    refine ⟨ρ', h1, h2, fun β F w v hv => ?_, h4⟩
    cases hv with
    | tup cs vs hl hx => exact .tup _ vs (by rw [← h3.1]; exact hl) (semL_get h3 hl hx)
  | clo g ys =>
    cases x <;> simp only [leA] at h <;> try exact h.elim
    rename_i f xs
    split at h
    case h_2 => exact h.elim
    rename_i hb
    have := Nat.eq_of_beq_eq_true hb; subst this
    obtain ⟨ρ', h1, h2, h3, h4⟩ := leL_spec xs ys ρ k hi h
    refine ⟨ρ', h1, h2, fun β F w v hv => ?_, h4⟩
    cases hv with
    | clo f cs vs hl hx => exact .clo _ _ vs (by rw [← h3.1]; exact hl) (semL_get h3 hl hx)
theorem leL_spec : ∀ (xs ys : List AV) (ρ : Ren) (k : Ren → Prop), Inj ρ → leA.leL xs ys ρ k → Goal ρ (fun ρ => SemL ρ xs ys) k := by
  intro xs ys ρ k hi h
  cases xs with
  | nil =>
    cases ys with
    | nil => exact ⟨ρ, .refl _, hi, ⟨rfl, fun k x y hx => by simp at hx⟩, by simpa only [leA.leL] using h⟩
    | cons => simp only [leA.leL] at h
  | cons x r =>
    cases ys with
    | nil => simp only [leA.leL] at h
    | cons y r' =>
      simp only [leA.leL] at h
      obtain ⟨ρ1, h1, h2, h3, h4⟩ := leA_spec x y ρ _ hi h
      obtain ⟨ρ2, g1, g2, g3, g4⟩ := leL_spec r r' ρ1 k h2 h4
      refine ⟨ρ2, h1.trans g1, g2, ⟨by simp [g3.1], fun q a b ha hb => ?_⟩, g4⟩
      cases q with
      | zero => simp at ha hb; subst ha; subst hb; exact SemA.ext g1 h3
      | succ q => exact g3.2 q a b (by simpa using ha) (by simpa using hb)
end

/-- What the renaming says of a block. -/
def SemB (ρ : Ren) (B0 B : Blk) : Prop := ∀ (β : Pl) (F : Nat → Prop) (w : World) (bi : BI), BlkOK β F w bi B0 → BlkOK (ren ρ β) F w bi B
theorem SemB.ext {ρ ρ' : Ren} (h : Ext ρ ρ') {x y : Blk} (hs : SemB ρ x y) : SemB ρ' x y := fun β F w bi hv =>
  BlkOK.mono (w := w) (w' := w) (F := F) (F' := F) (fun _ _ => ren_ext h) (fun _ h => h) (fun _ _ => rfl) (fun _ => rfl) (fun _ h => h) (hs β F w bi hv)
theorem leB_spec (B0 B : Blk) (ρ : Ren) (k : Ren → Prop) (hi : Inj ρ) (h : leB B0 B ρ k) : Goal ρ (fun ρ => SemB ρ B0 B ∧ B0.mine = B.mine) k := by
  cases B0 with
  | row sz els o =>
    cases B with
    | box => exact h.elim
    | row sz' els' o' =>
      have h' : Nat.beq sz sz' = true ∧ o = o' ∧ REq els els' ∧ k ρ := by
        simp only [leB] at h
        split at h
        · rename_i hb; exact ⟨hb, rfl, h⟩
        · rename_i hb; exact ⟨hb, rfl, h⟩
        · exact h.elim
      clear h
      obtain ⟨hb, rfl, he, h⟩ := h'
      have := Nat.eq_of_beq_eq_true hb; subst this
      refine ⟨ρ, .refl _, hi, ⟨fun β F w bi hv => ?_, rfl⟩, h⟩
      cases hv with
      | nil _ h hn _ =>
        have : els' = [] := List.eq_nil_of_length_eq_zero (by rw [← he.le.1]; rfl)
        subst this
        exact .nil _ h hn _
      | row _ _ _ h hz hn' hc hr hs ho hf => exact .row _ _ _ h hz (hn'.trans he.le.1) hc hr (hs.le he.le) ho hf
  | box cs =>
    cases B with
    | row => exact h.elim
    | box cs' =>
      obtain ⟨ρ', h1, h2, h3, h4⟩ := leL_spec cs cs' ρ k hi h
      refine ⟨ρ', h1, h2, ⟨fun β F w bi hv => ?_, rfl⟩, h4⟩
      cases hv with
      | box cs vs h hn hc hn1 hr hl hv h1' hx hF => exact .box _ vs h (by rw [← h3.1]; exact hn) hc hn1 hr (by rw [← h3.1]; exact hl) hv h1' (semL_get h3 hl hx) hF
theorem leM_spec (m : List (Option Blk)) : ∀ (r : List (Option Blk)) (j : Nat) (ρ : Ren) (k : Ren → Prop), Inj ρ → leM m j r ρ k →
    Goal ρ (fun ρ => ∀ q B, r[q]? = some (some B) → ∃ i B0, look ρ (j + q) = some i ∧ memOf m i = some B0 ∧ SemB ρ B0 B ∧ B0.mine = B.mine) k := by
  intro r
  induction r with
  | nil => intro j ρ k hi h; exact ⟨ρ, .refl _, hi, fun q B hq => by simp at hq, h⟩
  | cons b r ih =>
    intro j ρ k hi h
    cases b with
    | none =>
      obtain ⟨ρ', h1, h2, h3, h4⟩ := ih (j + 1) ρ k hi h
      refine ⟨ρ', h1, h2, fun q B hq => ?_, h4⟩
      cases q with
      | zero => simp at hq
      | succ q =>
        obtain ⟨i, B0, g1, g2, g3⟩ := h3 q B (by simpa using hq)
        exact ⟨i, B0, by rw [← g1]; congr 1; omega, g2, g3⟩
    | some B =>
      simp only [leM] at h
      split at h
      case h_2 => exact h.elim
      rename_i i hl
      split at h
      case h_2 => exact h.elim
      rename_i B0 hB0
      obtain ⟨ρ1, e1, e2, e3, e4⟩ := leB_spec B0 B ρ _ hi h
      obtain ⟨ρ', h1, h2, h3, h4⟩ := ih (j + 1) ρ1 k e2 e4
      refine ⟨ρ', e1.trans h1, h2, fun q C hq => ?_, h4⟩
      cases q with
      | zero =>
        simp at hq; subst hq
        exact ⟨i, B0, h1 _ _ (e1 _ _ hl), by simp [memOf, hB0], SemB.ext h1 e3.1, e3.2⟩
      | succ q =>
        obtain ⟨i, B0, g1, g2, g3⟩ := h3 q C (by simpa using hq)
        exact ⟨i, B0, by rw [← g1]; congr 1; omega, g2, g3⟩
theorem look_idRen : ∀ (n j i : Nat), look (idRen n) j = some i ↔ j < n ∧ i = j := by
  intro n
  induction n with
  | zero => intro j i; simp [idRen, look]
  | succ n ih =>
    intro j i
    simp only [idRen, look]
    split
    · rename_i hb
      have := Nat.eq_of_beq_eq_true hb; subst this
      constructor
      · intro h; cases h; exact ⟨by omega, rfl⟩
      · rintro ⟨_, rfl⟩; rfl
    · rename_i hb
      have := Nat.ne_of_beq_eq_false hb
      rw [ih]
      omega
theorem keysLt_spec (n : Nat) : ∀ (ρ : Ren), keysLt n ρ = true → ∀ j i, look ρ j = some i → j < n := by
  intro ρ
  induction ρ with
  | nil => intro _ j i h; simp [look] at h
  | cons p r ih =>
    intro h j i hl
    obtain ⟨j', i'⟩ := p
    simp only [keysLt] at h
    split at h
    case h_2 => cases h
    rename_i hlt
    simp only [look] at hl
    split at hl
    · rename_i hb
      have := Nat.eq_of_beq_eq_true hb; subst this
      simpa [Nat.blt_eq] using hlt
    · exact ih h j i hl

theorem leK_spec {n0 : Nat} {s sk : ASt} {K : Prop} (h : leK n0 s sk K) {Ok F0 : Nat → Prop} {β0 : Pl} {w0 : World} {β : Pl} {F : Nat → Prop} {a : Act} {w : World} (hβ0 : ∀ id, n0 ≤ id → β0 id = none) (hs : Sim s β F a w) (hc : Ctx Ok F0 β0 w0 s β F w) :
    K ∧ ∃ β', Sim sk β' F a w ∧ Ctx Ok F0 β0 w0 sk β' F w := by
  obtain ⟨ρ1, h1, h2, h3, h4⟩ := leL_spec _ _ _ _ (fun j j' i a b => by
    have := (look_idRen n0 j i).1 a; have := (look_idRen n0 j' i).1 b; omega) h
  obtain ⟨ρ, g1, g2, g3, g4⟩ := leM_spec _ _ _ _ _ h2 h4
  split at g4
  case h_2 => exact g4.elim
  rename_i hk
  have hkeys := keysLt_spec _ ρ hk
  have row : ∀ j B, memOf sk.m j = some B → ∃ i B0, look ρ j = some i ∧ memOf s.m i = some B0 ∧ SemB ρ B0 B ∧ B0.mine = B.mine := fun j B hB => by
    obtain ⟨hn, _⟩ := memOf_lt hB
    rw [nth_eq] at hn
    obtain ⟨i, B0, q1, q2, q3⟩ := g3 j B hn
    exact ⟨i, B0, by rw [← q1]; congr 1; omega, q2, q3⟩
  refine ⟨g4, ren ρ β, ⟨by rw [← hs.size, h3.1], fun t y hy => ?_, ⟨?_, ?_, hs.mem.lt⟩, ?_, hs.defers⟩, ⟨hc.os, hc.tape, hc.output, hc.size, hc.keep, ?_, ?_, hc.Fm, hc.Fn⟩⟩
  · have : t < s.t.length := by rw [h3.1]; exact (List.getElem?_eq_some_iff.1 hy).1
    have hx : s.t[t]? = some s.t[t] := List.getElem?_eq_getElem this
    exact SemA.ext g1 (h3.2 t _ y hx hy) β F w _ (hs.tmps t _ hx)
  · intro j B hB
    obtain ⟨i, B0, q1, q2, q3, _⟩ := row j B hB
    obtain ⟨bi, r1, r2⟩ := hs.mem.ok i B0 q2
    exact ⟨bi, by simp [ren, q1, r1], q3 β F w bi r2⟩
  · intro j j' B B' bi bi' hne h5 h6 h7 h8
    obtain ⟨i, B0, q1, q2, q3, _⟩ := row j B h5
    obtain ⟨i', B0', q1', q2', q3', _⟩ := row j' B' h6
    have e1 : ren ρ β j = β i := by simp [ren, q1]
    have e2 : ren ρ β j' = β i' := by simp [ren, q1']
    exact hs.mem.inj i i' B0 B0' bi bi' (fun e => hne (g2 j j' i q1 (e ▸ q1'))) q2 q2' (e1 ▸ h7) (e2 ▸ h8)
  · intro id hid
    simp only [ren]
    cases hl : look ρ id with
    | none => rfl
    | some i => have := hkeys id i hl; omega
  · intro j B bi h5 h6 h7 h8
    obtain ⟨i, B0, q1, q2, q3, q4⟩ := row j B h5
    have e1 : ren ρ β j = β i := by simp [ren, q1]
    exact hc.row i B0 bi q2 (e1 ▸ h6) h7 (q4 ▸ h8)
  · intro id bi hb
    have hlt : id < n0 := by
      refine Nat.lt_of_not_le fun hle => ?_
      rw [hβ0 id hle] at hb; cases hb
    have := g1 _ _ (h1 id id ((look_idRen n0 id id).2 ⟨hlt, rfl⟩))
    simp only [ren, this]
    exact hc.ext id bi hb
end
end Go.Am

set_option linter.unusedVariables false
namespace Go.Am
noncomputable section
open Go

/-! ### Calls that share the caller's memory -/
def OkOf (m : List (Option Blk)) (β : Pl) (b : Nat) : Prop := ∃ id B bi, memOf m id = some B ∧ B.mine = true ∧ β id = some bi ∧ bi.nil = false ∧ bi.b = b
structure SCall (P : Program) (f : FuncId) (args : List AV) (m : List (Option Blk)) (Q : List AV → List (Option Blk) → Prop) : Prop where
  fn : ∃ fn c, P.funcs[f]? = some fn ∧ fn.body = some c ∧ (fn.name == "runtime.NumGoroutine") = false
  run : ∀ (β : Pl) (F : Nat → Prop) (w : World) (vs : List Value), args.length = vs.length → (∀ (k : Nat) (x : AV) (y : Value), args[k]? = some x → vs[k]? = some y → RepA β F w x y) → MemOK (memOf m) β F w → (∀ id, m.length ≤ id → β id = none) →
    Calls P f vs.toArray w fun e w' => ∃ v xs m' β' F', e = .returned v ∧ Q xs m' ∧ RepA β' F' w' (oneOr xs) v ∧ MemOK (memOf m') β' F' w' ∧ (∀ id, m'.length ≤ id → β' id = none) ∧ Ctx (OkOf m β) F β w ⟨[], m'⟩ β' F' w'
abbrev ShareRel := FuncId → List AV → List (Option Blk) → (List AV → List (Option Blk) → Prop) → Prop
def SharesOK (P : Program) (D : ShareRel) : Prop := ∀ f args m Q, D f args m Q → SCall P f args m Q
theorem SCall.mono {P : Program} {f : FuncId} {args : List AV} {m : List (Option Blk)} {Q Q' : List AV → List (Option Blk) → Prop} (h : SCall P f args m Q) (hq : ∀ xs m, Q xs m → Q' xs m) : SCall P f args m Q' :=
  ⟨h.fn, fun β F w vs h1 h2 h3 h4 => (h.run β F w vs h1 h2 h3 h4).mono fun e w' ⟨v, xs, m', β', F', g1, g2, g3⟩ => ⟨v, xs, m', β', F', g1, hq _ _ g2, g3⟩⟩

def putM (dst : Option Tmp) (v : AV) (t : List AV) (m : List (Option Blk)) (k : ASt → Prop) : Prop :=
  forceK v fun v => match dst with
    | some d => setK t d v fun t' => k ⟨t', m⟩
    | none => k ⟨t, m⟩
def shareAt (S : List Nat) (o : Oper) (s : ASt) : Option (Nat × List AV) :=
  match o.op with
  | .call c => match c.callee with
    | .value g => match s.eval g with
      | .clo f [] => match contains S f with
        | true => some (f, c.args.toList.map s.eval)
        | false => none
      | .clo f (x :: r) => some (f, c.args.toList.map s.eval ++ x :: r)
      | .p (.val (.func (.func f) first cap)) => match contains S f, first.toList, cap.toList with
        | true, [], [] => some (f, c.args.toList.map s.eval)
        | _, _, _ => none
      | _ => none
    | _ => none
  | _ => none
noncomputable def runS (T : Tab) (C : CallRel) (S : List Nat) (D : ShareRel) (all : List Oper) (l : List Oper) : ASt → (ASt → Prop) → Prop :=
  List.rec (fun s k => k s) (fun o _ ih s k => match shareAt S o s with
    | some (f, args) => match o.guard with
      | none => D f args s.m fun xs m' => putM o.dst (oneOr xs) s.t m' fun s' => ih s' k
      | some _ => False
    | none => stepK T C all o s fun s' _ => ih s' k) l
theorem runS_cons (T : Tab) (C : CallRel) (S : List Nat) (D : ShareRel) (all : List Oper) (o : Oper) (r : List Oper) (s : ASt) (k : ASt → Prop) : runS T C S D all (o :: r) s k = (match shareAt S o s with
    | some (f, args) => match o.guard with
      | none => D f args s.m fun xs m' => putM o.dst (oneOr xs) s.t m' fun s' => runS T C S D all r s' k
      | some _ => False
    | none => stepK T C all o s fun s' _ => runS T C S D all r s' k) := rfl

theorem rep_list' {β : Pl} {F : Nat → Prop} {w : World} {s : ASt} {a : Act} (h : ∀ x, RepA β F w (s.eval x) (a.eval x)) (l : List Operand) :
    (l.map s.eval).length = (l.map a.eval).length ∧ ∀ (k : Nat) (x : AV) (y : Value), (l.map s.eval)[k]? = some x → (l.map a.eval)[k]? = some y → RepA β F w x y := by
  refine ⟨by simp, fun k x y h1 h2 => ?_⟩
  rw [List.getElem?_map] at h1 h2
  cases hk : l[k]? with
  | none => simp [hk] at h1
  | some z => simp [hk] at h1 h2; subst h1; subst h2; exact h z

theorem share_step {P : Program} {o : Oper} {s : ASt} {f : Nat} {args : List AV} {S : List Nat} (hs : shareAt S o s = some (f, args)) {Q : List AV → List (Option Blk) → Prop} (hD : SCall P f args s.m Q)
    {β : Pl} {F : Nat → Prop} {a : Act} {w : World} {Ok F0 : Nat → Prop} {β0 : Pl} {w0 : World} (h : Sim s β F a w) (hc : Ctx Ok F0 β0 w0 s β F w) {next : Act → World → Prop} {R : Exit → Act → World → Prop}
    (hn : ∀ xs m' a' w' β' F', Q xs m' → Sim ⟨s.put o.dst (oneOr xs), m'⟩ β' F' a' w' → Ctx Ok F0 β0 w0 ⟨s.put o.dst (oneOr xs), m'⟩ β' F' w' → next a' w') : o.wp P a w next R := by
  obtain ⟨c, g, cap, vcap, hop, hcal, hval, hargs, hcap⟩ : ∃ (c : Call) (g : Operand) (cap : List AV) (vcap : List Value), o.op = .call c ∧ c.callee = .value g ∧ a.eval g = .func (.func f) #[] vcap.toArray ∧ args = c.args.toList.map s.eval ++ cap ∧
      (cap.length = vcap.length ∧ ∀ (k : Nat) (x : AV) (y : Value), cap[k]? = some x → vcap[k]? = some y → RepA β F w x y) := by
    unfold shareAt at hs
    split at hs
    case h_2 => cases hs
    rename_i c hop
    split at hs
    case h_2 => cases hs
    rename_i g hg
    have hr := h.eval g
    split at hs
    · rename_i f' hx
      split at hs
      · cases hs
        rw [hx] at hr
        generalize hq : a.eval g = q at hr
        cases hr with
        | clo _ _ vs hl hxx =>
          have : vs = [] := List.eq_nil_of_length_eq_zero (by simpa using hl.symm)
          subst this
          exact ⟨c, g, [], [], hop, hg, hq, by simp, rfl, fun k x y h => by simp at h⟩
      · cases hs
    · rename_i f' x r hx
      cases hs
      rw [hx] at hr
      generalize hq : a.eval g = q at hr
      cases hr with
      | clo _ _ vs hl hxx => exact ⟨c, g, x :: r, vs, hop, hg, hq, rfl, hl, hxx⟩
    · rename_i f' first cap hx
      split at hs
      · rename_i h1 h2 h3
        cases hs
        rw [hx] at hr
        have e1 : first = #[] := by simpa using h2
        have e2 : cap = #[] := by simpa using h3
        subst e1; subst e2
        exact ⟨c, g, [], [], hop, hg, repVal hr, by simp, rfl, fun k x y h => by simp at h⟩
      · cases hs
    · cases hs
  obtain ⟨fn, cd, hfn, hbody, hname⟩ := hD.fn
  obtain ⟨l1, l2⟩ := rep_list' (fun x => h.eval x) c.args.toList
  have hcall := hD.run β F w (c.args.toList.map a.eval ++ vcap) (by rw [hargs]; simp [hcap.1]) (fun k x y h1 h2 => by
    rw [hargs] at h1
    by_cases hk : k < (c.args.toList.map s.eval).length
    · rw [List.getElem?_append_left hk] at h1
      rw [List.getElem?_append_left (by omega)] at h2
      exact l2 k x y h1 h2
    · rw [List.getElem?_append_right (by omega)] at h1
      rw [List.getElem?_append_right (by omega)] at h2
      rw [← l1] at h2
      exact hcap.2 _ x y h1 h2) h.mem h.dom
  unfold Oper.wp
  have hcv : c.args.map a.eval ++ vcap.toArray = (c.args.toList.map a.eval ++ vcap).toArray := by rw [← Array.toList_inj]; simp
  have hrun : (execOp a.eval o).run P w = .ok (.enter f (c.args.toList.map a.eval ++ vcap).toArray) w := by
    simp only [execOp, hop, resolve, hcal, Sem.run_bind, hval, Deferred.ofValue, Sem.run_pure, Result.andThen_ok, invoke, callFunc, program, Sem.run, hfn, hname, hbody, Bool.false_eq_true, if_false, Option.isNone_some]
    rw [← hcv]; simp
  rw [hrun]
  simp only [Oper.upon]
  refine hcall.mono ?_
  rintro e w' ⟨v, xs, m', β', F', rfl, hq, hrv, hmem, hdom, hcx⟩
  have hFk : ∀ b, F b → w'.heap[b]? = w.heap[b]? := fun b hb => hcx.keep b (h.mem.lt b hb) (by
    rintro ⟨id, B, bi, q1, q2, q3, q4, q5⟩
    obtain ⟨bi', q6, q7⟩ := h.mem.ok id B q1
    rw [q3] at q6; cases q6
    subst q5
    refine q7.notF q4 ?_ hb
    cases B with
    | box cs => exact .inl ⟨cs, rfl⟩
    | row sz els o => cases o with
      | true => exact .inr ⟨sz, els, rfl⟩
      | false => cases q2)
  refine hn xs m' _ w' β' F' hq ⟨?_, ?_, hmem, hdom, ?_⟩ ⟨hcx.os.trans hc.os, hcx.tape.trans hc.tape, hcx.output.trans hc.output, Nat.le_trans hc.size hcx.size, ?_, ?_, fun id bi h => hcx.ext _ _ (hc.ext _ _ h), fun b h => hcx.Fm _ (hc.Fm _ h), ?_⟩
  · cases o.dst <;> simp [ASt.put, Act.put, h.size]
  · intro t x hx
    cases hd : o.dst with
    | none => rw [hd] at hx; exact (h.tmps t x hx).mono hcx.ext hcx.Fm hFk
    | some t' =>
      rw [hd] at hx
      simp only [ASt.put] at hx
      by_cases ht : t' = t
      · subst ht
        have hlt : t' < s.t.length := by have := (List.getElem?_eq_some_iff.1 hx).1; simpa using this
        rw [List.getElem?_set_self hlt] at hx
        cases hx
        have : (a.put (some t') v).eval (.tmp t') = v := by
          have := h.size
          simp [Act.eval, Act.put]
          intro hle
          exact absurd hlt (by rw [this]; exact Nat.not_lt.2 hle)
        rw [this]; exact hrv
      · rw [List.getElem?_set_ne ht] at hx
        have : (a.put (some t') v).eval (.tmp t) = a.eval (.tmp t) := Act.eval_put (fun d hd => by cases hd; intro e; exact ht (by cases e; rfl))
        rw [this]
        exact (h.tmps t x hx).mono hcx.ext hcx.Fm hFk
  · exact h.defers.step (by cases o.dst <;> rfl) hcx.Fm hFk
  · intro k hk hok
    rw [← hc.keep k hk hok]
    refine hcx.keep k (Nat.lt_of_lt_of_le hk hc.size) ?_
    rintro ⟨id, B, bi, q1, q2, q3, q4, rfl⟩
    rcases hc.row id B bi q1 q3 q4 q2 with q | q
    · exact hok q
    · omega
  · intro id B bi h1 h2 h3 h4
    rcases hcx.row id B bi h1 h2 h3 h4 with ⟨id0, B0, bi0, q1, q2, q3, q4, q5⟩ | q
    · rw [← q5]; exact hc.row id0 B0 bi0 q1 q3 q4 q2
    · exact .inr (Nat.le_trans hc.size q)
  · intro b hb
    rcases hcx.Fn b hb with q | ⟨id0, B0, bi0, q1, q2, q3, q4, q5⟩ | q
    · exact hc.Fn b q
    · rw [← q5]; exact .inr (hc.row id0 B0 bi0 q1 q3 q4 q2)
    · exact .inr (.inr (Nat.le_trans hc.size q))

theorem putM_eq {dst : Option Tmp} {v : AV} {s : ASt} {m : List (Option Blk)} {k : ASt → Prop} (h : putM dst v s.t m k) : k ⟨s.put dst v, m⟩ := by
  unfold putM at h
  rw [forceK_eq] at h
  cases dst with
  | none => exact h
  | some t => simp only [setK_eq] at h; exact h

theorem share_op {o : Oper} {s : ASt} {f : Nat} {args : List AV} {S : List Nat} (hs : shareAt S o s = some (f, args)) : ∀ c, o.op ≠ .defer c := fun c hc => by
  unfold shareAt at hs
  rw [hc] at hs
  cases hs

theorem runS_sound {G : Fence} (hW : Wide G) {n : Nat} {P : Program} {T : Tab} (hT : TabOK P T) {C : CallRel} (hC : CallsOK P C) {S : List Nat} {D : ShareRel} (hD : SharesOK P D) {all : Array Oper} {K : Exit → ASt → Prop} {Ok F0 : Nat → Prop} {β0 : Pl} {w0 : World} :
    ∀ (r : List Oper) (i : Nat) (s : ASt) (β : Pl) (F : Nat → Prop) (a : Act) (w : World), r = all.toList.drop i → runS T C S D all.toList r s (K .normal) → Sim s β F a w → Ctx Ok F0 β0 w0 s β F w →
      wpOpsIn G n P all (Post Ok F0 β0 w0 K) (List.range' i r.length) a w := by
  intro r
  induction r with
  | nil => intro i s β F a w hr h hs hc; exact ⟨s, β, F, h, hs, hc⟩
  | cons o r ih =>
    intro i s β F a w hr h hs hc
    have ho : all[i]? = some o := by
      have : (all.toList.drop i)[0]? = some o := by rw [← hr]; rfl
      rw [List.getElem?_drop] at this
      simpa using this
    have hr' : r = all.toList.drop (i + 1) := by
      have : (o :: r).tail = (all.toList.drop i).tail := by rw [hr]
      simpa [List.tail_drop] using this
    simp only [List.length_cons, List.range'_succ, wpOpsIn, ho]
    simp only [runS_cons] at h
    split at h
    · rename_i f args hsh
      split at h
      case h_2 => exact h.elim
      rename_i hgd
      have hw : Region.wanted o (yielded all a.tmps) = true := by simp [Region.wanted, hgd]
      rw [if_pos hw]
      exact hW.oper (share_op hsh) (share_step hsh (hD _ _ _ _ h) hs hc (fun xs m' a' w' β' F' hq g1 g2 => ih (i + 1) _ β' F' a' w' hr' (putM_eq hq) g1 g2))
    · obtain ⟨d, m', h1, h2, h3, h4⟩ := stepK_spec hT hC h
      exact step_opIn (n := n) hW (Q := Post Ok F0 β0 w0 K) (next := wpOpsIn G n P all (Post Ok F0 β0 w0 K) (List.range' (i + 1) r.length)) h1 hs hc h3 h4 (fun a' w' β' F' g1 g2 => ih (i + 1) _ β' F' a' w' hr' h2 g1 g2)
end
end Go.Am

set_option linter.unusedVariables false
namespace Go.Am
noncomputable section
open Go

/-! ### Loops over functions -/
def BoxesAt (as : List (Nat × Nat)) (vals : List Value) (W : World) : Prop := ∀ (k : Nat) (a : Nat × Nat) (v : Value), as[k]? = some a → vals[k]? = some v → W.cell? ⟨a.1, a.2, none⟩ = some v
/-- WHAT AN ITERATOR IS, by content: with these values in the boxes that it holds it yields these values, one after the other. -/
structure ICall (P : Program) (f : FuncId) (vals L : List Value) : Prop where
  fn : ∃ fn c, P.funcs[f]? = some fn ∧ fn.body = some c ∧ (fn.name == "runtime.NumGoroutine") = false
  run : ∀ (G : Fence) (n : Nat) (w : World) (as : List (Nat × Nat)), Wide G → as.length = vals.length → BoxesAt as vals w →
    SeqStopsK G n P f (as.map fun a => Value.pointer (some ⟨a.1, a.2, none⟩)).toArray (fun x : {v // v ∈ L} => #[x.1]) (fun A B => BoxesAt as vals A → BoxesAt as vals B) (fun xs => xs.map (·.1) = L) (fun pre => pre.map (·.1) <+: L) L.length w
abbrev IterRel := FuncId → List Value → List Value → Prop

def capsOf (m : List (Option Blk)) : List AV → Option (List Value)
  | [] => some []
  | c :: r => match c with
    | .ptr id 0 j => match memOf m id with
      | some (.box cs) => match nth cs j with
        | some (.p (.val v)) => match capsOf m r with
          | some vs => some (v :: vs)
          | none => none
        | _ => none
      | _ => none
    | _ => none
def asOf (β : Pl) (caps : List AV) : List (Nat × Nat) := caps.map fun c => match c with
  | .ptr id i j => match β id with
    | some bi => (bi.b, bi.o + i * bi.sz + j)
    | none => (0, 0)
  | _ => (0, 0)
theorem caps_cons {m : List (Option Blk)} {c : AV} {r : List AV} {vals : List Value} (h : capsOf m (c :: r) = some vals) :
    ∃ id j cs v vs, c = .ptr id 0 j ∧ memOf m id = some (.box cs) ∧ cs[j]? = some (.p (.val v)) ∧ capsOf m r = some vs ∧ vals = v :: vs := by
  simp only [capsOf] at h
  split at h
  case h_2 => cases h
  rename_i id j
  split at h
  case h_2 => cases h
  rename_i cs hm
  split at h
  case h_2 => cases h
  rename_i v hv
  split at h
  case h_2 => cases h
  rename_i vs hvs
  cases h
  rw [nth_eq] at hv
  exact ⟨id, j, cs, v, vs, rfl, hm, hv, hvs, rfl⟩
theorem caps_len {m : List (Option Blk)} : ∀ (caps : List AV) (vals : List Value), capsOf m caps = some vals → caps.length = vals.length := by
  intro caps
  induction caps with
  | nil => intro vals h; simp [capsOf] at h; subst h; rfl
  | cons c r ih =>
    intro vals h
    obtain ⟨id, j, cs, v, vs, _, _, _, h4, rfl⟩ := caps_cons h
    simp [ih vs h4]
theorem caps_boxes {m : List (Option Blk)} {β : Pl} {F : Nat → Prop} {w : World} (hm : MemOK (memOf m) β F w) : ∀ (caps : List AV) (vals : List Value), capsOf m caps = some vals → BoxesAt (asOf β caps) vals w := by
  intro caps
  induction caps with
  | nil => intro vals h k a v h1; simp [asOf] at h1
  | cons c r ih =>
    intro vals h k a v h1 h2
    obtain ⟨id, j, cs, v0, vs, rfl, g2, g3, g4, rfl⟩ := caps_cons h
    cases k with
    | succ k => exact ih vs g4 k a v (by simpa [asOf] using h1) (by simpa using h2)
    | zero =>
      obtain ⟨bi, q1, q2⟩ := hm.ok id _ g2
      simp only [asOf, List.map_cons, List.getElem?_cons_zero, Option.some.injEq] at h1 h2
      rw [q1] at h1
      subst h1; subst h2
      cases q2 with
      | box cs us q hn' hc hn1 hr hl hv h1 hx hF2 =>
        have hj : j < us.length := by rw [← hl]; exact (List.getElem?_eq_some_iff.1 g3).1
        have := hx j _ us[j] g3 (List.getElem?_eq_getElem hj)
        have e := repVal this
        have := hv j us[j] (List.getElem?_eq_getElem hj)
        rw [e] at this
        simpa using this
theorem caps_vals {m : List (Option Blk)} {β : Pl} {F : Nat → Prop} {w : World} : ∀ (caps : List AV) (vals : List Value) (vs : List Value), capsOf m caps = some vals → caps.length = vs.length →
    (∀ (k : Nat) (x : AV) (y : Value), caps[k]? = some x → vs[k]? = some y → RepA β F w x y) → vs = (asOf β caps).map (fun a => Value.pointer (some ⟨a.1, a.2, none⟩)) ∧
      ∀ β2 : Pl, (∀ id bi, β id = some bi → β2 id = some bi) → asOf β2 caps = asOf β caps := by
  intro caps
  induction caps with
  | nil => intro vals vs _ hl _; exact ⟨List.eq_nil_of_length_eq_zero hl.symm, fun _ _ => rfl⟩
  | cons c r ih =>
    intro vals vs h hl hx
    obtain ⟨id, j, cs, v0, vs', rfl, g2, g3, g4, rfl⟩ := caps_cons h
    cases vs with
    | nil => simp at hl
    | cons y ys =>
      obtain ⟨h1, h2⟩ := ih vs' ys g4 (by simpa using hl) (fun k x y p q => hx (k + 1) x y (by simpa using p) (by simpa using q))
      have := hx 0 _ y rfl rfl
      cases this with
      | ptr _ _ _ bi hb hn =>
        refine ⟨?_, fun β2 hβ => ?_⟩
        · simp only [asOf, List.map_cons, hb] at h1 ⊢
          rw [h1]
        · have := h2 β2 hβ
          simp only [asOf, List.map_cons, hb, hβ id bi hb] at this ⊢
          rw [this]

/-! ### What is so of a state stays so where blocks turn that hold no cells, marks' aside -/
theorem Sim.other {s : ASt} {β : Pl} {F F' : Nat → Prop} {a a' : Act} {w w' : World} (h : Sim s β F a w) (ht : a'.tmps = a.tmps) (hw : ∀ b, b < w.heap.size → CellAt w b → w'.heap[b]? = w.heap[b]?) (hsz : w.heap.size ≤ w'.heap.size)
    (hF : ∀ b, F b → CellAt w b → F' b) (hF' : ∀ b, F' b → F b ∨ (¬ CellAt w b ∧ b < w'.heap.size)) (hm : Marks a' F' w') : Sim s β F' a' w' := by
  have hk : ∀ b, F b → CellAt w b → w'.heap[b]? = w.heap[b]? := fun b h1 h2 => hw b (h.mem.lt b h1) h2
  refine ⟨by rw [ht]; exact h.size, fun t x hx => ?_, ⟨fun id B hB => ?_, h.mem.inj, fun b hb => ?_⟩, h.dom, hm⟩
  · have := h.tmps t x hx
    simp only [Act.eval, ht] at this ⊢
    exact this.shrink hF hk
  · obtain ⟨bi, h1, h2⟩ := h.mem.ok id B hB
    have hb : bi.nil = false → w'.heap[bi.b]? = w.heap[bi.b]? := fun q => hw _ (h2.lt q) (h2.room q).cell
    refine ⟨bi, h1, ?_⟩
    cases h2 with
    | nil sz h hn own => exact .nil sz h hn own
    | row sz els own q hz hn' hc hr hs ho hf =>
      exact .row sz els own q hz hn' hc (hr.mono (hb q)) (hs.shrink hF hk (hb q)) (fun o q' => by
        rcases hF' _ q' with z | z
        · exact ho o z
        · exact z.1 hr.cell) (fun o => hF _ (hf o) hr.cell)
    | box cs vs q hn' hc hn1 hr hl hv h1 hx hF2 =>
      exact .box cs vs q hn' hc hn1 (hr.mono (hb q)) hl (rangeAt_same hv (hb q)) h1 (fun k x y h2 h3 => (hx k x y h2 h3).shrink hF hk) (fun q' => by
        rcases hF' _ q' with z | z
        · exact hF2 z
        · exact z.1 hr.cell)
  · rcases hF' b hb with z | z
    · exact Nat.lt_of_lt_of_le (h.mem.lt b z) hsz
    · exact z.2
theorem notCell {w : World} {b : Nat} {d : Option (List Deferred)} (h : w.heap[b]? = some (.deferred d)) : ¬ CellAt w b := fun ⟨c, e, r, q⟩ => by rw [h] at q; cases q
/-- Blocks of ours are of cells, and not frozen. -/
theorem own_cell {m : List (Option Blk)} {β : Pl} {F : Nat → Prop} {w : World} (hm : MemOK (memOf m) β F w) {b : Nat} (h : OkOf m β b) : CellAt w b ∧ ¬ F b := by
  obtain ⟨id, B, bi, q1, q2, q3, q4, rfl⟩ := h
  obtain ⟨bi', r1, r2⟩ := hm.ok id B q1
  rw [q3] at r1; cases r1
  refine ⟨(r2.room q4).cell, r2.notF q4 ?_⟩
  cases B with
  | box cs => exact .inl ⟨cs, rfl⟩
  | row sz els o => cases o with
    | true => exact .inr ⟨sz, els, rfl⟩
    | false => cases q2
theorem Ctx.frozen {m : List (Option Blk)} {s : ASt} {β β0 β1 : Pl} {F F1 : Nat → Prop} {w w1 : World} (hm : MemOK (memOf m) β F w) (h : Ctx (OkOf m β) F β0 w s β1 F1 w1) (b : Nat) (hb : F b) : w1.heap[b]? = w.heap[b]? :=
  h.keep b (hm.lt b hb) (fun q => (own_cell hm q).2 hb)
/-- One stretch behind another. -/
theorem Ctx.comp {Ok F0 : Nat → Prop} {β0 β01 : Pl} {w0 : World} {s s2 : ASt} {β β2 : Pl} {F F2 : Nat → Prop} {w w2 : World} (h : Ctx Ok F0 β0 w0 s β F w) (k : Ctx (OkOf s.m β) F β01 w s2 β2 F2 w2) (hβ : ∀ id bi, β0 id = some bi → β2 id = some bi) : Ctx Ok F0 β0 w0 s2 β2 F2 w2 := by
  have hok : ∀ b, OkOf s.m β b → Ok b ∨ w0.heap.size ≤ b := fun b ⟨id, B, bi, q1, q2, q3, q4, q5⟩ => by rw [← q5]; exact h.row id B bi q1 q3 q4 q2
  refine ⟨k.os.trans h.os, k.tape.trans h.tape, k.output.trans h.output, Nat.le_trans h.size k.size, fun b hb hn => ?_, fun id B bi q1 q2 q3 q4 => ?_, hβ, fun b hb => k.Fm b (h.Fm b hb), fun b hb => ?_⟩
  · rw [← h.keep b hb hn]
    refine k.keep b (Nat.lt_of_lt_of_le hb h.size) (fun q => ?_)
    rcases hok b q with z | z
    · exact hn z
    · omega
  · rcases k.row id B bi q1 q2 q3 q4 with z | z
    · exact hok _ z
    · exact .inr (Nat.le_trans h.size z)
  · rcases k.Fn b hb with z | z | z
    · exact h.Fn b z
    · exact .inr (hok b z)
    · exact .inr (.inr (Nat.le_trans h.size z))
theorem Ctx.other {Ok F0 : Nat → Prop} {β0 : Pl} {w0 : World} {s : ASt} {β : Pl} {F F' : Nat → Prop} {w w' : World} (h : Ctx Ok F0 β0 w0 s β F w) (h1 : w'.os = w.os) (h2 : w'.tape = w.tape) (h3 : w'.output = w.output) (h4 : w.heap.size ≤ w'.heap.size)
    (hk : ∀ k, k < w0.heap.size → w'.heap[k]? = w.heap[k]?) (hF : ∀ b, F b → F' b) (hF' : ∀ b, F' b → F b ∨ w0.heap.size ≤ b) : Ctx Ok F0 β0 w0 s β F' w' :=
  ⟨h1.trans h.os, h2.trans h.tape, h3.trans h.output, Nat.le_trans h.size h4, fun k q1 q2 => (hk k q1).trans (h.keep k q1 q2), h.row, h.ext, fun b q => hF b (h.Fm b q), fun b q => by
    rcases hF' b q with z | z
    · exact h.Fn b z
    · exact .inr (.inr z)⟩

/-- What a round must come to: on with the memory as the relation says; or out, the values yielded so far being the list's beginning. -/
def endK (K : Exit → ASt → Prop) (t : List AV) (n0 : Nat) (caps : List AV) (vals L : List Value) {X : Type} (I : List Value → X → Prop) (M : X → List (Option Blk)) (pre : List Value) : Exit → ASt → Prop
  | .normal, s2 => capsOf s2.m caps = some vals ∧ ∃ x', leK n0 ⟨t, s2.m⟩ ⟨t, M x'⟩ (I pre x')
  | .exit id, s2 => pre <+: L → K (.exit id) ⟨t, s2.m⟩
  | .ret, s2 => pre <+: L → K .ret ⟨t, s2.m⟩
  | _, _ => False

theorem range_sound {P : Program} {G : Fence} (hW : Wide G) (hro : G.round = none) {n : Nat} {g : Operand} {p d : Tmp} {id : Nat} {o : Oper} {body : Code} (ho1 : o.dst = some d) (ho2 : o.op = .assign (.tmp p)) (ho3 : o.guard = none)
    {Ok F0 : Nat → Prop} {β0 : Pl} {w0 : World} {s : ASt} {β : Pl} {F : Nat → Prop} {a : Act} {w : World} {K : Exit → ASt → Prop} {f : FuncId} {caps : List AV} {vals L : List Value}
    (hg : s.eval g = .clo f caps) (hcap : capsOf s.m caps = some vals) (hI : ICall P f vals L) (hp : p < s.t.length) {X : Type} {I : List Value → X → Prop} {M : X → List (Option Blk)} {x0 : X} (h0 : leK s.m.length s ⟨s.t, M x0⟩ (I [] x0))
    (hbody : ∀ (l : Nat) (pre : List Value) (v : Value) (x : X), I pre x → v ∈ L → ∀ (Ok F0 : Nat → Prop) (β0 : Pl) (w0 : World) (β : Pl) (F : Nat → Prop) (a : Act) (w : World), (∀ id, s.m.length ≤ id → β0 id = none) →
      Sim ⟨(s.t.set p (.p (.val v))).set d (.p (.val v)), M x⟩ β F a w → Ctx Ok F0 β0 w0 ⟨(s.t.set p (.p (.val v))).set d (.p (.val v)), M x⟩ β F w →
      body.wpIn (G.inRound l) 0 P (Post Ok F0 β0 w0 (endK K s.t s.m.length caps vals L I M (pre ++ [v]))) a w)
    (hdone : ∀ x, I L x → K .normal ⟨s.t, M x⟩) (hs : Sim s β F a w) (hc : Ctx Ok F0 β0 w0 s β F w) :
    (Code.rangeFunc g #[p] (.region id #[o] false) body).wpIn G n P (Post Ok F0 β0 w0 K) a w := by
  -- the closure
  have hge := hs.eval g
  rw [hg] at hge
  obtain ⟨vs, hval, hl, hx⟩ : ∃ vs : List Value, a.eval g = .func (.func f) #[] vs.toArray ∧ caps.length = vs.length ∧ ∀ (k : Nat) (x : AV) (y : Value), caps[k]? = some x → vs[k]? = some y → RepA β F w x y := by
    generalize hq : a.eval g = q at hge
    cases hge with
    | clo _ _ vs hl hx => exact ⟨vs, rfl, hl, hx⟩
  obtain ⟨hvs, hasOf⟩ := caps_vals caps vals vs hcap hl hx
  have hbox := caps_boxes hs.mem caps vals hcap
  have hlen : (asOf β caps).length = vals.length := by rw [← caps_len caps vals hcap]; simp [asOf]
  obtain ⟨fn, c, hfn, hfb, hname⟩ := hI.fn
  have hold : ∀ dd ∈ a.defers, ∃ D, dd = { target := .collected D, args := #[] } ∧ F D ∧ w.heap[D]? = some (.deferred (some [])) := hs.defers.2
  -- the stretch from the loop's beginning
  have hc1 : Ctx (OkOf s.m β) F β w s β F w := ⟨rfl, rfl, rfl, Nat.le_refl _, fun _ _ _ => rfl, fun id B bi q1 q2 q3 q4 => .inl ⟨id, B, bi, q1, q4, q2, q3, rfl⟩, fun _ _ h => h, fun _ h => h, fun _ h => .inl h⟩
  obtain ⟨hI0, β1, hs1, hc2⟩ := leK_spec h0 hs.dom hs hc1
  -- a state of later whose slots are the loop's own
  have back : ∀ {s2 : ASt} {β2 : Pl} {F2 : Nat → Prop} {a2 : Act} {w2 : World}, Sim s2 β2 F2 a2 w2 → Ctx (OkOf s.m β) F β w s2 β2 F2 w2 → Sim ⟨s.t, s2.m⟩ β2 F2 a w2 := fun {s2 β2 F2 a2 w2} q k => by
    have fz : ∀ b, F b → w2.heap[b]? = w.heap[b]? := fun b hb => Ctx.frozen hs.mem k b hb
    exact ⟨hs.size, fun t x hx => (hs.tmps t x hx).mono k.ext k.Fm fz, q.mem, q.dom, hs.defers.step rfl k.Fm fz⟩
  have grow : ∀ {s2 : ASt} {β2 : Pl} {F2 : Nat → Prop} {A B : World} {row : Option Nat}, Sim ⟨s.t, s2.m⟩ β2 F2 a A → Ctx (OkOf s.m β) F β w ⟨s.t, s2.m⟩ β2 F2 A → A.grownBy B row → (∀ r, row = some r → w.heap.size ≤ r ∧ ∃ o : Obj, A.heap[r]? = some o ∧ o.isCells = false) →
      Sim ⟨s.t, s2.m⟩ β2 F2 a B ∧ Ctx (OkOf s.m β) F β w ⟨s.t, s2.m⟩ β2 F2 B := fun {s2 β2 F2 A B row} q k hgr hrow => by
    have keep : ∀ b, b < A.heap.size → (CellAt A b ∨ b < w.heap.size) → B.heap[b]? = A.heap[b]? := fun b hb hor => hgr.block b hb (fun e => by
      obtain ⟨r1, o, r2, r3⟩ := hrow b e.symm
      rcases hor with ⟨c, e', r, z⟩ | z
      · rw [z] at r2; cases r2; cases r3
      · omega)
    refine ⟨q.other rfl (fun b h1 h2 => keep b h1 (.inl h2)) hgr.size (fun _ h _ => h) (fun _ h => .inl h) ⟨hs.defers.1, fun dd hd => ?_⟩, k.other hgr.os hgr.tape hgr.output hgr.size (fun b hb => keep b (Nat.lt_of_lt_of_le hb k.size) (.inr hb)) (fun _ h => h) (fun _ h => .inl h)⟩
    obtain ⟨D, q1, q2, q3⟩ := hold dd hd
    obtain ⟨D', p1, p2, p3⟩ := q.defers.2 dd hd
    have : D' = D := by rw [q1] at p1; simpa using p1.symm
    subst this
    exact ⟨D', q1, p2, (keep D' (q.mem.lt _ p2) (.inr (hs.mem.lt _ q2))).trans p3⟩
  let Inv : List {v // v ∈ L} → World → Prop := fun pre W => ∃ x β' F', I (pre.map (·.1)) x ∧ Sim ⟨s.t, M x⟩ β' F' a W ∧ Ctx (OkOf s.m β) F β w ⟨s.t, M x⟩ β' F' W
  let InvX : Code → List {v // v ∈ L} → World → Prop := fun c pre W => ∃ e m' β' F', ((e = .ret ∧ c = .ret) ∨ ∃ id, e = .exit id ∧ c = .exit id) ∧ (pre.map (·.1) <+: L → K e ⟨s.t, m'⟩) ∧ Sim ⟨s.t, m'⟩ β' F' a W ∧ Ctx (OkOf s.m β) F β w ⟨s.t, m'⟩ β' F' W
  -- behind the loop: the mark
  have mark : ∀ {s2 : ASt} {β2 : Pl} {F2 : Nat → Prop} {W : World} {D : Nat}, w.heap.size ≤ D → W.heap[D]? = some (.deferred (some [])) → Sim ⟨s.t, s2.m⟩ β2 F2 a W → Ctx (OkOf s.m β) F β w ⟨s.t, s2.m⟩ β2 F2 W →
      ∃ F3, Sim ⟨s.t, s2.m⟩ β2 F3 { a with defers := { target := .collected D, args := #[] } :: a.defers } W ∧ Ctx Ok F0 β0 w0 ⟨s.t, s2.m⟩ β2 F3 W := fun {s2 β2 F2 W D} hD hW' q k => by
    have hlt : D < W.heap.size := (Array.getElem?_eq_some_iff.1 hW').1
    refine ⟨fun b => F2 b ∨ b = D, q.other rfl (fun _ _ _ => rfl) (Nat.le_refl _) (fun _ h _ => .inl h) (fun b h => h.imp (fun z => z) (fun e => by subst e; exact ⟨notCell hW', hlt⟩)) ⟨List.pairwise_cons.2 ⟨fun dd hd e => ?_, hs.defers.1⟩, fun dd hd => ?_⟩, ?_⟩
    · obtain ⟨D', q1, q2, q3⟩ := hold dd hd
      have : D' = D := by rw [q1] at e; simpa using e.symm
      have := hs.mem.lt _ q2
      omega
    · rcases List.mem_cons.1 hd with rfl | hd
      · exact ⟨D, rfl, .inr rfl, hW'⟩
      · obtain ⟨D', q1, q2, q3⟩ := q.defers.2 dd hd
        exact ⟨D', q1, .inl q2, q3⟩
    · refine (Ctx.comp hc k (fun id bi h => k.ext _ _ (hc.ext _ _ h))).other rfl rfl rfl (Nat.le_refl _) (fun _ _ => rfl) (fun _ h => .inl h) (fun b h => h.imp (fun z => z) (fun e => ?_))
      subst e; exact Nat.le_trans hc.size hD
  suffices hh : (Code.rangeFunc g #[p] (.region id #[o] false) body).wpIn G 2 P (Post Ok F0 β0 w0 K) a w from fun b k cs h1 h2 _ => hh b k cs h1 h2 (hW.room _)
  refine wpIn_rangeFunc_ownF (α := {v // v ∈ L}) (encs := fun x => #[x.1]) (Kp := fun A B => BoxesAt (asOf β caps) vals A → BoxesAt (asOf β caps) vals B) (w0 := w) (gf := f) (lb := vs.toArray)
    hro (by omega) hval (hW.fn _) (fun args w' => by simp only [callFunc, program, Sem.run_bind, Sem.run, Result.andThen_ok, hfn, hname, hfb, Bool.false_eq_true, if_false, Option.isNone_some]; rfl)
    (by rw [hvs]; exact hI.run G (2 - 1) w (asOf β caps) hW hlen hbox) (fun h k q => k (h q)) ?_ (RowKit.Below.refl _ _) (fun _ => rfl) Inv InvX ?_ ?_ ⟨x0, β1, F, hI0, hs1, hc2⟩
    (fun x => { tmps := (a.tmps.setIfInBounds p x.1).setIfInBounds d x.1, defers := [] }) ?_ ?_ ?_ ?_
  · -- what a round keeps: a turn of a block of no cells
    intro W l o o' _ ho hnc _ hB k a' v h1 h2
    have := hB k a' v h1 h2
    simp only [World.cell?] at this ⊢
    have hne : a'.1 ≠ l := by
      rintro rfl
      rw [ho] at this
      cases o with
      | cells => simp [Obj.isCells] at hnc
      | _ => simp at this
    rw [World.putObj_heap_other hne]
    exact this
  · intro pre A B row ⟨x, β', F', q1, q2, q3⟩ hgr hrow
    obtain ⟨z1, z2⟩ := grow (s2 := ⟨s.t, M x⟩) q2 q3 hgr hrow
    exact ⟨x, β', F', q1, z1, z2⟩
  · intro c pre A B row ⟨e, m', β', F', q0, q1, q2, q3⟩ hgr hrow
    obtain ⟨z1, z2⟩ := grow (s2 := ⟨s.t, m'⟩) q2 q3 hgr hrow
    exact ⟨e, m', β', F', q0, q1, z1, z2⟩
  · -- the yielded value's assignment
    intro l x W K' hK
    refine wpIn_region ?_
    show wpOpsIn _ _ P #[o] _ [0] _ _
    have hw : Region.wanted o (yielded #[o] ({ tmps := (#[p].zip #[x.1]).foldl (fun t (p, v) => t.setIfInBounds p v) a.tmps, defers := [] } : Act).tmps) = true := by simp [Region.wanted, ho3]
    simp only [wpOpsIn, List.getElem?_toArray, List.getElem?_cons_zero]
    rw [if_pos hw]
    refine (hW.inRound l).oper (fun c hc => by rw [ho2] at hc; cases hc) ?_
    unfold Oper.wp
    have hev : (Act.eval { tmps := (#[p].zip #[x.1]).foldl (fun t (p, v) => t.setIfInBounds p v) a.tmps, defers := [] } (.tmp p)) = x.1 := by
      have : p < a.tmps.size := by rw [← hs.size]; exact hp
      simp [Act.eval, this]
    simp only [execOp, ho2, Sem.run_pure, Oper.upon, hev]
    have : (Act.put { tmps := (#[p].zip #[x.1]).foldl (fun t (p, v) => t.setIfInBounds p v) a.tmps, defers := [] } o.dst x.1) = { tmps := (a.tmps.setIfInBounds p x.1).setIfInBounds d x.1, defers := [] } := by
      simp [Act.put, ho1]
    rw [this]
    exact hK
  · -- a round
    rintro l pre x W ⟨y, β', F', q1, q2, q3⟩ hlt
    let βr : Pl := fun id => if id < s.m.length then β' id else none
    have hr0 : ∀ id bi, βr id = some bi → β' id = some bi := fun id bi h => by
      simp only [βr] at h; split at h
      · exact h
      · cases h
    have hr1 : ∀ id bi, β id = some bi → βr id = some bi := fun id bi h => by
      have : id < s.m.length := Nat.lt_of_not_le (fun hle => by rw [hs.dom id hle] at h; cases h)
      simp only [βr, if_pos this]; exact q3.ext id bi h
    have hsb : Sim ⟨(s.t.set p (.p (.val x.1))).set d (.p (.val x.1)), M y⟩ β' F' { tmps := (a.tmps.setIfInBounds p x.1).setIfInBounds d x.1, defers := [] } W := by
      refine ⟨by simpa using q2.size, fun t z hz => ?_, q2.mem, q2.dom, .nil rfl⟩
      simp only at hz
      by_cases hd : t = d
      · subst hd
        have hlt : t < s.t.length := by have := (List.getElem?_eq_some_iff.1 hz).1; simpa using this
        rw [List.getElem?_set_self (by simpa using hlt)] at hz
        cases hz
        have : t < a.tmps.size := by rw [← hs.size]; exact hlt
        have e : (Act.eval { tmps := (a.tmps.setIfInBounds p x.1).setIfInBounds t x.1, defers := [] } (.tmp t)) = x.1 := by simp [Act.eval, this]
        rw [e]; exact .p _ _ (.val _)
      · rw [List.getElem?_set_ne (Ne.symm hd)] at hz
        by_cases hpt : t = p
        · subst hpt
          rw [List.getElem?_set_self hp] at hz
          cases hz
          have : t < a.tmps.size := by rw [← hs.size]; exact hp
          have e : (Act.eval { tmps := (a.tmps.setIfInBounds t x.1).setIfInBounds d x.1, defers := [] } (.tmp t)) = x.1 := by
            simp [Act.eval, Array.getElem?_setIfInBounds, this, Ne.symm hd]
          rw [e]; exact .p _ _ (.val _)
        · rw [List.getElem?_set_ne (Ne.symm hpt)] at hz
          have e : (Act.eval { tmps := (a.tmps.setIfInBounds p x.1).setIfInBounds d x.1, defers := [] } (.tmp t)) = a.eval (.tmp t) := by
            simp [Act.eval, Array.getElem?_setIfInBounds, Ne.symm hd, Ne.symm hpt]
          rw [e]; exact q2.tmps t z hz
    have hcb : Ctx (OkOf (M y) β') F' βr W ⟨(s.t.set p (.p (.val x.1))).set d (.p (.val x.1)), M y⟩ β' F' W :=
      ⟨rfl, rfl, rfl, Nat.le_refl _, fun _ _ _ => rfl, fun id B bi z1 z2 z3 z4 => .inl ⟨id, B, bi, z1, z4, z2, z3, rfl⟩, hr0, fun _ h => h, fun _ h => .inl h⟩
    refine wpIn_mono (hbody l (pre.map (·.1)) x.1 y q1 x.2 _ _ βr W β' F' _ W (fun id hid => by simp only [βr, if_neg (Nat.not_lt.2 hid)]) hsb hcb) ?_
    rintro e a2 w2 ⟨s2, β2, F2, hk, k1, k2⟩
    have hmap : (pre ++ [x]).map (·.1) = pre.map (·.1) ++ [x.1] := by simp
    have ko : KeepsOthers W w2 := ⟨k2.size, fun k o ho hnc => (k2.keep k (Array.getElem?_eq_some_iff.1 ho).1 (fun q => by
      obtain ⟨⟨c, e, r, z⟩, _⟩ := own_cell q2.mem q
      rw [z] at ho; cases ho; cases hnc)).trans ho⟩
    have kc : Ctx (OkOf s.m β) F β w s2 β2 F2 w2 := Ctx.comp q3 k2 (fun id bi h => k2.ext _ _ (hr1 id bi h))
    have ks := back k1 kc
    have kc2 : Ctx (OkOf s.m β) F β w ⟨s.t, s2.m⟩ β2 F2 w2 := ⟨kc.os, kc.tape, kc.output, kc.size, kc.keep, kc.row, kc.ext, kc.Fm, kc.Fn⟩
    cases e with
    | normal =>
      obtain ⟨z1, x', z2⟩ := hk
      obtain ⟨z3, β3, z4, z5⟩ := leK_spec z2 hs.dom ks kc2
      refine ⟨ko, fun _ => ?_, x', β3, F2, by rw [hmap]; exact z3, z4, z5⟩
      have := caps_boxes k1.mem caps vals z1
      rwa [hasOf β2 kc.ext] at this
    | ret => exact ⟨ko, .ret, s2.m, β2, F2, .inl ⟨rfl, rfl⟩, by rw [hmap]; exact hk, ks, kc2⟩
    | exit id => exact ⟨ko, .exit id, s2.m, β2, F2, .inr ⟨id, rfl, rfl⟩, by rw [hmap]; exact hk, ks, kc2⟩
    | _ => exact hk.elim
  · rintro D xs W hD hS ⟨x, β', F', q1, q2, q3⟩ hDW
    obtain ⟨F3, z1, z2⟩ := mark (s2 := ⟨s.t, M x⟩) hD hDW q2 q3
    exact ⟨_, β', F3, hdone x (hS ▸ q1), z1, z2⟩
  · rintro D c pre W hD hS ⟨e, m', β', F', q0, q1, q2, q3⟩ hDW
    obtain ⟨F3, z1, z2⟩ := mark (s2 := ⟨s.t, m'⟩) hD hDW q2 q3
    rcases q0 with ⟨rfl, rfl⟩ | ⟨id, rfl, rfl⟩
    · exact wpIn_ret ⟨_, β', F3, q1 hS, z1, z2⟩
    · exact wpIn_exit ⟨_, β', F3, q1 hS, z1, z2⟩
end
end Go.Am

set_option linter.unusedVariables false
namespace Go.Am
noncomputable section
open Go

/-- The leftmost region of a code: what a joining point is named by. -/
def firstOf : Code → Nat
  | .region id _ _ => id
  | .seq a _ => firstOf a
  | .block _ c => firstOf c
  | .loop c => firstOf c
  | _ => 0
/-- What a proof leans on: the types' table, the calls by content, those that share the caller's memory, and of which functions. -/
structure Env where
  T : Tab
  C : CallRel
  S : List Nat
  D : ShareRel
  /-- Iterators: which values they yield. -/
  I : IterRel
  /-- Is the test of a drawn region asked as a goal, or computed? -/
  ask : Bool
structure EnvOK (P : Program) (E : Env) : Prop where
  T : TabOK P E.T
  C : CallsOK P E.C
  D : SharesOK P E.D
  I : ∀ f vals L, E.I f vals L → ICall P f vals L
  mix : P.follows .mixedOrders = true
def regionS (E : Env) (all : Array Oper) (draw : Bool) (s : ASt) (K : ASt → Prop) : Prop :=
  match draw with
  | false => runS E.T E.C E.S E.D all.toList all.toList s K
  | true => match E.ask with
    | true => drawOK all = true ∧ runDK E.T E.C all.toList all.toList [] s fun es s' => indOr (befs all.toList []) es ∧ K s'
    | false => regionK E.T E.C all true s K
theorem regionS_draw {E : Env} {all : Array Oper} {s : ASt} {K : ASt → Prop} (ha : E.ask = false) (h : regionS E all true s K) : regionK E.T E.C all true s K := by
  unfold regionS at h
  simp only [ha] at h
  exact h

/-- Slots that hold nil, taken as empty rows of ours: (slot, cells an element); with 0 cells: a row of ours, taken by its content. -/
def ghost : List (Nat × Nat) → ASt → ASt
  | [], s => s
  | (t, sz) :: r, s => match nth s.t t with
    | some (.p (.val (.slice none 0 0))) => ghost r ⟨s.t.set t (.own s.m.length sz 0), s.m ++ [some (.row sz [] true)]⟩
    | some (.own id _ _) => match sz with
      | 0 => match nth s.m id with
        | some (some (.row sz' els true)) => ghost r ⟨s.t.set t (.p (.sl els)), s.m.set id (some (.row sz' els false))⟩
        | _ => ghost r s
      | _ => ghost r s
    | _ => ghost r s
theorem memOf_snoc (m : List (Option Blk)) (B : Blk) (id : Nat) : memOf (m ++ [some B]) id = if id = m.length then some B else memOf m id := by
  simp only [memOf, nth_eq]
  by_cases h : id = m.length
  · subst h; simp
  · rw [if_neg h]
    rcases Nat.lt_or_ge id m.length with q | q
    · rw [List.getElem?_append_left q]
    · rw [List.getElem?_eq_none (by simp; omega), List.getElem?_eq_none (by omega)]
theorem memOf_setB (m : List (Option Blk)) (B : Blk) (i id : Nat) (h : i < m.length) : memOf (m.set i (some B)) id = if id = i then some B else memOf m id := by
  simp only [memOf, nth_eq]
  by_cases e : id = i
  · subst e; rw [if_pos rfl, List.getElem?_set_self h]
  · rw [if_neg e, List.getElem?_set_ne (Ne.symm e)]
/-- A row of ours, taken by its content from here on. -/
theorem frz_sim {t id sz n sz' : Nat} {els : List (List PV)} {s : ASt} {Ok F0 : Nat → Prop} {β0 : Pl} {w0 : World} {β : Pl} {F : Nat → Prop} {a : Act} {w : World} (ht : nth s.t t = some (.own id sz n)) (hm : nth s.m id = some (some (.row sz' els true)))
    (hs : Sim s β F a w) (hc : Ctx Ok F0 β0 w0 s β F w) :
    ∃ F', Sim ⟨s.t.set t (.p (.sl els)), s.m.set id (some (.row sz' els false))⟩ β F' a w ∧ Ctx Ok F0 β0 w0 ⟨s.t.set t (.p (.sl els)), s.m.set id (some (.row sz' els false))⟩ β F' w := by
  have hmm : memOf s.m id = some (.row sz' els true) := by simp [memOf, hm]
  rw [nth_eq] at ht hm
  have hlt := (List.getElem?_eq_some_iff.1 ht).1
  have hid := (List.getElem?_eq_some_iff.1 hm).1
  obtain ⟨bi, hb, hok⟩ := hs.mem.ok id _ hmm
  have hFF : ∀ b, F b → frzF β F [id] b := fun b h => .inl h
  have hone : ∀ b, frzF β F [id] b → F b ∨ (bi.nil = false ∧ b = bi.b) := by
    rintro b (h | ⟨id', h1, b0, h2, h3, rfl⟩)
    · exact .inl h
    · simp at h1; subst h1; rw [hb] at h2; cases h2; exact .inr ⟨h3, rfl⟩
  have hpre : ∀ id' ∈ [id], Pre (memOf s.m) β F (frzF β F [id]) w id' := pre_frz fun id' h B hB => hs.mem.ok id' B hB
  have hval := (pv_spec (mm := memOf s.m) hFF (hs.tmps t _ ht) (.sl els) [id] (by simp [AV.pv, hmm]) hpre).1
  have hlF := frzF_lt (mm := memOf s.m) (ids := [id]) hs.mem.lt (fun id' h => by
    simp at h; subst h; exact ⟨_, bi, hmm, hb, hok⟩)
  have hset := fun k => memOf_setB s.m (.row sz' els false) id k hid
  have other : ∀ {k : Nat} {B : Blk} {bk : BI}, k ≠ id → memOf s.m k = some B → β k = some bk → bk.nil = false → ¬ F bk.b → ¬ frzF β F [id] bk.b := fun {k B bk} hne hB hbk hn hF hF' => by
    rcases hone _ hF' with h | ⟨h1, h2⟩
    · exact hF h
    · exact hs.mem.inj k id B _ bk bi hne hB hmm hbk hb hn h1 h2
  refine ⟨frzF β F [id], ⟨by simpa using hs.size, fun t' x hx => ?_, ⟨fun k B hB => ?_, fun k k' B B' bk bk' hne hB hB' hbk hbk' hn hn' => ?_, hlF⟩, fun k hk => hs.dom k (by simpa using hk), hs.defers.step rfl hFF (fun _ _ => rfl)⟩,
    ⟨hc.os, hc.tape, hc.output, hc.size, hc.keep, fun k B bk hB hbk hn hmine => ?_, hc.ext, fun b h => .inl (hc.Fm b h), fun b h => ?_⟩⟩
  · simp only at hx
    by_cases he : t' = t
    · subst he
      rw [List.getElem?_set_self hlt] at hx
      cases hx
      exact .p _ _ hval
    · rw [List.getElem?_set_ne (Ne.symm he)] at hx
      exact (hs.tmps t' x hx).mono (fun _ _ h => h) hFF (fun _ _ => rfl)
  · rw [hset] at hB
    split at hB
    · rename_i e
      subst e
      cases hB
      refine ⟨bi, hb, ?_⟩
      cases hok with
      | nil _ h hn _ => exact .nil _ h hn false
      | row _ _ _ h hz hn' hc hr hs' ho hf => exact .row _ _ false h hz hn' hc hr (hs'.mono hFF (fun _ _ => rfl) rfl) (fun q => by cases q) (fun _ => .inr ⟨k, List.mem_cons_self, bi, hb, h, rfl⟩)
    · rename_i e
      obtain ⟨bk, q1, q2⟩ := hs.mem.ok k B hB
      exact ⟨bk, q1, BlkOK.mono (fun _ _ h => h) hFF (fun _ _ => rfl) (fun _ => rfl) (fun hn hF => other e hB q1 hn hF) q2⟩
  · have back : ∀ {k : Nat} {B : Blk}, memOf (s.m.set id (some (.row sz' els false))) k = some B → ∃ B0, memOf s.m k = some B0 := fun {k B} h => by
      rw [hset] at h
      split at h
      · rename_i e; subst e; exact ⟨_, hmm⟩
      · exact ⟨_, h⟩
    obtain ⟨C, hC⟩ := back hB
    obtain ⟨C', hC'⟩ := back hB'
    exact hs.mem.inj k k' C C' bk bk' hne hC hC' hbk hbk' hn hn'
  · rw [hset] at hB
    split at hB
    · cases hB; cases hmine
    · exact hc.row k B bk hB hbk hn hmine
  · rcases hone b h with h | ⟨h1, rfl⟩
    · exact hc.Fn b h
    · exact .inr (hc.row id _ bi hmm hb h1 rfl)
theorem ghost_sim : ∀ (g : List (Nat × Nat)) {s : ASt} {Ok F0 : Nat → Prop} {β0 : Pl} {w0 : World} {β : Pl} {F : Nat → Prop} {a : Act} {w : World}, Sim s β F a w → Ctx Ok F0 β0 w0 s β F w →
    ∃ β' F', Sim (ghost g s) β' F' a w ∧ Ctx Ok F0 β0 w0 (ghost g s) β' F' w := by
  intro g
  induction g with
  | nil => intro s Ok F0 β0 w0 β F a w hs hc; exact ⟨β, F, hs, hc⟩
  | cons p r ih =>
    intro s Ok F0 β0 w0 β F a w hs hc
    obtain ⟨t, sz⟩ := p
    simp only [ghost]
    split
    case h_3 => exact ih hs hc
    case h_2 =>
      rename_i id sz0 n0 ht
      split
      case h_2 => exact ih hs hc
      split
      case h_2 => exact ih hs hc
      rename_i sz' els hm
      obtain ⟨F', h1, h2⟩ := frz_sim ht hm hs hc
      exact ih h1 h2
    rename_i ht
    let bi0 : BI := ⟨0, 0, 0, 0, 0, true⟩
    let β2 : Pl := fun id => if id = s.m.length then some bi0 else β id
    have h2 : ∀ id bi, β id = some bi → β2 id = some bi := fun id bi h => by
      have : id ≠ s.m.length := fun e => by rw [hs.dom id (by omega)] at h; cases h
      simp only [β2, if_neg this]; exact h
    have hself : β2 s.m.length = some bi0 := by simp [β2]
    refine ih (β := β2) ⟨by simpa using hs.size, fun t' x hx => ?_, ⟨fun id B hB => ?_, fun id id' B B' bi bi' hne hB hB' hb hb' hn hn' => ?_, hs.mem.lt⟩, fun id hid => ?_, hs.defers⟩
      ⟨hc.os, hc.tape, hc.output, hc.size, hc.keep, fun id B bi hB hb hn hm => ?_, fun id bi h => h2 _ _ (hc.ext id bi h), hc.Fm, hc.Fn⟩
    · simp only at hx
      have mono : ∀ {y v}, RepA β F w y v → RepA β2 F w y v := fun h => RepA.mono h2 (fun _ h => h) (fun _ _ => rfl) h
      by_cases he : t' = t
      · subst he
        have hlt : t' < s.t.length := by rw [nth_eq] at ht; exact (List.getElem?_eq_some_iff.1 ht).1
        rw [List.getElem?_set_self hlt] at hx
        cases hx
        rw [nth_eq] at ht
        rw [repVal (hs.tmps t' _ ht)]
        exact .ownNil _ _ _ bi0 hself rfl rfl
      · rw [List.getElem?_set_ne (Ne.symm he)] at hx
        exact mono (hs.tmps t' x hx)
    · rw [memOf_snoc] at hB
      split at hB
      · rename_i e
        cases hB
        subst e
        exact ⟨bi0, hself, .nil sz rfl rfl true⟩
      · obtain ⟨bi, q1, q2⟩ := hs.mem.ok id B hB
        exact ⟨bi, h2 _ _ q1, BlkOK.mono h2 (fun _ h => h) (fun _ _ => rfl) (fun _ => rfl) (fun _ h => h) q2⟩
    · rw [memOf_snoc] at hB hB'
      have no : ∀ {bi}, β2 s.m.length = some bi → bi.nil = false → False := fun h q => by rw [hself] at h; cases h; cases q
      split at hB
      · rename_i e; subst e; exact (no hb hn).elim
      · rename_i e
        split at hB'
        · rename_i e'; subst e'; exact (no hb' hn').elim
        · rename_i e'
          simp only [β2, if_neg e] at hb
          simp only [β2, if_neg e'] at hb'
          exact hs.mem.inj id id' B B' bi bi' hne hB hB' hb hb' hn hn'
    · simp only [List.length_append, List.length_singleton] at hid
      simp only [β2, if_neg (show ¬ id = s.m.length by omega)]
      exact hs.dom id (by omega)
    · rw [memOf_snoc] at hB
      split at hB
      · rename_i e; subst e; rw [hself] at hb; cases hb; cases hn
      · rename_i e
        simp only [β2, if_neg e] at hb
        exact hc.row id B bi hB hb hn hm

/-! ### What must be shown of a code: by its text, operations carried out on states -/
abbrev Run := Bool → Nat → (Exit → ASt → Prop) → ASt → Prop
def wSkip : Run := fun _ _ K s => K .normal s
def wRegion (E : Env) (ops : Array Oper) (draw : Bool) : Run := fun _ _ K s => regionS E ops draw s (K .normal)
def wSeq (J : List Nat) (b : Code) (ia ib : Run) : Run := fun top n0 K s => match contains J (firstOf b) with
  | false => ia top n0 (fun e s' => match e with
    | .normal => ib top n0 K s'
    | e => K e s') s
  | true => ∃ (X : Type) (I : X → Prop) (sk : X → ASt), ia top n0 (fun e s' => match e with
    | .normal => ∃ (g : List (Nat × Nat)) (x : X), leK n0 (ghost g s') (sk x) (I x)
    | e => K e s') s ∧ ∀ x, I x → ib top n0 K (sk x)
def wCond (c : Operand) (ia ib : Run) : Run := fun top n0 K s => match s.eval c with
  | .p (.val (.bool t)) => match t with
    | true => ia top n0 K s
    | false => ib top n0 K s
  | _ => False
def wBlock (id : Nat) (ia : Run) : Run := fun top n0 K s => ia top n0 (fun e s' => match e with
  | .exit id' => match Nat.beq id' id with
    | true => K .normal s'
    | false => K (.exit id') s'
  | e => K e s') s
def wLoop (ia : Run) : Run := fun top n0 K s => ∃ (X : Type) (I : X → Prop) (μ : X → Nat) (sk : X → ASt) (g : List (Nat × Nat)) (x0 : X), leK n0 (ghost g s) (sk x0) (I x0) ∧ ∀ x, I x → ia top n0 (fun e s' => match e with
  | .normal => ∃ x', leK n0 s' (sk x') (I x' ∧ μ x' < μ x)
  | e => K e s') (sk x)
def wExit (id : Nat) : Run := fun _ _ K s => K (.exit id) s
def wRet : Run := fun _ _ K s => K .ret s
def wNo : Run := fun _ _ _ _ => False
/-- The one assignment by which a round begins: from, to. -/
def asgOf : Code → Option (Tmp × Tmp)
  | .region _ ops false => match ops.toList with
    | [o] => match o.dst, o.op, o.guard with
      | some d, .assign (.tmp q), none => some (q, d)
      | _, _, _ => none
    | _ => none
  | _ => none
def wRange (E : Env) (g : Operand) (ps : Array Tmp) (asg : Code) (ib : Run) : Run := fun top _ K s => match top with
  | false => False
  | true => match s.eval g with
    | .clo f caps => match capsOf s.m caps with
      | some vals => match ps.toList with
        | [p] => match asgOf asg with
          | some (q, d) => match Nat.beq p q with
            | true => ∃ (L : List Value), E.I f vals L ∧ p < s.t.length ∧ ∃ (X : Type) (I : List Value → X → Prop) (M : X → List (Option Blk)) (x0 : X), leK s.m.length s ⟨s.t, M x0⟩ (I [] x0) ∧
              (∀ (pre : List Value) (v : Value) (x : X), I pre x → v ∈ L → ib false s.m.length (endK K s.t s.m.length caps vals L I M (pre ++ [v])) ⟨(s.t.set p (.p (.val v))).set d (.p (.val v)), M x⟩) ∧
              ∀ x, I L x → K .normal ⟨s.t, M x⟩
            | false => False
          | none => False
        | _ => False
      | none => False
    | _ => False
/-- What must be shown of a code. -/
noncomputable def AWPr (E : Env) (J : List Nat) (c : Code) : Run :=
  Code.rec (motive := fun _ => Run) wSkip (fun _ ops draw => wRegion E ops draw) (fun _ b ia ib => wSeq J b ia ib) (fun c _ _ ia ib => wCond c ia ib) (fun id _ ia => wBlock id ia) (fun _ ia => wLoop ia)
    (fun g ps asg _ _ ib => wRange E g ps asg ib) (fun id => wExit id) (fun _ _ => wNo) (fun _ => wNo) (fun _ => wNo) wRet (fun _ => wNo) c
noncomputable def AWP (E : Env) (n0 : Nat) (J : List Nat) (c : Code) (K : Exit → ASt → Prop) (s : ASt) : Prop := AWPr E J c true n0 K s

theorem wpIn_loop_ghost {G : Fence} {n : Nat} {P : Program} {Q : Exit → Act → World → Prop} {a : Act} {w : World} {c : Code} (I : Nat → Act → World → Prop) (n₀ : Nat) (h₀ : I n₀ a w)
    (round : ∀ k a w, I k a w → c.wpIn G n P (Exit.then (fun a' w' => ∃ k', k' < k ∧ I k' a' w') Q) a w) : (Code.loop c).wpIn G n P Q a w := by
  refine wpIn_loop (fun a w => ∃ k, I k a w) (fun a w => leastOf (fun k => I k a w)) ⟨n₀, h₀⟩ ?_
  intro a w hI
  refine wpIn_mono (round _ a w (leastOf_spec hI).1) ?_
  intro e a' w' hq
  cases e with
  | normal =>
    obtain ⟨k', hlt, hI'⟩ := hq
    exact show (∃ k, I k a' w') ∧ leastOf (fun k => I k a' w') < leastOf (fun k => I k a w) from ⟨⟨k', hI'⟩, Nat.lt_of_le_of_lt ((leastOf_spec ⟨k', hI'⟩).2 k' hI') hlt⟩
  | _ => exact hq

theorem asgOf_spec {c : Code} {q d : Tmp} (h : asgOf c = some (q, d)) : ∃ id o, c = .region id #[o] false ∧ o.dst = some d ∧ o.op = .assign (.tmp q) ∧ o.guard = none := by
  unfold asgOf at h
  split at h
  case h_2 => cases h
  rename_i id ops
  split at h
  case h_2 => cases h
  rename_i o ho
  split at h
  case h_2 => cases h
  rename_i d' q' h1 h2 h3
  cases h
  have : ops = #[o] := by rw [← Array.toList_inj]; simpa using ho
  exact ⟨id, o, by rw [this], h1, h2, h3⟩

theorem awpr_sound {P : Program} {E : Env} (hE : EnvOK P E) {J : List Nat} :
    ∀ (c : Code) (top : Bool) (n0 : Nat) (Ok F0 : Nat → Prop) (β0 : Pl) (w0 : World) (hβ0 : ∀ id, n0 ≤ id → β0 id = none) (G : Fence) (hW : Wide G) (hG : top = true → G.round = none) (n : Nat) (K : Exit → ASt → Prop) (s : ASt) (β : Pl) (F : Nat → Prop) (a : Act) (w : World), AWPr E J c top n0 K s → Sim s β F a w → Ctx Ok F0 β0 w0 s β F w → c.wpIn G n P (Post Ok F0 β0 w0 K) a w := by
  intro c
  induction c with
  | skip => intro top n0 Ok F0 β0 w0 hβ0 G hW hG n K s β F a w h hs hc; exact wpIn_skip ⟨s, β, F, h, hs, hc⟩
  | region id ops draw =>
    intro top n0 Ok F0 β0 w0 hβ0 G hW hG n K s β F a w h hs hc
    cases draw with
    | true =>
      cases ha : E.ask with
      | false => exact regionK_sound hW hE.T hE.C hE.mix (regionS_draw ha h) hs hc
      | true =>
        have h : regionS E ops true s (K .normal) := h
        unfold regionS at h
        simp only [ha] at h
        exact drawn_sound hW hE.T hE.C hE.mix h.1 h.2 (fun es s' q => ⟨indOr_spec q.1, q.2⟩) hs hc
    | false =>
      refine wpIn_region ?_
      have := runS_sound (n := n) hW (K := K) (Ok := Ok) (F0 := F0) (β0 := β0) (w0 := w0) hE.T hE.C hE.D ops.toList 0 s β F a w (by simp) h hs hc
      rw [List.range_eq_range']
      simpa using this
  | seq x y ihx ihy =>
    intro top n0 Ok F0 β0 w0 hβ0 G hW hG n K s β F a w h hs hc
    have h : wSeq J y (AWPr E J x) (AWPr E J y) top n0 K s := h
    unfold wSeq at h
    refine wpIn_seq ?_
    split at h
    · refine wpIn_mono (ihx top n0 Ok F0 β0 w0 hβ0 G hW hG n _ s β F a w h hs hc) ?_
      rintro e a' w' ⟨s', β', F', h1, h2, h3⟩
      cases e with
      | normal => exact ihy top n0 Ok F0 β0 w0 hβ0 G hW hG n K s' β' F' a' w' h1 h2 h3
      | _ => exact ⟨s', β', F', h1, h2, h3⟩
    · obtain ⟨X, I, sk, h1, h2⟩ := h
      refine wpIn_mono (ihx top n0 Ok F0 β0 w0 hβ0 G hW hG n _ s β F a w h1 hs hc) ?_
      rintro e a' w' ⟨s', β', F', h3, h4, h5⟩
      cases e with
      | normal =>
        obtain ⟨g, x, h6⟩ := h3
        obtain ⟨βg, Fg, h4, h5⟩ := ghost_sim g h4 h5
        obtain ⟨h7, β2, h8, h9⟩ := leK_spec h6 hβ0 h4 h5
        exact ihy top n0 Ok F0 β0 w0 hβ0 G hW hG n K _ β2 Fg a' w' (h2 x h7) h8 h9
      | _ => exact ⟨s', β', F', h3, h4, h5⟩
  | cond c x y ihx ihy =>
    intro top n0 Ok F0 β0 w0 hβ0 G hW hG n K s β F a w h hs hc
    have h : wCond c (AWPr E J x) (AWPr E J y) top n0 K s := h
    unfold wCond at h
    split at h
    case h_2 => exact h.elim
    rename_i t ht
    have hr := hs.eval c
    rw [ht] at hr
    have hb := repBool hr
    cases t with
    | true => exact wpIn_cond_true hb (ihx top n0 Ok F0 β0 w0 hβ0 G hW hG n K s β F a w h hs hc)
    | false => exact wpIn_cond_false hb (ihy top n0 Ok F0 β0 w0 hβ0 G hW hG n K s β F a w h hs hc)
  | block id c ih =>
    intro top n0 Ok F0 β0 w0 hβ0 G hW hG n K s β F a w h hs hc
    have h : wBlock id (AWPr E J c) top n0 K s := h
    unfold wBlock at h
    refine wpIn_block (wpIn_mono (ih top n0 Ok F0 β0 w0 hβ0 G hW hG n _ s β F a w h hs hc) ?_)
    rintro e a' w' ⟨s', β', F', h1, h2, h3⟩
    cases e with
    | exit id' =>
      simp only [Exit.inBlock]
      simp only at h1
      split at h1
      · rename_i hb
        rw [if_pos (Nat.eq_of_beq_eq_true hb)]
        exact ⟨s', β', F', h1, h2, h3⟩
      · rename_i hb
        rw [if_neg (Nat.ne_of_beq_eq_false hb)]
        exact ⟨s', β', F', h1, h2, h3⟩
    | _ => exact ⟨s', β', F', h1, h2, h3⟩
  | loop c ih =>
    intro top n0 Ok F0 β0 w0 hβ0 G hW hG n K s β F a w h hs hc
    have h : wLoop (AWPr E J c) top n0 K s := h
    unfold wLoop at h
    obtain ⟨X, I, μ, sk, g, x0, h1, h2⟩ := h
    obtain ⟨βg, Fg, hs, hc⟩ := ghost_sim g hs hc
    refine wpIn_loop_ghost (fun n a w => ∃ x β F, μ x = n ∧ I x ∧ Sim (sk x) β F a w ∧ Ctx Ok F0 β0 w0 (sk x) β F w) (μ x0) ?_ ?_
    · obtain ⟨h3, β', h4, h5⟩ := leK_spec h1 hβ0 hs hc
      exact ⟨x0, β', Fg, rfl, h3, h4, h5⟩
    · rintro k a' w' ⟨x, β', F', rfl, h3, h4, h5⟩
      refine wpIn_mono (ih top n0 Ok F0 β0 w0 hβ0 G hW hG n _ (sk x) β' F' a' w' (h2 x h3) h4 h5) ?_
      rintro e a2 w2 ⟨s2, β2, F2, h6, h7, h8⟩
      cases e with
      | normal =>
        obtain ⟨x', h9⟩ := h6
        obtain ⟨⟨g1, g2⟩, β3, g3, g4⟩ := leK_spec h9 hβ0 h7 h8
        exact ⟨μ x', g2, x', β3, F2, rfl, g1, g3, g4⟩
      | _ => exact ⟨s2, β2, F2, h6, h7, h8⟩
  | rangeFunc g ps asg body _ ihb =>
    intro top n0 Ok F0 β0 w0 hβ0 G hW hG n K s β F a w h hs hc
    replace h : wRange E g ps asg (AWPr E J body) top n0 K s := h
    generalize hib : AWPr E J body = ib at h
    unfold wRange at h
    split at h
    case h_1 => exact h.elim
    split at h
    case h_2 => exact h.elim
    rename_i f caps hg
    split at h
    case h_2 => exact h.elim
    rename_i vals hcap
    split at h
    case h_2 => exact h.elim
    rename_i p hps
    split at h
    case h_2 => exact h.elim
    rename_i q d hasg
    split at h
    case h_2 => exact h.elim
    rename_i hpq
    have hpq := Nat.eq_of_beq_eq_true hpq
    subst hpq
    obtain ⟨id, o, rfl, ho1, ho2, ho3⟩ := asgOf_spec hasg
    have hps : ps = #[p] := by rw [← Array.toList_inj]; simpa using hps
    subst hps
    obtain ⟨L, hI, hp, X, I, M, x0, h1, h2, h3⟩ := h
    exact range_sound hW (hG rfl) ho1 ho2 ho3 hg hcap (hE.I _ _ _ hI) hp h1
      (fun l pre v x q1 q2 Ok F0 β0 w0 β F a w q3 q4 q5 => ihb false s.m.length Ok F0 β0 w0 q3 (G.inRound l) (hW.inRound l) (fun z => by cases z) 0 _ _ β F a w (hib ▸ h2 pre v x q1 q2) q4 q5) h3 hs hc
  | exit id => intro top n0 Ok F0 β0 w0 hβ0 G hW hG n K s β F a w h hs hc; exact wpIn_exit ⟨s, β, F, h, hs, hc⟩
  | ret => intro top n0 Ok F0 β0 w0 hβ0 G hW hG n K s β F a w h hs hc; exact wpIn_ret ⟨s, β, F, h, hs, hc⟩
  | _ => intro top n0 Ok F0 β0 w0 hβ0 G hW hG n K s β F a w h; exact False.elim h

theorem awp_sound {P : Program} {E : Env} (hE : EnvOK P E) {n0 : Nat} {J : List Nat} {Ok F0 : Nat → Prop} {β0 : Pl} {w0 : World} (hβ0 : ∀ id, n0 ≤ id → β0 id = none)
    (c : Code) (K : Exit → ASt → Prop) (s : ASt) (β : Pl) (F : Nat → Prop) (a : Act) (w : World) (h : AWP E n0 J c K s) (hs : Sim s β F a w) (hc : Ctx Ok F0 β0 w0 s β F w) : c.wpIn Fence.wide 0 P (Post Ok F0 β0 w0 K) a w :=
  awpr_sound hE c true n0 Ok F0 β0 w0 hβ0 Fence.wide wide_wide (fun _ => rfl) 0 K s β F a w h hs hc
end
end Go.Am

set_option linter.unusedVariables false
namespace Go.Am
noncomputable section
open Go

/-! ### Results of a function -/
def newIds : List (Option Nat) → List Nat
  | [] => []
  | some id :: r => id :: newIds r
  | none :: r => newIds r
def disj (a b : List Nat) : Bool := match a with
  | [] => true
  | x :: r => match contains b x with
    | true => false
    | false => disj r b
def nodup : List Nat → Bool
  | [] => true
  | x :: r => match contains r x with
    | true => false
    | false => nodup r
def outK (mm : Mem) : List AV → List RV → (List Nat → List (Option Nat) → Prop) → Prop
  | [], [], k => k [] []
  | x :: xs, .p y :: rs, k => match AV.pv mm x with
    | some (y', i) => PEq y' y ∧ outK mm xs rs fun ids ns => k (i ++ ids) ns
    | none => False
  | .own id sz n :: xs, .new sz' els :: rs, k => match mm id, Nat.beq sz sz' with
    | some (.row _ els' true), true => els' = els ∧ outK mm xs rs fun ids ns => k ids (some id :: ns)
    | _, _ => False
  | .p (.val (.slice none 0 0)) :: xs, .new sz els :: rs, k => els = [] ∧ outK mm xs rs fun ids ns => k ids (none :: ns)
  | _, _, _ => False
def valOf (s : ASt) (T : Tab) : ResultVar → Option AV
  | .tmp t => some (s.eval (.tmp t))
  | .cell a t => match T t, s.eval (.tmp a) with
    | some ti, .ptr id 0 j => match memOf s.m id with
      | some (.box cs) => match Nat.ble (j + ti.size) cs.length with
        | true => mkA ti.k.agg ((cs.drop j).take ti.size)
        | false => none
      | _ => none
    | _, _ => none
def valsOf (s : ASt) (T : Tab) : List ResultVar → Option (List AV)
  | [] => some []
  | r :: rest => match valOf s T r with
    | some v => match valsOf s T rest with
      | some vs => some (v :: vs)
      | none => none
    | none => none
def resK (T : Tab) (rvs : List ResultVar) (rs : List RV) (s : ASt) : Prop :=
  match valsOf s T rvs with
  | some xs => outK (memOf s.m) xs rs fun ids ns => match disj (newIds ns) ids, nodup (newIds ns) with
    | true, true => True
    | _, _ => False
  | none => False
def retK (T : Tab) (rvs : List ResultVar) (rs : List RV) : Exit → ASt → Prop
  | .ret, s => resK T rvs rs s
  | .normal, s => resK T rvs rs s
  | _, _ => False

inductive ResRel (mm : Mem) (ids : List Nat) : List AV → List RV → List (Option Nat) → Prop
  | nil : ResRel mm ids [] [] []
  | p (x : AV) (y' y : PV) (i : List Nat) (hx : AV.pv mm x = some (y', i)) (hy : PVle y' y) (hi : ∀ a ∈ i, a ∈ ids) {xs : List AV} {rs : List RV} {ns : List (Option Nat)} (r : ResRel mm ids xs rs ns) : ResRel mm ids (x :: xs) (.p y :: rs) ns
  | new (id sz n sz' : Nat) (els : List (List PV)) (hm : mm id = some (.row sz' els true)) {xs : List AV} {rs : List RV} {ns : List (Option Nat)} (r : ResRel mm ids xs rs ns) : ResRel mm ids (.own id sz n :: xs) (.new sz els :: rs) (some id :: ns)
  | nl (sz : Nat) {xs : List AV} {rs : List RV} {ns : List (Option Nat)} (r : ResRel mm ids xs rs ns) : ResRel mm ids (.p (.val (.slice none 0 0)) :: xs) (.new sz [] :: rs) (none :: ns)
theorem ResRel.mono {mm : Mem} {ids ids' : List Nat} (h : ∀ a ∈ ids, a ∈ ids') {xs : List AV} {rs : List RV} {ns : List (Option Nat)} (r : ResRel mm ids xs rs ns) : ResRel mm ids' xs rs ns := by
  induction r with
  | nil => exact .nil
  | p x y' y i hx hy hi r ih => exact .p x y' y i hx hy (fun a q => h a (hi a q)) ih
  | new id sz n sz' els hm r ih => exact .new id sz n sz' els hm ih
  | nl sz r ih => exact .nl sz ih
theorem outK_new {mm : Mem} {x : AV} {xs : List AV} {sz : Nat} {els : List (List PV)} {rs : List RV} {k : List Nat → List (Option Nat) → Prop} (h : outK mm (x :: xs) (.new sz els :: rs) k) :
    (∃ id n sz' els', x = .own id sz n ∧ mm id = some (.row sz' els' true) ∧ els' = els ∧ outK mm xs rs fun ids ns => k ids (some id :: ns)) ∨ (x = .p (.val (.slice none 0 0)) ∧ els = [] ∧ outK mm xs rs fun ids ns => k ids (none :: ns)) := by
  cases x with
  | own id sz1 n =>
    simp only [outK] at h
    split at h
    · rename_i sz' els' hm hb
      have := Nat.eq_of_beq_eq_true hb; subst this
      exact .inl ⟨id, n, sz', els', rfl, hm, h⟩
    · exact h.elim
  | p y =>
    cases y with
    | val v =>
      cases v with
      | slice a l c =>
        cases a with
        | some => exact h.elim
        | none =>
          cases l with
          | succ => exact h.elim
          | zero =>
            cases c with
            | succ => exact h.elim
            | zero => exact .inr ⟨rfl, h⟩
      | _ => exact h.elim
    | _ => exact h.elim
  | _ => exact h.elim
theorem outK_spec (mm : Mem) : ∀ (xs : List AV) (rs : List RV) (k : List Nat → List (Option Nat) → Prop), outK mm xs rs k → ∃ ids ns, ResRel mm ids xs rs ns ∧ (∀ a ∈ ids, ∃ sz els o, mm a = some (.row sz els o)) ∧ k ids ns := by
  intro xs
  induction xs with
  | nil =>
    intro rs k h
    cases rs with
    | nil => exact ⟨[], [], .nil, (fun a q => by cases q), h⟩
    | cons => exact h.elim
  | cons x xs ih =>
    intro rs k h
    cases rs with
    | nil => cases x <;> exact h.elim
    | cons r rs =>
      cases r with
      | p y =>
        have hh : (match AV.pv mm x with
          | some (y', i) => PEq y' y ∧ outK mm xs rs fun ids ns => k (i ++ ids) ns
          | none => False) := by cases x <;> exact h
        clear h
        split at hh
        · rename_i y' i hx
          obtain ⟨he, h⟩ := hh
          obtain ⟨ids, ns, h1, h3, h2⟩ := ih _ _ h
          exact ⟨i ++ ids, ns, .p x _ _ i hx he.le (fun a q => List.mem_append_left _ q) (h1.mono fun a q => List.mem_append_right _ q), fun a q => (List.mem_append.1 q).elim (fun q => pvL_rows [x] [y'] i (by simp [AV.pv.pvL, hx]) a q) (h3 a), h2⟩
        · exact hh.elim
      | new sz els =>
        rcases outK_new h with ⟨id, n, sz', els', rfl, hm, rfl, hh⟩ | ⟨rfl, rfl, hh⟩
        · obtain ⟨ids, ns, h1, h3, h2⟩ := ih _ _ hh
          exact ⟨ids, some id :: ns, .new id _ n _ _ hm h1, h3, h2⟩
        · obtain ⟨ids, ns, h1, h3, h2⟩ := ih _ _ hh
          exact ⟨ids, none :: ns, .nl _ h1, h3, h2⟩

def nilBI : BI := ⟨0, 0, 0, 0, 0, true⟩
/-- The names as the caller will have them. -/
def outPl (β : Pl) (ns : List (Option Nat)) (n : Nat) : Pl := fun id => match Nat.ble n id with
  | true => match ns[id - n]? with
    | some (some i) => β i
    | some none => some nilBI
    | none => none
  | false => none
theorem outPl_cons (β : Pl) (a : Option Nat) (ns : List (Option Nat)) (n id : Nat) (bi : BI) (h : outPl β ns (n + 1) id = some bi) : outPl β (a :: ns) n id = some bi := by
  unfold outPl at h ⊢
  split at h
  · rename_i hb
    have hle := Nat.le_of_ble_eq_true hb
    rw [show Nat.ble n id = true from Nat.ble_eq_true_of_le (by omega)]
    simp only
    rw [show id - n = (id - (n + 1)) + 1 by omega]
    simpa using h
  · cases h
theorem impV_len : ∀ (rs : List RV) (n : Nat), (impV rs n).1.length = rs.length := by
  intro rs
  induction rs with
  | nil => intro n; rfl
  | cons r rs ih => intro n; cases r <;> simp [impV, ih]

theorem resRel_spec {mm : Mem} {β : Pl} {F : Nat → Prop} {w : World} {ids : List Nat} (hok : ∀ id B, mm id = some B → ∃ bi, β id = some bi ∧ BlkOK β F w bi B) :
    ∀ {xs : List AV} {rs : List RV} {ns : List (Option Nat)} (r : ResRel mm ids xs rs ns) (n : Nat) (vs : List Value), xs.length = vs.length → (∀ (k : Nat) (x : AV) (y : Value), xs[k]? = some x → vs[k]? = some y → RepA β F w x y) →
      (∀ (k : Nat) (x : AV) (y : Value), (impV rs n).1[k]? = some x → vs[k]? = some y → RepA (outPl β ns n) (frzF β F ids) w x y) ∧ rs.length = xs.length ∧ (impV rs n).2.length = ns.length ∧
      (∀ (k : Nat) (B : Blk), (impV rs n).2[k]? = some B → (∃ i sz els, ns[k]? = some (some i) ∧ B = Blk.row sz els true ∧ ∃ sz', mm i = some (Blk.row sz' els true) ∧ ∀ bi, β i = some bi → bi.nil = false → bi.sz = sz) ∨ (ns[k]? = some none ∧ ∃ sz, B = Blk.row sz [] true)) := by
  intro xs rs ns r
  induction r with
  | nil => intro n vs hl hx; exact ⟨fun k x y h => by simp [impV] at h, rfl, rfl, fun k B h => by simp [impV] at h⟩
  | p x y' y i hx hy hi r ih =>
    intro n vs hl hxs
    cases vs with
    | nil => simp at hl
    | cons v vs =>
      obtain ⟨h1, h2, h3, h4⟩ := ih n vs (by simpa using hl) (fun k a b p q => hxs (k + 1) a b (by simpa using p) (by simpa using q))
      refine ⟨fun k a b p q => ?_, by simp [h2], by simpa [impV] using h3, by simpa [impV] using h4⟩
      cases k with
      | zero =>
        simp [impV] at p q; subst p; subst q
        have := (pv_spec (F' := frzF β F ids) (fun _ h => .inl h) (hxs 0 x v rfl rfl) y' i hx (fun a ha => pre_frz (mm := mm) (ids := ids) (fun id _ B hB => hok id B hB) a (hi a ha))).1
        exact .p _ _ (hy _ _ _ this)
      | succ k => exact h1 k a b (by simpa [impV] using p) (by simpa using q)
  | new id sz m sz' els hm r ih =>
    intro n vs hl hxs
    cases vs with
    | nil => simp at hl
    | cons v vs =>
      obtain ⟨h1, h2, h3, h4⟩ := ih (n + 1) vs (by simpa using hl) (fun k a b p q => hxs (k + 1) a b (by simpa using p) (by simpa using q))
      have hv := hxs 0 _ v rfl rfl
      obtain ⟨bi, hbi, hblk⟩ := hok id _ hm
      have self : ∀ r, outPl β (some id :: r) n n = some bi := fun r => by
        simp only [outPl, show Nat.ble n n = true from Nat.ble_eq_true_of_le (Nat.le_refl _), Nat.sub_self, List.getElem?_cons_zero]; exact hbi
      refine ⟨fun k a b p q => ?_, by simp [h2], by simp [impV, h3], fun k B hB => ?_⟩
      · cases k with
        | zero =>
          simp [impV] at p q; subst p; subst q
          cases hv with
          | ownNil _ _ _ b0 hb h hn =>
            rw [hbi] at hb; cases hb
            cases hblk with
            | nil _ h' hn' _ => exact .ownNil _ _ _ bi (self _) h (by simp)
            | row _ _ _ h' => rw [h] at h'; cases h'
          | own _ _ _ b0 hb h hz hn hc =>
            rw [hbi] at hb; cases hb
            cases hblk with
            | nil _ h' hn' _ => rw [h] at h'; cases h'
            | row _ _ _ h' hzz hn' hc' => 
              have e : m = els.length := by rw [hn, hn']
              subst e
              exact .own _ _ _ bi (self _) h hz hn'.symm (by omega)
        | succ k => exact (h1 k a b (by simpa [impV] using p) (by simpa using q)).mono (fun id bi h => outPl_cons _ _ _ _ _ _ h) (fun _ h => h) (fun _ _ => rfl)
      · cases k with
        | zero =>
          simp [impV] at hB; subst hB
          refine .inl ⟨id, sz, els, rfl, rfl, sz', hm, fun b0 hb hn => ?_⟩
          rw [hbi] at hb; cases hb
          cases hv with
          | ownNil _ _ _ b0 hb h hn' => rw [hbi] at hb; cases hb; rw [hn] at h; cases h
          | own _ _ _ b0 hb h hz => rw [hbi] at hb; cases hb; exact hz.symm
        | succ k =>
          rcases h4 k B (by simpa [impV] using hB) with ⟨i, q⟩ | q
          · exact .inl ⟨i, by simpa using q⟩
          · exact .inr (by simpa using q)
  | nl sz r ih =>
    intro n vs hl hxs
    cases vs with
    | nil => simp at hl
    | cons v vs =>
      obtain ⟨h1, h2, h3, h4⟩ := ih (n + 1) vs (by simpa using hl) (fun k a b p q => hxs (k + 1) a b (by simpa using p) (by simpa using q))
      have hv := repVal (hxs 0 _ v rfl rfl)
      have self : ∀ r, outPl β (none :: r) n n = some nilBI := fun r => by
        simp only [outPl, show Nat.ble n n = true from Nat.ble_eq_true_of_le (Nat.le_refl _), Nat.sub_self, List.getElem?_cons_zero]
      refine ⟨fun k a b p q => ?_, by simp [h2], by simp [impV, h3], fun k B hB => ?_⟩
      · cases k with
        | zero =>
          simp [impV] at p q; subst p; subst q
          rw [hv]
          exact .ownNil _ _ _ nilBI (self _) rfl rfl
        | succ k => exact (h1 k a b (by simpa [impV] using p) (by simpa using q)).mono (fun id bi h => outPl_cons _ _ _ _ _ _ h) (fun _ h => h) (fun _ _ => rfl)
      · cases k with
        | zero => simp [impV] at hB; subst hB; exact .inr ⟨rfl, sz, rfl⟩
        | succ k =>
          rcases h4 k B (by simpa [impV] using hB) with ⟨i, q⟩ | q
          · exact .inl ⟨i, by simpa using q⟩
          · exact .inr (by simpa using q)

theorem disj_spec : ∀ (a b : List Nat), disj a b = true → ∀ x ∈ a, x ∉ b := by
  intro a
  induction a with
  | nil => intro b _ x h; cases h
  | cons y r ih =>
    intro b h x hx
    simp only [disj] at h
    split at h
    · cases h
    · rename_i hc
      rcases List.mem_cons.1 hx with rfl | hx
      · rw [contains_spec] at hc; simpa using hc
      · exact ih b h x hx
theorem mem_newIds : ∀ (ns : List (Option Nat)) (k i : Nat), ns[k]? = some (some i) → i ∈ newIds ns := by
  intro ns
  induction ns with
  | nil => intro k i h; simp at h
  | cons a r ih =>
    intro k i h
    cases k with
    | zero => simp at h; subst h; simp [newIds]
    | succ k =>
      have := ih k i (by simpa using h)
      cases a <;> simp [newIds, this]
theorem newIds_inj : ∀ (ns : List (Option Nat)), nodup (newIds ns) = true → ∀ (k l i : Nat), ns[k]? = some (some i) → ns[l]? = some (some i) → k = l := by
  intro ns
  induction ns with
  | nil => intro _ k l i h; simp at h
  | cons a r ih =>
    intro h k l i hk hl
    have hr : nodup (newIds r) = true ∧ ∀ i, a = some i → i ∉ newIds r := by
      cases a with
      | none => exact ⟨h, fun i q => by cases q⟩
      | some x =>
        simp only [newIds, nodup] at h
        split at h
        · cases h
        · rename_i hc
          exact ⟨h, fun i q => by cases q; rw [contains_spec] at hc; simpa using hc⟩
    cases k with
    | zero =>
      cases l with
      | zero => rfl
      | succ l => simp at hk hl; exact absurd (mem_newIds r l i hl) (hr.2 i hk)
    | succ k =>
      cases l with
      | zero => simp at hk hl; exact absurd (mem_newIds r k i hk) (hr.2 i hl)
      | succ l => rw [ih hr.1 k l i (by simpa using hk) (by simpa using hl)]

theorem valOf_spec {P : Program} {T : Tab} (hT : TabOK P T) {s : ASt} {β : Pl} {F : Nat → Prop} {a : Act} {w : World} (hs : Sim s β F a w) (r : ResultVar) (v : AV) (h : valOf s T r = some v) :
    ∃ u, ((match r with | .tmp t => pure (a.tmps.getD t undef) | .cell ad t => do loadVar t (← asAddr (a.tmps.getD ad undef)) : Sem Value)).run P w = .ok u w ∧ RepA β F w v u := by
  cases r with
  | tmp t =>
    simp only [valOf, Option.some.injEq] at h
    subst h
    exact ⟨_, rfl, hs.eval (.tmp t)⟩
  | cell ad t =>
    simp only [valOf] at h
    split at h
    case h_2 => cases h
    rename_i ti id j hti hp
    split at h
    case h_2 => cases h
    rename_i cs hm
    split at h
    case h_2 => cases h
    rename_i hble
    have hle := Nat.le_of_ble_eq_true hble
    have hr := hs.eval (.tmp ad)
    rw [hp] at hr
    obtain ⟨bi, hbi, hblk⟩ := hs.mem.ok id _ hm
    have hq : a.tmps.getD ad undef = a.eval (.tmp ad) := rfl
    show ∃ u, ((do loadVar t (← asAddr (a.eval (.tmp ad))) : Sem Value)).run P w = .ok u w ∧ RepA β F w v u
    generalize a.eval (.tmp ad) = q at hr
    cases hr with
    | ptr _ _ _ b0 hb hn =>
      rw [hbi] at hb; cases hb
      cases hblk with
      | box cs vs h' hnn hc hn1 hrm hl hv h1 hx hF =>
        have hr' := rangeAt_part hv j ti.size
        obtain ⟨r1, r2⟩ := run_load hT hti w bi.b (bi.o + j) _ hr' (by simp; omega)
        have hx' : ∀ (k : Nat) (x : AV) (y : Value), ((cs.drop j).take ti.size)[k]? = some x → ((vs.drop j).take ti.size)[k]? = some y → RepA β F w x y := by
          intro k x y h2 h3
          by_cases hk' : k < ti.size
          · rw [List.getElem?_take_of_lt hk', List.getElem?_drop] at h2 h3; exact hx _ _ _ h2 h3
          · rw [List.getElem?_eq_none (by simp; omega)] at h2; cases h2
        have conv : ∀ u, (Instr.loadAt t (.pointer (some ⟨bi.b, bi.o + j, none⟩))).run P w = .ok u w → ((do loadVar t (← asAddr (.pointer (some ⟨bi.b, bi.o + 0 * bi.sz + j, none⟩))) : Sem Value)).run P w = .ok u w := fun u hu => by
          rw [Nat.zero_mul, Nat.add_zero]
          simpa [Instr.loadAt, Instr.sureAddr, asAddr, Sem.run_bind] using hu
        rcases mkA_rep (by simp [hl]) hx' h with ⟨ha, hr⟩ | ⟨ha, y, hy, hr⟩
        · exact ⟨_, conv _ (r1 ha), hr⟩
        · exact ⟨y, conv _ (r2 ha y hy), hr⟩

def tupV : List Value → Value
  | [v] => v
  | vs => .tuple vs.toArray

theorem results_run {P : Program} {T : Tab} (hT : TabOK P T) {s : ASt} {β : Pl} {F : Nat → Prop} {a : Act} {w : World} (hs : Sim s β F a w) (fn : Func) (xs : List AV) (h : valsOf s T fn.results.toList = some xs) :
    ∃ vs : List Value, xs.length = vs.length ∧ (∀ (k : Nat) (x : AV) (y : Value), xs[k]? = some x → vs[k]? = some y → RepA β F w x y) ∧ (results fn a.tmps).run P w = .ok (tupV vs) w := by
  have gen : ∀ (l : List ResultVar) (xs : List AV), valsOf s T l = some xs → ∃ vs : List Value, xs.length = vs.length ∧ (∀ (k : Nat) (x : AV) (y : Value), xs[k]? = some x → vs[k]? = some y → RepA β F w x y) ∧
      ((l.mapM fun | .tmp t => pure (a.tmps.getD t undef) | .cell ad t => do loadVar t (← asAddr (a.tmps.getD ad undef)) : Sem (List Value))).run P w = .ok vs w := by
    intro l
    induction l with
    | nil => intro xs h; simp [valsOf] at h; subst h; exact ⟨[], rfl, fun k x y h => by simp at h, by simp [Sem.run_pure]⟩
    | cons r l ih =>
      intro xs h
      simp only [valsOf] at h
      split at h
      case h_2 => cases h
      rename_i v hv
      split at h
      case h_2 => cases h
      rename_i ys hys
      cases h
      obtain ⟨vs, h1, h2, h3⟩ := ih ys hys
      obtain ⟨u, h4, h5⟩ := valOf_spec hT hs r v hv
      refine ⟨u :: vs, by simp [h1], fun k x y p q => ?_, ?_⟩
      · cases k with
        | zero => simp at p q; subst p; subst q; exact h5
        | succ k => exact h2 k x y (by simpa using p) (by simpa using q)
      · simp only [List.mapM_cons, Sem.run_bind]
        rw [h4]
        simp only [Result.andThen_ok]
        rw [h3]
        rfl
  obtain ⟨vs, h1, h2, h3⟩ := gen _ xs h
  refine ⟨vs, h1, h2, ?_⟩
  unfold results
  simp only [Sem.run_bind, Array.mapM_eq_mapM_toList, Sem.run_map]
  refine (congrArg (fun z : Result (List Value) => (z.andThen fun a w' => Result.ok a.toArray w').andThen fun a w' => Sem.run P (pure (if h : a.size = 1 then a[0] else Value.tuple a)) w') h3).trans ?_
  simp only [Result.andThen_ok, Sem.run_pure]
  match vs with
  | [] => rfl
  | [v] => rfl
  | v :: u :: r => simp [tupV]

theorem rep_one {β : Pl} {F : Nat → Prop} {w : World} {xs : List AV} {vs : List Value} (hl : xs.length = vs.length) (hx : ∀ (k : Nat) (x : AV) (y : Value), xs[k]? = some x → vs[k]? = some y → RepA β F w x y) :
    RepA β F w (oneOr xs) (tupV vs) := by
  match xs, vs, hl with
  | [], [], _ => exact .tup [] [] rfl hx
  | [x], [v], _ => exact hx 0 x v rfl rfl
  | x :: y :: r, u :: v :: q, hl => exact .tup _ _ hl hx

/-- The state at a function's start. -/
def startK (args : List PV) (n : Nat) (k : ASt → Prop) : Prop := copyK (args.map AV.p ++ List.replicate (n - args.length) .top) fun t => k ⟨t, []⟩

/-- A function on its way out shuts the blocks that its marks name. -/
theorem marks_out {G : Fence} {n : Nat} {P : Program} {fn : Func} {R : Ending → World → Prop} {t : Array Value} {s : ASt} {β : Pl} {F : Nat → Prop} {Ok F0 : Nat → Prop} {β0 : Pl} {w0 : World} (hF0 : ∀ b, F0 b → CellAt w0 b)
    (fin : ∀ w, Sim s β F { tmps := t, defers := [] } w → Ctx Ok F0 β0 w0 s β F w → ∃ v, (results fn t).run P w = .ok v w ∧ R (.returned v) w) :
    ∀ (ds : List Deferred) (w : World), Sim s β F { tmps := t, defers := ds } w → Ctx Ok F0 β0 w0 s β F w → LeavesInM G n P fn t R ds .returning w := by
  intro ds
  induction ds with
  | nil => exact fun w hs hc => fin w hs hc
  | cons d ds ih =>
    intro w hs hc
    obtain ⟨D, rfl, h2, h3⟩ := hs.defers.2 d List.mem_cons_self
    have hlt := hs.mem.lt D h2
    have hne : ∀ b, CellAt w b → b ≠ D := fun b hb e => notCell h3 (e ▸ hb)
    refine ⟨by simp, .inl ⟨D, _, rfl, run_takeDeferred h3, ih _ ?_ ?_⟩⟩
    · refine hs.other rfl (fun b _ hb => World.putObj_heap_other (hne b hb)) (by simp) (fun _ h _ => h) (fun _ h => .inl h) ⟨(List.pairwise_cons.1 hs.defers.1).2, fun d' hd' => ?_⟩
      obtain ⟨D', q1, q2, q3⟩ := hs.defers.2 d' (List.mem_cons_of_mem _ hd')
      refine ⟨D', q1, q2, ?_⟩
      have : D' ≠ D := fun e => (List.pairwise_cons.1 hs.defers.1).1 d' hd' (by rw [q1, e])
      exact (World.putObj_heap_other this).trans q3
    · refine ⟨hc.os, hc.tape, hc.output, by simpa using hc.size, fun k hk hok => ?_, hc.row, hc.ext, hc.Fm, hc.Fn⟩
      have : k ≠ D := by
        rintro rfl
        rcases hc.Fn k h2 with q | q | q
        · obtain ⟨c, e, r, z⟩ := hF0 k q
          rw [← hc.keep k hk hok, h3] at z; cases z
        · exact hok q
        · omega
      exact (World.putObj_heap_other this).trans (hc.keep k hk hok)

theorem acall_of_wp {P : Program} {T : Tab} (hT : TabOK P T) {f : FuncId} {fn : Func} {c : Code} (hf : P.funcs[f]? = some fn) (hb : fn.body = some c) (hname : (fn.name == "runtime.NumGoroutine") = false)
    {args : List PV} {rs : List RV} (h : startK args fn.ntmps fun s => ∀ (F : Nat → Prop) (w0 : World) (a : Act) (w : World), Sim s (fun _ => none) F a w → Ctx (fun _ => False) F (fun _ => none) w0 s (fun _ => none) F w →
      c.wpIn Fence.wide 0 P (Post (fun _ => False) F (fun _ => none) w0 (retK T fn.results.toList rs)) a w) : ACall P f args rs := by
  refine ⟨⟨fn, c, hf, hb, hname⟩, fun F w vs n hF hl hx => ?_⟩
  unfold startK at h
  rw [copyK_eq] at h
  have wlog : ∀ (F : Nat → Prop), (∀ b, F b → CellAt w b) → (∀ b, F b → b < w.heap.size) → (∀ (k : Nat) (x : PV) (y : Value), args[k]? = some x → vs[k]? = some y → RepP F w x y) →
      Calls P f vs.toArray w fun e w' => ∃ v β' F', e = .returned v ∧ RowKit.Below w.heap.size w w' ∧ (∀ b, F b → F' b) ∧ (∀ b, F' b → F b ∨ (w.heap.size ≤ b ∧ b < w'.heap.size)) ∧ RepA β' F' w' (oneOr (impV rs n).1) v ∧ NewOK (impV rs n).2 n β' F' w w' := ?_
  · refine (wlog (fun b => F b ∧ CellAt w b) (fun _ h => h.2) (fun b h => hF b h.1) (fun k x y h1 h2 => (hx k x y h1 h2).shrink (fun b h1 h2 => ⟨h1, h2⟩) (fun _ _ _ => rfl))).mono ?_
    rintro e w' ⟨v, β', F', rfl, h1, h2, h3, h4, h5⟩
    refine ⟨v, β', fun b => F' b ∨ F b, rfl, h1, fun b h => .inr h, fun b h => ?_, h4.mono (fun _ _ h => h) (fun _ h => .inl h) (fun _ _ => rfl), ⟨fun k B hB => ?_, h5.inj, h5.dom⟩⟩
    · rcases h with h | h
      · rcases h3 b h with q | q
        · exact .inl q.1
        · exact .inr q
      · exact .inl h
    · obtain ⟨bi, q1, q2, q3⟩ := h5.ok k B hB
      exact ⟨bi, q1, q2.mono (fun _ _ h => h) (fun _ h => .inl h) (fun _ _ => rfl) (fun _ => rfl) (fun hn hq q => by
        rcases q with q | q
        · exact hq q
        · have := q3 hn; have := hF _ q; omega), q3⟩
  clear hx hF
  intro F hcell hF hx
  refine callsIn_wide.1 (callsIn_of_wp_marks (F := Fence.wide) (n := 0) hf hb trivial ?_)
  let β0 : Pl := fun _ => none
  have hsim : Sim ⟨args.map AV.p ++ List.replicate (fn.ntmps - args.length) .top, []⟩ β0 F { tmps := vs.toArray ++ Array.replicate (fn.ntmps - vs.toArray.size) undef, defers := [] } w := by
    refine ⟨by simp [hl], fun t x hxt => ?_, ⟨fun id B hB => by simp [memOf, nth_eq] at hB, fun id id' B B' bi bi' _ hB => by simp [memOf, nth_eq] at hB, hF⟩, fun _ _ => rfl, .nil rfl⟩
    simp only at hxt
    by_cases ht : t < args.length
    · rw [List.getElem?_append_left (by simpa using ht), List.getElem?_map] at hxt
      have hlt : t < vs.length := Nat.lt_of_lt_of_eq ht hl
      have ha : args[t]? = some args[t] := List.getElem?_eq_getElem ht
      rw [ha] at hxt
      simp at hxt; subst hxt
      have hv : vs[t]? = some vs[t] := List.getElem?_eq_getElem hlt
      have : (Act.eval { tmps := vs.toArray ++ Array.replicate (fn.ntmps - vs.toArray.size) undef, defers := [] } (.tmp t)) = vs[t] := by
        simp [Act.eval, Array.getElem?_append, hlt]
      rw [this]
      exact .p _ _ (hx t _ _ ha hv)
    · rw [List.getElem?_append_right (by simpa using Nat.le_of_not_lt ht)] at hxt
      have := List.eq_of_mem_replicate (List.mem_of_getElem? hxt)
      subst this
      exact .top _
  have hctx : Ctx (fun _ => False) F β0 w ⟨args.map AV.p ++ List.replicate (fn.ntmps - args.length) .top, []⟩ β0 F w :=
    ⟨rfl, rfl, rfl, Nat.le_refl _, fun _ _ _ => rfl, fun id B bi hB => by simp [memOf, nth_eq] at hB, fun _ _ h => h, fun _ h => h, fun _ h => .inl h⟩
  refine wpIn_mono (h F w _ w hsim hctx) ?_
  rintro e a' w' ⟨s, β, F', hk, hs, hc⟩
  have core : ∀ w', Sim s β F' { tmps := a'.tmps, defers := [] } w' → Ctx (fun _ => False) F β0 w s β F' w' → resK T fn.results.toList rs s →
      ∃ v, (results fn a'.tmps).run P w' = .ok v w' ∧ ∃ v' β' F'', Ending.returned v = .returned v' ∧ RowKit.Below w.heap.size w w' ∧ (∀ b, F b → F'' b) ∧ (∀ b, F'' b → F b ∨ (w.heap.size ≤ b ∧ b < w'.heap.size)) ∧
        RepA β' F'' w' (oneOr (impV rs n).1) v' ∧ NewOK (impV rs n).2 n β' F'' w w' := by
    intro w' hs hc hres
    unfold resK at hres
    split at hres
    case h_2 => exact hres.elim
    rename_i xs hxs
    obtain ⟨ids, ns, hrel, hrows, hchk⟩ := outK_spec _ _ _ _ hres
    split at hchk
    case h_2 => exact hchk.elim
    rename_i hd hnd
    obtain ⟨us, g1, g2, g3⟩ := results_run hT hs fn xs hxs
    obtain ⟨r1, r2, r3, r4⟩ := resRel_spec (ids := ids) hs.mem.ok hrel n us g1 g2
    have hrow : ∀ b, frzF β F' ids b → F b ∨ (w.heap.size ≤ b ∧ b < w'.heap.size) := by
      rintro b (h | ⟨id, h1, b0, h2, h3, rfl⟩)
      · rcases hc.Fn b h with q | q | q
        · exact .inl q
        · exact q.elim
        · exact .inr ⟨q, hs.mem.lt b h⟩
      · obtain ⟨sz, els, o, hm⟩ := hrows id h1
        obtain ⟨bi, q1, q2⟩ := hs.mem.ok id _ hm
        rw [h2] at q1; cases q1
        cases o with
        | true =>
          rcases hc.row id _ _ hm h2 h3 rfl with q | q
          · exact q.elim
          · exact .inr ⟨q, q2.lt h3⟩
        | false =>
          have hF' := q2.isF h3
          rcases hc.Fn _ hF' with q | q | q
          · exact .inl q
          · exact q.elim
          · exact .inr ⟨q, q2.lt h3⟩
    refine ⟨_, g3, _, outPl β ns n, frzF β F' ids, rfl, ⟨hc.os, hc.tape, hc.output, hc.size, fun k hk => hc.keep k hk (fun q => q)⟩, fun b h => .inl (hc.Fm b h), hrow, rep_one (by rw [impV_len, r2]; exact g1) r1, ?_⟩
    have at_ : ∀ k, outPl β ns n (n + k) = (match ns[k]? with | some (some i) => β i | some none => some nilBI | none => none) := fun k => by
      simp only [outPl, show Nat.ble n (n + k) = true from Nat.ble_eq_true_of_le (by omega), show n + k - n = k by omega]
    refine ⟨fun k B hB => ?_, ?_, ?_⟩
    · rcases r4 k B hB with ⟨i, sz, els, q1, rfl, sz', q2, q3⟩ | ⟨q1, sz, rfl⟩
      · obtain ⟨bi, q4, q5⟩ := hs.mem.ok i _ q2
        refine ⟨bi, by rw [at_, q1]; exact q4, ?_, fun hn => ?_⟩
        · cases q5 with
          | nil _ h hn _ => exact .nil _ h hn _
          | row _ _ _ h hz hn' hc' hr hs' ho hf =>
            refine .row _ _ _ h (q3 bi q4 h) hn' hc' hr (hs'.mono (fun _ h => .inl h) (fun _ _ => rfl) rfl) (fun _ => ?_) (fun q => by cases q)
            rintro (hF' | ⟨id, h1, b0, h2, h3, h4⟩)
            · exact ho rfl hF'
            · obtain ⟨sz2, els2, o2, hm2⟩ := hrows id h1
              exact hs.mem.inj id i _ _ b0 bi (fun e => disj_spec _ _ hd i (mem_newIds ns k i q1) (e ▸ h1)) hm2 q2 h2 q4 h3 h h4
        · rcases hc.row i _ _ q2 q4 hn rfl with q | q
          · exact q.elim
          · exact q
      · exact ⟨nilBI, by rw [at_, q1], .nil _ rfl rfl _, fun hn => by cases hn⟩
    · intro k l bi bj hne hk hl hb1 hb2 hn1 hn2
      have some_ : ∀ k bi, k < (impV rs n).2.length → outPl β ns n (n + k) = some bi → bi.nil = false → ∃ i B, ns[k]? = some (some i) ∧ β i = some bi ∧ memOf s.m i = some B := fun k bi hk hb hn => by
        rw [at_] at hb
        rcases r4 k _ (List.getElem?_eq_getElem hk) with ⟨i, sz, els, q1, _, sz', q2, _⟩ | ⟨q1, _⟩
        · rw [q1] at hb; exact ⟨i, _, q1, hb, q2⟩
        · rw [q1] at hb; simp only [Option.some.injEq] at hb; subst hb; cases hn
      obtain ⟨i, B, q1, q2, q3⟩ := some_ k bi hk hb1 hn1
      obtain ⟨j, B', p1, p2, p3⟩ := some_ l bj hl hb2 hn2
      exact hs.mem.inj i j _ _ bi bj (fun e => hne (newIds_inj ns hnd k l i q1 (e ▸ p1))) q3 p3 q2 p2 hn1 hn2
    · intro id hid
      simp only [outPl]
      split
      · rename_i hb
        have hle := Nat.le_of_ble_eq_true hb
        rw [List.getElem?_eq_none (by rw [← r3]; omega)]
      · rfl
  cases e with
  | ret => exact marks_out hcell (fun w' hs hc => core w' hs hc hk) _ w' hs hc
  | normal => exact marks_out hcell (fun w' hs hc => core w' hs hc hk) _ w' hs hc
  | _ => exact hk.elim


theorem acall_of_awp {P : Program} {E : Env} (hE : EnvOK P E) {f : FuncId} {fn : Func} {c : Code} (hf : P.funcs[f]? = some fn) (hb : fn.body = some c) (hname : (fn.name == "runtime.NumGoroutine") = false)
    (J : List Nat) {args : List PV} {rs : List RV} (h : startK args fn.ntmps (AWP E 0 J c (retK E.T fn.results.toList rs))) : ACall P f args rs := by
  refine acall_of_wp hE.T hf hb hname ?_
  unfold startK at h ⊢
  rw [copyK_eq] at h ⊢
  exact fun F w0 a w hs hc => awp_sound hE (fun _ _ => rfl) c _ _ _ _ _ _ h hs hc

/-! ### Calls that share memory, by their code -/
def startS (args : List AV) (n : Nat) (m : List (Option Blk)) (k : ASt → Prop) : Prop := appK args (List.replicate (n - args.length) .top) fun t => k ⟨t, m⟩
def retS (T : Tab) (rvs : List ResultVar) (Q : List AV → List (Option Blk) → Prop) : Exit → ASt → Prop
  | .ret, s => obind (valsOf s T rvs) fun xs => Q xs s.m
  | .normal, s => obind (valsOf s T rvs) fun xs => Q xs s.m
  | _, _ => False

theorem scall_of_wp {P : Program} {T : Tab} (hT : TabOK P T) {f : FuncId} {fn : Func} {c : Code} (hf : P.funcs[f]? = some fn) (hb : fn.body = some c) (hname : (fn.name == "runtime.NumGoroutine") = false)
    {args : List AV} {m : List (Option Blk)} {Q : List AV → List (Option Blk) → Prop} (h : startS args fn.ntmps m fun s => ∀ (β : Pl) (F : Nat → Prop) (w0 : World) (a : Act) (w : World), (∀ id, m.length ≤ id → β id = none) → Sim s β F a w → Ctx (OkOf m β) F β w0 s β F w →
      c.wpIn Fence.wide 0 P (Post (OkOf m β) F β w0 (retS T fn.results.toList Q)) a w) : SCall P f args m Q := by
  refine ⟨⟨fn, c, hf, hb, hname⟩, fun β F w vs hl hx hmem hdom => ?_⟩
  unfold startS at h
  rw [appK_eq] at h
  have wlog : ∀ (F : Nat → Prop), (∀ b, F b → CellAt w b) → (∀ (k : Nat) (x : AV) (y : Value), args[k]? = some x → vs[k]? = some y → RepA β F w x y) → MemOK (memOf m) β F w →
      Calls P f vs.toArray w fun e w' => ∃ v xs m' β' F', e = .returned v ∧ Q xs m' ∧ RepA β' F' w' (oneOr xs) v ∧ MemOK (memOf m') β' F' w' ∧ (∀ id, m'.length ≤ id → β' id = none) ∧ Ctx (OkOf m β) F β w ⟨[], m'⟩ β' F' w' := ?_
  · have hs0 : Sim ⟨[], m⟩ β F { tmps := #[], defers := [] } w := ⟨rfl, fun t x h => by simp at h, hmem, hdom, .nil rfl⟩
    have hs1 : Sim ⟨[], m⟩ β (fun b => F b ∧ CellAt w b) { tmps := #[], defers := [] } w := hs0.other rfl (fun _ _ _ => rfl) (Nat.le_refl _) (fun b h1 h2 => ⟨h1, h2⟩) (fun b h => .inl h.1) (.nil rfl)
    refine (wlog (fun b => F b ∧ CellAt w b) (fun _ h => h.2) (fun k x y h1 h2 => (hx k x y h1 h2).shrink (fun b h1 h2 => ⟨h1, h2⟩) (fun _ _ _ => rfl)) hs1.mem).mono ?_
    rintro e w' ⟨v, xs, m', β', F', rfl, h1, h2, h3, h4, hc⟩
    have hFw : ∀ b, F b → b < w.heap.size := hmem.lt
    have hno : ∀ id B bi, memOf m' id = some B → β' id = some bi → bi.nil = false → B.mine = true → ¬ F bi.b := fun id B bi q1 q2 q3 q4 q5 => by
      rcases hc.row id B bi q1 q2 q3 q4 with ⟨id0, B0, b0, r1, r2, r3, r4, r5⟩ | q
      · obtain ⟨b1, z1, z2⟩ := hmem.ok id0 B0 r1
        rw [r3] at z1; cases z1
        rw [← r5] at q5
        refine z2.notF r4 ?_ q5
        cases B0 with
        | box cs => exact .inl ⟨cs, rfl⟩
        | row sz els o => cases o with
          | true => exact .inr ⟨sz, els, rfl⟩
          | false => cases r2
      · have := hFw _ q5; omega
    refine ⟨v, xs, m', β', fun b => F' b ∨ F b, rfl, h1, h2.mono (fun _ _ h => h) (fun _ h => .inl h) (fun _ _ => rfl), ⟨fun id B hB => ?_, h3.inj, fun b h => ?_⟩, h4, ⟨hc.os, hc.tape, hc.output, hc.size, hc.keep, hc.row, hc.ext, fun _ h => .inr h, fun b h => ?_⟩⟩
    · obtain ⟨bi, q1, q2⟩ := h3.ok id B hB
      refine ⟨bi, q1, ?_⟩
      cases q2 with
      | nil sz h hn own => exact .nil sz h hn own
      | row sz els own q hz hn' hc' hr hs ho hf =>
        exact .row sz els own q hz hn' hc' hr (hs.mono (fun _ h => .inl h) (fun _ _ => rfl) rfl) (fun o z => by
          rcases z with z | z
          · exact ho o z
          · exact hno id _ bi hB q1 q (by rw [o]; rfl) z) (fun o => .inl (hf o))
      | box cs vs q hn' hc' hn1 hr hl hv h1 hx hF2 =>
        exact .box cs vs q hn' hc' hn1 hr hl hv h1 (fun k x y h2 h3 => (hx k x y h2 h3).mono (fun _ _ h => h) (fun _ h => .inl h) (fun _ _ => rfl)) (fun z => by
          rcases z with z | z
          · exact hF2 z
          · exact hno id _ bi hB q1 q rfl z)
    · rcases h with h | h
      · exact h3.lt b h
      · exact Nat.lt_of_lt_of_le (hFw b h) hc.size
    · rcases h with h | h
      · rcases hc.Fn b h with q | q
        · exact .inl q.1
        · exact .inr q
      · exact .inl h
  clear hx hmem
  intro F hcell hx hmem
  refine callsIn_wide.1 (callsIn_of_wp_marks (F := Fence.wide) (n := 0) hf hb trivial ?_)
  have hsim : Sim ⟨args ++ List.replicate (fn.ntmps - args.length) .top, m⟩ β F { tmps := vs.toArray ++ Array.replicate (fn.ntmps - vs.toArray.size) undef, defers := [] } w := by
    refine ⟨by simp [hl], fun t x hxt => ?_, hmem, hdom, .nil rfl⟩
    simp only at hxt
    by_cases ht : t < args.length
    · rw [List.getElem?_append_left ht] at hxt
      have hlt : t < vs.length := Nat.lt_of_lt_of_eq ht hl
      have hv : vs[t]? = some vs[t] := List.getElem?_eq_getElem hlt
      have : (Act.eval { tmps := vs.toArray ++ Array.replicate (fn.ntmps - vs.toArray.size) undef, defers := [] } (.tmp t)) = vs[t] := by
        simp [Act.eval, Array.getElem?_append, hlt]
      rw [this]
      exact hx t _ _ hxt hv
    · rw [List.getElem?_append_right (Nat.le_of_not_lt ht)] at hxt
      have := List.eq_of_mem_replicate (List.mem_of_getElem? hxt)
      subst this
      exact .top _
  have hctx : Ctx (OkOf m β) F β w ⟨args ++ List.replicate (fn.ntmps - args.length) .top, m⟩ β F w :=
    ⟨rfl, rfl, rfl, Nat.le_refl _, fun _ _ _ => rfl, fun id B bi h1 h2 h3 h4 => .inl ⟨id, B, bi, h1, h4, h2, h3, rfl⟩, fun _ _ h => h, fun _ h => h, fun _ h => .inl h⟩
  refine wpIn_mono (h β F w _ w hdom hsim hctx) ?_
  rintro e a' w' ⟨s, β', F', hk, hs, hc⟩
  have core : ∀ w', Sim s β' F' { tmps := a'.tmps, defers := [] } w' → Ctx (OkOf m β) F β w s β' F' w' → obind (valsOf s T fn.results.toList) (fun xs => Q xs s.m) → ∃ v, (results fn a'.tmps).run P w' = .ok v w' ∧ ∃ v' xs m' β2 F2, Ending.returned v = .returned v' ∧ Q xs m' ∧ RepA β2 F2 w' (oneOr xs) v' ∧ MemOK (memOf m') β2 F2 w' ∧ (∀ id, m'.length ≤ id → β2 id = none) ∧ Ctx (OkOf m β) F β w ⟨[], m'⟩ β2 F2 w' := by
    intro w' hs hc hres
    obtain ⟨xs, hxs, hq⟩ := obind_iff.1 hres
    obtain ⟨us, g1, g2, g3⟩ := results_run hT hs fn xs hxs
    exact ⟨_, g3, _, xs, s.m, β', F', rfl, hq, rep_one g1 g2, hs.mem, hs.dom, ⟨hc.os, hc.tape, hc.output, hc.size, hc.keep, hc.row, hc.ext, hc.Fm, hc.Fn⟩⟩
  cases e with
  | ret => exact marks_out hcell (fun w' hs hc => core w' hs hc hk) _ w' hs hc
  | normal => exact marks_out hcell (fun w' hs hc => core w' hs hc hk) _ w' hs hc
  | _ => exact hk.elim

theorem scall_of_awp {P : Program} {E : Env} (hE : EnvOK P E) {f : FuncId} {fn : Func} {c : Code} (hf : P.funcs[f]? = some fn) (hb : fn.body = some c) (hname : (fn.name == "runtime.NumGoroutine") = false)
    (J : List Nat) {args : List AV} {m : List (Option Blk)} {Q : List AV → List (Option Blk) → Prop} (h : startS args fn.ntmps m (AWP E m.length J c (retS E.T fn.results.toList Q))) : SCall P f args m Q := by
  refine scall_of_wp hE.T hf hb hname ?_
  unfold startS at h ⊢
  rw [appK_eq] at h ⊢
  exact fun β F w0 a w hd hs hc => awp_sound hE hd c _ _ _ _ _ _ h hs hc
end
end Go.Am

set_option linter.unusedVariables false
namespace Go.Am
noncomputable section
open Go

/-! ### The types' table out of the program's -/
def tkOf : TypeDesc → TK
  | .int k => .int k
  | .bool => .bool
  | .slice e => .slice e
  | .string => .str
  | .array n e => .arr n e
  | .struct gs => .strct (gs.toList.map fun f => (f.offset, f.type))
  | _ => .other
def tiOf (P : Program) (t : Nat) : Option TI :=
  match P.info? t, P.underlying t with
  | some i, some d => match i.zero with
    | some z => match z.cells.toList.all (·.oneCell'), Nat.beq z.cells.toList.length i.size with
      | true, true => some ⟨tkOf d, i.size, i.bytes, z.cells.toList⟩
      | _, _ => none
    | none => none
  | _, _ => none
theorem tkOf_ok (d : TypeDesc) : (tkOf d).ok d := by
  cases d <;> simp [tkOf, TK.ok]
theorem tabOK_of {P : Program} {T : Tab} (h : ∀ t ti, T t = some ti → tiOf P t = some ti) : TabOK P T := by
  have key : ∀ t ti, T t = some ti → ∃ i d z, P.info? t = some i ∧ P.underlying t = some d ∧ i.zero = some z ∧ (∀ v ∈ z.cells.toList, v.oneCell' = true) ∧ z.cells.toList.length = i.size ∧ ti = ⟨tkOf d, i.size, i.bytes, z.cells.toList⟩ := by
    intro t ti ht
    have h := h t ti ht
    unfold tiOf at h
    split at h
    case h_2 => cases h
    rename_i i d hi hd
    split at h
    case h_2 => cases h
    rename_i z hz
    split at h
    case h_2 => cases h
    rename_i h1 h2
    cases h
    exact ⟨i, d, z, hi, hd, hz, fun v hv => List.all_eq_true.1 h1 v hv, Nat.eq_of_beq_eq_true h2, rfl⟩
  refine ⟨fun t ti ht => ?_, fun t ti ht => ?_⟩
  · obtain ⟨i, d, z, h1, h2, h3, h4, h5, rfl⟩ := key t ti ht
    exact ⟨i, h1, rfl, rfl, z, h3, rfl, h4, h5⟩
  · obtain ⟨i, d, z, h1, h2, h3, h4, h5, rfl⟩ := key t ti ht
    exact ⟨d, h2, tkOf_ok d⟩
noncomputable def tabGo (t : Nat) (L : List (Nat × TI)) : Option TI := List.rec none (fun p _ ih => match Nat.beq p.1 t with | true => some p.2 | false => ih) L
noncomputable def tabOf (L : List (Nat × TI)) : Tab := fun t => tabGo t L
theorem tabOf_ok {P : Program} {L : List (Nat × TI)} (h : ∀ p ∈ L, tiOf P p.1 = some p.2) : TabOK P (tabOf L) := by
  refine tabOK_of (fun t ti ht => ?_)
  have gen : ∀ (L : List (Nat × TI)), (∀ p ∈ L, tiOf P p.1 = some p.2) → tabGo t L = some ti → tiOf P t = some ti := by
    intro L
    induction L with
    | nil => intro _ h; cases h
    | cons p r ih =>
      intro hp h
      obtain ⟨u, ti'⟩ := p
      have h : (match Nat.beq u t with | true => some ti' | false => tabGo t r) = some ti := h
      split at h
      · rename_i hb
        cases h
        have := Nat.eq_of_beq_eq_true hb; subst this
        exact hp (u, ti) List.mem_cons_self
      · exact ih (fun p hp' => hp p (by simp [hp'])) h
  exact gen L h ht
theorem tabOf_eq {P : Program} {L : List (Nat × TI)} (h : L.map (fun p => tiOf P p.1) = L.map (fun p => some p.2)) : TabOK P (tabOf L) :=
  tabOf_ok fun p hp => List.map_inj_left.1 h p hp
end
end Go.Am

set_option linter.unusedVariables false
namespace Go.Am
noncomputable section
open Go

/-! ### Closed runs: the machine carried out by computing -/
structure FE where
  ntmps : Nat
  rvs : List ResultVar
  rts : List TypeId
  body : Code
def FE.of (fn : Func) : FE := ⟨fn.ntmps, fn.results.toList, fn.resultTypes.toList, fn.body.getD .ret⟩
structure FEOK (P : Program) (f : FuncId) (fe : FE) : Prop where
  ex : ∃ fn c, P.funcs[f]? = some fn ∧ fn.body = some c ∧ (fn.name == "runtime.NumGoroutine") = false ∧ fe.ntmps = fn.ntmps ∧ fe.rvs = fn.results.toList ∧ fe.body = c
theorem FEOK.of {P : Program} {f : FuncId} {fn : Func} {c : Code} (h : P.funcs[f]? = some fn) (hb : fn.body = some c) (hn : (fn.name == "runtime.NumGoroutine") = false) : FEOK P f (FE.of fn) :=
  ⟨fn, c, h, hb, hn, rfl, rfl, by simp [FE.of, hb]⟩
abbrev FTab := Nat → Option FE
noncomputable def findF (n : Nat) (l : List (Nat × FE)) : Option FE := List.rec none (fun p _ ih => match Nat.beq p.1 n with | true => some p.2 | false => ih) l
theorem findF_ok {P : Program} : ∀ {l : List (Nat × FE)}, (∀ p ∈ l, FEOK P p.1 p.2) → ∀ f fe, findF f l = some fe → FEOK P f fe := by
  intro l
  induction l with
  | nil => intro _ f fe h; cases h
  | cons p r ih =>
    intro hp f fe h
    have h : (match Nat.beq p.1 f with | true => some p.2 | false => findF f r) = some fe := h
    split at h
    · rename_i hb
      cases h
      rw [← Nat.eq_of_beq_eq_true hb]
      exact hp p List.mem_cons_self
    · exact ih (fun q hq => hp q (List.mem_cons_of_mem _ hq)) f fe h
abbrev Lib := FuncId → List PV → Option (List RV)
structure XEnv where
  T : Tab
  FT : FTab
  L : Lib
  S : List Nat
structure XOK (P : Program) (E : XEnv) : Prop where
  T : TabOK P E.T
  FT : ∀ f fe, E.FT f = some fe → FEOK P f fe
  L : ∀ f ps rs, E.L f ps = some rs → ACall P f ps rs
  mix : P.follows .mixedOrders = true

def rvOf (T : Tab) (mm : Mem) (ty : TypeId) (x : AV) : Option RV :=
  match x with
  | .own id sz _ => match mm id with
    | some (.row _ els true) => some (.new sz els)
    | some (.row _ els false) => some (.p (.sl els))
    | _ => none
  | x => match AV.pv mm x with
    | some (y, _) => match y with
      | .sl [] => match T ty with
        | some { k := .slice e, .. } => match T e with
          | some ti => match x with
            | .p (.val (.slice none 0 0)) => some (.new ti.size [])
            | _ => some (.p (.sl []))
          | none => none
        | _ => none
      | y => some (.p y)
    | none => none
def rvsOf (T : Tab) (mm : Mem) : List TypeId → List AV → Option (List RV)
  | [], [] => some []
  | t :: ts, x :: xs => match rvOf T mm t x with
    | some r => match rvsOf T mm ts xs with
      | some rs => some (r :: rs)
      | none => none
    | none => none
  | _, _ => none
/-- Names that results name: those that go to the caller, and those that are frozen. -/
def idsOf (mm : Mem) : List AV → List RV → Option (List Nat × List (Option Nat))
  | [], [] => some ([], [])
  | x :: xs, r :: rs => match idsOf mm xs rs with
    | some (ids, ns) => match r with
      | .p _ => match AV.pv mm x with
        | some (_, i) => some (i ++ ids, ns)
        | none => none
      | .new _ _ => match x with
        | .own id _ _ => some (ids, some id :: ns)
        | _ => some (ids, none :: ns)
    | none => none
  | _, _ => none
def outOf (T : Tab) (fe : FE) (s : ASt) (k : List RV → Prop) : Prop :=
  match valsOf s T fe.rvs with
  | some xs => match rvsOf T (memOf s.m) fe.rts xs with
    | some rs => match idsOf (memOf s.m) xs rs with
      | some (ids, ns) => match disj (newIds ns) ids, nodup (newIds ns) with
        | true, true => k rs
        | _, _ => False
      | none => False
    | none => False
  | none => False

/-! Values carried out at once: nothing that a call hands on is left to be computed -/
def fN.{u} {α : Sort u} (n : Nat) (k : Nat → α) : α := Nat.rec (k 0) (fun m _ => k (m + 1)) n
theorem fN_eq.{u} {α : Sort u} (n : Nat) (k : Nat → α) : fN n k = k n := by cases n <;> rfl
def fI.{u} {α : Sort u} (z : Int) (k : Int → α) : α := Int.rec (fun n => fN n fun n => k (.ofNat n)) (fun n => fN n fun n => k (.negSucc n)) z
theorem fI_eq.{u} {α : Sort u} (z : Int) (k : Int → α) : fI z k = k z := by
  cases z with
  | ofNat n => exact fN_eq n (fun n => k (.ofNat n))
  | negSucc n => exact fN_eq n (fun n => k (.negSucc n))
def fB (b : Bool) (k : Bool → Prop) : Prop := Bool.rec (k false) (k true) b
theorem fB_eq (b : Bool) (k : Bool → Prop) : fB b k = k b := by cases b <;> rfl
def fV (v : Value) (k : Value → Prop) : Prop := match v with
  | .bool b => fB b fun b => k (.bool b)
  | .int i n => fI n fun n => k (.int i n)
  | v => k v
theorem fV_eq (v : Value) (k : Value → Prop) : fV v k = k v := by
  unfold fV
  split
  · exact fB_eq _ fun b => k (.bool b)
  · exact fI_eq _ fun n => k (.int _ n)
  · rfl
def fL {α : Type} (f : α → (α → Prop) → Prop) (l : List α) : (List α → Prop) → Prop := List.rec (fun k => k []) (fun x _ ih k => f x fun x => ih fun r => k (x :: r)) l
theorem fL_eq {α : Type} {f : α → (α → Prop) → Prop} (hf : ∀ x k, f x k = k x) (l : List α) : ∀ k, fL f l k = k l := by
  induction l with
  | nil => intro k; rfl
  | cons x r ih => intro k; exact (hf x fun x => fL f r fun r => k (x :: r)).trans (ih fun r => k (x :: r))
def fP1 (ih : PV → (PV → Prop) → Prop) (p : PV) (k : PV → Prop) : Prop := match p with
  | .val v => fV v fun v => k (.val v)
  | .sl els => fL (fL ih) els fun els => k (.sl els)
  | .agg cs => fL ih cs fun cs => k (.agg cs)
def fPn (n : Nat) : PV → (PV → Prop) → Prop := Nat.rec (fun p k => k p) (fun _ ih => fP1 ih) n
theorem fPn_eq (n : Nat) : ∀ p k, fPn n p k = k p := by
  induction n with
  | zero => intro p k; rfl
  | succ n ih =>
    intro p k
    show fP1 (fPn n) p k = k p
    cases p with
    | val v => exact fV_eq v fun v => k (.val v)
    | sl els => exact fL_eq (fun x k => fL_eq ih x k) els fun els => k (.sl els)
    | agg cs => exact fL_eq ih cs fun cs => k (.agg cs)
def fPV : PV → (PV → Prop) → Prop := fPn 9
theorem fPV_eq (p : PV) (k : PV → Prop) : fPV p k = k p := fPn_eq 9 p k
def fRV (r : RV) (k : RV → Prop) : Prop := match r with
  | .p y => fPV y fun y => k (.p y)
  | .new sz els => fN sz fun sz => fPV (.sl els) fun y => match y with
    | .sl els => k (.new sz els)
    | _ => False
theorem fRV_eq (r : RV) (k : RV → Prop) : fRV r k = k r := by
  cases r with
  | p y => exact fPV_eq y _
  | new sz els =>
    simp only [fRV, fN_eq]
    rw [fPV_eq]
abbrev XRun := Code → (Exit → ASt → Prop) → ASt → Prop
def xcall0 (E : XEnv) (X : XRun) : CallRel := fun f ps k =>
  match E.L f ps with
  | some rs => k rs
  | none => match E.FT f with
    | some fe => startK ps fe.ntmps (X fe.body fun e s => match e with
      | .ret => outOf E.T fe s k
      | .normal => outOf E.T fe s k
      | _ => False)
    | none => False
def xcall (E : XEnv) (X : XRun) : CallRel := fun f ps k => fL fPV ps fun ps => xcall0 E X f ps fun rs => fL fRV rs k
theorem xcall_eq (E : XEnv) (X : XRun) (f : FuncId) (ps : List PV) (k : List RV → Prop) : xcall E X f ps k = xcall0 E X f ps k := by
  unfold xcall
  rw [fL_eq fPV_eq]
  congr 1
  funext rs
  exact fL_eq fRV_eq rs k
def xshare (E : XEnv) (X : XRun) : ShareRel := fun f args m Q =>
  match E.FT f with
  | some fe => startS args fe.ntmps m (X fe.body (retS E.T fe.rvs Q))
  | none => False
noncomputable def xenv (E : XEnv) (X : XRun) : Env := ⟨E.T, xcall E X, E.S, xshare E X, fun _ _ _ => False, false⟩
def X1 (E : XEnv) (ih : XRun) : XRun := fun c K s => match c with
  | .skip => K .normal s
  | .region _ ops draw => regionS (xenv E ih) ops draw s (K .normal)
  | .seq a b => ih a (fun e s' => match e with
    | .normal => ih b K s'
    | e => K e s') s
  | .cond c a b => match s.eval c with
    | .p (.val (.bool t)) => match t with
      | true => ih a K s
      | false => ih b K s
    | _ => False
  | .block id c => ih c (fun e s' => match e with
    | .exit id' => match Nat.beq id' id with
      | true => K .normal s'
      | false => K (.exit id') s'
    | e => K e s') s
  | .loop c => ih c (fun e s' => match e with
    | .normal => ih (.loop c) K s'
    | e => K e s') s
  | .exit id => K (.exit id) s
  | .ret => K .ret s
  | _ => False
noncomputable def X (E : XEnv) (n : Nat) : XRun := Nat.rec (fun _ _ _ => False) (fun _ ih => X1 E ih) n
theorem X_succ (E : XEnv) (n : Nat) : X E (n + 1) = X1 E (X E n) := rfl

/-! ### It is so -/
/-- From this state the code comes to that one. -/
def Uni (P : Program) (c : Code) (s : ASt) (e : Exit) (s' : ASt) : Prop :=
  ∀ (Ok F0 : Nat → Prop) (β0 : Pl) (w0 : World) (Q : Exit → Act → World → Prop) (β : Pl) (F : Nat → Prop) (a : Act) (w : World), Sim s β F a w → Ctx Ok F0 β0 w0 s β F w →
    (∀ β' F' a' w', Sim s' β' F' a' w' → Ctx Ok F0 β0 w0 s' β' F' w' → Q e a' w') → c.wp P Q a w
def XSound (P : Program) (X : XRun) : Prop := ∀ c K s, X c K s → ∃ e s', K e s' ∧ Uni P c s e s'


/-- What a region that draws comes to. -/
theorem regionK_uni {P : Program} {T : Tab} (hT : TabOK P T) {C : CallRel} (hC : CallsOK P C) (hmix : P.follows .mixedOrders = true) {id : Nat} {all : Array Oper} {K : ASt → Prop} {s : ASt}
    (h : regionK T C all true s K) : ∃ s', K s' ∧ Uni P (.region id all true) s .normal s' := by
  simp only [regionK] at h
  split at h
  case h_2 => exact h.elim
  rename_i hok
  obtain ⟨es, S, g1, g2, g3, g4⟩ := runDK_told hT hC _ _ _ h
  rw [List.nil_append] at g4
  obtain ⟨g5, g6⟩ := indAllK_spec _ _ g4
  have told : Told P all s es S := ⟨g1, by simpa using g2, fun i o ho => by
    obtain ⟨e, q1, q2⟩ := g3 i o (by simpa using ho)
    exact ⟨e, q1, q2.nid, q2.dst, q2.step, q2.t, q2.m, q2.l⟩⟩
  have g7 : K (S all.size) := by
    have : all.toList.length = all.size := by simp
    rw [← this]; exact g6
  refine ⟨S all.size, g7, fun Ok F0 β0 w0 Q β F a w hs hc hQ => wpIn_wide.1 (wpIn_region_any (F := Fence.wide) (n := 0) hmix ?_)⟩
  have hs' : Sim s β F a { w with drawn := w.drawn + 1 } := ⟨hs.size, fun t x hx => (hs.tmps t x hx).drawn _, ⟨fun id B hB => by
      obtain ⟨bi, q1, q2⟩ := hs.mem.ok id B hB
      exact ⟨bi, q1, q2.drawn _⟩, hs.mem.inj, hs.mem.lt⟩, hs.dom, hs.defers⟩
  have hc' : Ctx Ok F0 β0 w0 s β F { w with drawn := w.drawn + 1 } := ⟨hc.os, hc.tape, hc.output, hc.size, hc.keep, hc.row, hc.ext, hc.Fm, hc.Fn⟩
  have e0 : ∀ k, (Array.replicate all.size false).getD k true = false → k < all.size := fun k hk => by
    refine Nat.lt_of_not_le fun hle => ?_
    simp [Array.getD, show ¬ k < all.size by omega] at hk
  have e1 : ∀ {k e}, es[k]? = some e → (Array.replicate all.size false).getD k true = false := fun {k e} hk => by
    have : k < all.size := by
      have := (List.getElem?_eq_some_iff.1 hk).1
      rw [g2] at this; simpa using this
    simp [this]
  have fold0 : ∀ {X : Type} (act : En → X → X) (x : X), foldC act es (fun k => (Array.replicate all.size false).getD k true) x = x := fun act x => by
    rw [foldC_agree act es _ (fun _ => false) x (fun k e hk hne => by rw [e1 hk] at hne; exact absurd rfl hne), foldC_none]
  refine any_order wide_wide told hok g5 (fun β' F' a' w' h1 h2 => hQ β' F' a' w' h1 h2) _ _ β F a _ (by simp) ?_ ?_ ?_ ?_ ?_ ?_
  · exact Nat.le_trans List.countP_le_length (by simp)
  · intro k o ho hk
    have := (Array.getElem?_eq_some_iff.1 ho).1
    simp [this] at hk
  · simp only [fold0]; exact hs'.f
  · simp only [fold0]; exact hc'.f
  · intro i e he _ q hq
    obtain ⟨o, ho⟩ := told.get he
    obtain ⟨q1, _⟩ := told.at he ho
    refine hs.dom _ ?_
    have := told.mono 0 i (by omega) (by have := (Array.getElem?_eq_some_iff.1 ho).1; omega)
    rw [told.start] at this
    omega
  · intro id hid
    refine hs.dom _ ?_
    have := told.mono 0 all.size (by omega) (Nat.le_refl _)
    rw [told.start] at this
    omega

def DUni (P : Program) (D : ShareRel) : Prop := ∀ f args m Q, D f args m Q → ∃ xs m', Q xs m' ∧ SCall P f args m (fun a b => a = xs ∧ b = m')
theorem runS_uni {P : Program} {T : Tab} (hT : TabOK P T) {C : CallRel} (hC : CallsOK P C) {S : List Nat} {D : ShareRel} (hD : DUni P D) {all : Array Oper} :
    ∀ (r : List Oper) (i : Nat) (s : ASt) (k : ASt → Prop), r = all.toList.drop i → runS T C S D all.toList r s k →
      ∃ s', k s' ∧ ∀ (Ok F0 : Nat → Prop) (β0 : Pl) (w0 : World) (Q : Exit → Act → World → Prop) (β : Pl) (F : Nat → Prop) (a : Act) (w : World), Sim s β F a w → Ctx Ok F0 β0 w0 s β F w →
        (∀ β' F' a' w', Sim s' β' F' a' w' → Ctx Ok F0 β0 w0 s' β' F' w' → Q .normal a' w') → wpOps P all Q (List.range' i r.length) a w := by
  intro r
  induction r with
  | nil => intro i s k hr h; exact ⟨s, h, fun Ok F0 β0 w0 Q β F a w hs hc hQ => hQ _ _ _ _ hs hc⟩
  | cons o r ih =>
    intro i s k hr h
    have ho : all[i]? = some o := by
      have : (all.toList.drop i)[0]? = some o := by rw [← hr]; rfl
      rw [List.getElem?_drop] at this
      simpa using this
    have hr' : r = all.toList.drop (i + 1) := by
      have : (o :: r).tail = (all.toList.drop i).tail := by rw [hr]
      simpa [List.tail_drop] using this
    simp only [runS_cons] at h
    split at h
    · rename_i f args hsh
      split at h
      case h_2 => exact h.elim
      rename_i hgd
      obtain ⟨xs, m', h1, h2⟩ := hD _ _ _ _ h
      obtain ⟨s', g1, g2⟩ := ih (i + 1) _ _ hr' (putM_eq h1)
      refine ⟨s', g1, fun Ok F0 β0 w0 Q β F a w hs hc hQ => ?_⟩
      simp only [List.length_cons, List.range'_succ, wpOps, ho]
      have hw : Region.wanted o (yielded all a.tmps) = true := by simp [Region.wanted, hgd]
      rw [if_pos hw]
      left
      refine share_step hsh h2 hs hc (fun xs2 m2 a' w' β' F' hq q1 q2 => ?_)
      obtain ⟨rfl, rfl⟩ := hq
      exact g2 Ok F0 β0 w0 Q _ _ _ _ q1 q2 hQ
    · obtain ⟨d, m', h1, h2, h3, h4⟩ := stepK_spec hT hC h
      obtain ⟨s', g1, g2⟩ := ih (i + 1) _ _ hr' h2
      refine ⟨s', g1, fun Ok F0 β0 w0 Q β F a w hs hc hQ => ?_⟩
      simp only [List.length_cons, List.range'_succ, wpOps, ho]
      have := step_op (Q := Q) (next := wpOps P all Q (List.range' (i + 1) r.length)) h1 hs hc h3 h4 (fun a' w' β' F' q1 q2 => g2 Ok F0 β0 w0 Q _ _ _ _ q1 q2 hQ)
      split
      · rename_i hw; rw [if_pos hw] at this; exact .inl this
      · rename_i hw; rw [if_neg hw] at this; exact this

theorem regionS_uni {P : Program} {E : Env} (hT : TabOK P E.T) (hC : CallsOK P E.C) (hD : DUni P E.D) (hmix : P.follows .mixedOrders = true) {id : Nat} {all : Array Oper} {draw : Bool} {K : ASt → Prop} {s : ASt} (hask : E.ask = false)
    (h : regionS E all draw s K) : ∃ s', K s' ∧ Uni P (.region id all draw) s .normal s' := by
  cases draw with
  | true => exact regionK_uni hT hC hmix (regionS_draw hask h)
  | false =>
    obtain ⟨s', h1, h2⟩ := runS_uni hT hC hD all.toList 0 s K (by simp) h
    refine ⟨s', h1, fun Ok F0 β0 w0 Q β F a w hs hc hQ => wp_region ?_⟩
    have := h2 Ok F0 β0 w0 Q β F a w hs hc hQ
    rw [List.range_eq_range']
    simpa using this

theorem acall_of_uni {P : Program} {T : Tab} (hT : TabOK P T) {f : FuncId} {fn : Func} {c : Code} (hf : P.funcs[f]? = some fn) (hb : fn.body = some c) (hname : (fn.name == "runtime.NumGoroutine") = false)
    {args : List PV} {rs : List RV} {e : Exit} {s' : ASt} (h : startK args fn.ntmps fun s => Uni P c s e s') (hr : retK T fn.results.toList rs e s') : ACall P f args rs := by
  refine acall_of_wp hT hf hb hname ?_
  unfold startK at h ⊢
  rw [copyK_eq] at h ⊢
  exact fun F w0 a w hs hc => wpIn_wide.2 (h _ _ _ _ _ _ _ _ _ hs hc (fun β' F' a' w' q1 q2 => ⟨s', β', F', hr, q1, q2⟩))
theorem scall_of_uni {P : Program} {T : Tab} (hT : TabOK P T) {f : FuncId} {fn : Func} {c : Code} (hf : P.funcs[f]? = some fn) (hb : fn.body = some c) (hname : (fn.name == "runtime.NumGoroutine") = false)
    {args : List AV} {m : List (Option Blk)} {Q : List AV → List (Option Blk) → Prop} {e : Exit} {s' : ASt} (h : startS args fn.ntmps m fun s => Uni P c s e s') (hr : retS T fn.results.toList Q e s') : SCall P f args m Q := by
  refine scall_of_wp hT hf hb hname ?_
  unfold startS at h ⊢
  rw [appK_eq] at h ⊢
  exact fun β F w0 a w hd hs hc => wpIn_wide.2 (h _ _ _ _ _ _ _ _ _ hs hc (fun β' F' a' w' q1 q2 => ⟨s', β', F', hr, q1, q2⟩))

/-! ### Results read off -/
theorem rvOf_spec {T : Tab} {mm : Mem} {t : TypeId} {x : AV} {r : RV} (h : rvOf T mm t x = some r) :
    (∃ y i, r = .p y ∧ AV.pv mm x = some (y, i)) ∨ (∃ id sz n sz' els, x = .own id sz n ∧ r = .new sz els ∧ mm id = some (.row sz' els true)) ∨ (∃ sz, x = .p (.val (.slice none 0 0)) ∧ r = .new sz []) := by
  have other : (∀ id sz n, x ≠ .own id sz n) → (∃ y i, r = .p y ∧ AV.pv mm x = some (y, i)) ∨ (∃ sz, x = .p (.val (.slice none 0 0)) ∧ r = .new sz []) := by
    intro hne
    have h : (match AV.pv mm x with
      | some (y, _) => match y with
        | .sl [] => match T t with
          | some { k := .slice e, .. } => match T e with
            | some ti => match (generalizing := false) x with
              | .p (.val (.slice none 0 0)) => some (.new ti.size [])
              | _ => some (.p (.sl []))
            | none => none
          | _ => none
        | y => some (.p y)
      | none => none) = some r := by
      cases x with
      | own a b c => exact absurd rfl (hne a b c)
      | _ => exact h
    split at h
    case h_2 => cases h
    rename_i y i hpv
    split at h
    · split at h
      case h_2 => cases h
      split at h
      case h_2 => cases h
      split at h
      · cases h; exact .inr ⟨_, rfl, rfl⟩
      · cases h; exact .inl ⟨_, i, rfl, hpv⟩
    · cases h; exact .inl ⟨_, i, rfl, hpv⟩
  cases x with
  | own id sz n =>
    simp only [rvOf] at h
    split at h
    · rename_i sz' els hm
      cases h
      exact .inr (.inl ⟨id, sz, n, sz', els, rfl, rfl, hm⟩)
    · rename_i sz' els hm
      cases h
      exact .inl ⟨_, [id], rfl, by simp [AV.pv, hm]⟩
    · cases h
  | _ => exact (other (by intro a b c h; cases h)).elim .inl (fun q => .inr (.inr q))
theorem rvsOf_out {T : Tab} {mm : Mem} : ∀ (ts : List TypeId) (xs : List AV) (rs : List RV) (ids : List Nat) (ns : List (Option Nat)) (k : List Nat → List (Option Nat) → Prop),
    rvsOf T mm ts xs = some rs → idsOf mm xs rs = some (ids, ns) → k ids ns → outK mm xs rs k := by
  intro ts
  induction ts with
  | nil =>
    intro xs rs ids ns k h1 h2 h3
    cases xs with
    | nil => simp [rvsOf] at h1; subst h1; simp [idsOf] at h2; obtain ⟨rfl, rfl⟩ := h2; exact h3
    | cons => simp [rvsOf] at h1
  | cons t ts ih =>
    intro xs rs ids ns k h1 h2 h3
    cases xs with
    | nil => simp [rvsOf] at h1
    | cons x xs =>
      simp only [rvsOf] at h1
      split at h1
      case h_2 => cases h1
      rename_i r hr
      split at h1
      case h_2 => cases h1
      rename_i rs' hrs
      cases h1
      simp only [idsOf] at h2
      split at h2
      case h_2 => cases h2
      rename_i ids' ns' hids
      rcases rvOf_spec hr with ⟨y, i, rfl, hpv⟩ | ⟨id, sz, n, sz', els, rfl, rfl, hm⟩ | ⟨sz, rfl, rfl⟩
      · simp only [hpv, Option.some.injEq, Prod.mk.injEq] at h2
        obtain ⟨rfl, rfl⟩ := h2
        have : outK mm xs rs' fun ids ns => k (i ++ ids) ns := ih xs rs' ids' ns' (fun ids ns => k (i ++ ids) ns) hrs hids h3
        have hk : (match AV.pv mm x with
          | some (y', i) => PEq y' y ∧ outK mm xs rs' fun ids ns => k (i ++ ids) ns
          | none => False) := by rw [hpv]; exact ⟨.inl rfl, this⟩
        cases x <;> exact hk
      · simp only [Option.some.injEq, Prod.mk.injEq] at h2
        obtain ⟨rfl, rfl⟩ := h2
        simp only [outK, hm, show Nat.beq sz sz = true by simp]
        exact ⟨trivial, ih xs rs' ids' ns' (fun ids ns => k ids (some id :: ns)) hrs hids h3⟩
      · simp only [Option.some.injEq, Prod.mk.injEq] at h2
        obtain ⟨rfl, rfl⟩ := h2
        exact ⟨rfl, ih xs rs' ids' ns' (fun ids ns => k ids (none :: ns)) hrs hids h3⟩

theorem outOf_spec {T : Tab} {fe : FE} {s : ASt} {k : List RV → Prop} (h : outOf T fe s k) : ∃ rs, k rs ∧ resK T fe.rvs rs s := by
  unfold outOf at h
  split at h
  case h_2 => exact h.elim
  rename_i xs hxs
  split at h
  case h_2 => exact h.elim
  rename_i rs hrs
  split at h
  case h_2 => exact h.elim
  rename_i ids ns hids
  split at h
  case h_2 => exact h.elim
  rename_i hd hn
  refine ⟨rs, h, ?_⟩
  unfold resK
  rw [hxs]
  exact rvsOf_out _ _ _ _ _ _ hrs hids (by simp only [hd, hn])

theorem xcall_ok {P : Program} {E : XEnv} (hE : XOK P E) {X : XRun} (hX : XSound P X) : CallsOK P (xcall E X) := by
  intro f ps k h
  rw [xcall_eq] at h
  unfold xcall0 at h
  split at h
  · rename_i rs hrs; exact ⟨rs, hE.L _ _ _ hrs, h⟩
  split at h
  case h_2 => exact h.elim
  rename_i fe hfe
  obtain ⟨fn, c, h1, h2, h3, h4, h5, h6⟩ := (hE.FT f fe hfe).ex
  unfold startK at h
  rw [copyK_eq] at h
  obtain ⟨e, s', g1, g2⟩ := hX _ _ _ h
  have fin : outOf E.T fe s' k → retK E.T fn.results.toList = retK E.T fn.results.toList → (∀ rs, resK E.T fe.rvs rs s' → retK E.T fn.results.toList rs e s') → ∃ rs, ACall P f ps rs ∧ k rs := by
    intro ho _ hr
    obtain ⟨rs, q1, q2⟩ := outOf_spec ho
    refine ⟨rs, acall_of_uni hE.T h1 h2 h3 ?_ (hr rs q2), q1⟩
    unfold startK
    rw [copyK_eq, ← h4, ← h6]
    exact g2
  cases e with
  | ret => exact fin g1 rfl (fun rs h => by rw [h5] at h; exact h)
  | normal => exact fin g1 rfl (fun rs h => by rw [h5] at h; exact h)
  | _ => exact g1.elim
theorem xshare_ok {P : Program} {E : XEnv} (hE : XOK P E) {X : XRun} (hX : XSound P X) : DUni P (xshare E X) := by
  intro f args m Q h
  unfold xshare at h
  split at h
  case h_2 => exact h.elim
  rename_i fe hfe
  obtain ⟨fn, c, h1, h2, h3, h4, h5, h6⟩ := (hE.FT f fe hfe).ex
  unfold startS at h
  rw [appK_eq] at h
  obtain ⟨e, s', g1, g2⟩ := hX _ _ _ h
  have fin : obind (valsOf s' E.T fe.rvs) (fun xs => Q xs s'.m) → (∀ R, obind (valsOf s' E.T fn.results.toList) (fun xs => R xs s'.m) → retS E.T fn.results.toList R e s') → ∃ xs m', Q xs m' ∧ SCall P f args m (fun a b => a = xs ∧ b = m') := by
    intro ho hr
    obtain ⟨xs, q1, q2⟩ := obind_iff.1 ho
    refine ⟨xs, s'.m, q2, scall_of_uni hE.T h1 h2 h3 ?_ (hr _ (obind_iff.2 ⟨xs, by rw [← h5]; exact q1, rfl, rfl⟩))⟩
    unfold startS
    rw [appK_eq, ← h4, ← h6]
    exact g2
  cases e with
  | ret => exact fin g1 (fun R h => h)
  | normal => exact fin g1 (fun R h => h)
  | _ => exact g1.elim

def LoopUni (P : Program) (X : XRun) : Prop := ∀ c K s, X (.loop c) K s → ∃ e s' m, K e s' ∧ e ≠ .normal ∧ ∀ (Ok F0 : Nat → Prop) (β0 : Pl) (w0 : World) (Q : Exit → Act → World → Prop) (β : Pl) (F : Nat → Prop) (a : Act) (w : World), Sim s β F a w → Ctx Ok F0 β0 w0 s β F w →
    (∀ β' F' a' w', Sim s' β' F' a' w' → Ctx Ok F0 β0 w0 s' β' F' w' → Q e a' w') → Code.rounds P c Q m a w
theorem then_ne {e : Exit} (he : e ≠ .normal) {next : Act → World → Prop} {Q : Exit → Act → World → Prop} {a : Act} {w : World} (h : Q e a w) : Exit.then next Q e a w := by
  cases e <;> first | exact absurd rfl he | exact h
theorem X_loop {P : Program} {E : XEnv} {n : Nat} (h1 : XSound P (X E n)) (h2 : LoopUni P (X E n)) : LoopUni P (X E (n + 1)) := by
  intro c K s h
  simp only [X_succ, X1] at h
  obtain ⟨e1, s1, g1, u1⟩ := h1 _ _ _ h
  have stop : e1 ≠ .normal → K e1 s1 → ∃ e s' m, K e s' ∧ e ≠ .normal ∧ ∀ (Ok F0 : Nat → Prop) (β0 : Pl) (w0 : World) (Q : Exit → Act → World → Prop) (β : Pl) (F : Nat → Prop) (a : Act) (w : World), Sim s β F a w → Ctx Ok F0 β0 w0 s β F w →
      (∀ β' F' a' w', Sim s' β' F' a' w' → Ctx Ok F0 β0 w0 s' β' F' w' → Q e a' w') → Code.rounds P c Q m a w := fun hne hk =>
    ⟨e1, s1, 1, hk, hne, fun Ok F0 β0 w0 Q β F a w hs hc hQ => u1 _ _ _ _ _ _ _ _ _ hs hc (fun β' F' a' w' q1 q2 => then_ne hne (hQ β' F' a' w' q1 q2))⟩
  cases e1 with
  | normal =>
    obtain ⟨e, s', m, g2, g3, u2⟩ := h2 _ _ _ g1
    exact ⟨e, s', m + 1, g2, g3, fun Ok F0 β0 w0 Q β F a w hs hc hQ => u1 _ _ _ _ _ _ _ _ _ hs hc (fun β' F' a' w' q1 q2 => u2 _ _ _ _ _ _ _ _ _ q1 q2 hQ)⟩
  | exit id => exact stop (by intro h; cases h) g1
  | goto l => exact stop (by intro h; cases h) g1
  | ret => exact stop (by intro h; cases h) g1
  | panic ch => exact stop (by intro h; cases h) g1
  | outgrown => exact stop (by intro h; cases h) g1
theorem X_sound {P : Program} {E : XEnv} (hE : XOK P E) : ∀ n, XSound P (X E n) ∧ LoopUni P (X E n) := by
  intro n
  induction n with
  | zero => exact ⟨fun c K s h => h.elim, fun c K s h => h.elim⟩
  | succ n ih =>
    obtain ⟨ih1, ih2⟩ := ih
    have hl := X_loop ih1 ih2
    refine ⟨fun c K s h => ?_, hl⟩
    cases c with
    | skip => exact ⟨.normal, s, h, fun Ok F0 β0 w0 Q β F a w hs hc hQ => wp_skip (hQ _ _ _ _ hs hc)⟩
    | region id ops draw =>
      obtain ⟨s', h1, h2⟩ := regionS_uni (id := id) (E := xenv E (X E n)) hE.T (xcall_ok hE ih1) (xshare_ok hE ih1) hE.mix rfl h
      exact ⟨.normal, s', h1, h2⟩
    | seq x y =>
      simp only [X_succ, X1] at h
      obtain ⟨e1, s1, g1, u1⟩ := ih1 _ _ _ h
      have stop : e1 ≠ .normal → K e1 s1 → ∃ e s', K e s' ∧ Uni P (.seq x y) s e s' := fun hne hk =>
        ⟨e1, s1, hk, fun Ok F0 β0 w0 Q β F a w hs hc hQ => wp_seq (u1 _ _ _ _ _ _ _ _ _ hs hc (fun β' F' a' w' q1 q2 => then_ne hne (hQ β' F' a' w' q1 q2)))⟩
      cases e1 with
      | normal =>
        obtain ⟨e, s', g2, u2⟩ := ih1 _ _ _ g1
        exact ⟨e, s', g2, fun Ok F0 β0 w0 Q β F a w hs hc hQ => wp_seq (u1 _ _ _ _ _ _ _ _ _ hs hc (fun β' F' a' w' q1 q2 => u2 _ _ _ _ _ _ _ _ _ q1 q2 hQ))⟩
      | exit id => exact stop (by intro h; cases h) g1
      | goto l => exact stop (by intro h; cases h) g1
      | ret => exact stop (by intro h; cases h) g1
      | panic ch => exact stop (by intro h; cases h) g1
      | outgrown => exact stop (by intro h; cases h) g1
    | cond c x y =>
      simp only [X_succ, X1] at h
      split at h
      case h_2 => exact h.elim
      rename_i t ht
      have hb : ∀ β F a w, Sim s β F a w → a.eval c = .bool t := fun β F a w hs => by
        have hr := hs.eval c
        rw [ht] at hr
        exact repBool hr
      cases t with
      | true =>
        obtain ⟨e, s', g2, u2⟩ := ih1 _ _ _ h
        exact ⟨e, s', g2, fun Ok F0 β0 w0 Q β F a w hs hc hQ => wp_cond_true (hb _ _ _ _ hs) (u2 _ _ _ _ _ _ _ _ _ hs hc hQ)⟩
      | false =>
        obtain ⟨e, s', g2, u2⟩ := ih1 _ _ _ h
        exact ⟨e, s', g2, fun Ok F0 β0 w0 Q β F a w hs hc hQ => wp_cond_false (hb _ _ _ _ hs) (u2 _ _ _ _ _ _ _ _ _ hs hc hQ)⟩
    | block id x =>
      simp only [X_succ, X1] at h
      obtain ⟨e1, s1, g1, u1⟩ := ih1 _ _ _ h
      cases e1 with
      | exit id' =>
        simp only at g1
        split at g1
        · rename_i hb
          exact ⟨.normal, s1, g1, fun Ok F0 β0 w0 Q β F a w hs hc hQ => wp_block (u1 _ _ _ _ _ _ _ _ _ hs hc (fun β' F' a' w' q1 q2 => by
            simp only [Exit.inBlock]; rw [if_pos (Nat.eq_of_beq_eq_true hb)]; exact hQ _ _ _ _ q1 q2))⟩
        · rename_i hb
          exact ⟨.exit id', s1, g1, fun Ok F0 β0 w0 Q β F a w hs hc hQ => wp_block (u1 _ _ _ _ _ _ _ _ _ hs hc (fun β' F' a' w' q1 q2 => by
            simp only [Exit.inBlock]; rw [if_neg (Nat.ne_of_beq_eq_false hb)]; exact hQ _ _ _ _ q1 q2))⟩
      | normal => exact ⟨_, s1, g1, fun Ok F0 β0 w0 Q β F a w hs hc hQ => wp_block (u1 _ _ _ _ _ _ _ _ _ hs hc (fun β' F' a' w' q1 q2 => hQ _ _ _ _ q1 q2))⟩
      | goto l => exact ⟨_, s1, g1, fun Ok F0 β0 w0 Q β F a w hs hc hQ => wp_block (u1 _ _ _ _ _ _ _ _ _ hs hc (fun β' F' a' w' q1 q2 => hQ _ _ _ _ q1 q2))⟩
      | ret => exact ⟨_, s1, g1, fun Ok F0 β0 w0 Q β F a w hs hc hQ => wp_block (u1 _ _ _ _ _ _ _ _ _ hs hc (fun β' F' a' w' q1 q2 => hQ _ _ _ _ q1 q2))⟩
      | panic ch => exact ⟨_, s1, g1, fun Ok F0 β0 w0 Q β F a w hs hc hQ => wp_block (u1 _ _ _ _ _ _ _ _ _ hs hc (fun β' F' a' w' q1 q2 => hQ _ _ _ _ q1 q2))⟩
      | outgrown => exact ⟨_, s1, g1, fun Ok F0 β0 w0 Q β F a w hs hc hQ => wp_block (u1 _ _ _ _ _ _ _ _ _ hs hc (fun β' F' a' w' q1 q2 => hQ _ _ _ _ q1 q2))⟩
    | loop x =>
      obtain ⟨e, s', m, g1, g2, u⟩ := hl _ _ _ h
      exact ⟨e, s', g1, fun Ok F0 β0 w0 Q β F a w hs hc hQ => wp_loop_rounds m (u _ _ _ _ _ _ _ _ _ hs hc hQ)⟩
    | exit id => exact ⟨.exit id, s, h, fun Ok F0 β0 w0 Q β F a w hs hc hQ => wp_exit (hQ _ _ _ _ hs hc)⟩
    | ret => exact ⟨.ret, s, h, fun Ok F0 β0 w0 Q β F a w hs hc hQ => wp_ret (hQ _ _ _ _ hs hc)⟩
    | _ => simp only [X_succ, X1] at h

/-- A CLOSED CALL, by computing. -/
theorem acall_run {P : Program} {E : XEnv} (hE : XOK P E) (n : Nat) {f : FuncId} {ps : List PV} {k : List RV → Prop} (h : xcall E (X E n) f ps k) : ∃ rs, ACall P f ps rs ∧ k rs :=
  xcall_ok hE (X_sound hE n).1 f ps k h
end
end Go.Am

set_option linter.unusedVariables false
namespace Go.Am
noncomputable section
open Go

/-- A contract by cases of what the arguments are in the world. -/
theorem acall_by {P : Program} {f : FuncId} {args : List PV} {rs : List RV} (hfn : ∃ fn c, P.funcs[f]? = some fn ∧ fn.body = some c ∧ (fn.name == "runtime.NumGoroutine") = false)
    (h : ∀ (F : Nat → Prop) (w : World) (vs : List Value), args.length = vs.length → (∀ (k : Nat) (x : PV) (y : Value), args[k]? = some x → vs[k]? = some y → RepP F w x y) →
      ∃ args', args'.length = vs.length ∧ (∀ (k : Nat) (x : PV) (y : Value), args'[k]? = some x → vs[k]? = some y → RepP F w x y) ∧ ACall P f args' rs) : ACall P f args rs :=
  ⟨hfn, fun F w vs n hF hl hx => by
    obtain ⟨args', h1, h2, h3⟩ := h F w vs hl hx
    exact h3.run F w vs n hF h1 h2⟩
/-- One slice as the argument: nil, empty, or with elements. -/
theorem acall_slice {P : Program} {f : FuncId} {els : List (List PV)} {rs : List RV} (hfn : ∃ fn c, P.funcs[f]? = some fn ∧ fn.body = some c ∧ (fn.name == "runtime.NumGoroutine") = false)
    (h0 : els = [] → ∀ c, ACall P f [.val (.slice none 0 c)] rs) (h1 : els = [] → ∀ a c, ACall P f [.val (.slice (some a) 0 c)] rs) (h2 : ∀ e r, els = e :: r → ACall P f [.sl els] rs) : ACall P f [.sl els] rs := by
  refine acall_by hfn (fun F w vs hl hx => ?_)
  match vs, hl with
  | [v], _ =>
    have hr := hx 0 _ v rfl rfl
    cases els with
    | cons e r => exact ⟨[.sl (e :: r)], rfl, hx, h2 e r rfl⟩
    | nil =>
      refine ⟨[.val v], rfl, fun k x y p q => ?_, ?_⟩
      · cases k with
        | zero => simp at p q; subst p; subst q; exact .val _
        | succ k => simp at p
      · cases hr with
        | sl _ a c b o sz vv hc ha hs hxx =>
          cases a with
          | none => exact h0 rfl c
          | some a => exact h1 rfl a c

/-! ### Contracts that say less -/
inductive RLe : List RV → List RV → Prop
  | nil : RLe [] []
  | p {x y : PV} {r r' : List RV} (h : PVle x y) (g : RLe r r') : RLe (.p x :: r) (.p y :: r')
  | new (sz : Nat) (els : List (List PV)) {r r' : List RV} (g : RLe r r') : RLe (.new sz els :: r) (.new sz els :: r')
theorem RLe.rf : ∀ (r : List RV), RLe r r
  | [] => .nil
  | .p x :: r => .p (.rf x) (RLe.rf r)
  | .new sz els :: r => .new sz els (RLe.rf r)
def ALe (β : Pl) (F : Nat → Prop) (w : World) (xs ys : List AV) : Prop := xs.length = ys.length ∧ ∀ (k : Nat) (x y : AV) (v : Value), xs[k]? = some x → ys[k]? = some y → RepA β F w x v → RepA β F w y v
theorem RLe.imp {rs rs' : List RV} (h : RLe rs rs') : ∀ (n : Nat) (β : Pl) (F : Nat → Prop) (w : World), (impV rs n).2 = (impV rs' n).2 ∧ ALe β F w (impV rs n).1 (impV rs' n).1 := by
  induction h with
  | nil => intro n β F w; exact ⟨rfl, rfl, fun k x y v h => by simp [impV] at h⟩
  | p h g ih =>
    intro n β F w
    obtain ⟨h1, h2, h3⟩ := ih n β F w
    refine ⟨by simp [impV, h1], by simp [impV, h2], fun k x y v q1 q2 hr => ?_⟩
    cases k with
    | zero =>
      simp [impV] at q1 q2; subst q1; subst q2
      cases hr with | p _ _ hr => exact .p _ _ (h F w v hr)
    | succ k => exact h3 k x y v (by simpa [impV] using q1) (by simpa [impV] using q2) hr
  | new sz els g ih =>
    intro n β F w
    obtain ⟨h1, h2, h3⟩ := ih (n + 1) β F w
    refine ⟨by simp [impV, h1], by simp [impV, h2], fun k x y v q1 q2 hr => ?_⟩
    cases k with
    | zero => simp [impV] at q1 q2; subst q1; subst q2; exact hr
    | succ k => exact h3 k x y v (by simpa [impV] using q1) (by simpa [impV] using q2) hr
theorem ALe.one {β : Pl} {F : Nat → Prop} {w : World} {xs ys : List AV} (h : ALe β F w xs ys) {v : Value} (hr : RepA β F w (oneOr xs) v) : RepA β F w (oneOr ys) v := by
  have tup : RepA β F w (.tup xs) v → RepA β F w (.tup ys) v := fun hr => by
    cases hr with
    | tup _ vs hl hx =>
      refine .tup _ vs (by rw [← h.1]; exact hl) (fun k x y h1 h2 => ?_)
      have hk : k < xs.length := by rw [h.1]; exact (List.getElem?_eq_some_iff.1 h1).1
      exact h.2 k _ x y (List.getElem?_eq_getElem hk) h1 (hx k _ y (List.getElem?_eq_getElem hk) h2)
  match xs, ys, h with
  | [], [], _ => exact hr
  | [x], [y], h => exact h.2 0 x y v rfl rfl hr
  | x :: x' :: r, y :: y' :: r', h => exact tup hr
  | [], _ :: _, h => exact absurd h.1 (by simp)
  | _ :: _, [], h => exact absurd h.1 (by simp)
  | [_], _ :: _ :: _, h => exact absurd h.1 (by simp)
  | _ :: _ :: _, [_], h => exact absurd h.1 (by simp)
/-- A contract for arguments of which more is known, with results of which less is said. -/
theorem ACall.le {P : Program} {f : FuncId} {args args' : List PV} {rs rs' : List RV} (h : ACall P f args rs) (ha : CellsLe args' args) (hr : RLe rs rs') : ACall P f args' rs' :=
  ⟨h.fn, fun F w vs n hF hl hx => by
    refine (h.run F w vs n hF (by rw [← ha.1]; exact hl) (fun k x y h1 h2 => ?_)).mono ?_
    · have hk : k < args'.length := by rw [ha.1]; exact (List.getElem?_eq_some_iff.1 h1).1
      exact ha.2 k _ x (List.getElem?_eq_getElem hk) h1 F w y (hx k _ y (List.getElem?_eq_getElem hk) h2)
    · rintro e w' ⟨v, β', F', g1, g2, g3, g4, g5, g6⟩
      obtain ⟨q1, q2⟩ := hr.imp n β' F' w'
      exact ⟨v, β', F', g1, g2, g3, g4, q2.one g5, by rw [← q1]; exact g6⟩⟩
theorem ACall.res {P : Program} {f : FuncId} {args : List PV} {rs rs' : List RV} (h : ACall P f args rs) (hr : RLe rs rs') : ACall P f args rs' := h.le (.rf _) hr
theorem ACall.arg {P : Program} {f : FuncId} {args args' : List PV} {rs : List RV} (h : ACall P f args rs) (ha : CellsLe args' args) : ACall P f args' rs := h.le ha (.rf _)
end
end Go.Am
