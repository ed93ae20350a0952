import Derived.Calls
import Derived.Orders
import Derived.Below
import Derived.Deep.MidRow
import Derived.Deep.AppendSrc
import Derived.Laws.MakeOwn
set_option linter.unusedVariables false
set_option linter.unusedSimpArgs false
set_option linter.unusedVariables false
namespace Go.Am
open Go

/-! ### Abstract values: contents instead of addresses -/
inductive PV where
  | val (v : Value)
  | sl (els : List (List PV))
  | agg (cs : List PV)
inductive AV where
  | top
  | p (x : PV)
  | own (id sz n : Nat)
  | win (id sz off n : Nat)
  | ptr (id i j : Nat)
  | cell (cs : List PV)
  | agg (cs : List AV)
  | tup (vs : List AV)
  | clo (f : FuncId) (cap : List AV)
instance : Inhabited PV := ⟨.agg []⟩
instance : Inhabited AV := ⟨.top⟩

/-- Where a block of ours lies: block, first cell, cells an element, elements, capacity; or it is nil. -/
structure BI where
  b : Nat
  o : Nat
  sz : Nat
  n : Nat
  cap : Nat
  nil : Bool
abbrev Pl := Nat → Option BI

/-- A block of cells. -/
def CellAt (w : World) (b : Nat) : Prop := ∃ c e r, w.heap[b]? = some (.cells c e r)
theorem CellAt.of_range {w : World} {b o : Nat} {vs : List Value} (h : w.rangeAt b o vs) (h0 : 0 < vs.length) : CellAt w b := by
  have h1 := h 0 vs[0] (List.getElem?_eq_getElem h0)
  simp only [World.cell?] at h1
  split at h1
  · rename_i c e r hb; exact ⟨c, e, r, hb⟩
  · cases h1
inductive RepP (F : Nat → Prop) (w : World) : PV → Value → Prop
  | val (v : Value) : RepP F w (.val v) v
  | sl (els : List (List PV)) (a : Option Addr) (c b o sz : Nat) (vv : Nat → List Value) (hc : els.length ≤ c)
      (ha : 0 < els.length → a = some ⟨b, o, none⟩ ∧ F b ∧ CellAt w b)
      (hs : ∀ (i : Nat) (e : List PV), els[i]? = some e → e.length = sz ∧ (vv i).length = sz ∧ w.rangeAt b (o + i * sz) (vv i) ∧ ∀ v ∈ vv i, v.oneCell' = true)
      (hx : ∀ (i : Nat) (e : List PV) (j : Nat) (x : PV) (y : Value), els[i]? = some e → e[j]? = some x → (vv i)[j]? = some y → RepP F w x y) : RepP F w (.sl els) (.slice a els.length c)
  | agg (cs : List PV) (vs : List Value) (hl : cs.length = vs.length) (hx : ∀ (k : Nat) (x : PV) (y : Value), cs[k]? = some x → vs[k]? = some y → RepP F w x y) : RepP F w (.agg cs) (.agg vs.toArray)

theorem rangeAt_same {w w' : World} {b o : Nat} {vs : List Value} (h : w.rangeAt b o vs) (hb : w'.heap[b]? = w.heap[b]?) : w'.rangeAt b o vs := by
  intro j v hv
  have := h j v hv
  simp only [World.cell?] at this ⊢
  rw [hb]; exact this

theorem RepP.mono {F F' : Nat → Prop} {w w' : World} (hF : ∀ b, F b → F' b) (hw : ∀ b, F b → w'.heap[b]? = w.heap[b]?) {x : PV} {v : Value} (h : RepP F w x v) : RepP F' w' x v := by
  induction h with
  | val v => exact .val v
  | sl els a c b o sz vv hc ha hs hx ih =>
    refine .sl els a c b o sz vv hc (fun h => ⟨(ha h).1, hF _ (ha h).2.1, by have h2 := (ha h).2; simp only [CellAt, hw b h2.1]; exact h2.2⟩) (fun i e h1 => ?_) ih
    have hb := (ha (by have := (List.getElem?_eq_some_iff.1 h1).1; omega)).2.1
    obtain ⟨h3, h4, h5, h6⟩ := hs i e h1
    exact ⟨h3, h4, rangeAt_same h5 (hw b hb), h6⟩
  | agg cs vs hl hx ih => exact .agg cs vs hl ih

/-- What stands on cells needs only the frozen blocks of cells. -/
theorem RepP.shrink {F F' : Nat → Prop} {w w' : World} (hF : ∀ b, F b → CellAt w b → F' b) (hw : ∀ b, F b → CellAt w b → w'.heap[b]? = w.heap[b]?) {x : PV} {v : Value} (h : RepP F w x v) : RepP F' w' x v := by
  induction h with
  | val v => exact .val v
  | sl els a c b o sz vv hc ha hs hx ih =>
    refine .sl els a c b o sz vv hc (fun h => ⟨(ha h).1, hF _ (ha h).2.1 (ha h).2.2, by have h2 := (ha h).2; simp only [CellAt, hw b h2.1 h2.2]; exact h2.2⟩) (fun i e h1 => ?_) ih
    have hb := (ha (by have := (List.getElem?_eq_some_iff.1 h1).1; omega)).2
    obtain ⟨h3, h4, h5, h6⟩ := hs i e h1
    exact ⟨h3, h4, rangeAt_same h5 (hw b hb.1 hb.2), h6⟩
  | agg cs vs hl hx ih => exact .agg cs vs hl ih

inductive RepA (β : Pl) (F : Nat → Prop) (w : World) : AV → Value → Prop
  | top (v : Value) : RepA β F w .top v
  | p (x : PV) (v : Value) (h : RepP F w x v) : RepA β F w (.p x) v
  | ownNil (id sz n : Nat) (bi : BI) (hb : β id = some bi) (h : bi.nil = true) (hn : n = 0) : RepA β F w (.own id sz n) (.slice none 0 0)
  | own (id sz n : Nat) (bi : BI) (hb : β id = some bi) (h : bi.nil = false) (hz : sz = bi.sz) (hn : n = bi.n) (hc : n ≤ bi.cap) : RepA β F w (.own id sz n) (.slice (some ⟨bi.b, bi.o, none⟩) n bi.cap)
  | win (id sz off n c : Nat) (bi : BI) (hb : β id = some bi) (h : bi.nil = false) (hz : sz = bi.sz) (hc : off + c ≤ bi.cap) (hn : n ≤ c) (ho : off + n ≤ bi.n) : RepA β F w (.win id sz off n) (.slice (some ⟨bi.b, bi.o + off * bi.sz, none⟩) n c)
  | ptr (id i j : Nat) (bi : BI) (hb : β id = some bi) (h : bi.nil = false) : RepA β F w (.ptr id i j) (.pointer (some ⟨bi.b, bi.o + i * bi.sz + j, none⟩))
  | cell (cs : List PV) (b o : Nat) (vs : List Value) (hF : 0 < cs.length → F b) (hl : cs.length = vs.length) (hr : w.rangeAt b o vs) (h1 : ∀ v ∈ vs, v.oneCell' = true)
      (hx : ∀ (k : Nat) (x : PV) (y : Value), cs[k]? = some x → vs[k]? = some y → RepP F w x y) : RepA β F w (.cell cs) (.pointer (some ⟨b, o, none⟩))
  | agg (cs : List AV) (vs : List Value) (hl : cs.length = vs.length) (hx : ∀ (k : Nat) (x : AV) (y : Value), cs[k]? = some x → vs[k]? = some y → RepA β F w x y) : RepA β F w (.agg cs) (.agg vs.toArray)
  | tup (cs : List AV) (vs : List Value) (hl : cs.length = vs.length) (hx : ∀ (k : Nat) (x : AV) (y : Value), cs[k]? = some x → vs[k]? = some y → RepA β F w x y) : RepA β F w (.tup cs) (.tuple vs.toArray)
  | clo (f : FuncId) (cs : List AV) (vs : List Value) (hl : cs.length = vs.length) (hx : ∀ (k : Nat) (x : AV) (y : Value), cs[k]? = some x → vs[k]? = some y → RepA β F w x y) : RepA β F w (.clo f cs) (.func (.func f) #[] vs.toArray)

theorem RepA.mono {β β' : Pl} {F F' : Nat → Prop} {w w' : World} (hβ : ∀ id bi, β id = some bi → β' id = some bi) (hF : ∀ b, F b → F' b) (hw : ∀ b, F b → w'.heap[b]? = w.heap[b]?) {x : AV} {v : Value} (h : RepA β F w x v) : RepA β' F' w' x v := by
  induction h with
  | top v => exact .top v
  | p x v h => exact .p x v (h.mono hF hw)
  | ownNil id sz n bi hb h hn => exact .ownNil id sz n bi (hβ _ _ hb) h hn
  | own id sz n bi hb h hz hn hc => exact .own id sz n bi (hβ _ _ hb) h hz hn hc
  | win id sz off n c bi hb h hz hc hn ho => exact .win id sz off n c bi (hβ _ _ hb) h hz hc hn ho
  | ptr id i j bi hb h => exact .ptr id i j bi (hβ _ _ hb) h
  | cell cs b o vs hF' hl hr h1 hx =>
    by_cases h0 : 0 < cs.length
    · exact .cell cs b o vs (fun h => hF _ (hF' h)) hl (rangeAt_same hr (hw b (hF' h0))) h1 (fun k x y h2 h3 => (hx k x y h2 h3).mono hF hw)
    · have : vs = [] := List.eq_nil_of_length_eq_zero (by omega)
      subst this
      exact .cell cs b o [] (fun h => hF _ (hF' h)) hl (fun j v h => by simp at h) h1 (fun k x y h2 h3 => by simp at h3)
  | agg cs vs hl hx ih => exact .agg cs vs hl ih
  | tup cs vs hl hx ih => exact .tup cs vs hl ih
  | clo f cs vs hl hx ih => exact .clo f cs vs hl ih

theorem RepA.shrink {β : Pl} {F F' : Nat → Prop} {w w' : World} (hF : ∀ b, F b → CellAt w b → F' b) (hw : ∀ b, F b → CellAt w b → w'.heap[b]? = w.heap[b]?) {x : AV} {v : Value} (h : RepA β F w x v) : RepA β F' w' x v := by
  induction h with
  | top v => exact .top v
  | p x v h => exact .p x v (h.shrink hF hw)
  | ownNil id sz n bi hb h hn => exact .ownNil id sz n bi hb h hn
  | own id sz n bi hb h hz hn hc => exact .own id sz n bi hb h hz hn hc
  | win id sz off n c bi hb h hz hc hn ho => exact .win id sz off n c bi hb h hz hc hn ho
  | ptr id i j bi hb h => exact .ptr id i j bi hb h
  | cell cs b o vs hF' hl hr h1 hx =>
    by_cases h0 : 0 < cs.length
    · have hC := CellAt.of_range hr (by omega)
      exact .cell cs b o vs (fun h => hF _ (hF' h) hC) hl (rangeAt_same hr (hw b (hF' h0) hC)) h1 (fun k x y h2 h3 => (hx k x y h2 h3).shrink hF hw)
    · have : vs = [] := List.eq_nil_of_length_eq_zero (by omega)
      subst this
      exact .cell cs b o [] (fun h => absurd h h0) hl (fun j v h => by simp at h) h1 (fun k x y h2 h3 => by simp at h3)
  | agg cs vs hl hx ih => exact .agg cs vs hl ih
  | tup cs vs hl hx ih => exact .tup cs vs hl ih
  | clo f cs vs hl hx ih => exact .clo f cs vs hl ih

/-! ### Memory of ours -/
inductive Blk where
  | box (cs : List AV)
  | row (sz : Nat) (els : List (List PV)) (own : Bool)
abbrev Mem := Nat → Option Blk

/-- The rows of a block in the world. -/
def RowsAt (F : Nat → Prop) (w : World) (b o sz : Nat) (els : List (List PV)) : Prop :=
  ∃ vv : Nat → List Value, ∀ (i : Nat) (e : List PV), els[i]? = some e → e.length = sz ∧ (vv i).length = sz ∧ w.rangeAt b (o + i * sz) (vv i) ∧ (∀ v ∈ vv i, v.oneCell' = true) ∧
    ∀ (j : Nat) (x : PV) (y : Value), e[j]? = some x → (vv i)[j]? = some y → RepP F w x y

/-- The block's cells are there and may be written. -/
def Room (w : World) (bi : BI) : Prop := ∃ c e, w.heap[bi.b]? = some (.cells c e (0, 0)) ∧ bi.o + bi.cap * bi.sz ≤ c.size

inductive BlkOK (β : Pl) (F : Nat → Prop) (w : World) (bi : BI) : Blk → Prop
  | nil (sz : Nat) (h : bi.nil = true) (hn : bi.n = 0) (own : Bool) : BlkOK β F w bi (.row sz [] own)
  | row (sz : Nat) (els : List (List PV)) (own : Bool) (h : bi.nil = false) (hz : bi.sz = sz) (hn : bi.n = els.length) (hc : bi.n ≤ bi.cap) (hr : Room w bi) (hs : RowsAt F w bi.b bi.o bi.sz els)
      (ho : own = true → ¬ F bi.b) (hf : own = false → F bi.b) : BlkOK β F w bi (.row sz els own)
  | box (cs : List AV) (vs : List Value) (h : bi.nil = false) (hn : bi.sz = cs.length) (hc : bi.cap = 1) (hn1 : bi.n = 1) (hr : Room w bi) (hl : cs.length = vs.length) (hv : w.rangeAt bi.b bi.o vs) (h1 : ∀ v ∈ vs, v.oneCell' = true)
      (hx : ∀ (k : Nat) (x : AV) (y : Value), cs[k]? = some x → vs[k]? = some y → RepA β F w x y) (hF : ¬ F bi.b) : BlkOK β F w bi (.box cs)

structure MemOK (m : Mem) (β : Pl) (F : Nat → Prop) (w : World) : Prop where
  ok : ∀ id B, m id = some B → ∃ bi, β id = some bi ∧ BlkOK β F w bi B
  inj : ∀ id id' B B' bi bi', id ≠ id' → m id = some B → m id' = some B' → β id = some bi → β id' = some bi' → bi.nil = false → bi'.nil = false → bi.b ≠ bi'.b
  lt : ∀ b, F b → b < w.heap.size

theorem RowsAt.mono {F F' : Nat → Prop} {w w' : World} {b o sz : Nat} {els : List (List PV)} (hF : ∀ b, F b → F' b) (hw : ∀ b, F b → w'.heap[b]? = w.heap[b]?) (hb : w'.heap[b]? = w.heap[b]?) (h : RowsAt F w b o sz els) : RowsAt F' w' b o sz els := by
  obtain ⟨vv, h⟩ := h
  refine ⟨vv, fun i e he => ?_⟩
  obtain ⟨h1, h2, h3, h4, h5⟩ := h i e he
  exact ⟨h1, h2, rangeAt_same h3 hb, h4, fun j x y hx hy => (h5 j x y hx hy).mono hF hw⟩
theorem RowsAt.shrink {F F' : Nat → Prop} {w w' : World} {b o sz : Nat} {els : List (List PV)} (hF : ∀ b, F b → CellAt w b → F' b) (hw : ∀ b, F b → CellAt w b → w'.heap[b]? = w.heap[b]?) (hb : w'.heap[b]? = w.heap[b]?) (h : RowsAt F w b o sz els) : RowsAt F' w' b o sz els := by
  obtain ⟨vv, h⟩ := h
  refine ⟨vv, fun i e he => ?_⟩
  obtain ⟨h1, h2, h3, h4, h5⟩ := h i e he
  exact ⟨h1, h2, rangeAt_same h3 hb, h4, fun j x y hx hy => (h5 j x y hx hy).shrink hF hw⟩
theorem Room.cell {w : World} {bi : BI} (h : Room w bi) : CellAt w bi.b := by
  obtain ⟨c, e, h1, h2⟩ := h
  exact ⟨c, e, _, h1⟩
theorem Room.mono {w w' : World} {bi : BI} (hb : w'.heap[bi.b]? = w.heap[bi.b]?) (h : Room w bi) : Room w' bi := by
  obtain ⟨c, e, h1, h2⟩ := h
  exact ⟨c, e, hb.trans h1, h2⟩
theorem BlkOK.mono {β β' : Pl} {F F' : Nat → Prop} {w w' : World} {bi : BI} {B : Blk} (hβ : ∀ id bi, β id = some bi → β' id = some bi) (hF : ∀ b, F b → F' b) (hw : ∀ b, F b → w'.heap[b]? = w.heap[b]?)
    (hb : bi.nil = false → w'.heap[bi.b]? = w.heap[bi.b]?) (hn : bi.nil = false → ¬ F bi.b → ¬ F' bi.b) (h : BlkOK β F w bi B) : BlkOK β' F' w' bi B := by
  cases h with
  | nil sz h hn own => exact .nil sz h hn own
  | row sz els own h hz hn' hc hr hs ho hf => exact .row sz els own h hz hn' hc (hr.mono (hb h)) (hs.mono hF hw (hb h)) (fun q => hn h (ho q)) (fun q => hF _ (hf q))
  | box cs vs h hn' hc hn1 hr hl hv h1 hx hF' => exact .box cs vs h hn' hc hn1 (hr.mono (hb h)) hl (rangeAt_same hv (hb h)) h1 (fun k x y h2 h3 => (hx k x y h2 h3).mono hβ hF hw) (hn h hF')
theorem BlkOK.room {β : Pl} {F : Nat → Prop} {w : World} {bi : BI} {B : Blk} (h : BlkOK β F w bi B) (hn : bi.nil = false) : Room w bi := by
  cases h with
  | nil _ h _ _ => rw [hn] at h; cases h
  | row sz els own h hz hn' hc hr hs ho hf => exact hr
  | box cs vs h hn' hc hn1 hr hl hv h1 hx hF' => exact hr
theorem BlkOK.shrink {β : Pl} {F F' : Nat → Prop} {w w' : World} {bi : BI} {B : Blk} (hF : ∀ b, F b → CellAt w b → F' b) (hb' : ∀ b, F' b → F b) (hw : ∀ b, F b → CellAt w b → w'.heap[b]? = w.heap[b]?)
    (hb : bi.nil = false → w'.heap[bi.b]? = w.heap[bi.b]?) (h : BlkOK β F w bi B) : BlkOK β F' w' bi B := by
  cases h with
  | nil sz h hn own => exact .nil sz h hn own
  | row sz els own h hz hn' hc hr hs ho hf => exact .row sz els own h hz hn' hc (hr.mono (hb h)) (hs.shrink hF hw (hb h)) (fun q q' => ho q (hb' _ q')) (fun q => hF _ (hf q) hr.cell)
  | box cs vs h hn' hc hn1 hr hl hv h1 hx hF' => exact .box cs vs h hn' hc hn1 (hr.mono (hb h)) hl (rangeAt_same hv (hb h)) h1 (fun k x y h2 h3 => (hx k x y h2 h3).shrink hF hw) (fun q => hF' (hb' _ q))
/-- Frames' marks of loops over functions: blocks for deferred calls, none of them in use. -/
def Marks (a : Act) (F : Nat → Prop) (w : World) : Prop := a.defers.Pairwise (fun x y => x ≠ y) ∧ ∀ d ∈ a.defers, ∃ D, d = { target := .collected D, args := #[] } ∧ F D ∧ w.heap[D]? = some (.deferred (some []))
theorem Marks.nil {a : Act} {F : Nat → Prop} {w : World} (h : a.defers = []) : Marks a F w := ⟨by rw [h]; exact .nil, fun d hd => by rw [h] at hd; cases hd⟩
theorem Marks.step {a a' : Act} {F F' : Nat → Prop} {w w' : World} (h : Marks a F w) (ha : a'.defers = a.defers) (hF : ∀ b, F b → F' b) (hw : ∀ b, F b → w'.heap[b]? = w.heap[b]?) : Marks a' F' w' := ⟨by rw [ha]; exact h.1, fun d hd => by
  rw [ha] at hd
  obtain ⟨D, h1, h2, h3⟩ := h.2 d hd
  exact ⟨D, h1, hF _ h2, (hw D h2).trans h3⟩⟩
theorem BlkOK.lt {β : Pl} {F : Nat → Prop} {w : World} {bi : BI} {B : Blk} (h : BlkOK β F w bi B) (hn : bi.nil = false) : bi.b < w.heap.size := by
  have : Room w bi := by
    cases h with
    | nil _ h _ _ => rw [hn] at h; cases h
    | row sz els own h hz hn' hc hr hs ho hf => exact hr
    | box cs vs h hn' hc hn1 hr hl hv h1 hx hF' => exact hr
  obtain ⟨c, e, h1, _⟩ := this
  exact (Array.getElem?_eq_some_iff.1 h1).1
end Go.Am

set_option linter.unusedVariables false
namespace Go.Am
open Go

def splice {α : Type} (cs : List α) (j : Nat) (vs : List α) : List α := cs.take j ++ vs ++ cs.drop (j + vs.length)
theorem splice_length {α : Type} (cs : List α) (j : Nat) (vs : List α) (h : j + vs.length ≤ cs.length) : (splice cs j vs).length = cs.length := by
  simp only [splice, List.length_append, List.length_take, List.length_drop]; omega
theorem splice_in {α : Type} (cs : List α) (j : Nat) (vs : List α) (h : j + vs.length ≤ cs.length) (k : Nat) (h1 : j ≤ k) (h2 : k < j + vs.length) : (splice cs j vs)[k]? = vs[k - j]? := by
  have e : (cs.take j).length = j := by rw [List.length_take]; omega
  rw [splice, List.append_assoc, List.getElem?_append_right (by omega), e, List.getElem?_append_left (by omega)]
theorem splice_out {α : Type} (cs : List α) (j : Nat) (vs : List α) (h : j + vs.length ≤ cs.length) (k : Nat) (h1 : k < j ∨ j + vs.length ≤ k) : (splice cs j vs)[k]? = cs[k]? := by
  have e : (cs.take j).length = j := by rw [List.length_take]; omega
  rcases h1 with h1 | h1
  · rw [splice, List.append_assoc, List.getElem?_append_left (by omega), List.getElem?_take_of_lt h1]
  · rw [splice, List.getElem?_append_right (by rw [List.length_append]; omega), List.length_append, e, List.getElem?_drop]
    congr 1; omega

inductive Wr where
  | box (id j : Nat) (vs : List AV)
  | elem (id i : Nat) (e : List PV)
  | all (id : Nat) (els : List (List PV))
def Wr.id : Wr → Nat
  | .box id _ _ => id
  | .elem id _ _ => id
  | .all id _ => id

structure Delta where
  v : AV := .top
  rd : List Nat := []
  wr : Option Wr := none
  news : List Blk := []
  kill : List Nat := []
  frz : List Nat := []

/-- What an operation does to the block of one name. -/
def Wr.act : Option Wr → Nat → Blk → Blk
  | some (.box id j vs), k, .box cs => if k = id then .box (splice cs j vs) else .box cs
  | some (.elem id i e), k, .row sz els o => if k = id then .row sz (els.set i e) o else .row sz els o
  | some (.all id els'), k, .row sz els o => if k = id then .row sz els' o else .row sz els o
  | _, _, B => B
def Blk.freeze : Blk → Blk
  | .row sz els _ => .row sz els false
  | B => B
def Delta.act (d : Delta) (nid k : Nat) (B : Option Blk) : Option Blk :=
  if nid ≤ k ∧ k < nid + d.news.length then d.news[k - nid]?
  else if d.kill.contains k then none
  else match B with
    | none => none
    | some B => some (if d.frz.contains k then (Wr.act d.wr k B).freeze else Wr.act d.wr k B)
def Delta.mem (d : Delta) (nid : Nat) (m : Mem) : Mem := fun k => d.act nid k (m k)

def Delta.tch (d : Delta) : List Nat := (match d.wr with | some x => [x.id] | none => []) ++ d.kill

/-- The names that an operation lays hands on are ours, and of the right shape. -/
structure Fits (d : Delta) (nid : Nat) (m : Mem) : Prop where
  box : ∀ id j vs, d.wr = some (.box id j vs) → ∃ cs, m id = some (.box cs) ∧ j + vs.length ≤ cs.length
  elem : ∀ id i e, d.wr = some (.elem id i e) → ∃ sz els, m id = some (.row sz els true) ∧ i < els.length
  all : ∀ id els', d.wr = some (.all id els') → ∃ sz els, m id = some (.row sz els true) ∧ els'.length = els.length
  kill : ∀ id ∈ d.kill, ∃ sz els, m id = some (.row sz els true)
  frz : ∀ id ∈ d.frz, ∃ sz els o, m id = some (.row sz els o)
  fresh : ∀ k, k < d.news.length → m (nid + k) = none
  apart : ∀ id ∈ d.tch, id ∉ d.frz
  wk : ∀ x, d.wr = some x → x.id ∉ d.kill

structure Eff (d : Delta) (nid : Nat) (β : Pl) (F : Nat → Prop) (w : World) (v : Value) (β' : Pl) (F' : Nat → Prop) (w' : World) : Prop where
  os : w'.os = w.os
  tape : w'.tape = w.tape
  output : w'.output = w.output
  size : w.heap.size ≤ w'.heap.size
  ext : ∀ id bi, β id = some bi → β' id = some bi
  dom : ∀ id, β id = none → (id < nid ∨ nid + d.news.length ≤ id) → β' id = none
  keep : ∀ k, k < w.heap.size → (∀ id ∈ d.tch, ∀ bi, β id = some bi → bi.nil = false → bi.b ≠ k) → w'.heap[k]? = w.heap[k]?
  Fm : ∀ b, F b → F' b
  Fn : ∀ b, F' b → F b ∨ (w.heap.size ≤ b ∧ b < w'.heap.size) ∨ ∃ id ∈ d.frz, ∃ bi, β id = some bi ∧ bi.nil = false ∧ bi.b = b
  Fz : ∀ id ∈ d.frz, ∀ bi, β id = some bi → bi.nil = false → F' bi.b
  val : RepA β' F' w' d.v v
  news : ∀ k B, d.news[k]? = some B → ∃ bi, β' (nid + k) = some bi ∧ BlkOK β' F' w' bi B ∧ (bi.nil = false → w.heap.size ≤ bi.b ∨ ∃ id ∈ d.kill, ∃ b0, β id = some b0 ∧ b0.nil = false ∧ b0.b = bi.b)
  inj : ∀ k l bi bj, k ≠ l → k < d.news.length → l < d.news.length → β' (nid + k) = some bi → β' (nid + l) = some bj → bi.nil = false → bj.nil = false → bi.b ≠ bj.b
  box : ∀ id j vs, d.wr = some (.box id j vs) → ∀ bi, β id = some bi → bi.nil = false →
    Room w' bi ∧ (∀ o us, w.rangeAt bi.b o us → (o + us.length ≤ bi.o + j ∨ bi.o + j + vs.length ≤ o) → w'.rangeAt bi.b o us) ∧
    ∃ ys : List Value, vs.length = ys.length ∧ w'.rangeAt bi.b (bi.o + j) ys ∧ (∀ y ∈ ys, y.oneCell' = true) ∧ ∀ (k : Nat) (x : AV) (y : Value), vs[k]? = some x → ys[k]? = some y → RepA β' F' w' x y
  elem : ∀ id i e, d.wr = some (.elem id i e) → ∀ bi, β id = some bi → bi.nil = false →
    Room w' bi ∧ e.length = bi.sz ∧ (∀ o us, w.rangeAt bi.b o us → (o + us.length ≤ bi.o + i * bi.sz ∨ bi.o + i * bi.sz + bi.sz ≤ o) → w'.rangeAt bi.b o us) ∧
    ∃ ys : List Value, e.length = ys.length ∧ w'.rangeAt bi.b (bi.o + i * bi.sz) ys ∧ (∀ y ∈ ys, y.oneCell' = true) ∧ ∀ (k : Nat) (x : PV) (y : Value), e[k]? = some x → ys[k]? = some y → RepP F' w' x y
  all : ∀ id els, d.wr = some (.all id els) → ∀ bi, β id = some bi → bi.nil = false → Room w' bi ∧ RowsAt F' w' bi.b bi.o bi.sz els

theorem mem_tch_wr {d : Delta} {x : Wr} (h : d.wr = some x) : x.id ∈ d.tch := by simp [Delta.tch, h]
theorem mem_tch_kill {d : Delta} {id : Nat} (h : id ∈ d.kill) : id ∈ d.tch := by simp [Delta.tch, h]

theorem Fits.own {d : Delta} {nid : Nat} {m : Mem} (hf : Fits d nid m) {id : Nat} (h : id ∈ d.tch) : (∃ cs, m id = some (.box cs)) ∨ ∃ sz els, m id = some (.row sz els true) := by
  simp only [Delta.tch, List.mem_append] at h
  rcases h with h | h
  · cases hw : d.wr with
    | none => simp [hw] at h
    | some x =>
      have hid : id = x.id := by simpa [hw] using h
      subst hid
      cases x with
      | box id j vs => obtain ⟨cs, h1, _⟩ := hf.box id j vs hw; exact .inl ⟨cs, h1⟩
      | elem id i e => obtain ⟨sz, els, h1, _⟩ := hf.elem id i e hw; exact .inr ⟨sz, els, h1⟩
      | all id els' => obtain ⟨sz, els, h1, _⟩ := hf.all id els' hw; exact .inr ⟨sz, els, h1⟩
  · obtain ⟨sz, els, h1⟩ := hf.kill id h; exact .inr ⟨sz, els, h1⟩

/-- A block that is ours and not nil is no frozen one. -/
theorem BlkOK.notF {β : Pl} {F : Nat → Prop} {w : World} {bi : BI} {B : Blk} (h : BlkOK β F w bi B) (hn : bi.nil = false) (ho : (∃ cs, B = .box cs) ∨ ∃ sz els, B = .row sz els true) : ¬ F bi.b := by
  cases h with
  | nil _ h _ _ => rw [hn] at h; cases h
  | row sz els own h hz hn' hc hr hs ho' hf =>
    rcases ho with ⟨cs, h⟩ | ⟨sz', els', h⟩
    · cases h
    · cases h; exact ho' rfl
  | box cs vs h hn' hc hn1 hr hl hv h1 hx hF' => exact hF'

theorem MemOK.step {m : Mem} {β β' : Pl} {F F' : Nat → Prop} {w w' : World} {d : Delta} {nid : Nat} {v : Value} (hm : MemOK m β F w) (hf : Fits d nid m) (hfr : ∀ k, k < d.news.length → β (nid + k) = none)
    (he : Eff d nid β F w v β' F' w') : MemOK (d.mem nid m) β' F' w' := by
  -- frozen memory is as it was
  have hFk : ∀ b, F b → w'.heap[b]? = w.heap[b]? := fun b hb => he.keep b (hm.lt b hb) (fun id hid bi hbi hn hbb => by
    subst hbb
    rcases hf.own hid with ⟨cs, h⟩ | ⟨sz, els, h⟩
    · obtain ⟨bi', h1, h2⟩ := hm.ok _ _ h
      rw [h1] at hbi; cases hbi
      exact h2.notF hn (.inl ⟨_, rfl⟩) hb
    · obtain ⟨bi', h1, h2⟩ := hm.ok _ _ h
      rw [h1] at hbi; cases hbi
      exact h2.notF hn (.inr ⟨_, _, rfl⟩) hb)
  -- a block of ours that is not touched is as it was
  have hOk : ∀ id B bi, m id = some B → β id = some bi → bi.nil = false → id ∉ d.tch → w'.heap[bi.b]? = w.heap[bi.b]? := fun id B bi h1 h2 hn ht => by
    obtain ⟨bi', h3, h4⟩ := hm.ok _ _ h1
    rw [h3] at h2; cases h2
    refine he.keep _ (h4.lt hn) (fun id' hid' bi' hbi' hn' hbb => ?_)
    have hne : id' ≠ id := fun h => ht (h ▸ hid')
    rcases hf.own hid' with ⟨cs, h⟩ | ⟨sz, els, h⟩
    · exact hm.inj _ _ _ _ _ _ hne h h1 hbi' h3 hn' hn hbb
    · exact hm.inj _ _ _ _ _ _ hne h h1 hbi' h3 hn' hn hbb
  -- who was ours and is not frozen now stays ours
  have hnF : ∀ id B bi, m id = some B → β id = some bi → bi.nil = false → id ∉ d.frz → ¬ F bi.b → ¬ F' bi.b := fun id B bi h1 h2 hn hz hnf hF' => by
    obtain ⟨bi', h3, h4⟩ := hm.ok _ _ h1
    rw [h3] at h2; cases h2
    rcases he.Fn _ hF' with h | ⟨h, _⟩ | ⟨id', hid', b0, h5, h6, h7⟩
    · exact hnf h
    · have := h4.lt hn; omega
    · obtain ⟨sz, els, o, h8⟩ := hf.frz id' hid'
      have hne : id' ≠ id := fun h => hz (h ▸ hid')
      exact hm.inj _ _ _ _ _ _ hne h8 h1 h5 h3 h6 hn h7
  have old : ∀ id B', (¬ (nid ≤ id ∧ id < nid + d.news.length)) → d.mem nid m id = some B' → id ∉ d.kill ∧ ∃ B, m id = some B ∧ B' = (if d.frz.contains id then (Wr.act d.wr id B).freeze else Wr.act d.wr id B) := by
    intro id B' hnn h
    simp only [Delta.mem, Delta.act, if_neg hnn] at h
    by_cases hk : id ∈ d.kill
    · simp [hk] at h
    · refine ⟨hk, ?_⟩
      rw [if_neg (by simpa using hk)] at h
      cases hB : m id with
      | none => simp [hB] at h
      | some B => simp only [hB, Option.some.injEq] at h; exact ⟨B, rfl, h.symm⟩
  refine ⟨?_, ?_, ?_⟩
  · intro id B' h
    by_cases hnn : nid ≤ id ∧ id < nid + d.news.length
    · simp only [Delta.mem, Delta.act, if_pos hnn] at h
      obtain ⟨bi, h1, h2, _⟩ := he.news _ _ h
      rw [show nid + (id - nid) = id by omega] at h1
      exact ⟨bi, h1, h2⟩
    · obtain ⟨hk, B, hB, rfl⟩ := old id B' hnn h
      obtain ⟨bi, hbi, hok⟩ := hm.ok _ _ hB
      refine ⟨bi, he.ext _ _ hbi, ?_⟩
      by_cases hz : id ∈ d.frz
      · -- frozen
        rw [if_pos (by simpa using hz)]
        have ht : id ∉ d.tch := fun h => hf.apart id h hz
        have hwr : Wr.act d.wr id B = B := by
          cases hw : d.wr with
          | none => cases B <;> rfl
          | some x =>
            have hne : id ≠ x.id := fun h => ht (h ▸ mem_tch_wr hw)
            cases x <;> cases B <;> simp_all [Wr.act, Wr.id]
        rw [hwr]
        obtain ⟨sz, els, o, h8⟩ := hf.frz id hz
        rw [hB] at h8; cases h8
        simp only [Blk.freeze]
        cases hok with
        | nil sz hnil hn0 own => exact .nil sz hnil hn0 false
        | row sz els own h hzz hn' hc hr hs ho hf' =>
          have hb := hOk id _ bi hB hbi h ht
          exact .row sz els false h hzz hn' hc (hr.mono hb) (hs.mono he.Fm hFk hb) (fun q => by cases q) (fun _ => he.Fz id hz bi hbi h)
      · rw [if_neg (by simpa using hz)]
        by_cases ht : id ∈ d.tch
        · -- written
          simp only [Delta.tch, List.mem_append] at ht
          rcases ht with ht | ht
          case inr => exact absurd ht hk
          cases hw : d.wr with
          | none => simp [hw] at ht
          | some x =>
            have hid : id = x.id := by simpa [hw] using ht
            cases x with
            | box id' j vs =>
              simp only [Wr.id] at hid; subst hid
              obtain ⟨cs, h1, h2⟩ := hf.box _ _ _ hw
              rw [hB] at h1; cases h1
              simp only [Wr.act, if_true]
              cases hok with
              | box cs us h hn' hc hn1 hr hl hv h1 hx hF' =>
                obtain ⟨e1, e2, ys, e3, e4, e5, e6⟩ := he.box _ _ _ hw bi hbi h
                have hul : us.length = cs.length := hl.symm
                refine .box _ (splice us j ys) h (by rw [splice_length _ _ _ h2]; exact hn') hc hn1 e1 (by rw [splice_length _ _ _ h2, splice_length _ _ _ (by omega)]; exact hl) ?_ ?_ ?_ (hnF id _ bi hB hbi h hz hF')
                · intro k y hy
                  have hsl := splice_length us j ys (by omega)
                  have hk : k < us.length := by have := (List.getElem?_eq_some_iff.1 hy).1; omega
                  by_cases hin : j ≤ k ∧ k < j + ys.length
                  · rw [splice_in us j ys (by omega) k hin.1 hin.2] at hy
                    have := e4 (k - j) y hy
                    rw [show bi.o + j + (k - j) = bi.o + k by omega] at this
                    exact this
                  · rw [splice_out us j ys (by omega) k (by omega)] at hy
                    have := e2 (bi.o + k) [y] (fun q z hz => by
                      cases q with
                      | zero => simp at hz; subst hz; exact hv k _ hy
                      | succ q => simp at hz) (by simp; omega)
                    exact this 0 y rfl
                · intro y hy
                  simp only [splice, List.mem_append] at hy
                  rcases hy with (hy | hy) | hy
                  · exact h1 y (List.mem_of_mem_take hy)
                  · exact e5 y hy
                  · exact h1 y (List.mem_of_mem_drop hy)
                · intro k x y hx' hy'
                  by_cases hin : j ≤ k ∧ k < j + ys.length
                  · rw [splice_in us j ys (by omega) k hin.1 hin.2] at hy'
                    rw [splice_in cs j vs (by omega) k hin.1 (by omega)] at hx'
                    exact e6 _ _ _ hx' hy'
                  · rw [splice_out us j ys (by omega) k (by omega)] at hy'
                    rw [splice_out cs j vs (by omega) k (by omega)] at hx'
                    exact (hx _ _ _ hx' hy').mono he.ext he.Fm hFk
            | elem id' i e =>
              simp only [Wr.id] at hid; subst hid
              obtain ⟨sz, els, h1, h2⟩ := hf.elem _ _ _ hw
              rw [hB] at h1; cases h1
              simp only [Wr.act, if_true]
              cases hok with
              | nil sz h hn own => simp at h2
              | row sz els own h hzz hn' hc hr hs ho hf' =>
                obtain ⟨e1, e0, e2, ys, e3, e4, e5, e6⟩ := he.elem _ _ _ hw bi hbi h
                refine .row _ _ true h hzz (by simpa using hn') hc e1 ?_ (fun _ => hnF id _ bi hB hbi h hz (ho rfl)) (fun q => by cases q)
                obtain ⟨vv, hvv⟩ := hs
                refine ⟨fun k => if k = i then ys else vv k, fun k el hel => ?_⟩
                by_cases hki : k = i
                · subst hki
                  rw [List.getElem?_set_self (by omega)] at hel
                  cases hel
                  simp only [if_true]
                  exact ⟨e0, by omega, e4, e5, e6⟩
                · rw [List.getElem?_set_ne (Ne.symm hki)] at hel
                  obtain ⟨f1, f2, f3, f4, f5⟩ := hvv k el hel
                  simp only [if_neg hki]
                  refine ⟨f1, f2, e2 _ _ f3 ?_, f4, fun j x y hx hy => (f5 j x y hx hy).mono he.Fm hFk⟩
                  rw [f2]
                  rcases Nat.lt_or_gt_of_ne hki with hlt | hgt
                  · left
                    have : k * bi.sz + bi.sz ≤ i * bi.sz := by rw [← Nat.succ_mul]; exact Nat.mul_le_mul_right _ hlt
                    omega
                  · right
                    have : i * bi.sz + bi.sz ≤ k * bi.sz := by rw [← Nat.succ_mul]; exact Nat.mul_le_mul_right _ hgt
                    omega
            | all id' els' =>
              simp only [Wr.id] at hid; subst hid
              obtain ⟨sz, els, h1, h2⟩ := hf.all _ _ hw
              rw [hB] at h1; cases h1
              simp only [Wr.act, if_true]
              cases hok with
              | nil sz hnil hn0 own =>
                have : els' = [] := List.eq_nil_of_length_eq_zero (by simpa using h2)
                subst this
                exact .nil sz hnil hn0 true
              | row sz els own h hzz hn' hc hr hs ho hf' =>
                obtain ⟨e1, e2⟩ := he.all _ _ hw bi hbi h
                exact .row _ _ true h hzz (by omega) hc e1 e2 (fun _ => hnF id _ bi hB hbi h hz (ho rfl)) (fun q => by cases q)
        · have hwr : Wr.act d.wr id B = B := by
            cases hw : d.wr with
            | none => cases B <;> rfl
            | some x =>
              have hne : id ≠ x.id := fun h => ht (h ▸ mem_tch_wr hw)
              cases x <;> cases B <;> simp_all [Wr.act, Wr.id]
          rw [hwr]
          exact hok.mono he.ext he.Fm hFk (fun hn => hOk id B bi hB hbi hn ht) (fun hn hnf => hnF id B bi hB hbi hn hz hnf)
  · intro id id' B B' bi bi' hne h h' hbi hbi' hn hn'
    by_cases hnn : nid ≤ id ∧ id < nid + d.news.length
    · simp only [Delta.mem, Delta.act, if_pos hnn] at h
      obtain ⟨bi0, h1, h2, h3⟩ := he.news _ _ h
      rw [show nid + (id - nid) = id by omega] at h1
      rw [h1] at hbi; cases hbi
      by_cases hnn' : nid ≤ id' ∧ id' < nid + d.news.length
      · exact he.inj (id - nid) (id' - nid) _ _ (by omega) (by omega) (by omega) (by rw [show nid + (id - nid) = id by omega]; exact h1) (by rw [show nid + (id' - nid) = id' by omega]; exact hbi') hn hn'
      · obtain ⟨hk, B0, hB0, _⟩ := old id' B' hnn' h'
        obtain ⟨b0, q1, q2⟩ := hm.ok _ _ hB0
        rw [he.ext _ _ q1] at hbi'; cases hbi'
        rcases h3 hn with h4 | ⟨idk, hidk, bk, r1, r2, r3⟩
        · have := q2.lt hn'; omega
        · obtain ⟨sz, els, hels⟩ := hf.kill idk hidk
          rw [← r3]
          exact hm.inj _ _ _ _ _ _ (fun (e : idk = id') => hk (e ▸ hidk)) hels hB0 r1 q1 r2 hn'
    · obtain ⟨hk, B0, hB0, _⟩ := old id B hnn h
      obtain ⟨b0, q1, q2⟩ := hm.ok _ _ hB0
      rw [he.ext _ _ q1] at hbi; cases hbi
      by_cases hnn' : nid ≤ id' ∧ id' < nid + d.news.length
      · simp only [Delta.mem, Delta.act, if_pos hnn'] at h'
        obtain ⟨bi0, h1, h2, h3⟩ := he.news _ _ h'
        rw [show nid + (id' - nid) = id' by omega] at h1
        rw [h1] at hbi'; cases hbi'
        rcases h3 hn' with h4 | ⟨idk, hidk, bk, r1, r2, r3⟩
        · have := q2.lt hn; omega
        · obtain ⟨sz, els, hels⟩ := hf.kill idk hidk
          rw [← r3]
          exact hm.inj _ _ _ _ _ _ (fun (e : id = idk) => hk (e ▸ hidk)) hB0 hels q1 r1 hn r2
      · obtain ⟨hk', B1, hB1, _⟩ := old id' B' hnn' h'
        obtain ⟨b1, q3, q4⟩ := hm.ok _ _ hB1
        rw [he.ext _ _ q3] at hbi'; cases hbi'
        exact hm.inj _ _ _ _ _ _ hne hB0 hB1 q1 q3 hn hn'
  · intro b hb
    rcases he.Fn b hb with h | ⟨_, h⟩ | ⟨id, hid, bi, h1, h2, h3⟩
    · exact Nat.lt_of_lt_of_le (hm.lt b h) he.size
    · exact h
    · obtain ⟨sz, els, o, h4⟩ := hf.frz id hid
      obtain ⟨bi', h5, h6⟩ := hm.ok _ _ h4
      rw [h5] at h1; cases h1
      subst h3
      exact Nat.lt_of_lt_of_le (h6.lt h2) he.size
end Go.Am

set_option linter.unusedVariables false
namespace Go.Am
open Go

/-! ### Guards, so that closed runs compute -/
def chk (p : Prop) [Decidable p] (K : Prop) : Prop := match decide p with
  | true => K
  | false => False
theorem chk_iff {p : Prop} [Decidable p] {K : Prop} : chk p K ↔ p ∧ K := by
  unfold chk
  by_cases h : p <;> simp [h]
theorem chk_of {p : Prop} [Decidable p] {K : Prop} (h : p) (hk : K) : chk p K := chk_iff.2 ⟨h, hk⟩
def obind {α : Type} (o : Option α) (K : α → Prop) : Prop := match o with
  | some x => K x
  | none => False
theorem obind_iff {α : Type} {o : Option α} {K : α → Prop} : obind o K ↔ ∃ x, o = some x ∧ K x := by
  cases o <;> simp [obind]
theorem obind_of {α : Type} {o : Option α} {K : α → Prop} {x : α} (h : o = some x) (hk : K x) : obind o K := obind_iff.2 ⟨x, h, hk⟩

/-! ### Types -/
inductive TK where
  | int (k : IntKind)
  | bool
  | slice (e : Nat)
  | strct (fs : List (Nat × Nat))
  | arr (n e : Nat)
  | str
  | other
structure TI where
  k : TK
  size : Nat
  bytes : Nat
  zero : List Value
abbrev Tab := Nat → Option TI
def TK.agg : TK → Bool
  | .strct _ => true
  | .arr _ _ => true
  | _ => false
def TK.ok : TK → TypeDesc → Prop
  | .int k, .int k' => k = k'
  | .bool, .bool => True
  | .slice e, .slice e' => e = e'
  | .strct fs, .struct gs => gs.toList.map (fun f => (f.offset, f.type)) = fs
  | .arr n e, .array n' e' => n = n' ∧ e = e'
  | .str, .string => True
  | .other, .struct _ => False
  | .other, .array _ _ => False
  | .other, _ => True
  | _, _ => False
structure TabOK (P : Program) (T : Tab) : Prop where
  info : ∀ t ti, T t = some ti → ∃ i, P.info? t = some i ∧ i.size = ti.size ∧ i.bytes = ti.bytes ∧ (∃ z, i.zero = some z ∧ z.cells.toList = ti.zero ∧ (∀ v ∈ ti.zero, v.oneCell' = true) ∧ ti.zero.length = ti.size)
  und : ∀ t ti, T t = some ti → ∃ d, P.underlying t = some d ∧ ti.k.ok d

noncomputable def nth {α : Type} (l : List α) : Nat → Option α := List.rec (fun _ => none) (fun x _ ih n => Nat.rec (some x) (fun m _ => ih m) n) l
theorem nth_nil {α : Type} (n : Nat) : nth ([] : List α) n = none := rfl
theorem nth_zero {α : Type} (x : α) (r : List α) : nth (x :: r) 0 = some x := rfl
theorem nth_succ {α : Type} (x : α) (r : List α) (n : Nat) : nth (x :: r) (n + 1) = nth r n := rfl
theorem nth_eq {α : Type} (l : List α) (n : Nat) : nth l n = l[n]? := by
  induction l generalizing n with
  | nil => rfl
  | cons x r ih => cases n with
    | zero => rfl
    | succ n => rw [nth_succ, ih n]; rfl
def beqN : Nat → Nat → Bool
  | a, b => Nat.beq a b
noncomputable def contains (l : List Nat) (n : Nat) : Bool := List.rec false (fun x _ ih => match Nat.beq x n with | true => true | false => ih) l
theorem contains_cons (x : Nat) (r : List Nat) (n : Nat) : contains (x :: r) n = (match Nat.beq x n with | true => true | false => contains r n) := rfl

/-! ### Cells of values -/
def AV.cells : AV → Option (List AV)
  | .top => none
  | .p (.agg cs) => some (cs.map .p)
  | .p (.val v) => some (v.cells.toList.map fun u => .p (.val u))
  | .agg cs => some cs
  | x => some [x]
def AV.acells : AV → Option (List AV)
  | .p (.agg cs) => some (cs.map .p)
  | .p (.val (.agg vs)) => some (vs.toList.map fun u => .p (.val u))
  | .agg cs => some cs
  | _ => none
def PV.one : PV → Bool
  | .val v => v.oneCell'
  | .sl _ => true
  | .agg _ => false
def AV.one : AV → Bool
  | .p x => x.one
  | .own .. => true
  | .win .. => true
  | .ptr .. => true
  | .cell _ => true
  | .clo .. => true
  | _ => false
def allOne : List AV → Bool
  | [] => true
  | x :: r => match x.one with | true => allOne r | false => false
/-- A value out of its cells. -/
def mkA (agg : Bool) (cs : List AV) : Option AV :=
  match agg, cs with
  | true, cs => some (.agg cs)
  | false, [x] => some x
  | _, _ => none

/-- By content: what is handed to a callee, or laid into a row. The second part: whose blocks are frozen by it. -/
def AV.pv (mm : Mem) : AV → Option (PV × List Nat)
  | .p (.val v) => match v with
    | .slice none 0 0 => some (.sl [], [])
    | v => some (.val v, [])
  | .p x => some (x, [])
  | .own id _ _ => match mm id with
    | some (.row _ els _) => some (.sl els, [id])
    | _ => none
  | .win id _ off n => match mm id with
    | some (.row _ els _) => some (.sl ((els.drop off).take n), [id])
    | _ => none
  | .agg cs => match pvL mm cs with
    | some (xs, ids) => some (.agg xs, ids)
    | none => none
  | _ => none
 where pvL (mm : Mem) : List AV → Option (List PV × List Nat)
  | [] => some ([], [])
  | x :: r => match AV.pv mm x with
    | none => none
    | some (y, ids) => match pvL mm r with
      | none => none
      | some (ys, ids') => some (y :: ys, ids ++ ids')

/-! ### Results of calls -/
inductive RV where
  | p (x : PV)
  | new (sz : Nat) (els : List (List PV))
/-- Can it lead to memory that came in? -/
def RV.flat : RV → Bool
  | .p (.val _) => true
  | _ => false
def impV : List RV → Nat → List AV × List Blk
  | [], _ => ([], [])
  | .p x :: r, n => let (vs, bs) := impV r n; (.p x :: vs, bs)
  | .new sz els :: r, n => let (vs, bs) := impV r (n + 1); (.own n sz els.length :: vs, .row sz els true :: bs)
def oneOr : List AV → AV
  | [x] => x
  | l => .tup l

abbrev CallRel := FuncId → List PV → (List RV → Prop) → Prop

def valInt (k : IntKind) (n : Int) : AV := .p (.val (.int k n))
def valBool (b : Bool) : AV := .p (.val (.bool b))

def arith (op : BinOp) (kx ky : IntKind) (a b : Int) (k : Delta → Prop) : Prop :=
  match op with
  | .shl => chk (0 ≤ b) (k { v := valInt kx (kx.wrap (a * 2 ^ min b.toNat kx.bits)) })
  | .shr => chk (0 ≤ b) (k { v := valInt kx (a.fdiv (2 ^ min b.toNat kx.bits)) })
  | op => if kx = ky then (match op with
    | .add => k { v := valInt kx (kx.wrap (a + b)) }
    | .sub => k { v := valInt kx (kx.wrap (a - b)) }
    | .mul => k { v := valInt kx (kx.wrap (a * b)) }
    | .quo => chk (b ≠ 0) (k { v := valInt kx (kx.wrap (a.tdiv b)) })
    | .rem => chk (b ≠ 0) (k { v := valInt kx (a.tmod b) })
    | .and => k { v := valInt kx (kx.wrap (BitVec.ofInt kx.bits a &&& BitVec.ofInt kx.bits b).toNat) }
    | .or => k { v := valInt kx (kx.wrap (BitVec.ofInt kx.bits a ||| BitVec.ofInt kx.bits b).toNat) }
    | .xor => k { v := valInt kx (kx.wrap (BitVec.ofInt kx.bits a ^^^ BitVec.ofInt kx.bits b).toNat) }
    | .andNot => k { v := valInt kx (kx.wrap (BitVec.ofInt kx.bits a &&& ~~~BitVec.ofInt kx.bits b).toNat) }
    | .eql => k { v := valBool (a == b) }
    | .neq => k { v := valBool (a != b) }
    | .lss => k { v := valBool (decide (a < b)) }
    | .leq => k { v := valBool (decide (a ≤ b)) }
    | .gtr => k { v := valBool (decide (a > b)) }
    | .geq => k { v := valBool (decide (a ≥ b)) }
    | _ => False) else False

def fillA (place : Nat → Option (Nat × Nat)) (ρ : Operand → AV) : List AV → List (Nat × Operand) → Option (List AV)
  | cells, [] => some cells
  | cells, (i, x) :: r => match place i with
    | none => none
    | some (off, size) => match (ρ x).cells with
      | none => none
      | some cs => match Nat.beq cs.length size, Nat.ble (off + cs.length) cells.length, allOne cs with
        | true, true, true => fillA place ρ (splice cells off cs) r
        | _, _, _ => none

def rowsOf (mm : Mem) (ρ : Operand → AV) (size : Nat) : List (Nat × Operand) → Nat → Option (List (List PV) × List Nat)
  | [], _ => some ([], [])
  | (i, x) :: r, n => match Nat.beq i n, (ρ x).cells with
    | true, some cs => match AV.pv.pvL mm cs with
      | some (ps, ids) => match Nat.beq ps.length size, ps.all PV.one with
        | true, true => match rowsOf mm ρ size r (n + 1) with
          | some (els, ids') => some (ps :: els, ids ++ ids')
          | none => none
        | _, _ => none
      | none => none
    | _, _ => none

def placesL (T : Tab) : List (Nat × Nat) → Option (List (Nat × Nat))
  | [] => some []
  | (off, ty) :: r => match T ty with
    | none => none
    | some ti => match placesL T r with
      | none => none
      | some l => some ((off, ti.size) :: l)

/-- What a slice operand holds: content, whose blocks are read, its elements' size if the name tells it. -/
def AV.slice (mm : Mem) : AV → Option (List (List PV) × List Nat × Option Nat)
  | .p (.sl els) => some (els, [], none)
  | .p (.val (.slice none 0 0)) => some ([], [], none)
  | .p (.val (.slice (some _) 0 _)) => some ([], [], none)
  | .own id sz _ => match mm id with
    | some (.row _ els _) => some (els, [id], some sz)
    | _ => none
  | .win id sz off n => match mm id with
    | some (.row _ els _) => some ((els.drop off).take n, [id], some sz)
    | _ => none
  | _ => none
def szOK : Option Nat → Nat → List (List PV) → Prop
  | some sz, n, _ => sz = n
  | none, n, xs => ∀ e ∈ xs, e.length = n
instance (so : Option Nat) (n : Nat) (xs : List (List PV)) : Decidable (szOK so n xs) := match so with
  | some sz => Nat.decEq sz n
  | none => inferInstanceAs (Decidable (∀ e ∈ xs, e.length = n))

def intOf : AV → Option (IntKind × Int)
  | .p (.val (.int k n)) => some (k, n)
  | _ => none

def effAppend (T : Tab) (mm : Mem) (nid : Nat) (t : Nat) (s x : AV) (k : Delta → Prop) : Prop :=
  match T t with
  | some { k := .slice e, .. } => match T e with
    | some ti => match x.slice mm, Nat.ble 1 ti.bytes with
      | some (xs, rd, so), true => match s with
        | .p (.val (.slice none 0 0)) => chk (szOK so ti.size xs) (chk (xs.length * ti.bytes ≤ 140737488355328) (k { v := .own nid ti.size xs.length, rd := rd, news := [.row ti.size xs true] }))
        | .own id sz _ => match mm id, Nat.beq sz ti.size with
          | some (.row sz' els true), true => chk (szOK so ti.size xs) (chk ((els.length + xs.length) * ti.bytes ≤ 140737488355328) (k { v := .own nid sz (els.length + xs.length), rd := id :: rd, kill := [id], news := [.row sz (els ++ xs) true] }))
          | _, _ => False
        | _ => False
      | _, _ => False
    | none => False
  | _ => False

def effCopy (T : Tab) (mm : Mem) (t : Nat) (s x : AV) (k : Delta → Prop) : Prop :=
  match T t with
  | some { k := .slice e, .. } => match T e with
    | some ti => match x.slice mm with
      | some (xs, rd, so) => match s with
        | .own id sz _ => match mm id, Nat.beq sz ti.size with
          | some (.row _ els true), true => chk (szOK so ti.size xs) (k { v := valInt .i64 (min xs.length els.length : Nat), rd := id :: rd, wr := some (.all id (splice els 0 (xs.take els.length))) })
          | _, _ => False
        | .win id sz off n => match mm id, Nat.beq sz ti.size with
          | some (.row _ els true), true => chk (szOK so ti.size xs) (chk (off + n ≤ els.length) (k { v := valInt .i64 (min xs.length n : Nat), rd := id :: rd, wr := some (.all id (splice els off (xs.take n))) }))
          | _, _ => False
        | .p (.sl []) => chk (szOK so ti.size xs) (k { v := valInt .i64 0, rd := rd })
        | _ => False
      | none => False
    | none => False
  | _ => False

def effCall (C : CallRel) (mm : Mem) (nid : Nat) (f : FuncId) (as : List AV) (k : Delta → Prop) : Prop :=
  match AV.pv.pvL mm as with
  | some (ps, ids) => C f ps fun rs => k { v := oneOr (impV rs nid).1, rd := ids, frz := (match rs.all RV.flat with | true => [] | false => ids), news := (impV rs nid).2 }
  | none => False

def effLen (T : Tab) (ts : List Nat) (as : List AV) (k : Delta → Prop) : Prop :=
  match ts, as with
  | [t], [x] => match T t with
    | some { k := .slice _, .. } => match x with
      | .p (.sl els) => k { v := valInt .i64 els.length }
      | .p (.val (.slice none 0 0)) => k { v := valInt .i64 0 }
      | .own _ _ n => k { v := valInt .i64 n }
      | .win _ _ _ n => k { v := valInt .i64 n }
      | _ => False
    | _ => False
  | _, _ => False
def effApp2 (T : Tab) (mm : Mem) (nid : Nat) (ts : List Nat) (as : List AV) (k : Delta → Prop) : Prop :=
  match ts, as with
  | [t, u], [s, x] => match T u with
    | some { k := .slice _, .. } => effAppend T mm nid t s x k
    | _ => False
  | _, _ => False
def effCopy2 (T : Tab) (mm : Mem) (ts : List Nat) (as : List AV) (k : Delta → Prop) : Prop :=
  match ts, as with
  | [t, u], [s, x] => match T u with
    | some { k := .slice _, .. } => effCopy T mm t s x k
    | _ => False
  | _, _ => False
def effMax (as : List AV) (k : Delta → Prop) : Prop :=
  match as with
  | [x, y] => match intOf x, intOf y with
    | some (i, a), some (_, b) => k { v := valInt i (if b > a then b else a) }
    | _, _ => False
  | _ => False
def effMin (as : List AV) (k : Delta → Prop) : Prop :=
  match as with
  | [x, y] => match intOf x, intOf y with
    | some (i, a), some (_, b) => k { v := valInt i (if b < a then b else a) }
    | _, _ => False
  | _ => False
def effBuiltin (T : Tab) (mm : Mem) (nid : Nat) (b : Builtin) (ts : List Nat) (as : List AV) (k : Delta → Prop) : Prop :=
  match b with
  | .len => effLen T ts as k
  | .append => effApp2 T mm nid ts as k
  | .copy => effCopy2 T mm ts as k
  | .max => effMax as k
  | .min => effMin as k
  | _ => False

def effSlice (T : Tab) (mm : Mem) (nid : Nat) (t : Nat) (x : AV) (lo hi mx : Option AV) (k : Delta → Prop) : Prop :=
  match T t with
  | some { k := .slice e, .. } => match T e with
    | some ti =>
      match x with
      | .p (.sl els) => match lo, hi, mx with
        | none, none, none => k { v := x }
        | none, some h, none => match intOf h with
          | some (_, h) => chk (0 ≤ h) (chk (h ≤ els.length) (k { v := .p (.sl (els.take h.toNat)) }))
          | none => False
        | some l, none, none => match intOf l with
          | some (_, l) => chk (∀ e ∈ els, e.length = ti.size) (chk (0 ≤ l) (chk (l ≤ els.length) (k { v := .p (.sl (els.drop l.toNat)) })))
          | none => False
        | some l, some h, none => match intOf l, intOf h with
          | some (_, l), some (_, h) => chk (∀ e ∈ els, e.length = ti.size) (chk (0 ≤ l) (chk (l ≤ h) (chk (h ≤ els.length) (k { v := .p (.sl ((els.take h.toNat).drop l.toNat)) }))))
          | _, _ => False
        | none, some h, some m => match intOf h, intOf m with
          | some (_, h), some (_, m) => chk (0 ≤ h) (chk (h ≤ m) (chk (m ≤ els.length) (k { v := .p (.sl (els.take h.toNat)) })))
          | _, _ => False
        | _, _, _ => False
      | .own id sz n => match mm id, Nat.beq sz ti.size with
        | some (.row _ els true), true => match lo, hi, mx with
          | none, some h, none => match T 1 with
            | none => match intOf h with
              | some (_, h) => chk (0 ≤ h) (chk (h ≤ els.length) (k { v := .own nid sz (els.take h.toNat).length, rd := [id], kill := [id], news := [.row sz (els.take h.toNat) true] }))
              | none => False
            | some _ => match intOf h with
              | some (_, h) => chk (0 ≤ h) (chk (h ≤ n) (chk (0 < n) (k { v := .win id sz 0 h.toNat })))
              | none => False
          | some l, some h, none => match intOf l, intOf h with
            | some (_, l), some (_, h) => chk (0 ≤ l) (chk (l ≤ h) (chk (h ≤ n) (chk (l < n) (k { v := .win id sz l.toNat (h - l).toNat }))))
            | _, _ => False
          | some l, none, none => match T 1 with
            | none => match intOf l with
              | some (_, l) => chk (0 ≤ l) (chk (l < n) (k { v := .win id sz l.toNat (n - l.toNat) }))
              | none => False
            | some _ => match intOf l with
              | some (_, l) => chk (0 ≤ l) (match decide (l < n) with
                | true => k { v := .win id sz l.toNat (n - l.toNat) }
                | false => chk (l = n) (k { v := .p (.sl []) }))
              | none => False
          | _, _, _ => False
        | _, _ => False
      | _ => False
    | none => False
  | _ => False

def effIndexAddr (T : Tab) (t : Nat) (x ix : AV) (k : Delta → Prop) : Prop :=
  match intOf ix, T t with
  | some (_, i), some { k := .slice e, .. } => match T e with
    | some ti => match x with
      | .own id sz n => match Nat.beq sz ti.size with
        | true => chk (0 ≤ i) (chk (i < n) (k { v := .ptr id i.toNat 0 }))
        | false => False
      | .win id sz off n => match Nat.beq sz ti.size with
        | true => chk (0 ≤ i) (chk (i < n) (k { v := .ptr id (off + i.toNat) 0 }))
        | false => False
      | .p (.sl els) => chk (0 ≤ i) (obind els[i.toNat]? fun el => chk (el.length = ti.size) (k { v := .cell el }))
      | _ => False
    | none => False
  | some (_, i), some { k := .arr n e, .. } => match T e with
    | some ti => match x with
      | .ptr id i0 j => chk (0 ≤ i) (chk (i < n) (k { v := .ptr id i0 (j + i.toNat * ti.size) }))
      | .cell cs => chk (0 ≤ i) (chk (i < n) (chk (i.toNat * ti.size ≤ cs.length) (k { v := .cell (cs.drop (i.toNat * ti.size)) })))
      | _ => False
    | none => False
  | _, _ => False

def effLoad (T : Tab) (mm : Mem) (t : Nat) (a : AV) (k : Delta → Prop) : Prop :=
  match T t with
  | some ti => match a with
    | .cell cs => match Nat.ble ti.size cs.length, mkA ti.k.agg ((cs.take ti.size).map .p) with
      | true, some v => k { v := v }
      | _, _ => False
    | .ptr id i j => match mm id with
      | some (.box cs) => match i, Nat.ble (j + ti.size) cs.length, mkA ti.k.agg ((cs.drop j).take ti.size) with
        | 0, true, some v => k { v := v, rd := [id] }
        | _, _, _ => False
      | some (.row _ els _) => obind els[i]? fun el => match Nat.ble (j + ti.size) el.length, mkA ti.k.agg (((el.drop j).take ti.size).map .p) with
        | true, some v => k { v := v, rd := [id] }
        | _, _ => False
      | none => False
    | _ => False
  | none => False

def effStore (T : Tab) (mm : Mem) (t : Nat) (a x : AV) (k : Delta → Prop) : Prop :=
  match T t, x.cells with
  | some ti, some xs => match Nat.beq xs.length ti.size, allOne xs with
    | true, true => match a with
      | .ptr id i j => match mm id with
        | some (.box cs) => match i, Nat.ble (j + xs.length) cs.length with
          | 0, true => k { wr := some (.box id j xs) }
          | _, _ => False
        | some (.row sz els true) => match AV.pv.pvL mm xs with
          | some (ps, ids) => match ps.all PV.one, contains ids id, Nat.beq sz ps.length, Nat.beq j 0 with
            | true, false, true, true => chk (i < els.length) (k { rd := ids, frz := ids, wr := some (.elem id i ps) })
            | true, false, _, _ => obind els[i]? fun el => chk (j + ps.length ≤ el.length) (k { rd := id :: ids, frz := ids, wr := some (.all id (els.set i (splice el j ps))) })
            | _, _, _, _ => False
          | none => False
        | _ => False
      | _ => False
    | _, _ => False
  | _, _ => False

/-- A slice compared with nil. -/
def effNil (T : Tab) (op : BinOp) (t : Nat) (xv : PV) (k : Delta → Prop) : Prop :=
  match op, T t with
  | .eql, some { k := .slice _, .. } => match xv with
    | .val (.slice none _ _) => k { v := valBool true }
    | .val (.slice (some _) _ _) => k { v := valBool false }
    | .sl (_ :: _) => k { v := valBool false }
    | _ => False
  | _, _ => False
def isNilA (y : AV) : Bool := match y with
  | .p (.val (.slice none 0 0)) => true
  | _ => false
def effCmpNil (T : Tab) (op : BinOp) (t : Nat) (x y : AV) (k : Delta → Prop) : Prop :=
  match isNilA y, x with
  | true, .p xv => effNil T op t xv k
  | _, _ => False
def effStrIx (x ix : AV) (k : Delta → Prop) : Prop :=
  match x, intOf ix with
  | .p (.val (.string s)), some (_, i) => chk (0 ≤ i) (obind s[i.toNat]? fun b => k { v := valInt .u8 b.toNat })
  | _, _ => False
def effIndex (T : Tab) (t : Nat) (x ix : AV) (k : Delta → Prop) : Prop :=
  match T t, x.acells, intOf ix with
  | some { k := .arr n e, .. }, some cs, some (_, i) => match T e with
    | some ti => match ti.k.agg, ti.size with
      | false, 1 => chk (0 ≤ i) (chk (i < n) (obind cs[i.toNat]? fun y => k { v := y }))
      | _, _ => False
    | none => False
  | _, _, _ => False

/-- A receiver that is bound: written out; and as content again. -/
def litA : AV → Option Value
  | .p (.val v) => some v
  | .agg [.p (.val v)] => some (.agg #[v])
  | .p (.agg [.val v]) => some (.agg #[v])
  | _ => none
def firstA : Value → AV
  | .agg vs => .p (.agg (vs.toList.map .val))
  | v => .p (.val v)
/-- What one operation does. -/
def eff (T : Tab) (C : CallRel) (ρ : Operand → AV) (mm : Mem) (nid : Nat) (op : Op) (k : Delta → Prop) : Prop :=
  match op with
  | .move x => k { v := ρ x }
  | .assign x => k { v := ρ x }
  | .pick c a b => match ρ c with
    | .p (.val (.bool t)) => match t with
      | true => k { v := ρ a }
      | false => k { v := ρ b }
    | _ => False
  | .alloc e => match T e with
    | some ti => k { v := .ptr nid 0 0, news := [.box (ti.zero.map fun v => .p (.val v))] }
    | none => False
  | .box _ x => match (ρ x).cells with
    | some cs => match allOne cs with
      | true => k { v := .ptr nid 0 0, news := [.box cs] }
      | false => False
    | none => False
  | .build t parts => match T t with
    | some { k := .strct fs, zero := z, .. } => match placesL T fs with
      | some pl => match fillA (nth pl) ρ (z.map fun v => .p (.val v)) parts.toList with
        | some cs => k { v := .agg cs }
        | none => False
      | none => False
    | some { k := .arr _ e, zero := z, .. } => match T e with
      | some ti => match fillA (fun i => some (i * ti.size, ti.size)) ρ (z.map fun v => .p (.val v)) parts.toList with
        | some cs => k { v := .agg cs }
        | none => False
      | none => False
    | _ => False
  | .buildSlice t len parts => match T t with
    | some { k := .slice e, .. } => match T e with
      | some ti => match rowsOf mm ρ ti.size parts.toList 0, Nat.beq parts.toList.length len, Nat.ble (len * ti.size) 16777216 with
        | some (els, ids), true, true => k { v := .own nid ti.size len, rd := ids, frz := ids, news := [.row ti.size els true] }
        | _, _, _ => False
      | none => False
    | _ => False
  | .load t a => effLoad T mm t (ρ a) k
  | .store t a x => effStore T mm t (ρ a) (ρ x) k
  | .nilCheck x => match ρ x with
    | .ptr id i j => k { v := .ptr id i j }
    | .cell cs => k { v := .cell cs }
    | _ => False
  | .binOp op t x y _ => match ρ x, ρ y with
    | .p (.val (.int kx a)), .p (.val (.int ky b)) => arith op kx ky a b k
    | .p (.val (.bool a)), .p (.val (.bool b)) => match T t with
      | some { k := .bool, .. } => match op with
        | .eql => k { v := valBool (a == b) }
        | .neq => k { v := valBool (!(a == b)) }
        | _ => False
      | _ => False
    | xv, yv => effCmpNil T op t xv yv k
  | .unOp op _ x => match op, ρ x with
    | .neg, .p (.val (.int kx a)) => k { v := valInt kx (kx.wrap (0 - a)) }
    | .not, .p (.val (.bool a)) => k { v := valBool (!a) }
    | .xor, .p (.val (.int kx a)) => k { v := valInt kx (kx.wrap (BitVec.ofInt kx.bits (if kx.signed then -1 else kx.max) ^^^ BitVec.ofInt kx.bits a).toNat) }
    | _, _ => False
  | .convert s d x => match T s, T d, ρ x with
    | some _, some { k := .int kd, .. }, .p (.val (.int _ n)) => k { v := valInt kd (kd.wrap n) }
    | _, _, _ => False
  | .makeSlice t l c => match T t with
    | some { k := .slice e, .. } => match T e, intOf (ρ l), intOf (ρ c) with
      | some ti, some (_, a), some (_, b) => chk (0 ≤ a) (chk (a = b) (chk (ti.bytes * a ≤ 281474976710656) (chk (a ≤ 9223372036854775807) (k { v := .own nid ti.size a.toNat, news := [.row ti.size (List.replicate a.toNat (ti.zero.map fun v => .val v)) true] }))))
      | _, _, _ => False
    | _ => False
  | .slice t x lo hi mx => effSlice T mm nid t (ρ x) (lo.map ρ) (hi.map ρ) (mx.map ρ) k
  | .fieldAddr t x f => match T t with
    | some { k := .strct fs, .. } => match nth fs f with
      | some (off, ty) => match T ty with
        | some ti => match ti.size, ρ x with
          | _ + 1, .ptr id i j => k { v := .ptr id i (j + off) }
          | _ + 1, .cell cs => k { v := .cell (cs.drop off) }
          | _, _ => False
        | none => False
      | none => False
    | _ => False
  | .field t x f => match T t, (ρ x).acells with
    | some { k := .strct fs, .. }, some cs => match nth fs f with
      | some (off, ty) => match T ty with
        | some ti => match Nat.ble (off + ti.size) cs.length, mkA ti.k.agg ((cs.drop off).take ti.size) with
          | true, some v => k { v := v }
          | _, _ => False
        | none => False
      | none => False
    | _, _ => False
  | .indexAddr t x ix => effIndexAddr T t (ρ x) (ρ ix) k
  | .index t x ix => match T t with
    | some { k := .str, .. } => effStrIx (ρ x) (ρ ix) k
    | _ => effIndex T t (ρ x) (ρ ix) k
  | .extract x i => match ρ x with
    | .tup vs => match nth vs i with
      | some v => k { v := v }
      | none => False
    | _ => False
  | .makeFunc (.func f) first captured => match first.toList with
    | [] => k { v := .clo f (captured.toList.map ρ) }
    | [x] => match captured.toList, litA (ρ x) with
      | [], some v => k { v := .p (.val (.func (.func f) #[v] #[])) }
      | _, _ => False
    | _ => False
  | .call c => match c.callee with
    | .builtin b => effBuiltin T mm nid b c.argTypes.toList (c.args.toList.map ρ) k
    | .value g => match ρ g with
      | .p (.val (.func (.func f) first cap)) => match first.toList, cap.toList with
        | [], [] => effCall C mm nid f (c.args.toList.map ρ) k
        | [v], [] => effCall C mm nid f (firstA v :: c.args.toList.map ρ) k
        | _, _ => False
      | .clo f [] => effCall C mm nid f (c.args.toList.map ρ) k
      | _ => False
    | _ => False
  | _ => False
end Go.Am

set_option linter.unusedVariables false
namespace Go.Am
open Go

def Blk.alike : Blk → Blk → Prop
  | .box cs, .box cs' => cs'.length = cs.length
  | .row sz els o, .row sz' els' o' => sz' = sz ∧ els'.length = els.length ∧ o' = o
  | _, _ => False
theorem Blk.alike_refl (B : Blk) : B.alike B := by cases B <;> simp [Blk.alike]

def Delta.names (d : Delta) (id : Nat) : Prop := id ∈ d.rd ∨ id ∈ d.frz ∨ id ∈ d.kill ∨ ∃ x, d.wr = some x ∧ x.id = id
def OpSound (P : Program) (o : Oper) (ρ : Operand → AV) (mm : Mem) (nid : Nat) (d : Delta) : Prop :=
  ∀ (β : Pl) (F : Nat → Prop) (w : World) (a : Act) (next : Act → World → Prop) (Q : Exit → Act → World → Prop),
    (∀ x, x ∈ o.op.operands → RepA β F w (ρ x) (a.eval x)) → (∀ b, F b → b < w.heap.size) →
    (∀ id, id ∈ d.rd ∨ id ∈ d.frz ∨ id ∈ d.kill → ∀ B, mm id = some B → ∃ bi, β id = some bi ∧ BlkOK β F w bi B) →
    (∀ x, d.wr = some x → ∀ B, mm x.id = some B → ∃ bi B', β x.id = some bi ∧ BlkOK β F w bi B' ∧ B.alike B') →
    (∀ k, k < d.news.length → β (nid + k) = none) →
    (∀ id id' B B' bi bi', id ≠ id' → mm id = some B → mm id' = some B' → d.names id → d.names id' → β id = some bi → β id' = some bi' → bi.nil = false → bi'.nil = false → bi.b ≠ bi'.b) →
    (∀ v w' β' F', Eff d nid β F w v β' F' w' → next (a.put o.dst v) w') → o.wp P a w next Q

/-! ### Operations that change nothing -/
theorem Eff.pure {nid : Nat} {β : Pl} {F : Nat → Prop} {w : World} {x : AV} {rd : List Nat} {v : Value} (h : RepA β F w x v) : Eff { v := x, rd := rd } nid β F w v β F w where
  os := rfl
  tape := rfl
  output := rfl
  size := Nat.le_refl _
  ext := fun _ _ h => h
  dom := fun _ h _ => h
  keep := fun _ _ _ => rfl
  Fm := fun _ h => h
  Fn := fun _ h => .inl h
  Fz := fun _ h => by cases h
  val := h
  news := fun _ _ h => by simp at h
  inj := fun _ _ _ _ _ h => by cases h
  box := fun _ _ _ h => by cases h
  elem := fun _ _ _ h => by cases h
  all := fun _ _ h => by cases h

theorem OpSound.pure {P : Program} {o : Oper} {ρ : Operand → AV} {mm : Mem} {nid : Nat} {x : AV} {rd : List Nat}
    (h : ∀ (β : Pl) (F : Nat → Prop) (w : World) (a : Act), (∀ x, x ∈ o.op.operands → RepA β F w (ρ x) (a.eval x)) →
      (∀ id, id ∈ rd → ∀ B, mm id = some B → ∃ bi, β id = some bi ∧ BlkOK β F w bi B) → ∃ v, (execOp a.eval o).run P w = .ok (.value v) w ∧ RepA β F w x v) : OpSound P o ρ mm nid { v := x, rd := rd } := by
  intro β F w a next Q ho hF hrd _ _ _ hn
  obtain ⟨v, hr, hv⟩ := h β F w a ho (fun id hid => hrd id (.inl hid))
  unfold Oper.wp
  rw [hr]
  exact hn v w β F (.pure hv)

/-! ### Cells -/
theorem RepP.cells {F : Nat → Prop} {w : World} {x : PV} {v : Value} (h : RepP F w x v) (h1 : x.one = true) : v.oneCell' = true := by
  cases h with
  | val v => exact h1
  | sl => rfl
  | agg => cases h1
theorem RepA.one {β : Pl} {F : Nat → Prop} {w : World} {x : AV} {v : Value} (h : RepA β F w x v) (h1 : x.one = true) : v.oneCell' = true := by
  cases h with
  | top => cases h1
  | p x v h => exact h.cells h1
  | ownNil => rfl
  | own => rfl
  | win => rfl
  | ptr => rfl
  | cell => rfl
  | agg => cases h1
  | tup => cases h1
  | clo => rfl
theorem cells_one {v : Value} (h : v.oneCell' = true) : v.cells = #[v] := by cases v <;> first | rfl | (simp [Value.oneCell'] at h)
theorem rep_map_val {F : Nat → Prop} {w : World} (vs : List Value) : ∀ (k : Nat) (x : PV) (y : Value), (vs.map PV.val)[k]? = some x → vs[k]? = some y → RepP F w x y := by
  intro k x y h1 h2
  rw [List.getElem?_map, h2] at h1
  simp at h1; subst h1; exact .val y

theorem RepA.cells {β : Pl} {F : Nat → Prop} {w : World} {x : AV} {v : Value} (h : RepA β F w x v) {cs : List AV} (hc : x.cells = some cs) :
    cs.length = v.cells.toList.length ∧ ∀ (k : Nat) (x : AV) (y : Value), cs[k]? = some x → v.cells.toList[k]? = some y → RepA β F w x y := by
  have single : ∀ {u : Value}, RepA β F w x u → u.oneCell' = true ∨ (∃ vs, u = .tuple vs) → cs = [x] → cs.length = u.cells.toList.length ∧ ∀ (k : Nat) (x : AV) (y : Value), cs[k]? = some x → u.cells.toList[k]? = some y → RepA β F w x y := by
    intro u hu h1 hcs
    have : u.cells = #[u] := by
      rcases h1 with h1 | ⟨vs, rfl⟩
      · exact cells_one h1
      · rfl
    rw [this, hcs]
    refine ⟨rfl, fun k y z hy hz => ?_⟩
    cases k with
    | zero => simp at hy hz; subst hy hz; exact hu
    | succ k => simp at hy
  cases h with
  | top => simp [AV.cells] at hc
  | p y v hp =>
    cases hp with
    | val v =>
      simp only [AV.cells, Option.some.injEq] at hc
      subst hc
      refine ⟨by simp, fun k x y h1 h2 => ?_⟩
      rw [List.getElem?_map, h2] at h1
      simp at h1; subst h1; exact .p _ _ (.val _)
    | sl els a c b o sz vv hc' ha hs hx =>
      simp only [AV.cells, Option.some.injEq] at hc
      exact single (.p _ _ (.sl els a c b o sz vv hc' ha hs hx)) (.inl rfl) hc.symm
    | agg cs' vs hl hx =>
      simp only [AV.cells, Option.some.injEq] at hc
      subst hc
      refine ⟨by simp [Value.cells, hl], fun k x y h1 h2 => ?_⟩
      rw [List.getElem?_map] at h1
      cases h3 : cs'[k]? with
      | none => simp [h3] at h1
      | some z =>
        simp [h3] at h1; subst h1
        exact .p _ _ (hx k z y h3 (by simpa [Value.cells] using h2))
  | agg cs' vs hl hx =>
    simp only [AV.cells, Option.some.injEq] at hc
    subst hc
    exact ⟨by simp [Value.cells, hl], fun k x y h1 h2 => hx k x y h1 (by simpa [Value.cells] using h2)⟩
  | ownNil id sz n bi hb h hn => simp only [AV.cells, Option.some.injEq] at hc; exact single (.ownNil id sz n bi hb h hn) (.inl rfl) hc.symm
  | own id sz n bi hb h hz hn hcc => simp only [AV.cells, Option.some.injEq] at hc; exact single (.own id sz n bi hb h hz hn hcc) (.inl rfl) hc.symm
  | win id sz off n c bi hb h hz hc' hn ho => simp only [AV.cells, Option.some.injEq] at hc; exact single (.win id sz off n c bi hb h hz hc' hn ho) (.inl rfl) hc.symm
  | ptr id i j bi hb h => simp only [AV.cells, Option.some.injEq] at hc; exact single (.ptr id i j bi hb h) (.inl rfl) hc.symm
  | cell cs' b o vs hF hl hr h1 hx => simp only [AV.cells, Option.some.injEq] at hc; exact single (.cell cs' b o vs hF hl hr h1 hx) (.inl rfl) hc.symm
  | tup cs' vs hl hx => simp only [AV.cells, Option.some.injEq] at hc; exact single (.tup cs' vs hl hx) (.inr ⟨_, rfl⟩) hc.symm
  | clo f cs' vs hl hx => simp only [AV.cells, Option.some.injEq] at hc; exact single (.clo f cs' vs hl hx) (.inl rfl) hc.symm

theorem allOne_spec {cs : List AV} (h : allOne cs = true) : ∀ x ∈ cs, x.one = true := by
  induction cs with
  | nil => intro x hx; cases hx
  | cons y r ih =>
    simp only [allOne] at h
    cases hy : y.one with
    | false => simp [hy] at h
    | true =>
      simp only [hy] at h
      intro x hx
      cases hx with
      | head => exact hy
      | tail _ hx => exact ih h x hx

/-- The cells of a represented value whose cells are all single. -/
theorem RepA.cells_one {β : Pl} {F : Nat → Prop} {w : World} {x : AV} {v : Value} (h : RepA β F w x v) {cs : List AV} (hc : x.cells = some cs) (h1 : allOne cs = true) :
    ∀ u ∈ v.cells.toList, u.oneCell' = true := by
  obtain ⟨hl, hx⟩ := h.cells hc
  intro u hu
  obtain ⟨k, hk⟩ := List.mem_iff_getElem?.1 hu
  have hlt : k < cs.length := by rw [hl]; exact (List.getElem?_eq_some_iff.1 hk).1
  exact (hx k cs[k] u (List.getElem?_eq_getElem hlt) hk).one (allOne_spec h1 _ (List.getElem_mem hlt))

/-- A part of represented cells. -/
theorem rep_part {β : Pl} {F : Nat → Prop} {w : World} {cs : List AV} {vs : List Value} (hl : cs.length = vs.length)
    (hx : ∀ (k : Nat) (x : AV) (y : Value), cs[k]? = some x → vs[k]? = some y → RepA β F w x y) (o n : Nat) (hn : o + n ≤ cs.length) :
    ((cs.drop o).take n).length = ((vs.drop o).take n).length ∧ ∀ (k : Nat) (x : AV) (y : Value), ((cs.drop o).take n)[k]? = some x → ((vs.drop o).take n)[k]? = some y → RepA β F w x y := by
  refine ⟨by simp; omega, fun k x y h1 h2 => ?_⟩
  by_cases hk : k < n
  · rw [List.getElem?_take_of_lt hk, List.getElem?_drop] at h1 h2
    exact hx _ _ _ h1 h2
  · rw [List.getElem?_eq_none (by simp; omega)] at h1; cases h1

theorem mkA_rep {β : Pl} {F : Nat → Prop} {w : World} {cs : List AV} {vs : List Value} (hl : cs.length = vs.length)
    (hx : ∀ (k : Nat) (x : AV) (y : Value), cs[k]? = some x → vs[k]? = some y → RepA β F w x y) {agg : Bool} {v : AV} (hm : mkA agg cs = some v) :
    (agg = true ∧ RepA β F w v (.agg vs.toArray)) ∨ (agg = false ∧ ∃ y, vs = [y] ∧ RepA β F w v y) := by
  cases agg with
  | true => simp only [mkA, Option.some.injEq] at hm; subst hm; exact .inl ⟨rfl, .agg _ _ hl hx⟩
  | false =>
    match cs, hm with
    | [x], hm =>
      simp only [mkA, Option.some.injEq] at hm; subst hm
      match vs, hl with
      | [y], _ => exact .inr ⟨rfl, y, rfl, hx 0 x y rfl rfl⟩

/-! ### Types in the model -/
section types
variable {P : Program} {T : Tab} (hT : TabOK P T)
include hT
theorem run_size {t : Nat} {ti : TI} (h : T t = some ti) (w : World) : (sizeOf t).run P w = .ok ti.size w := by
  obtain ⟨i, h1, h2, h3, h4⟩ := hT.info t ti h
  simp [sizeOf, typeInfo, Sem.run_bind, h1, h2]
theorem und_slice {t e : Nat} {ti : TI} (h : T t = some ti) (hk : ti.k = .slice e) : P.underlying t = some (.slice e) := by
  obtain ⟨d, h1, h2⟩ := hT.und t ti h
  rw [hk] at h2
  cases d <;> simp only [TK.ok] at h2
  subst h2; exact h1
theorem und_int {t : Nat} {k : IntKind} {ti : TI} (h : T t = some ti) (hk : ti.k = .int k) : P.underlying t = some (.int k) := by
  obtain ⟨d, h1, h2⟩ := hT.und t ti h
  rw [hk] at h2
  cases d <;> simp only [TK.ok] at h2
  subst h2; exact h1
theorem und_bool {t : Nat} {ti : TI} (h : T t = some ti) (hk : ti.k = .bool) : P.underlying t = some .bool := by
  obtain ⟨d, h1, h2⟩ := hT.und t ti h
  rw [hk] at h2
  cases d <;> simp only [TK.ok] at h2
  exact h1
theorem und_struct {t : Nat} {fs : List (Nat × Nat)} {ti : TI} (h : T t = some ti) (hk : ti.k = .strct fs) : ∃ gs, P.underlying t = some (.struct gs) ∧ gs.toList.map (fun f => (f.offset, f.type)) = fs := by
  obtain ⟨d, h1, h2⟩ := hT.und t ti h
  rw [hk] at h2
  cases d <;> simp only [TK.ok] at h2
  exact ⟨_, h1, h2⟩
theorem und_arr {t n e : Nat} {ti : TI} (h : T t = some ti) (hk : ti.k = .arr n e) : P.underlying t = some (.array n e) := by
  obtain ⟨d, h1, h2⟩ := hT.und t ti h
  rw [hk] at h2
  cases d <;> simp only [TK.ok] at h2
  obtain ⟨rfl, rfl⟩ := h2; exact h1
theorem run_isAgg {t : Nat} {ti : TI} (h : T t = some ti) (w : World) : (isAgg t).run P w = .ok ti.k.agg w := by
  obtain ⟨d, h1, h2⟩ := hT.und t ti h
  unfold isAgg
  rw [Sem.run_bind, run_underlying h1 w]
  obtain ⟨k, _, _, _⟩ := ti
  cases k <;> cases d <;> simp_all [TK.ok, TK.agg]
theorem run_zero {t : Nat} {ti : TI} (h : T t = some ti) (w : World) : ∃ z : Value, (zeroValue t).run P w = .ok z w ∧ z.cells.toList = ti.zero ∧ (∀ v ∈ ti.zero, v.oneCell' = true) ∧ ti.zero.length = ti.size := by
  obtain ⟨i, h1, h2, h3, z, h4, h5⟩ := hT.info t ti h
  exact ⟨z, by simp [zeroValue, typeInfo, Sem.run_bind, h1, h4], h5⟩
theorem info_size {t : Nat} {ti : TI} (h : T t = some ti) : (P.info? t).map (·.size) = some ti.size := by
  obtain ⟨i, h1, h2, _⟩ := hT.info t ti h
  simp [h1, h2]
/-- A load of cells that lie there. -/
theorem run_load {t : Nat} {ti : TI} (h : T t = some ti) (w : World) (b o : Nat) (vs : List Value) (hv : w.rangeAt b o vs) (hl : vs.length = ti.size) :
    (ti.k.agg = true → (Instr.loadAt t (.pointer (some ⟨b, o, none⟩))).run P w = .ok (.agg vs.toArray) w) ∧
    (ti.k.agg = false → ∀ y, vs = [y] → (Instr.loadAt t (.pointer (some ⟨b, o, none⟩))).run P w = .ok y w) := by
  constructor
  · intro ha
    obtain ⟨d, h1, h2⟩ := hT.und t ti h
    refine run_loadAt_mid w b o t vs d hv h1 ?_ (by rw [info_size hT h, hl])
    obtain ⟨k, _, _, _⟩ := ti
    cases k <;> cases d <;> simp_all [TK.ok, TK.agg, TypeDesc.isRow]
  · intro ha y hy
    subst hy
    have := hv 0 y rfl
    simp only [Nat.add_zero] at this
    simp [Instr.loadAt, Instr.sureAddr, Sem.run_bind, loadVar, run_isAgg hT h, ha, load, Sem.run, this]
end types
end Go.Am

set_option linter.unusedVariables false
namespace Go.Am
open Go

theorem Fits.pure {x : AV} {rd : List Nat} {nid : Nat} {mm : Mem} : Fits { v := x, rd := rd } nid mm where
  box := fun _ _ _ h => by cases h
  elem := fun _ _ _ h => by cases h
  all := fun _ _ h => by cases h
  kill := fun _ h => by cases h
  frz := fun _ h => by cases h
  fresh := fun _ h => by cases h
  apart := fun _ h => by cases h
  wk := fun _ h => by cases h

section ops
variable {P : Program} {T : Tab} (hT : TabOK P T) {o : Oper} {ρ : Operand → AV} {mm : Mem} {nid : Nat} {k : Delta → Prop}

abbrev Good (P : Program) (o : Oper) (ρ : Operand → AV) (mm : Mem) (nid : Nat) (k : Delta → Prop) : Prop := ∃ d, k d ∧ OpSound P o ρ mm nid d ∧ Fits d nid mm

theorem good_pure {x : AV} {rd : List Nat} (hk : k { v := x, rd := rd })
    (h : ∀ (β : Pl) (F : Nat → Prop) (w : World) (a : Act), (∀ x, x ∈ o.op.operands → RepA β F w (ρ x) (a.eval x)) →
      (∀ id, id ∈ rd → ∀ B, mm id = some B → ∃ bi, β id = some bi ∧ BlkOK β F w bi B) → ∃ v, (execOp a.eval o).run P w = .ok (.value v) w ∧ RepA β F w x v) : Good P o ρ mm nid k :=
  ⟨_, hk, .pure h, .pure⟩

theorem repInt {β : Pl} {F : Nat → Prop} {w : World} {kx : IntKind} {a : Int} {v : Value} (h : RepA β F w (.p (.val (.int kx a))) v) : v = .int kx a := by
  cases h with | p x v h => cases h; rfl
theorem repBool {β : Pl} {F : Nat → Prop} {w : World} {a : Bool} {v : Value} (h : RepA β F w (.p (.val (.bool a))) v) : v = .bool a := by
  cases h with | p x v h => cases h; rfl
theorem repVal {β : Pl} {F : Nat → Prop} {w : World} {a : Value} {v : Value} (h : RepA β F w (.p (.val a)) v) : v = a := by
  cases h with | p x v h => cases h; rfl
theorem repI {β : Pl} {F : Nat → Prop} {w : World} {kx : IntKind} {a : Int} : RepA β F w (valInt kx a) (.int kx a) := .p _ _ (.val _)
theorem repB {β : Pl} {F : Nat → Prop} {w : World} {a : Bool} : RepA β F w (valBool a) (.bool a) := .p _ _ (.val _)
theorem intOf_spec {x : AV} {kk : IntKind} {n : Int} (h : intOf x = some (kk, n)) : x = .p (.val (.int kk n)) := by
  cases x with
  | p y => cases y with
    | val v => cases v <;> simp [intOf] at h; obtain ⟨rfl, rfl⟩ := h; rfl
    | sl => simp [intOf] at h
    | agg => simp [intOf] at h
  | _ => simp [intOf] at h

theorem good_move {x : Operand} (ho : o.op = .move x ∨ o.op = .assign x) (hk : k { v := ρ x }) : Good P o ρ mm nid k := by
  refine good_pure hk (fun β F w a hops _ => ⟨a.eval x, ?_, ?_⟩)
  · rcases ho with ho | ho <;> simp [execOp, ho]
  · rcases ho with ho | ho <;> exact hops x (by simp [ho, Op.operands])

theorem good_pick {c x y : Operand} (ho : o.op = .pick c x y) (hk : eff T (fun _ _ _ => False) ρ mm nid (.pick c x y) k) : Good P o ρ mm nid k := by
  simp only [eff] at hk
  split at hk
  case h_2 => exact hk.elim
  rename_i t ht
  cases t with
  | true =>
    refine good_pure hk (fun β F w a hops _ => ⟨a.eval x, ?_, hops x (by simp [ho, Op.operands])⟩)
    have := hops c (by simp [ho, Op.operands]); rw [ht] at this
    simp [execOp, ho, repBool this, asBool]
  | false =>
    refine good_pure hk (fun β F w a hops _ => ⟨a.eval y, ?_, hops y (by simp [ho, Op.operands])⟩)
    have := hops c (by simp [ho, Op.operands]); rw [ht] at this
    simp [execOp, ho, repBool this, asBool]

theorem good_nilCheck {x : Operand} (ho : o.op = .nilCheck x) (hk : eff T (fun _ _ _ => False) ρ mm nid (.nilCheck x) k) : Good P o ρ mm nid k := by
  simp only [eff] at hk
  split at hk
  · rename_i id i j hx
    refine good_pure hk (fun β F w a hops _ => ?_)
    have := hops x (by simp [ho, Op.operands]); rw [hx] at this
    generalize hv : a.eval x = v at this
    cases this with
    | ptr _ _ _ bi hb h => exact ⟨_, by simp [execOp, ho, hv], .ptr id i j bi hb h⟩
  · rename_i cs hx
    refine good_pure hk (fun β F w a hops _ => ?_)
    have := hops x (by simp [ho, Op.operands]); rw [hx] at this
    generalize hv : a.eval x = v at this
    cases this with
    | cell _ b o' vs hF hl hr h1 hxx => exact ⟨_, by simp [execOp, ho, hv], .cell cs b o' vs hF hl hr h1 hxx⟩
  · exact hk.elim

theorem run_binInt (w : World) (op : BinOp) (t : TypeId) (x y : Operand) (kx ky : IntKind) (a b : Int) (u : TypeId) (ρv : Operand → Value) (hx : ρv x = .int kx a) (hy : ρv y = .int ky b) (ho : o.op = .binOp op t x y u) :
    (execOp ρv o).run P w = match (binOp op t (.int kx a) (.int ky b)).run P w with | .ok v w => .ok (.value v) w | .halt h w => .halt h w := by
  have hg : (eqGuard op t x y (.int kx a) (.int ky b)).run P w = .ok () w := by
    unfold eqGuard
    split <;> simp
  simp only [execOp, ho, hx, hy, Sem.run_bind, hg, Result.andThen_ok]
  cases (binOp op t (.int kx a) (.int ky b)).run P w <;> rfl

theorem good_arith {op : BinOp} {t u : TypeId} {x y : Operand} {kx ky : IntKind} {a b : Int} (ho : o.op = .binOp op t x y u) (hx : ρ x = .p (.val (.int kx a))) (hy : ρ y = .p (.val (.int ky b))) (hk : arith op kx ky a b k) : Good P o ρ mm nid k := by
  have key : ∀ (z : Value) , k { v := .p (.val z) } → (∀ w, (binOp op t (.int kx a) (.int ky b)).run P w = .ok z w) → Good P o ρ mm nid k := by
    intro z hk hr
    refine good_pure hk (fun β F w ac hops _ => ⟨z, ?_, .p _ _ (.val _)⟩)
    have h1 := hops x (by simp [ho, Op.operands]); rw [hx] at h1
    have h2 := hops y (by simp [ho, Op.operands]); rw [hy] at h2
    rw [run_binInt w op t x y kx ky a b u ac.eval (repInt h1) (repInt h2) ho, hr w]
  cases op with
  | shl =>
    have hk := chk_iff.1 hk
    obtain ⟨h0, hk⟩ := hk
    refine key _ hk (fun w => ?_)
    simp [binOp, Op.shift, if_neg (show ¬ b < 0 by omega)]
  | shr =>
    have hk := chk_iff.1 hk
    obtain ⟨h0, hk⟩ := hk
    refine key _ hk (fun w => ?_)
    simp [binOp, Op.shift, if_neg (show ¬ b < 0 by omega)]
  | _ =>
    simp only [arith] at hk
    split at hk
    case isFalse => exact hk.elim
    rename_i hkk
    subst hkk
    first
      | exact hk.elim
      | (simp only [chk_iff, obind_iff] at hk
         obtain ⟨h0, hk⟩ := hk
         refine key _ hk (fun w => ?_)
         simp [binOp, Op.intDiv, h0])
      | (refine key _ hk (fun w => ?_)
         simp [binOp, Op.intArith, Op.intCmp, Op.intBits])

theorem good_binBool (hT : TabOK P T) {op : BinOp} {t u : TypeId} {x y : Operand} {a b : Bool} (ho : o.op = .binOp op t x y u) (hx : ρ x = .p (.val (.bool a))) (hy : ρ y = .p (.val (.bool b)))
    {ti : TI} (ht : T t = some ti) (hk0 : ti.k = .bool) (hk : match op with
        | .eql => k { v := valBool (a == b) }
        | .neq => k { v := valBool (!(a == b)) }
        | _ => False) : Good P o ρ mm nid k := by
  have hu := und_bool hT ht hk0
  have key : ∀ (z : Bool), k { v := valBool z } → (∀ w, (binOp op t (.bool a) (.bool b)).run P w = .ok (.bool z) w) → (∀ w, (eqGuard op t x y (.bool a) (.bool b)).run P w = .ok () w) → Good P o ρ mm nid k := by
    intro z hk hr hg
    refine good_pure hk (fun β F w ac hops _ => ⟨.bool z, ?_, .p _ _ (.val _)⟩)
    have h1 := hops x (by simp [ho, Op.operands]); rw [hx] at h1
    have h2 := hops y (by simp [ho, Op.operands]); rw [hy] at h2
    simp only [execOp, ho, repBool h1, repBool h2, Sem.run_bind, hg, hr, Result.andThen_ok, Sem.run_pure]
  have he : ∀ w, (Op.equal t (.bool a) (.bool b)).run P w = .ok (a == b) w := fun w => by
    unfold Op.equal
    rw [show Op.maxDepth = 9999 + 1 from rfl]
    unfold Op.equalIn
    rw [Sem.run_bind, run_underlying hu]
    rfl
  cases op <;> first
    | exact hk.elim
    | exact key _ hk (fun w => by simp [binOp, he]) (fun w => by unfold eqGuard; simp)

theorem good_unOp {op : UnOp} {t : TypeId} {x : Operand} (ho : o.op = .unOp op t x) (hk : eff T (fun _ _ _ => False) ρ mm nid (.unOp op t x) k) : Good P o ρ mm nid k := by
  simp only [eff] at hk
  split at hk
  · rename_i kx a hx
    refine good_pure hk (fun β F w ac hops _ => ⟨_, ?_, repI⟩)
    have h1 := hops x (by simp [ho, Op.operands]); rw [hx] at h1
    simp [execOp, ho, repInt h1, Op.unary, Op.intArith]
  · rename_i a hx
    refine good_pure hk (fun β F w ac hops _ => ⟨_, ?_, repB⟩)
    have h1 := hops x (by simp [ho, Op.operands]); rw [hx] at h1
    simp [execOp, ho, repBool h1, Op.unary]
  · rename_i kx a hx
    refine good_pure hk (fun β F w ac hops _ => ⟨_, ?_, repI⟩)
    have h1 := hops x (by simp [ho, Op.operands]); rw [hx] at h1
    simp [execOp, ho, repInt h1, Op.unary, Op.intBits]
  · exact hk.elim

theorem good_convert (hT : TabOK P T) {s d : TypeId} {x : Operand} (ho : o.op = .convert s d x) (hk : eff T (fun _ _ _ => False) ρ mm nid (.convert s d x) k) : Good P o ρ mm nid k := by
  simp only [eff] at hk
  split at hk
  · rename_i ts kd sz by_ z kx n hs hd hx
    obtain ⟨ds, hds, _⟩ := hT.und s ts hs
    have hdd := und_int hT hd rfl
    refine good_pure hk (fun β F w ac hops _ => ⟨_, ?_, repI⟩)
    have h1 := hops x (by simp [ho, Op.operands]); rw [hx] at h1
    simp only [execOp, ho, repInt h1, convert, Sem.run_bind, run_underlying hds, run_underlying hdd, Result.andThen_ok]
    simp [Conv.intToInt]
  · exact hk.elim

theorem good_extract {x : Operand} {i : Nat} (ho : o.op = .extract x i) (hk : eff T (fun _ _ _ => False) ρ mm nid (.extract x i) k) : Good P o ρ mm nid k := by
  simp only [eff] at hk
  split at hk
  · rename_i vs hx
    split at hk
    · rename_i v hv
      rw [nth_eq] at hv
      refine good_pure hk (fun β F w ac hops _ => ?_)
      have h1 := hops x (by simp [ho, Op.operands]); rw [hx] at h1
      generalize hq : ac.eval x = q at h1
      cases h1 with
      | tup _ us hl hxx =>
        have hlt : i < us.length := by rw [← hl]; exact (List.getElem?_eq_some_iff.1 hv).1
        refine ⟨us[i], ?_, hxx i v _ hv (List.getElem?_eq_getElem hlt)⟩
        simp [execOp, ho, hq, Instr.extract, hlt]
    · exact hk.elim
  · exact hk.elim

theorem rep_list {β : Pl} {F : Nat → Prop} {w : World} {ev : Operand → Value} (l : List Operand) (h : ∀ x ∈ l, RepA β F w (ρ x) (ev x)) :
    (l.map ρ).length = (l.map ev).length ∧ ∀ (k : Nat) (x : AV) (y : Value), (l.map ρ)[k]? = some x → (l.map ev)[k]? = some y → RepA β F w x y := by
  refine ⟨by simp, fun k x y h1 h2 => ?_⟩
  rw [List.getElem?_map] at h1 h2
  cases h3 : l[k]? with
  | none => simp [h3] at h1
  | some z =>
    simp [h3] at h1 h2; subst h1 h2
    exact h z (List.mem_of_getElem? h3)

theorem litA_spec {β : Pl} {F : Nat → Prop} {w : World} {x : AV} {v y : Value} (h : litA x = some v) (hr : RepA β F w x y) : y = v := by
  have one : ∀ {u z : Value}, RepP F w (.val u) z → z = u := fun h => by cases h; rfl
  unfold litA at h
  split at h
  · cases h; exact repVal hr
  · cases h
    cases hr with
    | agg _ vs hl hx =>
      match vs, hl with
      | [z], _ =>
        have := hx 0 _ z rfl rfl
        rw [repVal this]
  · cases h
    cases hr with
    | p _ _ hp =>
      cases hp with
      | agg _ vs hl hx =>
        match vs, hl with
        | [z], _ =>
          have := hx 0 _ z rfl rfl
          rw [one this]
  · cases h
theorem firstA_rep (β : Pl) (F : Nat → Prop) (w : World) (v : Value) : RepA β F w (firstA v) v := by
  unfold firstA
  split
  · rename_i vs
    have : RepP F w (.agg (vs.toList.map .val)) (.agg vs.toList.toArray) := .agg _ vs.toList (by simp) (fun k x y h1 h2 => by
      rw [List.getElem?_map, h2] at h1
      cases h1; exact .val _)
    exact .p _ _ (by simpa using this)
  · exact .p _ _ (.val _)
theorem good_makeFunc {f : FuncId} {first captured : Array Operand} (ho : o.op = .makeFunc (.func f) first captured) (hk : eff T (fun _ _ _ => False) ρ mm nid (.makeFunc (.func f) first captured) k) : Good P o ρ mm nid k := by
  simp only [eff] at hk
  split at hk
  · rename_i hf
    refine good_pure hk (fun β F w ac hops _ => ?_)
    obtain ⟨hl, hx⟩ := rep_list captured.toList (fun x hx => hops x (by simp [ho, Op.operands]; exact .inr (by simpa using hx)))
    refine ⟨_, ?_, .clo f _ _ hl hx⟩
    have : first = #[] := by simpa using hf
    simp [execOp, ho, Instr.makeFunc, this, ← Array.toList_map]
  · rename_i x hf
    split at hk
    case h_2 => exact hk.elim
    rename_i v hcap hv
    have e1 : first = #[x] := by rw [← Array.toList_inj]; simpa using hf
    have e2 : captured = #[] := by simpa using hcap
    refine good_pure hk (fun β F w ac hops _ => ?_)
    have g := litA_spec hv (hops x (by simp [ho, Op.operands, e1]))
    refine ⟨_, ?_, .p _ _ (.val _)⟩
    simp [execOp, ho, Instr.makeFunc, e1, e2, g]
  · exact hk.elim

theorem good_fieldAddr (hT : TabOK P T) {t : TypeId} {x : Operand} {f : Nat} (ho : o.op = .fieldAddr t x f) (hk : eff T (fun _ _ _ => False) ρ mm nid (.fieldAddr t x f) k) : Good P o ρ mm nid k := by
  simp only [eff] at hk
  split at hk
  case h_2 => exact hk.elim
  rename_i fs sz by_ z ht
  split at hk
  case h_2 => exact hk.elim
  rename_i off ty hf
  split at hk
  case h_2 => exact hk.elim
  rename_i ti hty
  obtain ⟨gs, hgs, hfs⟩ := und_struct hT ht rfl
  rw [nth_eq, ← hfs, List.getElem?_map] at hf
  have run : ∀ (w : World) (b p : Nat) (s : Nat), ti.size = s + 1 → (Instr.fieldAt t (.pointer (some ⟨b, p, none⟩)) f).run P w = .ok (.pointer (some ⟨b, p + off, none⟩)) w := by
    intro w b p s hs
    cases hg : gs.toList[f]? with
    | none => simp [hg] at hf
    | some g =>
      simp [hg] at hf
      obtain ⟨h1, h2⟩ := hf
      have hg' : gs[f]? = some g := by rw [← hg]; simp
      have hsz := run_size hT hty w
      rw [← h2, hs] at hsz
      simp [Instr.fieldAt, Sem.run_bind, run_underlying hgs, hg', Instr.sureAddr, fieldPlace, hsz, h1, Addr.add_mid]
  split at hk
  · rename_i s id i j hs hx
    refine good_pure hk (fun β F w a hops _ => ?_)
    have h1 := hops x (by simp [ho, Op.operands]); rw [hx] at h1
    generalize hv : a.eval x = v at h1
    cases h1 with
    | ptr _ _ _ bi hb h =>
      refine ⟨_, ?_, .ptr id i (j + off) bi hb h⟩
      simp only [execOp, ho, hv, Sem.run_bind, run w _ _ s hs, Result.andThen_ok, Sem.run_pure]
      rw [Nat.add_assoc]
  · rename_i s cs hs hx
    refine good_pure hk (fun β F w a hops _ => ?_)
    have h1 := hops x (by simp [ho, Op.operands]); rw [hx] at h1
    generalize hv : a.eval x = v at h1
    cases h1 with
    | cell _ b o' vs hF hl hr h1 hxx =>
      refine ⟨.pointer (some ⟨b, o' + off, none⟩), by simp only [execOp, ho, hv, Sem.run_bind, run w _ _ s hs, Result.andThen_ok, Sem.run_pure], ?_⟩
      refine .cell _ b (o' + off) (vs.drop off) (fun h => hF (by simp at h; omega)) (by simp [hl]) ?_ (fun v hv => h1 v (List.mem_of_mem_drop hv)) ?_
      · intro j v hv'
        rw [List.getElem?_drop] at hv'
        have := hr _ _ hv'
        rwa [← Nat.add_assoc] at this
      · intro k x y h2 h3
        rw [List.getElem?_drop] at h2 h3
        exact hxx _ _ _ h2 h3
  · exact hk.elim

theorem run_part (hT : TabOK P T) {t : Nat} {ti : TI} (h : T t = some ti) (w : World) (vs : List Value) (off : Nat) :
    (ti.k.agg = true → (part t vs.toArray off).run P w = .ok (.agg ((vs.drop off).take ti.size).toArray) w) ∧
    (ti.k.agg = false → ∀ y, vs[off]? = some y → (part t vs.toArray off).run P w = .ok y w) := by
  constructor
  · intro ha
    simp only [part, Sem.run_bind, run_isAgg hT h, ha, Result.andThen_ok, if_true, run_size hT h, Sem.run_pure]
    congr 2
    apply Array.ext'
    simp [List.take_drop]
  · intro ha y hy
    simp [part, Sem.run_bind, run_isAgg hT h, ha, hy]

theorem RepA.acells {β : Pl} {F : Nat → Prop} {w : World} {x : AV} {v : Value} (h : RepA β F w x v) {cs : List AV} (hc : x.acells = some cs) :
    ∃ vs : List Value, v = .agg vs.toArray ∧ cs.length = vs.length ∧ ∀ (k : Nat) (x : AV) (y : Value), cs[k]? = some x → vs[k]? = some y → RepA β F w x y := by
  have h2 : x.cells = some cs := by
    cases x with
    | p y => cases y with
      | val v => cases v <;> simp_all [AV.acells, AV.cells, Value.cells]
      | sl => simp [AV.acells] at hc
      | agg => exact hc
    | agg => exact hc
    | _ => simp [AV.acells] at hc
  obtain ⟨h3, h4⟩ := h.cells h2
  refine ⟨v.cells.toList, ?_, h3, h4⟩
  cases h with
  | p y v hp => cases hp with
    | val v => cases v <;> simp [AV.acells] at hc; rfl
    | sl => simp [AV.acells] at hc
    | agg => rfl
  | agg => rfl
  | _ => simp [AV.acells] at hc

theorem good_field (hT : TabOK P T) {t : TypeId} {x : Operand} {f : Nat} (ho : o.op = .field t x f) (hk : eff T (fun _ _ _ => False) ρ mm nid (.field t x f) k) : Good P o ρ mm nid k := by
  simp only [eff] at hk
  split at hk
  case h_2 => exact hk.elim
  rename_i fs sz by_ z cs ht hcs
  split at hk
  case h_2 => exact hk.elim
  rename_i off ty hf
  split at hk
  case h_2 => exact hk.elim
  rename_i ti hty
  split at hk
  case h_2 => exact hk.elim
  rename_i v hble hmk
  obtain ⟨gs, hgs, hfs⟩ := und_struct hT ht rfl
  rw [nth_eq, ← hfs, List.getElem?_map] at hf
  have hle : off + ti.size ≤ cs.length := Nat.le_of_ble_eq_true hble
  refine good_pure hk (fun β F w a hops _ => ?_)
  have h1 := hops x (by simp [ho, Op.operands])
  obtain ⟨vs, hv, hl, hxx⟩ := h1.acells hcs
  obtain ⟨pl, px⟩ := rep_part hl hxx off ti.size hle
  cases hg : gs.toList[f]? with
  | none => simp [hg] at hf
  | some g =>
    simp [hg] at hf
    obtain ⟨e1, e2⟩ := hf
    have hg' : gs[f]? = some g := by rw [← hg]; simp
    have hrun : ∀ y, (part g.type vs.toArray g.offset).run P w = .ok y w → (execOp a.eval o).run P w = .ok (.value y) w := fun y hy => by
      simp only [execOp, ho, hv, Instr.field, Sem.run_bind, run_underlying hgs, Result.andThen_ok, hg', asAgg, Sem.run_pure, hy]
    rw [e1, e2] at hrun
    rcases mkA_rep pl px hmk with ⟨ha, hr⟩ | ⟨ha, y, hy, hr⟩
    · exact ⟨_, hrun _ ((run_part hT hty w vs off).1 ha), hr⟩
    · refine ⟨y, hrun _ ((run_part hT hty w vs off).2 ha y ?_), hr⟩
      have : ((vs.drop off).take ti.size)[0]? = some y := by rw [hy]; rfl
      have hsz : 0 < ti.size := by
        have : ((vs.drop off).take ti.size).length = 1 := by rw [hy]; rfl
        simp at this; omega
      rw [List.getElem?_take_of_lt hsz, List.getElem?_drop] at this
      simpa using this

theorem good_index (hT : TabOK P T) {t : TypeId} {x ix : Operand} (ho : o.op = .index t x ix) (hk : effIndex T t (ρ x) (ρ ix) k) : Good P o ρ mm nid k := by
  unfold effIndex at hk
  split at hk
  case h_2 => exact hk.elim
  rename_i n e sz by_ z cs kk i ht hcs hi
  split at hk
  case h_2 => exact hk.elim
  rename_i ti hte
  split at hk
  case h_2 => exact hk.elim
  rename_i hag hsz
  simp only [chk_iff, obind_iff] at hk
  obtain ⟨h0, hn, y, hy, hk⟩ := hk
  refine good_pure hk (fun β F w a hops _ => ?_)
  have h1 := hops x (by simp [ho, Op.operands])
  have h2 := hops ix (by simp [ho, Op.operands]); rw [intOf_spec hi] at h2
  obtain ⟨vs, hv, hl, hxx⟩ := h1.acells hcs
  have hlt : i.toNat < vs.length := by rw [← hl]; exact (List.getElem?_eq_some_iff.1 hy).1
  refine ⟨vs[i.toNat], ?_, hxx _ y _ hy (List.getElem?_eq_getElem hlt)⟩
  have hp := (run_part hT hte w vs i.toNat).2 hag _ (List.getElem?_eq_getElem hlt)
  simp only [execOp, ho, hv, repInt h2, Instr.index, asIntOf, Sem.run_bind, Sem.run_pure, Result.andThen_ok, run_underlying (und_arr hT ht rfl)]
  rw [if_pos ⟨h0, hn⟩]
  simp only [Sem.run_bind, run_size hT hte, hsz, Result.andThen_ok, Nat.mul_one, hp]

theorem good_strIx (hT : TabOK P T) {t : TypeId} {x ix : Operand} (ho : o.op = .index t x ix) {sz by_ : Nat} {z : List Value} (ht : T t = some ⟨.str, sz, by_, z⟩) (hk : effStrIx (ρ x) (ρ ix) k) : Good P o ρ mm nid k := by
  unfold effStrIx at hk
  split at hk
  case h_2 => exact hk.elim
  rename_i s kk i hx hi
  simp only [chk_iff, obind_iff] at hk
  obtain ⟨h0, b, hb, hk⟩ := hk
  have hu : P.underlying t = some .string := by
    obtain ⟨d, h1, h2⟩ := hT.und t _ ht
    cases d <;> simp_all [TK.ok]
  refine good_pure hk (fun β F w a hops _ => ⟨_, ?_, .p _ _ (.val _)⟩)
  have h1 := hops x (by simp [ho, Op.operands]); rw [hx] at h1
  have h2 := hops ix (by simp [ho, Op.operands]); rw [intOf_spec hi] at h2
  simp only [execOp, ho, repVal h1, repInt h2, Instr.index, asIntOf, Sem.run_bind, Sem.run_pure, Result.andThen_ok, run_underlying hu]
  rw [if_pos h0, hb]
  rfl

theorem isNilA_spec {y : AV} (h : isNilA y = true) : y = .p (.val (.slice none 0 0)) := by
  unfold isNilA at h
  split at h
  · rfl
  · cases h
theorem good_nil (hT : TabOK P T) {op : BinOp} {t u : TypeId} {x y : Operand} {xv : PV} (ho : o.op = .binOp op t x y u) (hx : ρ x = .p xv) (hy : ρ y = .p (.val (.slice none 0 0))) (hk : effNil T op t xv k) : Good P o ρ mm nid k := by
  unfold effNil at hk
  split at hk
  case h_2 => exact hk.elim
  rename_i e sz by_ z ht
  have hu := und_slice hT ht rfl
  have run : ∀ (ac : Act) (w : World) (a : Option Addr) (n c : Nat), ac.eval x = .slice a n c → ac.eval y = .slice none 0 0 → (execOp ac.eval o).run P w = .ok (.value (.bool a.isNone)) w := by
    intro ac w a n c h1 h2
    have he : (Op.equal t (.slice a n c) (.slice none 0 0)).run P w = .ok a.isNone w := by
      unfold Op.equal
      rw [show Op.maxDepth = 9999 + 1 from rfl]
      unfold Op.equalIn
      rw [Sem.run_bind, run_underlying hu]
      cases a <;> rfl
    have hb : (binOp .eql t (.slice a n c) (.slice none 0 0)).run P w = .ok (.bool a.isNone) w := by
      simp [binOp, he]
    have hg : (eqGuard .eql t x y (.slice a n c) (.slice none 0 0)).run P w = .ok () w := by unfold eqGuard; simp
    simp only [execOp, ho, h1, h2, Sem.run_bind, hg, hb, Result.andThen_ok, Sem.run_pure]
  have oy : ∀ {β : Pl} {F : Nat → Prop} {w : World} {a : Act}, (∀ x, x ∈ o.op.operands → RepA β F w (ρ x) (a.eval x)) → a.eval y = .slice none 0 0 := fun hops => by
    have h2 := hops y (by simp [ho, Op.operands]); rw [hy] at h2; exact repVal h2
  split at hk
  · refine good_pure hk (fun β F w a hops _ => ?_)
    have h1 := hops x (by simp [ho, Op.operands]); rw [hx] at h1
    exact ⟨_, run a w _ _ _ (repVal h1) (oy hops), .p _ _ (.val _)⟩
  · refine good_pure hk (fun β F w a hops _ => ?_)
    have h1 := hops x (by simp [ho, Op.operands]); rw [hx] at h1
    exact ⟨_, run a w _ _ _ (repVal h1) (oy hops), .p _ _ (.val _)⟩
  · refine good_pure hk (fun β F w a hops _ => ?_)
    have h1 := hops x (by simp [ho, Op.operands]); rw [hx] at h1
    generalize hq : a.eval x = q at h1
    cases h1 with
    | p _ _ hp =>
      cases hp with
      | sl _ ad c b o' sz vv hc ha hs hxx =>
        obtain ⟨rfl, _⟩ := ha (by simp)
        exact ⟨_, run a w _ _ _ hq (oy hops), .p _ _ (.val _)⟩
  · exact hk.elim

theorem good_indexAddr (hT : TabOK P T) {t : TypeId} {x ix : Operand} (ho : o.op = .indexAddr t x ix) (hk : effIndexAddr T t (ρ x) (ρ ix) k) : Good P o ρ mm nid k := by
  unfold effIndexAddr at hk
  split at hk
  · rename_i kk i e sz by_ z hi ht
    split at hk
    case h_2 => exact hk.elim
    rename_i ti hte
    have run : ∀ (w : World) (b p n c : Nat), 0 ≤ i → i < n → (Instr.indexAt t (.slice (some ⟨b, p, none⟩) n c) (.int kk i)).run P w = .ok (.pointer (some ⟨b, p + i.toNat * ti.size, none⟩)) w := by
      intro w b p n c h0 hn
      simp only [Instr.indexAt, asIntOf, Sem.run_bind, Sem.run_pure, Result.andThen_ok, run_underlying (und_slice hT ht rfl)]
      rw [if_pos ⟨h0, hn⟩]
      simp only [Sem.run_bind, run_size hT hte, Result.andThen_ok, Addr.add_mid, Sem.run_pure]
    split at hk
    · rename_i id sz' n hx
      split at hk
      case h_2 => exact hk.elim
      rename_i hbeq
      simp only [chk_iff, obind_iff] at hk
      obtain ⟨h0, hn, hk⟩ := hk
      have hsz : sz' = ti.size := Nat.eq_of_beq_eq_true hbeq
      refine good_pure hk (fun β F w a hops _ => ?_)
      have h1 := hops x (by simp [ho, Op.operands]); rw [hx] at h1
      have h2 := hops ix (by simp [ho, Op.operands]); rw [intOf_spec hi] at h2
      generalize hq : a.eval x = q at h1
      cases h1 with
      | ownNil _ _ _ bi hb h hn0 => omega
      | own _ _ _ bi hb h hz hn' hcc =>
        refine ⟨_, (by simp only [execOp, ho, hq, repInt h2, Sem.run_bind, run w _ _ n _ h0 hn, Result.andThen_ok, Sem.run_pure]; rfl), ?_⟩
        have := RepA.ptr (F := F) (w := w) id i.toNat 0 bi hb h
        rw [← hz, hsz] at this
        exact this
    · rename_i id sz' off n hx
      split at hk
      case h_2 => exact hk.elim
      rename_i hbeq
      simp only [chk_iff, obind_iff] at hk
      obtain ⟨h0, hn, hk⟩ := hk
      have hsz : sz' = ti.size := Nat.eq_of_beq_eq_true hbeq
      refine good_pure hk (fun β F w a hops _ => ?_)
      have h1 := hops x (by simp [ho, Op.operands]); rw [hx] at h1
      have h2 := hops ix (by simp [ho, Op.operands]); rw [intOf_spec hi] at h2
      generalize hq : a.eval x = q at h1
      cases h1 with
      | win _ _ _ _ c bi hb h hz hc hn' hoo =>
        refine ⟨_, (by simp only [execOp, ho, hq, repInt h2, Sem.run_bind, run w _ _ n _ h0 hn, Result.andThen_ok, Sem.run_pure]; rfl), ?_⟩
        have := RepA.ptr (F := F) (w := w) id (off + i.toNat) 0 bi hb h
        rw [← hz, hsz, Nat.add_mul, ← Nat.add_assoc] at this
        rw [← hz, hsz]
        exact this
    · rename_i els hx
      simp only [chk_iff, obind_iff] at hk
      obtain ⟨h0, el, hel, hlen, hk⟩ := hk
      refine good_pure hk (fun β F w a hops _ => ?_)
      have h1 := hops x (by simp [ho, Op.operands]); rw [hx] at h1
      have h2 := hops ix (by simp [ho, Op.operands]); rw [intOf_spec hi] at h2
      have hlt : i.toNat < els.length := (List.getElem?_eq_some_iff.1 hel).1
      generalize hq : a.eval x = q at h1
      cases h1 with
      | p _ _ hp => cases hp with
        | sl _ a' c b o' sz' vv hc ha hs hxx =>
          obtain ⟨rfl, hF⟩ := ha (by omega)
          obtain ⟨e1, e2, e3, e4⟩ := hs _ _ hel
          have hsz : sz' = ti.size := by omega
          refine ⟨_, (by simp only [execOp, ho, hq, repInt h2, Sem.run_bind, run w _ _ els.length _ h0 (by omega), Result.andThen_ok, Sem.run_pure]; rfl), ?_⟩
          rw [← hsz]
          exact .cell el b _ (vv i.toNat) (fun _ => hF.1) (by omega) e3 e4 (fun k x y hx hy => hxx _ _ _ _ _ hel hx hy)
    · exact hk.elim
  · rename_i kk i n e sz by_ z hi ht
    split at hk
    case h_2 => exact hk.elim
    rename_i ti hte
    have run : ∀ (w : World) (b p : Nat), 0 ≤ i → i < n → (Instr.indexAt t (.pointer (some ⟨b, p, none⟩)) (.int kk i)).run P w = .ok (.pointer (some ⟨b, p + i.toNat * ti.size, none⟩)) w := by
      intro w b p h0 hn
      simp only [Instr.indexAt, asIntOf, Sem.run_bind, Sem.run_pure, Result.andThen_ok, run_underlying (und_arr hT ht rfl), Instr.sureAddr]
      simp only [if_pos (And.intro h0 hn), Sem.run_bind, run_size hT hte, Result.andThen_ok, Addr.add_mid, Sem.run_pure]
    split at hk
    · rename_i id i0 j hx
      simp only [chk_iff, obind_iff] at hk
      obtain ⟨h0, hn, hk⟩ := hk
      refine good_pure hk (fun β F w a hops _ => ?_)
      have h1 := hops x (by simp [ho, Op.operands]); rw [hx] at h1
      have h2 := hops ix (by simp [ho, Op.operands]); rw [intOf_spec hi] at h2
      generalize hq : a.eval x = q at h1
      cases h1 with
      | ptr _ _ _ bi hb h =>
        refine ⟨_, (by simp only [execOp, ho, hq, repInt h2, Sem.run_bind, run w _ _ h0 hn, Result.andThen_ok, Sem.run_pure]; rfl), ?_⟩
        have := RepA.ptr (F := F) (w := w) id i0 (j + i.toNat * ti.size) bi hb h
        rw [← Nat.add_assoc] at this
        exact this
    · rename_i cs hx
      simp only [chk_iff, obind_iff] at hk
      obtain ⟨h0, hn, hle, hk⟩ := hk
      refine good_pure hk (fun β F w a hops _ => ?_)
      have h1 := hops x (by simp [ho, Op.operands]); rw [hx] at h1
      have h2 := hops ix (by simp [ho, Op.operands]); rw [intOf_spec hi] at h2
      generalize hq : a.eval x = q at h1
      cases h1 with
      | cell _ b o' vs hF hl hr h1 hxx =>
        refine ⟨_, (by simp only [execOp, ho, hq, repInt h2, Sem.run_bind, run w _ _ h0 hn, Result.andThen_ok, Sem.run_pure]; rfl), ?_⟩
        refine .cell _ b _ (vs.drop (i.toNat * ti.size)) (fun h => hF (by simp at h; omega)) (by simp [hl]) ?_ (fun v hv => h1 v (List.mem_of_mem_drop hv)) ?_
        · intro j v hv'
          rw [List.getElem?_drop] at hv'
          have := hr _ _ hv'
          rwa [← Nat.add_assoc] at this
        · intro k x y h2 h3
          rw [List.getElem?_drop] at h2 h3
          exact hxx _ _ _ h2 h3
    · exact hk.elim
  · exact hk.elim
end ops
end Go.Am

set_option linter.unusedVariables false
namespace Go.Am
open Go
section ops
variable {P : Program} {T : Tab} (hT : TabOK P T) {o : Oper} {ρ : Operand → AV} {mm : Mem} {nid : Nat} {k : Delta → Prop}

theorem rep_lift {β : Pl} {F : Nat → Prop} {w : World} {cs : List PV} {vs : List Value} (hx : ∀ (k : Nat) (x : PV) (y : Value), cs[k]? = some x → vs[k]? = some y → RepP F w x y) :
    ∀ (k : Nat) (x : AV) (y : Value), (cs.map AV.p)[k]? = some x → vs[k]? = some y → RepA β F w x y := by
  intro k x y h1 h2
  rw [List.getElem?_map] at h1
  cases h3 : cs[k]? with
  | none => simp [h3] at h1
  | some z => simp [h3] at h1; subst h1; exact .p _ _ (hx k z y h3 h2)

theorem rangeAt_part {w : World} {b o : Nat} {vs : List Value} (h : w.rangeAt b o vs) (j n : Nat) : w.rangeAt b (o + j) ((vs.drop j).take n) := by
  intro k v hv
  by_cases hk : k < n
  · rw [List.getElem?_take_of_lt hk, List.getElem?_drop] at hv
    have := h _ _ hv
    rwa [← Nat.add_assoc] at this
  · rw [List.getElem?_eq_none (by simp; omega)] at hv; cases hv

include hT in
theorem load_any {t : TypeId} {x : Operand} (ho : o.op = .load t x) {ti : TI} (ht : T t = some ti) (a : Act) (w : World) (b p : Nat) (vs : List Value) (hv : w.rangeAt b p vs) (hl : vs.length = ti.size)
    (hq : a.eval x = .pointer (some ⟨b, p, none⟩)) {β : Pl} {F : Nat → Prop} {cs : List AV} (hcl : cs.length = vs.length) (hx : ∀ (k : Nat) (x : AV) (y : Value), cs[k]? = some x → vs[k]? = some y → RepA β F w x y)
    {v : AV} (hm : mkA ti.k.agg cs = some v) : ∃ u, (execOp a.eval o).run P w = .ok (.value u) w ∧ RepA β F w v u := by
  obtain ⟨r1, r2⟩ := run_load hT ht w b p vs hv hl
  rcases mkA_rep hcl hx hm with ⟨ha, hr⟩ | ⟨ha, y, hy, hr⟩
  · exact ⟨_, by simp only [execOp, ho, hq, Sem.run_bind, r1 ha, Result.andThen_ok, Sem.run_pure], hr⟩
  · exact ⟨y, by simp only [execOp, ho, hq, Sem.run_bind, r2 ha y hy, Result.andThen_ok, Sem.run_pure], hr⟩

include hT in
theorem good_load {t : TypeId} {x : Operand} (ho : o.op = .load t x) (hk : effLoad T mm t (ρ x) k) : Good P o ρ mm nid k := by
  unfold effLoad at hk
  split at hk
  case h_2 => exact hk.elim
  rename_i ti ht
  split at hk
  · rename_i cs hx
    split at hk
    case h_2 => exact hk.elim
    rename_i v hble hmk
    have hle := Nat.le_of_ble_eq_true hble
    refine good_pure hk (fun β F w a hops _ => ?_)
    have h1 := hops x (by simp [ho, Op.operands]); rw [hx] at h1
    generalize hq : a.eval x = q at h1
    cases h1 with
    | cell _ b p vs hF hl hr h1 hxx =>
      have hr' := rangeAt_part hr 0 ti.size
      simp only [List.drop_zero, Nat.add_zero] at hr'
      refine load_any hT ho ht a w b p (vs.take ti.size) hr' (by simp; omega) hq (cs := (cs.take ti.size).map .p) (by simp [hl]) (rep_lift ?_) hmk
      intro k x y h2 h3
      by_cases hk' : k < ti.size
      · rw [List.getElem?_take_of_lt hk'] at h2 h3; exact hxx _ _ _ h2 h3
      · rw [List.getElem?_eq_none (by simp; omega)] at h2; cases h2
  · rename_i id i j hx
    split at hk
    · rename_i cs hm
      split at hk
      case h_2 => exact hk.elim
      rename_i _ v hi hble hmk
      have hle := Nat.le_of_ble_eq_true hble
      refine good_pure hk (fun β F w a hops hrd => ?_)
      have h1 := hops x (by simp [ho, Op.operands]); rw [hx] at h1
      obtain ⟨bi, hb, hok⟩ := hrd id (by simp) _ hm
      generalize hq : a.eval x = q at h1
      cases h1 with
      | ptr _ _ _ bi' hb' h =>
        rw [hb] at hb'; cases hb'
        cases hok with
        | box _ vs h hn hc hn1 hr hl hv h1 hxx hF =>
          obtain ⟨pl, px⟩ := rep_part hl hxx j ti.size hle
          have hr' := rangeAt_part hv j ti.size
          simp only [Nat.zero_mul, Nat.add_zero] at hq
          exact load_any hT ho ht a w _ _ _ hr' (by simp; omega) hq pl px hmk
    · rename_i sz els own hm
      simp only [chk_iff, obind_iff] at hk
      obtain ⟨el, hel, hk⟩ := hk
      split at hk
      case h_2 => exact hk.elim
      rename_i v hble hmk
      have hle := Nat.le_of_ble_eq_true hble
      refine good_pure hk (fun β F w a hops hrd => ?_)
      have h1 := hops x (by simp [ho, Op.operands]); rw [hx] at h1
      obtain ⟨bi, hb, hok⟩ := hrd id (by simp) _ hm
      generalize hq : a.eval x = q at h1
      cases h1 with
      | ptr _ _ _ bi' hb' h =>
        rw [hb] at hb'; cases hb'
        cases hok with
        | nil sz hn0 hn own => rw [h] at hn0; cases hn0
        | row sz els own h hz hn hc hr hs ho' hf =>
          obtain ⟨vv, hvv⟩ := hs
          obtain ⟨e1, e2, e3, e4, e5⟩ := hvv i el hel
          have hr' := rangeAt_part e3 j ti.size
          have hll : (el.map AV.p).length = (vv i).length := by simp; omega
          obtain ⟨pl, px⟩ := rep_part (β := β) hll (rep_lift (fun k x y h2 h3 => e5 k x y h2 h3)) j ti.size (by simpa using hle)
          refine load_any hT ho ht a w _ _ _ hr' (by simp; omega) hq pl px ?_
          rw [List.map_take, List.map_drop] at hmk
          exact hmk
    · exact hk.elim
  · exact hk.elim

/-! ### New blocks -/
def put (β : Pl) (id : Nat) (bi : BI) : Pl := fun k => if k = id then some bi else β k

theorem alloc_heap_lt (w : World) (ob : Obj) {k : Nat} (h : k < w.heap.size) : (w.alloc ob).heap[k]? = w.heap[k]? := RowKit.Below.heap_alloc w ob k h

theorem Eff.alloc {nid : Nat} {β : Pl} {F : Nat → Prop} {w w0 : World} {x : AV} {rd frz kill : List Nat} {B : Blk} {bi : BI} {v : Value} {ob : Obj} {F' : Nat → Prop}
    (h0 : w0 = w ∨ w0 = w.drew) (hF : ∀ b, F b → b < w.heap.size) (hfresh : β nid = none) (hb : bi.nil = false → bi.b = w.heap.size)
    (hF' : ∀ b, F' b ↔ F b ∨ ∃ id ∈ frz, ∃ b0, β id = some b0 ∧ b0.nil = false ∧ b0.b = b)
    (hB : BlkOK (put β nid bi) F' (w0.alloc ob) bi B) (hv : RepA (put β nid bi) F' (w0.alloc ob) x v) :
    Eff { v := x, rd := rd, frz := frz, kill := kill, news := [B] } nid β F w v (put β nid bi) F' (w0.alloc ob) := by
  have hs : w0.heap = w.heap := by rcases h0 with h | h <;> rw [h] <;> rfl
  exact {
    os := by rcases h0 with h | h <;> rw [h] <;> rfl
    tape := by rcases h0 with h | h <;> rw [h] <;> rfl
    output := by rcases h0 with h | h <;> rw [h] <;> rfl
    size := by show w.heap.size ≤ (w0.heap.push ob).size; rw [hs]; simp
    ext := fun id b h => by
      unfold Am.put
      split
      · rename_i e; subst e; rw [hfresh] at h; cases h
      · exact h
    dom := fun id h h2 => by
      unfold Am.put
      rw [if_neg (by simp at h2; omega)]; exact h
    keep := fun k hk _ => by rw [alloc_heap_lt _ _ (by rw [hs]; exact hk), hs]
    Fm := fun b h => (hF' b).2 (.inl h)
    Fn := fun b h => by
      rcases (hF' b).1 h with h | h
      · exact .inl h
      · exact .inr (.inr h)
    Fz := fun id hid b0 h1 h2 => (hF' _).2 (.inr ⟨id, hid, b0, h1, h2, rfl⟩)
    val := hv
    news := fun k B' h => by
      cases k with
      | zero =>
        simp at h; subst h
        exact ⟨bi, by simp [Am.put], hB, fun hn => .inl (by rw [hb hn]; exact Nat.le_refl _)⟩
      | succ k => simp at h
    inj := fun k l bi bj h h1 h2 => by simp at h1 h2; omega
    box := fun _ _ _ h => by cases h
    elem := fun _ _ _ h => by cases h
    all := fun _ _ h => by cases h }

theorem Fits.news {x : AV} {rd frz kill : List Nat} {bs : List Blk} {nid : Nat} {mm : Mem} (hn : ∀ j, nid ≤ j → mm j = none) (hk : ∀ id ∈ kill, ∃ sz els, mm id = some (.row sz els true)) (hz : ∀ id ∈ frz, ∃ sz els o, mm id = some (.row sz els o))
    (ha : ∀ id ∈ kill, id ∉ frz) : Fits { v := x, rd := rd, frz := frz, kill := kill, news := bs } nid mm where
  box := fun _ _ _ h => by cases h
  elem := fun _ _ _ h => by cases h
  all := fun _ _ h => by cases h
  kill := hk
  frz := hz
  fresh := fun k _ => hn _ (by omega)
  apart := fun id h => ha id (by simpa [Delta.tch] using h)
  wk := fun _ h => by cases h

theorem iff_frz_nil {F : Nat → Prop} {β : Pl} : ∀ b, F b ↔ F b ∨ ∃ id ∈ ([] : List Nat), ∃ b0, β id = some b0 ∧ b0.nil = false ∧ b0.b = b := fun b => ⟨.inl, fun h => by
  rcases h with h | ⟨id, h, _⟩
  · exact h
  · cases h⟩

theorem rangeAt_alloc_new (w : World) (cs : Array Value) (t : TypeId) : (w.alloc (.cells cs t)).rangeAt w.heap.size 0 cs.toList := by
  intro j v hv
  have : (w.alloc (.cells cs t)).heap[w.heap.size]? = some (.cells cs t) := heap_alloc_new w _
  simp only [World.cell?, this, Nat.zero_add]
  simpa using hv

/-- A new boxed variable. -/
theorem box_new {β : Pl} {F : Nat → Prop} {w : World} {cs : List AV} {vs : List Value} (hF : ∀ b, F b → b < w.heap.size) (hfresh : β nid = none) (hl : cs.length = vs.length) (h1 : ∀ v ∈ vs, v.oneCell' = true)
    (hx : ∀ (k : Nat) (x : AV) (y : Value), cs[k]? = some x → vs[k]? = some y → RepA β F w x y) (t : TypeId) :
    Eff { v := .ptr nid 0 0, news := [.box cs] } nid β F w (.pointer (some ⟨w.heap.size, 0, none⟩)) (put β nid ⟨w.heap.size, 0, cs.length, 1, 1, false⟩) F (w.alloc (.cells vs.toArray t)) := by
  let bi : BI := ⟨w.heap.size, 0, cs.length, 1, 1, false⟩
  have hext : ∀ id b, β id = some b → put β nid ⟨w.heap.size, 0, cs.length, 1, 1, false⟩ id = some b := fun id b h => by
    unfold Am.put
    split
    · rename_i e; subst e; rw [hfresh] at h; cases h
    · exact h
  have hFk : ∀ b, F b → (w.alloc (.cells vs.toArray t)).heap[b]? = w.heap[b]? := fun b hb => alloc_heap_lt _ _ (hF b hb)
  have hnew : (w.alloc (.cells vs.toArray t)).heap[w.heap.size]? = some (.cells vs.toArray t) := heap_alloc_new w _
  refine Eff.alloc (bi := bi) (w0 := w) (.inl rfl) hF hfresh (fun _ => rfl) iff_frz_nil ?_ ?_
  · refine .box cs vs rfl rfl rfl rfl ⟨_, _, hnew, by show 0 + 1 * cs.length ≤ vs.toArray.size; simp; omega⟩ hl (rangeAt_alloc_new _ _ _) h1 (fun k x y h2 h3 => (hx k x y h2 h3).mono hext (fun _ h => h) hFk) (fun h => Nat.lt_irrefl _ (hF _ h))
  · have := RepA.ptr (β := put β nid bi) (F := F) (w := w.alloc (.cells vs.toArray t)) nid 0 0 bi (by simp [Am.put]) rfl
    simpa [bi] using this

include hT in
theorem good_alloc {e : TypeId} (ho : o.op = .alloc e) (hn : ∀ j, nid ≤ j → mm j = none) (hk : eff T (fun _ _ _ => False) ρ mm nid (.alloc e) k) : Good P o ρ mm nid k := by
  simp only [eff] at hk
  split at hk
  case h_2 => exact hk.elim
  rename_i ti ht
  refine ⟨_, hk, ?_, .news hn (fun _ h => by cases h) (fun _ h => by cases h) (fun _ h => by cases h)⟩
  intro β F w a next Q hops hF hrd hwr hfresh hinj hnext
  obtain ⟨z, hz, hzc, hz1, hzl⟩ := run_zero hT ht w
  have hE := box_new (nid := nid) (cs := ti.zero.map fun v => .p (.val v)) (vs := ti.zero) hF (hfresh 0 (by simp)) (by simp) hz1 (fun k x y h1 h2 => by
    rw [List.getElem?_map, h2] at h1; simp at h1; subst h1; exact .p _ _ (.val _)) e
  have := hnext _ _ _ _ hE
  unfold Oper.wp
  have hz' : z.cells = ti.zero.toArray := by rw [← hzc]
  simp only [execOp, ho, Instr.alloc, Sem.run_bind, hz, Result.andThen_ok, newVar, newRow, hz', newObj, Sem.run, Sem.run_pure, Oper.upon]
  exact this

theorem good_box {e : TypeId} {x : Operand} (ho : o.op = .box e x) (hn : ∀ j, nid ≤ j → mm j = none) (hk : eff T (fun _ _ _ => False) ρ mm nid (.box e x) k) : Good P o ρ mm nid k := by
  simp only [eff] at hk
  split at hk
  case h_2 => exact hk.elim
  rename_i cs hcs
  split at hk
  case h_2 => exact hk.elim
  rename_i h1
  refine ⟨_, hk, ?_, .news hn (fun _ h => by cases h) (fun _ h => by cases h) (fun _ h => by cases h)⟩
  intro β F w a next Q hops hF hrd hwr hfresh hinj hnext
  have hx := hops x (by simp [ho, Op.operands])
  obtain ⟨hl, hxx⟩ := hx.cells hcs
  have hE := box_new (nid := nid) (cs := cs) (vs := (a.eval x).cells.toList) hF (hfresh 0 (by simp)) hl (hx.cells_one hcs h1) hxx e
  have := hnext _ _ _ _ hE
  unfold Oper.wp
  simp only [execOp, ho, Instr.box, Sem.run_bind, Result.andThen_ok, newVar, newRow, newObj, Sem.run, Sem.run_pure, Oper.upon]
  simpa using this
end ops
end Go.Am

set_option linter.unusedVariables false
namespace Go.Am
open Go

/-! ### Rows as flat lists -/
theorem flat_lt {i n j sz : Nat} (hi : i < n) (hj : j < sz) : i * sz + j < n * sz := by
  have : i * sz + sz ≤ n * sz := by rw [← Nat.succ_mul]; exact Nat.mul_le_mul_right _ hi
  omega

theorem rowsAt_flat {F : Nat → Prop} {w : World} {b o sz : Nat} {els : List (List PV)} {flat : List Value} (hr : w.rangeAt b o flat) (h1 : ∀ v ∈ flat, v.oneCell' = true) (hl : els.length * sz ≤ flat.length)
    (he : ∀ (i : Nat) (e : List PV), els[i]? = some e → e.length = sz)
    (hx : ∀ (i : Nat) (e : List PV) (j : Nat) (x : PV) (y : Value), els[i]? = some e → e[j]? = some x → flat[i * sz + j]? = some y → RepP F w x y) : RowsAt F w b o sz els := by
  refine ⟨fun i => (flat.drop (i * sz)).take sz, fun i e hi => ?_⟩
  have hlt : i < els.length := (List.getElem?_eq_some_iff.1 hi).1
  have hle : i * sz + sz ≤ els.length * sz := by rw [← Nat.succ_mul]; exact Nat.mul_le_mul_right _ hlt
  refine ⟨he i e hi, by simp; omega, rangeAt_part hr _ _, fun v hv => h1 v (List.mem_of_mem_drop (List.mem_of_mem_take hv)), fun j x y hj hy => ?_⟩
  have hjs : j < sz := by have := (List.getElem?_eq_some_iff.1 hj).1; have := he i e hi; omega
  rw [List.getElem?_take_of_lt hjs, List.getElem?_drop] at hy
  exact hx i e j x y hi hj hy

def flatOf (vv : Nat → List Value) : Nat → List Value
  | 0 => []
  | n + 1 => flatOf vv n ++ vv n
theorem flatOf_length {vv : Nat → List Value} {sz n : Nat} (h : ∀ i, i < n → (vv i).length = sz) : (flatOf vv n).length = n * sz := by
  induction n with
  | zero => simp [flatOf]
  | succ n ih => rw [flatOf, List.length_append, ih (fun i hi => h i (by omega)), h n (by omega), Nat.succ_mul]
theorem flatOf_get {vv : Nat → List Value} {sz n : Nat} (h : ∀ i, i < n → (vv i).length = sz) (i j : Nat) (hi : i < n) (hj : j < sz) : (flatOf vv n)[i * sz + j]? = (vv i)[j]? := by
  induction n with
  | zero => omega
  | succ n ih =>
    have hl := flatOf_length (vv := vv) (sz := sz) (n := n) (fun i hi => h i (by omega))
    rw [flatOf]
    by_cases hin : i < n
    · have : i * sz + j < n * sz := flat_lt hin hj
      rw [List.getElem?_append_left (by omega)]
      exact ih (fun i hi => h i (by omega)) hin
    · have : i = n := by omega
      subst this
      rw [List.getElem?_append_right (by omega), hl]
      congr 1; omega
theorem flatOf_mem {vv : Nat → List Value} {n : Nat} {v : Value} (h : v ∈ flatOf vv n) : ∃ i, i < n ∧ v ∈ vv i := by
  induction n with
  | zero => cases h
  | succ n ih =>
    rw [flatOf, List.mem_append] at h
    rcases h with h | h
    · obtain ⟨i, h1, h2⟩ := ih h; exact ⟨i, by omega, h2⟩
    · exact ⟨n, by omega, h⟩

/-- The flat list of rows that lie somewhere. -/
theorem RowsAt.flat {F : Nat → Prop} {w : World} {b o sz : Nat} {els : List (List PV)} (h : RowsAt F w b o sz els) :
    ∃ flat : List Value, flat.length = els.length * sz ∧ w.rangeAt b o flat ∧ (∀ v ∈ flat, v.oneCell' = true) ∧ (∀ (i : Nat) (e : List PV), els[i]? = some e → e.length = sz) ∧
      ∀ (i : Nat) (e : List PV) (j : Nat) (x : PV) (y : Value), els[i]? = some e → e[j]? = some x → flat[i * sz + j]? = some y → RepP F w x y := by
  obtain ⟨vv, h⟩ := h
  have hg : ∀ i, i < els.length → els[i]? = some (els[i]?.getD []) := fun i hi => by simp [List.getElem?_eq_getElem hi]
  have hlen : ∀ i, i < els.length → (vv i).length = sz := fun i hi => (h i _ (hg i hi)).2.1
  refine ⟨flatOf vv els.length, flatOf_length hlen, ?_, ?_, fun i e hi => (h i e hi).1, ?_⟩
  · intro k v hk
    have hklt : k < els.length * sz := by have := (List.getElem?_eq_some_iff.1 hk).1; rwa [flatOf_length hlen] at this
    have hsz : 0 < sz := by
      rcases Nat.eq_zero_or_pos sz with h0 | h0
      · subst h0; omega
      · exact h0
    have hdiv : k / sz < els.length := (Nat.div_lt_iff_lt_mul hsz).2 hklt
    have hmod : k % sz < sz := Nat.mod_lt _ hsz
    have hk' : k = k / sz * sz + k % sz := by rw [Nat.mul_comm]; exact (Nat.div_add_mod k sz).symm
    rw [hk', flatOf_get hlen _ _ hdiv hmod] at hk
    have := (h _ _ (hg _ hdiv)).2.2.1 _ _ hk
    rw [Nat.add_assoc, ← hk'] at this
    exact this
  · intro v hv
    obtain ⟨i, h1, h2⟩ := flatOf_mem hv
    exact (h i _ (hg i h1)).2.2.2.1 v h2
  · intro i e j x y hi hj hy
    have hlt : i < els.length := (List.getElem?_eq_some_iff.1 hi).1
    have hjs : j < sz := by have := (List.getElem?_eq_some_iff.1 hj).1; have := (h i e hi).1; omega
    rw [flatOf_get hlen i j hlt hjs] at hy
    exact (h i e hi).2.2.2.2 j x y hj hy

section ops
variable {P : Program} {T : Tab} (hT : TabOK P T) {o : Oper} {ρ : Operand → AV} {mm : Mem} {nid : Nat} {k : Delta → Prop}

/-- A new row. -/
theorem row_new {β : Pl} {F F' : Nat → Prop} {w w0 : World} {els : List (List PV)} {sz n cap : Nat} {c : Array Value} {rd frz kill : List Nat} (h0 : w0 = w ∨ w0 = w.drew) (hF : ∀ b, F b → b < w.heap.size) (hfresh : β nid = none)
    (hF' : ∀ b, F' b ↔ F b ∨ ∃ id ∈ frz, ∃ b0, β id = some b0 ∧ b0.nil = false ∧ b0.b = b) (hlt' : ∀ b, F' b → b < w.heap.size)
    (hn : n = els.length) (hc : n ≤ cap) (hcs : cap * sz ≤ c.size) (flat rest : List Value) (hflat : c.toList = flat ++ rest) (h1 : ∀ v ∈ flat, v.oneCell' = true) (hl : els.length * sz ≤ flat.length)
    (he : ∀ (i : Nat) (e : List PV), els[i]? = some e → e.length = sz)
    (hx : ∀ (i : Nat) (e : List PV) (j : Nat) (x : PV) (y : Value), els[i]? = some e → e[j]? = some x → flat[i * sz + j]? = some y → RepP F' w x y) (t : TypeId) :
    Eff { v := .own nid sz n, rd := rd, frz := frz, kill := kill, news := [.row sz els true] } nid β F w (.slice (some ⟨w.heap.size, 0, none⟩) n cap) (put β nid ⟨w.heap.size, 0, sz, n, cap, false⟩) F' (w0.alloc (.cells c t)) := by
  let bi : BI := ⟨w.heap.size, 0, sz, n, cap, false⟩
  have hs : w0.heap = w.heap := by rcases h0 with h | h <;> rw [h] <;> rfl
  have hFk : ∀ b, F' b → (w0.alloc (.cells c t)).heap[b]? = w.heap[b]? := fun b hb => by rw [alloc_heap_lt _ _ (by rw [hs]; exact hlt' b hb), hs]
  have hnew : (w0.alloc (.cells c t)).heap[w.heap.size]? = some (.cells c t) := by rw [← hs]; exact heap_alloc_new w0 _
  have hrange : (w0.alloc (.cells c t)).rangeAt w.heap.size 0 flat := by
    intro j v hv
    have hh := rangeAt_alloc_new w0 c t j v (by rw [hflat, List.getElem?_append_left (List.getElem?_eq_some_iff.1 hv).1]; exact hv)
    rwa [hs] at hh
  refine Eff.alloc (bi := bi) (w0 := w0) h0 hF hfresh (fun _ => rfl) hF' ?_ ?_
  · refine .row sz els true rfl rfl hn hc ⟨_, _, hnew, by show 0 + cap * sz ≤ c.size; omega⟩ ?_ (fun _ h => Nat.lt_irrefl _ (hlt' _ h)) (fun h => by cases h)
    exact rowsAt_flat hrange h1 hl he (fun i e j x y hi hj hy => (hx i e j x y hi hj hy).mono (fun _ h => h) hFk)
  · have := RepA.own (β := put β nid bi) (F := F') (w := w0.alloc (.cells c t)) nid sz n bi (by simp [Am.put]) rfl rfl rfl hc
    exact this

theorem iff_nil {F : Nat → Prop} {β : Pl} : ∀ b, F b ↔ F b ∨ ∃ id ∈ ([] : List Nat), ∃ b0, β id = some b0 ∧ b0.nil = false ∧ b0.b = b := iff_frz_nil

include hT in
theorem good_makeSlice {t : TypeId} {l c : Operand} (ho : o.op = .makeSlice t l c) (hn : ∀ j, nid ≤ j → mm j = none) (hk : eff T (fun _ _ _ => False) ρ mm nid (.makeSlice t l c) k) : Good P o ρ mm nid k := by
  simp only [eff] at hk
  split at hk
  case h_2 => exact hk.elim
  rename_i e sz by_ z ht
  split at hk
  case h_2 => exact hk.elim
  rename_i ti k1 a k2 b hte hl hc
  simp only [chk_iff, obind_iff] at hk
  obtain ⟨h0, hab, hby, h63, hk⟩ := hk
  subst hab
  refine ⟨_, hk, ?_, .news hn (fun _ h => by cases h) (fun _ h => by cases h) (fun _ h => by cases h)⟩
  intro β F w ac next Q hops hF hrd hwr hfresh hinj hnext
  have e1 := hops l (by simp [ho, Op.operands]); rw [intOf_spec hl] at e1
  have e2 := hops c (by simp [ho, Op.operands]); rw [intOf_spec hc] at e2
  obtain ⟨i, i1, i2, i3, z', i4, i5, i6, i7⟩ := hT.info e ti hte
  have hrun := run_make (P := P) w t e i z' (und_slice hT ht rfl) i1 i4 k1 k2 a a h0 (Int.le_refl _) (by rw [i3]; exact hby) h63
  have hsz : (madeCells z'.cells (a.toNat * i.size)).size = a.toNat * ti.size := by rw [size_madeCells, i2]
  have hzs : z'.cells.size = ti.size := by rw [← i7, ← i5]; simp
  have hget : ∀ q j : Nat, q < a.toNat → j < ti.size → (madeCells z'.cells (a.toNat * i.size)).toList[q * ti.size + j]? = ti.zero[j]? := by
    intro q j hq hj
    have hlt := flat_lt hq hj
    have hm : (q * ti.size + j) % ti.size = j := by rw [Nat.add_comm, Nat.add_mul_mod_self_right]; exact Nat.mod_eq_of_lt hj
    rw [i2]
    simp only [madeCells, Array.toList_map, Array.toList_range, List.getElem?_map]
    rw [List.getElem?_range hlt]
    simp only [Option.map_some, hzs, hm]
    rw [← i5, Array.getElem?_toList, Array.getElem?_eq_getElem (by omega)]
    congr 1
    exact getElem!_pos _ _ (by omega)
  have hE := row_new (nid := nid) (β := β) (F' := F) (rd := []) (frz := []) (kill := []) (els := List.replicate a.toNat (ti.zero.map fun v => .val v)) (sz := ti.size) (n := a.toNat) (cap := a.toNat) (c := madeCells z'.cells (a.toNat * i.size)) (w := w) (w0 := w) (.inl rfl) hF (hfresh 0 (by simp)) iff_nil hF (by simp) (Nat.le_refl _) (by rw [hsz]; exact Nat.le_refl _)
    (madeCells z'.cells (a.toNat * i.size)).toList [] (by simp) (fun v hv => by
      obtain ⟨k, hk⟩ := List.mem_iff_getElem?.1 hv
      have hklt : k < a.toNat * ti.size := by have := (List.getElem?_eq_some_iff.1 hk).1; simpa [hsz] using this
      have hsz0 : 0 < ti.size := by
        rcases Nat.eq_zero_or_pos ti.size with h | h
        · rw [h] at hklt; omega
        · exact h
      have hk' : k = k / ti.size * ti.size + k % ti.size := by rw [Nat.mul_comm]; exact (Nat.div_add_mod k _).symm
      rw [hk', hget _ _ ((Nat.div_lt_iff_lt_mul hsz0).2 hklt) (Nat.mod_lt _ hsz0)] at hk
      exact i6 v (List.mem_of_getElem? hk)) (by simp [hsz]) (fun q el hq => by
      rw [List.getElem?_replicate] at hq
      split at hq
      · cases hq; simp [i7]
      · cases hq) (fun q el j x y hq hj hy => by
      rw [List.getElem?_replicate] at hq
      split at hq
      · cases hq
        rename_i hqa
        have hjl : j < ti.size := by have := (List.getElem?_eq_some_iff.1 hj).1; simpa [i7] using this
        rw [hget q j hqa hjl] at hy
        rw [List.getElem?_map, hy] at hj
        simp at hj; subst hj; exact .val y
      · cases hq) e
  have := hnext _ _ _ _ hE
  unfold Oper.wp
  simp only [execOp, ho, repInt e1, repInt e2, Sem.run_bind, hrun, Result.andThen_ok, Sem.run_pure, Oper.upon]
  exact this
end ops
end Go.Am

set_option linter.unusedVariables false
namespace Go.Am
open Go

theorem splice_snoc {α : Type} (cs : List α) (o : Nat) (y : α) (ys : List α) (h : o + (ys.length + 1) ≤ cs.length) : splice (cs.set o y) (o + 1) ys = splice cs o (y :: ys) := by
  apply List.ext_getElem?
  intro k
  have hl : (cs.set o y).length = cs.length := by simp
  by_cases h1 : k < o
  · rw [splice_out _ _ _ (by omega) k (by omega), splice_out _ _ _ (by simp; omega) k (by omega), List.getElem?_set_ne (by omega)]
  · by_cases h2 : k = o
    · subst h2
      rw [splice_out _ _ _ (by omega) k (by omega), splice_in _ _ _ (by simp; omega) k (by omega) (by simp), List.getElem?_set_self (by omega)]
      simp
    · by_cases h3 : k < o + 1 + ys.length
      · rw [splice_in _ _ _ (by omega) k (by omega) (by omega), splice_in _ _ _ (by simp; omega) k (by omega) (by simp; omega)]
        rw [show k - o = (k - (o + 1)) + 1 by omega]; simp
      · rw [splice_out _ _ _ (by omega) k (by omega), splice_out _ _ _ (by simp; omega) k (by simp; omega), List.getElem?_set_ne (by omega)]
theorem splice_nil {α : Type} (cs : List α) (o : Nat) : splice cs o [] = cs := by simp [splice]

theorem foldl_set (off : Nat) : ∀ (ys : List Value) (n : Nat) (c : Array Value), off + n + ys.length ≤ c.size →
    ((ys.zipIdx n).foldl (fun cs (p : Value × Nat) => cs.setIfInBounds (off + p.2) p.1) c).toList = splice c.toList (off + n) ys := by
  intro ys
  induction ys with
  | nil => intro n c h; simp [splice_nil]
  | cons y ys ih =>
    intro n c h
    simp only [List.zipIdx_cons, List.foldl_cons]
    have h' : off + n + (ys.length + 1) ≤ c.size := by simpa using h
    rw [ih (n + 1) _ (by simp; omega), Array.toList_setIfInBounds, ← splice_snoc _ _ _ _ (by simpa using h')]
    rfl

theorem rep_splice {β : Pl} {F : Nat → Prop} {w : World} {cs : List AV} {vs : List Value} {xs : List AV} {ys : List Value} (hl : cs.length = vs.length) (hl' : xs.length = ys.length) (off : Nat) (ho : off + xs.length ≤ cs.length)
    (hx : ∀ (k : Nat) (x : AV) (y : Value), cs[k]? = some x → vs[k]? = some y → RepA β F w x y) (hy : ∀ (k : Nat) (x : AV) (y : Value), xs[k]? = some x → ys[k]? = some y → RepA β F w x y) :
    (splice cs off xs).length = (splice vs off ys).length ∧ ∀ (k : Nat) (x : AV) (y : Value), (splice cs off xs)[k]? = some x → (splice vs off ys)[k]? = some y → RepA β F w x y := by
  refine ⟨by rw [splice_length _ _ _ ho, splice_length _ _ _ (by omega), hl], fun k x y h1 h2 => ?_⟩
  by_cases hin : off ≤ k ∧ k < off + xs.length
  · rw [splice_in _ _ _ ho k hin.1 hin.2] at h1
    rw [splice_in _ _ _ (by omega) k hin.1 (by omega)] at h2
    exact hy _ _ _ h1 h2
  · rw [splice_out _ _ _ ho k (by omega)] at h1
    rw [splice_out _ _ _ (by omega) k (by omega)] at h2
    exact hx _ _ _ h1 h2

section ops
variable {P : Program} {T : Tab} (hT : TabOK P T) {o : Oper} {ρ : Operand → AV} {mm : Mem} {nid : Nat} {k : Delta → Prop}

theorem fill_spec {β : Pl} {F : Nat → Prop} {w : World} {ev : Operand → Value} {pl pl' : Nat → Option (Nat × Nat)} (hpl : ∀ i, pl' i = pl i) :
    ∀ (parts : List (Nat × Operand)) (cs cs' : List AV) (c : Array Value), (∀ p ∈ parts, RepA β F w (ρ p.2) (ev p.2)) → cs.length = c.toList.length →
      (∀ (k : Nat) (x : AV) (y : Value), cs[k]? = some x → c.toList[k]? = some y → RepA β F w x y) → fillA pl ρ cs parts = some cs' →
      ∃ c', Instr.fill pl' c (parts.map fun (i, x) => (i, ev x)) = some c' ∧ cs'.length = c'.toList.length ∧ ∀ (k : Nat) (x : AV) (y : Value), cs'[k]? = some x → c'.toList[k]? = some y → RepA β F w x y := by
  intro parts
  induction parts with
  | nil => intro cs cs' c _ hl hx h; simp only [fillA, Option.some.injEq] at h; subst h; exact ⟨c, rfl, hl, hx⟩
  | cons p parts ih =>
    intro cs cs' c hp hl hx h
    obtain ⟨i, x⟩ := p
    simp only [fillA] at h
    split at h
    case h_1 => cases h
    rename_i off size hpi
    split at h
    case h_1 => cases h
    rename_i xs hxs
    split at h
    case h_2 => cases h
    rename_i hb hle h1
    have hsz : xs.length = size := Nat.eq_of_beq_eq_true hb
    have hle' : off + xs.length ≤ cs.length := Nat.le_of_ble_eq_true hle
    have hr := hp (i, x) (by simp)
    obtain ⟨gl, gx⟩ := hr.cells hxs
    have gl' : xs.length = (ev x).cells.size := by simpa using gl
    have hcl : cs.length = c.size := by simpa using hl
    have hfold := foldl_set off (ev x).cells.toList 0 c (by simp; omega)
    have hsp := rep_splice hl gl off hle' hx gx
    simp only [Nat.add_zero] at hfold
    have hfold' : ((ev x).cells.zipIdx.foldl (fun cs (p : Value × Nat) => cs.setIfInBounds (off + p.2) p.1) c).toList = splice c.toList off (ev x).cells.toList := by
      rw [← hfold, ← Array.foldl_toList, Array.toList_zipIdx]
    rw [← hfold'] at hsp
    obtain ⟨c', e1, e2, e3⟩ := ih _ cs' _ (fun p hp' => hp p (by simp [hp'])) hsp.1 hsp.2 h
    refine ⟨c', ?_, e2, e3⟩
    simp only [List.map_cons, Instr.fill, hpl, hpi]
    rw [if_neg (by simp; omega)]
    exact e1

include hT in
theorem placesL_spec : ∀ (fs : List (Nat × Nat)) (gs : List Field) (pl : List (Nat × Nat)), gs.map (fun f => (f.offset, f.type)) = fs → placesL T fs = some pl →
    ∀ w : World, (gs.mapM fun f => do pure (f.offset, ← sizeOf f.type) : Sem (List (Nat × Nat))).run P w = .ok pl w := by
  intro fs
  induction fs with
  | nil => intro gs pl hg h w; simp only [placesL, Option.some.injEq] at h; subst h; cases gs <;> simp_all
  | cons p fs ih =>
    intro gs pl hg h w
    cases gs with
    | nil => simp at hg
    | cons g gs =>
      simp only [List.map_cons, List.cons.injEq] at hg
      obtain ⟨rfl, hg⟩ := hg
      simp only [placesL] at h
      split at h
      case h_1 => cases h
      rename_i ti ht
      split at h
      case h_1 => cases h
      rename_i l hl
      simp only [Option.some.injEq] at h; subst h
      simp only [List.mapM_cons, Sem.run_bind, run_size hT ht, Result.andThen_ok, Sem.run_pure, ih gs l hg hl w]

include hT in
theorem good_build {t : TypeId} {parts : Array (Nat × Operand)} (ho : o.op = .build t parts) (hk : eff T (fun _ _ _ => False) ρ mm nid (.build t parts) k) : Good P o ρ mm nid k := by
  simp only [eff] at hk
  have mem : ∀ p ∈ parts.toList, p.2 ∈ o.op.operands := fun p hp => by
    simp only [ho, Op.operands]
    simp only [List.mem_toArray, List.mem_map]
    exact ⟨p, hp, rfl⟩
  split at hk
  · rename_i fs sz by_ z ht
    split at hk
    case h_2 => exact hk.elim
    rename_i pl hpl
    split at hk
    case h_2 => exact hk.elim
    rename_i cs hf
    obtain ⟨gs, hgs, hfs⟩ := und_struct hT ht rfl
    refine good_pure hk (fun β F w a hops _ => ?_)
    obtain ⟨z', hz, hzc, hz1, hzl⟩ := run_zero hT ht w
    obtain ⟨c', e1, e2, e3⟩ := fill_spec (β := β) (F := F) (w := w) (ev := a.eval) (pl' := fun i => pl.toArray[i]?) (fun i => by simp [nth_eq]) parts.toList _ cs z'.cells (fun p hp => hops _ (mem p hp)) (by simp [hzc]) (fun k x y h1 h2 => by
      rw [hzc] at h2
      rw [List.getElem?_map, h2] at h1; simp at h1; subst h1; exact .p _ _ (.val _)) hf
    refine ⟨.agg c', ?_, by have := RepA.agg (β := β) (F := F) (w := w) cs c'.toList e2 e3; simpa using this⟩
    have hm : (gs.mapM fun f => do pure (f.offset, ← sizeOf f.type) : Sem (Array (Nat × Nat))).run P w = .ok pl.toArray w := by
      have := placesL_spec hT fs gs.toList pl hfs hpl w
      rw [Array.mapM_eq_mapM_toList]
      simp only [Sem.run_map, this, Result.andThen_ok]
    simp only [execOp, ho, Instr.build, Sem.run_bind, hz, Result.andThen_ok, run_underlying hgs, hm, Array.toList_map, e1, Sem.run_pure]
  · rename_i n e sz by_ z ht
    split at hk
    case h_2 => exact hk.elim
    rename_i ti hte
    split at hk
    case h_2 => exact hk.elim
    rename_i cs hf
    refine good_pure hk (fun β F w a hops _ => ?_)
    obtain ⟨z', hz, hzc, hz1, hzl⟩ := run_zero hT ht w
    obtain ⟨c', e1, e2, e3⟩ := fill_spec (β := β) (F := F) (w := w) (ev := a.eval) (pl' := fun i => some (i * ti.size, ti.size)) (fun i => rfl) parts.toList _ cs z'.cells (fun p hp => hops _ (mem p hp)) (by simp [hzc]) (fun k x y h1 h2 => by
      rw [hzc] at h2
      rw [List.getElem?_map, h2] at h1; simp at h1; subst h1; exact .p _ _ (.val _)) hf
    refine ⟨.agg c', ?_, by have := RepA.agg (β := β) (F := F) (w := w) cs c'.toList e2 e3; simpa using this⟩
    simp only [execOp, ho, Instr.build, Sem.run_bind, hz, Result.andThen_ok, run_underlying (und_arr hT ht rfl), run_size hT hte, Array.toList_map, e1, Sem.run_pure]
  · exact hk.elim
end ops
end Go.Am

set_option linter.unusedVariables false
namespace Go.Am
open Go

theorem rows_part {F : Nat → Prop} {w : World} {b o sz : Nat} {els : List (List PV)} (h : RowsAt F w b o sz els) (off n : Nat) : RowsAt F w b (o + off * sz) sz ((els.drop off).take n) := by
  obtain ⟨vv, h⟩ := h
  refine ⟨fun i => vv (off + i), fun i e hi => ?_⟩
  by_cases hin : i < n
  · rw [List.getElem?_take_of_lt hin, List.getElem?_drop] at hi
    obtain ⟨h1, h2, h3, h4, h5⟩ := h _ _ hi
    refine ⟨h1, h2, ?_, h4, h5⟩
    rwa [Nat.add_mul, ← Nat.add_assoc] at h3
  · rw [List.getElem?_eq_none (by simp; omega)] at hi; cases hi

theorem repP_rows {F : Nat → Prop} {w : World} {b o sz c : Nat} {els : List (List PV)} (h : RowsAt F w b o sz els) (hc : els.length ≤ c) (hF : F b) (hC : CellAt w b) : RepP F w (.sl els) (.slice (some ⟨b, o, none⟩) els.length c) := by
  obtain ⟨vv, h⟩ := h
  exact .sl els _ c b o sz vv hc (fun _ => ⟨rfl, hF, hC⟩) (fun i e hi => let ⟨h1, h2, h3, h4, _⟩ := h i e hi; ⟨h1, h2, h3, h4⟩) (fun i e j x y hi hx hy => (h i e hi).2.2.2.2 j x y hx hy)

theorem repP_nil {F : Nat → Prop} {w : World} (a : Option Addr) (c : Nat) : RepP F w (.sl []) (.slice a 0 c) :=
  .sl [] a c 0 0 0 (fun _ => []) (Nat.zero_le _) (fun h => by simp at h) (fun i e h => by simp at h) (fun i e j x y h => by simp at h)

structure Pre (mm : Mem) (β : Pl) (F F' : Nat → Prop) (w : World) (id : Nat) : Prop where
  ok : ∀ B, mm id = some B → ∃ bi, β id = some bi ∧ BlkOK β F w bi B ∧ (bi.nil = false → F' bi.b)

theorem pvL_spec {mm : Mem} {F' : Nat → Prop} {w : World} {Pr : Nat → Prop} : ∀ (cs : List AV) (vs : List Value) (ps : List PV) (ids : List Nat), cs.length = vs.length →
    (∀ (k : Nat) (x : AV) (y : Value), cs[k]? = some x → vs[k]? = some y → ∀ p ids, x.pv mm = some (p, ids) → (∀ id ∈ ids, Pr id) → RepP F' w p y ∧ ∀ id ∈ ids, ∃ sz els o, mm id = some (.row sz els o)) →
    AV.pv.pvL mm cs = some (ps, ids) → (∀ id ∈ ids, Pr id) → ps.length = vs.length ∧ (∀ (k : Nat) (x : PV) (y : Value), ps[k]? = some x → vs[k]? = some y → RepP F' w x y) ∧ ∀ id ∈ ids, ∃ sz els o, mm id = some (.row sz els o) := by
  intro cs
  induction cs with
  | nil =>
    intro vs ps ids hl hx h hid
    simp only [AV.pv.pvL, Option.some.injEq, Prod.mk.injEq] at h
    obtain ⟨rfl, rfl⟩ := h
    exact ⟨by simpa using hl, fun k x y h => by simp at h, fun id h => by cases h⟩
  | cons c cs ih =>
    intro vs ps ids hl hx h hid
    cases vs with
    | nil => simp at hl
    | cons v vs =>
      simp only [AV.pv.pvL] at h
      split at h
      case h_1 => cases h
      rename_i p i1 hp
      split at h
      case h_1 => cases h
      rename_i ps' i2 hps
      simp only [Option.some.injEq, Prod.mk.injEq] at h
      obtain ⟨rfl, rfl⟩ := h
      obtain ⟨g1, g2⟩ := hx 0 c v rfl rfl p i1 hp (fun id h => hid id (by simp [h]))
      obtain ⟨h1, h2, h3⟩ := ih vs ps' i2 (by simpa using hl) (fun k x y a b => hx (k + 1) x y (by simpa using a) (by simpa using b)) hps (fun id h => hid id (by simp [h]))
      refine ⟨by simp [h1], fun k x y a b => ?_, fun id h => ?_⟩
      · cases k with
        | zero => simp at a b; subst a b; exact g1
        | succ k => exact h2 k x y (by simpa using a) (by simpa using b)
      · rcases List.mem_append.1 h with h | h
        · exact g2 id h
        · exact h3 id h

theorem pv_spec {mm : Mem} {β : Pl} {F F' : Nat → Prop} {w : World} (hFF : ∀ b, F b → F' b) {x : AV} {v : Value} (h : RepA β F w x v) :
    ∀ p ids, x.pv mm = some (p, ids) → (∀ id ∈ ids, Pre mm β F F' w id) → RepP F' w p v ∧ ∀ id ∈ ids, ∃ sz els o, mm id = some (.row sz els o) := by
  induction h with
  | top v => intro p ids h; simp [AV.pv] at h
  | p x v hp =>
    intro p ids h hid
    have base : RepP F' w x v := hp.mono hFF (fun _ _ => rfl)
    cases hp with
    | val v =>
      simp only [AV.pv] at h
      split at h
      · simp only [Option.some.injEq, Prod.mk.injEq] at h
        obtain ⟨rfl, rfl⟩ := h
        exact ⟨repP_nil _ _, fun _ h => by cases h⟩
      · simp only [Option.some.injEq, Prod.mk.injEq] at h
        obtain ⟨rfl, rfl⟩ := h
        exact ⟨base, fun _ h => by cases h⟩
    | sl els a c b o sz vv hc ha hs hx =>
      simp only [AV.pv, Option.some.injEq, Prod.mk.injEq] at h
      obtain ⟨rfl, rfl⟩ := h
      exact ⟨base, fun _ h => by cases h⟩
    | agg cs vs hl hx =>
      simp only [AV.pv, Option.some.injEq, Prod.mk.injEq] at h
      obtain ⟨rfl, rfl⟩ := h
      exact ⟨base, fun _ h => by cases h⟩
  | ownNil id sz n bi hb h hn =>
    intro p ids hp hid
    simp only [AV.pv] at hp
    split at hp
    case h_2 => cases hp
    rename_i sz' els o hm
    simp only [Option.some.injEq, Prod.mk.injEq] at hp
    obtain ⟨rfl, rfl⟩ := hp
    obtain ⟨bi', hb', hok, _⟩ := (hid id (by simp)).ok _ hm
    rw [hb] at hb'; cases hb'
    cases hok with
    | nil sz h1 hn1 own => exact ⟨repP_nil _ _, fun i hi => by simp at hi; subst hi; exact ⟨_, _, _, hm⟩⟩
    | row sz els own h1 hz hn' hc hr hs ho hf => rw [h] at h1; cases h1
  | own id sz n bi hb h hz hn hcc =>
    intro p ids hp hid
    simp only [AV.pv] at hp
    split at hp
    case h_2 => cases hp
    rename_i sz' els o hm
    simp only [Option.some.injEq, Prod.mk.injEq] at hp
    obtain ⟨rfl, rfl⟩ := hp
    obtain ⟨bi', hb', hok, hFb⟩ := (hid id (by simp)).ok _ hm
    rw [hb] at hb'; cases hb'
    cases hok with
    | nil sz h1 hn1 own => rw [h] at h1; cases h1
    | row sz els own h1 hz' hn' hc hr hs ho hf =>
      subst hn
      refine ⟨?_, fun i hi => by simp at hi; subst hi; exact ⟨_, _, _, hm⟩⟩
      have := repP_rows (RowsAt.mono hFF (fun _ _ => rfl) rfl hs) (by rw [← hn']; exact hc) (hFb h) hr.cell
      rwa [← hn'] at this
  | win id sz off n c bi hb h hz hc hn ho =>
    intro p ids hp hid
    simp only [AV.pv] at hp
    split at hp
    case h_2 => cases hp
    rename_i sz' els o' hm
    simp only [Option.some.injEq, Prod.mk.injEq] at hp
    obtain ⟨rfl, rfl⟩ := hp
    obtain ⟨bi', hb', hok, hFb⟩ := (hid id (by simp)).ok _ hm
    rw [hb] at hb'; cases hb'
    cases hok with
    | nil sz h1 hn1 own => rw [h] at h1; cases h1
    | row sz els own h1 hz' hn' hc' hr hs ho' hf =>
      refine ⟨?_, fun i hi => by simp at hi; subst hi; exact ⟨_, _, _, hm⟩⟩
      have hlen : ((els.drop off).take n).length = n := by simp; omega
      have := repP_rows (c := c) (RowsAt.mono hFF (fun _ _ => rfl) rfl (rows_part hs off n)) (by omega) (hFb h) hr.cell
      rwa [hlen] at this
  | ptr => intro p ids h; simp [AV.pv] at h
  | cell => intro p ids h; simp [AV.pv] at h
  | agg cs vs hl hx ih =>
    intro p ids hp hid
    simp only [AV.pv] at hp
    split at hp
    case h_2 => cases hp
    rename_i ps ids' hps
    simp only [Option.some.injEq, Prod.mk.injEq] at hp
    obtain ⟨rfl, rfl⟩ := hp
    obtain ⟨h1, h2, h3⟩ := pvL_spec (Pr := Pre mm β F F' w) cs vs ps ids' hl (fun k x y a b p ids => ih k x y a b p ids) hps hid
    exact ⟨.agg ps vs h1 h2, h3⟩
  | tup => intro p ids h; simp [AV.pv] at h
  | clo => intro p ids h; simp [AV.pv] at h

/-- Frozen memory, with the blocks of these names. -/
def frzF (β : Pl) (F : Nat → Prop) (ids : List Nat) : Nat → Prop := fun b => F b ∨ ∃ id ∈ ids, ∃ b0, β id = some b0 ∧ b0.nil = false ∧ b0.b = b
theorem frzF_lt {mm : Mem} {β : Pl} {F : Nat → Prop} {w : World} {ids : List Nat} (hF : ∀ b, F b → b < w.heap.size) (hid : ∀ id ∈ ids, ∃ B bi, mm id = some B ∧ β id = some bi ∧ BlkOK β F w bi B) : ∀ b, frzF β F ids b → b < w.heap.size := by
  rintro b (h | ⟨id, h1, b0, h2, h3, rfl⟩)
  · exact hF b h
  · obtain ⟨B, bi, h4, h5, h6⟩ := hid id h1
    rw [h2] at h5; cases h5
    exact h6.lt h3
theorem pre_frz {mm : Mem} {β : Pl} {F : Nat → Prop} {w : World} {ids : List Nat} (h : ∀ id ∈ ids, ∀ B, mm id = some B → ∃ bi, β id = some bi ∧ BlkOK β F w bi B) : ∀ id ∈ ids, Pre mm β F (frzF β F ids) w id := fun id hid => ⟨fun B hB => by
  obtain ⟨bi, h1, h2⟩ := h id hid B hB
  exact ⟨bi, h1, h2, fun hn => .inr ⟨id, hid, bi, h1, hn, rfl⟩⟩⟩

section ops
variable {P : Program} {T : Tab} (hT : TabOK P T) {o : Oper} {ρ : Operand → AV} {mm : Mem} {nid : Nat} {k : Delta → Prop}

/-- The cells of a list of operands, by content, one after the other. -/
theorem rowsOf_spec {β : Pl} {F F' : Nat → Prop} {w : World} {ev : Operand → Value} {size : Nat} (hFF : ∀ b, F b → F' b) :
    ∀ (parts : List (Nat × Operand)) (n : Nat) (els : List (List PV)) (ids : List Nat) (c : Array Value), (∀ p ∈ parts, RepA β F w (ρ p.2) (ev p.2)) → rowsOf mm ρ size parts n = some (els, ids) →
      (∀ id ∈ ids, Pre mm β F F' w id) → c.size = (n + parts.length) * size →
      ∃ (c' : Array Value) (flat : List Value), Instr.fill (fun i => some (i * size, size)) c (parts.map fun (i, x) => (i, ev x)) = some c' ∧ c'.toList = c.toList.take (n * size) ++ flat ∧ flat.length = els.length * size ∧ els.length = parts.length ∧
        (∀ v ∈ flat, v.oneCell' = true) ∧ (∀ (i : Nat) (e : List PV), els[i]? = some e → e.length = size) ∧
        (∀ (i : Nat) (e : List PV) (j : Nat) (x : PV) (y : Value), els[i]? = some e → e[j]? = some x → flat[i * size + j]? = some y → RepP F' w x y) ∧ ∀ id ∈ ids, ∃ sz els o, mm id = some (.row sz els o) := by
  intro parts
  induction parts with
  | nil =>
    intro n els ids c hp h hid hc
    simp only [rowsOf, Option.some.injEq, Prod.mk.injEq] at h
    obtain ⟨rfl, rfl⟩ := h
    refine ⟨c, [], rfl, ?_, by simp, rfl, (fun v h => by cases h), (fun i e h => by simp at h), (fun i e j x y h => by simp at h), (fun id h => by cases h)⟩
    rw [List.append_nil, List.take_of_length_le (by simp at hc ⊢; omega)]
  | cons p parts ih =>
    intro n els ids c hp h hid hc
    obtain ⟨i, x⟩ := p
    simp only [rowsOf] at h
    split at h
    case h_2 => cases h
    rename_i cs hbi hcs
    split at h
    case h_2 => cases h
    rename_i ps i1 hps
    split at h
    case h_2 => cases h
    rename_i hb1 hb2
    split at h
    case h_2 => cases h
    rename_i els' i2 hrest
    simp only [Option.some.injEq, Prod.mk.injEq] at h
    obtain ⟨rfl, rfl⟩ := h
    have hi : i = n := Nat.eq_of_beq_eq_true hbi
    subst hi
    have hsz : ps.length = size := Nat.eq_of_beq_eq_true hb1
    obtain ⟨gl, gx⟩ := (hp (i, x) (by simp)).cells hcs
    obtain ⟨q1, q2, q3⟩ := pvL_spec (Pr := Pre mm β F F' w) cs (ev x).cells.toList ps i1 gl (fun k x y a b p ids => pv_spec hFF (gx k x y a b) p ids) hps (fun id h => hid id (by simp [h]))
    have hvs : (ev x).cells.size = size := by rw [← hsz, q1]; simp
    have hc' : c.size = (i + 1 + parts.length) * size := by rw [hc]; simp; congr 1; omega
    have hle : i * size + size ≤ c.size := by
      rw [hc', ← Nat.succ_mul]; exact Nat.mul_le_mul_right _ (by omega)
    have hfold := foldl_set (i * size) (ev x).cells.toList 0 c (by simp; omega)
    simp only [Nat.add_zero] at hfold
    have hfold' : ((ev x).cells.zipIdx.foldl (fun cs (p : Value × Nat) => cs.setIfInBounds (i * size + p.2) p.1) c).toList = splice c.toList (i * size) (ev x).cells.toList := by
      rw [← hfold, ← Array.foldl_toList, Array.toList_zipIdx]
    have hcsz : ((ev x).cells.zipIdx.foldl (fun cs (p : Value × Nat) => cs.setIfInBounds (i * size + p.2) p.1) c).size = c.size := by
      rw [← Array.length_toList, hfold', splice_length _ _ _ (by simp; omega)]; simp
    obtain ⟨c', flat, e1, e2, e3, e4, e5, e6, e7, e8⟩ := ih (i + 1) els' i2 _ (fun p hp' => hp p (by simp [hp'])) hrest (fun id h => hid id (by simp [h])) (by rw [hcsz, hc'])
    refine ⟨c', (ev x).cells.toList ++ flat, ?_, ?_, ?_, by simp [e4], ?_, ?_, ?_, ?_⟩
    · simp only [List.map_cons, Instr.fill]
      rw [if_neg (by simp; omega)]
      exact e1
    · rw [e2, hfold', ← List.append_assoc]
      congr 1
      rw [Nat.succ_mul, splice, List.take_append_of_le_length (by simp; omega), List.take_of_length_le (by simp; omega)]
    · rw [List.length_append, e3]; simp [hvs]; rw [Nat.succ_mul]; omega
    · intro v hv
      rcases List.mem_append.1 hv with hv | hv
      · obtain ⟨kk, hkk⟩ := List.mem_iff_getElem?.1 hv
        have hlt : kk < ps.length := by rw [q1]; exact (List.getElem?_eq_some_iff.1 hkk).1
        exact (q2 kk ps[kk] v (List.getElem?_eq_getElem hlt) hkk).cells (by
          have := List.all_eq_true.1 hb2 ps[kk] (List.getElem_mem hlt)
          exact this)
      · exact e5 v hv
    · intro q e hq
      cases q with
      | zero => simp at hq; subst hq; exact hsz
      | succ q => exact e6 q e (by simpa using hq)
    · intro q e j y z hq hj hz
      cases q with
      | zero =>
        simp at hq; subst hq
        have hjl : j < size := by have := (List.getElem?_eq_some_iff.1 hj).1; omega
        rw [Nat.zero_mul, Nat.zero_add, List.getElem?_append_left (by simp; omega)] at hz
        exact q2 j y z hj hz
      | succ q =>
        rw [List.getElem?_append_right (by simp [hvs, Nat.succ_mul]; omega)] at hz
        refine e7 q e j y z (by simpa using hq) hj ?_
        rw [← hz]; congr 1; simp [hvs, Nat.succ_mul]; omega
    · intro id h
      rcases List.mem_append.1 h with h | h
      · exact q3 id h
      · exact e8 id h

include hT in
theorem good_buildSlice {t len : Nat} {parts : Array (Nat × Operand)} (ho : o.op = .buildSlice t len parts) (hn : ∀ j, nid ≤ j → mm j = none) (hk : eff T (fun _ _ _ => False) ρ mm nid (.buildSlice t len parts) k) : Good P o ρ mm nid k := by
  simp only [eff] at hk
  have mem : ∀ p ∈ parts.toList, p.2 ∈ o.op.operands := fun p hp => by
    simp only [ho, Op.operands]
    simp only [List.mem_toArray, List.mem_map]
    exact ⟨p, hp, rfl⟩
  split at hk
  case h_2 => exact hk.elim
  rename_i e sz by_ z ht
  split at hk
  case h_2 => exact hk.elim
  rename_i ti hte
  split at hk
  case h_2 => exact hk.elim
  rename_i els ids hr hlen hle
  have hpl : parts.toList.length = len := Nat.eq_of_beq_eq_true hlen
  have hle' : len * ti.size ≤ 16777216 := Nat.le_of_ble_eq_true hle
  -- whose blocks are named are ours, of rows: told by any reading
  have rows : ∀ (l : List (Nat × Operand)) (n : Nat) (els : List (List PV)) (ids : List Nat), rowsOf mm ρ ti.size l n = some (els, ids) → ∀ id ∈ ids, ∃ sz els o, mm id = some (.row sz els o) := by
    have pvrow : ∀ (x : AV) (p : PV) (ids : List Nat), x.pv mm = some (p, ids) → ∀ id ∈ ids, ∃ sz els o, mm id = some (.row sz els o) := by
      intro x
      refine AV.rec (motive_1 := fun x => ∀ (p : PV) (ids : List Nat), x.pv mm = some (p, ids) → ∀ id ∈ ids, ∃ sz els o, mm id = some (.row sz els o))
        (motive_2 := fun l => ∀ (ps : List PV) (ids : List Nat), AV.pv.pvL mm l = some (ps, ids) → ∀ id ∈ ids, ∃ sz els o, mm id = some (.row sz els o)) ?_ ?_ ?_ ?_ ?_ ?_ ?_ ?_ ?_ ?_ ?_ x
      · intro p ids h; simp [AV.pv] at h
      · intro y p ids h id hid
        cases y with
        | val v => simp only [AV.pv] at h; split at h <;> (simp at h; obtain ⟨_, rfl⟩ := h; cases hid)
        | sl => simp [AV.pv] at h; obtain ⟨_, rfl⟩ := h; cases hid
        | agg => simp [AV.pv] at h; obtain ⟨_, rfl⟩ := h; cases hid
      · intro i s n p ids h id hid
        simp only [AV.pv] at h
        split at h
        · rename_i hm; simp at h; obtain ⟨_, rfl⟩ := h; simp at hid; subst hid; exact ⟨_, _, _, hm⟩
        · cases h
      · intro i s off n p ids h id hid
        simp only [AV.pv] at h
        split at h
        · rename_i hm; simp at h; obtain ⟨_, rfl⟩ := h; simp at hid; subst hid; exact ⟨_, _, _, hm⟩
        · cases h
      · intro i a b p ids h; simp [AV.pv] at h
      · intro cs p ids h; simp [AV.pv] at h
      · intro cs ih p ids h id hid
        simp only [AV.pv] at h
        split at h
        · rename_i hh; simp at h; obtain ⟨_, rfl⟩ := h; exact ih _ _ hh id hid
        · cases h
      · intro cs ih p ids h; simp [AV.pv] at h
      · intro f cs ih p ids h; simp [AV.pv] at h
      · intro ps ids h id hid; simp [AV.pv.pvL] at h; obtain ⟨_, rfl⟩ := h; cases hid
      · intro x l ihx ihl ps ids h id hid
        simp only [AV.pv.pvL] at h
        split at h
        · cases h
        · rename_i h1
          split at h
          · cases h
          · rename_i h2
            simp at h; obtain ⟨_, rfl⟩ := h
            rcases List.mem_append.1 hid with hid | hid
            · exact ihx _ _ h1 id hid
            · exact ihl _ _ h2 id hid
    have pvlrow : ∀ (l : List AV) (ps : List PV) (ids : List Nat), AV.pv.pvL mm l = some (ps, ids) → ∀ id ∈ ids, ∃ sz els o, mm id = some (.row sz els o) := by
      intro l
      induction l with
      | nil => intro ps ids h id hid; simp [AV.pv.pvL] at h; obtain ⟨_, rfl⟩ := h; cases hid
      | cons x l ihl =>
        intro ps ids h id hid
        simp only [AV.pv.pvL] at h
        split at h
        · cases h
        · rename_i h1
          split at h
          · cases h
          · rename_i h2
            simp at h; obtain ⟨_, rfl⟩ := h
            rcases List.mem_append.1 hid with hid | hid
            · exact pvrow _ _ _ h1 id hid
            · exact ihl _ _ h2 id hid
    intro l
    induction l with
    | nil => intro n els ids h id hid; simp [rowsOf] at h; obtain ⟨_, rfl⟩ := h; cases hid
    | cons p l ih =>
      intro n els ids h id hid
      obtain ⟨i, x⟩ := p
      simp only [rowsOf] at h
      split at h
      case h_2 => cases h
      split at h
      case h_2 => cases h
      rename_i hps
      split at h
      case h_2 => cases h
      split at h
      case h_2 => cases h
      rename_i hrest
      simp at h; obtain ⟨_, rfl⟩ := h
      rcases List.mem_append.1 hid with hid | hid
      · exact pvlrow _ _ _ hps id hid
      · exact ih _ _ _ hrest id hid
  refine ⟨_, hk, ?_, .news hn (fun _ h => by cases h) (rows _ _ _ _ hr) (fun _ h => by cases h)⟩
  intro β F w a next Q hops hF hrd hwr hfresh hinj hnext
  have hid : ∀ id ∈ ids, ∀ B, mm id = some B → ∃ bi, β id = some bi ∧ BlkOK β F w bi B := fun id h => hrd id (.inl h)
  obtain ⟨z', hz, hzc, hz1, hzl⟩ := run_zero hT hte w
  have hlt := frzF_lt (mm := mm) (ids := ids) hF (fun id h => by
    obtain ⟨sz, els, o, hm⟩ := rows _ _ _ _ hr id h
    obtain ⟨bi, h1, h2⟩ := hid id h _ hm
    exact ⟨_, bi, hm, h1, h2⟩)
  have key : ∀ c : Array Value, c.size = len * ti.size → ∃ (c' : Array Value), Instr.fill (fun i => some (i * ti.size, ti.size)) c (parts.toList.map fun (i, x) => (i, a.eval x)) = some c' ∧
      Eff { v := .own nid ti.size len, rd := ids, frz := ids, news := [.row ti.size els true] } nid β F w (.slice (some ⟨w.heap.size, 0, none⟩) len len) (put β nid ⟨w.heap.size, 0, ti.size, len, len, false⟩) (frzF β F ids) (w.alloc (.cells c' e)) := by
    intro c hc
    obtain ⟨c', flat, e1, e2, e3, e4, e5, e6, e7, e8⟩ := rowsOf_spec (β := β) (F := F) (w := w) (ev := a.eval) (F' := frzF β F ids) (fun _ h => .inl h) parts.toList 0 els ids c (fun p hp => hops _ (mem p hp)) hr (pre_frz hid) (by rw [hc, hpl]; simp)
    rw [Nat.zero_mul, List.take_zero, List.nil_append] at e2
    refine ⟨c', e1, row_new (w0 := w) (.inl rfl) hF (hfresh 0 (by simp)) (fun b => Iff.rfl) hlt (by omega) (Nat.le_refl _) ?_ flat [] (by simpa using e2) e5 (by omega) e6 e7 e⟩
    rw [← Array.length_toList, e2, e3, e4, hpl]; exact Nat.le_refl _
  unfold Oper.wp
  have hle2 : ¬ (len * ti.size > 2 ^ 24) := by omega
  by_cases h0 : len * ti.size = 0
  · obtain ⟨c', e1, hE⟩ := key #[] (by simp [h0])
    have := hnext _ _ _ _ hE
    have e1' : Instr.fill (fun i => some (i * ti.size, ti.size)) ((Array.range (len * ti.size)).map ((#[] : Array Value)[· % (#[] : Array Value).size]!)) (parts.map fun (i, x) => (i, a.eval x)).toList = some c' := by
      rw [h0, show Array.range 0 = #[] from rfl]; simpa using e1
    simp only [execOp, ho, Instr.buildSlice, Sem.run_bind, run_underlying (und_slice hT ht rfl), run_size hT hte, Result.andThen_ok, if_neg hle2, if_pos h0, Sem.run_pure, e1', newRow, newObj, Sem.run, Oper.upon]
    exact this
  · obtain ⟨c', e1, hE⟩ := key ((Array.range (len * ti.size)).map (z'.cells[· % z'.cells.size]!)) (by simp)
    have := hnext _ _ _ _ hE
    have e1' : Instr.fill (fun i => some (i * ti.size, ti.size)) ((Array.range (len * ti.size)).map (z'.cells[· % z'.cells.size]!)) (parts.map fun (i, x) => (i, a.eval x)).toList = some c' := by
      rw [← e1]; simp
    simp only [execOp, ho, Instr.buildSlice, Sem.run_bind, run_underlying (und_slice hT ht rfl), run_size hT hte, Result.andThen_ok, if_neg hle2, if_neg h0, Sem.run_pure, hz, e1', newRow, newObj, Sem.run, Oper.upon]
    exact this
end ops
end Go.Am

set_option linter.unusedVariables false
namespace Go.Am
open Go

/-! ### Slicing -/
theorem run_sliceBound {P : Program} (w : World) (k : IntKind) (i : Int) (y : Nat) (c : BoundsCode) (h0 : 0 ≤ i) (h1 : i ≤ y) : (Instr.sliceBound (.int k i) y c).run P w = .ok i.toNat w := by
  simp only [Instr.sliceBound, asIntOf, Sem.run_bind, Sem.run_pure, Result.andThen_ok]
  rw [if_pos ⟨h0, h1⟩]; rfl

/-- A part of a slice that is read by content. -/
theorem repP_cut {F : Nat → Prop} {w : World} {els : List (List PV)} {a : Option Addr} {c size l h m : Nat} (hr : RepP F w (.sl els) (.slice a els.length c)) (hs : l = 0 ∨ ∀ e ∈ els, e.length = size) (hl : l ≤ h) (hh : h ≤ els.length) (hm : h ≤ m) (hmc : m ≤ c) :
    RepP F w (.sl ((els.take h).drop l)) (.slice (if m = l then a else a.map (·.add (l * size))) (h - l) (m - l)) := by
  have hlen : ((els.take h).drop l).length = h - l := by simp; omega
  rw [← hlen]
  generalize hv : Value.slice a els.length c = v at hr
  cases hr with
  | sl _ a' c' b o sz vv hc ha hs' hx =>
    simp only [Value.slice.injEq] at hv
    obtain ⟨rfl, _, rfl⟩ := hv
    have hsz : l = 0 ∨ els.length = 0 ∨ sz = size := by
      rcases hs with h | h
      · exact .inl h
      · cases els with
        | nil => exact .inr (.inl rfl)
        | cons e r => exact .inr (.inr (by rw [← (hs' 0 e rfl).1]; exact h e (by simp)))
    refine .sl _ _ _ b (o + l * sz) sz (fun i => vv (l + i)) (by rw [hlen]; omega) (fun h0 => ?_) (fun i e hi => ?_) (fun i e j x y hi hj hy => ?_)
    · obtain ⟨rfl, hF⟩ := ha (by omega)
      refine ⟨?_, hF⟩
      rw [if_neg (by omega)]
      rcases hsz with rfl | h | rfl
      · simp [Addr.add_mid]
      · omega
      · simp [Addr.add_mid]
    · rw [List.getElem?_drop, List.getElem?_take] at hi
      split at hi
      · obtain ⟨h1, h2, h3, h4⟩ := hs' _ _ hi
        refine ⟨h1, h2, ?_, h4⟩
        rwa [Nat.add_mul, ← Nat.add_assoc] at h3
      · cases hi
    · rw [List.getElem?_drop, List.getElem?_take] at hi
      split at hi
      · exact hx _ _ _ _ _ hi hj hy
      · cases hi

/-- The world stands; a name is given up for another one of the same block. -/
theorem Eff.renamed {nid id : Nat} {β : Pl} {F : Nat → Prop} {w : World} {x : AV} {rd : List Nat} {B : Blk} {b0 bi : BI} {v : Value}
    (hfresh : β nid = none) (h0 : β id = some b0) (hn : bi.nil = b0.nil) (hb : bi.b = b0.b) (hB : BlkOK (put β nid bi) F w bi B) (hv : RepA (put β nid bi) F w x v) :
    Eff { v := x, rd := rd, kill := [id], news := [B] } nid β F w v (put β nid bi) F w where
  os := rfl
  tape := rfl
  output := rfl
  size := Nat.le_refl _
  ext := fun i b h => by
    unfold Am.put
    split
    · rename_i e; subst e; rw [hfresh] at h; cases h
    · exact h
  dom := fun i h h2 => by
    unfold Am.put
    rw [if_neg (by simp at h2; omega)]; exact h
  keep := fun _ _ _ => rfl
  Fm := fun _ h => h
  Fn := fun _ h => .inl h
  Fz := fun _ h => by cases h
  val := hv
  news := fun k B' h => by
    cases k with
    | zero =>
      simp at h; subst h
      exact ⟨bi, by simp [Am.put], hB, fun hn' => .inr ⟨id, by simp, b0, h0, by rw [← hn]; exact hn', hb.symm⟩⟩
    | succ k => simp at h
  inj := fun k l bi bj h h1 h2 => by simp at h1 h2; omega
  box := fun _ _ _ h => by cases h
  elem := fun _ _ _ h => by cases h
  all := fun _ _ h => by cases h

section ops
variable {P : Program} {T : Tab} (hT : TabOK P T) {o : Oper} {ρ : Operand → AV} {mm : Mem} {nid : Nat} {k : Delta → Prop}

theorem win_run {β : Pl} {F : Nat → Prop} {w : World} {a : Act} {x : Operand} {lo hi mx : Option Operand} {size : Nat} {id sz n : Nat} {bi : BI}
    (run : ∀ (a : Act) (w : World) (ad : Option Addr) (len cap l h m : Nat), a.eval x = .slice ad len cap → (Instr.sliceBounds true len cap (lo.map a.eval) (hi.map a.eval) (mx.map a.eval)).run P w = .ok (l, h, m) w →
      (execOp a.eval o).run P w = .ok (.value (.slice (if m = l then ad else ad.map (·.add (l * size))) (h - l) (m - l))) w)
    (hq : a.eval x = .slice (some ⟨bi.b, bi.o, none⟩) n bi.cap) (hbi : β id = some bi) (hnil : bi.nil = false) (hz : sz = bi.sz) (hn : n = bi.n) (hsz : sz = size) (l h d : Nat) (hl : l ≤ h) (hh : h ≤ n) (hln : l < n) (hd : d = h - l)
    (hb : (Instr.sliceBounds true n bi.cap (lo.map a.eval) (hi.map a.eval) (mx.map a.eval)).run P w = .ok (l, h, bi.cap) w) (hcap : n ≤ bi.cap) :
    ∃ v, (execOp a.eval o).run P w = .ok (.value v) w ∧ RepA β F w (.win id sz l d) v := by
  refine ⟨_, run a w _ _ _ _ _ _ hq hb, ?_⟩
  rw [if_neg (by omega)]
  simp only [Option.map_some, Addr.add_mid]
  subst hd
  have := RepA.win (F := F) (w := w) id sz l (h - l) (bi.cap - l) bi hbi hnil hz (by omega) (by omega) (by omega)
  rw [← hz] at this
  rw [← hsz]
  exact this

include hT in
theorem good_slice {t : Nat} {x : Operand} {lo hi mx : Option Operand} (ho : o.op = .slice t x lo hi mx) (hn : ∀ j, nid ≤ j → mm j = none) (hk : effSlice T mm nid t (ρ x) (lo.map ρ) (hi.map ρ) (mx.map ρ) k) : Good P o ρ mm nid k := by
  unfold effSlice at hk
  split at hk
  case h_2 => exact hk.elim
  rename_i e sz0 by_ z ht
  split at hk
  case h_2 => exact hk.elim
  rename_i ti hte
  have hu := und_slice hT ht rfl
  have opx : x ∈ o.op.operands := by simp [ho, Op.operands]
  have opl : ∀ y, lo = some y → y ∈ o.op.operands := fun y h => by simp [ho, Op.operands, h]
  have oph : ∀ y, hi = some y → y ∈ o.op.operands := fun y h => by simp [ho, Op.operands, h]
  have opm : ∀ y, mx = some y → y ∈ o.op.operands := fun y h => by simp [ho, Op.operands, h]
  have run : ∀ (a : Act) (w : World) (ad : Option Addr) (len cap l h m : Nat), a.eval x = .slice ad len cap → (Instr.sliceBounds true len cap (lo.map a.eval) (hi.map a.eval) (mx.map a.eval)).run P w = .ok (l, h, m) w →
      (execOp a.eval o).run P w = .ok (.value (.slice (if m = l then ad else ad.map (·.add (l * ti.size))) (h - l) (m - l))) w := by
    intro a w ad len cap l h m hq hb
    simp only [execOp, ho, Instr.sliceAt, Sem.run_bind, run_underlying hu, Result.andThen_ok, Instr.slice, hq, hb, run_size hT hte, Sem.run_pure]
  split at hk
  · -- by content
    rename_i els hx
    have cut : ∀ (l h : Nat), (l = 0 ∨ ∀ e ∈ els, e.length = ti.size) → l ≤ h → h ≤ els.length → (∀ (a : Act) (β : Pl) (F : Nat → Prop) (w : World) (cap : Nat), (∀ x, x ∈ o.op.operands → RepA β F w (ρ x) (a.eval x)) → els.length ≤ cap →
        ∃ m, h ≤ m ∧ m ≤ cap ∧ (Instr.sliceBounds true els.length cap (lo.map a.eval) (hi.map a.eval) (mx.map a.eval)).run P w = .ok (l, h, m) w) → k { v := .p (.sl ((els.take h).drop l)) } → Good P o ρ mm nid k := by
      intro l h hs hl hh hb hk
      refine good_pure hk (fun β F w a hops _ => ?_)
      have h1 := hops x opx; rw [hx] at h1
      cases h1 with
      | p _ _ hp =>
        generalize hq : a.eval x = q at hp
        have hp2 := hp
        cases hp2 with
        | sl _ ad c b o' sz vv hc ha hs' hxx =>
          obtain ⟨m, hm1, hm2, hm3⟩ := hb a β F w c hops hc
          exact ⟨_, run a w _ _ _ _ _ _ hq hm3, .p _ _ (repP_cut hp hs hl hh hm1 hm2)⟩
    split at hk
    · rename_i hlo hhi hmx
      have e1 : lo = none := by cases lo <;> simp_all
      have e2 : hi = none := by cases hi <;> simp_all
      have e3 : mx = none := by cases mx <;> simp_all
      subst e1 e2 e3
      refine cut 0 els.length (.inl rfl) (Nat.zero_le _) (Nat.le_refl _) (fun a β F w cap _ hc => ⟨cap, hc, Nat.le_refl _, by simp [Instr.sliceBounds]⟩) ?_
      simpa [List.take_of_length_le, hx] using hk
    · rename_i h' hlo hhi hmx
      obtain ⟨yh, rfl, rfl⟩ : ∃ y, hi = some y ∧ ρ y = h' := by cases hi <;> simp_all
      have e1 : lo = none := by cases lo <;> simp_all
      have e3 : mx = none := by cases mx <;> simp_all
      subst e1 e3
      split at hk
      case h_2 => exact hk.elim
      rename_i kh hv hih
      simp only [chk_iff, obind_iff] at hk
      obtain ⟨h0, h1, hk⟩ := hk
      refine cut 0 hv.toNat (.inl rfl) (Nat.zero_le _) (by omega) (fun a β F w cap hops hc => ⟨cap, by omega, Nat.le_refl _, ?_⟩) (by simpa using hk)
      have q := hops yh (oph _ rfl); rw [intOf_spec hih] at q
      simp [Instr.sliceBounds, repInt q, run_sliceBound w kh hv cap _ h0 (by omega)]
    · rename_i l' hlo hhi hmx
      obtain ⟨yl, rfl, rfl⟩ : ∃ y, lo = some y ∧ ρ y = l' := by cases lo <;> simp_all
      have e1 : hi = none := by cases hi <;> simp_all
      have e3 : mx = none := by cases mx <;> simp_all
      subst e1 e3
      split at hk
      case h_2 => exact hk.elim
      rename_i kl lv hil
      simp only [chk_iff, obind_iff] at hk
      obtain ⟨hs, h0, h1, hk⟩ := hk
      refine cut lv.toNat els.length (.inr hs) (by omega) (Nat.le_refl _) (fun a β F w cap hops hc => ⟨cap, hc, Nat.le_refl _, ?_⟩) (by simpa [List.take_of_length_le] using hk)
      have q := hops yl (opl _ rfl); rw [intOf_spec hil] at q
      simp [Instr.sliceBounds, repInt q, run_sliceBound w kl lv els.length _ h0 (by omega)]
    · rename_i l' h' hlo hhi hmx
      obtain ⟨yl, rfl, rfl⟩ : ∃ y, lo = some y ∧ ρ y = l' := by cases lo <;> simp_all
      obtain ⟨yh, rfl, rfl⟩ : ∃ y, hi = some y ∧ ρ y = h' := by cases hi <;> simp_all
      have e3 : mx = none := by cases mx <;> simp_all
      subst e3
      split at hk
      case h_2 => exact hk.elim
      rename_i kl lv kh hv hil hih
      simp only [chk_iff, obind_iff] at hk
      obtain ⟨hs, h0, h1, h2, hk⟩ := hk
      refine cut lv.toNat hv.toNat (.inr hs) (by omega) (by omega) (fun a β F w cap hops hc => ⟨cap, by omega, Nat.le_refl _, ?_⟩) hk
      have q := hops yl (opl _ rfl); rw [intOf_spec hil] at q
      have q2 := hops yh (oph _ rfl); rw [intOf_spec hih] at q2
      simp [Instr.sliceBounds, repInt q, repInt q2, run_sliceBound w kh hv cap _ (by omega) (by omega), run_sliceBound w kl lv hv.toNat _ h0 (by omega)]
    · rename_i h' m' hlo hhi hmx
      obtain ⟨yh, rfl, rfl⟩ : ∃ y, hi = some y ∧ ρ y = h' := by cases hi <;> simp_all
      obtain ⟨ym, rfl, rfl⟩ : ∃ y, mx = some y ∧ ρ y = m' := by cases mx <;> simp_all
      have e1 : lo = none := by cases lo <;> simp_all
      subst e1
      split at hk
      case h_2 => exact hk.elim
      rename_i kh hv km mv hih him
      simp only [chk_iff, obind_iff] at hk
      obtain ⟨h0, h1, h2, hk⟩ := hk
      refine cut 0 hv.toNat (.inl rfl) (Nat.zero_le _) (by omega) (fun a β F w cap hops hc => ⟨mv.toNat, by omega, by omega, ?_⟩) (by simpa using hk)
      have q := hops ym (opm _ rfl); rw [intOf_spec him] at q
      have q2 := hops yh (oph _ rfl); rw [intOf_spec hih] at q2
      simp [Instr.sliceBounds, repInt q, repInt q2, run_sliceBound w km mv cap _ (by omega) (by omega), run_sliceBound w kh hv mv.toNat _ h0 (by omega)]
    · exact hk.elim
  · -- our own
    rename_i id sz n hx
    split at hk
    case h_2 => exact hk.elim
    rename_i sz' els hm hbeq
    have hsz : sz = ti.size := Nat.eq_of_beq_eq_true hbeq
    split at hk
    · rename_i h' hlo hhi hmx
      obtain ⟨yh, rfl, rfl⟩ : ∃ y, hi = some y ∧ ρ y = h' := by cases hi <;> simp_all
      have e1 : lo = none := by cases lo <;> simp_all
      have e3 : mx = none := by cases mx <;> simp_all
      subst e1 e3
      split at hk
      case h_2 =>
        split at hk
        case h_2 => exact hk.elim
        rename_i kh hv hih
        simp only [chk_iff, obind_iff] at hk
        obtain ⟨h0, h2, h3, hk⟩ := hk
        refine good_pure hk (fun β F w a hops hrd => ?_)
        have g1 := hops x opx; rw [hx] at g1
        have q2 := hops yh (oph _ rfl); rw [intOf_spec hih] at q2
        generalize hq : a.eval x = q0 at g1
        cases g1 with
        | ownNil _ _ _ bi hbi hnil hn0 => omega
        | own _ _ _ bi hbi hnil hz hn' hcc => exact win_run run hq hbi hnil hz hn' hsz 0 hv.toNat hv.toNat (by omega) (by omega) (by omega) (by omega) (by
            simp [Instr.sliceBounds, repInt q2, run_sliceBound w kh hv bi.cap _ (by omega) (by omega)]) hcc
      split at hk
      case h_2 => exact hk.elim
      rename_i kh hv hih
      simp only [chk_iff, obind_iff] at hk
      obtain ⟨h0, h1, hk⟩ := hk
      refine ⟨_, hk, ?_, .news hn (fun i hi => by simp at hi; subst hi; exact ⟨_, _, hm⟩) (fun _ h => by cases h) (fun _ _ h => by cases h)⟩
      intro β F w a next Q hops hF hrd hwr hfresh hinj hnext
      have g1 := hops x opx; rw [hx] at g1
      have q2 := hops yh (oph _ rfl); rw [intOf_spec hih] at q2
      obtain ⟨b0, hb0, hok⟩ := hrd id (.inl (by simp)) _ hm
      generalize hq : a.eval x = q at g1
      have hb : ∀ cap, els.length ≤ cap → (Instr.sliceBounds true n cap none (some (a.eval yh)) none).run P w = .ok (0, hv.toNat, cap) w := fun cap hc => by
        simp [Instr.sliceBounds, repInt q2, run_sliceBound w kh hv cap _ h0 (by omega)]
      cases g1 with
      | ownNil _ _ _ bi hbi hnil hn0 =>
        rw [hb0] at hbi; cases hbi
        cases hok with
        | row _ _ _ h1' => rw [hnil] at h1'; cases h1'
        | nil _ _ hn1 _ =>
          have hv0 : hv = 0 := by simp at h1; omega
          subst hv0 hn0
          have hr := run a w none 0 0 0 0 0 hq (by simpa using hb 0 (Nat.le_refl _))
          have hE := Eff.renamed (nid := nid) (id := id) (x := .own nid sz (([] : List (List PV)).take (0 : Int).toNat).length) (rd := [id]) (B := .row sz (([] : List (List PV)).take (0 : Int).toNat) true) (v := .slice none 0 0) (F := F) (w := w) (bi := b0) (hfresh 0 (by simp)) hb0 rfl rfl (.nil sz hnil hn1 true)
            (by have := RepA.ownNil (β := put β nid b0) (F := F) (w := w) nid sz 0 b0 (by simp [Am.put]) hnil rfl; simpa using this)
          have := hnext _ _ _ _ hE
          unfold Oper.wp
          rw [hr]
          simpa [Oper.upon] using this
      | own _ _ _ bi hbi hnil hz hn' hcc =>
        rw [hb0] at hbi; cases hbi
        cases hok with
        | nil _ hnn => rw [hnil] at hnn; cases hnn
        | row _ _ _ h1' hz' hn1 hc hr0 hs ho' hf =>
          have hr := run a w _ _ _ _ _ _ hq (hb _ (by omega))
          let bi : BI := ⟨b0.b, b0.o, b0.sz, (els.take hv.toNat).length, b0.cap, false⟩
          have hcapz : (if b0.cap = 0 then (some (⟨b0.b, b0.o, none⟩ : Addr)) else (some (⟨b0.b, b0.o, none⟩ : Addr)).map (·.add (0 * ti.size))) = some ⟨b0.b, b0.o, none⟩ := by
            simp [Addr.add_mid]
          rw [hcapz] at hr
          have hlen : (els.take hv.toNat).length = hv.toNat := by simp; omega
          have hE := Eff.renamed (nid := nid) (id := id) (x := .own nid sz (els.take hv.toNat).length) (rd := [id]) (B := .row sz (els.take hv.toNat) true) (v := .slice (some ⟨b0.b, b0.o, none⟩) (els.take hv.toNat).length b0.cap) (F := F) (w := w) (bi := bi) (hfresh 0 (by simp)) hb0 hnil.symm rfl
            (.row sz _ true rfl hz.symm rfl (by show (els.take hv.toNat).length ≤ b0.cap; omega) hr0 (by have := rows_part hs 0 hv.toNat; simpa using this) (fun _ => ho' rfl) (fun h => by cases h))
            (by have := RepA.own (β := put β nid bi) (F := F) (w := w) nid sz _ bi (by simp [Am.put]) rfl hz rfl (by show (els.take hv.toNat).length ≤ b0.cap; omega); exact this)
          have := hnext _ _ _ _ hE
          unfold Oper.wp
          rw [hr]
          simp only [Oper.upon, Nat.sub_zero]
          rw [hlen] at this
          exact this
    · rename_i l' h' hlo hhi hmx
      obtain ⟨yl, rfl, rfl⟩ : ∃ y, lo = some y ∧ ρ y = l' := by cases lo <;> simp_all
      obtain ⟨yh, rfl, rfl⟩ : ∃ y, hi = some y ∧ ρ y = h' := by cases hi <;> simp_all
      have e3 : mx = none := by cases mx <;> simp_all
      subst e3
      split at hk
      case h_2 => exact hk.elim
      rename_i kl lv kh hv hil hih
      simp only [chk_iff, obind_iff] at hk
      obtain ⟨h0, h1, h2, h3, hk⟩ := hk
      refine good_pure hk (fun β F w a hops hrd => ?_)
      have g1 := hops x opx; rw [hx] at g1
      have q := hops yl (opl _ rfl); rw [intOf_spec hil] at q
      have q2 := hops yh (oph _ rfl); rw [intOf_spec hih] at q2
      generalize hq : a.eval x = q0 at g1
      cases g1 with
      | ownNil _ _ _ bi hbi hnil hn0 => omega
      | own _ _ _ bi hbi hnil hz hn' hcc => exact win_run run hq hbi hnil hz hn' hsz (lv.toNat) hv.toNat (hv - lv).toNat (by omega) (by omega) (by omega) (by omega) (by
          simp [Instr.sliceBounds, repInt q, repInt q2, run_sliceBound w kh hv bi.cap _ (by omega) (by omega), run_sliceBound w kl lv hv.toNat _ h0 (by omega)]) hcc
    · rename_i l' hlo hhi hmx
      obtain ⟨yl, rfl, rfl⟩ : ∃ y, lo = some y ∧ ρ y = l' := by cases lo <;> simp_all
      have e1 : hi = none := by cases hi <;> simp_all
      have e3 : mx = none := by cases mx <;> simp_all
      subst e1 e3
      split at hk
      case h_2 =>
        split at hk
        case h_2 => exact hk.elim
        rename_i kl lv hil
        simp only [chk_iff, obind_iff] at hk
        obtain ⟨h0, hk⟩ := hk
        split at hk
        · rename_i h1
          have h1 := of_decide_eq_true h1
          refine good_pure hk (fun β F w a hops hrd => ?_)
          have g1 := hops x opx; rw [hx] at g1
          have q := hops yl (opl _ rfl); rw [intOf_spec hil] at q
          generalize hq : a.eval x = q0 at g1
          cases g1 with
          | ownNil _ _ _ bi hbi hnil hn0 => omega
          | own _ _ _ bi hbi hnil hz hn' hcc => exact win_run run hq hbi hnil hz hn' hsz (lv.toNat) n (n - lv.toNat) (by omega) (by omega) (by omega) (by omega) (by
              simp [Instr.sliceBounds, repInt q, run_sliceBound w kl lv n _ h0 (by omega)]) hcc
        · obtain ⟨h1, hk⟩ := hk
          refine good_pure hk (fun β F w a hops hrd => ?_)
          have g1 := hops x opx; rw [hx] at g1
          have q := hops yl (opl _ rfl); rw [intOf_spec hil] at q
          generalize hq : a.eval x = q0 at g1
          have emp : ∀ (ad : Option Addr) (c : Nat), RepA β F w (.p (.sl [])) (.slice ad 0 c) := fun ad c => .p _ _ (.sl [] ad c 0 0 0 (fun _ => []) (Nat.zero_le _) (fun h => by simp at h) (fun i e h => by simp at h) (fun i e j x y h => by simp at h))
          cases g1 with
          | ownNil _ _ _ bi hbi hnil hn0 =>
            subst hn0
            have := run a w none 0 0 lv.toNat 0 0 hq (by
              simp [Instr.sliceBounds, repInt q, run_sliceBound w kl lv 0 _ h0 (by omega)])
            rw [show 0 - lv.toNat = 0 by omega] at this
            exact ⟨_, this, emp _ _⟩
          | own _ _ _ bi hbi hnil hz hn' hcc =>
            have := run a w _ _ _ lv.toNat n bi.cap hq (by
              simp [Instr.sliceBounds, repInt q, run_sliceBound w kl lv n _ h0 (by omega)])
            rw [show n - lv.toNat = 0 by omega] at this
            exact ⟨_, this, emp _ _⟩
      split at hk
      case h_2 => exact hk.elim
      rename_i kl lv hil
      simp only [chk_iff, obind_iff] at hk
      obtain ⟨h0, h1, hk⟩ := hk
      refine good_pure hk (fun β F w a hops hrd => ?_)
      have g1 := hops x opx; rw [hx] at g1
      have q := hops yl (opl _ rfl); rw [intOf_spec hil] at q
      generalize hq : a.eval x = q0 at g1
      cases g1 with
      | ownNil _ _ _ bi hbi hnil hn0 => omega
      | own _ _ _ bi hbi hnil hz hn' hcc => exact win_run run hq hbi hnil hz hn' hsz (lv.toNat) n (n - lv.toNat) (by omega) (by omega) (by omega) (by omega) (by
          simp [Instr.sliceBounds, repInt q, run_sliceBound w kl lv n _ h0 (by omega)]) hcc
    · exact hk.elim
  · exact hk.elim
end ops
end Go.Am
