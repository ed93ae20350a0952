import Derived.Test.YtopddgfmhgmfpaaGreatAm1
import Derived.OrdersIn
set_option linter.unusedVariables false
set_option linter.unusedSimpArgs false
set_option linter.unusedVariables false
namespace Go.Am
open Go

theorem heap_setCells_other (b : Nat) : ∀ (vs : List Value) (o : Nat) (w : World) (k : Nat), k ≠ b → (w.setCells b o vs).heap[k]? = w.heap[k]?
  | [], _, _, _, _ => rfl
  | v :: r, o, w, k, h => by
    rw [World.setCells, heap_setCells_other b r (o + 1) _ k h]
    exact RowKit.Below.heap_setCell w ⟨b, o, none⟩ v k h
theorem setCells_same (b : Nat) : ∀ (vs : List Value) (o : Nat) (w : World), (w.setCells b o vs).os = w.os ∧ (w.setCells b o vs).tape = w.tape ∧ (w.setCells b o vs).output = w.output ∧ (w.setCells b o vs).heap.size = w.heap.size
  | [], _, _ => ⟨rfl, rfl, rfl, rfl⟩
  | v :: r, o, w => by
    obtain ⟨h1, h2, h3, h4⟩ := setCells_same b r (o + 1) (w.setCell ⟨b, o, none⟩ v)
    rw [World.setCells]
    exact ⟨h1, h2, h3, by rw [h4]; simp [World.setCell]⟩
theorem setCells_room (b : Nat) : ∀ (vs : List Value) (o : Nat) (w : World) (c : Array Value) (e : TypeId), w.heap[b]? = some (.cells c e (0, 0)) → ∃ c', (w.setCells b o vs).heap[b]? = some (.cells c' e (0, 0)) ∧ c'.size = c.size
  | [], _, _, c, _, h => ⟨c, h, rfl⟩
  | v :: r, o, w, c, e, h => by
    rw [World.setCells]
    obtain ⟨c', h1, h2⟩ := setCells_room b r (o + 1) (w.setCell ⟨b, o, none⟩ v) (c.setIfInBounds o v) e (by
      simp only [World.setCell, Array.getElem?_modify, if_true, h, Option.map_some]
      simp)
    exact ⟨c', h1, by simpa using h2⟩
theorem Room.setCells {w : World} {bi : BI} (h : Room w bi) (o : Nat) (vs : List Value) : Room (w.setCells bi.b o vs) bi := by
  obtain ⟨c, e, h1, h2⟩ := h
  obtain ⟨c', h3, h4⟩ := setCells_room bi.b vs o w c e h1
  exact ⟨c', e, h3, by omega⟩
theorem Room.there {w : World} {bi : BI} (h : Room w bi) (o n : Nat) (hn : bi.o + o + n ≤ bi.o + bi.cap * bi.sz) : w.there bi.b (bi.o + o) n := by
  obtain ⟨c, e, h1, h2⟩ := h
  intro j hj
  constructor
  · simp only [World.cell?, h1]
    simp; omega
  · simp [World.frozen?, h1]
theorem range_setCells_apart {w : World} {b o o' : Nat} {us vs : List Value} (h : w.rangeAt b o' us) (ha : o' + us.length ≤ o ∨ o + vs.length ≤ o') : (w.setCells b o vs).rangeAt b o' us :=
  World.rangeAt_setCells_apart h b o vs (.inr ha)

section ops
variable {P : Program} {T : Tab} (hT : TabOK P T) {o : Oper} {ρ : Operand → AV} {mm : Mem} {nid : Nat} {k : Delta → Prop}

/-! ### Stores -/
include hT in
theorem run_store {t : Nat} {ti : TI} (h : T t = some ti) (w : World) (b p : Nat) (v : Value) (hs : v.cells.size = ti.size) (h1 : ∀ u ∈ v.cells.toList, u.oneCell' = true) (ht : w.there b p v.cells.size) :
    (Instr.storeAt t (.pointer (some ⟨b, p, none⟩)) v).run P w = .ok () (w.setCells b p v.cells.toList) := by
  have := run_storeCells_cells (P := P) b p v.cells.toList 0 w (fun j hj => by simpa using (ht j (by simpa using hj)).1) (fun j hj => by simpa using (ht j (by simpa using hj)).2) h1
  simp only [Nat.add_zero] at this
  have hsz := run_size hT h w
  simp only [Instr.storeAt, Instr.sureAddr, Sem.run_bind, Sem.run_pure, Result.andThen_ok, storeVar, hsz]
  rw [if_neg (by omega)]
  exact this

theorem flat_le {i n : Nat} (hi : i < n) (sz : Nat) : i * sz + sz ≤ n * sz := by rw [← Nat.succ_mul]; exact Nat.mul_le_mul_right _ hi

/-- A store, as an effect. -/
theorem eff_store {d : Delta} {v : Value} {β : Pl} {F F' : Nat → Prop} {w : World} {id p : Nat} {bi : BI} {vs : List Value} {x : Wr} (hd : d.wr = some x) (hid : x.id = id) (hv : RepA β F' (w.setCells bi.b p vs) d.v v) (hnews : d.news = []) (hkill : d.kill = [])
    (hbi : β id = some bi) (hnil : bi.nil = false) (hF : ∀ b, F b → b < w.heap.size) (hF' : ∀ b, F' b ↔ F b ∨ ∃ id ∈ d.frz, ∃ b0, β id = some b0 ∧ b0.nil = false ∧ b0.b = b)
    (hx : match x with
      | .box _ j xs => xs.length = vs.length ∧ p = bi.o + j ∧ Room w bi ∧ bi.o + j + vs.length ≤ bi.o + bi.cap * bi.sz ∧ (∀ v ∈ vs, v.oneCell' = true) ∧ (∀ (k : Nat) (x : AV) (y : Value), xs[k]? = some x → vs[k]? = some y → RepA β F' (w.setCells bi.b p vs) x y)
      | .elem _ i e => e.length = vs.length ∧ e.length = bi.sz ∧ p = bi.o + i * bi.sz ∧ Room w bi ∧ bi.o + i * bi.sz + vs.length ≤ bi.o + bi.cap * bi.sz ∧ (∀ v ∈ vs, v.oneCell' = true) ∧ (∀ (k : Nat) (x : PV) (y : Value), e[k]? = some x → vs[k]? = some y → RepP F' (w.setCells bi.b p vs) x y)
      | .all _ els => Room w bi ∧ RowsAt F' (w.setCells bi.b p vs) bi.b bi.o bi.sz els) : Eff d nid β F w v β F' (w.setCells bi.b p vs) := by
  obtain ⟨s1, s2, s3, s4⟩ := setCells_same bi.b vs p w
  have hthere : ∀ j n, bi.o + j + n ≤ bi.o + bi.cap * bi.sz → Room w bi → w.there bi.b (bi.o + j) n := fun j n h hr => hr.there j n h
  exact {
    os := s1, tape := s2, output := s3, size := by rw [s4]; exact Nat.le_refl _
    ext := fun _ _ h => h
    dom := fun _ h _ => h
    keep := fun k hk h => heap_setCells_other bi.b vs p w k (fun e => h id (by rw [← hid]; exact mem_tch_wr hd) bi hbi hnil e.symm)
    Fm := fun b h => (hF' b).2 (.inl h)
    Fn := fun b h => by
      rcases (hF' b).1 h with h | h
      · exact .inl h
      · exact .inr (.inr h)
    Fz := fun id hid b0 h1 h2 => (hF' _).2 (.inr ⟨id, hid, b0, h1, h2, rfl⟩)
    val := hv
    news := fun k B h => by rw [hnews] at h; simp at h
    inj := fun k l bi bj h h1 => by rw [hnews] at h1; simp at h1
    box := fun id' j xs h bi' hb' hn' => by
      rw [hd] at h; cases h
      simp only [Wr.id] at hid; subst hid
      rw [hbi] at hb'; cases hb'
      obtain ⟨h1, rfl, h3, h4, h5, h6⟩ := hx
      exact ⟨h3.setCells _ _, fun o us hu ha => range_setCells_apart hu (by omega), vs, h1, World.rangeAt_setCells_same _ _ _ _ (hthere _ _ h4 h3), h5, h6⟩
    elem := fun id' i e h bi' hb' hn' => by
      rw [hd] at h; cases h
      simp only [Wr.id] at hid; subst hid
      rw [hbi] at hb'; cases hb'
      obtain ⟨h1, h0, rfl, h3, h4, h5, h6⟩ := hx
      exact ⟨h3.setCells _ _, h0, fun o us hu ha => range_setCells_apart hu (by omega), vs, h1, World.rangeAt_setCells_same _ _ _ _ (hthere _ _ h4 h3), h5, h6⟩
    all := fun id' els h bi' hb' hn' => by
      rw [hd] at h; cases h
      simp only [Wr.id] at hid; subst hid
      rw [hbi] at hb'; cases hb'
      exact ⟨hx.1.setCells _ _, hx.2⟩ }

theorem repP_setCells {F : Nat → Prop} {w : World} {b o : Nat} {vs : List Value} (hb : ¬ F b) {x : PV} {v : Value} (h : RepP F w x v) : RepP F (w.setCells b o vs) x v :=
  h.mono (fun _ h => h) (fun b' hb' => heap_setCells_other b vs o w b' (fun e => hb (e ▸ hb')))

theorem contains_spec {l : List Nat} {n : Nat} : contains l n = l.contains n := by
  induction l with
  | nil => rfl
  | cons x r ih =>
    simp only [contains_cons]
    cases h : Nat.beq x n with
    | true => have := Nat.eq_of_beq_eq_true h; subst this; simp
    | false =>
      have : x ≠ n := fun e => by subst e; rw [Nat.beq_refl] at h; cases h
      simp [ih]; exact fun e => absurd e.symm this

theorem pvL_rows : ∀ (l : List AV) (ps : List PV) (ids : List Nat), AV.pv.pvL mm l = some (ps, ids) → ∀ id ∈ ids, ∃ sz els o, mm id = some (.row sz els o) := by
  have pvrow : ∀ (x : AV) (p : PV) (ids : List Nat), x.pv mm = some (p, ids) → ∀ id ∈ ids, ∃ sz els o, mm id = some (.row sz els o) := by
    intro x
    refine AV.rec (motive_1 := fun x => ∀ (p : PV) (ids : List Nat), x.pv mm = some (p, ids) → ∀ id ∈ ids, ∃ sz els o, mm id = some (.row sz els o))
      (motive_2 := fun l => ∀ (ps : List PV) (ids : List Nat), AV.pv.pvL mm l = some (ps, ids) → ∀ id ∈ ids, ∃ sz els o, mm id = some (.row sz els o)) ?_ ?_ ?_ ?_ ?_ ?_ ?_ ?_ ?_ ?_ ?_ x
    · intro p ids h; simp [AV.pv] at h
    · intro y p ids h id hid
      cases y with
      | val v => simp only [AV.pv] at h; split at h <;> (simp at h; obtain ⟨_, rfl⟩ := h; cases hid)
      | sl => simp [AV.pv] at h; obtain ⟨_, rfl⟩ := h; cases hid
      | agg => simp [AV.pv] at h; obtain ⟨_, rfl⟩ := h; cases hid
    · intro i s n p ids h id hid
      simp only [AV.pv] at h
      split at h
      · rename_i hm; simp at h; obtain ⟨_, rfl⟩ := h; simp at hid; subst hid; exact ⟨_, _, _, hm⟩
      · cases h
    · intro i s off n p ids h id hid
      simp only [AV.pv] at h
      split at h
      · rename_i hm; simp at h; obtain ⟨_, rfl⟩ := h; simp at hid; subst hid; exact ⟨_, _, _, hm⟩
      · cases h
    · intro i a b p ids h; simp [AV.pv] at h
    · intro cs p ids h; simp [AV.pv] at h
    · intro cs ih p ids h id hid
      simp only [AV.pv] at h
      split at h
      · rename_i hh; simp at h; obtain ⟨_, rfl⟩ := h; exact ih _ _ hh id hid
      · cases h
    · intro cs ih p ids h; simp [AV.pv] at h
    · intro f cs ih p ids h; simp [AV.pv] at h
    · intro ps ids h id hid; simp [AV.pv.pvL] at h; obtain ⟨_, rfl⟩ := h; cases hid
    · intro x l ihx ihl ps ids h id hid
      simp only [AV.pv.pvL] at h
      split at h
      · cases h
      · rename_i h1
        split at h
        · cases h
        · rename_i h2
          simp at h; obtain ⟨_, rfl⟩ := h
          rcases List.mem_append.1 hid with hid | hid
          · exact ihx _ _ h1 id hid
          · exact ihl _ _ h2 id hid
  intro l
  induction l with
  | nil => intro ps ids h id hid; simp [AV.pv.pvL] at h; obtain ⟨_, rfl⟩ := h; cases hid
  | cons x l ihl =>
    intro ps ids h id hid
    simp only [AV.pv.pvL] at h
    split at h
    · cases h
    · rename_i h1
      split at h
      · cases h
      · rename_i h2
        simp at h; obtain ⟨_, rfl⟩ := h
        rcases List.mem_append.1 hid with hid | hid
        · exact pvrow _ _ _ h1 id hid
        · exact ihl _ _ h2 id hid

include hT in
theorem good_store {t : TypeId} {x y : Operand} (ho : o.op = .store t x y) (hk : effStore T mm t (ρ x) (ρ y) k) : Good P o ρ mm nid k := by
  unfold effStore at hk
  split at hk
  case h_2 => exact hk.elim
  rename_i ti xs ht hxs
  split at hk
  case h_2 => exact hk.elim
  rename_i hbeq h1
  have hsz : xs.length = ti.size := Nat.eq_of_beq_eq_true hbeq
  have opx : x ∈ o.op.operands := by simp [ho, Op.operands]
  have opy : y ∈ o.op.operands := by simp [ho, Op.operands]
  split at hk
  case h_2 => exact hk.elim
  rename_i id i j hx
  have dst : ∀ (a : Act) (w w' : World) (next : Act → World → Prop) (Q : Exit → Act → World → Prop), (Instr.storeAt t (a.eval x) (a.eval y)).run P w = .ok () w' → next (a.put o.dst undef) w' → o.wp P a w next Q := by
    intro a w w' next Q h hn
    unfold Oper.wp
    simp only [execOp, ho, Sem.run_bind, h, Result.andThen_ok, Sem.run_pure, Oper.upon]
    exact hn
  split at hk
  · rename_i cs hm
    split at hk
    case h_2 => exact hk.elim
    rename_i _ hble
    have hle := Nat.le_of_ble_eq_true hble
    refine ⟨_, hk, ?_, ?_⟩
    · intro β F w a next Q hops hF hrd hwr hfresh hinj hnext
      have g1 := hops x opx; rw [hx] at g1
      have g2 := hops y opy
      obtain ⟨gl, gx⟩ := g2.cells hxs
      obtain ⟨bi, B', hb, hok, hal⟩ := hwr _ rfl _ hm
      generalize hq : a.eval x = q at g1
      cases g1 with
      | ptr _ _ _ bi' hb' h =>
        simp only [Wr.id] at hb
        rw [hb] at hb'; cases hb'
        cases hok with
        | nil => simp [Blk.alike] at hal
        | row => simp [Blk.alike] at hal
        | box cs' vs h hn hc hn1 hr hl hv h1' hxx hF' =>
          simp only [Blk.alike] at hal
          have hcap : bi.cap * bi.sz = cs.length := by rw [hc, hn, hal, Nat.one_mul]
          have hvl : (a.eval y).cells.size = xs.length := by simpa using gl.symm
          have hrun := run_store hT ht w bi.b (bi.o + j) (a.eval y) (by omega) (g2.cells_one hxs h1) (hr.there j _ (by rw [hcap]; omega))
          rw [show bi.o + j = bi.o + 0 * bi.sz + j by omega] at hrun
          refine dst a w _ next Q (by rw [hq]; exact hrun) ?_
          refine hnext undef _ β F (eff_store (x := .box id j xs) (id := id) rfl rfl (.top _) rfl rfl hb h hF iff_frz_nil ⟨gl, by simp, hr, ?_, g2.cells_one hxs h1, ?_⟩)
          · rw [hcap]; simp only [Array.length_toList]; omega
          · intro k x y h2 h3
            exact (gx k x y h2 h3).mono (fun _ _ h => h) (fun _ h => h) (fun b hb' => heap_setCells_other _ _ _ _ _ (fun (e : b = bi.b) => hF' (e ▸ hb')))
    · exact {
        box := fun id' j' vs' h => by cases h; exact ⟨cs, hm, hle⟩
        elem := fun _ _ _ h => by cases h
        all := fun _ _ h => by cases h
        kill := fun _ h => by cases h
        frz := fun _ h => by cases h
        fresh := fun _ h => by cases h
        apart := fun _ _ h => by cases h
        wk := fun _ _ h => by cases h }
  · rename_i sz els hm
    split at hk
    case h_2 => exact hk.elim
    rename_i ps ids hps
    have hrows := pvL_rows _ _ _ hps
    split at hk
    · rename_i hone hnc hbz hj0
      have hj0 : j = 0 := Nat.eq_of_beq_eq_true hj0
      subst hj0
      simp only [chk_iff, obind_iff] at hk
      obtain ⟨hi, hk⟩ := hk
      have hpz : sz = ps.length := Nat.eq_of_beq_eq_true hbz
      have hnid : id ∉ ids := by rw [contains_spec] at hnc; simpa using hnc
      refine ⟨_, hk, ?_, ?_⟩
      · intro β F w a next Q hops hF hrd hwr hfresh hinj hnext
        have g1 := hops x opx; rw [hx] at g1
        have g2 := hops y opy
        obtain ⟨gl, gx⟩ := g2.cells hxs
        obtain ⟨bi, B', hb, hok, hal⟩ := hwr _ rfl _ hm
        simp only [Wr.id] at hb
        have hids : ∀ id ∈ ids, ∀ B, mm id = some B → ∃ bi, β id = some bi ∧ BlkOK β F w bi B := fun id h => hrd id (.inl h)
        obtain ⟨q1, q2, q3⟩ := pvL_spec (Pr := Pre mm β F (frzF β F ids) w) xs (a.eval y).cells.toList ps ids gl (fun k x y a b p ids => pv_spec (fun _ h => .inl h) (gx k x y a b) p ids) hps (pre_frz hids)
        generalize hq : a.eval x = q at g1
        cases g1 with
        | ptr _ _ _ bi' hb' h =>
          rw [hb] at hb'; cases hb'
          cases hok with
          | nil sz' h' => rw [h] at h'; cases h'
          | box => simp [Blk.alike] at hal
          | row sz' els' own' h' hz' hn hc hr hs ho' hf =>
            simp only [Blk.alike] at hal
            obtain ⟨rfl, hel, rfl⟩ := hal
            have hvl : (a.eval y).cells.size = xs.length := by simpa using gl.symm
            have hpl : ps.length = bi.sz := by omega
            have hvp : (a.eval y).cells.toList.length = bi.sz := by rw [← q1, hpl]
            have hroom : bi.o + i * bi.sz + bi.sz ≤ bi.o + bi.cap * bi.sz := by
              have := flat_le (show i < bi.cap by omega) bi.sz; omega
            have hrun := run_store hT ht w bi.b (bi.o + i * bi.sz) (a.eval y) (by omega) (g2.cells_one hxs h1) (hr.there (i * bi.sz) _ (by simp at hvp; omega))
            rw [show bi.o + i * bi.sz = bi.o + i * bi.sz + 0 by omega] at hrun
            refine dst a w _ next Q (by rw [hq]; exact hrun) ?_
            have hFb : ¬ frzF β F ids bi.b := by
              rintro (h0 | ⟨id2, h2, b0, h3, h4, h5⟩)
              · exact ho' rfl h0
              · obtain ⟨sz2, els2, o2, hm2⟩ := hrows id2 h2
                exact hinj id2 id _ _ _ _ (fun e => hnid (e ▸ h2)) hm2 hm (.inl h2) (.inr (.inr (.inr ⟨_, rfl, rfl⟩))) h3 hb h4 h h5
            refine hnext undef _ β (frzF β F ids) (eff_store (x := .elem id i ps) (id := id) rfl rfl (.top _) rfl rfl hb h hF (fun b => Iff.rfl) ⟨q1, by omega, Nat.add_zero _, hr, by omega, g2.cells_one hxs h1, ?_⟩)
            intro k x y h2 h3
            exact repP_setCells hFb (q2 k x y h2 h3)
      · exact {
          box := fun _ _ _ h => by cases h
          elem := fun id' i' e' h => by cases h; exact ⟨sz, els, hm, hi⟩
          all := fun _ _ h => by cases h
          kill := fun _ h => by cases h
          frz := fun id' h => hrows id' h
          fresh := fun _ h => by cases h
          apart := fun id' h => by
            simp [Delta.tch, Wr.id] at h; subst h; exact hnid
          wk := fun _ _ h => by cases h }
    · rename_i hone hnc _
      simp only [chk_iff, obind_iff] at hk
      obtain ⟨el, hel, hjl, hk⟩ := hk
      have hnid : id ∉ ids := by rw [contains_spec] at hnc; simpa using hnc
      refine ⟨_, hk, ?_, ?_⟩
      · intro β F w a next Q hops hF hrd hwr hfresh hinj hnext
        have g1 := hops x opx; rw [hx] at g1
        have g2 := hops y opy
        obtain ⟨gl, gx⟩ := g2.cells hxs
        obtain ⟨bi, hb, hok⟩ := hrd id (.inl (by simp)) _ hm
        have hids : ∀ id ∈ ids, ∀ B, mm id = some B → ∃ bi, β id = some bi ∧ BlkOK β F w bi B := fun id h => hrd id (.inl (by simp [h]))
        obtain ⟨q1, q2, q3⟩ := pvL_spec (Pr := Pre mm β F (frzF β F ids) w) xs (a.eval y).cells.toList ps ids gl (fun k x y a b p ids => pv_spec (fun _ h => .inl h) (gx k x y a b) p ids) hps (pre_frz hids)
        generalize hq : a.eval x = q at g1
        cases g1 with
        | ptr _ _ _ bi' hb' h =>
          rw [hb] at hb'; cases hb'
          cases hok with
          | nil sz' h' => rw [h] at h'; cases h'
          | row sz' els' own' h' hz' hn hc hr hs ho' hf =>
            have hi : i < els.length := (List.getElem?_eq_some_iff.1 hel).1
            have hvl : (a.eval y).cells.size = xs.length := by simpa using gl.symm
            obtain ⟨vv, hvv⟩ := hs
            obtain ⟨e1, e2, e3, e4, e5⟩ := hvv i el hel
            have hroom : bi.o + i * bi.sz + bi.sz ≤ bi.o + bi.cap * bi.sz := by
              have := flat_le (show i < bi.cap by omega) bi.sz; omega
            have hpv : (a.eval y).cells.toList.length = ps.length := q1.symm
            have hrun := run_store hT ht w bi.b (bi.o + (i * bi.sz + j)) (a.eval y) (by omega) (g2.cells_one hxs h1) (hr.there (i * bi.sz + j) _ (by simp at hpv; omega))
            rw [← Nat.add_assoc] at hrun
            refine dst a w _ next Q (by rw [hq]; exact hrun) ?_
            have hFb : ¬ frzF β F ids bi.b := by
              rintro (h0 | ⟨id2, h2, b0, h3, h4, h5⟩)
              · exact ho' rfl h0
              · obtain ⟨sz2, els2, o2, hm2⟩ := hrows id2 h2
                exact hinj id2 id _ _ _ _ (fun e => hnid (e ▸ h2)) hm2 hm (.inl (by simp [h2])) (.inl (by simp)) h3 hb h4 h h5
            refine hnext undef _ β (frzF β F ids) (eff_store (x := .all id (els.set i (splice el j ps))) (id := id) rfl rfl (.top _) rfl rfl hb h hF (fun b => Iff.rfl) ⟨hr, ?_⟩)
            refine ⟨fun q => if q = i then splice (vv i) j (a.eval y).cells.toList else vv q, fun q e hqe => ?_⟩
            by_cases hqi : q = i
            · subst hqi
              rw [List.getElem?_set_self hi] at hqe
              cases hqe
              simp only [if_true]
              have hsl : (splice (vv q) j (a.eval y).cells.toList).length = (vv q).length := splice_length _ _ _ (by omega)
              refine ⟨by rw [splice_length _ _ _ hjl]; exact e1, by rw [hsl]; exact e2, ?_, ?_, ?_⟩
              · intro m v hv
                have hml : m < bi.sz := by have := (List.getElem?_eq_some_iff.1 hv).1; omega
                by_cases hin : j ≤ m ∧ m < j + (a.eval y).cells.toList.length
                · rw [splice_in _ _ _ (by omega) m hin.1 hin.2] at hv
                  have := World.rangeAt_setCells_same w bi.b (bi.o + (q * bi.sz + j)) (a.eval y).cells.toList (hr.there _ _ (by omega)) _ _ hv
                  rw [show bi.o + (q * bi.sz + j) + (m - j) = bi.o + q * bi.sz + m by omega, ← Nat.add_assoc] at this
                  exact this
                · rw [splice_out _ _ _ (by omega) m (by omega)] at hv
                  have hr1 : w.rangeAt bi.b (bi.o + q * bi.sz + m) [v] := fun r z hz => by
                    cases r with
                    | zero => simp at hz; subst hz; exact e3 _ _ hv
                    | succ r => simp at hz
                  exact (range_setCells_apart hr1 (by simp; omega)) 0 v rfl
              · intro v hv
                simp only [splice, List.mem_append] at hv
                rcases hv with (hv | hv) | hv
                · exact e4 v (List.mem_of_mem_take hv)
                · exact g2.cells_one hxs h1 v hv
                · exact e4 v (List.mem_of_mem_drop hv)
              · intro m x y hmx hmy
                by_cases hin : j ≤ m ∧ m < j + ps.length
                · rw [splice_in _ _ _ (by omega) m hin.1 (by omega)] at hmy
                  rw [splice_in _ _ _ hjl m hin.1 hin.2] at hmx
                  exact repP_setCells hFb (q2 _ _ _ hmx hmy)
                · rw [splice_out _ _ _ (by omega) m (by omega)] at hmy
                  rw [splice_out _ _ _ hjl m (by omega)] at hmx
                  exact repP_setCells hFb ((e5 _ _ _ hmx hmy).mono (fun _ h => .inl h) (fun _ _ => rfl))
            · rw [List.getElem?_set_ne (Ne.symm hqi)] at hqe
              obtain ⟨f1, f2, f3, f4, f5⟩ := hvv q e hqe
              simp only [if_neg hqi]
              refine ⟨f1, f2, range_setCells_apart f3 ?_, f4, fun m x y hmx hmy => repP_setCells hFb ((f5 _ _ _ hmx hmy).mono (fun _ h => .inl h) (fun _ _ => rfl))⟩
              rw [f2]
              rcases Nat.lt_or_gt_of_ne hqi with hlt | hgt
              · left; have := flat_le hlt bi.sz; omega
              · right; have := flat_le hgt bi.sz; omega
      · have hi : i < els.length := (List.getElem?_eq_some_iff.1 hel).1
        exact {
          box := fun _ _ _ h => by cases h
          elem := fun _ _ _ h => by cases h
          all := fun id' e' h => by cases h; exact ⟨sz, els, hm, by simp⟩
          kill := fun _ h => by cases h
          frz := fun id' h => hrows id' h
          fresh := fun _ h => by cases h
          apart := fun id' h => by
            simp [Delta.tch, Wr.id] at h; subst h; exact hnid
          wk := fun _ _ h => by cases h }
    · exact hk.elim
  · exact hk.elim
end ops
end Go.Am

set_option linter.unusedVariables false
namespace Go.Am
open Go
section ops
variable {P : Program} {T : Tab} (hT : TabOK P T) {o : Oper} {ρ : Operand → AV} {mm : Mem} {nid : Nat} {k : Delta → Prop}

/-! ### Builtins -/
theorem good_call_pure {c : Call} {b : Builtin} {x : AV} (ho : o.op = .call c) (hc : c.callee = .builtin b) (hk : k { v := x })
    (h : ∀ (β : Pl) (F : Nat → Prop) (w : World) (a : Act), (∀ x, x ∈ o.op.operands → RepA β F w (ρ x) (a.eval x)) → ∃ v, (builtin b c.argTypes o.type (c.args.map fun | .const _ => true | _ => false) (c.args.map a.eval)).run P w = .ok (.value v) w ∧ RepA β F w x v) : Good P o ρ mm nid k :=
  good_pure hk (fun β F w a hops _ => by
    obtain ⟨v, h1, h2⟩ := h β F w a hops
    refine ⟨v, ?_, h2⟩
    simp only [execOp, ho, resolve, hc, Sem.run_bind, Sem.run_pure, Result.andThen_ok, invoke]
    exact h1)

theorem mem_args {c : Call} (ho : o.op = .call c) {x : Operand} (h : x ∈ c.args.toList) : x ∈ o.op.operands := by
  simp only [ho, Op.operands, Call.operands]
  simp; exact .inr (by simpa using h)

/-- What a slice operand is in the world. -/
theorem slice_src {β : Pl} {F : Nat → Prop} {w : World} {x : AV} {v : Value} (h : RepA β F w x v) {xs : List (List PV)} {rd : List Nat} {so : Option Nat} (hs : x.slice mm = some (xs, rd, so)) {size : Nat} (hz : szOK so size xs)
    (hrd : ∀ id ∈ rd, ∀ B, mm id = some B → ∃ bi, β id = some bi ∧ BlkOK β F w bi B) {e' : TypeId} {tx : TypeId} (hk : P.underlying tx = some (.slice e')) :
    ∃ flat : List Value, Src P size tx v xs.length flat w ∧ (∀ (i : Nat) (e : List PV), xs[i]? = some e → e.length = size) ∧
      (∀ (i : Nat) (e : List PV) (j : Nat) (x : PV) (y : Value), xs[i]? = some e → e[j]? = some x → flat[i * size + j]? = some y → RepP F w x y) ∧
      (∀ m, m ≤ xs.length → (Builtin.firstCells size m v).run P w = .ok (flat.take (m * size)).toArray w) := by
  have nilc : ∀ c, xs = [] → v = .slice none 0 c → ∃ flat : List Value, Src P size tx v xs.length flat w ∧ (∀ (i : Nat) (e : List PV), xs[i]? = some e → e.length = size) ∧
      (∀ (i : Nat) (e : List PV) (j : Nat) (x : PV) (y : Value), xs[i]? = some e → e[j]? = some x → flat[i * size + j]? = some y → RepP F w x y) ∧
      (∀ m, m ≤ xs.length → (Builtin.firstCells size m v).run P w = .ok (flat.take (m * size)).toArray w) := by
    rintro c rfl rfl
    exact ⟨[], Src.ofNil w hk c, fun i e h => by simp at h, fun i e j x y h => by simp at h, fun m hm => by simp [Builtin.firstCells]⟩
  have rows : ∀ (b o sz c : Nat) (els : List (List PV)), RowsAt F w b o sz els → xs = els → (xs.length = 0 ∨ sz = size) → v = .slice (some ⟨b, o, none⟩) xs.length c → ∃ flat : List Value, Src P size tx v xs.length flat w ∧ (∀ (i : Nat) (e : List PV), xs[i]? = some e → e.length = size) ∧
      (∀ (i : Nat) (e : List PV) (j : Nat) (x : PV) (y : Value), xs[i]? = some e → e[j]? = some x → flat[i * size + j]? = some y → RepP F w x y) ∧
      (∀ m, m ≤ xs.length → (Builtin.firstCells size m v).run P w = .ok (flat.take (m * size)).toArray w) := by
    rintro b o sz c els hr rfl hsz rfl
    rcases hsz with h0 | rfl
    · have : xs = [] := List.eq_nil_of_length_eq_zero h0
      subst this
      exact ⟨[], Src.ofSlice w hk ⟨b, o, none⟩ 0 c [] (by simp) (fun j u h => by simp at h) (fun u h => by cases h), fun i e h => by simp at h, fun i e j x y h => by simp at h, fun m hm => by
        have : m = 0 := by simpa using hm
        subst this
        have := run_firstCells_some (P := P) w size 0 ⟨b, o, none⟩ 0 c [] (by simp) (fun j u h => by simp at h)
        simpa using this⟩
    · obtain ⟨flat, f1, f2, f3, f4, f5⟩ := hr.flat
      have hcell : ∀ j u, flat[j]? = some u → w.cell? ((⟨b, o, none⟩ : Addr).add j) = some u := fun j u h => by rw [Addr.add_mid]; exact f2 j u h
      exact ⟨flat, Src.ofSlice w hk ⟨b, o, none⟩ xs.length c flat f1 hcell f3, f4, f5, fun m hm => run_firstCells_some w sz m _ _ _ _ (by rw [List.length_take, f1]; have := Nat.mul_le_mul_right sz hm; omega) (fun j u h => by
        rw [List.getElem?_take] at h
        split at h
        · exact hcell j u h
        · cases h)⟩
  cases h with
  | p y v hp =>
    cases hp with
    | val v =>
      cases v with
      | slice a n c =>
        simp only [AV.slice] at hs
        split at hs
        · simp at hs; obtain ⟨rfl, rfl, rfl⟩ := hs; simp_all
        · simp at hs; obtain ⟨rfl, rfl, rfl⟩ := hs; simp_all
        · rename_i ad c0 heq
          simp at hs; obtain ⟨rfl, rfl, rfl⟩ := hs
          cases heq
          exact ⟨[], Src.ofSlice w hk ad 0 c [] (by simp) (fun j u h => by simp at h) (fun u h => by cases h), fun i e h => by simp at h, fun i e j x y h => by simp at h, fun m hm => by
            have : m = 0 := by simpa using hm
            subst this
            have := run_firstCells_some (P := P) w size 0 ad 0 c [] (by simp) (fun j u h => by simp at h)
            simpa using this⟩
        all_goals simp_all
      | _ => simp [AV.slice] at hs
    | sl els a c b o sz vv hc ha hs' hx =>
      simp only [AV.slice, Option.some.injEq, Prod.mk.injEq] at hs
      obtain ⟨rfl, rfl, rfl⟩ := hs
      cases els with
      | nil =>
        cases a with
        | none => exact nilc c rfl rfl
        | some ad => exact ⟨[], Src.ofSlice w hk ad 0 c [] (by simp) (fun j u h => by simp at h) (fun u h => by cases h), fun i e h => by simp at h, fun i e j x y h => by simp at h, fun m hm => by
          have : m = 0 := by simpa using hm
          subst this
          have := run_firstCells_some (P := P) w size 0 ad 0 c [] (by simp) (fun j u h => by simp at h)
          simpa using this⟩
      | cons e r =>
        obtain ⟨rfl, hF⟩ := ha (by simp)
        exact rows b o sz c _ ⟨vv, fun i e hi => let ⟨h1, h2, h3, h4⟩ := hs' i e hi; ⟨h1, h2, h3, h4, fun j x y hj hy => hx i e j x y hi hj hy⟩⟩ rfl (.inr (by rw [← (hs' 0 e rfl).1]; exact hz e (by simp))) rfl
    | agg => simp [AV.slice] at hs
  | ownNil id sz n bi hb h hn =>
    simp only [AV.slice] at hs
    split at hs
    case h_2 => cases hs
    rename_i sz' els oo hm
    simp only [Option.some.injEq, Prod.mk.injEq] at hs
    obtain ⟨rfl, rfl, rfl⟩ := hs
    obtain ⟨bi', hb', hok⟩ := hrd id (by simp) _ hm
    rw [hb] at hb'; cases hb'
    cases hok with
    | nil => exact nilc 0 rfl rfl
    | row _ _ _ h1 => rw [h] at h1; cases h1
  | own id sz n bi hb h hz' hn hcc =>
    simp only [AV.slice] at hs
    split at hs
    case h_2 => cases hs
    rename_i sz' els oo hm
    simp only [Option.some.injEq, Prod.mk.injEq] at hs
    obtain ⟨rfl, rfl, rfl⟩ := hs
    obtain ⟨bi', hb', hok⟩ := hrd id (by simp) _ hm
    rw [hb] at hb'; cases hb'
    simp only [szOK] at hz
    cases hok with
    | nil _ h1 => rw [h] at h1; cases h1
    | row _ _ _ h1 hzz hn' hc hr hs' ho' hf => exact rows _ _ _ bi.cap _ hs' rfl (.inr (by omega)) (by rw [hn, hn'])
  | win id sz off n c bi hb h hz' hc hn hoo =>
    simp only [AV.slice] at hs
    split at hs
    case h_2 => cases hs
    rename_i sz' els oo hm
    simp only [Option.some.injEq, Prod.mk.injEq] at hs
    obtain ⟨rfl, rfl, rfl⟩ := hs
    obtain ⟨bi', hb', hok⟩ := hrd id (by simp) _ hm
    rw [hb] at hb'; cases hb'
    simp only [szOK] at hz
    cases hok with
    | nil _ h1 => rw [h] at h1; cases h1
    | row _ _ _ h1 hzz hn' hcc hr hs' ho' hf =>
      have hlen : ((els.drop off).take n).length = n := by simp; omega
      exact rows _ _ _ c _ (rows_part hs' off n) rfl (.inr (by omega)) (by rw [hlen])
  | _ => simp [AV.slice] at hs

include hT in
theorem good_append {c : Call} (ho : o.op = .call c) (hc : c.callee = .builtin .append) (hn : ∀ j, nid ≤ j → mm j = none) (hk : effApp2 T mm nid c.argTypes.toList (c.args.toList.map ρ) k) : Good P o ρ mm nid k := by
  unfold effApp2 at hk
  split at hk
  case h_2 => exact hk.elim
  rename_i t u sA xA hts has
  obtain ⟨s, x, hargs, rfl, rfl⟩ : ∃ s x, c.args.toList = [s, x] ∧ ρ s = sA ∧ ρ x = xA := by
    match h : c.args.toList, has with
    | [s, x], has => simp at has; exact ⟨s, x, rfl, has.1, has.2⟩
  have ops : s ∈ o.op.operands := mem_args ho (by rw [hargs]; simp)
  have opx : x ∈ o.op.operands := mem_args ho (by rw [hargs]; simp)
  split at hk
  case h_2 => exact hk.elim
  rename_i eu szu byu zu hTu
  have huu := und_slice hT hTu rfl
  have hat : c.argTypes = #[t, u] := by rw [← Array.toList_inj]; simpa using hts
  have haa : ∀ a : Act, c.args.map a.eval = #[a.eval s, a.eval x] := fun a => by
    rw [← Array.toList_inj, Array.toList_map, hargs]; rfl
  have dst : ∀ (a : Act) (w w' : World) (v : Value) (next : Act → World → Prop) (Q : Exit → Act → World → Prop), (Builtin.append_ #[t, u] o.type #[a.eval s, a.eval x]).run P w = .ok v w' → next (a.put o.dst v) w' → o.wp P a w next Q := by
    intro a w w' v next Q h hn
    unfold Oper.wp
    simp only [execOp, ho, resolve, hc, Sem.run_bind, Sem.run_pure, Result.andThen_ok, invoke, builtin, hat, haa, h, Oper.upon]
    exact hn
  unfold effAppend at hk
  split at hk
  case h_2 => exact hk.elim
  rename_i e szt byt zt hTt
  have hut := und_slice hT hTt rfl
  split at hk
  case h_2 => exact hk.elim
  rename_i ti hte
  split at hk
  case h_2 => exact hk.elim
  rename_i xs rd so hsl hbpos
  have hbpos : 0 < ti.bytes := Nat.le_of_ble_eq_true hbpos
  obtain ⟨inf, i1, i2, i3, z', i4, i5, i6, i7⟩ := hT.info e ti hte
  have hzs : z'.cells.size = ti.size := by rw [← i7, ← i5]; simp
  -- a new row
  have grow : ∀ (β : Pl) (F : Nat → Prop) (w : World) (base : Option Addr) (olds : List (List PV)) (oldf flat : List Value) (sCap : Nat) (v : Value) (rd' kill : List Nat), (∀ b, F b → b < w.heap.size) → β nid = none →
      oldf.length = olds.length * ti.size → (∀ v ∈ oldf, v.oneCell' = true) → (∀ (i : Nat) (e : List PV), olds[i]? = some e → e.length = ti.size) → (∀ (i : Nat) (e : List PV) (j : Nat) (x : PV) (y : Value), olds[i]? = some e → e[j]? = some x → oldf[i * ti.size + j]? = some y → RepP F w x y) →
      (Builtin.firstCells inf.size olds.length (.slice base olds.length sCap)).run P w.drew = .ok oldf.toArray w.drew → Src P ti.size u v xs.length flat w → (∀ (i : Nat) (e : List PV), xs[i]? = some e → e.length = ti.size) →
      (∀ (i : Nat) (e : List PV) (j : Nat) (x : PV) (y : Value), xs[i]? = some e → e[j]? = some x → flat[i * ti.size + j]? = some y → RepP F w x y) → sCap < olds.length + xs.length → (olds.length + xs.length) * ti.bytes ≤ 140737488355328 →
      ∃ v' w' β', (Builtin.append_ #[t, u] o.type #[.slice base olds.length sCap, v]).run P w = .ok v' w' ∧ Eff { v := .own nid ti.size (olds.length + xs.length), rd := rd', kill := kill, news := [.row ti.size (olds ++ xs) true] } nid β F w v' β' F w' := by
    intro β F w base olds oldf flat sCap v rd' kill hF hfresh o1 o2 o3 o4 hfirst hsrc x1 x2 hcap hbytes
    have hneed : olds.length + xs.length ≤ 140737488355328 := Nat.le_trans (Nat.le_mul_of_pos_right _ hbpos) hbytes
    have hrun := run_append_grow_src (P := P) w t u o.type e inf z' hut i1 i4 base olds.length sCap oldf hfirst v xs.length flat (by rw [i2]; exact hsrc) hcap (by omega) (growslice_fits hcap (by rw [i3]; exact hbytes))
    have hflen := hsrc.newsLen
    have hge := grownCap_ge w (olds.length + xs.length) sCap e
    have hE := row_new (nid := nid) (β := β) (F := F) (F' := F) (w := w) (w0 := w.drew) (els := olds ++ xs) (sz := ti.size) (n := olds.length + xs.length) (cap := grownCap w (olds.length + xs.length) sCap e)
      (c := (oldf ++ flat).toArray ++ Builtin.zeroCells z'.cells (grownCap w (olds.length + xs.length) sCap e - (olds.length + xs.length))) (rd := rd') (frz := []) (kill := kill) (.inr rfl) hF hfresh iff_frz_nil hF (by simp) hge
      (by simp [Builtin.zeroCells, hzs, o1, hflen]; rw [← Nat.add_mul, ← Nat.add_mul]; exact Nat.mul_le_mul_right _ (by omega)) (oldf ++ flat) (Builtin.zeroCells z'.cells (grownCap w (olds.length + xs.length) sCap e - (olds.length + xs.length))).toList (by simp)
      (fun y hy => by rcases List.mem_append.1 hy with h | h; exact o2 y h; exact hsrc.one y h) (by simp [o1, hflen]; rw [← Nat.add_mul]; exact Nat.le_refl _)
      (fun i el hi => by
        rw [List.getElem?_append] at hi
        split at hi
        · exact o3 i el hi
        · exact x1 _ el hi)
      (fun i el j y z hi hj hz => by
        rw [List.getElem?_append] at hi
        split at hi
        · rename_i hlt
          have hjs : j < ti.size := by have := (List.getElem?_eq_some_iff.1 hj).1; have := o3 i el hi; omega
          have := flat_lt hlt hjs
          rw [List.getElem?_append_left (by omega)] at hz
          exact o4 i el j y z hi hj hz
        · rename_i hge'
          have hle : olds.length * ti.size ≤ i * ti.size := Nat.mul_le_mul_right _ (by omega)
          rw [List.getElem?_append_right (by omega)] at hz
          refine x2 (i - olds.length) el j y z hi hj ?_
          rw [← hz, Nat.sub_mul]; congr 1; omega) e
    exact ⟨_, _, _, hrun, hE⟩
  split at hk
  · -- onto nothing
    rename_i hs
    simp only [chk_iff, obind_iff] at hk
    obtain ⟨hso, hby, hk⟩ := hk
    refine ⟨_, hk, ?_, .news hn (fun _ h => by cases h) (fun _ h => by cases h) (fun _ h => by cases h)⟩
    intro β F w a next Q hops hF hrd hwr hfresh hinj hnext
    have g1 := hops s ops; rw [hs] at g1
    have g2 := hops x opx
    obtain ⟨flat, hsrc, x1, x2, _⟩ := slice_src (P := P) g2 hsl hso (fun id h => hrd id (.inl h)) huu
    have hv := repVal g1
    by_cases h0 : xs.length = 0
    · have hx0 : xs = [] := List.eq_nil_of_length_eq_zero h0
      have hfl : flat = [] := List.eq_nil_of_length_eq_zero (by rw [hsrc.newsLen, h0]; simp)
      subst hfl
      have hrun : (Builtin.append_ #[t, u] o.type #[a.eval s, a.eval x]).run P w = .ok (.slice none 0 0) w := by
        rw [hv]
        have hl := hsrc.len w
        have hcells := hsrc.cells
        rw [h0] at hl hcells
        have hcells' : (Builtin.firstCells inf.size 0 (a.eval x)).run P w = .ok #[] w := by rw [i2]; exact hcells
        simp [Builtin.append_, run_underlying hut, run_underlying huu, sizeOf, typeInfo, i1, hl, hcells']
      refine dst a w w _ next Q hrun ?_
      let bi : BI := ⟨0, 0, ti.size, 0, 0, true⟩
      refine hnext _ w (put β nid bi) F ?_
      exact {
        os := rfl, tape := rfl, output := rfl, size := Nat.le_refl _
        ext := fun i b h => by
          unfold Am.put
          split
          · rename_i e'; subst e'; have h9 := hfresh 0 (by simp); rw [Nat.add_zero] at h9; rw [h9] at h; cases h
          · exact h
        dom := fun i h h2 => by
          unfold Am.put
          rw [if_neg (by simp at h2; omega)]; exact h
        keep := fun _ _ _ => rfl
        Fm := fun _ h => h
        Fn := fun _ h => .inl h
        Fz := fun _ h => by cases h
        val := by rw [h0]; exact .ownNil nid ti.size 0 bi (by simp [Am.put]) rfl rfl
        news := fun k B' h => by
          cases k with
          | zero =>
            simp at h; subst h
            rw [hx0]
            exact ⟨bi, by simp [Am.put], .nil _ rfl rfl true, fun hn' => by cases hn'⟩
          | succ k => simp at h
        inj := fun k l bi bj h h1 h2 => by simp at h1 h2; omega
        box := fun _ _ _ h => by cases h
        elem := fun _ _ _ h => by cases h
        all := fun _ _ h => by cases h }
    · obtain ⟨v', w', β', hrun, hE⟩ := grow β F w none [] [] flat 0 (a.eval x) rd [] hF (hfresh 0 (by simp)) (by simp) (fun _ h => by cases h) (fun i e h => by simp at h) (fun i e j x y h => by simp at h) (by simp [Builtin.firstCells]) hsrc x1 x2 (by simp; omega) (by simpa using hby)
      refine dst a w w' v' next Q (by rw [hv]; exact hrun) (hnext v' w' β' F ?_)
      simpa using hE
  · rename_i id sz n0 hs
    split at hk
    case h_2 => exact hk.elim
    rename_i sz' els hm hbeq
    have hsz : sz = ti.size := Nat.eq_of_beq_eq_true hbeq
    simp only [chk_iff, obind_iff] at hk
    obtain ⟨hso, hby, hk⟩ := hk
    refine ⟨_, hk, ?_, .news hn (fun i hi => by simp at hi; subst hi; exact ⟨_, _, hm⟩) (fun _ h => by cases h) (fun _ _ h => by cases h)⟩
    intro β F w a next Q hops hF hrd hwr hfresh hinj hnext
    have g1 := hops s ops; rw [hs] at g1
    have g2 := hops x opx
    obtain ⟨flat, hsrc, x1, x2, _⟩ := slice_src (P := P) g2 hsl hso (fun id h => hrd id (.inl (by simp [h]))) huu
    obtain ⟨b0, hb0, hok⟩ := hrd id (.inl (by simp)) _ hm
    generalize hq : a.eval s = q at g1
    cases g1 with
    | ownNil _ _ _ bi hbi hnil hn0 =>
      rw [hb0] at hbi; cases hbi
      cases hok with
      | row _ _ _ h1' => rw [hnil] at h1'; cases h1'
      | nil _ _ hn1 _ =>
        by_cases h0 : xs.length = 0
        · have hx0 : xs = [] := List.eq_nil_of_length_eq_zero h0
          have hrun : (Builtin.append_ #[t, u] o.type #[a.eval s, a.eval x]).run P w = .ok (.slice none 0 0) w := by
            rw [hq]
            have hl := hsrc.len w
            have hcells := hsrc.cells
            have hfl : flat = [] := List.eq_nil_of_length_eq_zero (by rw [hsrc.newsLen, h0]; simp)
            rw [h0, hfl] at hcells
            rw [h0] at hl
            have hcells' : (Builtin.firstCells inf.size 0 (a.eval x)).run P w = .ok #[] w := by rw [i2]; exact hcells
            simp [Builtin.append_, run_underlying hut, run_underlying huu, sizeOf, typeInfo, i1, hl, hcells']
          refine dst a w w _ next Q hrun (hnext _ w (put β nid b0) F ?_)
          have hE := Eff.renamed (nid := nid) (id := id) (x := .own nid sz 0) (rd := id :: rd) (B := .row sz [] true) (v := .slice none 0 0) (F := F) (w := w) (bi := b0) (hfresh 0 (by simp)) hb0 rfl rfl (.nil sz hnil hn1 true) (.ownNil nid sz 0 b0 (by simp [Am.put]) hnil rfl)
          rw [h0, hx0]
          exact hE
        · obtain ⟨v', w', β', hrun, hE⟩ := grow β F w none [] [] flat 0 (a.eval x) (id :: rd) [id] hF (hfresh 0 (by simp)) (by simp) (fun _ h => by cases h) (fun i e h => by simp at h) (fun i e j x y h => by simp at h) (by simp [Builtin.firstCells]) hsrc x1 x2 (by simp; omega) (by simpa using hby)
          refine dst a w w' v' next Q (by rw [hq]; exact hrun) (hnext v' w' β' F ?_)
          rw [hsz]; exact hE
    | own _ _ _ bi hbi hnil hz hn' hcc =>
      rw [hb0] at hbi; cases hbi
      cases hok with
      | nil _ hnn => rw [hnil] at hnn; cases hnn
      | row _ _ _ h1' hz' hn1 hc hr0 hs' ho' hf =>
        have hn0 : n0 = els.length := by omega
        subst hn0
        obtain ⟨oldf, f1, f2, f3, f4, f5⟩ := hs'.flat
        have hbz : b0.sz = ti.size := by omega
        rw [hbz] at f1 f4 f5
        by_cases hroom : els.length + xs.length ≤ b0.cap
        · have hflen := hsrc.newsLen
          have hmul : els.length * ti.size + xs.length * ti.size ≤ b0.cap * ti.size := by rw [← Nat.add_mul]; exact Nat.mul_le_mul_right _ hroom
          have hth := hr0.there (els.length * ti.size) flat.length (by rw [hbz]; omega)
          have hrun := run_append_room_src (P := P) w t u o.type e inf hut i1 b0.b b0.o els.length b0.cap (a.eval x) xs.length flat (by rw [i2]; exact hsrc) hroom (fun j hj => by rw [i2]; exact (hth j hj).1) (fun j hj => by rw [i2]; exact (hth j hj).2)
          rw [i2] at hrun
          refine dst a w _ _ next Q (by rw [hq]; exact hrun) ?_
          let bi : BI := ⟨b0.b, b0.o, b0.sz, els.length + xs.length, b0.cap, false⟩
          refine hnext _ _ (put β nid bi) F ?_
          obtain ⟨s1, s2, s3, s4⟩ := setCells_same b0.b flat (b0.o + els.length * ti.size) w
          have hFk : ∀ b, F b → (w.setCells b0.b (b0.o + els.length * ti.size) flat).heap[b]? = w.heap[b]? := fun b hb => heap_setCells_other _ _ _ _ _ (fun (e : b = b0.b) => ho' rfl (e ▸ hb))
          exact {
            os := s1, tape := s2, output := s3, size := by rw [s4]; exact Nat.le_refl _
            ext := fun i b h => by
              unfold Am.put
              split
              · rename_i e'; subst e'; have h9 := hfresh 0 (by simp); rw [Nat.add_zero] at h9; rw [h9] at h; cases h
              · exact h
            dom := fun i h h2 => by
              unfold Am.put
              rw [if_neg (by simp at h2; omega)]; exact h
            keep := fun k hk h => heap_setCells_other b0.b flat _ w k (fun e => h id (by simp [Delta.tch]) b0 hb0 hnil e.symm)
            Fm := fun _ h => h
            Fn := fun _ h => .inl h
            Fz := fun _ h => by cases h
            val := .own nid sz _ bi (by simp [Am.put]) rfl hz rfl hroom
            news := fun k B' h => by
              cases k with
              | zero =>
                simp at h; subst h
                refine ⟨bi, by simp [Am.put], ?_, fun _ => .inr ⟨id, by simp, b0, hb0, hnil, rfl⟩⟩
                refine .row sz _ true rfl hz.symm (by simp [bi]) hroom (hr0.setCells _ _) ?_ (fun _ => ho' rfl) (fun h => by cases h)
                show RowsAt F _ b0.b b0.o b0.sz _
                rw [hbz]
                refine rowsAt_flat (flat := oldf ++ flat) ?_ (fun y hy => by rcases List.mem_append.1 hy with h | h; exact f3 y h; exact hsrc.one y h) (by simp [f1, hflen]; rw [← Nat.add_mul]; exact Nat.le_refl _) ?_ ?_
                · intro j y hy
                  rw [List.getElem?_append] at hy
                  split at hy
                  · have hr1 : w.rangeAt b0.b (b0.o + j) [y] := fun r z hz => by
                      cases r with
                      | zero => simp at hz; subst hz; exact f2 _ _ hy
                      | succ r => simp at hz
                    exact (range_setCells_apart hr1 (by simp; omega)) 0 y rfl
                  · have := World.rangeAt_setCells_same w b0.b (b0.o + els.length * ti.size) flat hth _ _ hy
                    rw [show b0.o + els.length * ti.size + (j - oldf.length) = b0.o + j by omega] at this
                    exact this
                · intro i el hi
                  rw [List.getElem?_append] at hi
                  split at hi
                  · exact f4 i el hi
                  · exact x1 _ el hi
                · intro i el j y z hi hj hz
                  rw [List.getElem?_append] at hi
                  split at hi
                  · rename_i hlt
                    have hjs : j < ti.size := by have := (List.getElem?_eq_some_iff.1 hj).1; have := f4 i el hi; omega
                    have := flat_lt hlt hjs
                    rw [List.getElem?_append_left (by omega)] at hz
                    exact (f5 i el j y z hi hj hz).mono (fun _ h => h) hFk
                  · rename_i hge'
                    have hle : els.length * ti.size ≤ i * ti.size := Nat.mul_le_mul_right _ (by omega)
                    rw [List.getElem?_append_right (by omega)] at hz
                    refine (x2 (i - els.length) el j y z hi hj ?_).mono (fun _ h => h) hFk
                    rw [← hz, Nat.sub_mul]; congr 1; omega
              | succ k => simp at h
            inj := fun k l bi bj h h1 h2 => by simp at h1 h2; omega
            box := fun _ _ _ h => by cases h
            elem := fun _ _ _ h => by cases h
            all := fun _ _ h => by cases h }
        · have hold : (Builtin.firstCells inf.size els.length (.slice (some ⟨b0.b, b0.o, none⟩) els.length b0.cap)).run P w.drew = .ok oldf.toArray w.drew :=
            run_firstCells_some w.drew inf.size els.length _ _ _ oldf (by rw [i2]; exact f1) (fun j y hy => by rw [Addr.add_mid]; simpa using f2 j y hy)
          obtain ⟨v', w', β', hrun, hE⟩ := grow β F w (some ⟨b0.b, b0.o, none⟩) els oldf flat b0.cap (a.eval x) (id :: rd) [id] hF (hfresh 0 (by simp)) f1 f3 f4 f5 hold hsrc x1 x2 (by omega) hby
          refine dst a w w' v' next Q (by rw [hq]; exact hrun) (hnext v' w' β' F ?_)
          rw [hsz]; exact hE
  · exact hk.elim
end ops
end Go.Am

set_option linter.unusedVariables false
namespace Go.Am
open Go

theorem rows_splice {F : Nat → Prop} {w : World} {bi : BI} {els ys : List (List PV)} {off : Nat} {flat : List Value} (hs : RowsAt F w bi.b bi.o bi.sz els) (hr : Room w bi) (hn : els.length ≤ bi.cap) (hF : ¬ F bi.b) (ho : off + ys.length ≤ els.length)
    (hfl : flat.length = ys.length * bi.sz) (h1 : ∀ v ∈ flat, v.oneCell' = true) (he : ∀ (i : Nat) (e : List PV), ys[i]? = some e → e.length = bi.sz)
    (hx : ∀ (i : Nat) (e : List PV) (j : Nat) (x : PV) (y : Value), ys[i]? = some e → e[j]? = some x → flat[i * bi.sz + j]? = some y → RepP F w x y) :
    RowsAt F (w.setCells bi.b (bi.o + off * bi.sz) flat) bi.b bi.o bi.sz (splice els off ys) := by
  obtain ⟨vv, hvv⟩ := hs
  have hcap : off * bi.sz + ys.length * bi.sz ≤ bi.cap * bi.sz := by rw [← Nat.add_mul]; exact Nat.mul_le_mul_right _ (by omega)
  have hth := hr.there (off * bi.sz) flat.length (by omega)
  refine ⟨fun i => if off ≤ i ∧ i < off + ys.length then (flat.drop ((i - off) * bi.sz)).take bi.sz else vv i, fun i e hi => ?_⟩
  by_cases hin : off ≤ i ∧ i < off + ys.length
  · rw [splice_in _ _ _ ho i hin.1 hin.2] at hi
    simp only [if_pos hin]
    have hle := flat_le (show i - off < ys.length by omega) bi.sz
    refine ⟨he _ _ hi, by simp; omega, ?_, fun v hv => h1 v (List.mem_of_mem_drop (List.mem_of_mem_take hv)), fun j x y hj hy => ?_⟩
    · have := rangeAt_part (World.rangeAt_setCells_same w bi.b (bi.o + off * bi.sz) flat hth) ((i - off) * bi.sz) bi.sz
      rw [show bi.o + off * bi.sz + (i - off) * bi.sz = bi.o + i * bi.sz by rw [Nat.add_assoc, ← Nat.add_mul]; congr 2; omega] at this
      exact this
    · have hjs : j < bi.sz := by have := (List.getElem?_eq_some_iff.1 hj).1; have := he _ _ hi; omega
      rw [List.getElem?_take_of_lt hjs, List.getElem?_drop] at hy
      exact repP_setCells hF (hx _ _ _ _ _ hi hj hy)
  · rw [splice_out _ _ _ ho i (by omega)] at hi
    simp only [if_neg hin]
    obtain ⟨f1, f2, f3, f4, f5⟩ := hvv i e hi
    refine ⟨f1, f2, range_setCells_apart f3 ?_, f4, fun m x y hmx hmy => repP_setCells hF (f5 _ _ _ hmx hmy)⟩
    rw [f2]
    by_cases hlt : i < off
    · left; have := flat_le hlt bi.sz; omega
    · right
      have : (off + ys.length) * bi.sz ≤ i * bi.sz := Nat.mul_le_mul_right _ (by omega)
      rw [Nat.add_mul] at this; omega

section ops
variable {P : Program} {T : Tab} (hT : TabOK P T) {o : Oper} {ρ : Operand → AV} {mm : Mem} {nid : Nat} {k : Delta → Prop}

include hT in
theorem good_copy {c : Call} (ho : o.op = .call c) (hc : c.callee = .builtin .copy) (hk : effCopy2 T mm c.argTypes.toList (c.args.toList.map ρ) k) : Good P o ρ mm nid k := by
  unfold effCopy2 at hk
  split at hk
  case h_2 => exact hk.elim
  rename_i t u sA xA hts has
  obtain ⟨s, x, hargs, rfl, rfl⟩ : ∃ s x, c.args.toList = [s, x] ∧ ρ s = sA ∧ ρ x = xA := by
    match h : c.args.toList, has with
    | [s, x], has => simp at has; exact ⟨s, x, rfl, has.1, has.2⟩
  have ops : s ∈ o.op.operands := mem_args ho (by rw [hargs]; simp)
  have opx : x ∈ o.op.operands := mem_args ho (by rw [hargs]; simp)
  split at hk
  case h_2 => exact hk.elim
  rename_i eu szu byu zu hTu
  have huu := und_slice hT hTu rfl
  have hat : c.argTypes = #[t, u] := by rw [← Array.toList_inj]; simpa using hts
  have haa : ∀ a : Act, c.args.map a.eval = #[a.eval s, a.eval x] := fun a => by
    rw [← Array.toList_inj, Array.toList_map, hargs]; rfl
  have dst : ∀ (a : Act) (w w' : World) (v : Value) (next : Act → World → Prop) (Q : Exit → Act → World → Prop), (Builtin.copy_ #[t, u] o.type #[a.eval s, a.eval x]).run P w = .ok v w' → next (a.put o.dst v) w' → o.wp P a w next Q := by
    intro a w w' v next Q h hn
    unfold Oper.wp
    simp only [execOp, ho, resolve, hc, Sem.run_bind, Sem.run_pure, Result.andThen_ok, invoke, builtin, hat, haa, h, Oper.upon]
    exact hn
  unfold effCopy at hk
  split at hk
  case h_2 => exact hk.elim
  rename_i e szt byt zt hTt
  have hut := und_slice hT hTt rfl
  split at hk
  case h_2 => exact hk.elim
  rename_i ti hte
  split at hk
  case h_2 => exact hk.elim
  rename_i xs rd so hsl
  -- the run, whatever is written onto
  have run : ∀ (β : Pl) (F : Nat → Prop) (w : World) (b p n cap : Nat) (v : Value) (flat : List Value), Src P ti.size u v xs.length flat w →
      (∀ m, m ≤ xs.length → (Builtin.firstCells ti.size m v).run P w = .ok (flat.take (m * ti.size)).toArray w) → w.there b p ((min xs.length n) * ti.size) →
      (Builtin.copy_ #[t, u] o.type #[.slice (some ⟨b, p, none⟩) n cap, v]).run P w = .ok (.int .i64 (min xs.length n : Nat)) (w.setCells b p (flat.take ((min xs.length n) * ti.size))) := by
    intro β F w b p n cap v flat hsrc hfirst hth
    have hlen : (flat.take ((min xs.length n) * ti.size)).length = (min xs.length n) * ti.size := by
      rw [List.length_take, hsrc.newsLen]
      have : (min xs.length n) * ti.size ≤ xs.length * ti.size := Nat.mul_le_mul_right _ (by omega)
      omega
    have hst := run_storeCells_cells (P := P) b p (flat.take ((min xs.length n) * ti.size)) 0 w (fun j hj => by simpa using (hth j (by omega)).1) (fun j hj => by simpa using (hth j (by omega)).2) (fun y hy => hsrc.one y (List.mem_of_mem_take hy))
    simp only [Nat.add_zero] at hst
    have hf := hfirst (min xs.length n) (by omega)
    have hl := hsrc.len w
    have hsz := run_size hT hte w
    have hmin : Nat.min xs.length n = min xs.length n := rfl
    simp only [Builtin.copy_, List.getElem?_toArray, List.getElem?_cons_zero, List.getElem?_cons_succ, Sem.run_bind, run_underlying hut, Result.andThen_ok, hl, hsz, hmin, hf, hst, Sem.run_pure, goInt]
  split at hk
  · rename_i id sz n hs
    split at hk
    case h_2 => exact hk.elim
    rename_i sz' els hm hbeq
    have hsz : sz = ti.size := Nat.eq_of_beq_eq_true hbeq
    simp only [chk_iff, obind_iff] at hk
    obtain ⟨hso, hk⟩ := hk
    refine ⟨_, hk, ?_, ?_⟩
    · intro β F w a next Q hops hF hrd hwr hfresh hinj hnext
      have g1 := hops s ops; rw [hs] at g1
      have g2 := hops x opx
      obtain ⟨flat, hsrc, x1, x2, hfirst⟩ := slice_src (P := P) g2 hsl hso (fun id h => hrd id (.inl (by simp [h]))) huu
      obtain ⟨b0, hb0, hok⟩ := hrd id (.inl (by simp)) _ hm
      generalize hq : a.eval s = q at g1
      cases g1 with
      | ownNil _ _ _ bi hbi hnil hn0 =>
        rw [hb0] at hbi; cases hbi
        cases hok with
        | row _ _ _ h1' => rw [hnil] at h1'; cases h1'
        | nil _ _ hn1 _ =>
          subst hn0
          have hmin : Nat.min xs.length 0 = 0 := Nat.min_zero _
          have hrun : (Builtin.copy_ #[t, u] o.type #[a.eval s, a.eval x]).run P w = .ok (.int .i64 (min xs.length 0 : Nat)) w := by
            rw [hq]
            have hf := hfirst 0 (Nat.zero_le _)
            have hl := hsrc.len w
            have hsz := run_size hT hte w
            simp only [Builtin.copy_, List.getElem?_toArray, List.getElem?_cons_zero, List.getElem?_cons_succ, Sem.run_bind, run_underlying hut, Result.andThen_ok, hl, hsz, hmin, hf, Sem.run_pure, goInt]
          refine dst a w w _ next Q hrun (hnext _ w β F ?_)
          exact {
            os := rfl, tape := rfl, output := rfl, size := Nat.le_refl _
            ext := fun _ _ h => h
            dom := fun _ h _ => h
            keep := fun _ _ _ => rfl
            Fm := fun _ h => h
            Fn := fun _ h => .inl h
            Fz := fun _ h => by cases h
            val := repI
            news := fun k B h => by simp at h
            inj := fun k l bi bj h h1 => by simp at h1
            box := fun _ _ _ h => by cases h
            elem := fun _ _ _ h => by cases h
            all := fun _ _ h bi hb hn' => by
              cases h
              rw [hb0] at hb; cases hb
              rw [hnil] at hn'; cases hn' }
      | own _ _ _ bi hbi hnil hz hn' hcc =>
        rw [hb0] at hbi; cases hbi
        cases hok with
        | nil _ hnn => rw [hnil] at hnn; cases hnn
        | row _ _ _ h1' hz' hn1 hc hr0 hs' ho' hf =>
          have hn0 : n = els.length := by omega
          subst hn0
          have hbz : b0.sz = ti.size := by omega
          have hmle : (min xs.length els.length) * ti.size ≤ b0.cap * ti.size := Nat.mul_le_mul_right _ (by omega)
          have hrun := run β F w b0.b b0.o els.length b0.cap (a.eval x) flat hsrc hfirst (by have := hr0.there 0 ((min xs.length els.length) * ti.size) (by rw [hbz]; omega); simpa using this)
          refine dst a w _ _ next Q (by rw [hq]; exact hrun) (hnext _ _ β F ?_)
          have hrows := rows_splice (w := w) (bi := b0) (els := els) (ys := xs.take els.length) (off := 0) (flat := flat.take ((min xs.length els.length) * ti.size)) hs' hr0 (by omega) (ho' rfl) (by simp; omega) (by
            rw [List.length_take, hsrc.newsLen, hbz, List.length_take]
            have : (min xs.length els.length) * ti.size ≤ xs.length * ti.size := Nat.mul_le_mul_right _ (by omega)
            rw [Nat.min_comm els.length]; omega) (fun y hy => hsrc.one y (List.mem_of_mem_take hy)) (fun i e' hi => by
              rw [List.getElem?_take] at hi
              split at hi
              · rw [hbz]; exact x1 i e' hi
              · cases hi) (fun i e' j y z hi hj hz2 => by
              rw [List.getElem?_take] at hi
              split at hi
              · rw [List.getElem?_take] at hz2
                split at hz2
                · rw [hbz] at hz2; exact x2 i e' j y z hi hj hz2
                · cases hz2
              · cases hi)
          rw [Nat.zero_mul, Nat.add_zero] at hrows
          exact eff_store (x := .all id _) (id := id) rfl rfl repI rfl rfl hb0 hnil hF iff_frz_nil ⟨hr0, hrows⟩
    · exact {
        box := fun _ _ _ h => by cases h
        elem := fun _ _ _ h => by cases h
        all := fun id' e' h => by cases h; exact ⟨sz', els, hm, splice_length _ _ _ (by simp; omega)⟩
        kill := fun _ h => by cases h
        frz := fun _ h => by cases h
        fresh := fun _ h => by cases h
        apart := fun _ _ h => by cases h
        wk := fun _ _ h => by cases h }
  · rename_i id sz off n hs
    split at hk
    case h_2 => exact hk.elim
    rename_i sz' els hm hbeq
    have hsz : sz = ti.size := Nat.eq_of_beq_eq_true hbeq
    simp only [chk_iff, obind_iff] at hk
    obtain ⟨hso, hon, hk⟩ := hk
    refine ⟨_, hk, ?_, ?_⟩
    · intro β F w a next Q hops hF hrd hwr hfresh hinj hnext
      have g1 := hops s ops; rw [hs] at g1
      have g2 := hops x opx
      obtain ⟨flat, hsrc, x1, x2, hfirst⟩ := slice_src (P := P) g2 hsl hso (fun id h => hrd id (.inl (by simp [h]))) huu
      obtain ⟨b0, hb0, hok⟩ := hrd id (.inl (by simp)) _ hm
      generalize hq : a.eval s = q at g1
      cases g1 with
      | win _ _ _ _ c' bi hbi hnil hz hc' hn' hoo =>
        rw [hb0] at hbi; cases hbi
        cases hok with
        | nil _ hnn => rw [hnil] at hnn; cases hnn
        | row _ _ _ h1' hz' hn1 hc hr0 hs' ho' hf =>
          have hbz : b0.sz = ti.size := by omega
          have hmle : off * b0.sz + (min xs.length n) * ti.size ≤ b0.cap * b0.sz := by
            rw [← hbz, ← Nat.add_mul]; exact Nat.mul_le_mul_right _ (by omega)
          have hrun := run β F w b0.b (b0.o + off * b0.sz) n c' (a.eval x) flat hsrc hfirst (hr0.there (off * b0.sz) ((min xs.length n) * ti.size) (by omega))
          refine dst a w _ _ next Q (by rw [hq]; exact hrun) (hnext _ _ β F ?_)
          have hrows := rows_splice (w := w) (bi := b0) (els := els) (ys := xs.take n) (off := off) (flat := flat.take ((min xs.length n) * ti.size)) hs' hr0 (by omega) (ho' rfl) (by simp; omega) (by
            rw [List.length_take, hsrc.newsLen, hbz, List.length_take]
            have : (min xs.length n) * ti.size ≤ xs.length * ti.size := Nat.mul_le_mul_right _ (by omega)
            rw [Nat.min_comm n]; omega) (fun y hy => hsrc.one y (List.mem_of_mem_take hy)) (fun i e' hi => by
              rw [List.getElem?_take] at hi
              split at hi
              · rw [hbz]; exact x1 i e' hi
              · cases hi) (fun i e' j y z hi hj hz2 => by
              rw [List.getElem?_take] at hi
              split at hi
              · rw [List.getElem?_take] at hz2
                split at hz2
                · rw [hbz] at hz2; exact x2 i e' j y z hi hj hz2
                · cases hz2
              · cases hi)
          exact eff_store (x := .all id _) (id := id) rfl rfl repI rfl rfl hb0 hnil hF iff_frz_nil ⟨hr0, hrows⟩
    · exact {
        box := fun _ _ _ h => by cases h
        elem := fun _ _ _ h => by cases h
        all := fun id' e' h => by cases h; exact ⟨sz', els, hm, splice_length _ _ _ (by simp; omega)⟩
        kill := fun _ h => by cases h
        frz := fun _ h => by cases h
        fresh := fun _ h => by cases h
        apart := fun _ _ h => by cases h
        wk := fun _ _ h => by cases h }
  · rename_i hs
    simp only [chk_iff] at hk
    obtain ⟨hso, hk⟩ := hk
    refine ⟨_, hk, ?_, ?_⟩
    · intro β F w a next Q hops hF hrd hwr hfresh hinj hnext
      have g1 := hops s ops; rw [hs] at g1
      have g2 := hops x opx
      obtain ⟨flat, hsrc, x1, x2, hfirst⟩ := slice_src (P := P) g2 hsl hso (fun id h => hrd id (.inl (by simp [h]))) huu
      generalize hq : a.eval s = q at g1
      cases g1 with
      | p _ _ hp =>
      cases hp with
      | sl _ ad c b o9 sz vv hc ha hs' hx' =>
        have hmin : Nat.min xs.length ([] : List (List PV)).length = 0 := Nat.min_zero _
        have hrun : (Builtin.copy_ #[t, u] o.type #[a.eval s, a.eval x]).run P w = .ok (.int .i64 0) w := by
          rw [hq]
          have hf := hfirst 0 (Nat.zero_le _)
          have hl := hsrc.len w
          have hsz := run_size hT hte w
          cases ad <;> simp [Builtin.copy_, Sem.run_bind, run_underlying hut, Result.andThen_ok, hl, hsz, hf, Sem.run_pure, goInt, storeCells]
        refine dst a w w _ next Q hrun (hnext _ w β F ?_)
        exact {
            os := rfl, tape := rfl, output := rfl, size := Nat.le_refl _
            ext := fun _ _ h => h
            dom := fun _ h _ => h
            keep := fun _ _ _ => rfl
            Fm := fun _ h => h
            Fn := fun _ h => .inl h
            Fz := fun _ h => by cases h
            val := repI
            news := fun k B h => by simp at h
            inj := fun k l bi bj h h1 => by simp at h1
            box := fun _ _ _ h => by cases h
            elem := fun _ _ _ h => by cases h
            all := fun _ _ h => by cases h }
    · exact {
        box := fun _ _ _ h => by cases h
        elem := fun _ _ _ h => by cases h
        all := fun id' e' h => by cases h
        kill := fun _ h => by cases h
        frz := fun _ h => by cases h
        fresh := fun _ h => by cases h
        apart := fun _ _ h => by cases h
        wk := fun _ _ h => by cases h }
  · exact hk.elim

theorem args1 {c : Call} {xA : AV} (h : c.args.toList.map ρ = [xA]) : ∃ x, c.args.toList = [x] ∧ ρ x = xA := by
  match h' : c.args.toList, h with
  | [x], h => simp at h; exact ⟨x, rfl, h⟩
theorem args2 {c : Call} {xA yA : AV} (h : c.args.toList.map ρ = [xA, yA]) : ∃ x y, c.args.toList = [x, y] ∧ ρ x = xA ∧ ρ y = yA := by
  match h' : c.args.toList, h with
  | [x, y], h => simp at h; exact ⟨x, y, rfl, h.1, h.2⟩

include hT in
theorem good_len {c : Call} (ho : o.op = .call c) (hc : c.callee = .builtin .len) (hk : effLen T c.argTypes.toList (c.args.toList.map ρ) k) : Good P o ρ mm nid k := by
  unfold effLen at hk
  split at hk
  case h_2 => exact hk.elim
  rename_i t xA hts has
  obtain ⟨x, hargs, rfl⟩ := args1 has
  have opx : x ∈ o.op.operands := mem_args ho (by rw [hargs]; simp)
  split at hk
  case h_2 => exact hk.elim
  rename_i e sz by_ z hTt
  have hut := und_slice hT hTt rfl
  have hat : c.argTypes = #[t] := by rw [← Array.toList_inj]; simpa using hts
  have haa : ∀ a : Act, c.args.map a.eval = #[a.eval x] := fun a => by
    rw [← Array.toList_inj, Array.toList_map, hargs]; rfl
  have run : ∀ (a : Act) (w : World) (ad : Option Addr) (n cap : Nat), a.eval x = .slice ad n cap → (execOp a.eval o).run P w = .ok (.value (.int .i64 n)) w := by
    intro a w ad n cap hq
    simp only [execOp, ho, resolve, hc, Sem.run_bind, Sem.run_pure, Result.andThen_ok, invoke, builtin, hat, haa, hq, Builtin.len_, List.getElem?_toArray, List.getElem?_cons_zero, run_underlying hut, goInt]
  split at hk
  · rename_i els hx
    refine good_pure hk (fun β F w a hops _ => ?_)
    have g := hops x opx; rw [hx] at g
    generalize hq : a.eval x = q at g
    cases g with
    | p _ _ hp => cases hp with
      | sl _ ad c' b o' sz vv hc' ha hs hxx => exact ⟨_, run a w _ _ _ hq, repI⟩
  · rename_i hx
    refine good_pure hk (fun β F w a hops _ => ?_)
    have g := hops x opx; rw [hx] at g
    exact ⟨_, run a w _ _ _ (repVal g), repI⟩
  · rename_i id sz n hx
    refine good_pure hk (fun β F w a hops _ => ?_)
    have g := hops x opx; rw [hx] at g
    generalize hq : a.eval x = q at g
    cases g with
    | ownNil _ _ _ bi hb h hn => subst hn; exact ⟨_, run a w _ _ _ hq, repI⟩
    | own => exact ⟨_, run a w _ _ _ hq, repI⟩
  · rename_i id sz off n hx
    refine good_pure hk (fun β F w a hops _ => ?_)
    have g := hops x opx; rw [hx] at g
    generalize hq : a.eval x = q at g
    cases g with
    | win => exact ⟨_, run a w _ _ _ hq, repI⟩
  · exact hk.elim

theorem good_max {c : Call} (ho : o.op = .call c) (hc : c.callee = .builtin .max) (hk : effMax (c.args.toList.map ρ) k) : Good P o ρ mm nid k := by
  unfold effMax at hk
  split at hk
  case h_2 => exact hk.elim
  rename_i xA yA has
  obtain ⟨x, y, hargs, rfl, rfl⟩ := args2 has
  have opx : x ∈ o.op.operands := mem_args ho (by rw [hargs]; simp)
  have opy : y ∈ o.op.operands := mem_args ho (by rw [hargs]; simp)
  have haa : ∀ a : Act, c.args.map a.eval = #[a.eval x, a.eval y] := fun a => by
    rw [← Array.toList_inj, Array.toList_map, hargs]; rfl
  split at hk
  case h_2 => exact hk.elim
  rename_i i a0 j b0 hi hj
  refine good_pure hk (fun β F w a hops _ => ?_)
  have g1 := hops x opx; rw [intOf_spec hi] at g1
  have g2 := hops y opy; rw [intOf_spec hj] at g2
  refine ⟨.int i (if b0 > a0 then b0 else a0), ?_, repI⟩
  simp only [execOp, ho, resolve, hc, Sem.run_bind, Sem.run_pure, Result.andThen_ok, invoke, builtin, haa, Builtin.max_, repInt g1, repInt g2, List.foldlM_cons, List.foldlM_nil, Builtin.max2]

theorem good_min {c : Call} (ho : o.op = .call c) (hc : c.callee = .builtin .min) (hk : effMin (c.args.toList.map ρ) k) : Good P o ρ mm nid k := by
  unfold effMin at hk
  split at hk
  case h_2 => exact hk.elim
  rename_i xA yA has
  obtain ⟨x, y, hargs, rfl, rfl⟩ := args2 has
  have opx : x ∈ o.op.operands := mem_args ho (by rw [hargs]; simp)
  have opy : y ∈ o.op.operands := mem_args ho (by rw [hargs]; simp)
  have haa : ∀ a : Act, c.args.map a.eval = #[a.eval x, a.eval y] := fun a => by
    rw [← Array.toList_inj, Array.toList_map, hargs]; rfl
  split at hk
  case h_2 => exact hk.elim
  rename_i i a0 j b0 hi hj
  refine good_pure hk (fun β F w a hops _ => ?_)
  have g1 := hops x opx; rw [intOf_spec hi] at g1
  have g2 := hops y opy; rw [intOf_spec hj] at g2
  refine ⟨.int i (if b0 < a0 then b0 else a0), ?_, repI⟩
  simp only [execOp, ho, resolve, hc, Sem.run_bind, Sem.run_pure, Result.andThen_ok, invoke, builtin, haa, Builtin.min_, repInt g1, repInt g2, List.foldlM_cons, List.foldlM_nil, Builtin.min2]
end ops
end Go.Am

set_option linter.unusedVariables false
namespace Go.Am
open Go

/-- A new memory's part of a result: the blocks with names from n on. -/
structure NewOK (bs : List Blk) (n : Nat) (β : Pl) (F : Nat → Prop) (w w' : World) : Prop where
  ok : ∀ k B, bs[k]? = some B → ∃ bi, β (n + k) = some bi ∧ BlkOK β F w' bi B ∧ (bi.nil = false → w.heap.size ≤ bi.b)
  inj : ∀ k l bi bj, k ≠ l → k < bs.length → l < bs.length → β (n + k) = some bi → β (n + l) = some bj → bi.nil = false → bj.nil = false → bi.b ≠ bj.b
  dom : ∀ id, id < n ∨ n + bs.length ≤ id → β id = none

/-- WHAT A FUNCTION COMES TO, by content: called with these arguments it returns these results; of the memory that was there nothing turns. -/
structure ACall (P : Program) (f : FuncId) (args : List PV) (rs : List RV) : Prop where
  fn : ∃ fn c, P.funcs[f]? = some fn ∧ fn.body = some c ∧ (fn.name == "runtime.NumGoroutine") = false
  run : ∀ (F : Nat → Prop) (w : World) (vs : List Value) (n : Nat), (∀ b, F b → b < w.heap.size) → args.length = vs.length → (∀ (k : Nat) (x : PV) (y : Value), args[k]? = some x → vs[k]? = some y → RepP F w x y) →
    Calls P f vs.toArray w fun e w' => ∃ v β' F', e = .returned v ∧ RowKit.Below w.heap.size w w' ∧ (∀ b, F b → F' b) ∧ (∀ b, F' b → F b ∨ (w.heap.size ≤ b ∧ b < w'.heap.size)) ∧
      RepA β' F' w' (oneOr (impV rs n).1) v ∧ NewOK (impV rs n).2 n β' F' w w'

/-- What is known of the calls. -/
def CallsOK (P : Program) (C : CallRel) : Prop := ∀ f ps k, C f ps k → ∃ rs, ACall P f ps rs ∧ k rs
/-- A call of which something was shown. -/
def anyCall (P : Program) : CallRel := fun f ps k => ∃ rs, ACall P f ps rs ∧ k rs
theorem anyCall_ok (P : Program) : CallsOK P (anyCall P) := fun _ _ _ h => h

theorem impV_flat : ∀ (rs : List RV) (n : Nat), rs.all RV.flat = true → (impV rs n).2 = [] ∧ ∀ x ∈ (impV rs n).1, ∃ v, x = .p (.val v) := by
  intro rs
  induction rs with
  | nil => intro n h; exact ⟨rfl, fun x h => by cases h⟩
  | cons r rs ih =>
    intro n h
    simp only [List.all_cons, Bool.and_eq_true] at h
    obtain ⟨h1, h2⟩ := h
    cases r with
    | new => simp [RV.flat] at h1
    | p x =>
      cases x with
      | val v =>
        obtain ⟨g1, g2⟩ := ih n h2
        refine ⟨by simp [impV, g1], fun x hx => ?_⟩
        simp only [impV, List.mem_cons] at hx
        rcases hx with rfl | hx
        · exact ⟨v, rfl⟩
        · exact g2 x hx
      | _ => simp [RV.flat] at h1

theorem repA_flat {β β' : Pl} {F F' : Nat → Prop} {w w' : World} {l : List AV} (hl : ∀ x ∈ l, ∃ v, x = .p (.val v)) {v : Value} (h : RepA β F w (oneOr l) v) : RepA β' F' w' (oneOr l) v := by
  have one : ∀ x ∈ l, ∀ y, RepA β F w x y → RepA β' F' w' x y := fun x hx y hy => by
    obtain ⟨u, rfl⟩ := hl x hx
    rw [repVal hy]; exact .p _ _ (.val _)
  match l, h with
  | [x], h => exact one x (by simp) v h
  | [], h =>
    simp only [oneOr] at h ⊢
    cases h with
    | tup _ vs hl' hx => exact .tup _ vs hl' (fun k x y h1 h2 => one x (List.mem_of_getElem? h1) y (hx k x y h1 h2))
  | x :: y :: r, h =>
    simp only [oneOr] at h ⊢
    cases h with
    | tup _ vs hl' hx => exact .tup _ vs hl' (fun k x y h1 h2 => one x (List.mem_of_getElem? h1) y (hx k x y h1 h2))

section ops
variable {P : Program} {T : Tab} (hT : TabOK P T) {o : Oper} {ρ : Operand → AV} {mm : Mem} {nid : Nat} {k : Delta → Prop}

theorem rep_pre {β : Pl} {F : Nat → Prop} {w : World} : ∀ (pre : List Value) {xs : List AV} {vs : List Value}, (xs.length = vs.length ∧ ∀ (k : Nat) (x : AV) (y : Value), xs[k]? = some x → vs[k]? = some y → RepA β F w x y) →
    (pre.map firstA ++ xs).length = (pre ++ vs).length ∧ ∀ (k : Nat) (x : AV) (y : Value), (pre.map firstA ++ xs)[k]? = some x → (pre ++ vs)[k]? = some y → RepA β F w x y := by
  intro pre
  induction pre with
  | nil => intro xs vs h; exact h
  | cons p r ih =>
    intro xs vs h
    obtain ⟨h1, h2⟩ := ih h
    refine ⟨by simpa using h1, fun k x y q1 q2 => ?_⟩
    cases k with
    | zero => simp at q1 q2; subst q1; subst q2; exact firstA_rep β F w p
    | succ k => exact h2 k x y (by simpa using q1) (by simpa using q2)
theorem good_callf {C : CallRel} (hCC : CallsOK P C) {c : Call} {g : Operand} {f : FuncId} (pre : List Value) (ho : o.op = .call c) (hc : c.callee = .value g) (hg : ∀ (β : Pl) (F : Nat → Prop) (w : World) (v : Value), RepA β F w (ρ g) v → v = .func (.func f) pre.toArray #[]) (hn : ∀ j, nid ≤ j → mm j = none)
    (hk : effCall C mm nid f (pre.map firstA ++ c.args.toList.map ρ) k) : Good P o ρ mm nid k := by
  unfold effCall at hk
  split at hk
  case h_2 => exact hk.elim
  rename_i ps ids hps
  obtain ⟨rs, hC, hk⟩ := hCC _ _ _ hk
  have hrows := pvL_rows _ _ _ hps
  have opg : g ∈ o.op.operands := by simp [ho, Op.operands, Call.operands, hc]
  obtain ⟨fn, cd, hfn, hbody, hname⟩ := hC.fn
  have start : ∀ (β : Pl) (F : Nat → Prop) (w : World) (a : Act) (next : Act → World → Prop) (Q : Exit → Act → World → Prop), (∀ x, x ∈ o.op.operands → RepA β F w (ρ x) (a.eval x)) → (∀ b, F b → b < w.heap.size) →
      (∀ id, id ∈ ids → ∀ B, mm id = some B → ∃ bi, β id = some bi ∧ BlkOK β F w bi B) →
      (∀ v w' β' F', RowKit.Below w.heap.size w w' → (∀ b, frzF β F ids b → F' b) → (∀ b, F' b → frzF β F ids b ∨ (w.heap.size ≤ b ∧ b < w'.heap.size)) → RepA β' F' w' (oneOr (impV rs nid).1) v → NewOK (impV rs nid).2 nid β' F' w w' → next (a.put o.dst v) w') → o.wp P a w next Q := by
    intro β F w a next Q hops hF hid hnext
    have hargs := rep_pre pre (rep_list (ev := a.eval) c.args.toList (fun x hx => hops x (mem_args ho hx)))
    obtain ⟨q1, q2, q3⟩ := pvL_spec (Pr := Pre mm β F (frzF β F ids) w) (pre.map firstA ++ c.args.toList.map ρ) (pre ++ c.args.toList.map a.eval) ps ids hargs.1 (fun k x y a b p ids => pv_spec (fun _ h => .inl h) (hargs.2 k x y a b) p ids) hps (pre_frz hid)
    have hlt := frzF_lt (mm := mm) (ids := ids) hF (fun id h => by
      obtain ⟨sz, els, o, hm⟩ := hrows id h
      obtain ⟨bi, h1, h2⟩ := hid id h _ hm
      exact ⟨_, bi, hm, h1, h2⟩)
    have hcall := hC.run (frzF β F ids) w (pre ++ c.args.toList.map a.eval) nid hlt q1 q2
    unfold Oper.wp
    have hgv := hg β F w _ (hops g opg)
    have hcv : c.args.map a.eval = (c.args.toList.map a.eval).toArray := by rw [← Array.toList_inj]; simp
    have hrun : (execOp a.eval o).run P w = .ok (.enter f (pre ++ c.args.toList.map a.eval).toArray) w := by
      simp only [execOp, ho, resolve, hc, Sem.run_bind, hgv, Deferred.ofValue, Sem.run_pure, Result.andThen_ok, invoke, callFunc, program, Sem.run, hfn, hname, hbody, Bool.false_eq_true, if_false, Option.isNone_some]
      rw [hcv]; simp
    rw [hrun]
    simp only [Oper.upon]
    refine hcall.mono ?_
    rintro e w' ⟨v, β', F', rfl, h1, h2, h3, h4, h5⟩
    exact hnext v w' β' F' h1 h2 h3 h4 h5
  cases hfl : rs.all RV.flat with
  | true =>
    rw [hfl] at hk
    obtain ⟨e1, e2⟩ := impV_flat rs nid hfl
    refine ⟨_, hk, ?_, ?_⟩
    · intro β F w a next Q hops hF hrd hwr hfresh hinj hnext
      refine start β F w a next Q hops hF (fun id h => hrd id (.inl h)) (fun v w' β' F' h1 h2 h3 h4 h5 => hnext v w' β F ?_)
      exact {
        os := h1.os, tape := h1.tape, output := h1.output, size := h1.size
        ext := fun _ _ h => h
        dom := fun _ h _ => h
        keep := fun k hk _ => h1.block k hk
        Fm := fun _ h => h
        Fn := fun _ h => .inl h
        Fz := fun _ h => by cases h
        val := repA_flat e2 h4
        news := fun k B h => by rw [e1] at h; simp at h
        inj := fun k l bi bj h h1 => by rw [e1] at h1; simp at h1
        box := fun _ _ _ h => by cases h
        elem := fun _ _ _ h => by cases h
        all := fun _ _ h => by cases h }
    · exact .news hn (fun _ h => by cases h) (fun _ h => by cases h) (fun _ h => by cases h)
  | false =>
    rw [hfl] at hk
    refine ⟨_, hk, ?_, ?_⟩
    · intro β F w a next Q hops hF hrd hwr hfresh hinj hnext
      refine start β F w a next Q hops hF (fun id h => hrd id (.inl h)) (fun v w' β' F' h1 h2 h3 h4 h5 => ?_)
      let β2 : Pl := fun id => if nid ≤ id ∧ id < nid + (impV rs nid).2.length then β' id else β id
      have hβ : ∀ id bi, β' id = some bi → β2 id = some bi := fun id bi h => by
        have : nid ≤ id ∧ id < nid + (impV rs nid).2.length := by
          rcases Nat.lt_or_ge id nid with h0 | h0
          · rw [h5.dom id (.inl h0)] at h; cases h
          · rcases Nat.lt_or_ge id (nid + (impV rs nid).2.length) with h00 | h00
            · exact ⟨h0, h00⟩
            · rw [h5.dom id (.inr h00)] at h; cases h
        simp only [β2, if_pos this]; exact h
      refine hnext v w' β2 F' ?_
      exact {
        os := h1.os, tape := h1.tape, output := h1.output, size := h1.size
        ext := fun id bi h => by
          simp only [β2]
          split
          · rename_i hr
            have := hfresh (id - nid) (by simp only; omega)
            rw [show nid + (id - nid) = id by omega] at this
            rw [this] at h; cases h
          · exact h
        dom := fun id h hr => by
          simp only [β2]
          rw [if_neg (by simp only at hr; omega)]; exact h
        keep := fun k hk _ => h1.block k hk
        Fm := fun b h => h2 b (.inl h)
        Fn := fun b h => by
          rcases h3 b h with (h | h) | h
          · exact .inl h
          · exact .inr (.inr h)
          · exact .inr (.inl h)
        Fz := fun id hid b0 q1 q2 => h2 _ (.inr ⟨id, hid, b0, q1, q2, rfl⟩)
        val := h4.mono hβ (fun _ h => h) (fun _ _ => rfl)
        news := fun k B h => by
          obtain ⟨bi, q1, q2, q3⟩ := h5.ok k B h
          exact ⟨bi, hβ _ _ q1, q2.mono hβ (fun _ h => h) (fun _ _ => rfl) (fun _ => rfl) (fun _ h => h), fun hn => .inl (q3 hn)⟩
        inj := fun k l bi bj hne hk hl q1 q2 q3 q4 => by
          have r1 : β2 (nid + k) = β' (nid + k) := by simp only [β2]; rw [if_pos (by simp only at hk; omega)]
          have r2 : β2 (nid + l) = β' (nid + l) := by simp only [β2]; rw [if_pos (by simp only at hl; omega)]
          exact h5.inj k l bi bj hne hk hl (r1 ▸ q1) (r2 ▸ q2) q3 q4
        box := fun _ _ _ h => by cases h
        elem := fun _ _ _ h => by cases h
        all := fun _ _ h => by cases h }
    · exact .news hn (fun _ h => by cases h) hrows (fun _ h => by cases h)

include hT in
/-- WHATEVER THE OPERATION: what 'eff' says of it is so. -/
theorem eff_sound {C : CallRel} (hC : CallsOK P C) (hn : ∀ j, nid ≤ j → mm j = none) (hk : eff T C ρ mm nid o.op k) : Good P o ρ mm nid k := by
  cases hop : o.op with
  | move x => rw [hop] at hk; exact good_move (.inl hop) hk
  | assign x => rw [hop] at hk; exact good_move (.inr hop) hk
  | pick c a b => rw [hop] at hk; exact good_pick (T := T) hop hk
  | alloc e => rw [hop] at hk; exact good_alloc hT hop hn hk
  | box e v => rw [hop] at hk; exact good_box (T := T) hop hn hk
  | build t parts => rw [hop] at hk; exact good_build hT hop hk
  | buildSlice t len parts => rw [hop] at hk; exact good_buildSlice hT hop hn hk
  | load t a => rw [hop] at hk; exact good_load hT hop hk
  | store t a x => rw [hop] at hk; exact good_store hT hop hk
  | nilCheck x => rw [hop] at hk; exact good_nilCheck (T := T) hop hk
  | binOp op t x y u =>
    rw [hop] at hk
    simp only [eff] at hk
    split at hk
    · rename_i kx a ky b hx hy; exact good_arith hop hx hy hk
    · rename_i a b hx hy
      split at hk
      · rename_i sz by_ z ht
        exact good_binBool hT hop hx hy ht rfl (by cases op <;> exact hk)
      · exact hk.elim
    · unfold effCmpNil at hk
      split at hk
      · rename_i xv hy hx; exact good_nil hT hop hx (isNilA_spec hy) hk
      · exact hk.elim
  | unOp op t x => rw [hop] at hk; exact good_unOp (T := T) hop hk
  | convert s d x => rw [hop] at hk; exact good_convert hT hop hk
  | makeSlice t l c => rw [hop] at hk; exact good_makeSlice hT hop hn hk
  | slice t x lo hi mx => rw [hop] at hk; exact good_slice hT hop hn hk
  | fieldAddr t x f => rw [hop] at hk; exact good_fieldAddr hT hop hk
  | field t x f => rw [hop] at hk; exact good_field hT hop hk
  | indexAddr t x ix => rw [hop] at hk; exact good_indexAddr hT hop hk
  | index t x ix =>
    rw [hop] at hk
    simp only [eff] at hk
    split at hk
    · rename_i sz by_ z ht; exact good_strIx hT hop ht hk
    · exact good_index hT hop hk
  | extract x i => rw [hop] at hk; exact good_extract (T := T) hop hk
  | makeFunc fn first captured =>
    rw [hop] at hk
    cases fn with
    | func f => exact good_makeFunc (T := T) hop hk
    | _ => simp [eff] at hk
  | call c =>
    rw [hop] at hk
    simp only [eff] at hk
    split at hk
    · rename_i b hb
      unfold effBuiltin at hk
      split at hk
      · exact good_len hT hop hb hk
      · exact good_append hT hop hb hn hk
      · exact good_copy hT hop hb hk
      · exact good_max hop hb hk
      · exact good_min hop hb hk
      · exact hk.elim
    · rename_i g hg
      split at hk
      · rename_i f first cap hx
        split at hk
        · rename_i h1 h2
          refine good_callf hC [] hop hg (fun β F w v h => ?_) hn hk
          rw [hx] at h
          rw [repVal h]
          have e1 : first = #[] := by simpa using h1
          have e2 : cap = #[] := by simpa using h2
          rw [e1, e2]
        · rename_i u h1 h2
          refine good_callf hC [u] hop hg (fun β F w v h => ?_) hn hk
          rw [hx] at h
          rw [repVal h]
          have e1 : first = #[u] := by rw [← Array.toList_inj]; simpa using h1
          have e2 : cap = #[] := by simpa using h2
          rw [e1, e2]
        · exact hk.elim
      · rename_i f hx
        refine good_callf hC [] hop hg (fun β F w v h => ?_) hn hk
        rw [hx] at h
        cases h with
        | clo _ _ vs hl hxx =>
          have : vs = [] := List.eq_nil_of_length_eq_zero (by simpa using hl.symm)
          subst this; rfl
      · exact hk.elim
    · exact hk.elim
  | _ => rw [hop] at hk; simp [eff] at hk
end ops
end Go.Am

set_option linter.unusedVariables false
namespace Go.Am
noncomputable section
open Go

structure ASt where
  t : List AV
  m : List (Option Blk)
def ASt.eval (s : ASt) : Operand → AV
  | .tmp t => match nth s.t t with
    | some x => x
    | none => .top
  | .const v => .p (.val v)
  | .global g => .p (.val (.pointer (some ⟨g, 0, none⟩)))
  | .func f => .p (.val (.func (.func f) #[] #[]))
def memOf (m : List (Option Blk)) : Mem := fun id => match nth m id with
  | some (some B) => some B
  | _ => none

/-! ### Updates, so that the state stays written out -/
noncomputable def setK {α : Type} (l : List α) : Nat → α → (List α → Prop) → Prop := List.rec (fun _ _ k => k []) (fun x r ih n v k => Nat.rec (k (v :: r)) (fun m _ => ih m v fun l => k (x :: l)) n) l
theorem setK_succ {α : Type} (x : α) (r : List α) (n : Nat) (v : α) (k : List α → Prop) : setK (x :: r) (n + 1) v k = setK r n v fun l => k (x :: l) := rfl
theorem setK_eq {α : Type} (l : List α) (n : Nat) (v : α) (k : List α → Prop) : setK l n v k = k (l.set n v) := by
  induction l generalizing n k with
  | nil => rfl
  | cons x r ih => cases n with
    | zero => rfl
    | succ n => simp only [setK_succ, ih, List.set_cons_succ]
def copyK {α : Type} : List α → (List α → Prop) → Prop
  | [], k => k []
  | x :: r, k => copyK r fun l => k (x :: l)
theorem copyK_eq {α : Type} (l : List α) (k : List α → Prop) : copyK l k = k l := by
  induction l generalizing k with
  | nil => rfl
  | cons x r ih => simp only [copyK, ih]
def appK {α : Type} : List α → List α → (List α → Prop) → Prop
  | [], ys, k => copyK ys k
  | x :: r, ys, k => appK r ys fun l => k (x :: l)
theorem appK_eq {α : Type} (l ys : List α) (k : List α → Prop) : appK l ys k = k (l ++ ys) := by
  induction l generalizing k with
  | nil => simp only [appK, copyK_eq]; rfl
  | cons x r ih => simp only [appK, ih]; rfl
def spliceK {α : Type} : List α → Nat → List α → (List α → Prop) → Prop
  | cs, _, [], k => k cs
  | cs, j, v :: r, k => setK cs j v fun cs' => spliceK cs' (j + 1) r k
theorem spliceK_eq {α : Type} (vs : List α) : ∀ (cs : List α) (j : Nat) (k : List α → Prop), j + vs.length ≤ cs.length → spliceK cs j vs k = k (splice cs j vs) := by
  induction vs with
  | nil => intro cs j k h; simp only [spliceK, splice_nil]
  | cons v r ih =>
    intro cs j k h
    simp only [spliceK, setK_eq]
    rw [ih _ _ _ (by simp at h ⊢; omega), splice_snoc _ _ _ _ (by simpa using h)]
def forceK : AV → (AV → Prop) → Prop
  | .top, k => k .top
  | .p x, k => k (.p x)
  | .own a b c, k => k (.own a b c)
  | .win a b c d, k => k (.win a b c d)
  | .ptr a b c, k => k (.ptr a b c)
  | .cell cs, k => k (.cell cs)
  | .agg cs, k => copyK cs fun l => k (.agg l)
  | .tup cs, k => copyK cs fun l => k (.tup l)
  | .clo f cs, k => copyK cs fun l => k (.clo f l)
theorem forceK_eq (x : AV) (k : AV → Prop) : forceK x k = k x := by cases x <;> simp only [forceK, copyK_eq]
def wrK : Option Wr → List (Option Blk) → (List (Option Blk) → Prop) → Prop
  | none, m, k => k m
  | some (.box id j vs), m, k => match nth m id with
    | some (some (.box cs)) => spliceK cs j vs fun cs' => setK m id (some (.box cs')) k
    | _ => k m
  | some (.elem id i e), m, k => match nth m id with
    | some (some (.row sz els o)) => setK m id (some (.row sz (els.set i e) o)) k
    | _ => k m
  | some (.all id els'), m, k => match nth m id with
    | some (some (.row sz _ o)) => setK m id (some (.row sz els' o)) k
    | _ => k m
def frzK : List Nat → List (Option Blk) → (List (Option Blk) → Prop) → Prop
  | [], m, k => k m
  | id :: r, m, k => match nth m id with
    | some (some (.row sz els _)) => setK m id (some (.row sz els false)) fun m => frzK r m k
    | _ => frzK r m k
def killK : List Nat → List (Option Blk) → (List (Option Blk) → Prop) → Prop
  | [], m, k => k m
  | id :: r, m, k => setK m id none fun m => killK r m k
def memK (d : Delta) (m : List (Option Blk)) (k : List (Option Blk) → Prop) : Prop :=
  wrK d.wr m fun m => frzK d.frz m fun m => killK d.kill m fun m => appK m (d.news.map some) k

theorem memOf_set (m : List (Option Blk)) (id : Nat) (B : Option Blk) (h : id < m.length) : memOf (m.set id B) = fun k => if k = id then B else memOf m k := by
  funext k
  simp only [memOf, nth_eq]
  by_cases hk : k = id
  · subst hk; rw [List.getElem?_set_self h]; simp; cases B <;> rfl
  · rw [List.getElem?_set_ne (Ne.symm hk)]; simp [hk]
theorem memOf_lt {m : List (Option Blk)} {id : Nat} {B : Blk} (h : memOf m id = some B) : nth m id = some (some B) ∧ id < m.length := by
  simp only [memOf] at h
  split at h
  · rename_i hn
    cases h
    refine ⟨hn, ?_⟩
    rw [nth_eq] at hn
    exact (List.getElem?_eq_some_iff.1 hn).1
  · cases h
theorem frzK_eq : ∀ (ids : List Nat) (m : List (Option Blk)) (k : List (Option Blk) → Prop), frzK ids m k → ∃ m', k m' ∧ m'.length = m.length ∧ memOf m' = fun id => (memOf m id).map fun B => if ids.contains id then B.freeze else B := by
  intro ids
  induction ids with
  | nil => intro m k h; exact ⟨m, h, rfl, by funext id; cases memOf m id <;> simp⟩
  | cons id r ih =>
    intro m k h
    simp only [frzK] at h
    split at h
    · rename_i sz els o hn
      rw [setK_eq] at h
      obtain ⟨m', h1, h2, h3⟩ := ih _ _ h
      have hlt : id < m.length := by rw [nth_eq] at hn; exact (List.getElem?_eq_some_iff.1 hn).1
      refine ⟨m', h1, by simpa using h2, ?_⟩
      rw [h3, memOf_set _ _ _ hlt]
      funext q
      by_cases hq : q = id
      · subst hq
        simp only [if_true, memOf, hn, Option.map_some, List.contains_cons, beq_self_eq_true, Bool.true_or, Blk.freeze]
        split <;> rfl
      · simp [hq]
    · rename_i hn
      obtain ⟨m', h1, h2, h3⟩ := ih _ _ h
      refine ⟨m', h1, h2, ?_⟩
      rw [h3]
      funext q
      by_cases hq : q = id
      · subst hq
        cases hm : memOf m q with
        | none => rfl
        | some B =>
          obtain ⟨hn', _⟩ := memOf_lt hm
          cases B with
          | box cs => simp [Blk.freeze]
          | row sz els o => exact absurd hn' (by intro h; exact hn _ _ _ h)
      · simp [hq]
theorem killK_eq : ∀ (ids : List Nat) (m : List (Option Blk)) (k : List (Option Blk) → Prop), killK ids m k → ∃ m', k m' ∧ m'.length = m.length ∧ memOf m' = fun id => if ids.contains id then none else memOf m id := by
  intro ids
  induction ids with
  | nil => intro m k h; exact ⟨m, h, rfl, by simp⟩
  | cons id r ih =>
    intro m k h
    simp only [killK, setK_eq] at h
    obtain ⟨m', h1, h2, h3⟩ := ih _ _ h
    refine ⟨m', h1, by simpa using h2, ?_⟩
    rw [h3]
    funext q
    by_cases hlt : id < m.length
    · rw [memOf_set _ _ _ hlt]
      by_cases hq : q = id
      · subst hq; simp
      · simp [hq]
    · have hset : m.set id none = m := List.set_eq_of_length_le (by omega)
      rw [hset]
      by_cases hq : q = id
      · subst hq
        have : memOf m q = none := by
          cases hm : memOf m q with
          | none => rfl
          | some B => have := (memOf_lt hm).2; omega
        simp [this]
      · simp [hq]
theorem wrK_eq {d : Delta} {m : List (Option Blk)} (hf : Fits d m.length (memOf m)) {k : List (Option Blk) → Prop} (h : wrK d.wr m k) : ∃ m', k m' ∧ m'.length = m.length ∧ memOf m' = fun id => (memOf m id).map (Wr.act d.wr id) := by
  cases hw : d.wr with
  | none =>
    rw [hw] at h
    exact ⟨m, h, rfl, by funext id; cases memOf m id with | none => rfl | some B => cases B <;> rfl⟩
  | some x =>
    rw [hw] at h
    cases x with
    | box id j vs =>
      obtain ⟨cs, h1, h2⟩ := hf.box _ _ _ hw
      obtain ⟨h3, h4⟩ := memOf_lt h1
      simp only [wrK, h3] at h
      rw [spliceK_eq _ _ _ _ h2, setK_eq] at h
      refine ⟨_, h, by simp, ?_⟩
      rw [memOf_set _ _ _ h4]
      funext q
      by_cases hq : q = id
      · subst hq; simp [h1, Wr.act]
      · simp only [if_neg hq]
        cases memOf m q with
        | none => rfl
        | some B => cases B <;> simp [Wr.act, hq]
    | elem id i e =>
      obtain ⟨sz, els, h1, h2⟩ := hf.elem _ _ _ hw
      obtain ⟨h3, h4⟩ := memOf_lt h1
      simp only [wrK, h3] at h
      rw [setK_eq] at h
      refine ⟨_, h, by simp, ?_⟩
      rw [memOf_set _ _ _ h4]
      funext q
      by_cases hq : q = id
      · subst hq; simp [h1, Wr.act]
      · simp only [if_neg hq]
        cases memOf m q with
        | none => rfl
        | some B => cases B <;> simp [Wr.act, hq]
    | all id els' =>
      obtain ⟨sz, els, h1, h2⟩ := hf.all _ _ hw
      obtain ⟨h3, h4⟩ := memOf_lt h1
      simp only [wrK, h3] at h
      rw [setK_eq] at h
      refine ⟨_, h, by simp, ?_⟩
      rw [memOf_set _ _ _ h4]
      funext q
      by_cases hq : q = id
      · subst hq; simp [h1, Wr.act]
      · simp only [if_neg hq]
        cases memOf m q with
        | none => rfl
        | some B => cases B <;> simp [Wr.act, hq]
theorem memK_eq {d : Delta} {m : List (Option Blk)} (hf : Fits d m.length (memOf m)) {k : List (Option Blk) → Prop} (h : memK d m k) : ∃ m', k m' ∧ m'.length = m.length + d.news.length ∧ memOf m' = d.mem m.length (memOf m) := by
  obtain ⟨m1, h1, l1, e1⟩ := wrK_eq hf h
  obtain ⟨m2, h2, l2, e2⟩ := frzK_eq _ _ _ h1
  obtain ⟨m3, h3, l3, e3⟩ := killK_eq _ _ _ h2
  rw [appK_eq] at h3
  refine ⟨_, h3, by simp; omega, ?_⟩
  have hl : m3.length = m.length := by omega
  funext q
  simp only [Delta.mem, Delta.act]
  by_cases hq : q < m.length
  · rw [if_neg (by omega)]
    have : memOf (m3 ++ d.news.map some) q = memOf m3 q := by
      simp only [memOf, nth_eq]
      rw [List.getElem?_append_left (by omega)]
    rw [this, e3]
    simp only [e2, e1]
    split
    · rfl
    · cases memOf m q with
      | none => rfl
      | some B => simp
  · have hmq : memOf m q = none := by
      cases hm : memOf m q with
      | none => rfl
      | some B => have := (memOf_lt hm).2; omega
    have : memOf (m3 ++ d.news.map some) q = d.news[q - m.length]? := by
      simp only [memOf, nth_eq]
      rw [List.getElem?_append_right (by omega), List.getElem?_map, hl]
      cases d.news[q - m.length]? <;> rfl
    rw [this]
    split
    · rfl
    · rename_i hlt
      rw [List.getElem?_eq_none (by omega), hmq]
      split <;> rfl

/-- The state behind an operation. -/
def putK (dst : Option Tmp) (d : Delta) (s : ASt) (k : ASt → Prop) : Prop :=
  forceK d.v fun v => match dst with
    | some t => setK s.t t v fun t' => memK d s.m fun m' => k ⟨t', m'⟩
    | none => memK d s.m fun m' => k ⟨s.t, m'⟩
def ASt.put (s : ASt) (dst : Option Tmp) (v : AV) : List AV := match dst with
  | some t => s.t.set t v
  | none => s.t
theorem putK_eq {dst : Option Tmp} {d : Delta} {s : ASt} (hf : Fits d s.m.length (memOf s.m)) {k : ASt → Prop} (h : putK dst d s k) :
    ∃ m', k ⟨s.put dst d.v, m'⟩ ∧ m'.length = s.m.length + d.news.length ∧ memOf m' = d.mem s.m.length (memOf s.m) := by
  unfold putK at h
  rw [forceK_eq] at h
  cases dst with
  | none => exact memK_eq hf h
  | some t =>
    simp only [setK_eq] at h
    exact memK_eq hf h

/-! ### The abstract state is so in the world -/
structure Sim (s : ASt) (β : Pl) (F : Nat → Prop) (a : Act) (w : World) : Prop where
  size : s.t.length = a.tmps.size
  tmps : ∀ t x, s.t[t]? = some x → RepA β F w x (a.eval (.tmp t))
  mem : MemOK (memOf s.m) β F w
  dom : ∀ id, s.m.length ≤ id → β id = none
  defers : Marks a F w

theorem Sim.eval {s : ASt} {β : Pl} {F : Nat → Prop} {a : Act} {w : World} (h : Sim s β F a w) (x : Operand) : RepA β F w (s.eval x) (a.eval x) := by
  cases x with
  | tmp t =>
    simp only [ASt.eval, nth_eq]
    cases hx : s.t[t]? with
    | none => exact .top _
    | some y => exact h.tmps t y hx
  | const v => exact .p _ _ (.val _)
  | global g => exact .p _ _ (.val _)
  | func f => exact .p _ _ (.val _)

theorem memOf_none {m : List (Option Blk)} : ∀ j, m.length ≤ j → memOf m j = none := fun j h => by
  cases hm : memOf m j with
  | none => rfl
  | some B => have := (memOf_lt hm).2; omega

theorem Sim.frozen {s : ASt} {β β' : Pl} {F F' : Nat → Prop} {a : Act} {w w' : World} {d : Delta} {v : Value} (h : Sim s β F a w) (hf : Fits d s.m.length (memOf s.m)) (he : Eff d s.m.length β F w v β' F' w') : ∀ b, F b → w'.heap[b]? = w.heap[b]? := by
  intro b hb
  refine he.keep b (h.mem.lt b hb) (fun id hid bi hbi hn hbb => ?_)
  subst hbb
  rcases hf.own hid with ⟨cs, h1⟩ | ⟨sz, els, h1⟩
  · obtain ⟨bi', h2, h3⟩ := h.mem.ok _ _ h1
    rw [h2] at hbi; cases hbi
    exact h3.notF hn (.inl ⟨_, rfl⟩) hb
  · obtain ⟨bi', h2, h3⟩ := h.mem.ok _ _ h1
    rw [h2] at hbi; cases hbi
    exact h3.notF hn (.inr ⟨_, _, rfl⟩) hb

theorem Sim.step {s : ASt} {β β' : Pl} {F F' : Nat → Prop} {a : Act} {w w' : World} {d : Delta} {v : Value} {dst : Option Tmp} {m' : List (Option Blk)} (h : Sim s β F a w) (hf : Fits d s.m.length (memOf s.m)) (he : Eff d s.m.length β F w v β' F' w')
    (hm : memOf m' = d.mem s.m.length (memOf s.m)) (hl : m'.length = s.m.length + d.news.length) : Sim ⟨s.put dst d.v, m'⟩ β' F' (a.put dst v) w' := by
  have hFk := h.frozen hf he
  refine ⟨?_, ?_, ?_, ?_, ?_⟩
  · cases dst <;> simp [ASt.put, Act.put, h.size]
  · intro t x hx
    cases dst with
    | none => exact (h.tmps t x hx).mono he.ext he.Fm hFk
    | some t' =>
      simp only [ASt.put] at hx
      by_cases ht : t' = t
      · subst ht
        have hlt : t' < s.t.length := by have := (List.getElem?_eq_some_iff.1 hx).1; simpa using this
        rw [List.getElem?_set_self hlt] at hx
        cases hx
        have : (a.put (some t') v).eval (.tmp t') = v := by
          have := h.size
          simp [Act.eval, Act.put]
          intro hle
          exact absurd hlt (by rw [this]; exact Nat.not_lt.2 hle)
        rw [this]; exact he.val
      · rw [List.getElem?_set_ne ht] at hx
        have : (a.put (some t') v).eval (.tmp t) = a.eval (.tmp t) := Act.eval_put (fun d hd => by cases hd; intro e; exact ht (by cases e; rfl))
        rw [this]
        exact (h.tmps t x hx).mono he.ext he.Fm hFk
  · rw [hm]
    exact h.mem.step hf (fun k _ => h.dom _ (by omega)) he
  · intro id hid
    have hid : m'.length ≤ id := hid
    exact he.dom id (h.dom id (by omega)) (.inr (by omega))
  · exact h.defers.step (by cases dst <;> rfl) he.Fm hFk
end
end Go.Am

set_option linter.unusedVariables false
namespace Go.Am
noncomputable section
open Go

/-! ### Fences that bar nothing: within a round of a loop over a function, or not -/
structure Wide (G : Fence) : Prop where
  fn : ∀ f, G.fn f
  depth : G.depth = none
  alive : G.alive = false
theorem wide_wide : Wide Fence.wide := ⟨fun _ => trivial, rfl, rfl⟩
theorem Wide.inRound {G : Fence} (h : Wide G) (l : Nat) : Wide (G.inRound l) := ⟨h.fn, h.depth, h.alive⟩
theorem Wide.room {G : Fence} (h : Wide G) (n : Nat) : G.room n := fun d hd => by rw [h.depth] at hd; cases hd
theorem Wide.fenced {G : Fence} (h : Wide G) (P : Program) (m : Machine) : m.fenced P G := fun g _ =>
  ⟨fun q => (by rw [h.alive] at q; cases q), .inl (h.fn _), fun _ _ => h.fn _, h.room _⟩
theorem Wide.steps {G : Fence} (h : Wide G) {P : Program} {m m' : Machine} (s : Steps P m m') : StepsIn (Machine.fenced P G) P m m' :=
  (StepsIn.of_steps s).mono fun m _ => h.fenced P m
theorem Wide.calls {G : Fence} (h : Wide G) {n : Nat} {P : Program} {f : FuncId} {args : Array Value} {w : World} {R : Ending → World → Prop} (c : Calls P f args w R) : CallsIn G n P f args w R :=
  ⟨h.fn f, fun cs _ => let ⟨e, w', fr, r, s, x⟩ := c cs; ⟨e, w', fr, r, (by
    cases e with
    | returned v => exact h.steps s
    | panicked chain => exact h.steps s
    | outgrown => exact s), x⟩⟩
theorem Wide.oper {G : Fence} (h : Wide G) {n : Nat} {P : Program} {o : Oper} {a : Act} {w : World} {next : Act → World → Prop} {Q : Exit → Act → World → Prop} (hd : ∀ c, o.op ≠ .defer c) (hw : o.wp P a w next Q) : o.wpIn G n P a w next Q := by
  have hn : ∀ {n : Nat}, G.depth.isSome = true → 1 ≤ n := fun q => by rw [h.depth] at q; cases q
  refine ⟨fun f _ => h.fn f, ?_⟩
  rw [Oper.semAt_eq _ _ _ hd]
  unfold Oper.wp at hw
  generalize (execOp a.eval o).run P w = r at *
  cases r with
  | ok x w' =>
    cases x with
    | enter f args => exact ⟨hn, h.calls hw⟩
    | row row args => exact ⟨hn, fun c cs _ => let ⟨v, w'', r, s⟩ := hw c cs; ⟨v, w'', r, h.steps s⟩⟩
    | value => exact hw
    | skip => exact hw
    | defer => exact hw
    | _ => exact hw.elim
  | halt x w' => cases x <;> exact hw

/-! ### One operation of a region -/
def performK (T : Tab) (C : CallRel) (o : Oper) (s : ASt) (k : ASt → Delta → Prop) : Prop :=
  eff T C s.eval (memOf s.m) s.m.length o.op fun d => putK o.dst d s fun s' => k s' d
def skipK (o : Oper) (s : ASt) (k : ASt → Delta → Prop) : Prop := putK o.dst {} s fun s' => k s' {}
def boolA (b : Bool) : AV := .p (.val (.bool b))
def stepK (T : Tab) (C : CallRel) (all : List Oper) (o : Oper) (s : ASt) (k : ASt → Delta → Prop) : Prop :=
  match o.guard with
  | none => performK T C o s k
  | some (j, want) => match nth all j with
    | some oj => match oj.dst with
      | some tj => match s.eval (.tmp tj) with
        | .p (.val (.bool b)) => match b with
          | true => setK s.t tj (boolA true) fun t' => match want with
            | true => performK T C o ⟨t', s.m⟩ k
            | false => skipK o ⟨t', s.m⟩ k
          | false => setK s.t tj (boolA false) fun t' => match want with
            | true => skipK o ⟨t', s.m⟩ k
            | false => performK T C o ⟨t', s.m⟩ k
        | _ => False
      | none => False
    | none => False

/-- What is known behind a step. -/
inductive Stepped (P : Program) (all : Array Oper) (o : Oper) (s : ASt) (d : Delta) : Prop
  | ran (hg : ∀ (β : Pl) (F : Nat → Prop) (w : World) (a : Act), (∀ t, t ∈ o.looksAt all → RepA β F w (s.eval (.tmp t)) (a.eval (.tmp t))) → Region.wanted o (yielded all a.tmps) = true) (hs : OpSound P o s.eval (memOf s.m) s.m.length d) (hf : Fits d s.m.length (memOf s.m)) (hnd : ∀ c, o.op ≠ .defer c)
  | skip (hg : ∀ (β : Pl) (F : Nat → Prop) (w : World) (a : Act), (∀ t, t ∈ o.looksAt all → RepA β F w (s.eval (.tmp t)) (a.eval (.tmp t))) → Region.wanted o (yielded all a.tmps) = false) (hd : d = {})

theorem undef_ne_bool (b : Bool) : undef ≠ .bool b := by intro h; cases h

theorem yielded_of {all : Array Oper} {j tj : Nat} {oj : Oper} (hj : all[j]? = some oj) (ht : oj.dst = some tj) {a : Act} {b : Bool} (h : a.eval (.tmp tj) = .bool b) : yielded all a.tmps j = some b := by
  unfold yielded
  simp only [hj, Option.bind_some, ht]
  simp only [Act.eval] at h
  cases hx : a.tmps[tj]? with
  | none => simp [hx] at h; exact absurd h (undef_ne_bool b)
  | some v => simp [hx] at h; rw [h]

theorem set_self {α : Type} (l : List α) (n : Nat) (v : α) (h : l[n]? = some v) : l.set n v = l := by
  apply List.ext_getElem?
  intro k
  by_cases hk : k = n
  · subst hk
    have := (List.getElem?_eq_some_iff.1 h).1
    rw [List.getElem?_set_self this, h]
  · rw [List.getElem?_set_ne (Ne.symm hk)]

theorem fits_empty {nid : Nat} {mm : Mem} : Fits {} nid mm := Fits.pure (x := .top) (rd := [])

theorem stepK_spec {P : Program} {T : Tab} (hT : TabOK P T) {C : CallRel} (hC : CallsOK P C) {all : Array Oper} {o : Oper} {s : ASt} {k : ASt → Delta → Prop} (h : stepK T C all.toList o s k) :
    ∃ d m', Stepped P all o s d ∧ k ⟨s.put o.dst d.v, m'⟩ d ∧ m'.length = s.m.length + d.news.length ∧ memOf m' = d.mem s.m.length (memOf s.m) := by
  have perform : performK T C o s k → (∀ (β : Pl) (F : Nat → Prop) (w : World) (a : Act), (∀ t, t ∈ o.looksAt all → RepA β F w (s.eval (.tmp t)) (a.eval (.tmp t))) → Region.wanted o (yielded all a.tmps) = true) →
      ∃ d m', Stepped P all o s d ∧ k ⟨s.put o.dst d.v, m'⟩ d ∧ m'.length = s.m.length + d.news.length ∧ memOf m' = d.mem s.m.length (memOf s.m) := by
    intro h hg
    obtain ⟨d, h1, h2, h3⟩ := eff_sound hT hC memOf_none h
    obtain ⟨m', g1, g2, g3⟩ := putK_eq h3 h1
    exact ⟨d, m', .ran hg h2 h3 (fun c hc => by unfold performK at h; rw [hc] at h; exact h), g1, g2, g3⟩
  have skip : skipK o s k → (∀ (β : Pl) (F : Nat → Prop) (w : World) (a : Act), (∀ t, t ∈ o.looksAt all → RepA β F w (s.eval (.tmp t)) (a.eval (.tmp t))) → Region.wanted o (yielded all a.tmps) = false) →
      ∃ d m', Stepped P all o s d ∧ k ⟨s.put o.dst d.v, m'⟩ d ∧ m'.length = s.m.length + d.news.length ∧ memOf m' = d.mem s.m.length (memOf s.m) := by
    intro h hg
    obtain ⟨m', g1, g2, g3⟩ := putK_eq fits_empty h
    exact ⟨{}, m', .skip hg rfl, g1, g2, g3⟩
  unfold stepK at h
  split at h
  · rename_i hgd
    exact perform h (fun β F w a _ => by simp [Region.wanted, hgd])
  · rename_i j want hgd
    split at h
    case h_2 => exact h.elim
    rename_i oj hoj
    split at h
    case h_2 => exact h.elim
    rename_i tj htj
    split at h
    case h_2 => exact h.elim
    rename_i b hb
    have hoj' : all[j]? = some oj := by rw [nth_eq] at hoj; simpa using hoj
    have hlook : tj ∈ o.looksAt all := by
      simp only [Oper.looksAt, hgd, hoj', Option.bind_some, htj]
      simp
    have hst : s.t[tj]? = some (boolA b) := by
      simp only [ASt.eval, nth_eq] at hb
      cases hx : s.t[tj]? with
      | none => simp [hx] at hb
      | some y => simp [hx] at hb; rw [hb]; rfl
    have hyes : ∀ (β : Pl) (F : Nat → Prop) (w : World) (a : Act), (∀ t, t ∈ o.looksAt all → RepA β F w (s.eval (.tmp t)) (a.eval (.tmp t))) → Region.wanted o (yielded all a.tmps) = (b == want) := by
      intro β F w a hr
      have := hr tj hlook
      rw [hb] at this
      simp only [Region.wanted, hgd, yielded_of hoj' htj (repBool this)]
      cases b <;> cases want <;> rfl
    have same : ∀ {X : List AV → Prop}, setK s.t tj (boolA b) X → X s.t := fun {X} hx => by
      rw [setK_eq, set_self _ _ _ hst] at hx; exact hx
    cases b with
    | true =>
      have h2 := same h
      cases want with
      | true => exact perform h2 hyes
      | false => exact skip h2 hyes
    | false =>
      have h2 := same h
      cases want with
      | true => exact skip h2 hyes
      | false => exact perform h2 hyes

theorem BlkOK.isF {β : Pl} {F : Nat → Prop} {w : World} {bi : BI} {sz : Nat} {els : List (List PV)} (h : BlkOK β F w bi (.row sz els false)) (hn : bi.nil = false) : F bi.b := by
  cases h with
  | nil _ h _ _ => rw [hn] at h; cases h
  | row _ _ _ _ _ _ _ _ _ _ hf => exact hf rfl
/-! ### What stays known from the start of a call on -/
def Blk.mine : Blk → Bool
  | .box _ => true
  | .row _ _ own => own
structure Ctx (Ok : Nat → Prop) (F0 : Nat → Prop) (β0 : Pl) (w0 : World) (s : ASt) (β : Pl) (F : Nat → Prop) (w : World) : Prop where
  os : w.os = w0.os
  tape : w.tape = w0.tape
  output : w.output = w0.output
  size : w0.heap.size ≤ w.heap.size
  keep : ∀ k, k < w0.heap.size → ¬ Ok k → w.heap[k]? = w0.heap[k]?
  row : ∀ id B bi, memOf s.m id = some B → β id = some bi → bi.nil = false → B.mine = true → Ok bi.b ∨ w0.heap.size ≤ bi.b
  ext : ∀ id bi, β0 id = some bi → β id = some bi
  Fm : ∀ b, F0 b → F b
  Fn : ∀ b, F b → F0 b ∨ Ok b ∨ w0.heap.size ≤ b

theorem act_mine {d : Delta} {nid id : Nat} {B0 B : Blk} (hn : ¬ (nid ≤ id ∧ id < nid + d.news.length)) (h : d.act nid id (some B0) = some B) (hm : B.mine = true) : B0.mine = true := by
  simp only [Delta.act, if_neg hn] at h
  split at h
  · cases h
  · simp only [Option.some.injEq] at h
    subst h
    cases B0 with
    | box cs => rfl
    | row sz els o =>
      cases o with
      | true => rfl
      | false =>
        exfalso
        revert hm
        split
        · cases hw : d.wr with
          | none => simp [Wr.act, Blk.freeze, Blk.mine]
          | some x => cases x <;> simp only [Wr.act] <;> (try split) <;> simp [Blk.freeze, Blk.mine]
        · cases hw : d.wr with
          | none => simp [Wr.act, Blk.mine]
          | some x => cases x <;> simp only [Wr.act] <;> (try split) <;> simp [Blk.mine]

theorem Ctx.step {Ok F0 : Nat → Prop} {β0 : Pl} {w0 : World} {s : ASt} {β β' : Pl} {F F' : Nat → Prop} {a : Act} {w w' : World} {d : Delta} {v : Value} {t' : List AV} {m' : List (Option Blk)}
    (hc : Ctx Ok F0 β0 w0 s β F w) (h : Sim s β F a w) (hf : Fits d s.m.length (memOf s.m)) (he : Eff d s.m.length β F w v β' F' w') (hm : memOf m' = d.mem s.m.length (memOf s.m)) : Ctx Ok F0 β0 w0 ⟨t', m'⟩ β' F' w' := by
  have row : ∀ id B bi, memOf m' id = some B → β' id = some bi → bi.nil = false → B.mine = true → Ok bi.b ∨ w0.heap.size ≤ bi.b := by
    intro id B bi h1 h2 h3 hmine
    rw [hm] at h1
    by_cases hnn : s.m.length ≤ id ∧ id < s.m.length + d.news.length
    · simp only [Delta.mem, Delta.act, if_pos hnn] at h1
      obtain ⟨bi', g1, g2, g3⟩ := he.news _ _ h1
      rw [show s.m.length + (id - s.m.length) = id by omega] at g1
      rw [g1] at h2; cases h2
      rcases g3 h3 with g | ⟨id', q1, b0, q2, q3, q4⟩
      · exact .inr (Nat.le_trans hc.size g)
      · obtain ⟨sz, els, q5⟩ := hf.kill id' q1
        rw [← q4]
        exact hc.row id' _ _ q5 q2 q3 rfl
    · simp only [Delta.mem] at h1
      cases hB : memOf s.m id with
      | none => rw [hB] at h1; simp [Delta.act, if_neg hnn] at h1
      | some B0 =>
        obtain ⟨bi0, q1, q2⟩ := h.mem.ok _ _ hB
        rw [he.ext _ _ q1] at h2; cases h2
        rw [hB] at h1
        exact hc.row id B0 bi hB q1 h3 (act_mine hnn h1 hmine)
  refine ⟨he.os.trans hc.os, he.tape.trans hc.tape, he.output.trans hc.output, Nat.le_trans hc.size he.size, ?_, row, fun id bi h => he.ext _ _ (hc.ext _ _ h), fun b h => he.Fm _ (hc.Fm _ h), ?_⟩
  · intro k hk hok
    rw [← hc.keep k hk hok]
    refine he.keep k (Nat.lt_of_lt_of_le hk hc.size) (fun id hid bi hbi hn hbb => ?_)
    subst hbb
    rcases hf.own hid with ⟨cs, h1⟩ | ⟨sz, els, h1⟩
    · rcases hc.row id _ _ h1 hbi hn rfl with q | q
      · exact hok q
      · omega
    · rcases hc.row id _ _ h1 hbi hn rfl with q | q
      · exact hok q
      · omega
  · intro b hb
    rcases he.Fn b hb with h1 | ⟨h1, _⟩ | ⟨id, q1, bi, q2, q3, q4⟩
    · exact hc.Fn b h1
    · exact .inr (.inr (Nat.le_trans hc.size h1))
    · obtain ⟨sz, els, oo, q5⟩ := hf.frz id q1
      rw [← q4]
      cases oo with
      | true => exact .inr (hc.row id _ _ q5 q2 q3 rfl)
      | false =>
        obtain ⟨b0, r1, r2⟩ := h.mem.ok _ _ q5
        rw [r1] at q2; cases q2
        exact hc.Fn _ (r2.isF q3)

/-! ### A region in the order of the text -/
def runK (T : Tab) (C : CallRel) (all : List Oper) : List Oper → ASt → (ASt → Prop) → Prop
  | [], s, k => k s
  | o :: r, s, k => stepK T C all o s fun s' _ => runK T C all r s' k

/-- The post of a code, as the machine's. -/
def Post (Ok F0 : Nat → Prop) (β0 : Pl) (w0 : World) (K : Exit → ASt → Prop) : Exit → Act → World → Prop :=
  fun e a w => ∃ s β F, K e s ∧ Sim s β F a w ∧ Ctx Ok F0 β0 w0 s β F w

theorem step_op {P : Program} {all : Array Oper} {o : Oper} {s : ASt} {d : Delta} {β : Pl} {F : Nat → Prop} {a : Act} {w : World} {Ok F0 : Nat → Prop} {β0 : Pl} {w0 : World} {m' : List (Option Blk)} (hs : Stepped P all o s d) (h : Sim s β F a w) (hc : Ctx Ok F0 β0 w0 s β F w)
    (hl : m'.length = s.m.length + d.news.length) (hm : memOf m' = d.mem s.m.length (memOf s.m)) {next : Act → World → Prop} {Q : Exit → Act → World → Prop}
    (hn : ∀ a' w' β' F', Sim ⟨s.put o.dst d.v, m'⟩ β' F' a' w' → Ctx Ok F0 β0 w0 ⟨s.put o.dst d.v, m'⟩ β' F' w' → next a' w') :
    if Region.wanted o (yielded all a.tmps) then o.wp P a w next Q else next (a.put o.dst undef) w := by
  cases hs with
  | ran hg hs hf _ =>
    rw [if_pos (hg β F w a (fun t _ => h.eval _))]
    refine hs β F w a next Q (fun x _ => h.eval x) h.mem.lt (fun id _ B hB => h.mem.ok id B hB) (fun x hx B hB => ?_) (fun k _ => h.dom _ (by omega)) (fun id id' B B' bi bi' hne h1 h2 _ _ h3 h4 h5 h6 => h.mem.inj id id' B B' bi bi' hne h1 h2 h3 h4 h5 h6) (fun v w' β' F' he => ?_)
    · obtain ⟨bi, h1, h2⟩ := h.mem.ok _ _ hB
      exact ⟨bi, B, h1, h2, B.alike_refl⟩
    · exact hn _ _ β' F' (h.step hf he hm hl) (hc.step h hf he hm)
  | skip hg hd =>
    subst hd
    rw [if_neg (by rw [hg β F w a (fun t _ => h.eval _)]; simp)]
    have he : Eff {} s.m.length β F w undef β F w := Eff.pure (x := .top) (rd := []) (.top undef)
    exact hn _ _ β F (h.step fits_empty he hm hl) (hc.step h fits_empty he hm)

theorem step_opIn {G : Fence} (hW : Wide G) {n : Nat} {P : Program} {all : Array Oper} {o : Oper} {s : ASt} {d : Delta} {β : Pl} {F : Nat → Prop} {a : Act} {w : World} {Ok F0 : Nat → Prop} {β0 : Pl} {w0 : World} {m' : List (Option Blk)} (hs : Stepped P all o s d) (h : Sim s β F a w) (hc : Ctx Ok F0 β0 w0 s β F w)
    (hl : m'.length = s.m.length + d.news.length) (hm : memOf m' = d.mem s.m.length (memOf s.m)) {next : Act → World → Prop} {Q : Exit → Act → World → Prop}
    (hn : ∀ a' w' β' F', Sim ⟨s.put o.dst d.v, m'⟩ β' F' a' w' → Ctx Ok F0 β0 w0 ⟨s.put o.dst d.v, m'⟩ β' F' w' → next a' w') :
    if Region.wanted o (yielded all a.tmps) then o.wpIn G n P a w next Q else (∀ f, o.about P w a.eval = some f → G.fn f) ∧ next (a.put o.dst undef) w := by
  have := step_op (Q := Q) hs h hc hl hm hn
  cases hs with
  | ran hg hs hf hnd =>
    rw [if_pos (hg β F w a (fun t _ => h.eval _))] at this ⊢
    exact hW.oper hnd this
  | skip hg hd =>
    rw [if_neg (by rw [hg β F w a (fun t _ => h.eval _)]; simp)] at this ⊢
    exact ⟨fun f _ => hW.fn f, this⟩

theorem runK_sound {G : Fence} (hW : Wide G) {n : Nat} {P : Program} {T : Tab} (hT : TabOK P T) {C : CallRel} (hC : CallsOK P C) {all : Array Oper} {K : Exit → ASt → Prop} {Ok F0 : Nat → Prop} {β0 : Pl} {w0 : World} :
    ∀ (r : List Oper) (i : Nat) (s : ASt) (β : Pl) (F : Nat → Prop) (a : Act) (w : World), r = all.toList.drop i → runK T C all.toList r s (K .normal) → Sim s β F a w → Ctx Ok F0 β0 w0 s β F w →
      wpOpsIn G n P all (Post Ok F0 β0 w0 K) (List.range' i r.length) a w := by
  intro r
  induction r with
  | nil => intro i s β F a w hr h hs hc; exact ⟨s, β, F, h, hs, hc⟩
  | cons o r ih =>
    intro i s β F a w hr h hs hc
    have ho : all[i]? = some o := by
      have : (all.toList.drop i)[0]? = some o := by rw [← hr]; rfl
      rw [List.getElem?_drop] at this
      simpa using this
    have hr' : r = all.toList.drop (i + 1) := by
      have : (o :: r).tail = (all.toList.drop i).tail := by rw [hr]
      simpa [List.tail_drop] using this
    simp only [List.length_cons, List.range'_succ, wpOpsIn, ho]
    obtain ⟨d, m', h1, h2, h3, h4⟩ := stepK_spec hT hC h
    exact step_opIn (n := n) hW (Q := Post Ok F0 β0 w0 K) (next := wpOpsIn G n P all (Post Ok F0 β0 w0 K) (List.range' (i + 1) r.length)) h1 hs hc h3 h4 (fun a' w' β' F' g1 g2 => ih (i + 1) _ β' F' a' w' hr' h2 g1 g2)
end
end Go.Am

set_option linter.unusedVariables false
namespace Go.Am
noncomputable section
open Go

/-! ### Folds over the operations that have been carried out -/
def foldC {E X : Type} (act : E → X → X) : List E → (Nat → Bool) → X → X
  | [], _, x => x
  | e :: r, D, x => foldC act r (fun n => D (n + 1)) (if D 0 then act e x else x)
theorem foldC_agree {E X : Type} (act : E → X → X) : ∀ (es : List E) (D D' : Nat → Bool) (x : X), (∀ k e, es[k]? = some e → D k ≠ D' k → ∀ x, act e x = x) → foldC act es D x = foldC act es D' x := by
  intro es
  induction es with
  | nil => intro D D' x h; rfl
  | cons e r ih =>
    intro D D' x h
    simp only [foldC]
    have h0 : (if D 0 then act e x else x) = (if D' 0 then act e x else x) := by
      cases h1 : D 0 <;> cases h2 : D' 0
      · rfl
      · simp [h 0 e rfl (by rw [h1, h2]; simp)]
      · simp [h 0 e rfl (by rw [h1, h2]; simp)]
      · rfl
    rw [h0]
    exact ih _ _ _ (fun k e' hk hne => h (k + 1) e' (by simpa using hk) hne)
theorem foldC_inert {E X : Type} (act : E → X → X) (es : List E) (D : Nat → Bool) (x : X) (f : X → X) : (∀ k e, es[k]? = some e → D k = true → ∀ x, act e (f x) = f (act e x)) → foldC act es D (f x) = f (foldC act es D x) := by
  induction es generalizing D x with
  | nil => intro _; rfl
  | cons e r ih =>
    intro h
    simp only [foldC]
    have h0 : (if D 0 then act e (f x) else f x) = f (if D 0 then act e x else x) := by
      cases h1 : D 0
      · rfl
      · simp [h 0 e rfl h1]
    rw [h0]
    exact ih _ _ (fun k e' hk hd => h (k + 1) e' (by simpa using hk) hd)
def upd (D : Nat → Bool) (i : Nat) : Nat → Bool := fun k => if k = i then true else D k
theorem foldC_add {E X : Type} (act : E → X → X) : ∀ (es : List E) (D : Nat → Bool) (i : Nat) (e : E) (x : X), es[i]? = some e → D i = false → (∀ k e', es[k]? = some e' → i < k → D k = true → ∀ x, act e' (act e x) = act e (act e' x)) →
    foldC act es (upd D i) x = act e (foldC act es D x) := by
  intro es
  induction es with
  | nil => intro D i e x h; simp at h
  | cons e0 r ih =>
    intro D i e x h hd hc
    cases i with
    | zero =>
      simp at h; subst h
      simp only [foldC]
      have : (fun n => upd D 0 (n + 1)) = fun n => D (n + 1) := by funext n; simp [upd]
      rw [this]
      simp only [upd, if_true, hd]
      exact foldC_inert act r (fun n => D (n + 1)) x (act e0) (fun k e' hk hd' => hc (k + 1) e' (by simpa using hk) (by omega) hd')
    | succ i =>
      simp only [foldC]
      have : (fun n => upd D (i + 1) (n + 1)) = upd (fun n => D (n + 1)) i := by funext n; simp [upd]
      rw [this]
      have h0 : upd D (i + 1) 0 = D 0 := by simp [upd]
      rw [h0]
      exact ih _ i e _ (by simpa using h) hd (fun k e' hk hlt hdk => hc (k + 1) e' (by simpa using hk) (by omega) hdk)
theorem foldC_none {E X : Type} (act : E → X → X) (es : List E) (x : X) : foldC act es (fun _ => false) x = x := by
  induction es with
  | nil => rfl
  | cons e r ih => simp only [foldC]; exact ih

/-! ### The entries of a region's run -/
structure En where
  d : Delta
  nid : Nat
  dst : Option Tmp
def En.tAct (t : Nat) (e : En) (x : AV) : AV := if e.dst = some t then e.d.v else x
def En.mAct (id : Nat) (e : En) (B : Option Blk) : Option Blk := e.d.act e.nid id B
def En.new (e : En) (id : Nat) : Prop := e.nid ≤ id ∧ id < e.nid + e.d.news.length
def En.acts (e : En) (id : Nat) : Prop := id ∈ e.d.tch ∨ id ∈ e.d.frz ∨ e.new id
def En.names (e : En) (id : Nat) : Prop := e.acts id ∨ id ∈ e.d.rd
def En.sole (e : En) (id i : Nat) : Prop := (∃ x, e.d.wr = some (.elem id i x)) ∧ id ∉ e.d.kill ∧ id ∉ e.d.frz ∧ ¬ e.new id ∧ id ∉ e.d.rd
/-- Two operations that no edge orders do not meet in memory, but for stores at different places of one row. -/
def MIndep (e f : En) : Prop := ∀ id, ((e.acts id ∧ f.names id) ∨ (f.acts id ∧ e.names id)) → ∃ i j, i ≠ j ∧ e.sole id i ∧ f.sole id j

theorem En.inert {e : En} {id : Nat} (h : ¬ e.acts id) (B : Option Blk) : e.mAct id B = B := by
  have h1 : id ∉ e.d.tch := fun q => h (.inl q)
  have h2 : id ∉ e.d.frz := fun q => h (.inr (.inl q))
  have h3 : ¬ (e.nid ≤ id ∧ id < e.nid + e.d.news.length) := fun q => h (.inr (.inr q))
  simp only [En.mAct, Delta.act]
  rw [if_neg h3, if_neg (by simp; exact fun q => h1 (mem_tch_kill q))]
  cases B with
  | none => rfl
  | some B =>
    simp only [Option.some.injEq]
    rw [if_neg (by simpa using h2)]
    cases hw : e.d.wr with
    | none => cases B <;> rfl
    | some x =>
      have hne : id ≠ x.id := fun q => h1 (q ▸ mem_tch_wr hw)
      cases x <;> cases B <;> simp_all [Wr.act, Wr.id]
theorem En.sole_act {e : En} {id i : Nat} (h : e.sole id i) : ∃ x, ∀ B, e.mAct id B = B.map fun
    | .row sz els o => .row sz (els.set i x) o
    | B => B := by
  obtain ⟨⟨x, hx⟩, h1, h2, h3, h4⟩ := h
  have h3 : ¬ (e.nid ≤ id ∧ id < e.nid + e.d.news.length) := h3
  refine ⟨x, fun B => ?_⟩
  simp only [En.mAct, Delta.act]
  rw [if_neg h3, if_neg (by simpa using h1)]
  cases B with
  | none => rfl
  | some B =>
    simp only [Option.map_some, Option.some.injEq]
    rw [if_neg (by simpa using h2)]
    cases B <;> simp [hx, Wr.act]
theorem mAct_comm {e f : En} (h : MIndep e f) (id : Nat) (B : Option Blk) : e.mAct id (f.mAct id B) = f.mAct id (e.mAct id B) := by
  by_cases h1 : e.acts id
  · by_cases h2 : f.acts id
    · obtain ⟨i, j, hij, h3, h4⟩ := h id (.inl ⟨h1, .inl h2⟩)
      obtain ⟨x, hx⟩ := En.sole_act h3
      obtain ⟨y, hy⟩ := En.sole_act h4
      rw [hx, hy, hx, hy]
      cases B with
      | none => rfl
      | some B => cases B with
        | box => rfl
        | row sz els o => simp only [Option.map_some]; rw [List.set_comm _ _ hij]
    · rw [En.inert h2, En.inert h2]
  · rw [En.inert h1, En.inert h1]

/-! ### States as functions -/
structure SimF (n : Nat) (tf : Nat → AV) (mm : Mem) (β : Pl) (F : Nat → Prop) (a : Act) (w : World) : Prop where
  size : a.tmps.size = n
  tmps : ∀ t, t < n → RepA β F w (tf t) (a.eval (.tmp t))
  mem : MemOK mm β F w
  defers : Marks a F w
structure CtxF (Ok F0 : Nat → Prop) (β0 : Pl) (w0 : World) (mm : Mem) (β : Pl) (F : Nat → Prop) (w : World) : Prop where
  os : w.os = w0.os
  tape : w.tape = w0.tape
  output : w.output = w0.output
  size : w0.heap.size ≤ w.heap.size
  keep : ∀ k, k < w0.heap.size → ¬ Ok k → w.heap[k]? = w0.heap[k]?
  row : ∀ id B bi, mm id = some B → β id = some bi → bi.nil = false → B.mine = true → Ok bi.b ∨ w0.heap.size ≤ bi.b
  ext : ∀ id bi, β0 id = some bi → β id = some bi
  Fm : ∀ b, F0 b → F b
  Fn : ∀ b, F b → F0 b ∨ Ok b ∨ w0.heap.size ≤ b

theorem Sim.f {s : ASt} {β : Pl} {F : Nat → Prop} {a : Act} {w : World} (h : Sim s β F a w) : SimF s.t.length (fun t => s.eval (.tmp t)) (memOf s.m) β F a w :=
  ⟨h.size.symm, fun t _ => h.eval _, h.mem, h.defers⟩
theorem SimF.l {s : ASt} {β : Pl} {F : Nat → Prop} {a : Act} {w : World} (h : SimF s.t.length (fun t => s.eval (.tmp t)) (memOf s.m) β F a w) (hd : ∀ id, s.m.length ≤ id → β id = none) : Sim s β F a w :=
  ⟨h.size.symm, fun t x hx => by
    have := h.tmps t (List.getElem?_eq_some_iff.1 hx).1
    simp only [ASt.eval, nth_eq, hx] at this
    exact this, h.mem, hd, h.defers⟩
theorem Ctx.f {Ok F0 : Nat → Prop} {β0 : Pl} {w0 : World} {s : ASt} {β : Pl} {F : Nat → Prop} {w : World} (h : Ctx Ok F0 β0 w0 s β F w) : CtxF Ok F0 β0 w0 (memOf s.m) β F w :=
  ⟨h.os, h.tape, h.output, h.size, h.keep, h.row, h.ext, h.Fm, h.Fn⟩
theorem CtxF.l {Ok F0 : Nat → Prop} {β0 : Pl} {w0 : World} {s : ASt} {β : Pl} {F : Nat → Prop} {w : World} (h : CtxF Ok F0 β0 w0 (memOf s.m) β F w) : Ctx Ok F0 β0 w0 s β F w :=
  ⟨h.os, h.tape, h.output, h.size, h.keep, h.row, h.ext, h.Fm, h.Fn⟩

theorem SimF.frozen {n : Nat} {tf : Nat → AV} {mm : Mem} {β β' : Pl} {F F' : Nat → Prop} {a : Act} {w w' : World} {d : Delta} {nid : Nat} {v : Value} (h : SimF n tf mm β F a w) (hf : Fits d nid mm) (he : Eff d nid β F w v β' F' w') : ∀ b, F b → w'.heap[b]? = w.heap[b]? := by
  intro b hb
  refine he.keep b (h.mem.lt b hb) (fun id hid bi hbi hn hbb => ?_)
  subst hbb
  rcases hf.own hid with ⟨cs, h1⟩ | ⟨sz, els, h1⟩
  · obtain ⟨bi', h2, h3⟩ := h.mem.ok _ _ h1
    rw [h2] at hbi; cases hbi
    exact h3.notF hn (.inl ⟨_, rfl⟩) hb
  · obtain ⟨bi', h2, h3⟩ := h.mem.ok _ _ h1
    rw [h2] at hbi; cases hbi
    exact h3.notF hn (.inr ⟨_, _, rfl⟩) hb

theorem SimF.step {n : Nat} {tf : Nat → AV} {mm : Mem} {β β' : Pl} {F F' : Nat → Prop} {a : Act} {w w' : World} {d : Delta} {nid : Nat} {v : Value} {dst : Option Tmp} (h : SimF n tf mm β F a w) (hf : Fits d nid mm) (hfr : ∀ k, k < d.news.length → β (nid + k) = none)
    (he : Eff d nid β F w v β' F' w') : SimF n (fun t => if dst = some t then d.v else tf t) (d.mem nid mm) β' F' (a.put dst v) w' := by
  have hFk := h.frozen hf he
  refine ⟨?_, ?_, h.mem.step hf hfr he, ?_⟩
  · cases dst <;> simp [Act.put, h.size]
  · intro t ht
    by_cases hd : dst = some t
    · subst hd
      have : (a.put (some t) v).eval (.tmp t) = v := by
        have hlt : t < a.tmps.size := by rw [h.size]; exact ht
        simp [Act.eval, Act.put, hlt]
      rw [this]; simp only [if_true]; exact he.val
    · simp only [if_neg hd]
      have : (a.put dst v).eval (.tmp t) = a.eval (.tmp t) := Act.eval_put (fun d' hd' => by intro e; cases e; exact hd hd')
      rw [this]
      exact (h.tmps t ht).mono he.ext he.Fm hFk
  · exact h.defers.step (by cases dst <;> rfl) he.Fm hFk

theorem CtxF.step {Ok F0 : Nat → Prop} {β0 : Pl} {w0 : World} {n : Nat} {tf : Nat → AV} {mm : Mem} {β β' : Pl} {F F' : Nat → Prop} {a : Act} {w w' : World} {d : Delta} {nid : Nat} {v : Value}
    (hc : CtxF Ok F0 β0 w0 mm β F w) (h : SimF n tf mm β F a w) (hf : Fits d nid mm) (he : Eff d nid β F w v β' F' w') : CtxF Ok F0 β0 w0 (d.mem nid mm) β' F' w' := by
  refine ⟨he.os.trans hc.os, he.tape.trans hc.tape, he.output.trans hc.output, Nat.le_trans hc.size he.size, ?_, ?_, fun id bi h => he.ext _ _ (hc.ext _ _ h), fun b h => he.Fm _ (hc.Fm _ h), ?_⟩
  · intro k hk hok
    rw [← hc.keep k hk hok]
    refine he.keep k (Nat.lt_of_lt_of_le hk hc.size) (fun id hid bi hbi hn hbb => ?_)
    subst hbb
    rcases hf.own hid with ⟨cs, h1⟩ | ⟨sz, els, h1⟩
    · rcases hc.row id _ _ h1 hbi hn rfl with q | q
      · exact hok q
      · omega
    · rcases hc.row id _ _ h1 hbi hn rfl with q | q
      · exact hok q
      · omega
  · intro id B bi h1 h2 h3 hmine
    by_cases hnn : nid ≤ id ∧ id < nid + d.news.length
    · simp only [Delta.mem, Delta.act, if_pos hnn] at h1
      obtain ⟨bi', g1, g2, g3⟩ := he.news _ _ h1
      rw [show nid + (id - nid) = id by omega] at g1
      rw [g1] at h2; cases h2
      rcases g3 h3 with g | ⟨id', q1, b0, q2, q3, q4⟩
      · exact .inr (Nat.le_trans hc.size g)
      · obtain ⟨sz, els, q5⟩ := hf.kill id' q1
        rw [← q4]
        exact hc.row id' _ _ q5 q2 q3 rfl
    · simp only [Delta.mem] at h1
      cases hB : mm id with
      | none => rw [hB] at h1; simp [Delta.act, if_neg hnn] at h1
      | some B0 =>
        obtain ⟨bi0, q1, q2⟩ := h.mem.ok _ _ hB
        rw [he.ext _ _ q1] at h2; cases h2
        rw [hB] at h1
        exact hc.row id B0 bi hB q1 h3 (act_mine hnn h1 hmine)
  · intro b hb
    rcases he.Fn b hb with h1 | ⟨h1, _⟩ | ⟨id, q1, bi, q2, q3, q4⟩
    · exact hc.Fn b h1
    · exact .inr (.inr (Nat.le_trans hc.size h1))
    · obtain ⟨sz, els, oo, q5⟩ := hf.frz id q1
      rw [← q4]
      cases oo with
      | true => exact .inr (hc.row id _ _ q5 q2 q3 rfl)
      | false =>
        obtain ⟨b0, r1, r2⟩ := h.mem.ok _ _ q5
        rw [r1] at q2; cases q2
        exact hc.Fn _ (r2.isF q3)
end
end Go.Am

set_option linter.unusedVariables false
namespace Go.Am
noncomputable section
open Go

/-! ### What must be checked of a region that draws its order -/
def befs : List Oper → List (List Nat) → List (List Nat)
  | [], acc => acc
  | o :: r, acc => befs r (acc ++ [o.after.toList.flatMap fun e => if Region.binds .any e then e.on :: (nth acc e.on).getD [] else []])
def befOf (B : List (List Nat)) (j : Nat) : List Nat := (nth B j).getD []
def apartsFrom (all : Array Oper) (B : List (List Nat)) (j : Nat) (oj : Oper) : Nat → List Oper → Bool
  | _, [] => true
  | i, oi :: r => (decide (j ≤ i) || (befOf B j).contains i || oi.apart all oj) && apartsFrom all B j oj (i + 1) r
def apartsAll (all : Array Oper) (B : List (List Nat)) : Nat → List Oper → Bool
  | _, [] => true
  | j, oj :: r => (oj.after.toList.all fun e => !Region.binds .any e || decide (e.on < j)) && apartsFrom all B j oj 0 all.toList && apartsAll all B (j + 1) r
def drawOK (all : Array Oper) : Bool := apartsAll all (befs all.toList []) 0 all.toList

theorem befs_get : ∀ (r : List Oper) (acc : List (List Nat)) (j : Nat), j < acc.length → (befs r acc)[j]? = acc[j]? := by
  intro r
  induction r with
  | nil => intro acc j h; rfl
  | cons o r ih =>
    intro acc j h
    simp only [befs]
    rw [ih _ _ (by simp; omega), List.getElem?_append_left h]
theorem befs_spec : ∀ (r : List Oper) (acc : List (List Nat)) (k : Nat) (o : Oper), r[k]? = some o → (∀ e ∈ o.after, Region.binds .any e = true → e.on < acc.length + k) →
    (befs r acc)[acc.length + k]? = some (o.after.toList.flatMap fun e => if Region.binds .any e then e.on :: ((befs r acc)[e.on]?).getD [] else []) := by
  intro r
  induction r with
  | nil => intro acc k o h; simp at h
  | cons o0 r ih =>
    intro acc k o h he
    cases k with
    | zero =>
      simp at h; subst h
      simp only [befs]
      rw [befs_get _ _ _ (by simp), List.getElem?_append_right (by omega)]
      simp only [Nat.add_zero, Nat.sub_self, List.getElem?_cons_zero, Option.some.injEq]
      rw [List.flatMap_def, List.flatMap_def]
      congr 1
      refine List.map_congr_left (fun e hm => ?_)
      by_cases hb : Region.binds .any e = true
      · rw [if_pos hb, if_pos hb]
        have := he e (by simpa using hm) hb
        rw [befs_get _ _ _ (by simp; omega), List.getElem?_append_left (by omega), nth_eq]
      · rw [if_neg hb, if_neg hb]
    | succ k =>
      simp only [befs]
      have := ih (acc ++ [o0.after.toList.flatMap fun e => if Region.binds .any e then e.on :: (nth acc e.on).getD [] else []]) k o (by simpa using h) (fun e hm hb => by have := he e hm hb; simp; omega)
      simp only [List.length_append, List.length_cons, List.length_nil] at this
      rw [show acc.length + (k + 1) = acc.length + (0 + 1) + k by omega]
      exact this

theorem apartsAll_spec (all : Array Oper) (B : List (List Nat)) : ∀ (r : List Oper) (j : Nat), apartsAll all B j r = true → ∀ (k : Nat) (oj : Oper), r[k]? = some oj →
    (∀ e ∈ oj.after, Region.binds .any e = true → e.on < j + k) ∧ ∀ (i : Nat) (oi : Oper), all[i]? = some oi → i < j + k → i ∉ befOf B (j + k) → oi.apart all oj = true := by
  have from_ : ∀ (j : Nat) (oj : Oper) (l : List Oper) (i0 : Nat), apartsFrom all B j oj i0 l = true → ∀ (q : Nat) (oi : Oper), l[q]? = some oi → i0 + q < j → i0 + q ∉ befOf B j → oi.apart all oj = true := by
    intro j oj l
    induction l with
    | nil => intro i0 _ q oi h; simp at h
    | cons o l ih =>
      intro i0 h q oi hq hlt hn
      simp only [apartsFrom, Bool.and_eq_true, Bool.or_eq_true, decide_eq_true_eq] at h
      cases q with
      | zero =>
        simp at hq; subst hq
        rcases h.1 with (h1 | h1) | h1
        · omega
        · exact absurd (by simpa using h1) (by simpa using hn)
        · exact h1
      | succ q => exact ih (i0 + 1) h.2 q oi (by simpa using hq) (by omega) (by rw [show i0 + 1 + q = i0 + (q + 1) by omega]; exact hn)
  intro r
  induction r with
  | nil => intro j _ k oj h; simp at h
  | cons o r ih =>
    intro j h k oj hk
    simp only [apartsAll, Bool.and_eq_true] at h
    obtain ⟨⟨h1, h2⟩, h3⟩ := h
    cases k with
    | zero =>
      simp at hk; subst hk
      refine ⟨fun e hm hb => ?_, fun i oi hi hlt hn => ?_⟩
      · have := List.all_eq_true.1 h1 e (by simpa using hm)
        simpa [hb] using this
      · exact from_ j o all.toList 0 h2 i oi (by simpa using hi) (by omega) (by rw [Nat.zero_add]; exact hn)
    | succ k =>
      have := ih (j + 1) h3 k oj (by simpa using hk)
      rw [show j + 1 + k = j + (k + 1) by omega] at this
      exact this

def seqN : Nat → Nat → List Nat
  | _, 0 => []
  | a, n + 1 => a :: seqN (a + 1) n
theorem mem_seqN : ∀ (n a x : Nat), x ∈ seqN a n ↔ a ≤ x ∧ x < a + n := by
  intro n
  induction n with
  | zero => intro a x; simp [seqN]; try omega
  | succ n ih => intro a x; simp only [seqN, List.mem_cons, ih]; omega
def En.newL (e : En) : List Nat := seqN e.nid e.d.news.length
def En.actsL (e : En) : List Nat := e.d.tch ++ (e.d.frz ++ e.newL)
def En.namesL (e : En) : List Nat := e.actsL ++ e.d.rd
def En.restL (e : En) : List Nat := e.d.kill ++ (e.d.frz ++ (e.newL ++ e.d.rd))
def soleP (e f : En) (id : Nat) : Prop :=
  match e.d.wr, f.d.wr with
  | some (.elem a i _), some (.elem b j _) => match Nat.beq a id, Nat.beq b id, contains e.restL id, contains f.restL id with
    | true, true, false, false => i ≠ j
    | _, _, _, _ => False
  | _, _ => False
def miL (e f : En) : List Nat → Prop
  | [] => True
  | id :: r => match contains f.namesL id with
    | false => miL e f r
    | true => soleP e f id ∧ miL e f r
def indepFrom (B : List (List Nat)) (j : Nat) (f : En) : Nat → List En → Prop
  | _, [] => True
  | i, e :: r => match Nat.ble j i, contains (befOf B j) i with
    | false, false => miL e f e.actsL ∧ miL f e f.actsL ∧ indepFrom B j f (i + 1) r
    | _, _ => indepFrom B j f (i + 1) r
def indepAll (B : List (List Nat)) (es : List En) : Nat → List En → Prop
  | _, [] => True
  | j, f :: r => indepFrom B j f 0 es ∧ indepAll B es (j + 1) r

theorem soleP_spec {e f : En} {id : Nat} (h : soleP e f id) : ∃ i j, i ≠ j ∧ e.sole id i ∧ f.sole id j := by
  unfold soleP at h
  split at h
  case h_2 => exact h.elim
  rename_i a i x b j y he hf
  split at h
  case h_2 => exact h.elim
  rename_i h1 h2 h3 h4
  have ea : a = id := Nat.eq_of_beq_eq_true h1
  have eb : b = id := Nat.eq_of_beq_eq_true h2
  subst ea; subst eb
  rw [contains_spec] at h3 h4
  simp only [En.restL, En.newL] at h3 h4
  simp [mem_seqN] at h3 h4
  refine ⟨i, j, h, ⟨⟨x, he⟩, h3.1, h3.2.1, ?_, h3.2.2.2⟩, ⟨⟨y, hf⟩, h4.1, h4.2.1, ?_, h4.2.2.2⟩⟩
  · rintro ⟨q1, q2⟩; have := h3.2.2.1 q1; omega
  · rintro ⟨q1, q2⟩; have := h4.2.2.1 q1; omega
theorem mem_actsL {e : En} {id : Nat} : id ∈ e.actsL ↔ e.acts id := by
  simp only [En.actsL, List.mem_append, En.newL, mem_seqN, En.acts, En.new]
theorem mem_namesL {e : En} {id : Nat} : id ∈ e.namesL ↔ e.names id := by
  simp only [En.namesL, List.mem_append, mem_actsL, En.names]
theorem miL_spec {e f : En} : ∀ (l : List Nat), miL e f l → ∀ id ∈ l, f.names id → soleP e f id := by
  intro l
  induction l with
  | nil => intro _ id h; cases h
  | cons x r ih =>
    intro h id hid hn
    simp only [miL] at h
    split at h
    · rename_i hc
      rcases List.mem_cons.1 hid with rfl | hid
      · rw [contains_spec] at hc
        exact absurd (mem_namesL.2 hn) (by simpa using hc)
      · exact ih h id hid hn
    · rcases List.mem_cons.1 hid with rfl | hid
      · exact h.1
      · exact ih h.2 id hid hn
theorem mindep_of {e f : En} (h1 : miL e f e.actsL) (h2 : miL f e f.actsL) : MIndep e f := by
  rintro id (⟨a, b⟩ | ⟨a, b⟩)
  · exact soleP_spec (miL_spec _ h1 id (mem_actsL.2 a) b)
  · obtain ⟨i, j, h3, h4, h5⟩ := soleP_spec (miL_spec _ h2 id (mem_actsL.2 a) b)
    exact ⟨j, i, Ne.symm h3, h5, h4⟩
theorem indepFrom_spec {B : List (List Nat)} {j : Nat} {f : En} : ∀ (l : List En) (i0 : Nat), indepFrom B j f i0 l → ∀ (q : Nat) (e : En), l[q]? = some e → i0 + q < j → i0 + q ∉ befOf B j → MIndep e f := by
  intro l
  induction l with
  | nil => intro i0 _ q e h; simp at h
  | cons e0 l ih =>
    intro i0 h q e hq hlt hn
    simp only [indepFrom] at h
    split at h
    · cases q with
      | zero => simp at hq; subst hq; exact mindep_of h.1 h.2.1
      | succ q => exact ih _ h.2.2 q e (by simpa using hq) (by omega) (by rw [show i0 + 1 + q = i0 + (q + 1) by omega]; exact hn)
    · rename_i hno
      cases q with
      | zero =>
        exfalso
        refine hno ?_ ?_
        · cases hb : Nat.ble j i0 with
          | false => rfl
          | true => have := Nat.le_of_ble_eq_true hb; omega
        · rw [contains_spec]; simpa using hn
      | succ q => exact ih _ h q e (by simpa using hq) (by omega) (by rw [show i0 + 1 + q = i0 + (q + 1) by omega]; exact hn)
theorem indepAll_spec {B : List (List Nat)} {es : List En} : ∀ (l : List En) (j0 : Nat), indepAll B es j0 l → ∀ (q : Nat) (f : En), l[q]? = some f → ∀ (i : Nat) (e : En), es[i]? = some e → i < j0 + q → i ∉ befOf B (j0 + q) → MIndep e f := by
  intro l
  induction l with
  | nil => intro j0 _ q f h; simp at h
  | cons f0 l ih =>
    intro j0 h q f hq i e hi hlt hn
    cases q with
    | zero => simp at hq; subst hq; exact indepFrom_spec es 0 h.1 i e hi (by omega) (by rw [Nat.zero_add]; exact hn)
    | succ q => exact ih (j0 + 1) h.2 q f (by simpa using hq) i e hi (by omega) (by rw [show j0 + 1 + q = j0 + (q + 1) by omega]; exact hn)
end
end Go.Am

set_option linter.unusedVariables false
namespace Go.Am
noncomputable section
open Go

/-- The run of a region in the order of the text, told. -/
structure Told (P : Program) (all : Array Oper) (s : ASt) (es : List En) (S : Nat → ASt) : Prop where
  start : S 0 = s
  len : es.length = all.size
  step : ∀ i o, all[i]? = some o → ∃ e, es[i]? = some e ∧ e.nid = (S i).m.length ∧ e.dst = o.dst ∧ Stepped P all o (S i) e.d ∧ (S (i + 1)).t = (S i).put e.dst e.d.v ∧
    memOf (S (i + 1)).m = e.d.mem e.nid (memOf (S i).m) ∧ (S (i + 1)).m.length = (S i).m.length + e.d.news.length

theorem upd_lt (i : Nat) : (fun k => decide (k < i + 1)) = upd (fun k => decide (k < i)) i := by
  funext k
  simp only [upd]
  by_cases h : k = i
  · subst h; simp
  · rw [if_neg h]; simp; omega

section
variable {P : Program} {all : Array Oper} {s : ASt} {es : List En} {S : Nat → ASt} (hr : Told P all s es S)
include hr

theorem Told.get {i : Nat} {e : En} (he : es[i]? = some e) : ∃ o, all[i]? = some o := by
  have : i < all.size := by rw [← hr.len]; exact (List.getElem?_eq_some_iff.1 he).1
  exact ⟨all[i], Array.getElem?_eq_getElem this⟩
theorem Told.at {i : Nat} {e : En} (he : es[i]? = some e) {o : Oper} (ho : all[i]? = some o) : e.nid = (S i).m.length ∧ e.dst = o.dst ∧ Stepped P all o (S i) e.d ∧ (S (i + 1)).t = (S i).put e.dst e.d.v ∧
    memOf (S (i + 1)).m = e.d.mem e.nid (memOf (S i).m) ∧ (S (i + 1)).m.length = (S i).m.length + e.d.news.length := by
  obtain ⟨e', h1, h2⟩ := hr.step i o ho
  rw [he] at h1; cases h1
  exact h2

theorem Told.tlen : ∀ i, i ≤ all.size → (S i).t.length = s.t.length := by
  intro i
  induction i with
  | zero => intro _; rw [hr.start]
  | succ i ih =>
    intro hi
    obtain ⟨e, h1, h2, h3, h4, h5, h6, h7⟩ := hr.step i all[i] (Array.getElem?_eq_getElem (by omega))
    rw [h5]
    cases hd : e.dst <;> simp [ASt.put, ih (by omega)]
theorem Told.tmp (t : Nat) (ht : t < s.t.length) : ∀ i, i ≤ all.size → (S i).eval (.tmp t) = foldC (En.tAct t) es (fun k => decide (k < i)) (s.eval (.tmp t)) := by
  intro i
  induction i with
  | zero => intro _; rw [hr.start]; simp only [Nat.not_lt_zero, decide_false]; rw [foldC_none]
  | succ i ih =>
    intro hi
    obtain ⟨e, h1, h2, h3, h4, h5, h6, h7⟩ := hr.step i all[i] (Array.getElem?_eq_getElem (by omega))
    rw [upd_lt, foldC_add _ _ _ i e _ h1 (by simp) (fun k e' _ hlt hd => by simp at hd; omega), ← ih (by omega)]
    have htl := hr.tlen i (by omega)
    simp only [ASt.eval, nth_eq, h5, En.tAct]
    cases hd : e.dst with
    | none => simp [ASt.put]
    | some t' =>
      simp only [ASt.put]
      by_cases htt : t' = t
      · subst htt
        rw [List.getElem?_set_self (by omega)]; simp
      · rw [List.getElem?_set_ne htt, if_neg (by simpa using htt)]
theorem Told.memf (id : Nat) : ∀ i, i ≤ all.size → memOf (S i).m id = foldC (En.mAct id) es (fun k => decide (k < i)) (memOf s.m id) := by
  intro i
  induction i with
  | zero => intro _; rw [hr.start]; simp only [Nat.not_lt_zero, decide_false]; rw [foldC_none]
  | succ i ih =>
    intro hi
    obtain ⟨e, h1, h2, h3, h4, h5, h6, h7⟩ := hr.step i all[i] (Array.getElem?_eq_getElem (by omega))
    rw [upd_lt, foldC_add _ _ _ i e _ h1 (by simp) (fun k e' _ hlt hd => by simp at hd; omega), ← ih (by omega), h6]
    rfl
/-- New names grow with the text. -/
theorem Told.mono : ∀ i j, i ≤ j → j ≤ all.size → (S i).m.length ≤ (S j).m.length := by
  intro i j hij
  induction j with
  | zero => intro _; have : i = 0 := by omega
            subst this; exact Nat.le_refl _
  | succ j ih =>
    intro hj
    by_cases h : i = j + 1
    · subst h; exact Nat.le_refl _
    · obtain ⟨e, h1, h2, h3, h4, h5, h6, h7⟩ := hr.step j all[j] (Array.getElem?_eq_getElem (by omega))
      rw [h7]; have := ih (by omega) (by omega); omega
end

/-- The order that the edges keep. -/
theorem bef_closed {all : Array Oper} (hok : drawOK all = true) {D : Nat → Bool} {j : Nat} (hcl : ∀ k o, all[k]? = some o → (D k = true ∨ k = j) → ∀ e ∈ o.after, Region.binds .any e = true → D e.on = true) :
    ∀ n k, k < n → (D k = true ∨ k = j) → ∀ i ∈ befOf (befs all.toList []) k, D i = true := by
  have hsp := apartsAll_spec all (befs all.toList []) all.toList 0 hok
  intro n
  induction n with
  | zero => intro k hk; omega
  | succ n ih =>
    intro k hk hd i hi
    cases hok' : all[k]? with
    | none =>
      exfalso
      simp only [befOf, nth_eq] at hi
      have hlen : ∀ (r : List Oper) (acc : List (List Nat)), (befs r acc).length = acc.length + r.length := by
        intro r
        induction r with
        | nil => intro acc; simp [befs]
        | cons o r ih => intro acc; simp only [befs, ih]; simp; omega
      rw [List.getElem?_eq_none (by rw [hlen]; simp at hok' ⊢; omega)] at hi
      simp at hi
    | some o =>
      obtain ⟨h1, _⟩ := hsp k o (by simpa using hok')
      rw [Nat.zero_add] at h1
      have hb := befs_spec all.toList [] k o (by simpa using hok') (by simpa using h1)
      simp only [List.length_nil, Nat.zero_add] at hb
      simp only [befOf, nth_eq, hb, Option.getD_some, List.mem_flatMap] at hi
      obtain ⟨e, hm, hie⟩ := hi
      by_cases hbd : Region.binds .any e = true
      · rw [if_pos hbd] at hie
        have hm' : e ∈ o.after := by simpa using hm
        have hde := hcl k o hok' hd e hm' hbd
        have hlt := h1 e hm' hbd
        rcases List.mem_cons.1 hie with rfl | hie
        · exact hde
        · exact ih e.on (by omega) (.inl hde) i (by simpa [befOf, nth_eq] using hie)
      · rw [if_neg hbd] at hie; cases hie

/-! ### Blocks of one shape -/
def oalike : Option Blk → Option Blk → Prop
  | none, none => True
  | some A, some B => A.alike B
  | _, _ => False
theorem oalike_refl (x : Option Blk) : oalike x x := by cases x <;> simp [oalike, Blk.alike_refl]
theorem oalike_some {A : Blk} {y : Option Blk} (h : oalike (some A) y) : ∃ B, y = some B ∧ A.alike B := by
  cases y with
  | none => exact h.elim
  | some B => exact ⟨B, rfl, h⟩
theorem En.alike (e : En) (id : Nat) {x y : Option Blk} (h : oalike x y) : oalike (e.mAct id x) (e.mAct id y) := by
  simp only [En.mAct, Delta.act]
  split
  · exact oalike_refl _
  · split
    · trivial
    · cases x with
      | none => cases y with
        | none => trivial
        | some B => exact h.elim
      | some A =>
        obtain ⟨B, rfl, hab⟩ := oalike_some h
        simp only [oalike]
        have hw : (Wr.act e.d.wr id A).alike (Wr.act e.d.wr id B) := by
          cases A with
          | box cs => cases B with
            | row => exact hab.elim
            | box cs' =>
              have hab : cs'.length = cs.length := hab
              cases hx : e.d.wr with
              | none => exact hab
              | some x => cases x with
                | box b j vs => simp only [Wr.act]; split
                                · simp only [Blk.alike, splice, List.length_append, List.length_take, List.length_drop]; omega
                                · exact hab
                | elem => exact hab
                | all => exact hab
          | row sz els o => cases B with
            | box => exact hab.elim
            | row sz' els' o' =>
              have hab : sz' = sz ∧ els'.length = els.length ∧ o' = o := hab
              cases hx : e.d.wr with
              | none => exact hab
              | some x => cases x with
                | box b j vs => exact hab
                | elem b i el => simp only [Wr.act]; split
                                 · exact ⟨hab.1, by simpa using hab.2.1, hab.2.2⟩
                                 · exact hab
                | all b l => simp only [Wr.act]; split
                             · exact ⟨hab.1, rfl, hab.2.2⟩
                             · exact hab
        split
        · revert hw
          generalize Wr.act e.d.wr id A = A'
          generalize Wr.act e.d.wr id B = B'
          intro hw
          cases A' <;> cases B' <;> simp_all [Blk.alike, Blk.freeze]
        · exact hw
theorem En.sole_alike {e : En} {id p : Nat} (hs : e.sole id p) {x y : Option Blk} (h : oalike x y) : oalike (e.mAct id x) y ∧ oalike x (e.mAct id y) := by
  obtain ⟨v, hv⟩ := En.sole_act hs
  rw [hv, hv]
  cases x with
  | none => cases y with
    | none => exact ⟨trivial, trivial⟩
    | some B => exact h.elim
  | some A =>
    obtain ⟨B, rfl, hab⟩ := oalike_some h
    cases A <;> cases B <;> simp_all [oalike, Blk.alike]
theorem foldC_alike (id : Nat) : ∀ (l : List En) (D1 D2 : Nat → Bool) (x y : Option Blk), (∀ k ek, l[k]? = some ek → D1 k ≠ D2 k → (∀ B, ek.mAct id B = B) ∨ ∃ p, ek.sole id p) → oalike x y →
    oalike (foldC (En.mAct id) l D1 x) (foldC (En.mAct id) l D2 y) := by
  intro l
  induction l with
  | nil => intro D1 D2 x y _ h; exact h
  | cons e r ih =>
    intro D1 D2 x y hk h
    simp only [foldC]
    refine ih _ _ _ _ (fun k ek h1 h2 => hk (k + 1) ek (by simpa using h1) h2) ?_
    cases h1 : D1 0 <;> cases h2 : D2 0
    · exact h
    · rcases hk 0 e rfl (by rw [h1, h2]; simp) with q | ⟨p, q⟩
      · simp [q, h]
      · simpa using (En.sole_alike q h).2
    · rcases hk 0 e rfl (by rw [h1, h2]; simp) with q | ⟨p, q⟩
      · simp [q, h]
      · simpa using (En.sole_alike q h).1
    · simpa using En.alike e id h

theorem eval_ne_tmp {s s' : ASt} (x : Operand) (h : ∀ t, x = .tmp t → s.eval (.tmp t) = s'.eval (.tmp t)) : s.eval x = s'.eval x := by
  cases x with
  | tmp t => exact h t rfl
  | _ => rfl

/-- WHATEVER ORDER IS DRAWN: the region comes to the state that the order of the text comes to. -/
theorem any_order {G : Fence} (hW : Wide G) {n : Nat} {P : Program} {all : Array Oper} {s : ASt} {es : List En} {S : Nat → ASt} (hr : Told P all s es S) (hok : drawOK all = true) (hin : indepAll (befs all.toList []) es 0 es) {Ok F0 : Nat → Prop} {β0 : Pl} {w0 : World}
    {Q : Exit → Act → World → Prop} (hQ : ∀ β F a w, Sim (S all.size) β F a w → Ctx Ok F0 β0 w0 (S all.size) β F w → Q .normal a w) :
    ∀ (fuel : Nat) (listed : Array Bool) (β : Pl) (F : Nat → Prop) (a : Act) (w : World), listed.size = all.size → (List.range all.size).countP (fun k => !listed.getD k true) ≤ fuel →
      (∀ k o, all[k]? = some o → listed.getD k true = true → ∀ e ∈ o.after, Region.binds .any e = true → listed.getD e.on true = true) →
      SimF s.t.length (fun t => foldC (En.tAct t) es (fun k => listed.getD k true) (s.eval (.tmp t))) (fun id => foldC (En.mAct id) es (fun k => listed.getD k true) (memOf s.m id)) β F a w →
      CtxF Ok F0 β0 w0 (fun id => foldC (En.mAct id) es (fun k => listed.getD k true) (memOf s.m id)) β F w →
      (∀ i e, es[i]? = some e → listed.getD i true = false → ∀ k, k < e.d.news.length → β (e.nid + k) = none) → (∀ id, (S all.size).m.length ≤ id → β id = none) →
      wpAnyIn G n P .any all Q fuel listed a w := by
  have hsp := apartsAll_spec all (befs all.toList []) all.toList 0 hok
  intro fuel
  -- where all have come up
  have done : ∀ (listed : Array Bool) (β : Pl) (F : Nat → Prop) (a : Act) (w : World), listed.size = all.size → (∀ k, k < all.size → listed.getD k true = true) →
      SimF s.t.length (fun t => foldC (En.tAct t) es (fun k => listed.getD k true) (s.eval (.tmp t))) (fun id => foldC (En.mAct id) es (fun k => listed.getD k true) (memOf s.m id)) β F a w →
      CtxF Ok F0 β0 w0 (fun id => foldC (En.mAct id) es (fun k => listed.getD k true) (memOf s.m id)) β F w → (∀ id, (S all.size).m.length ≤ id → β id = none) → Q .normal a w := by
    intro listed β F a w hsz hall hs hc hd
    have hm : (fun id => foldC (En.mAct id) es (fun k => listed.getD k true) (memOf s.m id)) = memOf (S all.size).m := by
      funext id
      rw [hr.memf id all.size (Nat.le_refl _)]
      refine foldC_agree _ _ _ _ _ (fun k e hk hne => ?_)
      have hk' : k < all.size := by rw [← hr.len]; exact (List.getElem?_eq_some_iff.1 hk).1
      rw [hall k hk'] at hne
      simp [hk'] at hne
    rw [hm] at hs hc
    refine hQ β F a w (SimF.l ⟨by rw [hs.size, hr.tlen _ (Nat.le_refl _)], fun t ht => ?_, hs.mem, hs.defers⟩ hd) hc.l
    rw [hr.tlen _ (Nat.le_refl _)] at ht
    have := hs.tmps t ht
    rw [hr.tmp t ht _ (Nat.le_refl _)]
    have he : foldC (En.tAct t) es (fun k => listed.getD k true) (s.eval (.tmp t)) = foldC (En.tAct t) es (fun k => decide (k < all.size)) (s.eval (.tmp t)) := by
      refine foldC_agree _ _ _ _ _ (fun k e hk hne => ?_)
      have hk' : k < all.size := by rw [← hr.len]; exact (List.getElem?_eq_some_iff.1 hk).1
      rw [hall k hk'] at hne
      simp [hk'] at hne
    rw [← he]; exact this
  have getDf : ∀ (listed : Array Bool) (k : Nat), listed.size = all.size → k < all.size → listed.getD k false = listed.getD k true := by
    intro listed k h1 h2
    simp [show k < listed.size by omega]
  have ready_all : ∀ (listed : Array Bool), listed.size = all.size → Region.ready .any all listed = [] → ∀ n k, k < n → k < all.size → listed.getD k true = true := by
    intro listed hsz hre n
    induction n with
    | zero => intro k h; omega
    | succ n ih =>
      intro k hk hks
      cases hl : listed.getD k true with
      | true => rfl
      | false =>
        exfalso
        have : k ∈ Region.ready .any all listed := by
          rw [mem_ready]
          refine ⟨hl, all[k], Array.getElem?_eq_getElem hks, fun e he hb => ?_⟩
          have hlt := (hsp k all[k] (by simp [hks])).1 e he hb
          rw [Nat.zero_add] at hlt
          rw [getDf _ _ hsz (by omega)]
          exact ih e.on (by omega) (by omega)
        rw [hre] at this; cases this
  induction fuel with
  | zero =>
    intro listed β F a w hsz hcnt hcl hs hc hfr hd
    have hall : ∀ k, k < all.size → listed.getD k true = true := fun k hk => by
      cases hl : listed.getD k true with
      | true => rfl
      | false =>
        have : 0 < (List.range all.size).countP (fun k => !listed.getD k true) := List.countP_pos_iff.2 ⟨k, by simpa using hk, by rw [hl]; rfl⟩
        omega
    refine ⟨?_, done listed β F a w hsz hall hs hc hd⟩
    apply List.eq_nil_iff_forall_not_mem.2
    intro i hi
    obtain ⟨h1, o, h2, _⟩ := mem_ready.1 hi
    rw [hall i (Array.getElem?_eq_some_iff.1 h2).1] at h1; cases h1
  | succ fuel ih =>
    intro listed β F a w hsz hcnt hcl hs hc hfr hd
    refine ⟨fun hre => done listed β F a w hsz (fun k hk => ready_all listed hsz hre (k + 1) k (by omega) hk) hs hc hd, fun i hi => ?_⟩
    obtain ⟨hli, o, ho, hedges⟩ := mem_ready.1 hi
    have his : i < all.size := (Array.getElem?_eq_some_iff.1 ho).1
    obtain ⟨e, he, hnid, hdst, hst, ht5, hm6, hl7⟩ := hr.step i o ho
    let D : Nat → Bool := fun k => listed.getD k true
    -- what comes before i has come up; what has come up comes not behind it
    have hbi : ∀ k ∈ befOf (befs all.toList []) i, D k = true := bef_closed hok (D := D) (j := i) (fun k o' ho' hk ed hed hb => by
      rcases hk with hk | rfl
      · exact hcl k o' ho' hk ed hed hb
      · rw [ho] at ho'; cases ho'
        have hlt := (hsp k o (by simpa using ho)).1 ed hed hb
        have := hedges ed hed hb
        rw [getDf _ _ hsz (by omega)] at this
        exact this) (i + 1) i (by omega) (.inr rfl)
    have hbk : ∀ k, D k = true → ∀ q ∈ befOf (befs all.toList []) k, D q = true := fun k hk => bef_closed hok (D := D) (j := k) (fun k' o' ho' hk' ed hed hb => by
      rcases hk' with hk' | rfl
      · exact hcl k' o' ho' hk' ed hed hb
      · exact hcl k' o' ho' hk ed hed hb) (k + 1) k (by omega) (.inr rfl)
    have hDi : D i = false := hli
    -- whoever parts the two states is apart from i
    have hap : ∀ k ek ok, es[k]? = some ek → all[k]? = some ok → D k ≠ decide (k < i) → (MIndep ek e ∧ ok.apart all o = true ∧ k < i) ∨ (MIndep e ek ∧ o.apart all ok = true ∧ i < k) ∨ k = i := by
      intro k ek ok hk hok' hne
      rcases Nat.lt_trichotomy k i with hlt | heq | hgt
      · left
        have hDk : D k = false := by
          cases h : D k with
          | false => rfl
          | true => rw [h] at hne; simp [hlt] at hne
        have hnb : k ∉ befOf (befs all.toList []) i := fun q => by rw [hbi k q] at hDk; cases hDk
        exact ⟨by have := indepAll_spec es 0 hin i e he k ek hk (by omega) (by rw [Nat.zero_add]; exact hnb); exact this, (hsp i o (by simpa using ho)).2 k ok hok' (by omega) (by rw [Nat.zero_add]; exact hnb), hlt⟩
      · exact .inr (.inr heq)
      · right; left
        have hDk : D k = true := by
          cases h : D k with
          | true => rfl
          | false => rw [h] at hne; simp at hne; omega
        have hnb : i ∉ befOf (befs all.toList []) k := fun q => by rw [hbk k hDk i q] at hDi; cases hDi
        exact ⟨by have := indepAll_spec es 0 hin k ek hk i e he (by omega) (by rw [Nat.zero_add]; exact hnb); exact this, (hsp k ok (by simpa using hok')).2 i o ho (by omega) (by rw [Nat.zero_add]; exact hnb), hgt⟩
    -- what i looks at reads as in the text's state
    have htmp : ∀ t, t < s.t.length → t ∈ o.looksAt all → foldC (En.tAct t) es D (s.eval (.tmp t)) = (S i).eval (.tmp t) := by
      intro t ht hlook
      rw [hr.tmp t ht i (by omega)]
      refine foldC_agree _ _ _ _ _ (fun k ek hk hne x => ?_)
      obtain ⟨ok, hok'⟩ := hr.get hk
      obtain ⟨_, hdk, _⟩ := hr.at hk hok'
      simp only [En.tAct]
      rcases hap k ek ok hk hok' hne with ⟨_, h2, _⟩ | ⟨_, h2, _⟩ | rfl
      · have := (Oper.apart_spec h2).1
        rw [if_neg (fun q => this t (by rw [← hdk]; exact q) hlook)]
      · have := (Oper.apart_spec h2).2.2
        rw [if_neg (fun q => this t (by rw [← hdk]; exact q) hlook)]
      · exfalso; simp at hne; rw [hDi] at hne; simp at hne
    have htmp' : ∀ t, t ∈ o.looksAt all → RepA β F w ((S i).eval (.tmp t)) (a.eval (.tmp t)) := by
      intro t hlook
      by_cases ht : t < s.t.length
      · rw [← htmp t ht hlook]; exact hs.tmps t ht
      · have : (S i).eval (.tmp t) = .top := by
          simp only [ASt.eval, nth_eq]
          rw [List.getElem?_eq_none (by rw [hr.tlen i (by omega)]; exact Nat.le_of_not_lt ht)]
        rw [this]; exact .top _
    have hops : ∀ x, x ∈ o.op.operands → RepA β F w ((S i).eval x) (a.eval x) := by
      intro x hx
      cases x with
      | tmp t => exact htmp' t (List.mem_append_left _ (List.mem_filterMap.2 ⟨.tmp t, by simpa using hx, rfl⟩))
      | const v => exact .p _ _ (.val _)
      | global g => exact .p _ _ (.val _)
      | func f => exact .p _ _ (.val _)
    -- memory that i names
    have hmemE : ∀ id, e.names id → (∀ q, ¬ e.sole id q) → foldC (En.mAct id) es D (memOf s.m id) = memOf (S i).m id := by
      intro id hn hns
      rw [hr.memf id i (by omega)]
      refine foldC_agree _ _ _ _ _ (fun k ek hk hne x => ?_)
      obtain ⟨ok, hok'⟩ := hr.get hk
      refine En.inert (fun ha => ?_) x
      rcases hap k ek ok hk hok' hne with ⟨h2, _, _⟩ | ⟨h2, _, _⟩ | rfl
      · obtain ⟨p, q, _, h3, h4⟩ := h2 id (.inl ⟨ha, hn⟩); exact hns q h4
      · obtain ⟨p, q, _, h3, h4⟩ := h2 id (.inr ⟨ha, hn⟩); exact hns p h3
      · simp at hne; rw [hDi] at hne; simp at hne
    have hmemA : ∀ id q, e.sole id q → oalike (memOf (S i).m id) (foldC (En.mAct id) es D (memOf s.m id)) := by
      intro id q hsole
      rw [hr.memf id i (by omega)]
      refine foldC_alike id es _ _ _ _ (fun k ek hk hne => ?_) (oalike_refl _)
      obtain ⟨ok, hok'⟩ := hr.get hk
      have hn : e.names id := by
        obtain ⟨⟨x, hx⟩, _⟩ := hsole
        exact .inl (.inl (mem_tch_wr hx))
      by_cases ha : ek.acts id
      · right
        rcases hap k ek ok hk hok' (Ne.symm hne) with ⟨h2, _, _⟩ | ⟨h2, _, _⟩ | rfl
        · obtain ⟨p, q, _, h3, h4⟩ := h2 id (.inl ⟨ha, hn⟩); exact ⟨p, h3⟩
        · obtain ⟨p, q, _, h3, h4⟩ := h2 id (.inr ⟨ha, hn⟩); exact ⟨q, h4⟩
        · simp at hne; rw [hDi] at hne; simp at hne
      · exact .inl (fun x => En.inert ha x)
    have wp_nid : e.nid + e.d.news.length = (S (i + 1)).m.length := by rw [hl7, hnid]
    -- behind the step
    have next : ∀ (β' : Pl) (F' : Nat → Prop) (a' : Act) (w' : World) (v : Value), Fits e.d e.nid (fun id => foldC (En.mAct id) es D (memOf s.m id)) → Eff e.d e.nid β F w v β' F' w' → a' = a.put o.dst v →
        wpAnyIn G n P .any all Q fuel (listed.setIfInBounds i true) a' w' := by
      intro β' F' a' w' v hf he' ha'
      subst ha'
      have hD' : (fun k => (listed.setIfInBounds i true).getD k true) = upd D i := by
        funext k
        simp only [upd]
        by_cases hk : k = i
        · subst hk; simp [show k < listed.size by omega]
        · rw [if_neg hk]
          simp only [Array.getD_eq_getD_getElem?, D]
          rw [Array.getElem?_setIfInBounds_ne (Ne.symm hk)]
      have hT : ∀ t x, foldC (En.tAct t) es (upd D i) x = e.tAct t (foldC (En.tAct t) es D x) := fun t x => by
        refine foldC_add _ es D i e x he hDi (fun k ek hk hlt hdk y => ?_)
        obtain ⟨ok, hok'⟩ := hr.get hk
        obtain ⟨_, hdk', _⟩ := hr.at hk hok'
        rcases hap k ek ok hk hok' (by rw [hdk]; simp; omega) with ⟨_, _, h3⟩ | ⟨_, h2, _⟩ | rfl
        · omega
        · have := (Oper.apart_spec h2).2.1
          simp only [En.tAct]
          by_cases q1 : e.dst = some t
          · have : ek.dst ≠ some t := by rw [hdk']; exact this t (by rw [← hdst]; exact q1)
            simp [this]
          · simp [q1]
        · omega
      have hM : ∀ id x, foldC (En.mAct id) es (upd D i) x = e.mAct id (foldC (En.mAct id) es D x) := fun id x => by
        refine foldC_add _ es D i e x he hDi (fun k ek hk hlt hdk y => ?_)
        obtain ⟨ok, hok'⟩ := hr.get hk
        rcases hap k ek ok hk hok' (by rw [hdk]; simp; omega) with ⟨_, _, h3⟩ | ⟨h2, _, _⟩ | rfl
        · omega
        · exact (mAct_comm h2 id y).symm
        · omega
      have hs' := SimF.step (dst := e.dst) hs hf (fun k hk => hfr i e he hli k hk) he'
      have hc' := CtxF.step hc hs hf he'
      have eM : (fun id => foldC (En.mAct id) es (fun k => (listed.setIfInBounds i true).getD k true) (memOf s.m id)) = e.d.mem e.nid (fun id => foldC (En.mAct id) es D (memOf s.m id)) := by
        funext id; rw [hD', hM]; rfl
      have eT : (fun t => foldC (En.tAct t) es (fun k => (listed.setIfInBounds i true).getD k true) (s.eval (.tmp t))) = fun t => if e.dst = some t then e.d.v else foldC (En.tAct t) es D (s.eval (.tmp t)) := by
        funext t; rw [hD', hT]; rfl
      refine ih (listed.setIfInBounds i true) β' F' (a.put o.dst v) w' (by simpa using hsz) ?_ ?_ ?_ ?_ ?_ ?_
      · have : (List.range all.size).countP (fun k => !(listed.setIfInBounds i true).getD k true) < (List.range all.size).countP (fun k => !listed.getD k true) := by
          have e1 : (fun k => !(listed.setIfInBounds i true).getD k true) = fun k => !(upd D i k) := by
            funext k; rw [← congrFun hD' k]
          rw [e1]
          have gen : ∀ n, i < n → (List.range n).countP (fun k => !upd D i k) < (List.range n).countP (fun k => !listed.getD k true) := by
            intro n
            induction n with
            | zero => intro h; omega
            | succ n ihn =>
              intro h
              rw [List.range_succ, List.countP_append, List.countP_append]
              by_cases hin : i = n
              · subst hin
                have : (List.range i).countP (fun k => !upd D i k) = (List.range i).countP (fun k => !listed.getD k true) := by
                  refine List.countP_congr (fun k hk => ?_)
                  have hk : k < i := by simpa using hk
                  simp [upd, show k ≠ i by omega, D]
                rw [this]
                have hli2 := hli
                rw [Array.getD_eq_getD_getElem?] at hli2
                simp [upd, hli2]
              · have := ihn (by omega)
                have e2 : List.countP (fun k => !upd D i k) [n] = List.countP (fun k => !listed.getD k true) [n] := by
                  simp [upd, show n ≠ i by omega, D]
                omega
          exact gen all.size his
        omega
      · intro k ok hok' hk ed hed hb
        rw [congrFun hD' ed.on]
        rw [congrFun hD' k] at hk
        simp only [upd]
        by_cases hone : ed.on = i
        · rw [if_pos hone]
        · rw [if_neg hone]
          simp only [upd] at hk
          by_cases hki : k = i
          · subst hki
            rw [ho] at hok'; cases hok'
            have hlt := (hsp k o (by simpa using ho)).1 ed hed hb
            have := hedges ed hed hb
            rw [getDf _ _ hsz (by omega)] at this
            exact this
          · rw [if_neg hki] at hk
            exact hcl k ok hok' hk ed hed hb
      · rw [eT, eM, ← hdst]; exact hs'
      · rw [eM]; exact hc'
      · intro k ek hk hlk q hq
        have hki : k ≠ i := by
          intro h; subst h
          rw [congrFun hD' k] at hlk; simp [upd] at hlk
        have hlk' : listed.getD k true = false := by
          rw [congrFun hD' k] at hlk; simpa [upd, hki, D] using hlk
        obtain ⟨ok, hok'⟩ := hr.get hk
        have hks : k < all.size := (Array.getElem?_eq_some_iff.1 hok').1
        obtain ⟨h1, _, _, _, _, h6⟩ := hr.at hk hok'
        refine he'.dom _ (hfr k ek hk hlk' q hq) ?_
        rcases Nat.lt_or_gt_of_ne hki with hlt | hgt
        · left
          have := hr.mono (k + 1) i hlt (by omega)
          omega
        · right
          have := hr.mono (i + 1) k hgt (by omega)
          omega
      · intro id hid
        refine he'.dom id (hd id hid) (.inr ?_)
        have := hr.mono (i + 1) all.size (by omega) (Nat.le_refl _)
        omega
    unfold wpOpIn
    rw [ho]
    simp only
    cases hst with
    | skip hg hd0 =>
      rw [if_neg (by rw [hg β F w a htmp']; simp)]
      have he0 : Eff e.d e.nid β F w undef β F w := by rw [hd0]; exact Eff.pure (x := .top) (rd := []) (.top undef)
      exact ⟨fun f _ => hW.fn f, next β F _ w undef (by rw [hd0]; exact fits_empty) he0 rfl⟩
    | ran hg hsd hf hnd =>
      rw [if_pos (hg β F w a htmp')]
      refine hW.oper hnd ?_
      have hnew : ∀ {id sz els}, memOf (S i).m id = some (.row sz els true) → ¬ e.new id := by
        intro id sz els h1 h2
        have := hf.fresh (id - (S i).m.length) (by have := h2.1; have := h2.2; omega)
        rw [show (S i).m.length + (id - (S i).m.length) = id by have := h2.1; omega, h1] at this
        cases this
      have wcase : ∀ x, e.d.wr = some x → (foldC (En.mAct x.id) es D (memOf s.m x.id) = memOf (S i).m x.id) ∨ oalike (memOf (S i).m x.id) (foldC (En.mAct x.id) es D (memOf s.m x.id)) := by
        intro x hx
        by_cases hs' : ∃ q, e.sole x.id q
        · obtain ⟨q, hq⟩ := hs'; exact .inr (hmemA _ q hq)
        · exact .inl (hmemE _ (.inl (.inl (mem_tch_wr hx))) (fun q hq => hs' ⟨q, hq⟩))
      have wcase' : ∀ x B, e.d.wr = some x → memOf (S i).m x.id = some B → ∃ B', foldC (En.mAct x.id) es D (memOf s.m x.id) = some B' ∧ B.alike B' := by
        intro x B hx hB
        rcases wcase x hx with h | h
        · exact ⟨B, by rw [h, hB], B.alike_refl⟩
        · rw [hB] at h; exact oalike_some h
      have nsk : ∀ id q, id ∈ e.d.kill → ¬ e.sole id q := fun id q h hs => hs.2.1 h
      have nsf : ∀ id q, id ∈ e.d.frz → ¬ e.sole id q := fun id q h hs => hs.2.2.1 h
      have nsr : ∀ id q, id ∈ e.d.rd → ¬ e.sole id q := fun id q h hs => hs.2.2.2.2 h
      have nsn : ∀ id q, e.new id → ¬ e.sole id q := fun id q h hs => hs.2.2.2.1 h
      have hfD : Fits e.d e.nid (fun id => foldC (En.mAct id) es D (memOf s.m id)) := by
        refine ⟨?_, ?_, ?_, ?_, ?_, ?_, hf.apart, hf.wk⟩
        · intro id j vs hw
          obtain ⟨cs, h1, h2⟩ := hf.box id j vs hw
          obtain ⟨B', h3, h4⟩ := wcase' _ _ hw h1
          cases B' with
          | row => exact h4.elim
          | box cs' => exact ⟨cs', h3, by have h4 : cs'.length = cs.length := h4; omega⟩
        · intro id j x hw
          obtain ⟨sz, els, h1, h2⟩ := hf.elem id j x hw
          obtain ⟨B', h3, h4⟩ := wcase' _ _ hw h1
          cases B' with
          | box => exact h4.elim
          | row sz' els' o' =>
            obtain ⟨r1, r2, r3⟩ : sz' = sz ∧ els'.length = els.length ∧ o' = true := h4
            subst r1; subst r3
            exact ⟨sz', els', h3, by omega⟩
        · intro id l hw
          obtain ⟨sz, els, h1, h2⟩ := hf.all id l hw
          obtain ⟨B', h3, h4⟩ := wcase' _ _ hw h1
          cases B' with
          | box => exact h4.elim
          | row sz' els' o' =>
            obtain ⟨r1, r2, r3⟩ : sz' = sz ∧ els'.length = els.length ∧ o' = true := h4
            subst r1; subst r3
            exact ⟨sz', els', h3, by omega⟩
        · intro id hid
          obtain ⟨sz, els, h1⟩ := hf.kill id hid
          exact ⟨sz, els, by rw [← h1]; exact hmemE id (.inl (.inl (mem_tch_kill hid))) (fun q => nsk id q hid)⟩
        · intro id hid
          obtain ⟨sz, els, oo, h1⟩ := hf.frz id hid
          exact ⟨sz, els, oo, by rw [← h1]; exact hmemE id (.inl (.inr (.inl hid))) (fun q => nsf id q hid)⟩
        · intro k hk
          have hn : e.new (e.nid + k) := ⟨by omega, by omega⟩
          show foldC (En.mAct (e.nid + k)) es D (memOf s.m (e.nid + k)) = none
          rw [hmemE _ (.inl (.inr (.inr hn))) (fun q => nsn _ q hn), hnid]
          exact hf.fresh k hk
      have alive : ∀ id B, e.d.names id → memOf (S i).m id = some B → ∃ B', foldC (En.mAct id) es D (memOf s.m id) = some B' := by
        intro id B hn hB
        rcases hn with h | h | h | ⟨x, hx, rfl⟩
        · exact ⟨B, by rw [hmemE id (.inr h) (fun q => nsr id q h), hB]⟩
        · exact ⟨B, by rw [hmemE id (.inl (.inr (.inl h))) (fun q => nsf id q h), hB]⟩
        · exact ⟨B, by rw [hmemE id (.inl (.inl (mem_tch_kill h))) (fun q => nsk id q h), hB]⟩
        · obtain ⟨B', h1, _⟩ := wcase' x B hx hB; exact ⟨B', h1⟩
      refine hsd β F w a _ Q hops hs.mem.lt ?_ ?_ ?_ ?_ (fun v w' β' F' he' => next β' F' _ w' v hfD (by rw [hnid]; exact he') rfl)
      · intro id hid B hB
        have : foldC (En.mAct id) es D (memOf s.m id) = some B := by
          rcases hid with h | h | h
          · rw [hmemE id (.inr h) (fun q => nsr id q h), hB]
          · rw [hmemE id (.inl (.inr (.inl h))) (fun q => nsf id q h), hB]
          · rw [hmemE id (.inl (.inl (mem_tch_kill h))) (fun q => nsk id q h), hB]
        exact hs.mem.ok id B this
      · intro x hx B hB
        obtain ⟨B', h1, h2⟩ := wcase' x B hx hB
        obtain ⟨bi, h3, h4⟩ := hs.mem.ok _ _ h1
        exact ⟨bi, B', h3, h4, h2⟩
      · intro k hk
        rw [← hnid]
        exact hfr i e he hli k hk
      · intro id id' B B' bi bi' hne h1 h2 h3 h4 h5 h6
        obtain ⟨C, hC⟩ := alive id B h3 h1
        obtain ⟨C', hC'⟩ := alive id' B' h4 h2
        exact hs.mem.inj id id' C C' bi bi' hne hC hC' h5 h6
end
end Go.Am

set_option linter.unusedVariables false
namespace Go.Am
noncomputable section
open Go

/-! ### A region that draws its order, carried out once -/
noncomputable def runDK (T : Tab) (C : CallRel) (all : List Oper) (l : List Oper) : List En → ASt → (List En → ASt → Prop) → Prop :=
  List.rec (fun es s k => k es s) (fun o _ ih es s k => stepK T C all o s fun s' d => ih (es ++ [⟨d, s.m.length, o.dst⟩]) s' k) l
theorem runDK_cons (T : Tab) (C : CallRel) (all : List Oper) (o : Oper) (r : List Oper) (es : List En) (s : ASt) (k : List En → ASt → Prop) : runDK T C all (o :: r) es s k = stepK T C all o s fun s' d => runDK T C all r (es ++ [⟨d, s.m.length, o.dst⟩]) s' k := rfl

def soleK (e f : En) (id : Nat) (K : Prop) : Prop :=
  match e.d.wr, f.d.wr with
  | some (.elem a i _), some (.elem b j _) => match Nat.beq a id, Nat.beq b id, contains e.restL id, contains f.restL id with
    | true, true, false, false => i ≠ j ∧ K
    | _, _, _, _ => False
  | _, _ => False
def miK (e f : En) : List Nat → Prop → Prop
  | [], K => K
  | id :: r, K => match contains f.namesL id with
    | false => miK e f r K
    | true => soleK e f id (miK e f r K)
def noActs (e : En) : Bool := match e.actsL with
  | [] => true
  | _ :: _ => false
def indFromK (B : List (List Nat)) (j : Nat) (f : En) : Nat → List En → Prop → Prop
  | _, [], K => K
  | i, e :: r, K => match Nat.ble j i with
    | true => K
    | false => match noActs e, noActs f with
      | true, true => indFromK B j f (i + 1) r K
      | _, _ => match contains (befOf B j) i with
        | false => miK e f e.actsL (miK f e f.actsL (indFromK B j f (i + 1) r K))
        | true => indFromK B j f (i + 1) r K
def indAllK (B : List (List Nat)) (es : List En) : Nat → List En → Prop → Prop
  | _, [], K => K
  | j, f :: r, K => indFromK B j f 0 es (indAllK B es (j + 1) r K)

theorem soleK_spec {e f : En} {id : Nat} {K : Prop} (h : soleK e f id K) : soleP e f id ∧ K := by
  unfold soleK at h
  unfold soleP
  split at h
  · rename_i q1 q2
    try simp only [q1, q2]
    split at h
    · rename_i q3 q4 q5 q6
      try simp only [q3, q4, q5, q6]
      exact h
    · exact h.elim
  · exact h.elim
theorem miK_spec {e f : En} {K : Prop} : ∀ (l : List Nat), miK e f l K → miL e f l ∧ K := by
  intro l
  induction l with
  | nil => intro h; exact ⟨trivial, h⟩
  | cons id r ih =>
    intro h
    simp only [miK] at h
    simp only [miL]
    cases hc : contains f.namesL id with
    | false => simp only [hc] at h; exact ih h
    | true =>
      simp only [hc] at h
      obtain ⟨h1, h2⟩ := soleK_spec h
      obtain ⟨h3, h4⟩ := ih h2
      exact ⟨⟨h1, h3⟩, h4⟩
theorem noActs_spec {e : En} (h : noActs e = true) : e.actsL = [] := by
  unfold noActs at h
  split at h
  · assumption
  · cases h
theorem indepFrom_late {B : List (List Nat)} {j : Nat} {f : En} : ∀ (l : List En) (i : Nat), j ≤ i → indepFrom B j f i l := by
  intro l
  induction l with
  | nil => intro i h; trivial
  | cons e r ih =>
    intro i h
    simp only [indepFrom, show Nat.ble j i = true from Nat.ble_eq_true_of_le h]
    exact ih _ (by omega)
theorem indFromK_spec {B : List (List Nat)} {j : Nat} {f : En} {K : Prop} : ∀ (l : List En) (i : Nat), indFromK B j f i l K → indepFrom B j f i l ∧ K := by
  intro l
  induction l with
  | nil => intro i h; exact ⟨trivial, h⟩
  | cons e r ih =>
    intro i h
    simp only [indFromK] at h
    cases q1 : Nat.ble j i with
    | true =>
      simp only [q1] at h
      exact ⟨indepFrom_late _ _ (Nat.le_of_ble_eq_true q1), h⟩
    | false =>
      simp only [q1] at h
      simp only [indepFrom, q1]
      have rest : (match contains (befOf B j) i with
          | false => miK e f e.actsL (miK f e f.actsL (indFromK B j f (i + 1) r K))
          | true => indFromK B j f (i + 1) r K) → (match contains (befOf B j) i with
          | false => miL e f e.actsL ∧ miL f e f.actsL ∧ indepFrom B j f (i + 1) r
          | true => indepFrom B j f (i + 1) r) ∧ K := by
        intro h
        cases q2 : contains (befOf B j) i <;> simp only [q2] at h
        · obtain ⟨h1, h2⟩ := miK_spec _ h
          obtain ⟨h3, h4⟩ := miK_spec _ h2
          obtain ⟨h5, h6⟩ := ih _ h4
          exact ⟨⟨h1, h3, h5⟩, h6⟩
        · exact ih _ h
      cases q3 : noActs e <;> cases q4 : noActs f <;> simp only [q3, q4] at h
      · cases q2 : contains (befOf B j) i <;> simp only [q2] at rest h <;> exact rest h
      · cases q2 : contains (befOf B j) i <;> simp only [q2] at rest h <;> exact rest h
      · cases q2 : contains (befOf B j) i <;> simp only [q2] at rest h <;> exact rest h
      · obtain ⟨h1, h2⟩ := ih _ h
        cases q2 : contains (befOf B j) i
        · refine ⟨⟨?_, ?_, h1⟩, h2⟩
          · rw [noActs_spec q3]; trivial
          · rw [noActs_spec q4]; trivial
        · exact ⟨h1, h2⟩
theorem indAllK_spec {B : List (List Nat)} {es : List En} {K : Prop} : ∀ (l : List En) (j : Nat), indAllK B es j l K → indepAll B es j l ∧ K := by
  intro l
  induction l with
  | nil => intro j h; exact ⟨trivial, h⟩
  | cons f r ih =>
    intro j h
    simp only [indAllK] at h
    obtain ⟨h1, h2⟩ := indFromK_spec _ _ h
    obtain ⟨h3, h4⟩ := ih _ h2
    exact ⟨⟨h1, h3⟩, h4⟩

/-- The same by computing one truth value: no two that may change places lay hands on one name. -/
def miB (f : En) : List Nat → Bool
  | [] => true
  | id :: r => match contains f.namesL id with
    | false => miB f r
    | true => false
def indFromB (B : List (List Nat)) (j : Nat) (f : En) : Nat → List En → Bool
  | _, [] => true
  | i, e :: r => match Nat.ble j i with
    | true => true
    | false => match noActs e, noActs f with
      | true, true => indFromB B j f (i + 1) r
      | _, _ => match contains (befOf B j) i with
        | false => match miB f e.actsL, miB e f.actsL with
          | true, true => indFromB B j f (i + 1) r
          | _, _ => false
        | true => indFromB B j f (i + 1) r
def indAllB (B : List (List Nat)) (es : List En) : Nat → List En → Bool
  | _, [] => true
  | j, f :: r => match indFromB B j f 0 es with
    | true => indAllB B es (j + 1) r
    | false => false
theorem miB_spec {e f : En} {K : Prop} (hK : K) : ∀ (l : List Nat), miB f l = true → miK e f l K := by
  intro l
  induction l with
  | nil => intro _; exact hK
  | cons id r ih =>
    intro h
    simp only [miB] at h
    simp only [miK]
    cases hc : contains f.namesL id <;> simp only [hc] at h
    · exact ih h
    · cases h
theorem indFromB_spec {B : List (List Nat)} {j : Nat} {f : En} {K : Prop} (hK : K) : ∀ (l : List En) (i : Nat), indFromB B j f i l = true → indFromK B j f i l K := by
  intro l
  induction l with
  | nil => intro i _; exact hK
  | cons e r ih =>
    intro i h
    simp only [indFromB] at h
    simp only [indFromK]
    cases h1 : Nat.ble j i <;> simp only [h1] at h
    · have hh : (match contains (befOf B j) i with
          | false => match miB f e.actsL, miB e f.actsL with
            | true, true => indFromB B j f (i + 1) r
            | _, _ => false
          | true => indFromB B j f (i + 1) r) = true → (match contains (befOf B j) i with
          | false => miK e f e.actsL (miK f e f.actsL (indFromK B j f (i + 1) r K))
          | true => indFromK B j f (i + 1) r K) := by
        intro h
        cases h4 : contains (befOf B j) i <;> simp only [h4] at h
        · cases h5 : miB f e.actsL <;> cases h6 : miB e f.actsL <;> simp only [h5, h6] at h
          · cases h
          · cases h
          · cases h
          · exact miB_spec (miB_spec (ih _ h) _ h6) _ h5
        · exact ih _ h
      cases q1 : noActs e <;> cases q2 : noActs f <;> simp only [q1, q2] at h
      · exact hh h
      · exact hh h
      · exact hh h
      · exact ih _ h
    · exact hK
theorem indAllB_spec {B : List (List Nat)} {es : List En} {K : Prop} (hK : K) : ∀ (l : List En) (j : Nat), indAllB B es j l = true → indAllK B es j l K := by
  intro l
  induction l with
  | nil => intro j _; exact hK
  | cons f r ih =>
    intro j h
    simp only [indAllB] at h
    split at h
    · rename_i h1; exact indFromB_spec (ih _ h) _ _ h1
    · cases h
def indOr (B : List (List Nat)) (es : List En) : Prop := indAllB B es 0 es = true ∨ indAllK B es 0 es True
theorem indOr_spec {B : List (List Nat)} {es : List En} (h : indOr B es) : indepAll B es 0 es := by
  rcases h with h | h
  · exact (indAllK_spec _ _ (indAllB_spec (K := True) trivial _ _ h)).1
  · exact (indAllK_spec _ _ h).1

def regionK (T : Tab) (C : CallRel) (all : Array Oper) (draw : Bool) (s : ASt) (K : ASt → Prop) : Prop :=
  match draw with
  | false => runK T C all.toList all.toList s K
  | true => match drawOK all with
    | true => runDK T C all.toList all.toList [] s fun es s' => indAllK (befs all.toList []) es 0 es (K s')
    | false => False

structure Step1 (P : Program) (all : Array Oper) (o : Oper) (e : En) (s s' : ASt) : Prop where
  nid : e.nid = s.m.length
  dst : e.dst = o.dst
  step : Stepped P all o s e.d
  t : s'.t = s.put e.dst e.d.v
  m : memOf s'.m = e.d.mem e.nid (memOf s.m)
  l : s'.m.length = s.m.length + e.d.news.length

theorem runDK_told {P : Program} {T : Tab} (hT : TabOK P T) {C : CallRel} (hC : CallsOK P C) {all : Array Oper} {k : List En → ASt → Prop} : ∀ (r : List Oper) (es : List En) (s : ASt), runDK T C all.toList r es s k →
    ∃ (es2 : List En) (S : Nat → ASt), S 0 = s ∧ es2.length = r.length ∧ (∀ q o, r[q]? = some o → ∃ e, es2[q]? = some e ∧ Step1 P all o e (S q) (S (q + 1))) ∧ k (es ++ es2) (S r.length) := by
  intro r
  induction r with
  | nil => intro es s h; exact ⟨[], fun _ => s, rfl, rfl, fun q o h => by simp at h, by simpa using (show k es s from h)⟩
  | cons o r ih =>
    intro es s h
    simp only [runDK_cons] at h
    obtain ⟨d, m', h1, h2, h3, h4⟩ := stepK_spec hT hC h
    obtain ⟨es2, S, g1, g2, g3, g4⟩ := ih _ _ h2
    refine ⟨⟨d, s.m.length, o.dst⟩ :: es2, fun q => match q with | 0 => s | q + 1 => S q, rfl, by simp [g2], ?_, by simpa using g4⟩
    intro q o' ho
    cases q with
    | zero =>
      simp at ho; subst ho
      exact ⟨_, rfl, rfl, rfl, h1, by simp [g1], by simp [g1, h4], by simp [g1, h3]⟩
    | succ q =>
      obtain ⟨e, q1, q2⟩ := g3 q o' (by simpa using ho)
      exact ⟨e, by simpa using q1, q2⟩

theorem RepA.drawn {β : Pl} {F : Nat → Prop} {w : World} {x : AV} {v : Value} (h : RepA β F w x v) (n : Nat) : RepA β F { w with drawn := n } x v :=
  RepA.mono (β := β) (β' := β) (F := F) (F' := F) (w := w) (w' := { w with drawn := n }) (fun _ _ h => h) (fun _ h => h) (fun _ _ => rfl) h
theorem BlkOK.drawn {β : Pl} {F : Nat → Prop} {w : World} {bi : BI} {B : Blk} (h : BlkOK β F w bi B) (n : Nat) : BlkOK β F { w with drawn := n } bi B :=
  BlkOK.mono (β := β) (β' := β) (F := F) (F' := F) (w := w) (w' := { w with drawn := n }) (fun _ _ h => h) (fun _ h => h) (fun _ _ => rfl) (fun _ => rfl) (fun _ h => h) h

theorem drawn_sound {G : Fence} (hW : Wide G) {n : Nat} {P : Program} {T : Tab} (hT : TabOK P T) {C : CallRel} (hC : CallsOK P C) (hmix : P.follows .mixedOrders = true) {id : Nat} {all : Array Oper} {K : Exit → ASt → Prop} {Ok F0 : Nat → Prop} {β0 : Pl} {w0 : World} {s : ASt} {β : Pl} {F : Nat → Prop} {a : Act} {w : World}
    (hok : drawOK all = true) {k : List En → ASt → Prop} (h : runDK T C all.toList all.toList [] s k) (hk : ∀ es s', k es s' → indepAll (befs all.toList []) es 0 es ∧ K .normal s') (hs : Sim s β F a w) (hc : Ctx Ok F0 β0 w0 s β F w) : (Code.region id all true).wpIn G n P (Post Ok F0 β0 w0 K) a w := by
  refine wpIn_region_any hmix ?_
  obtain ⟨es, S, g1, g2, g3, g4⟩ := runDK_told hT hC _ _ _ h
  rw [List.nil_append] at g4
  obtain ⟨g5, g6⟩ := hk _ _ g4
  have told : Told P all s es S := ⟨g1, by simpa using g2, fun i o ho => by
    obtain ⟨e, q1, q2⟩ := g3 i o (by simpa using ho)
    exact ⟨e, q1, q2.nid, q2.dst, q2.step, q2.t, q2.m, q2.l⟩⟩
  have hs' : Sim s β F a { w with drawn := w.drawn + 1 } := ⟨hs.size, fun t x hx => (hs.tmps t x hx).drawn _, ⟨fun id B hB => by
      obtain ⟨bi, q1, q2⟩ := hs.mem.ok id B hB
      exact ⟨bi, q1, q2.drawn _⟩, hs.mem.inj, hs.mem.lt⟩, hs.dom, hs.defers⟩
  have hc' : Ctx Ok F0 β0 w0 s β F { w with drawn := w.drawn + 1 } := ⟨hc.os, hc.tape, hc.output, hc.size, hc.keep, hc.row, hc.ext, hc.Fm, hc.Fn⟩
  have e0 : ∀ k, (Array.replicate all.size false).getD k true = false → k < all.size := fun k hk => by
    refine Nat.lt_of_not_le fun hle => ?_
    simp [Array.getD, show ¬ k < all.size by omega] at hk
  have e1 : ∀ {k e}, es[k]? = some e → (Array.replicate all.size false).getD k true = false := fun {k e} hk => by
    have : k < all.size := by
      have := (List.getElem?_eq_some_iff.1 hk).1
      rw [g2] at this; simpa using this
    simp [this]
  have fold0 : ∀ {X : Type} (act : En → X → X) (x : X), foldC act es (fun k => (Array.replicate all.size false).getD k true) x = x := fun act x => by
    rw [foldC_agree act es _ (fun _ => false) x (fun k e hk hne => by rw [e1 hk] at hne; exact absurd rfl hne), foldC_none]
  have g7 : K .normal (S all.size) := by
    have : all.toList.length = all.size := by simp
    rw [← this]; exact g6
  refine any_order hW told hok g5 (fun β' F' a' w' h1 h2 => ⟨_, β', F', g7, h1, h2⟩) _ _ β F a _ (by simp) ?_ ?_ ?_ ?_ ?_ ?_
  · exact Nat.le_trans List.countP_le_length (by simp)
  · intro k o ho hk
    have := (Array.getElem?_eq_some_iff.1 ho).1
    simp [this] at hk
  · simp only [fold0]; exact hs'.f
  · simp only [fold0]; exact hc'.f
  · intro i e he _ q hq
    obtain ⟨o, ho⟩ := told.get he
    obtain ⟨q1, _⟩ := told.at he ho
    refine hs.dom _ ?_
    have := told.mono 0 i (by omega) (by have := (Array.getElem?_eq_some_iff.1 ho).1; omega)
    rw [told.start] at this
    omega
  · intro id hid
    refine hs.dom _ ?_
    have := told.mono 0 all.size (by omega) (Nat.le_refl _)
    rw [told.start] at this
    omega
theorem regionK_sound {G : Fence} (hW : Wide G) {n : Nat} {P : Program} {T : Tab} (hT : TabOK P T) {C : CallRel} (hC : CallsOK P C) (hmix : P.follows .mixedOrders = true) {id : Nat} {all : Array Oper} {draw : Bool} {K : Exit → ASt → Prop} {Ok F0 : Nat → Prop} {β0 : Pl} {w0 : World} {s : ASt} {β : Pl} {F : Nat → Prop} {a : Act} {w : World}
    (h : regionK T C all draw s (K .normal)) (hs : Sim s β F a w) (hc : Ctx Ok F0 β0 w0 s β F w) : (Code.region id all draw).wpIn G n P (Post Ok F0 β0 w0 K) a w := by
  cases draw with
  | false =>
    refine wpIn_region ?_
    have := runK_sound (n := n) hW (hC := hC) (K := K) (Ok := Ok) (F0 := F0) (β0 := β0) (w0 := w0) hT all.toList 0 s β F a w (by simp) h hs hc
    rw [List.range_eq_range']
    simpa using this
  | true =>
    simp only [regionK] at h
    split at h
    case h_2 => exact h.elim
    rename_i hok
    exact drawn_sound hW hT hC hmix hok h (fun es s' q => indAllK_spec _ _ q) hs hc
end
end Go.Am
