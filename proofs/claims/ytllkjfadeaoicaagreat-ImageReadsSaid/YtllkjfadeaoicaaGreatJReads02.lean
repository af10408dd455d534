/- Lemmas and walks: Plain lemmas: whatever commands come, a shard stays one that can be made of its whole. Plain lemmas: what was told is read again. Plain lemmas: a shard that was told few commands is small, and so is its whole. No program in sight. Plain lemmas: the sum of bytes, bit by bit and by a table. Plain law behind ImageTurned: an image of which one byte is another one has another sum. No program in sight. Plain lemmas: what image.Read reads; what was told is read again. No program in sight. -/
import Derived.Test.YtllkjfadeaoicaaGreatJReads01
namespace Go.Proofs.YtllkjfadeaoicaaGreat

structure LiveP (lines : List Line) (dones : List Done) (x : Live) : Prop where
  tx : x.last.tx = x.tx
  attempt : x.last.attempt = x.attempt
  kind : 2 ≤ x.last.kind ∧ x.last.kind ≤ 4
  cmd : cmdOk x.last = true
  over : (match doneOf dones x.tx with | some d => decide (x.attempt ≤ d.attempt) | none => false) = false
  writes : ∀ w ∈ x.writes, holdsL lines x.tx w.key = 2 ∧ w.value.length ≤ 32 ∧ (w.has = false → w.value = [])
  rises : Rises Write.key ltB x.writes
structure Inv (s : Shard) : Prop where
  clock : 0 ≤ s.clock ∧ s.clock ≤ 1099511627776
  moment : 0 ≤ s.moment ∧ s.moment ≤ 1099511627776
  cells : CellsP s.cells
  last : s.cells.last ≤ s.moment
  lines : LinesP s.lines
  rows : RowsP s.rows
  dones : ∀ d ∈ s.dones, 0 ≤ d.tx ∧ d.tx ≤ 1048576 ∧ 0 ≤ d.attempt ∧ d.attempt ≤ 1048576
  donesRise : Rises Done.tx ltI s.dones
  lives : ∀ x ∈ s.lives, LiveP s.lines s.dones x
  livesRise : Rises Live.tx ltI s.lives
  owners : ∀ o, (∃ x ∈ s.lives, x.tx = o) ↔ inLines s.lines o

theorem inv_new : Inv Shard.new := by
  refine ⟨by decide, by decide, ⟨fun x hx => (by cases hx), List.Pairwise.nil, by decide, .inl ⟨rfl, rfl⟩⟩, by decide, ⟨fun x hx => (by cases hx), List.Pairwise.nil⟩, ⟨fun x hx => (by cases hx), List.Pairwise.nil⟩, fun x hx => (by cases hx), List.Pairwise.nil, fun x hx => (by cases hx), List.Pairwise.nil, fun o => ?_⟩
  constructor
  · rintro ⟨x, hx, _⟩; cases hx
  · rintro ⟨x, hx, _⟩; cases hx

theorem inv_whole {s : Shard} (h : Inv s) : fromW (wholeS s) = some s := by
  have hl := h.cells.lastOf
  unfold fromW
  rw [if_pos]
  · simp only [wholeS, hl]
  · unfold wholeS wholeOk livesOk donesOk
    simp only [Bool.and_eq_true, decide_eq_true_eq, List.all_eq_true]
    refine ⟨⟨⟨⟨⟨⟨⟨⟨⟨h.clock.1, h.clock.2⟩, h.moment.1⟩, h.moment.2⟩, h.cells.ok⟩, (linesOk_iff _).2 h.lines⟩, (rowsOk_iff _).2 h.rows⟩, by rw [hl]; exact h.last⟩, ⟨fun d hd => ?_, h.donesRise.imp fun {a b} g => by simpa [ltI] using g⟩⟩, ?_, fun x hx => ?_⟩
    · obtain ⟨a, b, c, d⟩ := h.dones d hd; exact ⟨⟨⟨a, b⟩, c⟩, d⟩
    · refine rises_ext (key := id) lt_I ?_ (owners_rises _) fun x => ?_
      · exact List.Pairwise.map _ (fun a b g => g) h.livesRise
      · rw [mem_owners, ← h.owners x, List.mem_map]
    · obtain ⟨a, b, c, d, e, f, g⟩ := h.lives x hx
      unfold liveOk writesOk
      simp only [Bool.and_eq_true, decide_eq_true_eq, List.all_eq_true, Bool.not_eq_true', Bool.or_eq_true, beq_iff_eq]
      refine ⟨⟨⟨⟨⟨⟨a, b⟩, c.1⟩, c.2⟩, d⟩, e⟩, fun w hw => ?_, g⟩
      obtain ⟨p, q, r⟩ := f w hw
      refine ⟨⟨p, q⟩, ?_⟩
      cases hh : w.has with
      | true => exact .inl rfl
      | false => exact .inr (r hh)

theorem setLive_eq (l : List Live) (x : Live) : setLive l x = upsert Live.tx ltI x l := rfl
theorem setDone_eq (l : List Done) (x : Done) : setDone l x = upsert Done.tx ltI x l := rfl
theorem liveOf_iff {l : List Live} (h : Rises Live.tx ltI l) (tx : Int) (x : Live) : liveOf l tx = some x ↔ x ∈ l ∧ x.tx = tx := find_iff lt_I h tx x _ (fun z => by simp)
theorem liveOf_none {l : List Live} (tx : Int) : liveOf l tx = none ↔ ∀ x ∈ l, x.tx ≠ tx := by
  unfold liveOf; rw [List.find?_eq_none]; simp
theorem doneOf_iff {l : List Done} (h : Rises Done.tx ltI l) (tx : Int) (x : Done) : doneOf l tx = some x ↔ x ∈ l ∧ x.tx = tx := find_iff lt_I h tx x _ (fun z => by simp)
theorem doneOf_set {l : List Done} (h : Rises Done.tx ltI l) (d : Done) (tx : Int) : doneOf (setDone l d) tx = if tx = d.tx then some d else doneOf l tx := by
  rw [setDone_eq]
  split
  · rename_i e
    exact (doneOf_iff (upsert_rises lt_I h d) tx d).2 ⟨(mem_upsert lt_I h d d).2 (.inl rfl), e.symm⟩
  · rename_i e
    cases hd : doneOf l tx with
    | none =>
      unfold doneOf at hd ⊢
      rw [List.find?_eq_none] at hd ⊢
      intro x hx
      rcases (mem_upsert lt_I h d x).1 hx with rfl | ⟨hx, _⟩
      · simpa using fun g => e g.symm
      · exact hd x hx
    | some x =>
      obtain ⟨a, b⟩ := (doneOf_iff h tx x).1 hd
      exact (doneOf_iff (upsert_rises lt_I h d) tx x).2 ⟨(mem_upsert lt_I h d x).2 (.inr ⟨a, fun g => e (b.symm.trans g)⟩), b⟩

/-- what a command that may be says -/
theorem cmdOk_tx {c : Cmd} (h : cmdOk c = true) (h9 : c.kind ≠ 9) : 0 ≤ c.tx ∧ c.tx ≤ 1048576 ∧ 0 ≤ c.attempt ∧ c.attempt ≤ 1048576 := by
  unfold cmdOk at h
  rw [if_neg h9] at h
  split at h
  · cases h
  · split at h
    · cases h
    · split at h
      · cases h
      · split at h
        · cases h
        · simp only [Bool.and_eq_true, decide_eq_true_eq] at h
          obtain ⟨⟨⟨a, b⟩, c⟩, d⟩ := h
          exact ⟨a, b, c, d⟩
theorem cmdOk_key {c : Cmd} (h : cmdOk c = true) (hk : c.kind = 2 ∨ c.kind = 3 ∨ c.kind = 4) : 0 ≤ c.op ∧ c.op ≤ 1048576 ∧ c.key.length ≤ 16 := by
  unfold cmdOk at h
  rw [if_neg (by omega), if_neg (by omega)] at h
  split at h
  · cases h
  · rename_i g
    simp only [hk, true_and, not_or] at g
    omega
theorem cmdOk_kind {c : Cmd} (h : cmdOk c = true) : 1 ≤ c.kind ∧ c.kind ≤ 9 := by
  unfold cmdOk at h
  split at h
  · omega
  · split at h
    · cases h
    · split at h
      · cases h
      · split at h
        · cases h
        · omega
theorem cmdOk_mode {c : Cmd} (h : cmdOk c = true) (hk : c.kind = 2) : c.mode = 1 ∨ c.mode = 2 := by
  unfold cmdOk at h
  rw [if_neg (by omega), if_neg (by omega)] at h
  split at h
  · cases h
  · split at h
    · cases h
    · split at h
      · cases h
      · rename_i g
        rw [← isMode_iff]
        cases hm : isMode c.mode with
        | true => rfl
        | false => exact absurd (.inl ⟨hk, hm⟩) g
theorem cmdOk_value {c : Cmd} (h : cmdOk c = true) (hk : c.kind = 4) (hy : c.yes = true) : c.value.length ≤ 32 := by
  unfold cmdOk at h
  rw [if_neg (by omega), if_neg (by omega)] at h
  split at h
  · cases h
  · split at h
    · cases h
    · split at h
      · cases h
      · rename_i g
        simp only [hk, hy, true_and, not_or] at g
        omega

theorem inv_lines_lives {s : Shard} (h : Inv s) {x : Live} (hx : x ∈ s.lives) {lines : List Line} (hs : ∀ k, holdsL s.lines x.tx k = 2 → holdsL lines x.tx k = 2) : LiveP lines s.dones x := by
  obtain ⟨a, b, c, d, e, f, g⟩ := h.lives x hx
  exact ⟨a, b, c, d, e, fun w hw => ⟨hs _ (f w hw).1, (f w hw).2⟩, g⟩

theorem late_zero {s : Shard} {c : Cmd} (h : lateS s c = 0) : overS s c.tx c.attempt = false ∧ ∀ x, liveOf s.lives c.tx = some x → x.attempt = c.attempt := by
  unfold lateS at h
  split at h
  · rename_i g
    constructor
    · cases ho : overS s c.tx c.attempt with
      | false => rfl
      | true => rw [ho] at h; simp at h
    · intro x hx; rw [hx] at g; cases g
  · rename_i x g
    split at h
    · omega
    · rename_i g1
      split at h
      · omega
      · rename_i g2
        refine ⟨by cases ho : overS s c.tx c.attempt with | false => rfl | true => exact absurd (.inl ho) g1, fun y hy => ?_⟩
        rw [hy] at g
        cases g
        have := not_or.1 g1
        omega

theorem inv_lock {s : Shard} (h : Inv s) {c : Cmd} (hc : cmdOk c = true) (hk : c.kind = 2) (hl : lateS s c = 0) : Inv (lockS s c).1 := by
  obtain ⟨t1, t2, t3, t4⟩ := cmdOk_tx hc (by omega)
  obtain ⟨k1, k2, k3⟩ := cmdOk_key hc (.inl hk)
  obtain ⟨a1, a2, a3⟩ := askL_ok h.lines t1 k3 (cmdOk_mode hc hk)
  obtain ⟨l1, l2⟩ := late_zero hl
  unfold lockS
  simp only
  generalize hws : liveWrites (liveOf s.lives c.tx) = ws
  have hw : (∀ w ∈ ws, holdsL s.lines c.tx w.key = 2 ∧ w.value.length ≤ 32 ∧ (w.has = false → w.value = [])) ∧ Rises Write.key ltB ws := by
    cases hx : liveOf s.lives c.tx with
    | none => rw [hx] at hws; subst hws; exact ⟨fun w hw => (by cases hw), List.Pairwise.nil⟩
    | some x =>
      rw [hx] at hws; subst hws
      obtain ⟨p, q⟩ := (liveOf_iff h.livesRise _ _).1 hx
      have := h.lives x p
      rw [← q]
      exact ⟨this.writes, this.rises⟩
  rw [setLive_eq]
  refine ⟨h.clock, h.moment, h.cells, h.last, a1, h.rows, h.dones, h.donesRise, fun x hx => ?_, upsert_rises lt_I h.livesRise _, fun o => ?_⟩
  · rcases (mem_upsert lt_I h.livesRise _ x).1 hx with rfl | ⟨hx, _⟩
    · exact ⟨rfl, rfl, ⟨by simp only; omega, by simp only; omega⟩, hc, l1, fun w hw' => ⟨a3 _ _ (hw.1 w hw').1, (hw.1 w hw').2⟩, hw.2⟩
    · exact inv_lines_lives h hx fun k g => a3 _ _ g
  · rw [a2 o, ← h.owners o]
    simp only [mem_upsert lt_I h.livesRise]
    constructor
    · rintro ⟨x, rfl | ⟨hx, _⟩, e⟩
      · exact .inl e.symm
      · exact .inr ⟨x, hx, e⟩
    · rintro (rfl | ⟨x, hx, e⟩)
      · exact ⟨_, .inl rfl, rfl⟩
      · by_cases g : x.tx = c.tx
        · exact ⟨_, .inl rfl, by simp only; omega⟩
        · exact ⟨x, .inr ⟨hx, g⟩, e⟩

/-- a live one that turns, but not its transaction -/
theorem inv_live {s : Shard} (h : Inv s) {x y : Live} (hx : x ∈ s.lives) (hy : y.tx = x.tx) (hp : LiveP s.lines s.dones y) : Inv { s with lives := setLive s.lives y } := by
  rw [setLive_eq]
  refine ⟨h.clock, h.moment, h.cells, h.last, h.lines, h.rows, h.dones, h.donesRise, fun z hz => ?_, upsert_rises lt_I h.livesRise _, fun o => ?_⟩
  · rcases (mem_upsert lt_I h.livesRise _ z).1 hz with rfl | ⟨hz, _⟩
    · exact hp
    · exact h.lives z hz
  · rw [← h.owners o]
    simp only [mem_upsert lt_I h.livesRise]
    constructor
    · rintro ⟨z, rfl | ⟨hz, _⟩, e⟩
      · exact ⟨x, hx, hy.symm.trans e⟩
      · exact ⟨z, hz, e⟩
    · rintro ⟨z, hz, e⟩
      by_cases g : z.tx = y.tx
      · exact ⟨y, .inl rfl, g.symm.trans e⟩
      · exact ⟨z, .inr ⟨hz, g⟩, e⟩

theorem inv_get {s : Shard} (h : Inv s) {c : Cmd} (hc : cmdOk c = true) (hk : c.kind = 3) (hl : lateS s c = 0) : Inv (getS s c).1 := by
  unfold getS
  cases hx : liveOf s.lives c.tx with
  | none => exact h
  | some x =>
    simp only
    obtain ⟨p, q⟩ := (liveOf_iff h.livesRise _ _).1 hx
    obtain ⟨l1, l2⟩ := late_zero hl
    have la := l2 x hx
    obtain ⟨a, b, d, e, f, g, i⟩ := h.lives x p
    split
    · exact h
    · exact inv_live h p rfl ⟨q.symm, la.symm, ⟨by simp only; omega, by simp only; omega⟩, hc, f, g, i⟩

theorem putW_eq (l : List Write) (w : Write) : putW l w = upsert Write.key ltB w l := by
  have e : writeIs l w.key = decide ((l[before Write.key ltB w.key l]?.map Write.key) = some w.key) := by
    rw [Bool.eq_iff_iff]; unfold writeIs; simp [writeAt, before]
  unfold putW upsert
  rw [e]
  by_cases h : (l[before Write.key ltB w.key l]?.map Write.key) = some w.key
  · rw [if_pos h, decide_eq_true h]; rfl
  · rw [if_neg h, decide_eq_false h]; rfl

theorem inv_put {s : Shard} (h : Inv s) {c : Cmd} (hc : cmdOk c = true) (hk : c.kind = 4) (hl : lateS s c = 0) : Inv (putS s c).1 := by
  unfold putS
  cases hx : liveOf s.lives c.tx with
  | none => exact h
  | some x =>
    simp only
    obtain ⟨p, q⟩ := (liveOf_iff h.livesRise _ _).1 hx
    obtain ⟨l1, l2⟩ := late_zero hl
    have la := l2 x hx
    obtain ⟨a, b, d, e, f, g, i⟩ := h.lives x p
    split
    · exact h
    · rename_i hh
      have hh2 : holdsL s.lines c.tx c.key = 2 := Decidable.not_not.1 hh
      rw [putW_eq]
      refine inv_live h p rfl ⟨q.symm, la.symm, ⟨by simp only; omega, by simp only; omega⟩, hc, f, fun w hw => ?_, upsert_rises lt_B i _⟩
      rcases (mem_upsert lt_B i _ w).1 hw with rfl | ⟨hw, _⟩
      · refine ⟨by simp only; rw [q]; exact hh2, ?_, fun g => ?_⟩
        · simp only; split
          · exact cmdOk_value hc hk (by assumption)
          · simp
        · simp only at g ⊢; rw [g]; rfl
      · exact g w hw

theorem fold_put {m : Int} (h1 : 1 ≤ m) (h2 : m ≤ 1099511627776) : ∀ (ws : List Write) (cs : Cells), CellsP cs → cs.last ≤ m → (∀ w ∈ ws, w.key.length ≤ 16 ∧ w.value.length ≤ 32) →
    CellsP (ws.foldl (fun cs w => (putCell cs w.key w.value w.has m).1) cs) ∧ (ws.foldl (fun cs w => (putCell cs w.key w.value w.has m).1) cs).last ≤ m
  | [], cs, h, hl, _ => ⟨h, hl⟩
  | w :: ws, cs, h, hl, hw => by
    rw [List.foldl_cons]
    obtain ⟨a, b⟩ := hw w (List.mem_cons_self ..)
    obtain ⟨p, q⟩ := putCell_ok h (has := w.has) a b h1 h2 hl
    exact fold_put h1 h2 ws _ p (by omega) fun z hz => hw z (List.mem_cons_of_mem _ hz)

theorem holds_key {ls : List Line} (h : LinesP ls) {o : Int} {k : Bs} (hh : holdsL ls o k = 2) : k.length ≤ 16 := by
  unfold holdsL at hh
  by_cases hex : ∃ z ∈ ls, z.key = k
  · obtain ⟨z, hz, rfl⟩ := hex
    exact (h.each z hz).1.key
  · rw [lineOf_none h (fun z hz e => hex ⟨z, hz, e⟩)] at hh
    simp [modeOf_nil] at hh

theorem over_set {s : Shard} (h : Inv s) {c : Cmd} {x : Live} (hx : x ∈ s.lives) (hn : x.tx = c.tx → c.attempt < x.attempt) :
    (match doneOf (setDone s.dones ⟨c.tx, c.attempt⟩) x.tx with | some d => decide (x.attempt ≤ d.attempt) | none => false) = false := by
  rw [doneOf_set h.donesRise]
  by_cases e : x.tx = c.tx
  · rw [if_pos e]; simp only [decide_eq_false_iff_not]; have := hn e; omega
  · rw [if_neg e]; exact (h.lives x hx).over

theorem dones_set {s : Shard} (h : Inv s) {c : Cmd} (hc : 0 ≤ c.tx ∧ c.tx ≤ 1048576 ∧ 0 ≤ c.attempt ∧ c.attempt ≤ 1048576) :
    (∀ d ∈ setDone s.dones ⟨c.tx, c.attempt⟩, 0 ≤ d.tx ∧ d.tx ≤ 1048576 ∧ 0 ≤ d.attempt ∧ d.attempt ≤ 1048576) ∧ Rises Done.tx ltI (setDone s.dones ⟨c.tx, c.attempt⟩) := by
  rw [setDone_eq]
  refine ⟨fun d hd => ?_, upsert_rises lt_I h.donesRise _⟩
  rcases (mem_upsert lt_I h.donesRise _ d).1 hd with rfl | ⟨hd, _⟩
  · exact hc
  · exact h.dones d hd

theorem inv_finish {s : Shard} (h : Inv s) {c : Cmd} (hc : cmdOk c = true) (hk : c.kind = 7) : Inv (finishS s c).1 := by
  have ht := cmdOk_tx hc (by omega)
  obtain ⟨d1, d2⟩ := dones_set h ht
  unfold finishS
  split
  · exact h
  · cases hx : liveOf s.lives c.tx with
    | none =>
      simp only
      have hn := (liveOf_none _).1 hx
      refine ⟨h.clock, h.moment, h.cells, h.last, h.lines, h.rows, d1, d2, fun x hx => ?_, h.livesRise, h.owners⟩
      obtain ⟨a, b, d, e, f, g, i⟩ := h.lives x hx
      exact ⟨a, b, d, e, over_set h hx fun e => absurd e (hn x hx), g, i⟩
    | some y =>
      simp only
      obtain ⟨p, q⟩ := (liveOf_iff h.livesRise _ _).1 hx
      split
      · exact h
      · rename_i g1
        split
        · rename_i g2
          refine ⟨h.clock, h.moment, h.cells, h.last, h.lines, h.rows, d1, d2, fun x hx => ?_, h.livesRise, h.owners⟩
          obtain ⟨a, b, d, e, f, g, i⟩ := h.lives x hx
          refine ⟨a, b, d, e, over_set h hx fun e => ?_, g, i⟩
          have : x = y := h.livesRise.uniq lt_I hx p (e.trans q.symm)
          rw [this]; omega
        · obtain ⟨v1, v2, v3⟩ := leaveL_ok h.lines c.tx
          have hy := h.lives y p
          have hwk : ∀ w ∈ y.writes, w.key.length ≤ 16 ∧ w.value.length ≤ 32 := fun w hw => ⟨holds_key h.lines (hy.writes w hw).1, (hy.writes w hw).2.1⟩
          have hm := h.moment
          have hcells : CellsP (if c.yes = true then y.writes.foldl (fun cs w => (putCell cs w.key w.value w.has (if c.yes = true ∧ y.writes ≠ [] then min (s.moment + 1) 1099511627776 else s.moment)).1) s.cells else s.cells)
              ∧ (if c.yes = true then y.writes.foldl (fun cs w => (putCell cs w.key w.value w.has (if c.yes = true ∧ y.writes ≠ [] then min (s.moment + 1) 1099511627776 else s.moment)).1) s.cells else s.cells).last ≤ (if c.yes = true ∧ y.writes ≠ [] then min (s.moment + 1) 1099511627776 else s.moment) := by
            by_cases hyes : c.yes = true
            · rw [if_pos hyes]
              by_cases he : y.writes = []
              · rw [he]; simp only [List.foldl_nil]
                rw [if_neg (by simp)]
                exact ⟨h.cells, h.last⟩
              · rw [if_pos ⟨hyes, he⟩]
                exact fold_put (by omega) (by omega) _ _ h.cells (by have := h.last; omega) hwk
            · rw [if_neg hyes, if_neg (fun g => hyes g.1)]
              exact ⟨h.cells, h.last⟩
          refine ⟨h.clock, ?_, hcells.1, hcells.2, v1, h.rows, d1, d2, fun x hx => ?_, List.Pairwise.sublist List.filter_sublist h.livesRise, fun o => ?_⟩
          · simp only; split <;> omega
          · unfold delLive at hx
            simp only [List.mem_filter, Bool.not_eq_true', beq_eq_false_iff_ne] at hx
            obtain ⟨hx, hne⟩ := hx
            obtain ⟨a, b, d, e, f, g, i⟩ := h.lives x hx
            exact ⟨a, b, d, e, over_set h hx fun e => absurd e hne, fun w hw => ⟨v3 _ _ hne (g w hw).1, (g w hw).2⟩, i⟩
          · rw [v2 o, ← h.owners o]
            unfold delLive
            simp only [List.mem_filter, Bool.not_eq_true', beq_eq_false_iff_ne]
            constructor
            · rintro ⟨x, ⟨hx, hne⟩, e⟩; exact ⟨e ▸ hne, x, hx, e⟩
            · rintro ⟨hne, x, hx, e⟩; exact ⟨x, ⟨hx, e ▸ hne⟩, e⟩

theorem inv_rows {s : Shard} (h : Inv s) {l : List Row} (hl : RowsP l) : Inv { s with rows := l } :=
  ⟨h.clock, h.moment, h.cells, h.last, h.lines, hl, h.dones, h.donesRise, h.lives, h.livesRise, h.owners⟩
theorem inv_table {s : Shard} (h : Inv s) (c : Cmd) : Inv (tableS s c).1 := by
  unfold tableS
  refine inv_rows h ?_
  split
  · exact openR_ok h.rows ..
  · split
    · exact decideR_ok h.rows ..
    · split
      · exact killR_ok h.rows ..
      · exact beatR_ok h.rows ..

theorem inv_do {s : Shard} (h : Inv s) (c : Cmd) : Inv (doS s c).1 := by
  unfold doS
  split
  · exact h
  · rename_i hc
    have hc : cmdOk c = true := by cases hh : cmdOk c with | true => rfl | false => exact absurd hh hc
    split
    · refine ⟨?_, h.moment, h.cells, h.last, h.lines, h.rows, h.dones, h.donesRise, h.lives, h.livesRise, h.owners⟩
      have := h.clock
      simp only
      omega
    · rename_i n9
      split
      · exact inv_finish h hc (by assumption)
      · rename_i n7
        split
        · exact inv_table h c
        · rename_i nt
          split
          · exact h
          · rename_i hl
            have hl : lateS s c = 0 := Decidable.not_not.1 hl
            split
            · exact inv_lock h hc (by assumption) hl
            · rename_i n2
              split
              · exact inv_get h hc (by assumption) hl
              · rename_i n3
                have := cmdOk_kind hc
                refine inv_put h hc ?_ hl
                omega
end Go.Proofs.YtllkjfadeaoicaaGreat

namespace Go.Proofs.YtllkjfadeaoicaaGreat

def int64 (n : Int) : Bool := decide (-9223372036854775808 ≤ n) && decide (n ≤ 9223372036854775807)
theorem int64_iff (n : Int) : int64 n = true ↔ -9223372036854775808 ≤ n ∧ n ≤ 9223372036854775807 := by simp [int64]

theorem lowB_fold (u : Int) : ((lowB u).toNat : Int) = u % 256 := lowB_toNat u

theorem enc_dec {n : Int} (h : int64 n = true) : s64 (decU (encInt n)) = n := by
  rw [int64_iff] at h
  have hu := u64_range n
  have hn : s64 (u64 n) = n := by unfold s64 u64; split <;> omega
  have hv : decU (encInt n) = u64 n := by
    simp only [decU, encInt, List.foldl_cons, List.foldl_nil, lowB_toNat]
    generalize u64 n = u at hu
    omega
  rw [hv, hn]

/-- what is told with bytes behind is read, and they are left -/
def Again {α : Type} (take : Rdr → α × Rdr) (enc : α → Bs) (ok : α → Bool) : Prop :=
  ∀ x rest, ok x = true → take ⟨enc x ++ rest, false⟩ = (x, ⟨rest, false⟩)

theorem takeInt_again {least most n : Int} (rest : Bs) (h : int64 n = true) (h1 : least ≤ n) (h2 : n ≤ most) : takeInt least most ⟨encInt n ++ rest, false⟩ = (n, ⟨rest, false⟩) := by
  have hl := encInt_length n
  unfold takeInt
  simp only [Bool.false_or]
  rw [if_neg (by simp [hl]), List.take_append_of_le_length (by omega), List.take_of_length_le (by omega), enc_dec h, if_pos ⟨h1, h2⟩, List.drop_append, hl, List.drop_of_length_le (by omega)]
  rfl
theorem takeNum_again : Again takeNum encInt int64 := fun n rest h => takeInt_again rest h ((int64_iff n).1 h).1 ((int64_iff n).1 h).2
theorem takeText_again {most : Int} (s rest : Bs) (hm : most ≤ 65535) (h : (s.length : Int) ≤ most) : takeText most ⟨encText s ++ rest, false⟩ = (s, ⟨rest, false⟩) := by
  have e1 : min s.length 65535 = s.length := by omega
  unfold takeText encText
  rw [e1]
  simp only [Bool.false_or, List.cons_append, List.length_cons, List.getD_cons_zero, List.getD_cons_succ, List.drop_succ_cons, List.drop_zero]
  rw [if_neg (by simp)]
  have a1 := lowB_toNat ((s.length : Int) / 256)
  have a2 := lowB_toNat (s.length : Int)
  have e2 : (lowB ((s.length : Nat) / 256 : Int)).toNat * 256 + (lowB (s.length : Int)).toNat = s.length := by omega
  rw [e2, if_neg (by omega), List.take_of_length_le (by omega)]
  unfold Rdr.part
  simp only [Bool.false_or]
  rw [if_neg (by simp), List.take_append_of_le_length (by omega), List.take_of_length_le (by omega), List.drop_append, List.drop_of_length_le (by omega)]
  simp
theorem takeBool_again (b : Bool) (rest : Bs) : takeBool ⟨encBool b ++ rest, false⟩ = (b, ⟨rest, false⟩) := by
  cases b <;> rfl
theorem takeN_again {α : Type} {take : Rdr → α × Rdr} {enc : α → Bs} {ok : α → Bool} (H : Again take enc ok) :
    ∀ (l : List α) (rest : Bs), l.all ok = true → takeN take l.length ⟨l.flatMap enc ++ rest, false⟩ = (l, ⟨rest, false⟩)
  | [], rest, _ => by simp [takeN]
  | x :: l, rest, h => by
    simp only [List.all_cons, Bool.and_eq_true] at h
    simp only [List.length_cons, takeN, List.flatMap_cons, List.append_assoc]
    rw [H x _ h.1]
    simp only [Bool.false_eq_true, if_false]
    rw [takeN_again H l rest h.2]
def okList {α : Type} (ok : α → Bool) (l : List α) : Bool := decide (l.length ≤ 65535) && l.all ok
theorem takeList_again {α : Type} {take : Rdr → α × Rdr} {enc : α → Bs} {ok : α → Bool} (H : Again take enc ok) : Again (takeList take) (encList enc) (okList ok) := by
  intro l rest h
  simp only [okList, Bool.and_eq_true, decide_eq_true_eq] at h
  unfold takeList encList
  rw [List.append_assoc, takeInt_again _ ((int64_iff _).2 (by omega)) (by omega) (by omega)]
  simp only [Int.toNat_natCast]
  exact takeN_again H l rest h.2

def okText (s : Bs) : Bool := decide (s.length ≤ 65535)
theorem text_again : Again (takeText 65535) encText okText := fun s rest h => takeText_again s rest (by omega) (by simp [okText] at h; omega)
def okVersion (v : Version) : Bool := int64 v.at_ && okText v.value
def okCell (c : Cell) : Bool := okText c.key && okList okVersion c.versions
def okHold (h : Hold) : Bool := int64 h.owner && int64 h.mode
def okLine (l : Line) : Bool := okText l.key && okList okHold l.holders && okList okHold l.queue
def okRow (r : Row) : Bool := int64 r.tx && int64 r.attempt && int64 r.stamp && int64 r.state && int64 r.heard
def okCmd (c : Cmd) : Bool := int64 c.kind && int64 c.tx && int64 c.attempt && int64 c.stamp && int64 c.op && okText c.key && okText c.value && int64 c.mode
def okWrite (w : Write) : Bool := okText w.key && okText w.value
def okLive (x : Live) : Bool := int64 x.tx && int64 x.attempt && okCmd x.last && okList okWrite x.writes
def okDone (d : Done) : Bool := int64 d.tx && int64 d.attempt
def okWhole (w : Whole) : Bool := int64 w.clock && int64 w.moment && okList okCell w.cells && okList okLine w.lines && okList okRow w.rows && okList okLive w.lives && okList okDone w.dones

theorem takeVersion_again : Again takeVersion encVersion okVersion := by
  intro v rest h
  simp only [okVersion, Bool.and_eq_true] at h
  simp only [takeVersion, encVersion, List.append_assoc, takeNum_again _ _ h.1, text_again _ _ h.2, takeBool_again]
theorem takeCell_again : Again takeCell encCell okCell := by
  intro v rest h
  simp only [okCell, Bool.and_eq_true] at h
  simp only [takeCell, encCell, List.append_assoc, text_again _ _ h.1, takeList_again takeVersion_again _ _ h.2]
theorem takeHold_again : Again takeHold encHold okHold := by
  intro v rest h
  simp only [okHold, Bool.and_eq_true] at h
  simp only [takeHold, encHold, List.append_assoc, takeNum_again _ _ h.1, takeNum_again _ _ h.2]
theorem takeLine_again : Again takeLine encLine okLine := by
  intro v rest h
  simp only [okLine, Bool.and_eq_true] at h
  simp only [takeLine, encLine, List.append_assoc, text_again _ _ h.1.1, takeList_again takeHold_again _ _ h.1.2, takeList_again takeHold_again _ _ h.2]
theorem takeRow_again : Again takeRow encRow okRow := by
  intro v rest h
  simp only [okRow, Bool.and_eq_true] at h
  simp only [takeRow, encRow, List.append_assoc, takeNum_again _ _ h.1.1.1.1, takeNum_again _ _ h.1.1.1.2, takeNum_again _ _ h.1.1.2, takeNum_again _ _ h.1.2, takeNum_again _ _ h.2]
theorem takeCmd_again : Again takeCmd encCmd okCmd := by
  intro c rest h
  simp only [okCmd, Bool.and_eq_true] at h
  obtain ⟨⟨⟨⟨⟨⟨⟨h1, h2⟩, h3⟩, h4⟩, h5⟩, h6⟩, h7⟩, h8⟩ := h
  simp only [takeCmd, takeRow, encCmd, List.append_assoc, takeNum_again _ _ h1, takeNum_again _ _ h2, takeNum_again _ _ h3, takeNum_again _ _ h4, takeNum_again _ _ h5, text_again _ _ h6, text_again _ _ h7, takeNum_again _ _ h8, takeBool_again]
theorem takeWrite_again : Again takeWrite encWrite okWrite := by
  intro v rest h
  simp only [okWrite, Bool.and_eq_true] at h
  simp only [takeWrite, encWrite, List.append_assoc, text_again _ _ h.1, text_again _ _ h.2, takeBool_again]
theorem takeLive_again : Again takeLive encLive okLive := by
  intro v rest h
  simp only [okLive, Bool.and_eq_true] at h
  simp only [takeLive, encLive, List.append_assoc, takeNum_again _ _ h.1.1.1, takeNum_again _ _ h.1.1.2, takeCmd_again _ _ h.1.2, takeList_again takeWrite_again _ _ h.2]
theorem takeDone_again : Again takeDone encDone okDone := by
  intro v rest h
  simp only [okDone, Bool.and_eq_true] at h
  simp only [takeDone, encDone, List.append_assoc, takeNum_again _ _ h.1, takeNum_again _ _ h.2]
theorem takeWhole_again : Again takeWhole encWhole okWhole := by
  intro w rest h
  simp only [okWhole, Bool.and_eq_true] at h
  obtain ⟨⟨⟨⟨⟨⟨h1, h2⟩, h3⟩, h4⟩, h5⟩, h6⟩, h7⟩ := h
  simp only [takeWhole, encWhole, List.append_assoc, takeNum_again _ _ h1, takeNum_again _ _ h2, takeList_again takeCell_again _ _ h3, takeList_again takeLine_again _ _ h4, takeList_again takeRow_again _ _ h5, takeList_again takeLive_again _ _ h6, takeList_again takeDone_again _ _ h7]
end Go.Proofs.YtllkjfadeaoicaaGreat

namespace Go.Proofs.YtllkjfadeaoicaaGreat

/-! ### sums over rows by a key -/
def sumBy {α : Type} (f : α → Nat) (l : List α) : Nat := (l.map f).sum
theorem sumBy_nil {α : Type} (f : α → Nat) : sumBy f [] = 0 := rfl
theorem sumBy_cons {α : Type} (f : α → Nat) (x : α) (l : List α) : sumBy f (x :: l) = f x + sumBy f l := by simp [sumBy]
theorem sumBy_append {α : Type} (f : α → Nat) (a b : List α) : sumBy f (a ++ b) = sumBy f a + sumBy f b := by simp [sumBy]
theorem sumBy_mem {α : Type} (f : α → Nat) {l : List α} {x : α} (h : x ∈ l) : f x ≤ sumBy f l := by
  induction l with
  | nil => cases h
  | cons y l ih =>
    rw [sumBy_cons]
    rcases List.mem_cons.1 h with rfl | h
    · omega
    · have := ih h; omega
section
variable {α κ : Type} [DecidableEq κ] {key : α → κ} {lt : κ → κ → Bool}
theorem upsert_length (L : Lt lt) {l : List α} (h : Rises key lt l) (x : α) : (upsert key lt x l).length ≤ l.length + 1 ∧ (∀ y ∈ l, key y = key x → (upsert key lt x l).length = l.length) := by
  rcases upsert_cut L h x with ⟨a, y, b, e, hk, ha, hb, hu⟩ | ⟨a, b, e, ha, hb, hu⟩
  · rw [hu, e]; simp
  · rw [hu, e]; simp
    refine ⟨by omega, fun y hy g => ?_⟩
    rcases hy with hy | hy
    · have := ha y hy; rw [g, L.irrefl] at this; cases this
    · have := hb y hy; rw [g, L.irrefl] at this; cases this
theorem upsert_sum (L : Lt lt) (f : α → Nat) {l : List α} (h : Rises key lt l) (x : α) :
    (∃ y ∈ l, key y = key x ∧ sumBy f (upsert key lt x l) + f y = sumBy f l + f x) ∨ ((∀ y ∈ l, key y ≠ key x) ∧ sumBy f (upsert key lt x l) = sumBy f l + f x) := by
  rcases upsert_cut L h x with ⟨a, y, b, e, hk, ha, hb, hu⟩ | ⟨a, b, e, ha, hb, hu⟩
  · left
    refine ⟨y, by rw [e]; simp, hk, ?_⟩
    rw [hu, e]
    simp only [sumBy_append, sumBy_cons]; omega
  · right
    refine ⟨fun y hy g => ?_, ?_⟩
    · rw [e] at hy
      rcases List.mem_append.1 hy with hy | hy
      · have := ha y hy; rw [g, L.irrefl] at this; cases this
      · have := hb y hy; rw [g, L.irrefl] at this; cases this
    · rw [hu, e]; simp only [sumBy_append, sumBy_cons]; omega
end

/-! ### few -/
structure Few (k : Nat) (s : Shard) : Prop where
  lines : s.lines.length ≤ k
  each : ∀ l ∈ s.lines, l.holders.length + l.queue.length ≤ k
  rows : s.rows.length ≤ k
  lives : s.lives.length ≤ k
  dones : s.dones.length ≤ k
  tot : sumBy (fun x => x.writes.length) s.lives + sumBy (fun c => c.versions.length) s.cells.l ≤ k
  last : ∀ x ∈ s.lives, okCmd x.last = true
theorem few_new : Few 0 Shard.new := ⟨by decide, fun l h => (by cases h), by decide, by decide, by decide, by decide, fun l h => (by cases h)⟩
theorem Few.mono {k m : Nat} {s : Shard} (h : Few k s) (hk : k ≤ m) : Few m s :=
  ⟨Nat.le_trans h.lines hk, fun l hl => Nat.le_trans (h.each l hl) hk, Nat.le_trans h.rows hk, Nat.le_trans h.lives hk, Nat.le_trans h.dones hk, Nat.le_trans h.tot hk, h.last⟩

theorem putHold_length {l : List Hold} (h : Rises Hold.owner ltI l) (x : Hold) : (putHold l x).length ≤ l.length + 1 := (upsert_length lt_I h x).1
theorem letIn_length : ∀ (n : Nat) (l : Line), LineP l → (letIn n l).holders.length + (letIn n l).queue.length ≤ l.holders.length + l.queue.length
  | 0, l, _ => by unfold letIn; omega
  | n + 1, l, h => by
    unfold letIn
    by_cases hm : mayIn l = true
    · rw [if_pos hm]
      cases hq : l.queue with
      | nil => simp [hq]
      | cons w q =>
        simp only
        have h1 := let_step h hq hm
        have h2 := letIn_length n _ h1
        have h3 := putHold_length h.held.rises w
        simp only [List.length_cons] at h2 ⊢
        omega
    · rw [if_neg hm]; omega
theorem askLine_length {l : Line} (h : LineP l) {o m : Int} (ho : 0 ≤ o) (hm : m = 1 ∨ m = 2) : (askLine l o m).1.holders.length + (askLine l o m).1.queue.length ≤ l.holders.length + l.queue.length + 1 := by
  rw [askLine_eq]
  by_cases h1 : modeOf l.holders o ≥ m
  · rw [if_pos h1]; omega
  rw [if_neg h1]
  by_cases h2 : modeOf l.queue o > 0
  · rw [if_pos h2]; omega
  rw [if_neg h2]
  have hj := joined_ok h ho hm (by omega) h2
  have := letIn_length (joined l o m).queue.length _ hj
  unfold letAll
  refine Nat.le_trans this ?_
  unfold joined
  split
  · simp [List.length_take, List.length_drop]; omega
  · simp; omega
theorem few_lines {ls : List Line} (h : LinesP ls) {k : Nat} (h1 : ls.length ≤ k) (h2 : ∀ l ∈ ls, l.holders.length + l.queue.length ≤ k) {o m : Int} {q : Bs} (ho : 0 ≤ o) (hq : q.length ≤ 16) (hm : m = 1 ∨ m = 2) :
    (askL ls o q m).1.length ≤ k + 1 ∧ ∀ l ∈ (askL ls o q m).1, l.holders.length + l.queue.length ≤ k + 1 := by
  rw [askL_eq ls h ho hq hm]
  refine ⟨Nat.le_trans (upsert_length lt_B h.rises _).1 (by omega), fun l hl => ?_⟩
  rcases (mem_upsert lt_B h.rises _ l).1 hl with rfl | ⟨hl, _⟩
  · by_cases hi : lineIs ls q = true
    · rw [if_pos hi]
      obtain ⟨z, hz, rfl⟩ := (lineIs_iff h q).1 hi
      rw [lineOf_mem h hz]
      have := askLine_length (h.each z hz).1 ho hm
      have := h2 z hz
      omega
    · rw [if_neg hi]; simp
  · have := h2 l hl; omega
theorem few_leave {ls : List Line} (h : LinesP ls) {k : Nat} (h1 : ls.length ≤ k) (h2 : ∀ l ∈ ls, l.holders.length + l.queue.length ≤ k) (o : Int) :
    (leaveL ls o).length ≤ k ∧ ∀ l ∈ leaveL ls o, l.holders.length + l.queue.length ≤ k := by
  unfold leaveL
  refine ⟨Nat.le_trans (List.length_filter_le _ _) (by simpa using h1), fun l hl => ?_⟩
  obtain ⟨z, hz, rfl⟩ := List.mem_map.1 (List.mem_filter.1 hl).1
  rw [leaveLine_eq]
  have := letIn_length (without o z).queue.length _ (without_ok (h.each z hz).1 o)
  unfold letAll
  have a := List.length_filter_le (fun h : Hold => !(h.owner == o)) z.holders
  have b := List.length_filter_le (fun h : Hold => !(h.owner == o)) z.queue
  have := h2 z hz
  simp only [without] at *
  omega

theorem putVersion_length (vs : List Version) (v : Bs) (has : Bool) (at_ : Int) : (putVersion vs v has at_).length ≤ vs.length + 1 := by
  unfold putVersion
  rw [List.length_append]
  split
  · simp
  · simp
theorem putCell_sum {c : Cells} (h : CellsP c) (k v : Bs) (has : Bool) (at_ : Int) : sumBy (fun c => c.versions.length) (putCell c k v has at_).1.l ≤ sumBy (fun c => c.versions.length) c.l + 1 := by
  unfold putCell
  split
  · simp
  split
  · simp
  · simp only
    show sumBy _ (upsert Cell.key ltB ⟨k, putVersion (versionsOf c.l k) v has at_⟩ c.l) ≤ _
    have hp := putVersion_length (versionsOf c.l k) v has at_
    rcases upsert_sum lt_B (fun c : Cell => c.versions.length) h.rises ⟨k, putVersion (versionsOf c.l k) v has at_⟩ with ⟨y, hy, hk, e⟩ | ⟨hn, e⟩
    · have : versionsOf c.l k = y.versions := by
        have hk' : y.key = k := hk
        rw [← hk']; exact versionsOf_mem h.rises hy
      rw [this] at hp e
      simp only at e
      rw [this]
      omega
    · have : versionsOf c.l k = [] := by
        rcases versionsOf_cases c.l k with g | ⟨x, hx, hk, _⟩
        · exact g
        · exact absurd hk (hn x hx)
      rw [this] at hp e
      simp only [List.length_nil] at hp e
      rw [this]
      omega
theorem fold_sum {m : Int} (h1 : 1 ≤ m) (h2 : m ≤ 1099511627776) : ∀ (ws : List Write) (cs : Cells), CellsP cs → cs.last ≤ m → (∀ w ∈ ws, w.key.length ≤ 16 ∧ w.value.length ≤ 32) →
    sumBy (fun c => c.versions.length) (ws.foldl (fun cs w => (putCell cs w.key w.value w.has m).1) cs).l ≤ sumBy (fun c => c.versions.length) cs.l + ws.length
  | [], cs, h, hl, _ => by simp
  | w :: ws, cs, h, hl, hw => by
    rw [List.foldl_cons]
    obtain ⟨a, b⟩ := hw w (List.mem_cons_self ..)
    obtain ⟨p, q⟩ := putCell_ok h (has := w.has) a b h1 h2 hl
    have := fold_sum h1 h2 ws _ p (by omega) fun z hz => hw z (List.mem_cons_of_mem _ hz)
    have := putCell_sum h w.key w.value w.has m
    simp only [List.length_cons]
    omega
theorem delLive_sum (l : List Live) (h : Rises Live.tx ltI l) {x : Live} (hx : x ∈ l) : sumBy (fun x => x.writes.length) (delLive l x.tx) + x.writes.length ≤ sumBy (fun x => x.writes.length) l := by
  unfold delLive
  induction l with
  | nil => cases hx
  | cons y l ih =>
    obtain ⟨h1, h2⟩ := List.pairwise_cons.1 h
    rcases List.mem_cons.1 hx with rfl | hx
    · rw [List.filter_cons_of_neg (by simp), sumBy_cons]
      have : l.filter (fun z => !(z.tx == x.tx)) = l := by
        rw [List.filter_eq_self]
        intro z hz
        have := h1 z hz
        simp [ltI] at this
        simp; omega
      rw [this]; omega
    · have hne : y.tx ≠ x.tx := by have := h1 x hx; simp [ltI] at this; omega
      rw [List.filter_cons_of_pos (by simp [hne]), sumBy_cons, sumBy_cons]
      have := ih h2 hx
      omega

theorem few_rows_put {l : List Row} (_h : RowsP l) (r : Row) : (putRow l r).1.length ≤ l.length + 1 := by
  unfold putRow
  split
  · simp only
    split
    · simp
    · simp
  · simp [List.length_take, List.length_drop]; omega
theorem setState_length (l : List Row) (tx s : Int) : (setState l tx s).length = l.length := by unfold setState; simp
theorem few_rows {l : List Row} (h : RowsP l) (c : Cmd) (clock : Int) :
    (if c.kind = 1 then openR l c.tx c.attempt c.stamp clock else if c.kind = 5 then decideR l c.tx c.attempt else if c.kind = 6 then killR l c.tx c.attempt clock else beatR l c.tx c.attempt clock).1.length ≤ l.length + 1 := by
  split
  · unfold openR; repeat' split
    all_goals first | exact few_rows_put h _ | simp
  split
  · unfold decideR; repeat' split
    all_goals first | (simp [setState_length]; done) | simp
  split
  · unfold killR; repeat' split
    all_goals first | exact few_rows_put h _ | (simp [setState_length]; done) | simp
  · unfold beatR; repeat' split
    all_goals simp

theorem few_live {s : Shard} (h : Inv s) {k : Nat} (f : Few k s) {x y : Live} (hx : x ∈ s.lives) (hy : y.tx = x.tx) (hw : y.writes.length ≤ x.writes.length + 1) (hc : okCmd y.last = true) : Few (k + 1) { s with lives := setLive s.lives y } := by
  rw [setLive_eq]
  refine ⟨by have := f.lines; simp only; omega, fun l hl => by have := f.each l hl; omega, by have := f.rows; simp only; omega, ?_, by have := f.dones; simp only; omega, ?_, fun z hz => ?_⟩
  · have := (upsert_length lt_I h.livesRise y).1; have := f.lives; simp only; omega
  · have := f.tot
    simp only
    rcases upsert_sum lt_I (fun x : Live => x.writes.length) h.livesRise y with ⟨z, hz, hk, e⟩ | ⟨hn, e⟩
    · have : z = x := h.livesRise.uniq lt_I hz hx (hk.trans hy)
      subst this
      omega
    · exact absurd hy.symm (hn x hx)
  · rcases (mem_upsert lt_I h.livesRise _ z).1 hz with rfl | ⟨hz, _⟩
    · exact hc
    · exact f.last z hz
theorem few_do {s : Shard} (h : Inv s) {k : Nat} (f : Few k s) {c : Cmd} (hok : okCmd c = true) : Few (k + 1) (doS s c).1 := by
  have f1 := f.mono (Nat.le_succ k)
  unfold doS
  split
  · exact f1
  rename_i hc
  have hc : cmdOk c = true := by simpa using hc
  split
  · exact ⟨f1.lines, f1.each, f1.rows, f1.lives, f1.dones, f1.tot, f1.last⟩
  split
  · rename_i h9 h7
    have ht := cmdOk_tx hc (by omega)
    unfold finishS
    split
    · exact f1
    have hd := (upsert_length lt_I h.donesRise ⟨c.tx, c.attempt⟩).1
    have hd' : (setDone s.dones ⟨c.tx, c.attempt⟩).length ≤ k + 1 := by rw [setDone_eq]; have := f.dones; omega
    cases hx : liveOf s.lives c.tx with
    | none => exact ⟨f1.lines, f1.each, f1.rows, f1.lives, hd', f1.tot, f1.last⟩
    | some x =>
      simp only
      obtain ⟨p, q⟩ := (liveOf_iff h.livesRise _ _).1 hx
      split
      · exact f1
      split
      · exact ⟨f1.lines, f1.each, f1.rows, f1.lives, hd', f1.tot, f1.last⟩
      · obtain ⟨l1, l2⟩ := few_leave h.lines f1.lines f1.each c.tx
        refine ⟨l1, l2, f1.rows, Nat.le_trans (List.length_filter_le _ _) f1.lives, hd', ?_, fun z hz => f.last z (List.mem_filter.1 hz).1⟩
        simp only
        have hs := delLive_sum s.lives h.livesRise p
        rw [q] at hs
        have ht := f.tot
        split
        · by_cases hw : x.writes = []
          · rw [hw]; simp only [List.foldl_nil]; omega
          · have lv := h.lives x p
            have hm := h.moment
            have hkv : ∀ w ∈ x.writes, w.key.length ≤ 16 ∧ w.value.length ≤ 32 := fun w hw' => ⟨holds_key h.lines (lv.writes w hw').1, (lv.writes w hw').2.1⟩
            have hl := h.last
            rename_i hy
            rw [if_pos ⟨hy, hw⟩]
            have := fold_sum (m := min (s.moment + 1) 1099511627776) (by omega) (by omega) x.writes s.cells h.cells (by omega) hkv
            omega
        · omega
  split
  · unfold tableS
    simp only
    refine ⟨f1.lines, f1.each, ?_, f1.lives, f1.dones, f1.tot, f1.last⟩
    have := few_rows h.rows c s.clock
    have := f.rows
    simp only
    omega
  split
  · exact f1
  split
  · rename_i hk2
    have t := cmdOk_tx hc (by omega)
    obtain ⟨k1, k2, k3⟩ := cmdOk_key hc (.inl hk2)
    obtain ⟨l1, l2⟩ := few_lines h.lines f.lines f.each t.1 k3 (cmdOk_mode hc hk2)
    unfold lockS
    simp only
    rw [setLive_eq]
    refine ⟨l1, l2, f1.rows, ?_, f1.dones, ?_, fun z hz => ?_⟩
    · have := (upsert_length lt_I h.livesRise ⟨c.tx, c.attempt, c, liveWrites (liveOf s.lives c.tx)⟩).1; have := f.lives; simp only; omega
    · have ht := f.tot
      simp only
      rcases upsert_sum lt_I (fun x : Live => x.writes.length) h.livesRise ⟨c.tx, c.attempt, c, liveWrites (liveOf s.lives c.tx)⟩ with ⟨z, hz, hk, e⟩ | ⟨hn, e⟩
      · rw [(liveOf_iff h.livesRise _ _).2 ⟨hz, hk⟩] at e ⊢
        simp only [liveWrites] at e ⊢
        omega
      · rw [(liveOf_none c.tx).2 hn] at e ⊢
        simp only [liveWrites, List.length_nil] at e ⊢
        omega
    · rcases (mem_upsert lt_I h.livesRise _ z).1 hz with rfl | ⟨hz, _⟩
      · exact hok
      · exact f.last z hz
  split
  · unfold getS
    cases hx : liveOf s.lives c.tx with
    | none => exact f1
    | some x =>
      simp only
      obtain ⟨p, q⟩ := (liveOf_iff h.livesRise _ _).1 hx
      split
      · exact f1
      · exact few_live h f p rfl (by simp) hok
  · unfold putS
    cases hx : liveOf s.lives c.tx with
    | none => exact f1
    | some x =>
      simp only
      obtain ⟨p, q⟩ := (liveOf_iff h.livesRise _ _).1 hx
      split
      · exact f1
      · refine few_live h f p rfl ?_ hok
        simp only
        rw [putW_eq]
        have := upsert_length lt_B (h.lives x p).rises
        exact (this _).1
theorem cells_few {c : Cells} (h : CellsP c) : c.l.length ≤ sumBy (fun c => c.versions.length) c.l := by
  have : ∀ l : List Cell, (∀ x ∈ l, x.versions ≠ []) → l.length ≤ sumBy (fun c => c.versions.length) l := by
    intro l
    induction l with
    | nil => intro _; simp
    | cons x l ih =>
      intro h
      rw [sumBy_cons]
      have h1 := ih fun y hy => h y (List.mem_cons_of_mem _ hy)
      have h2 := List.length_pos_iff.2 (h x (List.mem_cons_self ..))
      simp only [List.length_cons]
      omega
  exact this c.l fun x hx => (h.each x hx).2.1

theorem okList_of {α : Type} {ok : α → Bool} {l : List α} (h1 : l.length ≤ 65535) (h2 : ∀ x ∈ l, ok x = true) : okList ok l = true := by
  unfold okList; simp only [Bool.and_eq_true, decide_eq_true_eq, List.all_eq_true]; exact ⟨h1, h2⟩
theorem int64_of {n : Int} (h1 : -9223372036854775808 ≤ n) (h2 : n ≤ 9223372036854775807) : int64 n = true := (int64_iff n).2 ⟨h1, h2⟩
theorem okText_of {s : Bs} (h : s.length ≤ 65535) : okText s = true := by unfold okText; simpa using h
theorem modes_ok {l : List Hold} (h : ModesOk l) (hb : ∀ x ∈ l, x.owner ≤ 1048576) : ∀ x ∈ l, okHold x = true := by
  intro x hx
  have := h x hx; have := hb x hx
  unfold okHold
  rw [int64_of (by omega) (by omega), int64_of (by omega) (by omega)]; rfl
/-- its whole can be told, and read again -/
theorem few_whole {s : Shard} (h : Inv s) {k : Nat} (f : Few k s) (hk : k ≤ 65535) : okWhole (wholeS s) = true := by
  have hcl := cells_few h.cells
  have ht := f.tot
  have ho : ∀ o, inLines s.lines o → 0 ≤ o ∧ o ≤ 1048576 := fun o hi => by
    obtain ⟨x, hx, rfl⟩ := (h.owners o).2 hi
    have lv := h.lives x hx
    have := cmdOk_tx lv.cmd (by have := lv.kind; omega)
    rw [← lv.tx]; exact ⟨this.1, this.2.1⟩
  have hc := h.clock; have hm := h.moment
  unfold okWhole wholeS
  simp only [Bool.and_eq_true]
  refine ⟨⟨⟨⟨⟨⟨int64_of (by omega) (by omega), int64_of (by omega) (by omega)⟩, okList_of (by omega) fun x hx => ?_⟩, okList_of (by have := f.lines; omega) fun x hx => ?_⟩, okList_of (by have := f.rows; omega) fun x hx => ?_⟩, okList_of (by have := f.lives; omega) fun x hx => ?_⟩, okList_of (by have := f.dones; omega) fun x hx => ?_⟩
  · obtain ⟨a, b, c, d⟩ := h.cells.each x hx
    have hb := h.cells.bound
    have := sumBy_mem (fun c : Cell => c.versions.length) hx
    unfold okCell
    rw [okText_of (by omega), okList_of (by omega) fun v hv => ?_]; rfl
    obtain ⟨p, q, r, _⟩ := c v hv
    unfold okVersion
    rw [int64_of (by omega) (by omega), okText_of (by omega)]; rfl
  · obtain ⟨⟨a, b, c⟩, d⟩ := h.lines.each x hx
    have := f.each x hx
    unfold okLine
    rw [okText_of (by omega), okList_of (by omega) (modes_ok b.modes fun y hy => (ho _ ⟨x, hx, .inl ⟨y, hy, rfl⟩⟩).2), okList_of (by omega) (modes_ok c.modes fun y hy => (ho _ ⟨x, hx, .inr ⟨y, hy, rfl⟩⟩).2)]; rfl
  · have := h.rows.each x hx
    unfold okRow
    obtain ⟨a1, a2, a3, a4, a5, a6, a7, a8, a9, a0⟩ := this
    rw [int64_of (by omega) (by omega), int64_of (by omega) (by omega), int64_of (by omega) (by omega), int64_of (by omega) (by omega), int64_of (by omega) (by omega)]; rfl
  · have lv := h.lives x hx
    have t := cmdOk_tx lv.cmd (by have := lv.kind; omega)
    have e1 := lv.tx; have e2 := lv.attempt
    have hw := sumBy_mem (fun x : Live => x.writes.length) hx
    unfold okLive
    rw [int64_of (by omega) (by omega), int64_of (by omega) (by omega), f.last x hx, okList_of (by omega) fun w hw => ?_]; rfl
    have := lv.writes w hw
    have := holds_key h.lines this.1
    unfold okWrite
    rw [okText_of (by omega), okText_of (by omega)]; rfl
  · have := h.dones x hx
    unfold okDone
    rw [int64_of (by omega) (by omega), int64_of (by omega) (by omega)]; rfl
end Go.Proofs.YtllkjfadeaoicaaGreat

namespace Go.Proofs.YtllkjfadeaoicaaGreat

/-- one bit of a sum -/
def crcStep (r : Nat) : Nat := if r % 2 = 1 then (r / 2) ^^^ 2197175160 else r / 2
def crcN : Nat → Nat → Nat
  | 0, r => r
  | n + 1, r => crcN n (crcStep r)
/-- bit by bit: the register behind these bytes -/
def crcReg (r : Nat) (l : List UInt8) : Nat := l.foldl (fun r c => crcN 8 (r ^^^ c.toNat)) r
/-- the sum -/
def crcOf (l : List UInt8) : Nat := 4294967295 - crcReg 4294967295 l
/-- by the table -/
def crcTab (r : Nat) (c : UInt8) : Nat := (r / 256) ^^^ crcN 8 ((r % 256) ^^^ c.toNat)
def crcBytes (s : Nat) : List UInt8 := [UInt8.ofNat (s % 256), UInt8.ofNat (s / 256 % 256), UInt8.ofNat (s / 65536 % 256), UInt8.ofNat (s / 16777216 % 256)]

theorem xor_mod_two (a b : Nat) : (a ^^^ b) % 2 = (a % 2 + b % 2) % 2 := by
  have h := Nat.testBit_xor a b 0
  simp only [Nat.testBit_zero] at h
  have ha : a % 2 = 0 ∨ a % 2 = 1 := by omega
  have hb : b % 2 = 0 ∨ b % 2 = 1 := by omega
  have hc : (a ^^^ b) % 2 = 0 ∨ (a ^^^ b) % 2 = 1 := by omega
  rcases ha with ha | ha <;> rcases hb with hb | hb <;> rcases hc with hc | hc <;> simp [ha, hb, hc] at h ⊢
theorem xor_div_two (a b : Nat) : (a ^^^ b) / 2 = (a / 2) ^^^ (b / 2) := by
  apply Nat.eq_of_testBit_eq
  intro i
  simp [Nat.testBit_div_two, Nat.testBit_xor]

theorem crcStep_xor (a b : Nat) : crcStep (a ^^^ b) = crcStep a ^^^ crcStep b := by
  unfold crcStep
  rw [xor_mod_two, xor_div_two]
  have ha : a % 2 = 0 ∨ a % 2 = 1 := by omega
  have hb : b % 2 = 0 ∨ b % 2 = 1 := by omega
  rcases ha with ha | ha <;> rcases hb with hb | hb <;> simp [ha, hb]
  · rw [Nat.xor_assoc]
  · rw [Nat.xor_assoc, Nat.xor_assoc, Nat.xor_comm 2197175160]
  · rw [Nat.xor_assoc, Nat.xor_comm (b / 2), ← Nat.xor_assoc 2197175160, Nat.xor_self, Nat.zero_xor]
theorem crcN_xor : ∀ n a b, crcN n (a ^^^ b) = crcN n a ^^^ crcN n b
  | 0, _, _ => rfl
  | n + 1, a, b => by simp only [crcN]; rw [crcStep_xor, crcN_xor n]
theorem crcN_shift : ∀ n h, crcN n (2 ^ n * h) = h
  | 0, h => by simp [crcN]
  | n + 1, h => by
    simp only [crcN]
    have : crcStep (2 ^ (n + 1) * h) = 2 ^ n * h := by
      unfold crcStep
      rw [Nat.pow_succ, Nat.mul_right_comm]
      rw [if_neg (by omega)]
      omega
    rw [this, crcN_shift n]
theorem split_low (r : Nat) : r = (256 * (r / 256)) ^^^ (r % 256) := by
  apply Nat.eq_of_testBit_eq
  intro i
  rw [Nat.testBit_xor, show (256 : Nat) = 2 ^ 8 from rfl, Nat.testBit_two_pow_mul, Nat.testBit_mod_two_pow, Nat.testBit_div_two_pow]
  by_cases h : i < 8
  · simp [h, show ¬ 8 ≤ i from by omega]
  · simp [h, show 8 ≤ i from by omega]
theorem crcN_split (r : Nat) : crcN 8 r = (r / 256) ^^^ crcN 8 (r % 256) := by
  have h := split_low r
  have : crcN 8 r = crcN 8 ((256 * (r / 256)) ^^^ (r % 256)) := congrArg _ h
  rw [this, crcN_xor, show (256 : Nat) = 2 ^ 8 from rfl, crcN_shift]
theorem xor_byte_div (r : Nat) (c : UInt8) : (r ^^^ c.toNat) / 256 = r / 256 := by
  have hc := c.toNat_lt
  apply Nat.eq_of_testBit_eq
  intro i
  rw [show (256 : Nat) = 2 ^ 8 from rfl, Nat.testBit_div_two_pow, Nat.testBit_div_two_pow, Nat.testBit_xor, Nat.testBit_lt_two_pow (x := c.toNat) (Nat.lt_of_lt_of_le hc (Nat.pow_le_pow_right (by omega) (by omega)))]
  simp
theorem xor_byte_mod (r : Nat) (c : UInt8) : (r ^^^ c.toNat) % 256 = (r % 256) ^^^ c.toNat := by
  have hc := c.toNat_lt
  rw [show (256 : Nat) = 2 ^ 8 from rfl, Nat.xor_mod_two_pow, Nat.mod_eq_of_lt (a := c.toNat) hc]
theorem crcTab_eq (r : Nat) (c : UInt8) : crcTab r c = crcN 8 (r ^^^ c.toNat) := by
  rw [crcN_split, xor_byte_div, xor_byte_mod]; rfl
theorem crcStep_lt {r : Nat} (h : r < 4294967296) : crcStep r < 4294967296 := by
  unfold crcStep
  split
  · exact Nat.xor_lt_two_pow (n := 32) (by omega) (by omega)
  · omega
theorem crcN_lt : ∀ n {r : Nat}, r < 4294967296 → crcN n r < 4294967296
  | 0, _, h => h
  | n + 1, _, h => crcN_lt n (crcStep_lt h)
theorem xor_byte_lt {r : Nat} (c : UInt8) (h : r < 4294967296) : r ^^^ c.toNat < 4294967296 := by
  have hc := c.toNat_lt
  exact Nat.xor_lt_two_pow (n := 32) h (by omega)
theorem crcReg_lt : ∀ (l : List UInt8) {r : Nat}, r < 4294967296 → crcReg r l < 4294967296
  | [], _, h => h
  | c :: l, r, h => by
    unfold crcReg
    rw [List.foldl_cons]
    exact crcReg_lt l (crcN_lt 8 (xor_byte_lt c h))
theorem crcReg_tab (l : List UInt8) : ∀ r, l.foldl crcTab r = crcReg r l := by
  induction l with
  | nil => intro r; rfl
  | cons c l ih => intro r; unfold crcReg; rw [List.foldl_cons, List.foldl_cons, crcTab_eq]; exact ih _
end Go.Proofs.YtllkjfadeaoicaaGreat

namespace Go.Proofs.YtllkjfadeaoicaaGreat

theorem poly_bit : Nat.testBit 2197175160 31 = true := by decide
theorem step_bit {r : Nat} (h : r < 4294967296) : (crcStep r).testBit 31 = decide (r % 2 = 1) := by
  have hr : (r / 2).testBit 31 = false := Nat.testBit_lt_two_pow (by omega)
  unfold crcStep
  split
  · rename_i h1
    rw [Nat.testBit_xor, hr, poly_bit, decide_eq_true h1]; rfl
  · rename_i h1
    rw [hr, decide_eq_false h1]
theorem xor_cancel (a b c : Nat) (h : a ^^^ c = b ^^^ c) : a = b := by
  have := congrArg (· ^^^ c) h
  simpa [Nat.xor_assoc] using this
theorem crcStep_inj {a b : Nat} (ha : a < 4294967296) (hb : b < 4294967296) (h : crcStep a = crcStep b) : a = b := by
  have e := step_bit ha
  rw [h, step_bit hb, decide_eq_decide] at e
  have hh : a / 2 = b / 2 := by
    unfold crcStep at h
    by_cases h1 : a % 2 = 1
    · rw [if_pos h1, if_pos (e.2 h1)] at h; exact xor_cancel _ _ _ h
    · rw [if_neg h1, if_neg (fun g => h1 (e.1 g))] at h; exact h
  omega
theorem crcN_inj : ∀ (n : Nat) {a b : Nat}, a < 4294967296 → b < 4294967296 → crcN n a = crcN n b → a = b
  | 0, a, b, _, _, h => h
  | n + 1, a, b, ha, hb, h => crcStep_inj ha hb (crcN_inj n (crcStep_lt ha) (crcStep_lt hb) (by simpa [crcN] using h))
theorem crcReg_inj : ∀ (l : List UInt8) {a b : Nat}, a < 4294967296 → b < 4294967296 → crcReg a l = crcReg b l → a = b
  | [], a, b, _, _, h => h
  | c :: l, a, b, ha, hb, h => by
    have h1 : crcReg (crcN 8 (a ^^^ c.toNat)) l = crcReg (crcN 8 (b ^^^ c.toNat)) l := h
    have h2 := crcReg_inj l (crcN_lt 8 (xor_byte_lt c ha)) (crcN_lt 8 (xor_byte_lt c hb)) h1
    exact xor_cancel _ _ _ (crcN_inj 8 (xor_byte_lt c ha) (xor_byte_lt c hb) h2)
theorem crcReg_append (r : Nat) (a b : List UInt8) : crcReg r (a ++ b) = crcReg (crcReg r a) b := by unfold crcReg; rw [List.foldl_append]
theorem crcReg_set (l : List UInt8) (i : Nat) (y : UInt8) (hi : i < l.length) (r : Nat) (hr : r < 4294967296) (h : crcReg r (l.set i y) = crcReg r l) : y = l[i] := by
  have e : l = l.take i ++ l[i] :: l.drop (i + 1) := by simp
  have e' : l.set i y = l.take i ++ y :: l.drop (i + 1) := by
    rw [List.set_eq_take_append_cons_drop, if_pos hi]
  rw [e'] at h
  have h' : crcReg r (l.take i ++ y :: l.drop (i + 1)) = crcReg r (l.take i ++ l[i] :: l.drop (i + 1)) := by rw [h, ← e]
  rw [crcReg_append, crcReg_append] at h'
  have h0 := crcReg_lt (l.take i) hr
  generalize crcReg r (l.take i) = q at h' h0
  have h1 : crcReg (crcN 8 (q ^^^ y.toNat)) (l.drop (i + 1)) = crcReg (crcN 8 (q ^^^ l[i].toNat)) (l.drop (i + 1)) := h'
  have h2 := crcN_inj 8 (xor_byte_lt y h0) (xor_byte_lt l[i] h0) (crcReg_inj _ (crcN_lt 8 (xor_byte_lt y h0)) (crcN_lt 8 (xor_byte_lt l[i] h0)) h1)
  rw [Nat.xor_comm q, Nat.xor_comm q] at h2
  exact UInt8.toNat_inj.1 (xor_cancel _ _ _ h2)
theorem crcOf_lt (l : List UInt8) : crcOf l < 4294967296 := by unfold crcOf; omega
theorem crcOf_set (l : List UInt8) (i : Nat) (y : UInt8) (hi : i < l.length) (h : crcOf (l.set i y) = crcOf l) : y = l[i] := by
  have h1 := crcReg_lt (l.set i y) (r := 4294967295) (by omega)
  have h2 := crcReg_lt l (r := 4294967295) (by omega)
  unfold crcOf at h
  exact crcReg_set l i y hi 4294967295 (by omega) (by omega)
theorem crcBytes_inj {a b : Nat} (ha : a < 4294967296) (hb : b < 4294967296) (h : crcBytes a = crcBytes b) : a = b := by
  unfold crcBytes at h
  simp only [List.cons.injEq, and_true] at h
  obtain ⟨h1, h2, h3, h4⟩ := h
  have g1 := congrArg UInt8.toNat h1
  have g2 := congrArg UInt8.toNat h2
  have g3 := congrArg UInt8.toNat h3
  have g4 := congrArg UInt8.toNat h4
  simp only [UInt8.toNat_ofNat'] at g1 g2 g3 g4
  omega
/-- one byte is another one: the sum isn't right -/
theorem turned (body : List UInt8) (i : Nat) (y : UInt8) (hi : i < body.length + 4) (hy : y ≠ (body ++ crcBytes (crcOf body)).getD i 0) :
    crcBytes (crcOf (((body ++ crcBytes (crcOf body)).set i y).take body.length)) ≠ ((body ++ crcBytes (crcOf body)).set i y).drop body.length := by
  intro h
  by_cases hb : i < body.length
  · rw [List.set_append_left _ _ hb, List.take_left' (by simp), List.drop_left' (by simp)] at h
    have := crcOf_set body i y hb (crcBytes_inj (crcOf_lt _) (crcOf_lt _) h)
    apply hy
    rw [this]
    simp [List.getD_eq_getElem?_getD, List.getElem?_append_left hb, List.getElem?_eq_getElem hb]
  · have hb' : body.length ≤ i := by omega
    rw [List.set_append_right _ _ hb', List.take_left, List.drop_left] at h
    apply hy
    have hl : (crcBytes (crcOf body)).length = 4 := rfl
    have hj : i - body.length < (crcBytes (crcOf body)).length := by omega
    have e := congrArg (fun l => l[i - body.length]?) h
    simp only [List.getElem?_set_self hj] at e
    rw [List.getD_eq_getElem?_getD, List.getElem?_append_right hb', e]
    rfl
end Go.Proofs.YtllkjfadeaoicaaGreat

namespace Go.Proofs.YtllkjfadeaoicaaGreat

/-- what image.Read reads -/
def readWhole (b : Bs) : Whole × Int :=
  if b.length < 4 then (Whole.empty, 2) else
  if crcBytes (crcOf (b.take (b.length - 4))) = b.drop (b.length - 4) then
    let x := takeWhole ⟨b.take (b.length - 4), false⟩
    if !x.2.bad && x.2.b.isEmpty then (x.1, 0) else (Whole.empty, 2)
  else (Whole.empty, 3)
theorem read_ok {c : Bs} (h : (readWhole c).2 = 0) : longWhole (readWhole c).1 = false ∧ encWhole (readWhole c).1 ++ crcBytes (crcOf (encWhole (readWhole c).1)) = c := by
  unfold readWhole at h ⊢
  split at h
  · simp at h
  · rename_i h4
    split at h
    · rename_i hs
      simp only [] at h ⊢
      split at h
      · rename_i hd
        rw [if_neg h4, if_pos hs, if_pos hd]
        simp only [Bool.and_eq_true, Bool.not_eq_true', List.isEmpty_iff] at hd
        obtain ⟨g1, g2, g3⟩ := takeWhole_ok _ hd.1
        refine ⟨g3, ?_⟩
        rw [hd.2, List.append_nil] at g2
        simp only at g2
        rw [← g2, hs, List.take_append_drop]
      · simp at h
    · simp at h
theorem read_bad {c : Bs} (h : (readWhole c).2 ≠ 0) : (readWhole c).1 = Whole.empty ∧ (readWhole c).2 = if 4 ≤ c.length ∧ crcBytes (crcOf (c.take (c.length - 4))) ≠ c.drop (c.length - 4) then 3 else 2 := by
  unfold readWhole at h ⊢
  split at h
  · rename_i h4
    rw [if_pos h4, if_neg (by omega)]; exact ⟨rfl, rfl⟩
  · rename_i h4
    split at h
    · rename_i hs
      simp only [] at h ⊢
      split at h
      · simp at h
      · rename_i hd
        rw [if_neg h4, if_pos hs, if_neg hd, if_neg (by simp [hs])]; exact ⟨rfl, rfl⟩
    · rename_i hs
      rw [if_neg h4, if_neg hs, if_pos ⟨by omega, hs⟩]; exact ⟨rfl, rfl⟩
theorem enc_le {c : Bs} (h : (readWhole c).2 = 0) : (encWhole (readWhole c).1).length ≤ c.length := by
  have := (read_ok h).2
  have e := congrArg List.length this
  rw [List.length_append] at e
  omega

theorem okList_long {α : Type} {ok long : α → Bool} (H : ∀ x, ok x = true → long x = false) {l : List α} (h : okList ok l = true) : longList long l = false := by
  unfold okList at h
  simp only [Bool.and_eq_true, decide_eq_true_eq, List.all_eq_true] at h
  unfold longList
  simp only [Bool.or_eq_false_iff, decide_eq_false_iff_not, List.any_eq_false]
  exact ⟨by omega, fun x hx => by rw [H x (h.2 x hx)]; simp⟩
theorem okText_long {s : Bs} (h : okText s = true) : longText s = false := by
  unfold okText at h; unfold longText
  simp only [decide_eq_true_eq] at h
  simp only [decide_eq_false_iff_not]; omega
theorem ok_long {w : Whole} (h : okWhole w = true) : longWhole w = false := by
  unfold okWhole at h
  simp only [Bool.and_eq_true] at h
  unfold longWhole
  simp only [Bool.or_eq_false_iff]
  refine ⟨⟨⟨⟨okList_long (fun x hx => ?_) h.1.1.1.1.2, okList_long (fun x hx => ?_) h.1.1.1.2⟩, okList_long (fun x _ => rfl) h.1.1.2⟩, okList_long (fun x hx => ?_) h.1.2⟩, okList_long (fun x _ => rfl) h.2⟩
  · unfold okCell at hx
    simp only [Bool.and_eq_true] at hx
    unfold longCell
    rw [okText_long hx.1, okList_long (fun v hv => ?_) hx.2]; rfl
    unfold okVersion at hv
    simp only [Bool.and_eq_true] at hv
    exact okText_long hv.2
  · unfold okLine at hx
    simp only [Bool.and_eq_true] at hx
    unfold longLine
    rw [okText_long hx.1.1, okList_long (long := longHold) (fun v _ => rfl) hx.1.2, okList_long (long := longHold) (fun v _ => rfl) hx.2]; rfl
  · unfold okLive okCmd at hx
    simp only [Bool.and_eq_true] at hx
    unfold longLive
    rw [okText_long hx.1.2.1.1.2, okText_long hx.1.2.1.2, okList_long (fun v hv => ?_) hx.2]; rfl
    unfold okWrite at hv
    simp only [Bool.and_eq_true] at hv
    unfold longWrite
    rw [okText_long hv.1, okText_long hv.2]; rfl
/-- a whole's image -/
def image (w : Whole) : Bs := encWhole w ++ crcBytes (crcOf (encWhole w))
theorem image_length (w : Whole) : (image w).length = (encWhole w).length + 4 := by unfold image; rw [List.length_append]; rfl
/-- what was told is read again -/
theorem read_image {w : Whole} (h : okWhole w = true) : readWhole (image w) = (w, 0) := by
  unfold readWhole
  rw [if_neg (by rw [image_length]; omega), image_length, Nat.add_sub_cancel]
  have h1 : (image w).take (encWhole w).length = encWhole w := by unfold image; rw [List.take_left]
  have h2 : (image w).drop (encWhole w).length = crcBytes (crcOf (encWhole w)) := by unfold image; rw [List.drop_left]
  rw [h1, h2, if_pos rfl]
  have h3 := takeWhole_again w [] h
  rw [List.append_nil] at h3
  simp only [h3]
  rfl
/-- an image of which one byte is another one isn't -/
theorem read_turned (w : Whole) (i : Nat) (y : UInt8) (hi : i < (image w).length) (hy : y ≠ (image w).getD i 0) : readWhole ((image w).set i y) = (Whole.empty, 3) := by
  have hl : ((image w).set i y).length = (encWhole w).length + 4 := by rw [List.length_set, image_length]
  unfold readWhole
  rw [if_neg (by rw [hl]; omega), hl, Nat.add_sub_cancel, if_neg]
  exact turned (encWhole w) i y (by rw [← image_length]; exact hi) hy

/-! ### many commands -/
def run (s : Shard) (l : List Cmd) : Shard := l.foldl (fun s c => (doS s c).1) s
theorem run_append (s : Shard) (a b : List Cmd) : run s (a ++ b) = run (run s a) b := by unfold run; rw [List.foldl_append]
theorem run_ok : ∀ (l : List Cmd) (s : Shard) (k : Nat), Inv s → Few k s → (∀ c ∈ l, okCmd c = true) → Inv (run s l) ∧ Few (k + l.length) (run s l)
  | [], s, k, h, f, _ => ⟨h, f⟩
  | c :: l, s, k, h, f, hc => by
    have := run_ok l (doS s c).1 (k + 1) (inv_do h c) (few_do h f (hc c (List.mem_cons_self ..))) fun x hx => hc x (List.mem_cons_of_mem _ hx)
    rw [List.length_cons, show k + (l.length + 1) = k + 1 + l.length from by omega]
    exact this
end Go.Proofs.YtllkjfadeaoicaaGreat
