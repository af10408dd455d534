/- Lemmas and walks: The walk of image.Bytes (printed by gen_bytes.py). The walk of image.Read (printed by gen_read.py). image.Read, whole. The walk of kissinggateref17.Same where both wholes are empty (printed by gen_same.py). -/
import Derived.Test.YtllkjfadeaoicaaGreatJReads11
import Derived.Deep.RegionHeld3
import Derived.StillTactics
import Derived.Test.YtllkjfadeaoicaaGreatJReads09
import Derived.Test.YtllkjfadeaoicaaGreatJReads10
import Derived.Test.YtllkjfadeaoicaaGreatJReads02
set_option linter.unusedVariables false
set_option linter.unusedSimpArgs false
namespace Go.Proofs.YtllkjfadeaoicaaGreat
open Go.RowKit

/-- what image.Bytes gives -/
def BytesOf (w : World) (x : Whole) (e : Ending) (w' : World) : Prop :=
  Below w.heap.size w w' ∧ (longWhole x = true → e = .returned (.tuple #[.slice none 0 0, .int .i64 4])) ∧
    (longWhole x = false → ∃ v, e = .returned (.tuple #[v, .int .i64 0]) ∧ w'.ownsRow 0 5 1 v (encWhole x ++ crcBytes (crcOf (encWhole x))).length (u8s (encWhole x ++ crcBytes (crcOf (encWhole x)))) ∧ ∀ k, v.ownBlock = some k → w.heap.size ≤ k)

theorem own_reads_u8 {w : World} {l : Bs} {A : Option Addr} {n c : Nat} (h : w.ownsRow 0 5 1 (.slice A n c) l.length (u8s l)) : ReadsU8 w A n l := by
  rcases h.2 with ⟨e, h0⟩ | ⟨g, cap, cur, e, _⟩
  · cases e
    exact ⟨h0, fun hn => absurd hn (by omega)⟩
  · cases e
    refine ⟨rfl, fun _ => ⟨g, 0, rfl, fun j hj => ?_⟩⟩
    have := h.cells (g := g) rfl j (.int .u8 ((l.getD j 0).toNat : Int)) (by simp [u8s, List.getD_eq_getElem?_getD, List.getElem?_eq_getElem hj])
    have ha : (⟨g, 0, none⟩ : Addr).add j = ⟨g, 0 + j, none⟩ := by unfold Addr.add; split <;> simp_all
    rwa [ha] at this
theorem u8s_one (l : Bs) : ∀ u ∈ u8s l, u.oneCell' = true := by
  intro u hu
  simp only [u8s, List.mem_map] at hu
  obtain ⟨b, _, rfl⟩ := hu
  rfl
theorem own_kept_none {w w' : World} {base e size n : Nat} {v : Value} {xs : List Value} (h : w.ownsRow base e size v n xs) (hg : w.grownBy w' none) : w'.ownsRow base e size v n xs :=
  h.kept hg (by cases v.ownBlock <;> simp)
theorem own_spot {w : World} {E sz n' : Nat} {xs : List Value} {A : Option Addr} {n c : Nat} (h : w.ownsRow 0 E sz (.slice A n c) n' xs) : ∀ a, A = some a → a.spot = none := by
  rcases h.2 with ⟨e, h0⟩ | ⟨g, cap, cur, e, _⟩
  · cases e; intro a g; cases g
  · cases e; intro a g; cases g; rfl
theorem below_of {w w' : World} (h : w.grownBy w' none) {B : Nat} (hB : B ≤ w.heap.size) : Below B w w' :=
  ⟨h.os, h.tape, h.output, h.size, fun k hk => h.block k (Nat.lt_of_lt_of_le hk hB) (by simp)⟩
theorem bytes_below {w w6 : World} {o1 o2 : Obj} (h : Upd (fun k => k = w.heap.size + 1 ∨ (Value.slice none 0 0).ownBlock = some k) ((w.alloc o1).alloc o2) w6) : Below w.heap.size w w6 := by
  have h1 : Upd (fun k => w.heap.size ≤ k) w w6 := ((Upd.alloc (fun k => w.heap.size ≤ k) w o1).trans (Upd.alloc (fun k => w.heap.size ≤ k) _ o2) (fun k g => .inl g)).trans h (fun k hk => .inl (by
    rcases hk with g | g
    · show w.heap.size ≤ k; omega
    · cases g))
  exact h1.below (Nat.le_refl _) (fun k hk => hk)

set_option maxHeartbeats 3200000 in
set_option maxRecDepth 100000 in
theorem img_Bytes (x : Whole) (cs : List Value) (w : World) (hx : elWhole w (fun k => k < w.heap.size) x cs) (hl : (encWhole x).length ≤ 1099511627000) :
    Calls Tryz.prog 14 #[.agg cs.toArray] w (BytesOf w x) := by
  obtain ⟨q1, q2, q3, q4, q5, rfl, hr1, hr2, hr3, hr4, hr5⟩ := hx
  obtain ⟨A1, n1, c1, rfl⟩ := hr1.form
  obtain ⟨A2, n2, c2, rfl⟩ := hr2.form
  obtain ⟨A3, n3, c3, rfl⟩ := hr3.form
  obtain ⟨A4, n4, c4, rfl⟩ := hr4.form
  obtain ⟨A5, n5, c5, rfl⟩ := hr5.form
  have hs2 : ((w.alloc (.cells #[.int .i64 x.clock, .int .i64 x.moment, .slice A1 n1 c1, .slice A2 n2 c2, .slice A3 n3 c3, .slice A4 n4 c4, .slice A5 n5 c5] 33)).alloc (.cells #[.slice none 0 0, .bool false] 129)).heap.size = w.heap.size + 2 := by rw [World.alloc_size', World.alloc_size']
  have hbx : ((w.alloc (.cells #[.int .i64 x.clock, .int .i64 x.moment, .slice A1 n1 c1, .slice A2 n2 c2, .slice A3 n3 c3, .slice A4 n4 c4, .slice A5 n5 c5] 33)).alloc (.cells #[.slice none 0 0, .bool false] 129)).heap[w.heap.size]? = some (.cells #[.int .i64 x.clock, .int .i64 x.moment, .slice A1 n1 c1, .slice A2 n2 c2, .slice A3 n3 c3, .slice A4 n4 c4, .slice A5 n5 c5] 33 (0, 0)) := heap_keep (World.grownBy_alloc _ _ none) (heap_alloc_new w _) (by simp)
  have hwb : ((w.alloc (.cells #[.int .i64 x.clock, .int .i64 x.moment, .slice A1 n1 c1, .slice A2 n2 c2, .slice A3 n3 c3, .slice A4 n4 c4, .slice A5 n5 c5] 33)).alloc (.cells #[.slice none 0 0, .bool false] 129)).heap[w.heap.size + 1]? = some (.cells #[.slice none 0 0, .bool false] 129 (0, 0)) := by
    have := heap_alloc_new (w.alloc (.cells #[.int .i64 x.clock, .int .i64 x.moment, .slice A1 n1 c1, .slice A2 n2 c2, .slice A3 n3 c3, .slice A4 n4 c4, .slice A5 n5 c5] 33)) (.cells #[.slice none 0 0, .bool false] 129)
    rw [World.alloc_size'] at this; exact this
  have hwat : WrAt ((w.alloc (.cells #[.int .i64 x.clock, .int .i64 x.moment, .slice A1 n1 c1, .slice A2 n2 c2, .slice A3 n3 c3, .slice A4 n4 c4, .slice A5 n5 c5] 33)).alloc (.cells #[.slice none 0 0, .bool false] 129)) (w.heap.size + 1) (.slice none 0 0) [] false (w.heap.size + 1) := ⟨hwb, World.ownsRow_nil .., by simp [Value.ownBlock], Nat.le_refl _, fun k hk => by cases hk⟩
  have ST0 : Hid (InList ((w.alloc (.cells #[.int .i64 x.clock, .int .i64 x.moment, .slice A1 n1 c1, .slice A2 n2 c2, .slice A3 n3 c3, .slice A4 n4 c4, .slice A5 n5 c5] 33)).alloc (.cells #[.slice none 0 0, .bool false] 129)) ((w.alloc (.cells #[.int .i64 x.clock, .int .i64 x.moment, .slice A1 n1 c1, .slice A2 n2 c2, .slice A3 n3 c3, .slice A4 n4 c4, .slice A5 n5 c5] 33)).alloc (.cells #[.slice none 0 0, .bool false] 129)) (w.heap.size + 1) (.slice none 0 0) (.slice none 0 0) [] false (w.heap.size + 1)) := ⟨hwat, .inl rfl, Upd.refl _ _⟩
  have hold : ∀ a : Addr, a.block < w.heap.size → ((w.alloc (.cells #[.int .i64 x.clock, .int .i64 x.moment, .slice A1 n1 c1, .slice A2 n2 c2, .slice A3 n3 c3, .slice A4 n4 c4, .slice A5 n5 c5] 33)).alloc (.cells #[.slice none 0 0, .bool false] 129)).cell? a = w.cell? a := fun a ha => ((Upd.alloc (fun _ => False) _ _).trans (Upd.alloc (fun _ => False) _ _) (fun _ g => g.elim)).cellEq ha (fun g => g)
  have hkeep : ∀ (wr : World) (v1 : Value) (l1 : Bs) (long1 : Bool), InList ((w.alloc (.cells #[.int .i64 x.clock, .int .i64 x.moment, .slice A1 n1 c1, .slice A2 n2 c2, .slice A3 n3 c3, .slice A4 n4 c4, .slice A5 n5 c5] 33)).alloc (.cells #[.slice none 0 0, .bool false] 129)) wr (w.heap.size + 1) (.slice none 0 0) v1 l1 long1 (w.heap.size + 1) → ∀ a : Addr, a.block < w.heap.size + 1 → wr.cell? a = ((w.alloc (.cells #[.int .i64 x.clock, .int .i64 x.moment, .slice A1 n1 c1, .slice A2 n2 c2, .slice A3 n3 c3, .slice A4 n4 c4, .slice A5 n5 c5] 33)).alloc (.cells #[.slice none 0 0, .bool false] 129)).cell? a :=
    fun wr v1 l1 long1 g => g.keepB (Nat.le_refl _) (fun k hk => by cases hk) (by omega)
  have hbox : ∀ (wr : World) (v1 : Value) (l1 : Bs) (long1 : Bool), InList ((w.alloc (.cells #[.int .i64 x.clock, .int .i64 x.moment, .slice A1 n1 c1, .slice A2 n2 c2, .slice A3 n3 c3, .slice A4 n4 c4, .slice A5 n5 c5] 33)).alloc (.cells #[.slice none 0 0, .bool false] 129)) wr (w.heap.size + 1) (.slice none 0 0) v1 l1 long1 (w.heap.size + 1) → ∀ i u, #[.int .i64 x.clock, .int .i64 x.moment, .slice A1 n1 c1, .slice A2 n2 c2, .slice A3 n3 c3, .slice A4 n4 c4, .slice A5 n5 c5][i]? = some u → wr.cell? ⟨w.heap.size, i, none⟩ = some u :=
    fun wr v1 l1 long1 g i u hu => (hkeep wr v1 l1 long1 g ⟨w.heap.size, i, none⟩ (Nat.lt_succ_self _)).trans (by rw [cell_of hbx]; exact hu)
  have HOLD := Lib.hid hold; have HKEEP := Lib.hid hkeep; have HBOX := Lib.hid hbox
  clear hbx hwb hwat hold hkeep hbox
  have hfin : encWhole x = [] ++ [x.clock, x.moment].flatMap encInt ++ encList encCell x.cells ++ encList encLine x.lines ++ encList encRow x.rows ++ encList encLive x.lives ++ encList encDone x.dones := by simp [encWhole]
  have hlong : longWhole x = (((((false || longList longCell x.cells) || longList longLine x.lines) || longList longRow x.rows) || longList longLive x.lives) || longList longDone x.dones) := by simp [longWhole]
  rw [hfin] at hl
  have HFIN := Lib.hid hfin; have HLONG := Lib.hid hlong; clear hfin hlong
  simp only [List.length_append, enc_ints_length, List.length_cons, List.length_nil] at hl
  have HR1 : Hid (∀ (wr : World) (v1 : Value) (l1 : Bs) (long1 : Bool), InList ((w.alloc (.cells #[.int .i64 x.clock, .int .i64 x.moment, .slice A1 n1 c1, .slice A2 n2 c2, .slice A3 n3 c3, .slice A4 n4 c4, .slice A5 n5 c5] 33)).alloc (.cells #[.slice none 0 0, .bool false] 129)) wr (w.heap.size + 1) (.slice none 0 0) v1 l1 long1 (w.heap.size + 1) → Rows wr (fun k => k < w.heap.size + 1) (elCell wr (fun k => k < w.heap.size + 1)) 2 (.slice A1 n1 c1) x.cells) := fun wr v1 l1 long1 g => hr1.imp (fun k hk => Nat.lt_succ_of_lt hk) (fun a ha => (HKEEP.out wr v1 l1 long1 g a (Nat.lt_succ_of_lt ha)).trans (HOLD.out a ha)) (fun y cs hy => hy.imp (fun k hk => Nat.lt_succ_of_lt hk) (fun a ha => (HKEEP.out wr v1 l1 long1 g a (Nat.lt_succ_of_lt ha)).trans (HOLD.out a ha)))
  clear hr1
  have HR2 : Hid (∀ (wr : World) (v1 : Value) (l1 : Bs) (long1 : Bool), InList ((w.alloc (.cells #[.int .i64 x.clock, .int .i64 x.moment, .slice A1 n1 c1, .slice A2 n2 c2, .slice A3 n3 c3, .slice A4 n4 c4, .slice A5 n5 c5] 33)).alloc (.cells #[.slice none 0 0, .bool false] 129)) wr (w.heap.size + 1) (.slice none 0 0) v1 l1 long1 (w.heap.size + 1) → Rows wr (fun k => k < w.heap.size + 1) (elLine wr (fun k => k < w.heap.size + 1)) 3 (.slice A2 n2 c2) x.lines) := fun wr v1 l1 long1 g => hr2.imp (fun k hk => Nat.lt_succ_of_lt hk) (fun a ha => (HKEEP.out wr v1 l1 long1 g a (Nat.lt_succ_of_lt ha)).trans (HOLD.out a ha)) (fun y cs hy => hy.imp (fun k hk => Nat.lt_succ_of_lt hk) (fun a ha => (HKEEP.out wr v1 l1 long1 g a (Nat.lt_succ_of_lt ha)).trans (HOLD.out a ha)))
  clear hr2
  have HR3 : Hid (∀ (wr : World) (v1 : Value) (l1 : Bs) (long1 : Bool), InList ((w.alloc (.cells #[.int .i64 x.clock, .int .i64 x.moment, .slice A1 n1 c1, .slice A2 n2 c2, .slice A3 n3 c3, .slice A4 n4 c4, .slice A5 n5 c5] 33)).alloc (.cells #[.slice none 0 0, .bool false] 129)) wr (w.heap.size + 1) (.slice none 0 0) v1 l1 long1 (w.heap.size + 1) → Rows wr (fun k => k < w.heap.size + 1) elRow 5 (.slice A3 n3 c3) x.rows) := fun wr v1 l1 long1 g => hr3.imp (fun k hk => Nat.lt_succ_of_lt hk) (fun a ha => (HKEEP.out wr v1 l1 long1 g a (Nat.lt_succ_of_lt ha)).trans (HOLD.out a ha)) (fun y cs hy => hy)
  clear hr3
  have HR4 : Hid (∀ (wr : World) (v1 : Value) (l1 : Bs) (long1 : Bool), InList ((w.alloc (.cells #[.int .i64 x.clock, .int .i64 x.moment, .slice A1 n1 c1, .slice A2 n2 c2, .slice A3 n3 c3, .slice A4 n4 c4, .slice A5 n5 c5] 33)).alloc (.cells #[.slice none 0 0, .bool false] 129)) wr (w.heap.size + 1) (.slice none 0 0) v1 l1 long1 (w.heap.size + 1) → Rows wr (fun k => k < w.heap.size + 1) (elLive wr (fun k => k < w.heap.size + 1)) 12 (.slice A4 n4 c4) x.lives) := fun wr v1 l1 long1 g => hr4.imp (fun k hk => Nat.lt_succ_of_lt hk) (fun a ha => (HKEEP.out wr v1 l1 long1 g a (Nat.lt_succ_of_lt ha)).trans (HOLD.out a ha)) (fun y cs hy => hy.imp (fun k hk => Nat.lt_succ_of_lt hk) (fun a ha => (HKEEP.out wr v1 l1 long1 g a (Nat.lt_succ_of_lt ha)).trans (HOLD.out a ha)))
  clear hr4
  have HR5 : Hid (∀ (wr : World) (v1 : Value) (l1 : Bs) (long1 : Bool), InList ((w.alloc (.cells #[.int .i64 x.clock, .int .i64 x.moment, .slice A1 n1 c1, .slice A2 n2 c2, .slice A3 n3 c3, .slice A4 n4 c4, .slice A5 n5 c5] 33)).alloc (.cells #[.slice none 0 0, .bool false] 129)) wr (w.heap.size + 1) (.slice none 0 0) v1 l1 long1 (w.heap.size + 1) → Rows wr (fun k => k < w.heap.size + 1) elDone 2 (.slice A5 n5 c5) x.dones) := fun wr v1 l1 long1 g => hr5.imp (fun k hk => Nat.lt_succ_of_lt hk) (fun a ha => (HKEEP.out wr v1 l1 long1 g a (Nat.lt_succ_of_lt ha)).trans (HOLD.out a ha)) (fun y cs hy => hy)
  clear hr5
  go_enter Tryz.func14, Tryz.ntmps14
  go_wp2_with fail
  (with_reducible refine (ls_ints ST0.out [x.clock, x.moment] 2 rfl (by first | omega | (simp only [List.length_append, enc_ints_length, List.length_cons, List.length_nil]; omega)) ?sz ?ar).mono ?_)
  case sz => exact hs2.symm
  case ar => rfl
  rintro e w1 ⟨rfl, v1, st⟩
  have ST1 := Lib.hid st
  have d2 := HBOX.out _ _ _ _ st 2 _ rfl
  clear st
  go_wp2_with fail
  (with_reducible refine (puts_Cell _ _ _ _ _ _ x.cells _ ST1.out.wat (HR1.out _ _ _ _ ST1.out) (by first | omega | (simp only [List.length_append, enc_ints_length, List.length_cons, List.length_nil]; omega))).mono ?_)
  rintro e w2 g
  obtain ⟨rfl, v2, st⟩ := ST1.out.step g
  clear g d2
  have ST2 := Lib.hid st
  have d3 := HBOX.out _ _ _ _ st 3 _ rfl
  clear st
  go_wp2_with fail
  (with_reducible refine (puts_Line _ _ _ _ _ _ x.lines _ ST2.out.wat (HR2.out _ _ _ _ ST2.out) (by first | omega | (simp only [List.length_append, enc_ints_length, List.length_cons, List.length_nil]; omega))).mono ?_)
  rintro e w3 g
  obtain ⟨rfl, v3, st⟩ := ST2.out.step g
  clear g d3
  have ST3 := Lib.hid st
  have d4 := HBOX.out _ _ _ _ st 4 _ rfl
  clear st
  go_wp2_with fail
  (with_reducible refine (puts_Row _ _ _ _ _ _ x.rows _ ST3.out.wat (HR3.out _ _ _ _ ST3.out) (by first | omega | (simp only [List.length_append, enc_ints_length, List.length_cons, List.length_nil]; omega))).mono ?_)
  rintro e w4 g
  obtain ⟨rfl, v4, st⟩ := ST3.out.step g
  clear g d4
  have ST4 := Lib.hid st
  have d5 := HBOX.out _ _ _ _ st 5 _ rfl
  clear st
  go_wp2_with fail
  (with_reducible refine (puts_Live _ _ _ _ _ _ x.lives _ ST4.out.wat (HR4.out _ _ _ _ ST4.out) (by first | omega | (simp only [List.length_append, enc_ints_length, List.length_cons, List.length_nil]; omega))).mono ?_)
  rintro e w5 g
  obtain ⟨rfl, v5, st⟩ := ST4.out.step g
  clear g d5
  have ST5 := Lib.hid st
  have d6 := HBOX.out _ _ _ _ st 6 _ rfl
  clear st
  go_wp2_with fail
  (with_reducible refine (puts_Done _ _ _ _ _ _ x.dones _ ST5.out.wat (HR5.out _ _ _ _ ST5.out) (by first | omega | (simp only [List.length_append, enc_ints_length, List.length_cons, List.length_nil]; omega))).mono ?_)
  rintro e w6 g
  obtain ⟨rfl, v6, st⟩ := ST5.out.step g
  clear g d6
  have ST6 := Lib.hid st
  rw [← HFIN.out, ← HLONG.out] at ST6
  clear st
  have e1 : w6.cell? ⟨w.heap.size + 1, 1, none⟩ = some (.bool (longWhole x)) := by rw [cell_of ST6.out.wat.heap]; rfl
  have e0 : w6.cell? ⟨w.heap.size + 1, 0, none⟩ = some v6 := by rw [cell_of ST6.out.wat.heap]; rfl
  have hbel : Below w.heap.size w w6 := bytes_below ST6.out.upd
  have HBEL := Lib.hid hbel; clear hbel
  generalize hlw : longWhole x = lw at *
  have HLW := Lib.hid hlw; clear hlw
  cases lw
  · obtain ⟨A6, n6, c6, rfl⟩ := own_form ST6.out.wat.row
    have hrd := own_reads_u8 ST6.out.wat.row
    have hsp := own_spot ST6.out.wat.row
    have hvl : ∀ a, A6 = some a → a.block < w6.heap.size := fun a g => ST6.out.wat.vlt a.block (by rw [g]; rfl)
    have hn6 := hrd.1
    have hlen6 : n6 ≤ 1099511627000 := by rw [← hn6, HFIN.out]; simp only [List.length_append, enc_ints_length, List.length_cons, List.length_nil]; omega
    have hne : ∀ a, A6 = some a → a.block ≠ w.heap.size + 1 := fun a g e => ST6.out.wat.ne (by rw [g]; show some a.block = _; rw [e])
    obtain ⟨i0, hi0, hz0, hz1, hz2⟩ := info_parts Tryz.info5
    have hlx : (encWhole x).length ≤ 1099511627000 := by rw [hn6]; exact hlen6
    have HRD := Lib.hid hrd; have HVL := Lib.hid hvl; have HN6 := Lib.hid hn6; have HOWN := Lib.hid ST6.out.wat.row; have HNE := Lib.hid hne
    have HBV := Lib.hid ST6.out.wat.baseV
    have hlt1 : w.heap.size + 1 < w6.heap.size := ST6.out.wat.lt
    clear hrd hvl hn6 hne
    go_wp2_with fail
    go_region_held3 (fun w' => w'.cell? ⟨w.heap.size + 1, 0, none⟩ = some (.slice A6 n6 c6))
      (first | assumption | go_keep)
      ((first
        | (go_at_call 36; refine (crc_Of A6 n6 c6 (encWhole x) _ (by exact HRD.out) (by exact HVL.out) (by omega)).mono ?_; rintro e w7 ⟨rfl, p1⟩; have k7 : w7.cell? ⟨w.heap.size + 1, 0, none⟩ = some (.slice A6 n6 c6) := p1.cell (by exact e0) (by simp); have P1 := Lib.hid p1; clear p1)
        | (go_at_call 35; refine (crc_Bytes _ _).mono ?_; rintro e w8 ⟨v8, rfl, q1, q2⟩; obtain ⟨g8, c8, rfl, _, _⟩ := q1.form (by omega); have hcl8 := Lib.hid (q1.cells (g := g8) rfl); have hO8 := Lib.hid (own_kept_none (own_kept_none HOWN.out (grownBy_from_drewN (n := 1) P1.out)) q2.g); have k8 : w8.cell? ⟨w.heap.size + 1, 0, none⟩ = some (.slice A6 n6 c6) := q2.g.cell (by assumption) (by simp [Value.ownBlock]); have Q1 := Lib.hid q1; have Q2 := Lib.hid q2; clear q1 q2)
        | (refine step_append_lies _ (by rfl) _ _ _ (by rfl) 0 5 i0 _ 1 1 Tryz.underlying22 hi0 hz0 hz1 hz2 rfl (by omega) (.slice A6 n6 c6) (encWhole x).length (u8s (encWhole x)) (by rfl) hO8.out ⟨g8, 0, none⟩ 4 c8 (u8s (crcBytes (crcOf (encWhole x)))) (by rfl) (by rfl) hcl8.out (u8s_one _) (by omega) (by simp only [maxLen]; omega) (by omega) (by omega) w8.heap.size rfl ?_; intro g9 cap9 w9 hown9 hgrow9 hat9 hlt9; have k9 : w9.cell? ⟨w.heap.size + 1, 0, none⟩ = some (.slice A6 n6 c6) := hgrow9.cell k8 (fun e => ST6.out.wat.ne e.symm); have HO9 := Lib.hid hown9; have HG9 := Lib.hid hgrow9; have HA9 := Lib.hid hat9; clear hown9 hgrow9 hat9)))
    go_wp2_with fail
    go_ret2
    have hbel : Below w.heap.size w6 w9 := by
      have b1 : Below w.heap.size w6 w8 := (below_of (grownBy_from_drewN (n := 1) P1.out) (by omega)).trans (below_of Q2.out.g (by have := (grownBy_from_drewN (n := 1) P1.out).size; omega))
      refine b1.trans ⟨HG9.out.os, HG9.out.tape, HG9.out.output, HG9.out.size, fun k hk => HG9.out.block k (by have := b1.size; omega) (fun e => by have := HBV.out k e.symm; omega)⟩
    refine ⟨HBEL.out.trans hbel, fun g => (by rw [HLW.out] at g; cases g), fun _ => ⟨_, rfl, ?_, ?_⟩⟩
    · rw [List.length_append, u8s_append]; exact HO9.out
    · intro k hk
      have hk : g9 = k := by simpa [Value.ownBlock] using hk
      subst hk
      rcases HA9.out with e | e
      · have := HBV.out g9 e; omega
      · have b1 : Below w.heap.size w6 w8 := (below_of (grownBy_from_drewN (n := 1) P1.out) (by omega)).trans (below_of Q2.out.g (by have := (grownBy_from_drewN (n := 1) P1.out).size; omega))
        have := b1.size; omega
  · go_wp2_with fail
    go_ret2
    exact ⟨HBEL.out, fun _ => rfl, fun g => by rw [HLW.out] at g; cases g⟩
end Go.Proofs.YtllkjfadeaoicaaGreat

set_option linter.unusedVariables false
set_option linter.unusedSimpArgs false
namespace Go.Proofs.YtllkjfadeaoicaaGreat
open Go.RowKit

/-- what image.Read gives -/
def ReadOf (w : World) (l : Bs) (e : Ending) (w' : World) : Prop :=
  Below w.heap.size w w' ∧ ∃ cs, e = .returned (.tuple #[.agg cs.toArray, .int .i64 (readWhole l).2]) ∧ elWhole w' (fun k => w.heap.size ≤ k ∧ k < w'.heap.size) (readWhole l).1 cs

theorem ReadOf.mk' {w w' : World} {l : Bs} {e : Ending} {r : Whole} {n : Int} {cs : List Value} (h : readWhole l = (r, n)) (hb : Below w.heap.size w w')
    (he : e = .returned (.tuple #[.agg cs.toArray, .int .i64 n])) (hel : elWhole w' (fun k => w.heap.size ≤ k ∧ k < w'.heap.size) r cs) : ReadOf w l e w' := by
  unfold ReadOf; rw [h]; exact ⟨hb, cs, he, hel⟩
theorem rows_nil {α : Type} (w : World) (S : Nat → Prop) (el : α → List Value → Prop) (sz : Nat) : Rows w S el sz (.slice none 0 0) [] := ⟨none, 0, 0, rfl, rfl, Nat.le_refl _, by omega, fun h => by omega⟩
theorem el_empty (w : World) (S : Nat → Prop) : elWhole w S Whole.empty [.int .i64 0, .int .i64 0, .slice none 0 0, .slice none 0 0, .slice none 0 0, .slice none 0 0, .slice none 0 0] :=
  ⟨_, _, _, _, _, rfl, rows_nil .., rows_nil .., rows_nil .., rows_nil .., rows_nil ..⟩
theorem Upd.below' {S : Nat → Prop} {w w' : World} (h : Upd S w w') (hn : ∀ k, S k → w.heap.size ≤ k) : Below w.heap.size w w' := h.below (Nat.le_refl _) hn

set_option maxHeartbeats 1600000 in
set_option maxRecDepth 100000 in
theorem img_Read_short (A : Option Addr) (n c : Nat) (l : Bs) (w : World) (hl : l.length = n) (hn : n < 4) :
    Calls Tryz.prog 13 #[.slice A n c] w (ReadOf w l) := by
  have hres := heap_alloc_new w (.cells #[.int .i64 0, .int .i64 0, .slice none 0 0, .slice none 0 0, .slice none 0 0, .slice none 0 0, .slice none 0 0] 33)
  have hfin : readWhole l = (Whole.empty, 2) := by unfold readWhole; rw [if_pos (by omega)]
  have HFIN := Lib.hid hfin; clear hfin
  have r0 : (w.alloc (.cells #[.int .i64 0, .int .i64 0, .slice none 0 0, .slice none 0 0, .slice none 0 0, .slice none 0 0, .slice none 0 0] 33)).cell? ⟨w.heap.size, 0, none⟩ = some (.int .i64 0) := by rw [cell_of hres]; rfl
  have f0 : (w.alloc (.cells #[.int .i64 0, .int .i64 0, .slice none 0 0, .slice none 0 0, .slice none 0 0, .slice none 0 0, .slice none 0 0] 33)).frozen? ⟨w.heap.size, 0, none⟩ = false := frozen_of hres 0
  have r1 : (w.alloc (.cells #[.int .i64 0, .int .i64 0, .slice none 0 0, .slice none 0 0, .slice none 0 0, .slice none 0 0, .slice none 0 0] 33)).cell? ⟨w.heap.size, 1, none⟩ = some (.int .i64 0) := by rw [cell_of hres]; rfl
  have f1 : (w.alloc (.cells #[.int .i64 0, .int .i64 0, .slice none 0 0, .slice none 0 0, .slice none 0 0, .slice none 0 0, .slice none 0 0] 33)).frozen? ⟨w.heap.size, 1, none⟩ = false := frozen_of hres 1
  have r2 : (w.alloc (.cells #[.int .i64 0, .int .i64 0, .slice none 0 0, .slice none 0 0, .slice none 0 0, .slice none 0 0, .slice none 0 0] 33)).cell? ⟨w.heap.size, 2, none⟩ = some (.slice none 0 0) := by rw [cell_of hres]; rfl
  have f2 : (w.alloc (.cells #[.int .i64 0, .int .i64 0, .slice none 0 0, .slice none 0 0, .slice none 0 0, .slice none 0 0, .slice none 0 0] 33)).frozen? ⟨w.heap.size, 2, none⟩ = false := frozen_of hres 2
  have r3 : (w.alloc (.cells #[.int .i64 0, .int .i64 0, .slice none 0 0, .slice none 0 0, .slice none 0 0, .slice none 0 0, .slice none 0 0] 33)).cell? ⟨w.heap.size, 3, none⟩ = some (.slice none 0 0) := by rw [cell_of hres]; rfl
  have f3 : (w.alloc (.cells #[.int .i64 0, .int .i64 0, .slice none 0 0, .slice none 0 0, .slice none 0 0, .slice none 0 0, .slice none 0 0] 33)).frozen? ⟨w.heap.size, 3, none⟩ = false := frozen_of hres 3
  have r4 : (w.alloc (.cells #[.int .i64 0, .int .i64 0, .slice none 0 0, .slice none 0 0, .slice none 0 0, .slice none 0 0, .slice none 0 0] 33)).cell? ⟨w.heap.size, 4, none⟩ = some (.slice none 0 0) := by rw [cell_of hres]; rfl
  have f4 : (w.alloc (.cells #[.int .i64 0, .int .i64 0, .slice none 0 0, .slice none 0 0, .slice none 0 0, .slice none 0 0, .slice none 0 0] 33)).frozen? ⟨w.heap.size, 4, none⟩ = false := frozen_of hres 4
  have r5 : (w.alloc (.cells #[.int .i64 0, .int .i64 0, .slice none 0 0, .slice none 0 0, .slice none 0 0, .slice none 0 0, .slice none 0 0] 33)).cell? ⟨w.heap.size, 5, none⟩ = some (.slice none 0 0) := by rw [cell_of hres]; rfl
  have f5 : (w.alloc (.cells #[.int .i64 0, .int .i64 0, .slice none 0 0, .slice none 0 0, .slice none 0 0, .slice none 0 0, .slice none 0 0] 33)).frozen? ⟨w.heap.size, 5, none⟩ = false := frozen_of hres 5
  have r6 : (w.alloc (.cells #[.int .i64 0, .int .i64 0, .slice none 0 0, .slice none 0 0, .slice none 0 0, .slice none 0 0, .slice none 0 0] 33)).cell? ⟨w.heap.size, 6, none⟩ = some (.slice none 0 0) := by rw [cell_of hres]; rfl
  have f6 : (w.alloc (.cells #[.int .i64 0, .int .i64 0, .slice none 0 0, .slice none 0 0, .slice none 0 0, .slice none 0 0, .slice none 0 0] 33)).frozen? ⟨w.heap.size, 6, none⟩ = false := frozen_of hres 6
  clear hres
  go_enter Tryz.func13, Tryz.ntmps13
  go_wp2_with fail
  refine bodyPost_ret (v := .tuple #[.agg #[.int .i64 0, .int .i64 0, .slice none 0 0, .slice none 0 0, .slice none 0 0, .slice none 0 0, .slice none 0 0], .int .i64 2]) ?_ rfl ?_
  · simp [results, Tryz.results13, go_sem, r0, r1, r2, r3, r4, r5, r6]
  exact ReadOf.mk' HFIN.out ((Upd.alloc (fun k => k = w.heap.size) w _).below' (fun k g => Nat.le_of_eq g.symm)) (cs := [.int .i64 0, .int .i64 0, .slice none 0 0, .slice none 0 0, .slice none 0 0, .slice none 0 0, .slice none 0 0]) rfl (el_empty _ _)

set_option maxHeartbeats 1000000 in
set_option maxRecDepth 100000 in
theorem img_Read_sum (b o k c : Nat) (l : Bs) (w : World) (hr : ReadsU8 w (some ⟨b, o, none⟩) (k + 4) l) (hb : b < w.heap.size) (hnc : k + 4 ≤ c) (hc : c ≤ 9223372036854775807) (hne : crcBytes (crcOf (l.take k)) ≠ l.drop k) :
    Calls Tryz.prog 13 #[.slice (some ⟨b, o, none⟩) (k + 4 : Nat) c] w (ReadOf w l) := by
  have hres := heap_alloc_new w (.cells #[.int .i64 0, .int .i64 0, .slice none 0 0, .slice none 0 0, .slice none 0 0, .slice none 0 0, .slice none 0 0] 33)
  have hl := hr.1
  have hfin : readWhole l = (Whole.empty, 3) := by unfold readWhole; rw [if_neg (by omega), show l.length - 4 = k from by omega, if_neg hne]
  have HFIN := Lib.hid hfin; clear hfin
  have hk0 : ReadsU8 (w.alloc (.cells #[.int .i64 0, .int .i64 0, .slice none 0 0, .slice none 0 0, .slice none 0 0, .slice none 0 0, .slice none 0 0] 33)) (some ⟨b, o, none⟩) (k + 4) l := hr.keep (World.grownBy_alloc _ _ none) (by simp)
  have hrt := hk0.take (k := k) (by omega)
  have hrd := hk0.drop (k := k) (by omega)
  rw [show k + 4 - k = 4 from by omega] at hrd
  have HRT := Lib.hid hrt; have HRD := Lib.hid hrd; have HRES := Lib.hid hres
  have HBEQ : Hid ((crcBytes (crcOf (l.take k)) == l.drop k) = false) := by
    show (crcBytes (crcOf (l.take k)) == l.drop k) = false
    simp [hne]
  clear hk0 hrt hrd hne
  have hb' : b < (w.alloc (.cells #[.int .i64 0, .int .i64 0, .slice none 0 0, .slice none 0 0, .slice none 0 0, .slice none 0 0, .slice none 0 0] 33)).heap.size := by rw [World.alloc_size']; omega
  have HB := Lib.hid hb'; clear hb'
  have r0 : (w.alloc (.cells #[.int .i64 0, .int .i64 0, .slice none 0 0, .slice none 0 0, .slice none 0 0, .slice none 0 0, .slice none 0 0] 33)).cell? ⟨w.heap.size, 0, none⟩ = some (.int .i64 0) := by rw [cell_of hres]; rfl
  have f0 : (w.alloc (.cells #[.int .i64 0, .int .i64 0, .slice none 0 0, .slice none 0 0, .slice none 0 0, .slice none 0 0, .slice none 0 0] 33)).frozen? ⟨w.heap.size, 0, none⟩ = false := frozen_of hres 0
  have r1 : (w.alloc (.cells #[.int .i64 0, .int .i64 0, .slice none 0 0, .slice none 0 0, .slice none 0 0, .slice none 0 0, .slice none 0 0] 33)).cell? ⟨w.heap.size, 1, none⟩ = some (.int .i64 0) := by rw [cell_of hres]; rfl
  have f1 : (w.alloc (.cells #[.int .i64 0, .int .i64 0, .slice none 0 0, .slice none 0 0, .slice none 0 0, .slice none 0 0, .slice none 0 0] 33)).frozen? ⟨w.heap.size, 1, none⟩ = false := frozen_of hres 1
  have r2 : (w.alloc (.cells #[.int .i64 0, .int .i64 0, .slice none 0 0, .slice none 0 0, .slice none 0 0, .slice none 0 0, .slice none 0 0] 33)).cell? ⟨w.heap.size, 2, none⟩ = some (.slice none 0 0) := by rw [cell_of hres]; rfl
  have f2 : (w.alloc (.cells #[.int .i64 0, .int .i64 0, .slice none 0 0, .slice none 0 0, .slice none 0 0, .slice none 0 0, .slice none 0 0] 33)).frozen? ⟨w.heap.size, 2, none⟩ = false := frozen_of hres 2
  have r3 : (w.alloc (.cells #[.int .i64 0, .int .i64 0, .slice none 0 0, .slice none 0 0, .slice none 0 0, .slice none 0 0, .slice none 0 0] 33)).cell? ⟨w.heap.size, 3, none⟩ = some (.slice none 0 0) := by rw [cell_of hres]; rfl
  have f3 : (w.alloc (.cells #[.int .i64 0, .int .i64 0, .slice none 0 0, .slice none 0 0, .slice none 0 0, .slice none 0 0, .slice none 0 0] 33)).frozen? ⟨w.heap.size, 3, none⟩ = false := frozen_of hres 3
  have r4 : (w.alloc (.cells #[.int .i64 0, .int .i64 0, .slice none 0 0, .slice none 0 0, .slice none 0 0, .slice none 0 0, .slice none 0 0] 33)).cell? ⟨w.heap.size, 4, none⟩ = some (.slice none 0 0) := by rw [cell_of hres]; rfl
  have f4 : (w.alloc (.cells #[.int .i64 0, .int .i64 0, .slice none 0 0, .slice none 0 0, .slice none 0 0, .slice none 0 0, .slice none 0 0] 33)).frozen? ⟨w.heap.size, 4, none⟩ = false := frozen_of hres 4
  have r5 : (w.alloc (.cells #[.int .i64 0, .int .i64 0, .slice none 0 0, .slice none 0 0, .slice none 0 0, .slice none 0 0, .slice none 0 0] 33)).cell? ⟨w.heap.size, 5, none⟩ = some (.slice none 0 0) := by rw [cell_of hres]; rfl
  have f5 : (w.alloc (.cells #[.int .i64 0, .int .i64 0, .slice none 0 0, .slice none 0 0, .slice none 0 0, .slice none 0 0, .slice none 0 0] 33)).frozen? ⟨w.heap.size, 5, none⟩ = false := frozen_of hres 5
  have r6 : (w.alloc (.cells #[.int .i64 0, .int .i64 0, .slice none 0 0, .slice none 0 0, .slice none 0 0, .slice none 0 0, .slice none 0 0] 33)).cell? ⟨w.heap.size, 6, none⟩ = some (.slice none 0 0) := by rw [cell_of hres]; rfl
  have f6 : (w.alloc (.cells #[.int .i64 0, .int .i64 0, .slice none 0 0, .slice none 0 0, .slice none 0 0, .slice none 0 0, .slice none 0 0] 33)).frozen? ⟨w.heap.size, 6, none⟩ = false := frozen_of hres 6
  have i0 : (0 : Int) ≤ (k : Int) := by omega
  have i1 : (k : Int) ≤ (c : Int) := by omega
  have i2 : ((k : Int) + 4) ≤ (c : Int) := by omega
  have i3 : (k : Int) ≤ (k : Int) + 4 := by omega
  have i4 : ((k + 4 : Nat) : Int) ≤ (c : Int) := by omega
  have i5 : (k : Int) ≤ ((k + 4 : Nat) : Int) := by omega
  have i6 : k ≠ c := by omega
  clear hres hr
  go_enter Tryz.func13, Tryz.ntmps13
  go_wp2_with fail
  go_region_held3 (fun _ => True) (first | trivial | assumption | go_keep)
    (first
      | (go_at_call 36; refine (crc_Of (some ⟨b, o, none⟩) k _ (l.take k) _ (by exact HRT.out) (by intro a g; cases g; exact HB.out) (by omega)).mono ?_; rintro e w7 ⟨rfl, p1⟩; have P1 := Lib.hid p1; clear p1)
      | (go_at_call 35; refine (crc_Bytes _ _).mono ?_; rintro e w8 ⟨v8, rfl, q1, q2⟩; obtain ⟨g8, c8, rfl, _, _⟩ := q1.form (by omega); have Q1 := Lib.hid (own_reads_u8 (l := crcBytes (crcOf (l.take k))) q1); have Q2 := Lib.hid q2.g; clear q1 q2)
      | (go_at_call 34; refine (bytes_Equal (some ⟨g8, 0, none⟩) (some ⟨b, o + k, none⟩) 4 4 c8 _ (crcBytes (crcOf (l.take k))) (l.drop k) _ (by exact Q1.out) (by exact (HRD.out.keep (grownBy_from_drewN (n := 1) P1.out) (by simp)).keep Q2.out (by simp [Value.ownBlock])) (fun a g => by cases g; rfl) (fun a g => by cases g; rfl)).mono ?_; rintro e w9 ⟨rfl, rfl⟩; rw [HBEQ.out]))
  have g17 := Lib.hid (grownBy_from_drewN (n := 1) P1.out)
  have hres8 : w8.heap[w.heap.size]? = some (.cells #[.int .i64 0, .int .i64 0, .slice none 0 0, .slice none 0 0, .slice none 0 0, .slice none 0 0, .slice none 0 0] 33 (0, 0)) := heap_keep Q2.out (heap_keep g17.out HRES.out (by simp)) (by simp [Value.ownBlock])
  have hup8 : Upd (fun k => k = w.heap.size) w w8 := ((Upd.alloc _ w _).trans (Upd.of_grown g17.out) (fun k g => by cases g)).trans (Upd.of_grown Q2.out) (fun k g => by cases g)
  have HUP8 := Lib.hid hup8; clear hup8
  clear r0 r1 r2 r3 r4 r5 r6 f0 f1 f2 f3 f4 f5 f6
  have r0 : w8.cell? ⟨w.heap.size, 0, none⟩ = some (.int .i64 0) := by rw [cell_of hres8]; rfl
  have f0 : w8.frozen? ⟨w.heap.size, 0, none⟩ = false := frozen_of hres8 0
  have r1 : w8.cell? ⟨w.heap.size, 1, none⟩ = some (.int .i64 0) := by rw [cell_of hres8]; rfl
  have f1 : w8.frozen? ⟨w.heap.size, 1, none⟩ = false := frozen_of hres8 1
  have r2 : w8.cell? ⟨w.heap.size, 2, none⟩ = some (.slice none 0 0) := by rw [cell_of hres8]; rfl
  have f2 : w8.frozen? ⟨w.heap.size, 2, none⟩ = false := frozen_of hres8 2
  have r3 : w8.cell? ⟨w.heap.size, 3, none⟩ = some (.slice none 0 0) := by rw [cell_of hres8]; rfl
  have f3 : w8.frozen? ⟨w.heap.size, 3, none⟩ = false := frozen_of hres8 3
  have r4 : w8.cell? ⟨w.heap.size, 4, none⟩ = some (.slice none 0 0) := by rw [cell_of hres8]; rfl
  have f4 : w8.frozen? ⟨w.heap.size, 4, none⟩ = false := frozen_of hres8 4
  have r5 : w8.cell? ⟨w.heap.size, 5, none⟩ = some (.slice none 0 0) := by rw [cell_of hres8]; rfl
  have f5 : w8.frozen? ⟨w.heap.size, 5, none⟩ = false := frozen_of hres8 5
  have r6 : w8.cell? ⟨w.heap.size, 6, none⟩ = some (.slice none 0 0) := by rw [cell_of hres8]; rfl
  have f6 : w8.frozen? ⟨w.heap.size, 6, none⟩ = false := frozen_of hres8 6
  clear hres8
  go_wp2_with fail
  refine bodyPost_ret (v := .tuple #[.agg #[.int .i64 0, .int .i64 0, .slice none 0 0, .slice none 0 0, .slice none 0 0, .slice none 0 0, .slice none 0 0], .int .i64 3]) ?_ rfl ?_
  · simp [results, Tryz.results13, go_sem, r0, r1, r2, r3, r4, r5, r6]
  have hset : Upd (fun k => k = w.heap.size) w8 (((((((w8.setCell ⟨w.heap.size, 0, none⟩ (.int .i64 0)).setCell ⟨w.heap.size, 1, none⟩ (.int .i64 0)).setCell ⟨w.heap.size, 2, none⟩ (.slice none 0 0)).setCell ⟨w.heap.size, 3, none⟩ (.slice none 0 0)).setCell ⟨w.heap.size, 4, none⟩ (.slice none 0 0)).setCell ⟨w.heap.size, 5, none⟩ (.slice none 0 0)).setCell ⟨w.heap.size, 6, none⟩ (.slice none 0 0)) := (Upd.trans (Upd.trans (Upd.trans (Upd.trans (Upd.trans (Upd.trans (Upd.set w8 w.heap.size 0 (.int .i64 0)) (Upd.set _ w.heap.size 1 (.int .i64 0)) (fun k g => .inl g)) (Upd.set _ w.heap.size 2 (.slice none 0 0)) (fun k g => .inl g)) (Upd.set _ w.heap.size 3 (.slice none 0 0)) (fun k g => .inl g)) (Upd.set _ w.heap.size 4 (.slice none 0 0)) (fun k g => .inl g)) (Upd.set _ w.heap.size 5 (.slice none 0 0)) (fun k g => .inl g)) (Upd.set _ w.heap.size 6 (.slice none 0 0)) (fun k g => .inl g))
  have hbel := (HUP8.out.trans hset (fun k g => .inl g)).below' (fun k g => Nat.le_of_eq g.symm)
  exact ReadOf.mk' HFIN.out hbel (cs := [.int .i64 0, .int .i64 0, .slice none 0 0, .slice none 0 0, .slice none 0 0, .slice none 0 0, .slice none 0 0]) rfl (el_empty _ _)

set_option maxHeartbeats 1600000 in
set_option maxRecDepth 100000 in
theorem img_Read_good (y : Bool) (b o k c : Nat) (l : Bs) (w : World) (hr : ReadsU8 w (some ⟨b, o, none⟩) (k + 4) l) (hb : b < w.heap.size) (hnc : k + 4 ≤ c) (hc : c ≤ 9223372036854775807) (hne : crcBytes (crcOf (l.take k)) = l.drop k)
    (hy : (!(takeWhole (⟨l.take k, false⟩ : Rdr)).2.bad && (takeWhole (⟨l.take k, false⟩ : Rdr)).2.b.isEmpty) = y) :
    Calls Tryz.prog 13 #[.slice (some ⟨b, o, none⟩) (k + 4 : Nat) c] w (ReadOf w l) := by
  have hres := heap_alloc_new w (.cells #[.int .i64 0, .int .i64 0, .slice none 0 0, .slice none 0 0, .slice none 0 0, .slice none 0 0, .slice none 0 0] 33)
  have hl := hr.1
  have hfin : readWhole l = if y then ((takeWhole (⟨l.take k, false⟩ : Rdr)).1, 0) else (Whole.empty, 2) := by unfold readWhole; rw [if_neg (by omega), show l.length - 4 = k from by omega, if_pos hne]; simp only [hy]
  have HFIN := Lib.hid hfin; clear hfin
  have HY : Hid ((!(takeList takeDone (takeList takeLive (takeList takeRow (takeList takeLine (takeList takeCell (takeNum (takeNum (⟨l.take k, false⟩ : Rdr)).2).2).2).2).2).2).2.bad && (takeList takeDone (takeList takeLive (takeList takeRow (takeList takeLine (takeList takeCell (takeNum (takeNum (⟨l.take k, false⟩ : Rdr)).2).2).2).2).2).2).2.b.isEmpty) = y) := hy
  clear hy
  have hk0 : ReadsU8 (w.alloc (.cells #[.int .i64 0, .int .i64 0, .slice none 0 0, .slice none 0 0, .slice none 0 0, .slice none 0 0, .slice none 0 0] 33)) (some ⟨b, o, none⟩) (k + 4) l := hr.keep (World.grownBy_alloc _ _ none) (by simp)
  have hrt := hk0.take (k := k) (by omega)
  have hrd := hk0.drop (k := k) (by omega)
  rw [show k + 4 - k = 4 from by omega] at hrd
  have HRT := Lib.hid hrt; have HRD := Lib.hid hrd; have HRES := Lib.hid hres
  have HBEQ : Hid ((crcBytes (crcOf (l.take k)) == l.drop k) = true) := by
    show (crcBytes (crcOf (l.take k)) == l.drop k) = true
    simp [hne]
  clear hk0 hrt hrd hne
  have hb' : b < (w.alloc (.cells #[.int .i64 0, .int .i64 0, .slice none 0 0, .slice none 0 0, .slice none 0 0, .slice none 0 0, .slice none 0 0] 33)).heap.size := by rw [World.alloc_size']; omega
  have HB := Lib.hid hb'; clear hb'
  have r0 : (w.alloc (.cells #[.int .i64 0, .int .i64 0, .slice none 0 0, .slice none 0 0, .slice none 0 0, .slice none 0 0, .slice none 0 0] 33)).cell? ⟨w.heap.size, 0, none⟩ = some (.int .i64 0) := by rw [cell_of hres]; rfl
  have f0 : (w.alloc (.cells #[.int .i64 0, .int .i64 0, .slice none 0 0, .slice none 0 0, .slice none 0 0, .slice none 0 0, .slice none 0 0] 33)).frozen? ⟨w.heap.size, 0, none⟩ = false := frozen_of hres 0
  have r1 : (w.alloc (.cells #[.int .i64 0, .int .i64 0, .slice none 0 0, .slice none 0 0, .slice none 0 0, .slice none 0 0, .slice none 0 0] 33)).cell? ⟨w.heap.size, 1, none⟩ = some (.int .i64 0) := by rw [cell_of hres]; rfl
  have f1 : (w.alloc (.cells #[.int .i64 0, .int .i64 0, .slice none 0 0, .slice none 0 0, .slice none 0 0, .slice none 0 0, .slice none 0 0] 33)).frozen? ⟨w.heap.size, 1, none⟩ = false := frozen_of hres 1
  have r2 : (w.alloc (.cells #[.int .i64 0, .int .i64 0, .slice none 0 0, .slice none 0 0, .slice none 0 0, .slice none 0 0, .slice none 0 0] 33)).cell? ⟨w.heap.size, 2, none⟩ = some (.slice none 0 0) := by rw [cell_of hres]; rfl
  have f2 : (w.alloc (.cells #[.int .i64 0, .int .i64 0, .slice none 0 0, .slice none 0 0, .slice none 0 0, .slice none 0 0, .slice none 0 0] 33)).frozen? ⟨w.heap.size, 2, none⟩ = false := frozen_of hres 2
  have r3 : (w.alloc (.cells #[.int .i64 0, .int .i64 0, .slice none 0 0, .slice none 0 0, .slice none 0 0, .slice none 0 0, .slice none 0 0] 33)).cell? ⟨w.heap.size, 3, none⟩ = some (.slice none 0 0) := by rw [cell_of hres]; rfl
  have f3 : (w.alloc (.cells #[.int .i64 0, .int .i64 0, .slice none 0 0, .slice none 0 0, .slice none 0 0, .slice none 0 0, .slice none 0 0] 33)).frozen? ⟨w.heap.size, 3, none⟩ = false := frozen_of hres 3
  have r4 : (w.alloc (.cells #[.int .i64 0, .int .i64 0, .slice none 0 0, .slice none 0 0, .slice none 0 0, .slice none 0 0, .slice none 0 0] 33)).cell? ⟨w.heap.size, 4, none⟩ = some (.slice none 0 0) := by rw [cell_of hres]; rfl
  have f4 : (w.alloc (.cells #[.int .i64 0, .int .i64 0, .slice none 0 0, .slice none 0 0, .slice none 0 0, .slice none 0 0, .slice none 0 0] 33)).frozen? ⟨w.heap.size, 4, none⟩ = false := frozen_of hres 4
  have r5 : (w.alloc (.cells #[.int .i64 0, .int .i64 0, .slice none 0 0, .slice none 0 0, .slice none 0 0, .slice none 0 0, .slice none 0 0] 33)).cell? ⟨w.heap.size, 5, none⟩ = some (.slice none 0 0) := by rw [cell_of hres]; rfl
  have f5 : (w.alloc (.cells #[.int .i64 0, .int .i64 0, .slice none 0 0, .slice none 0 0, .slice none 0 0, .slice none 0 0, .slice none 0 0] 33)).frozen? ⟨w.heap.size, 5, none⟩ = false := frozen_of hres 5
  have r6 : (w.alloc (.cells #[.int .i64 0, .int .i64 0, .slice none 0 0, .slice none 0 0, .slice none 0 0, .slice none 0 0, .slice none 0 0] 33)).cell? ⟨w.heap.size, 6, none⟩ = some (.slice none 0 0) := by rw [cell_of hres]; rfl
  have f6 : (w.alloc (.cells #[.int .i64 0, .int .i64 0, .slice none 0 0, .slice none 0 0, .slice none 0 0, .slice none 0 0, .slice none 0 0] 33)).frozen? ⟨w.heap.size, 6, none⟩ = false := frozen_of hres 6
  have i0 : (0 : Int) ≤ (k : Int) := by omega
  have i1 : (k : Int) ≤ (c : Int) := by omega
  have i2 : ((k : Int) + 4) ≤ (c : Int) := by omega
  have i3 : (k : Int) ≤ (k : Int) + 4 := by omega
  have i4 : ((k + 4 : Nat) : Int) ≤ (c : Int) := by omega
  have i5 : (k : Int) ≤ ((k + 4 : Nat) : Int) := by omega
  have i6 : k ≠ c := by omega
  clear hres hr
  go_enter Tryz.func13, Tryz.ntmps13
  go_wp2_with fail
  go_region_held3 (fun _ => True) (first | trivial | assumption | go_keep)
    (first
      | (go_at_call 36; refine (crc_Of (some ⟨b, o, none⟩) k _ (l.take k) _ (by exact HRT.out) (by intro a g; cases g; exact HB.out) (by omega)).mono ?_; rintro e w7 ⟨rfl, p1⟩; have P1 := Lib.hid p1; clear p1)
      | (go_at_call 35; refine (crc_Bytes _ _).mono ?_; rintro e w8 ⟨v8, rfl, q1, q2⟩; obtain ⟨g8, c8, rfl, _, _⟩ := q1.form (by omega); have Q1 := Lib.hid (own_reads_u8 (l := crcBytes (crcOf (l.take k))) q1); have Q2 := Lib.hid q2.g; clear q1 q2)
      | (go_at_call 34; refine (bytes_Equal (some ⟨g8, 0, none⟩) (some ⟨b, o + k, none⟩) 4 4 c8 _ (crcBytes (crcOf (l.take k))) (l.drop k) _ (by exact Q1.out) (by exact (HRD.out.keep (grownBy_from_drewN (n := 1) P1.out) (by simp)).keep Q2.out (by simp [Value.ownBlock])) (fun a g => by cases g; rfl) (fun a g => by cases g; rfl)).mono ?_; rintro e w9 ⟨rfl, rfl⟩; rw [HBEQ.out]))
  have g17 := Lib.hid (grownBy_from_drewN (n := 1) P1.out)
  have hres8 : w8.heap[w.heap.size]? = some (.cells #[.int .i64 0, .int .i64 0, .slice none 0 0, .slice none 0 0, .slice none 0 0, .slice none 0 0, .slice none 0 0] 33 (0, 0)) := heap_keep Q2.out (heap_keep g17.out HRES.out (by simp)) (by simp [Value.ownBlock])
  have hup8 : Upd (fun k => k = w.heap.size) w w8 := ((Upd.alloc _ w _).trans (Upd.of_grown g17.out) (fun k g => by cases g)).trans (Upd.of_grown Q2.out) (fun k g => by cases g)
  have HUP8 := Lib.hid hup8; clear hup8
  clear r0 r1 r2 r3 r4 r5 r6 f0 f1 f2 f3 f4 f5 f6

  have HRES8 := Lib.hid hres8
  have HRT8 := Lib.hid ((HRT.out.keep g17.out (by simp)).keep Q2.out (by simp [Value.ownBlock]))
  have hlt8 : w.heap.size < w8.heap.size := lt_of_heap hres8
  have hb8 : b < w8.heap.size := by omega
  clear hres8
  go_wp2_with fail
  (with_reducible refine (word_Read (some ⟨b, o, none⟩) k _ (l.take k) _ HRT8.out (fun a g => by cases g; exact ⟨hb8, rfl⟩) (fun g => by cases g) (by omega) hc).mono ?_)
  rintro e w0 ⟨rfl, q1, q2⟩
  have HUPA := Lib.hid (HUP8.out.trans (Upd.of_grown q2) (fun k g => by cases g))
  have HRES0 := Lib.hid (heap_keep q2 HRES8.out (by simp))
  have hlt := q1.lt
  generalize hrb : w8.heap.size = rb at *
  have ST0 := Lib.hid (InTake.start q1)
  have hsz0 := q2.size
  clear q1 q2 hrb
  go_wp2_with fail
  (with_reducible refine (take_num ST0.out).mono ?_)
  rintro e w1 ⟨rfl, st, hu⟩
  have hsz1 := hu.size
  have HRES1' := Lib.hid (hu.heap HRES0.out (by omega))
  have ST1 := Lib.hid (st.alloc (.cells #[.int .i64 (takeNum (⟨l.take k, false⟩ : Rdr)).1, .int .i64 0, .slice none 0 0, .slice none 0 0, .slice none 0 0, .slice none 0 0, .slice none 0 0] 33))
  have HRES1 : Hid ((w1.alloc (.cells #[.int .i64 (takeNum (⟨l.take k, false⟩ : Rdr)).1, .int .i64 0, .slice none 0 0, .slice none 0 0, .slice none 0 0, .slice none 0 0, .slice none 0 0] 33)).heap[w.heap.size]? = some (.cells #[.int .i64 0, .int .i64 0, .slice none 0 0, .slice none 0 0, .slice none 0 0, .slice none 0 0, .slice none 0 0] 33 (0, 0))) := heap_keep (World.grownBy_alloc _ _ none) HRES1'.out (by simp)
  have HLOC1 : Hid ((w1.alloc (.cells #[.int .i64 (takeNum (⟨l.take k, false⟩ : Rdr)).1, .int .i64 0, .slice none 0 0, .slice none 0 0, .slice none 0 0, .slice none 0 0, .slice none 0 0] 33)).heap[w1.heap.size]? = some (.cells #[.int .i64 (takeNum (⟨l.take k, false⟩ : Rdr)).1, .int .i64 0, .slice none 0 0, .slice none 0 0, .slice none 0 0, .slice none 0 0, .slice none 0 0] 33 (0, 0))) := heap_alloc_new _ _
  clear st hu
  go_wp2_with fail
  (with_reducible refine (take_num ST1.out).mono ?_)
  rintro e w2 ⟨rfl, st, hu⟩
  have hsz2 := hu.size
  rw [World.alloc_size'] at hsz2
  have HRES2' := Lib.hid (hu.heap HRES1.out (by omega))
  have HLOC2' := Lib.hid (keep_own hu HLOC1.out (by omega))
  have l1 : w2.cell? ⟨w1.heap.size, 1, none⟩ = some (.int .i64 0) := by rw [cell_of HLOC2'.out]; rfl
  have g1 : w2.frozen? ⟨w1.heap.size, 1, none⟩ = false := frozen_of HLOC2'.out 1
  have ST2 := Lib.hid (st.set (w1.heap.size) 1 (.int .i64 (takeNum (takeNum (⟨l.take k, false⟩ : Rdr)).2).1) (by omega))
  have HLOC2 : Hid ((w2.setCell ⟨w1.heap.size, 1, none⟩ (.int .i64 (takeNum (takeNum (⟨l.take k, false⟩ : Rdr)).2).1)).heap[w1.heap.size]? = some (.cells #[.int .i64 (takeNum (⟨l.take k, false⟩ : Rdr)).1, .int .i64 (takeNum (takeNum (⟨l.take k, false⟩ : Rdr)).2).1, .slice none 0 0, .slice none 0 0, .slice none 0 0, .slice none 0 0, .slice none 0 0] 33 (0, 0))) := heap_set HLOC2'.out 1 (.int .i64 (takeNum (takeNum (⟨l.take k, false⟩ : Rdr)).2).1)
  have HRES2 : Hid ((w2.setCell ⟨w1.heap.size, 1, none⟩ (.int .i64 (takeNum (takeNum (⟨l.take k, false⟩ : Rdr)).2).1)).heap[w.heap.size]? = some (.cells #[.int .i64 0, .int .i64 0, .slice none 0 0, .slice none 0 0, .slice none 0 0, .slice none 0 0, .slice none 0 0] 33 (0, 0))) := heap_keep (grownBy_set w2 (w1.heap.size) 1 (.int .i64 (takeNum (takeNum (⟨l.take k, false⟩ : Rdr)).2).1)) HRES2'.out (by simp; omega)
  clear st hu
  go_wp2_with fail
  clear l1 g1
  (with_reducible refine (takes_Cell rb _ _ ST2.out.rdr).mono ?_)
  rintro e w3 ⟨⟨v3, rfl, hr⟩, tk⟩
  obtain ⟨A1, n1, c1, rfl⟩ := hr.form
  have HR1 := Lib.hid hr; have hu := tk.upd; have hsz3 := hu.size; clear hr
  have st := ST2.out.step tk.rdr hu
  clear tk
  rw [World.setCell_size'] at hsz3
  have HRES3' := Lib.hid (hu.heap HRES2.out (by omega))
  have HLOC3' := Lib.hid (keep_own hu HLOC2.out (by omega))
  have l2 : w3.cell? ⟨w1.heap.size, 2, none⟩ = some (.slice none 0 0) := by rw [cell_of HLOC3'.out]; rfl
  have g2 : w3.frozen? ⟨w1.heap.size, 2, none⟩ = false := frozen_of HLOC3'.out 2
  have ST3 := Lib.hid (st.set (w1.heap.size) 2 (.slice A1 n1 c1) (by omega))
  have HLOC3 : Hid ((w3.setCell ⟨w1.heap.size, 2, none⟩ (.slice A1 n1 c1)).heap[w1.heap.size]? = some (.cells #[.int .i64 (takeNum (⟨l.take k, false⟩ : Rdr)).1, .int .i64 (takeNum (takeNum (⟨l.take k, false⟩ : Rdr)).2).1, .slice A1 n1 c1, .slice none 0 0, .slice none 0 0, .slice none 0 0, .slice none 0 0] 33 (0, 0))) := heap_set HLOC3'.out 2 (.slice A1 n1 c1)
  have HRES3 : Hid ((w3.setCell ⟨w1.heap.size, 2, none⟩ (.slice A1 n1 c1)).heap[w.heap.size]? = some (.cells #[.int .i64 0, .int .i64 0, .slice none 0 0, .slice none 0 0, .slice none 0 0, .slice none 0 0, .slice none 0 0] 33 (0, 0))) := heap_keep (grownBy_set w3 (w1.heap.size) 2 (.slice A1 n1 c1)) HRES3'.out (by simp; omega)
  have HC1_3 : Hid (Upd (fun k => k = rb ∨ k = w1.heap.size ∨ k = w.heap.size) w3 (w3.setCell ⟨w1.heap.size, 2, none⟩ (.slice A1 n1 c1))) := (Upd.refl (fun k => k = rb ∨ k = w1.heap.size ∨ k = w.heap.size) w3).trans (Upd.set w3 (w1.heap.size) 2 (.slice A1 n1 c1)) fun k g => .inl (.inr (.inl g))
  clear st hu
  go_wp2_with fail
  clear l2 g2
  (with_reducible refine (takes_Line rb _ _ ST3.out.rdr).mono ?_)
  rintro e w4 ⟨⟨v4, rfl, hr⟩, tk⟩
  obtain ⟨A2, n2, c2, rfl⟩ := hr.form
  have HR2 := Lib.hid hr; have hu := tk.upd; have hsz4 := hu.size; clear hr
  have st := ST3.out.step tk.rdr hu
  clear tk
  rw [World.setCell_size'] at hsz4
  have HRES4' := Lib.hid (hu.heap HRES3.out (by omega))
  have HLOC4' := Lib.hid (keep_own hu HLOC3.out (by omega))
  have HC1_4' := Lib.hid (HC1_3.out.trans hu fun k g => .inl (.inl g))
  have l3 : w4.cell? ⟨w1.heap.size, 3, none⟩ = some (.slice none 0 0) := by rw [cell_of HLOC4'.out]; rfl
  have g3 : w4.frozen? ⟨w1.heap.size, 3, none⟩ = false := frozen_of HLOC4'.out 3
  have ST4 := Lib.hid (st.set (w1.heap.size) 3 (.slice A2 n2 c2) (by omega))
  have HLOC4 : Hid ((w4.setCell ⟨w1.heap.size, 3, none⟩ (.slice A2 n2 c2)).heap[w1.heap.size]? = some (.cells #[.int .i64 (takeNum (⟨l.take k, false⟩ : Rdr)).1, .int .i64 (takeNum (takeNum (⟨l.take k, false⟩ : Rdr)).2).1, .slice A1 n1 c1, .slice A2 n2 c2, .slice none 0 0, .slice none 0 0, .slice none 0 0] 33 (0, 0))) := heap_set HLOC4'.out 3 (.slice A2 n2 c2)
  have HRES4 : Hid ((w4.setCell ⟨w1.heap.size, 3, none⟩ (.slice A2 n2 c2)).heap[w.heap.size]? = some (.cells #[.int .i64 0, .int .i64 0, .slice none 0 0, .slice none 0 0, .slice none 0 0, .slice none 0 0, .slice none 0 0] 33 (0, 0))) := heap_keep (grownBy_set w4 (w1.heap.size) 3 (.slice A2 n2 c2)) HRES4'.out (by simp; omega)
  have HC1_4 : Hid (Upd (fun k => k = rb ∨ k = w1.heap.size ∨ k = w.heap.size) w3 (w4.setCell ⟨w1.heap.size, 3, none⟩ (.slice A2 n2 c2))) := HC1_4'.out.trans (Upd.set w4 (w1.heap.size) 3 (.slice A2 n2 c2)) fun k g => .inl (.inr (.inl g))
  have HC2_4 : Hid (Upd (fun k => k = rb ∨ k = w1.heap.size ∨ k = w.heap.size) w4 (w4.setCell ⟨w1.heap.size, 3, none⟩ (.slice A2 n2 c2))) := (Upd.refl (fun k => k = rb ∨ k = w1.heap.size ∨ k = w.heap.size) w4).trans (Upd.set w4 (w1.heap.size) 3 (.slice A2 n2 c2)) fun k g => .inl (.inr (.inl g))
  clear st hu
  go_wp2_with fail
  clear l3 g3
  (with_reducible refine (takes_Row rb _ _ ST4.out.rdr).mono ?_)
  rintro e w5 ⟨⟨v5, rfl, hr⟩, tk⟩
  obtain ⟨A3, n3, c3, rfl⟩ := hr.form
  have HR3 := Lib.hid hr; have hu := tk.upd; have hsz5 := hu.size; clear hr
  have st := ST4.out.step tk.rdr hu
  clear tk
  rw [World.setCell_size'] at hsz5
  have HRES5' := Lib.hid (hu.heap HRES4.out (by omega))
  have HLOC5' := Lib.hid (keep_own hu HLOC4.out (by omega))
  have HC1_5' := Lib.hid (HC1_4.out.trans hu fun k g => .inl (.inl g))
  have HC2_5' := Lib.hid (HC2_4.out.trans hu fun k g => .inl (.inl g))
  have l4 : w5.cell? ⟨w1.heap.size, 4, none⟩ = some (.slice none 0 0) := by rw [cell_of HLOC5'.out]; rfl
  have g4 : w5.frozen? ⟨w1.heap.size, 4, none⟩ = false := frozen_of HLOC5'.out 4
  have ST5 := Lib.hid (st.set (w1.heap.size) 4 (.slice A3 n3 c3) (by omega))
  have HLOC5 : Hid ((w5.setCell ⟨w1.heap.size, 4, none⟩ (.slice A3 n3 c3)).heap[w1.heap.size]? = some (.cells #[.int .i64 (takeNum (⟨l.take k, false⟩ : Rdr)).1, .int .i64 (takeNum (takeNum (⟨l.take k, false⟩ : Rdr)).2).1, .slice A1 n1 c1, .slice A2 n2 c2, .slice A3 n3 c3, .slice none 0 0, .slice none 0 0] 33 (0, 0))) := heap_set HLOC5'.out 4 (.slice A3 n3 c3)
  have HRES5 : Hid ((w5.setCell ⟨w1.heap.size, 4, none⟩ (.slice A3 n3 c3)).heap[w.heap.size]? = some (.cells #[.int .i64 0, .int .i64 0, .slice none 0 0, .slice none 0 0, .slice none 0 0, .slice none 0 0, .slice none 0 0] 33 (0, 0))) := heap_keep (grownBy_set w5 (w1.heap.size) 4 (.slice A3 n3 c3)) HRES5'.out (by simp; omega)
  have HC1_5 : Hid (Upd (fun k => k = rb ∨ k = w1.heap.size ∨ k = w.heap.size) w3 (w5.setCell ⟨w1.heap.size, 4, none⟩ (.slice A3 n3 c3))) := HC1_5'.out.trans (Upd.set w5 (w1.heap.size) 4 (.slice A3 n3 c3)) fun k g => .inl (.inr (.inl g))
  have HC2_5 : Hid (Upd (fun k => k = rb ∨ k = w1.heap.size ∨ k = w.heap.size) w4 (w5.setCell ⟨w1.heap.size, 4, none⟩ (.slice A3 n3 c3))) := HC2_5'.out.trans (Upd.set w5 (w1.heap.size) 4 (.slice A3 n3 c3)) fun k g => .inl (.inr (.inl g))
  have HC3_5 : Hid (Upd (fun k => k = rb ∨ k = w1.heap.size ∨ k = w.heap.size) w5 (w5.setCell ⟨w1.heap.size, 4, none⟩ (.slice A3 n3 c3))) := (Upd.refl (fun k => k = rb ∨ k = w1.heap.size ∨ k = w.heap.size) w5).trans (Upd.set w5 (w1.heap.size) 4 (.slice A3 n3 c3)) fun k g => .inl (.inr (.inl g))
  clear st hu
  go_wp2_with fail
  clear l4 g4
  (with_reducible refine (takes_Live rb _ _ ST5.out.rdr).mono ?_)
  rintro e w6 ⟨⟨v6, rfl, hr⟩, tk⟩
  obtain ⟨A4, n4, c4, rfl⟩ := hr.form
  have HR4 := Lib.hid hr; have hu := tk.upd; have hsz6 := hu.size; clear hr
  have st := ST5.out.step tk.rdr hu
  clear tk
  rw [World.setCell_size'] at hsz6
  have HRES6' := Lib.hid (hu.heap HRES5.out (by omega))
  have HLOC6' := Lib.hid (keep_own hu HLOC5.out (by omega))
  have HC1_6' := Lib.hid (HC1_5.out.trans hu fun k g => .inl (.inl g))
  have HC2_6' := Lib.hid (HC2_5.out.trans hu fun k g => .inl (.inl g))
  have HC3_6' := Lib.hid (HC3_5.out.trans hu fun k g => .inl (.inl g))
  have l5 : w6.cell? ⟨w1.heap.size, 5, none⟩ = some (.slice none 0 0) := by rw [cell_of HLOC6'.out]; rfl
  have g5 : w6.frozen? ⟨w1.heap.size, 5, none⟩ = false := frozen_of HLOC6'.out 5
  have ST6 := Lib.hid (st.set (w1.heap.size) 5 (.slice A4 n4 c4) (by omega))
  have HLOC6 : Hid ((w6.setCell ⟨w1.heap.size, 5, none⟩ (.slice A4 n4 c4)).heap[w1.heap.size]? = some (.cells #[.int .i64 (takeNum (⟨l.take k, false⟩ : Rdr)).1, .int .i64 (takeNum (takeNum (⟨l.take k, false⟩ : Rdr)).2).1, .slice A1 n1 c1, .slice A2 n2 c2, .slice A3 n3 c3, .slice A4 n4 c4, .slice none 0 0] 33 (0, 0))) := heap_set HLOC6'.out 5 (.slice A4 n4 c4)
  have HRES6 : Hid ((w6.setCell ⟨w1.heap.size, 5, none⟩ (.slice A4 n4 c4)).heap[w.heap.size]? = some (.cells #[.int .i64 0, .int .i64 0, .slice none 0 0, .slice none 0 0, .slice none 0 0, .slice none 0 0, .slice none 0 0] 33 (0, 0))) := heap_keep (grownBy_set w6 (w1.heap.size) 5 (.slice A4 n4 c4)) HRES6'.out (by simp; omega)
  have HC1_6 : Hid (Upd (fun k => k = rb ∨ k = w1.heap.size ∨ k = w.heap.size) w3 (w6.setCell ⟨w1.heap.size, 5, none⟩ (.slice A4 n4 c4))) := HC1_6'.out.trans (Upd.set w6 (w1.heap.size) 5 (.slice A4 n4 c4)) fun k g => .inl (.inr (.inl g))
  have HC2_6 : Hid (Upd (fun k => k = rb ∨ k = w1.heap.size ∨ k = w.heap.size) w4 (w6.setCell ⟨w1.heap.size, 5, none⟩ (.slice A4 n4 c4))) := HC2_6'.out.trans (Upd.set w6 (w1.heap.size) 5 (.slice A4 n4 c4)) fun k g => .inl (.inr (.inl g))
  have HC3_6 : Hid (Upd (fun k => k = rb ∨ k = w1.heap.size ∨ k = w.heap.size) w5 (w6.setCell ⟨w1.heap.size, 5, none⟩ (.slice A4 n4 c4))) := HC3_6'.out.trans (Upd.set w6 (w1.heap.size) 5 (.slice A4 n4 c4)) fun k g => .inl (.inr (.inl g))
  have HC4_6 : Hid (Upd (fun k => k = rb ∨ k = w1.heap.size ∨ k = w.heap.size) w6 (w6.setCell ⟨w1.heap.size, 5, none⟩ (.slice A4 n4 c4))) := (Upd.refl (fun k => k = rb ∨ k = w1.heap.size ∨ k = w.heap.size) w6).trans (Upd.set w6 (w1.heap.size) 5 (.slice A4 n4 c4)) fun k g => .inl (.inr (.inl g))
  clear st hu
  go_wp2_with fail
  clear l5 g5
  (with_reducible refine (takes_Done rb _ _ ST6.out.rdr).mono ?_)
  rintro e w7 ⟨⟨v7, rfl, hr⟩, tk⟩
  obtain ⟨A5, n5, c5, rfl⟩ := hr.form
  have HR5 := Lib.hid hr; have hu := tk.upd; have hsz7 := hu.size; clear hr
  have st := ST6.out.step tk.rdr hu
  clear tk
  rw [World.setCell_size'] at hsz7
  have HRES7' := Lib.hid (hu.heap HRES6.out (by omega))
  have HLOC7' := Lib.hid (keep_own hu HLOC6.out (by omega))
  have HC1_7' := Lib.hid (HC1_6.out.trans hu fun k g => .inl (.inl g))
  have HC2_7' := Lib.hid (HC2_6.out.trans hu fun k g => .inl (.inl g))
  have HC3_7' := Lib.hid (HC3_6.out.trans hu fun k g => .inl (.inl g))
  have HC4_7' := Lib.hid (HC4_6.out.trans hu fun k g => .inl (.inl g))
  have l6 : w7.cell? ⟨w1.heap.size, 6, none⟩ = some (.slice none 0 0) := by rw [cell_of HLOC7'.out]; rfl
  have g6 : w7.frozen? ⟨w1.heap.size, 6, none⟩ = false := frozen_of HLOC7'.out 6
  have ST7 := Lib.hid (st.set (w1.heap.size) 6 (.slice A5 n5 c5) (by omega))
  have HLOC7 : Hid ((w7.setCell ⟨w1.heap.size, 6, none⟩ (.slice A5 n5 c5)).heap[w1.heap.size]? = some (.cells #[.int .i64 (takeNum (⟨l.take k, false⟩ : Rdr)).1, .int .i64 (takeNum (takeNum (⟨l.take k, false⟩ : Rdr)).2).1, .slice A1 n1 c1, .slice A2 n2 c2, .slice A3 n3 c3, .slice A4 n4 c4, .slice A5 n5 c5] 33 (0, 0))) := heap_set HLOC7'.out 6 (.slice A5 n5 c5)
  have HRES7 : Hid ((w7.setCell ⟨w1.heap.size, 6, none⟩ (.slice A5 n5 c5)).heap[w.heap.size]? = some (.cells #[.int .i64 0, .int .i64 0, .slice none 0 0, .slice none 0 0, .slice none 0 0, .slice none 0 0, .slice none 0 0] 33 (0, 0))) := heap_keep (grownBy_set w7 (w1.heap.size) 6 (.slice A5 n5 c5)) HRES7'.out (by simp; omega)
  have HC1_7 : Hid (Upd (fun k => k = rb ∨ k = w1.heap.size ∨ k = w.heap.size) w3 (w7.setCell ⟨w1.heap.size, 6, none⟩ (.slice A5 n5 c5))) := HC1_7'.out.trans (Upd.set w7 (w1.heap.size) 6 (.slice A5 n5 c5)) fun k g => .inl (.inr (.inl g))
  have HC2_7 : Hid (Upd (fun k => k = rb ∨ k = w1.heap.size ∨ k = w.heap.size) w4 (w7.setCell ⟨w1.heap.size, 6, none⟩ (.slice A5 n5 c5))) := HC2_7'.out.trans (Upd.set w7 (w1.heap.size) 6 (.slice A5 n5 c5)) fun k g => .inl (.inr (.inl g))
  have HC3_7 : Hid (Upd (fun k => k = rb ∨ k = w1.heap.size ∨ k = w.heap.size) w5 (w7.setCell ⟨w1.heap.size, 6, none⟩ (.slice A5 n5 c5))) := HC3_7'.out.trans (Upd.set w7 (w1.heap.size) 6 (.slice A5 n5 c5)) fun k g => .inl (.inr (.inl g))
  have HC4_7 : Hid (Upd (fun k => k = rb ∨ k = w1.heap.size ∨ k = w.heap.size) w6 (w7.setCell ⟨w1.heap.size, 6, none⟩ (.slice A5 n5 c5))) := HC4_7'.out.trans (Upd.set w7 (w1.heap.size) 6 (.slice A5 n5 c5)) fun k g => .inl (.inr (.inl g))
  have HC5_7 : Hid (Upd (fun k => k = rb ∨ k = w1.heap.size ∨ k = w.heap.size) w7 (w7.setCell ⟨w1.heap.size, 6, none⟩ (.slice A5 n5 c5))) := (Upd.refl (fun k => k = rb ∨ k = w1.heap.size ∨ k = w.heap.size) w7).trans (Upd.set w7 (w1.heap.size) 6 (.slice A5 n5 c5)) fun k g => .inl (.inr (.inl g))
  clear st hu
  go_wp2_with fail
  clear l6 g6
  (with_reducible refine (rdr_Done rb _ _ ST7.out.rdr).mono ?_)
  rintro e w9 ⟨rfl, rfl⟩
  rw [HY.out]
  have HUPB := Lib.hid (HUPA.out.trans ST7.out.upd (fun k g => .inr (by omega)))
  have a0 : (w7.setCell ⟨w1.heap.size, 6, none⟩ (.slice A5 n5 c5)).cell? ⟨w1.heap.size, 0, none⟩ = some (.int .i64 (takeNum (⟨l.take k, false⟩ : Rdr)).1) := by rw [cell_of HLOC7.out]; rfl
  have a1 : (w7.setCell ⟨w1.heap.size, 6, none⟩ (.slice A5 n5 c5)).cell? ⟨w1.heap.size, 1, none⟩ = some (.int .i64 (takeNum (takeNum (⟨l.take k, false⟩ : Rdr)).2).1) := by rw [cell_of HLOC7.out]; rfl
  have a2 : (w7.setCell ⟨w1.heap.size, 6, none⟩ (.slice A5 n5 c5)).cell? ⟨w1.heap.size, 2, none⟩ = some (.slice A1 n1 c1) := by rw [cell_of HLOC7.out]; rfl
  have a3 : (w7.setCell ⟨w1.heap.size, 6, none⟩ (.slice A5 n5 c5)).cell? ⟨w1.heap.size, 3, none⟩ = some (.slice A2 n2 c2) := by rw [cell_of HLOC7.out]; rfl
  have a4 : (w7.setCell ⟨w1.heap.size, 6, none⟩ (.slice A5 n5 c5)).cell? ⟨w1.heap.size, 4, none⟩ = some (.slice A3 n3 c3) := by rw [cell_of HLOC7.out]; rfl
  have a5 : (w7.setCell ⟨w1.heap.size, 6, none⟩ (.slice A5 n5 c5)).cell? ⟨w1.heap.size, 5, none⟩ = some (.slice A4 n4 c4) := by rw [cell_of HLOC7.out]; rfl
  have a6 : (w7.setCell ⟨w1.heap.size, 6, none⟩ (.slice A5 n5 c5)).cell? ⟨w1.heap.size, 6, none⟩ = some (.slice A5 n5 c5) := by rw [cell_of HLOC7.out]; rfl
  have r0 : (w7.setCell ⟨w1.heap.size, 6, none⟩ (.slice A5 n5 c5)).cell? ⟨w.heap.size, 0, none⟩ = some (.int .i64 0) := by rw [cell_of HRES7.out]; rfl
  have f0 : (w7.setCell ⟨w1.heap.size, 6, none⟩ (.slice A5 n5 c5)).frozen? ⟨w.heap.size, 0, none⟩ = false := frozen_of HRES7.out 0
  have r1 : (w7.setCell ⟨w1.heap.size, 6, none⟩ (.slice A5 n5 c5)).cell? ⟨w.heap.size, 1, none⟩ = some (.int .i64 0) := by rw [cell_of HRES7.out]; rfl
  have f1 : (w7.setCell ⟨w1.heap.size, 6, none⟩ (.slice A5 n5 c5)).frozen? ⟨w.heap.size, 1, none⟩ = false := frozen_of HRES7.out 1
  have r2 : (w7.setCell ⟨w1.heap.size, 6, none⟩ (.slice A5 n5 c5)).cell? ⟨w.heap.size, 2, none⟩ = some (.slice none 0 0) := by rw [cell_of HRES7.out]; rfl
  have f2 : (w7.setCell ⟨w1.heap.size, 6, none⟩ (.slice A5 n5 c5)).frozen? ⟨w.heap.size, 2, none⟩ = false := frozen_of HRES7.out 2
  have r3 : (w7.setCell ⟨w1.heap.size, 6, none⟩ (.slice A5 n5 c5)).cell? ⟨w.heap.size, 3, none⟩ = some (.slice none 0 0) := by rw [cell_of HRES7.out]; rfl
  have f3 : (w7.setCell ⟨w1.heap.size, 6, none⟩ (.slice A5 n5 c5)).frozen? ⟨w.heap.size, 3, none⟩ = false := frozen_of HRES7.out 3
  have r4 : (w7.setCell ⟨w1.heap.size, 6, none⟩ (.slice A5 n5 c5)).cell? ⟨w.heap.size, 4, none⟩ = some (.slice none 0 0) := by rw [cell_of HRES7.out]; rfl
  have f4 : (w7.setCell ⟨w1.heap.size, 6, none⟩ (.slice A5 n5 c5)).frozen? ⟨w.heap.size, 4, none⟩ = false := frozen_of HRES7.out 4
  have r5 : (w7.setCell ⟨w1.heap.size, 6, none⟩ (.slice A5 n5 c5)).cell? ⟨w.heap.size, 5, none⟩ = some (.slice none 0 0) := by rw [cell_of HRES7.out]; rfl
  have f5 : (w7.setCell ⟨w1.heap.size, 6, none⟩ (.slice A5 n5 c5)).frozen? ⟨w.heap.size, 5, none⟩ = false := frozen_of HRES7.out 5
  have r6 : (w7.setCell ⟨w1.heap.size, 6, none⟩ (.slice A5 n5 c5)).cell? ⟨w.heap.size, 6, none⟩ = some (.slice none 0 0) := by rw [cell_of HRES7.out]; rfl
  have f6 : (w7.setCell ⟨w1.heap.size, 6, none⟩ (.slice A5 n5 c5)).frozen? ⟨w.heap.size, 6, none⟩ = false := frozen_of HRES7.out 6
  cases y
  · go_wp2_with fail
    refine bodyPost_ret (v := .tuple #[.agg #[.int .i64 0, .int .i64 0, .slice none 0 0, .slice none 0 0, .slice none 0 0, .slice none 0 0, .slice none 0 0], .int .i64 2]) ?_ rfl ?_
    · simp [results, Tryz.results13, go_sem, r0, r1, r2, r3, r4, r5, r6]
    have hset : Upd (fun k => k = w.heap.size) (w7.setCell ⟨w1.heap.size, 6, none⟩ (.slice A5 n5 c5)) ((((((((w7.setCell ⟨w1.heap.size, 6, none⟩ (.slice A5 n5 c5)).setCell ⟨w.heap.size, 0, none⟩ (.int .i64 0)).setCell ⟨w.heap.size, 1, none⟩ (.int .i64 0)).setCell ⟨w.heap.size, 2, none⟩ (.slice none 0 0)).setCell ⟨w.heap.size, 3, none⟩ (.slice none 0 0)).setCell ⟨w.heap.size, 4, none⟩ (.slice none 0 0)).setCell ⟨w.heap.size, 5, none⟩ (.slice none 0 0)).setCell ⟨w.heap.size, 6, none⟩ (.slice none 0 0)) := (Upd.trans (Upd.trans (Upd.trans (Upd.trans (Upd.trans (Upd.trans (Upd.set (w7.setCell ⟨w1.heap.size, 6, none⟩ (.slice A5 n5 c5)) w.heap.size 0 (.int .i64 0)) (Upd.set _ w.heap.size 1 (.int .i64 0)) (fun k g => .inl g)) (Upd.set _ w.heap.size 2 (.slice none 0 0)) (fun k g => .inl g)) (Upd.set _ w.heap.size 3 (.slice none 0 0)) (fun k g => .inl g)) (Upd.set _ w.heap.size 4 (.slice none 0 0)) (fun k g => .inl g)) (Upd.set _ w.heap.size 5 (.slice none 0 0)) (fun k g => .inl g)) (Upd.set _ w.heap.size 6 (.slice none 0 0)) (fun k g => .inl g))
    have hbel := (HUPB.out.trans hset (fun k g => .inl g)).below' (fun k g => Nat.le_of_eq g.symm)
    exact ReadOf.mk' HFIN.out hbel (cs := [.int .i64 0, .int .i64 0, .slice none 0 0, .slice none 0 0, .slice none 0 0, .slice none 0 0, .slice none 0 0]) rfl (el_empty _ _)
  · go_wp2_with fail
    refine bodyPost_ret (v := .tuple #[.agg #[.int .i64 (takeNum (⟨l.take k, false⟩ : Rdr)).1, .int .i64 (takeNum (takeNum (⟨l.take k, false⟩ : Rdr)).2).1, .slice A1 n1 c1, .slice A2 n2 c2, .slice A3 n3 c3, .slice A4 n4 c4, .slice A5 n5 c5], .int .i64 0]) ?_ rfl ?_
    · simp [results, Tryz.results13, go_sem, r0, r1, r2, r3, r4, r5, r6]
    have hset : Upd (fun k => k = w.heap.size) (w7.setCell ⟨w1.heap.size, 6, none⟩ (.slice A5 n5 c5)) ((((((((w7.setCell ⟨w1.heap.size, 6, none⟩ (.slice A5 n5 c5)).setCell ⟨w.heap.size, 0, none⟩ (.int .i64 (takeNum (⟨l.take k, false⟩ : Rdr)).1)).setCell ⟨w.heap.size, 1, none⟩ (.int .i64 (takeNum (takeNum (⟨l.take k, false⟩ : Rdr)).2).1)).setCell ⟨w.heap.size, 2, none⟩ (.slice A1 n1 c1)).setCell ⟨w.heap.size, 3, none⟩ (.slice A2 n2 c2)).setCell ⟨w.heap.size, 4, none⟩ (.slice A3 n3 c3)).setCell ⟨w.heap.size, 5, none⟩ (.slice A4 n4 c4)).setCell ⟨w.heap.size, 6, none⟩ (.slice A5 n5 c5)) := (Upd.trans (Upd.trans (Upd.trans (Upd.trans (Upd.trans (Upd.trans (Upd.set (w7.setCell ⟨w1.heap.size, 6, none⟩ (.slice A5 n5 c5)) w.heap.size 0 (.int .i64 (takeNum (⟨l.take k, false⟩ : Rdr)).1)) (Upd.set _ w.heap.size 1 (.int .i64 (takeNum (takeNum (⟨l.take k, false⟩ : Rdr)).2).1)) (fun k g => .inl g)) (Upd.set _ w.heap.size 2 (.slice A1 n1 c1)) (fun k g => .inl g)) (Upd.set _ w.heap.size 3 (.slice A2 n2 c2)) (fun k g => .inl g)) (Upd.set _ w.heap.size 4 (.slice A3 n3 c3)) (fun k g => .inl g)) (Upd.set _ w.heap.size 5 (.slice A4 n4 c4)) (fun k g => .inl g)) (Upd.set _ w.heap.size 6 (.slice A5 n5 c5)) (fun k g => .inl g))
    have hfs := hset.size
    have hc1 := HC1_7.out.trans hset fun k g => .inl (.inr (.inr g))
    have hcs1 := hc1.size
    have hc2 := HC2_7.out.trans hset fun k g => .inl (.inr (.inr g))
    have hcs2 := hc2.size
    have hc3 := HC3_7.out.trans hset fun k g => .inl (.inr (.inr g))
    have hcs3 := hc3.size
    have hc4 := HC4_7.out.trans hset fun k g => .inl (.inr (.inr g))
    have hcs4 := hc4.size
    have hc5 := HC5_7.out.trans hset fun k g => .inl (.inr (.inr g))
    have hcs5 := hc5.size
    have hbel := (HUPB.out.trans hset (fun k g => .inl g)).below' (fun k g => Nat.le_of_eq g.symm)
    simp only [World.setCell_size'] at hfs hcs1 hcs2 hcs3 hcs4 hcs5
    refine ReadOf.mk' HFIN.out hbel (cs := [.int .i64 (takeNum (⟨l.take k, false⟩ : Rdr)).1, .int .i64 (takeNum (takeNum (⟨l.take k, false⟩ : Rdr)).2).1, .slice A1 n1 c1, .slice A2 n2 c2, .slice A3 n3 c3, .slice A4 n4 c4, .slice A5 n5 c5]) rfl ⟨_, _, _, _, _, rfl, ?h1, ?h2, ?h3, ?h4, ?h5⟩
    case h1 => exact HR1.out.imp (fun k hk => ⟨by have h1 := hk.1; simp only [World.setCell_size'] at h1; omega, by have h2 := hk.2; simp only [World.setCell_size'] at h2 ⊢; omega⟩) (fun a ha => hc1.cellEq ha.2 (fun g => by have h1 := ha.1; simp only [World.setCell_size'] at h1; omega)) (fun _ _ h => h.imp (fun k hk => ⟨by have h1 := hk.1; simp only [World.setCell_size'] at h1; omega, by have h2 := hk.2; simp only [World.setCell_size'] at h2 ⊢; omega⟩) (fun a ha => hc1.cellEq ha.2 (fun g => by have h1 := ha.1; simp only [World.setCell_size'] at h1; omega)))
    case h2 => exact HR2.out.imp (fun k hk => ⟨by have h1 := hk.1; simp only [World.setCell_size'] at h1; omega, by have h2 := hk.2; simp only [World.setCell_size'] at h2 ⊢; omega⟩) (fun a ha => hc2.cellEq ha.2 (fun g => by have h1 := ha.1; simp only [World.setCell_size'] at h1; omega)) (fun _ _ h => h.imp (fun k hk => ⟨by have h1 := hk.1; simp only [World.setCell_size'] at h1; omega, by have h2 := hk.2; simp only [World.setCell_size'] at h2 ⊢; omega⟩) (fun a ha => hc2.cellEq ha.2 (fun g => by have h1 := ha.1; simp only [World.setCell_size'] at h1; omega)))
    case h3 => exact HR3.out.imp (fun k hk => ⟨by have h1 := hk.1; simp only [World.setCell_size'] at h1; omega, by have h2 := hk.2; simp only [World.setCell_size'] at h2 ⊢; omega⟩) (fun a ha => hc3.cellEq ha.2 (fun g => by have h1 := ha.1; simp only [World.setCell_size'] at h1; omega)) (fun _ _ h => h)
    case h4 => exact HR4.out.imp (fun k hk => ⟨by have h1 := hk.1; simp only [World.setCell_size'] at h1; omega, by have h2 := hk.2; simp only [World.setCell_size'] at h2 ⊢; omega⟩) (fun a ha => hc4.cellEq ha.2 (fun g => by have h1 := ha.1; simp only [World.setCell_size'] at h1; omega)) (fun _ _ h => h.imp (fun k hk => ⟨by have h1 := hk.1; simp only [World.setCell_size'] at h1; omega, by have h2 := hk.2; simp only [World.setCell_size'] at h2 ⊢; omega⟩) (fun a ha => hc4.cellEq ha.2 (fun g => by have h1 := ha.1; simp only [World.setCell_size'] at h1; omega)))
    case h5 => exact HR5.out.imp (fun k hk => ⟨by have h1 := hk.1; simp only [World.setCell_size'] at h1; omega, by have h2 := hk.2; simp only [World.setCell_size'] at h2 ⊢; omega⟩) (fun a ha => hc5.cellEq ha.2 (fun g => by have h1 := ha.1; simp only [World.setCell_size'] at h1; omega)) (fun _ _ h => h)
end Go.Proofs.YtllkjfadeaoicaaGreat

set_option linter.unusedVariables false
set_option linter.unusedSimpArgs false
namespace Go.Proofs.YtllkjfadeaoicaaGreat
open Go.RowKit

theorem img_Read (A : Option Addr) (n c : Nat) (l : Bs) (w : World) (hr : ReadsU8 w A n l) (hA : ∀ a, A = some a → a.block < w.heap.size ∧ a.spot = none) (hnc : n ≤ c) (hc : c ≤ 9223372036854775807) :
    Calls Tryz.prog 13 #[.slice A n c] w (ReadOf w l) := by
  by_cases hn : n < 4
  · exact img_Read_short A n c l w hr.1 hn
  · obtain ⟨k, rfl⟩ : ∃ k, n = k + 4 := ⟨n - 4, by omega⟩
    obtain ⟨b, o, rfl, _⟩ := hr.2 (by omega)
    have hb := (hA _ rfl).1
    by_cases he : crcBytes (crcOf (l.take k)) = l.drop k
    · exact img_Read_good _ b o k c l w hr hb hnc hc he rfl
    · exact img_Read_sum b o k c l w hr hb hnc hc he
end Go.Proofs.YtllkjfadeaoicaaGreat

set_option linter.unusedVariables false
set_option linter.unusedSimpArgs false
namespace Go.Proofs.YtllkjfadeaoicaaGreat
open Go.RowKit

set_option maxHeartbeats 400000 in
set_option maxRecDepth 100000 in
theorem same_cells0 (A B : Option Addr) (c d : Nat) (w : World) : Calls Tryz.prog 61 #[.slice A 0 c, .slice B 0 d] w fun e w' => e = .returned (.bool true) ∧ w = w' := by
  go_enter Tryz.func61, Tryz.ntmps61
  go_wp2_with fail
  go_loop [14] (fun i => i = .int .i64 0) (fun _ => 0)
  case atStart => exact rfl
  case round =>
    obtain rfl := hrel
    go_wp2_with fail
    go_ret
    exact ⟨rfl, rfl⟩

set_option maxHeartbeats 400000 in
set_option maxRecDepth 100000 in
theorem same_rows0 (A B : Option Addr) (c d : Nat) (w : World) : Calls Tryz.prog 62 #[.slice A 0 c, .slice B 0 d] w fun e w' => e = .returned (.bool true) ∧ w = w' := by
  go_enter Tryz.func62, Tryz.ntmps62
  go_wp2_with fail
  go_loop [13] (fun i => i = .int .i64 0) (fun _ => 0)
  case atStart => exact rfl
  case round =>
    obtain rfl := hrel
    go_wp2_with fail
    go_ret
    exact ⟨rfl, rfl⟩

set_option maxHeartbeats 400000 in
set_option maxRecDepth 100000 in
theorem same_dones0 (A B : Option Addr) (c d : Nat) (w : World) : Calls Tryz.prog 63 #[.slice A 0 c, .slice B 0 d] w fun e w' => e = .returned (.bool true) ∧ w = w' := by
  go_enter Tryz.func63, Tryz.ntmps63
  go_wp2_with fail
  go_loop [13] (fun i => i = .int .i64 0) (fun _ => 0)
  case atStart => exact rfl
  case round =>
    obtain rfl := hrel
    go_wp2_with fail
    go_ret
    exact ⟨rfl, rfl⟩

set_option maxHeartbeats 1600000 in
set_option maxRecDepth 100000 in
theorem same0 (A1 A2 A3 A4 A5 B1 B2 B3 B4 B5 : Option Addr) (c1 c2 c3 c4 c5 d1 d2 d3 d4 d5 : Nat) (w : World) :
    Calls Tryz.prog 15 #[.agg #[.int .i64 0, .int .i64 0, .slice A1 0 c1, .slice A2 0 c2, .slice A3 0 c3, .slice A4 0 c4, .slice A5 0 c5], .agg #[.int .i64 0, .int .i64 0, .slice B1 0 d1, .slice B2 0 d2, .slice B3 0 d3, .slice B4 0 d4, .slice B5 0 d5]] w fun e w' => e = .returned (.bool true) ∧ w.grownBy w' none := by
  have hA : ((w.alloc (.cells #[.int .i64 0, .int .i64 0, .slice A1 0 c1, .slice A2 0 c2, .slice A3 0 c3, .slice A4 0 c4, .slice A5 0 c5] 33)).alloc (.cells #[.int .i64 0, .int .i64 0, .slice B1 0 d1, .slice B2 0 d2, .slice B3 0 d3, .slice B4 0 d4, .slice B5 0 d5] 33)).heap[w.heap.size]? = some (.cells #[.int .i64 0, .int .i64 0, .slice A1 0 c1, .slice A2 0 c2, .slice A3 0 c3, .slice A4 0 c4, .slice A5 0 c5] 33 (0, 0)) := heap_keep (World.grownBy_alloc _ _ none) (heap_alloc_new w _) (by simp)
  have hB : ((w.alloc (.cells #[.int .i64 0, .int .i64 0, .slice A1 0 c1, .slice A2 0 c2, .slice A3 0 c3, .slice A4 0 c4, .slice A5 0 c5] 33)).alloc (.cells #[.int .i64 0, .int .i64 0, .slice B1 0 d1, .slice B2 0 d2, .slice B3 0 d3, .slice B4 0 d4, .slice B5 0 d5] 33)).heap[w.heap.size + 1]? = some (.cells #[.int .i64 0, .int .i64 0, .slice B1 0 d1, .slice B2 0 d2, .slice B3 0 d3, .slice B4 0 d4, .slice B5 0 d5] 33 (0, 0)) := by
    have := heap_alloc_new (w.alloc (.cells #[.int .i64 0, .int .i64 0, .slice A1 0 c1, .slice A2 0 c2, .slice A3 0 c3, .slice A4 0 c4, .slice A5 0 c5] 33)) (.cells #[.int .i64 0, .int .i64 0, .slice B1 0 d1, .slice B2 0 d2, .slice B3 0 d3, .slice B4 0 d4, .slice B5 0 d5] 33)
    rw [World.alloc_size'] at this; exact this
  have a0 : ((w.alloc (.cells #[.int .i64 0, .int .i64 0, .slice A1 0 c1, .slice A2 0 c2, .slice A3 0 c3, .slice A4 0 c4, .slice A5 0 c5] 33)).alloc (.cells #[.int .i64 0, .int .i64 0, .slice B1 0 d1, .slice B2 0 d2, .slice B3 0 d3, .slice B4 0 d4, .slice B5 0 d5] 33)).cell? ⟨w.heap.size, 0, none⟩ = some (.int .i64 0) := by rw [cell_of hA]; rfl
  have b0 : ((w.alloc (.cells #[.int .i64 0, .int .i64 0, .slice A1 0 c1, .slice A2 0 c2, .slice A3 0 c3, .slice A4 0 c4, .slice A5 0 c5] 33)).alloc (.cells #[.int .i64 0, .int .i64 0, .slice B1 0 d1, .slice B2 0 d2, .slice B3 0 d3, .slice B4 0 d4, .slice B5 0 d5] 33)).cell? ⟨w.heap.size + 1, 0, none⟩ = some (.int .i64 0) := by rw [cell_of hB]; rfl
  have a1 : ((w.alloc (.cells #[.int .i64 0, .int .i64 0, .slice A1 0 c1, .slice A2 0 c2, .slice A3 0 c3, .slice A4 0 c4, .slice A5 0 c5] 33)).alloc (.cells #[.int .i64 0, .int .i64 0, .slice B1 0 d1, .slice B2 0 d2, .slice B3 0 d3, .slice B4 0 d4, .slice B5 0 d5] 33)).cell? ⟨w.heap.size, 1, none⟩ = some (.int .i64 0) := by rw [cell_of hA]; rfl
  have b1 : ((w.alloc (.cells #[.int .i64 0, .int .i64 0, .slice A1 0 c1, .slice A2 0 c2, .slice A3 0 c3, .slice A4 0 c4, .slice A5 0 c5] 33)).alloc (.cells #[.int .i64 0, .int .i64 0, .slice B1 0 d1, .slice B2 0 d2, .slice B3 0 d3, .slice B4 0 d4, .slice B5 0 d5] 33)).cell? ⟨w.heap.size + 1, 1, none⟩ = some (.int .i64 0) := by rw [cell_of hB]; rfl
  have a2 : ((w.alloc (.cells #[.int .i64 0, .int .i64 0, .slice A1 0 c1, .slice A2 0 c2, .slice A3 0 c3, .slice A4 0 c4, .slice A5 0 c5] 33)).alloc (.cells #[.int .i64 0, .int .i64 0, .slice B1 0 d1, .slice B2 0 d2, .slice B3 0 d3, .slice B4 0 d4, .slice B5 0 d5] 33)).cell? ⟨w.heap.size, 2, none⟩ = some (.slice A1 0 c1) := by rw [cell_of hA]; rfl
  have b2 : ((w.alloc (.cells #[.int .i64 0, .int .i64 0, .slice A1 0 c1, .slice A2 0 c2, .slice A3 0 c3, .slice A4 0 c4, .slice A5 0 c5] 33)).alloc (.cells #[.int .i64 0, .int .i64 0, .slice B1 0 d1, .slice B2 0 d2, .slice B3 0 d3, .slice B4 0 d4, .slice B5 0 d5] 33)).cell? ⟨w.heap.size + 1, 2, none⟩ = some (.slice B1 0 d1) := by rw [cell_of hB]; rfl
  have a3 : ((w.alloc (.cells #[.int .i64 0, .int .i64 0, .slice A1 0 c1, .slice A2 0 c2, .slice A3 0 c3, .slice A4 0 c4, .slice A5 0 c5] 33)).alloc (.cells #[.int .i64 0, .int .i64 0, .slice B1 0 d1, .slice B2 0 d2, .slice B3 0 d3, .slice B4 0 d4, .slice B5 0 d5] 33)).cell? ⟨w.heap.size, 3, none⟩ = some (.slice A2 0 c2) := by rw [cell_of hA]; rfl
  have b3 : ((w.alloc (.cells #[.int .i64 0, .int .i64 0, .slice A1 0 c1, .slice A2 0 c2, .slice A3 0 c3, .slice A4 0 c4, .slice A5 0 c5] 33)).alloc (.cells #[.int .i64 0, .int .i64 0, .slice B1 0 d1, .slice B2 0 d2, .slice B3 0 d3, .slice B4 0 d4, .slice B5 0 d5] 33)).cell? ⟨w.heap.size + 1, 3, none⟩ = some (.slice B2 0 d2) := by rw [cell_of hB]; rfl
  have a4 : ((w.alloc (.cells #[.int .i64 0, .int .i64 0, .slice A1 0 c1, .slice A2 0 c2, .slice A3 0 c3, .slice A4 0 c4, .slice A5 0 c5] 33)).alloc (.cells #[.int .i64 0, .int .i64 0, .slice B1 0 d1, .slice B2 0 d2, .slice B3 0 d3, .slice B4 0 d4, .slice B5 0 d5] 33)).cell? ⟨w.heap.size, 4, none⟩ = some (.slice A3 0 c3) := by rw [cell_of hA]; rfl
  have b4 : ((w.alloc (.cells #[.int .i64 0, .int .i64 0, .slice A1 0 c1, .slice A2 0 c2, .slice A3 0 c3, .slice A4 0 c4, .slice A5 0 c5] 33)).alloc (.cells #[.int .i64 0, .int .i64 0, .slice B1 0 d1, .slice B2 0 d2, .slice B3 0 d3, .slice B4 0 d4, .slice B5 0 d5] 33)).cell? ⟨w.heap.size + 1, 4, none⟩ = some (.slice B3 0 d3) := by rw [cell_of hB]; rfl
  have a5 : ((w.alloc (.cells #[.int .i64 0, .int .i64 0, .slice A1 0 c1, .slice A2 0 c2, .slice A3 0 c3, .slice A4 0 c4, .slice A5 0 c5] 33)).alloc (.cells #[.int .i64 0, .int .i64 0, .slice B1 0 d1, .slice B2 0 d2, .slice B3 0 d3, .slice B4 0 d4, .slice B5 0 d5] 33)).cell? ⟨w.heap.size, 5, none⟩ = some (.slice A4 0 c4) := by rw [cell_of hA]; rfl
  have b5 : ((w.alloc (.cells #[.int .i64 0, .int .i64 0, .slice A1 0 c1, .slice A2 0 c2, .slice A3 0 c3, .slice A4 0 c4, .slice A5 0 c5] 33)).alloc (.cells #[.int .i64 0, .int .i64 0, .slice B1 0 d1, .slice B2 0 d2, .slice B3 0 d3, .slice B4 0 d4, .slice B5 0 d5] 33)).cell? ⟨w.heap.size + 1, 5, none⟩ = some (.slice B4 0 d4) := by rw [cell_of hB]; rfl
  have a6 : ((w.alloc (.cells #[.int .i64 0, .int .i64 0, .slice A1 0 c1, .slice A2 0 c2, .slice A3 0 c3, .slice A4 0 c4, .slice A5 0 c5] 33)).alloc (.cells #[.int .i64 0, .int .i64 0, .slice B1 0 d1, .slice B2 0 d2, .slice B3 0 d3, .slice B4 0 d4, .slice B5 0 d5] 33)).cell? ⟨w.heap.size, 6, none⟩ = some (.slice A5 0 c5) := by rw [cell_of hA]; rfl
  have b6 : ((w.alloc (.cells #[.int .i64 0, .int .i64 0, .slice A1 0 c1, .slice A2 0 c2, .slice A3 0 c3, .slice A4 0 c4, .slice A5 0 c5] 33)).alloc (.cells #[.int .i64 0, .int .i64 0, .slice B1 0 d1, .slice B2 0 d2, .slice B3 0 d3, .slice B4 0 d4, .slice B5 0 d5] 33)).cell? ⟨w.heap.size + 1, 6, none⟩ = some (.slice B5 0 d5) := by rw [cell_of hB]; rfl
  clear hA hB
  go_enter Tryz.func15, Tryz.ntmps15
  go_wp2_with (first
    | (go_at_call 61; refine (same_cells0 _ _ _ _ _).mono ?_; rintro e w' ⟨rfl, rfl⟩)
    | (go_at_call 62; refine (same_rows0 _ _ _ _ _).mono ?_; rintro e w' ⟨rfl, rfl⟩)
    | (go_at_call 63; refine (same_dones0 _ _ _ _ _).mono ?_; rintro e w' ⟨rfl, rfl⟩))
  go_loop [68] (fun i => i = .int .i64 0) (fun _ => 0)
  case atStart => exact rfl
  case round =>
    obtain rfl := hrel
    go_wp2_with fail
    go_loop [103] (fun i => i = .int .i64 0) (fun _ => 0)
    case atStart => exact rfl
    case round =>
      obtain rfl := hrel
      go_wp2_with fail
      go_ret
      exact ⟨rfl, grownBy_trans' (World.grownBy_alloc _ _ none) (World.grownBy_alloc _ _ none) (.inl rfl)⟩
end Go.Proofs.YtllkjfadeaoicaaGreat
