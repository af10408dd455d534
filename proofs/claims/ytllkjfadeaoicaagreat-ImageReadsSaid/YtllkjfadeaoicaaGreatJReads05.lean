/- Lemmas and walks: Words on memory: what grows, what is kept. Words on memory: what may be written. The walks of small functions: numbers, moments, modes. How values in memory read as data. Rows of structs: read, cloned (printed by gen_clone.py). The walks of package word. The walks of word.Reader. -/
import Derived.Test.YtllkjfadeaoicaaGreatProg
import Derived.Below
import Derived.OwnWalk
import Derived.WalkKit
import Derived.KernelRfl
import Derived.RowKit
import Derived.Maps.AppendAt
import Derived.Lib.Hide
import Derived.Laws.OwnMore
import Derived.Deep.AppendLies
import Derived.Laws.MakeOwn
import Derived.Outline
import Derived.WalkSpells
import Derived.WalkLawsBesides
import Derived.Deep.DeepMust
import Derived.Deep.LoopGhost
import Derived.BigQuiet
import Derived.Laws.BitsAllLaws
import Derived.Laws.BytesArg
import Derived.Lib.LazyBuf
import Derived.Deep.QuietTactic
import Derived.Test.YtllkjfadeaoicaaGreatJReads01
import Derived.Test.YtllkjfadeaoicaaGreatJReads02
set_option linter.unusedVariables false
set_option linter.unusedSimpArgs false
namespace Go.Proofs.YtllkjfadeaoicaaGreat
open Go.RowKit

/-- bytes as cells -/
def u8s (l : Bs) : List Value := l.map fun x => .int .u8 (x.toNat : Int)
theorem u8s_length (l : Bs) : (u8s l).length = l.length := by simp [u8s]
theorem u8s_append (a b : Bs) : u8s (a ++ b) = u8s a ++ u8s b := by simp [u8s]

/-- w' is w with new blocks, and with writes to v's row alone; v' is v, grown: in the same block or in a new one -/
structure Grows (w w' : World) (v v' : Value) : Prop where
  g : w.grownBy w' v.ownBlock
  b : v'.ownBlock = v.ownBlock ∨ ∃ k, v'.ownBlock = some k ∧ w.heap.size ≤ k
theorem grownBy_refl (w : World) (r : Option Nat) : w.grownBy w r := ⟨rfl, rfl, rfl, Nat.le_refl _, fun _ _ _ => rfl⟩
theorem Grows.refl (w : World) (v : Value) : Grows w w v v := ⟨grownBy_refl w _, .inl rfl⟩
theorem grownBy_trans' {a b c : World} {r r' : Option Nat} (h : a.grownBy b r) (k : b.grownBy c r') (hr : r' = r ∨ ∃ x, r' = some x ∧ a.heap.size ≤ x) : a.grownBy c r := by
  refine ⟨k.os.trans h.os, k.tape.trans h.tape, k.output.trans h.output, Nat.le_trans h.size k.size, fun i hi hn => ?_⟩
  rw [k.block i (Nat.lt_of_lt_of_le hi h.size) ?_, h.block i hi hn]
  rcases hr with rfl | ⟨x, rfl, hx⟩
  · exact hn
  · intro e; cases e; omega
theorem Grows.trans {a b c : World} {v v1 v2 : Value} (h : Grows a b v v1) (k : Grows b c v1 v2) : Grows a c v v2 := by
  refine ⟨grownBy_trans' h.g k.g h.b, ?_⟩
  rcases k.b with e | ⟨x, e, hx⟩
  · rw [e]; exact h.b
  · exact .inr ⟨x, e, Nat.le_trans h.g.size hx⟩
theorem Grows.alloc {a b : World} {v v1 : Value} (h : Grows a b v v1) (o : Obj) : Grows a (b.alloc o) v v1 := h.trans ⟨World.grownBy_alloc b o _, .inl rfl⟩
theorem Grows.drew {a b : World} {v v1 : Value} (h : Grows a b v v1) : Grows a b.drew v v1 := ⟨⟨h.g.os, h.g.tape, h.g.output, h.g.size, h.g.block⟩, h.b⟩

section
variable {P : Program} {ops : Array Oper} {rest : List Oper} {o : Oper} {a : Act} {Q : Exit → Act → World → Prop}
/-- append(v, x) of one element of some cells, boxed ahead -/
theorem app_one {W : World} (hgd : o.guard = none) (s x : Operand) (t e : TypeId) (z : Value) (size bytes : Nat)
    (ho : o.op = .call { callee := .builtin .append, args := #[s, x], argTypes := #[t, t] })
    (ht : P.underlying t = some (.slice e)) (hinfo : (P.info? e).map (fun i => (i.zero, i.size, i.bytes)) = some (some z, size, bytes)) (hz : z.cells.size = size) (hs0 : 0 < size) (hb0 : 0 < bytes)
    (v : Value) (n : Nat) (xs ys : List Value) (hs : a.eval s = v) (hx : a.eval x = .slice (some ⟨W.heap.size, 0, none⟩) 1 1) (h1 : ys.all (fun u => u.oneCell') = true) (hyl : ys.length = size)
    (HO : W.ownsRow 0 e size v n xs) (hl : (n + 1) * bytes ≤ 140737488355328)
    (h : ∀ v1 w1, w1.ownsRow 0 e size v1 (n + 1) (xs ++ ys) → Grows W w1 v v1 → wpList P ops Q rest (a.put o.dst v1) w1) :
    wpList P ops Q (o :: rest) a (W.alloc (.cells ys.toArray e)) := by
  obtain ⟨i0, hi, hzz⟩ := Option.map_eq_some_iff.1 hinfo
  simp only [Prod.mk.injEq] at hzz
  obtain ⟨hz0, hz1, hz2⟩ := hzz
  have hlen : n + 1 ≤ 140737488355328 := Nat.le_trans (Nat.le_mul_of_pos_right _ hb0) hl
  refine wpList_append_own_at (W.alloc (.cells ys.toArray e)) hgd s x t ho 0 e i0 z size bytes ht hi hz0 hz1 hz2 hz hs0 v n xs hs (HO.alloc _) ⟨W.heap.size, 0, none⟩ 1 1 ys hx (by omega)
    (World.news_of_block (cs := ys.toArray) (t := e) (fr := (0, 0)) (heap_alloc_new W _)) (by simpa using h1) (by simp only [maxLen]; omega) hl (by simp) ?_
  intro v1 w1 hown hg _ hat
  refine h v1 w1 hown ⟨World.grownBy.trans (World.grownBy_alloc W _ _) hg, ?_⟩
  rcases hat with hat | hat
  · exact .inl hat
  · exact .inr ⟨_, hat, by simp⟩
/-- append(v, ys...) of a row that lies elsewhere -/
theorem app_row {W : World} (hgd : o.guard = none) (s x : Operand) (t e : TypeId) (z : Value) (size bytes : Nat)
    (ho : o.op = .call { callee := .builtin .append, args := #[s, x], argTypes := #[t, t] })
    (ht : P.underlying t = some (.slice e)) (hinfo : (P.info? e).map (fun i => (i.zero, i.size, i.bytes)) = some (some z, size, bytes)) (hz : z.cells.size = size) (hs0 : 0 < size) (hb0 : 0 < bytes)
    (v : Value) (n m c : Nat) (ad : Addr) (xs ys : List Value) (hs : a.eval s = v) (hx : a.eval x = .slice (some ad) m c) (h1 : ys.all (fun u => u.oneCell') = true) (hyl : ys.length = m * size)
    (hys : ∀ j u, ys[j]? = some u → W.cell? (ad.add j) = some u)
    (HO : W.ownsRow 0 e size v n xs) (hl : (n + m) * bytes ≤ 140737488355328)
    (h : ∀ v1 w1, w1.ownsRow 0 e size v1 (n + m) (xs ++ ys) → Grows W w1 v v1 → wpList P ops Q rest (a.put o.dst v1) w1) :
    wpList P ops Q (o :: rest) a W := by
  obtain ⟨i0, hi, hzz⟩ := Option.map_eq_some_iff.1 hinfo
  simp only [Prod.mk.injEq] at hzz
  obtain ⟨hz0, hz1, hz2⟩ := hzz
  have hlen : n + m ≤ 140737488355328 := Nat.le_trans (Nat.le_mul_of_pos_right _ hb0) hl
  refine wpList_append_own_at W hgd s x t ho 0 e i0 z size bytes ht hi hz0 hz1 hz2 hz hs0 v n xs hs HO ad m c ys hx hyl hys (by simpa using h1) (by simp only [maxLen]; omega) hl (by simp) ?_
  intro v1 w1 hown hg _ hat
  refine h v1 w1 hown ⟨hg, ?_⟩
  rcases hat with hat | hat
  · exact .inl hat
  · exact .inr ⟨_, hat, by simp⟩
end

theorem Tryz.info5 : (Tryz.prog.info? 5).map (fun i => (i.zero, i.size, i.bytes)) = some (some (.int .u8 0), 1, 1) := by kernel_rfl
end Go.Proofs.YtllkjfadeaoicaaGreat
namespace Go.Proofs.YtllkjfadeaoicaaGreat
open Go.RowKit
/-! ### a block that is known whole -/
theorem cell_of {w : World} {b : Nat} {cs : Array Value} {T : TypeId} {fr : Nat × Nat} (h : w.heap[b]? = some (.cells cs T fr)) (i : Nat) : w.cell? ⟨b, i, none⟩ = cs[i]? := by
  simp [World.cell?, h]
theorem frozen_of {w : World} {b : Nat} {cs : Array Value} {T : TypeId} (h : w.heap[b]? = some (.cells cs T (0, 0))) (i : Nat) : w.frozen? ⟨b, i, none⟩ = false := by
  simp [World.frozen?, h]
theorem heap_set {w : World} {b : Nat} {cs : Array Value} {T : TypeId} {fr : Nat × Nat} (h : w.heap[b]? = some (.cells cs T fr)) (i : Nat) (v : Value) :
    (w.setCell ⟨b, i, none⟩ v).heap[b]? = some (.cells (cs.setIfInBounds i v) T fr) := by
  unfold World.setCell
  simp only [Array.getElem?_modify, if_true]
  rw [h]; rfl
theorem lt_of_heap {w : World} {b : Nat} {o : Obj} (h : w.heap[b]? = some o) : b < w.heap.size := (Array.getElem?_eq_some_iff.1 h).1
theorem grownBy_set (w : World) (b i : Nat) (v : Value) : w.grownBy (w.setCell ⟨b, i, none⟩ v) (some b) :=
  ⟨rfl, rfl, rfl, by simp [World.setCell], fun k _ hk => by
    have : k ≠ b := fun e => hk (by rw [e])
    exact Below.heap_setCell w _ v k this⟩
theorem grownBy_alloc' (w : World) (o : Obj) (r : Option Nat) : w.grownBy (w.alloc o) r := World.grownBy_alloc w o r
theorem heap_keep {w w' : World} {r : Option Nat} (h : w.grownBy w' r) {b : Nat} {o : Obj} (hb : w.heap[b]? = some o) (hne : some b ≠ r) : w'.heap[b]? = some o := by
  rw [h.block b (lt_of_heap hb) hne]; exact hb

/-! ### bytes that are read -/
def ReadsU8 (w : World) (A : Option Addr) (n : Nat) (l : Bs) : Prop :=
  l.length = n ∧ (0 < n → ∃ b o, A = some ⟨b, o, none⟩ ∧ ∀ j, j < n → w.cell? ⟨b, o + j, none⟩ = some (.int .u8 ((l.getD j 0).toNat : Int)))
/-- those bytes lie in no row that is written -/
theorem ReadsU8.keep {w w' : World} {A : Option Addr} {n : Nat} {l : Bs} (h : ReadsU8 w A n l) {r : Option Nat} (hg : w.grownBy w' r) (hne : ∀ a, A = some a → some a.block ≠ r) : ReadsU8 w' A n l :=
  ⟨h.1, fun hn => by
    obtain ⟨b, o, rfl, hc⟩ := h.2 hn
    exact ⟨b, o, rfl, fun j hj => hg.cell (hc j hj) (hne ⟨b, o, none⟩ rfl)⟩⟩
theorem ReadsU8.nil (w : World) (A : Option Addr) : ReadsU8 w A 0 [] := ⟨rfl, fun h => absurd h (by omega)⟩
theorem ReadsU8.drop {w : World} {b o n k : Nat} {l : Bs} (h : ReadsU8 w (some ⟨b, o, none⟩) n l) (hk : k ≤ n) : ReadsU8 w (some ⟨b, o + k, none⟩) (n - k) (l.drop k) := by
  refine ⟨by simp [h.1], fun hn => ⟨b, o + k, rfl, fun j hj => ?_⟩⟩
  obtain ⟨b', o', e, hc⟩ := h.2 (by omega)
  cases e
  have := hc (k + j) (by omega)
  rw [← Nat.add_assoc] at this
  rw [this]
  simp [List.getD_eq_getElem?_getD, List.getElem?_drop]
theorem ReadsU8.take {w : World} {A : Option Addr} {n k : Nat} {l : Bs} (h : ReadsU8 w A n l) (hk : k ≤ n) : ReadsU8 w A k (l.take k) := by
  refine ⟨by simp [h.1]; omega, fun hn => ?_⟩
  obtain ⟨b', o', e, hc⟩ := h.2 (by omega)
  refine ⟨b', o', e, fun j hj => ?_⟩
  rw [hc j (by omega)]
  simp [List.getD_eq_getElem?_getD, hj]

theorem conv_u8 {w : World} {A : Option Addr} {n : Nat} {l : Bs} (h : ReadsU8 w A n l) (hA : ∀ a, A = some a → a.spot = none) (c : Nat) :
    (convert 22 9 (.slice A n c)).run Tryz.prog w = .ok (.string ⟨l.toArray⟩) w := by
  rcases A with _ | ⟨b, o, sp⟩
  · have hn : n = 0 := by
      rcases Nat.eq_zero_or_pos n with g | g
      · exact g
      · obtain ⟨_, _, e, _⟩ := h.2 g; cases e
    have hl : l = [] := List.eq_nil_of_length_eq_zero (h.1.trans hn)
    rw [run_convert_bytes_nil w 22 5 Tryz.underlying22 Tryz.underlying5 n c 9 Tryz.underlying9, hl]
    rfl
  · obtain rfl : sp = none := hA _ rfl
    rw [run_convert_bytes_arg w 22 5 Tryz.underlying22 Tryz.underlying5 b o n c (l.map fun x => (x.toNat : Int)) (by simpa using h.1) (fun i hi => by
      obtain ⟨b', o', e, hc⟩ := h.2 (by omega)
      cases e
      rw [hc i hi]
      simp [List.getD_eq_getElem?_getD, List.getElem?_eq_getElem (show i < l.length by rw [h.1]; exact hi)]) 9 Tryz.underlying9]
    congr 2
    unfold strOfNums
    congr 2
    rw [List.map_map]
    have : ((fun n : Int => UInt8.ofNat n.toNat) ∘ fun x : UInt8 => (x.toNat : Int)) = id := by
      funext x; simp
    rw [this, List.map_id]
@[go_sem] theorem eql_nil_u8 (w : World) (a : Option Addr) (n c : Nat) : (binOp .eql 22 (.slice a n c) (.slice none 0 0)).run Tryz.prog w = .ok (.bool a.isNone) w := Lib.run_eql_slice_nil w 22 5 a n c 0 0 Tryz.underlying22

theorem grownBy_drewN {w w' : World} {r : Option Nat} (h : w.grownBy w' r) (n : Nat) : w.grownBy (w'.drewN n) r := ⟨h.os, h.tape, h.output, h.size, h.block⟩
theorem heap_drewN (w : World) (n : Nat) : (w.drewN n).heap = w.heap := rfl
theorem grownBy_from_drewN {w w' : World} {r : Option Nat} {n : Nat} (h : (w.drewN n).grownBy w' r) : w.grownBy w' r := ⟨h.os, h.tape, h.output, h.size, h.block⟩

/-- what writes to a new block writes nothing that was there -/
theorem grownBy_fresh {a b c : World} {r : Option Nat} {k : Nat} (h : a.grownBy b r) (g : b.grownBy c (some k)) (hk : a.heap.size ≤ k) : a.grownBy c r :=
  grownBy_trans' h g (.inr ⟨k, rfl, hk⟩)
end Go.Proofs.YtllkjfadeaoicaaGreat

set_option linter.unusedVariables false
set_option linter.unusedSimpArgs false
namespace Go.Proofs.YtllkjfadeaoicaaGreat
open Go.RowKit

/-- w' is w with new blocks; of the old ones those of S alone may be written -/
structure Upd (S : Nat → Prop) (w w' : World) : Prop where
  os : w'.os = w.os
  tape : w'.tape = w.tape
  output : w'.output = w.output
  size : w.heap.size ≤ w'.heap.size
  block : ∀ k, k < w.heap.size → ¬ S k → w'.heap[k]? = w.heap[k]?
theorem Upd.refl (S : Nat → Prop) (w : World) : Upd S w w := ⟨rfl, rfl, rfl, Nat.le_refl _, fun _ _ _ => rfl⟩
theorem Upd.trans {S T : Nat → Prop} {a b c : World} (h : Upd S a b) (g : Upd T b c) (hT : ∀ k, T k → S k ∨ a.heap.size ≤ k) : Upd S a c :=
  ⟨g.os.trans h.os, g.tape.trans h.tape, g.output.trans h.output, Nat.le_trans h.size g.size, fun k hk hn => by
    rw [g.block k (Nat.lt_of_lt_of_le hk h.size) (fun ht => by rcases hT k ht with e | e; exact hn e; omega), h.block k hk hn]⟩
theorem Upd.mono {S T : Nat → Prop} {a b : World} (h : Upd S a b) (hT : ∀ k, S k → T k ∨ a.heap.size ≤ k) : Upd T a b :=
  ⟨h.os, h.tape, h.output, h.size, fun k hk hn => h.block k hk (fun hs => by rcases hT k hs with e | e; exact hn e; omega)⟩
theorem Upd.of_grown {w w' : World} {r : Option Nat} (h : w.grownBy w' r) : Upd (fun k => r = some k) w w' := ⟨h.os, h.tape, h.output, h.size, fun k hk hn => h.block k hk (fun e => hn e.symm)⟩
theorem Upd.alloc (S : Nat → Prop) (w : World) (o : Obj) : Upd S w (w.alloc o) := (Upd.of_grown (World.grownBy_alloc w o none)).mono (fun k e => by cases e)
theorem Upd.set (w : World) (b i : Nat) (v : Value) : Upd (fun k => k = b) w (w.setCell ⟨b, i, none⟩ v) := (Upd.of_grown (grownBy_set w b i v)).mono (fun k e => by cases e; exact .inl rfl)
theorem Upd.drewN {S : Nat → Prop} {w w' : World} (h : Upd S w w') (n : Nat) : Upd S w (w'.drewN n) := ⟨h.os, h.tape, h.output, h.size, h.block⟩
theorem Upd.from_drewN {S : Nat → Prop} {w w' : World} {n : Nat} (h : Upd S (w.drewN n) w') : Upd S w w' := ⟨h.os, h.tape, h.output, h.size, h.block⟩
theorem Upd.heap {S : Nat → Prop} {w w' : World} (h : Upd S w w') {b : Nat} {o : Obj} (hb : w.heap[b]? = some o) (hn : ¬ S b) : w'.heap[b]? = some o := by
  rw [h.block b (lt_of_heap hb) hn]; exact hb
theorem Upd.cell {S : Nat → Prop} {w w' : World} (h : Upd S w w') {a : Addr} {v : Value} (hc : w.cell? a = some v) (hn : ¬ S a.block) : w'.cell? a = some v :=
  (World.cell?_of_block (w := w) (h.block a.block (World.block_lt_of_cell? w a hc) hn)).trans hc
theorem Upd.below {S : Nat → Prop} {w w' : World} (h : Upd S w w') {B : Nat} (hB : B ≤ w.heap.size) (hn : ∀ k, S k → B ≤ k) : Below B w w' :=
  ⟨h.os, h.tape, h.output, h.size, fun k hk => h.block k (Nat.lt_of_lt_of_le hk hB) (fun hs => by have := hn k hs; omega)⟩
theorem own_keep {S : Nat → Prop} {w w' : World} (h : Upd S w w') {base n : Nat} {e : TypeId} {size : Nat} {v : Value} {xs : List Value} (ho : w.ownsRow base e size v n xs) (hn : ∀ k, v.ownBlock = some k → ¬ S k) : w'.ownsRow base e size v n xs := by
  refine ⟨ho.1, ?_⟩
  rcases ho.2 with g | ⟨g, cap, cur, rfl, h1, h2, h3⟩
  · exact .inl g
  · exact .inr ⟨g, cap, cur, rfl, h1, h.heap h2 (hn g rfl), h3⟩
theorem own_form {w : World} {base n : Nat} {e : TypeId} {size : Nat} {v : Value} {xs : List Value} (h : w.ownsRow base e size v n xs) : ∃ A n c, v = .slice A n c := by
  rcases h.2 with ⟨rfl, rfl⟩ | ⟨g, cap, cur, rfl, _⟩
  · exact ⟨none, 0, 0, rfl⟩
  · exact ⟨_, n, cap, rfl⟩

theorem Upd.cellEq {S : Nat → Prop} {w w' : World} (h : Upd S w w') {a : Addr} (ha : a.block < w.heap.size) (hn : ¬ S a.block) : w'.cell? a = w.cell? a := World.cell?_of_block (w := w) (h.block a.block ha hn)
end Go.Proofs.YtllkjfadeaoicaaGreat

set_option linter.unusedVariables false
set_option linter.unusedSimpArgs false
namespace Go.Proofs.YtllkjfadeaoicaaGreat
open Go.RowKit

/-- from 0 to a number -/
def upTo (n m : Int) : Bool := decide (0 ≤ n) && decide (n ≤ m)
theorem upTo_yes {n m : Int} (h0 : 0 ≤ n) (h1 : n ≤ m) : upTo n m = true := by unfold upTo; simp [h0, h1]
theorem upTo_neg {n m : Int} (h0 : ¬ 0 ≤ n) : upTo n m = false := by unfold upTo; simp [h0]
theorem upTo_big {n m : Int} (h1 : ¬ n ≤ m) : upTo n m = false := by unfold upTo; simp [h1]

theorem ret_bool {a b : Bool} (h : a = b) : Ending.returned (.bool a) = Ending.returned (.bool b) := by rw [h]
theorem ret_i64 {a b : Int} (h : a = b) : Ending.returned (.int .i64 a) = Ending.returned (.int .i64 b) := by rw [h]

theorem cells_moment (n : Int) (w : World) : Calls Tryz.prog 170 #[.int .i64 n] w fun e w' => e = .returned (.bool (upTo n 1099511627776)) ∧ w = w' := by
  by_cases h0 : 0 ≤ n
  · by_cases h1 : n ≤ 1099511627776
    · have H := Lib.hid (upTo_yes h0 h1)
      go_enter Tryz.func170, Tryz.ntmps170
      go_wp2_with fail
      go_ret
      exact ⟨ret_bool H.out.symm, rfl⟩
    · have H := Lib.hid (upTo_big (n := n) h1)
      go_enter Tryz.func170, Tryz.ntmps170
      go_wp2_with fail
      go_ret
      exact ⟨ret_bool H.out.symm, rfl⟩
  · have H := Lib.hid (upTo_neg (m := 1099511627776) h0)
    go_enter Tryz.func170, Tryz.ntmps170
    go_wp2_with fail
    go_ret
    exact ⟨ret_bool H.out.symm, rfl⟩
theorem shard_number (n m : Int) (w : World) : Calls Tryz.prog 129 #[.int .i64 n, .int .i64 m] w fun e w' => e = .returned (.bool (upTo n m)) ∧ w = w' := by
  by_cases h0 : 0 ≤ n
  · by_cases h1 : n ≤ m
    · have H := Lib.hid (upTo_yes h0 h1)
      go_enter Tryz.func129, Tryz.ntmps129
      go_wp2_with fail
      go_ret
      exact ⟨ret_bool H.out.symm, rfl⟩
    · have H := Lib.hid (upTo_big (n := n) h1)
      go_enter Tryz.func129, Tryz.ntmps129
      go_wp2_with fail
      go_ret
      exact ⟨ret_bool H.out.symm, rfl⟩
  · have H := Lib.hid (upTo_neg (m := m) h0)
    go_enter Tryz.func129, Tryz.ntmps129
    go_wp2_with fail
    go_ret
    exact ⟨ret_bool H.out.symm, rfl⟩
theorem locks_mode (m : Int) (w : World) : Calls Tryz.prog 180 #[.int .i64 m] w fun e w' => e = .returned (.bool (isMode m)) ∧ w = w' := by
  by_cases h1 : m = 1
  · subst h1
    go_enter Tryz.func180, Tryz.ntmps180
    go_wp2_with fail
    go_ret
    exact ⟨rfl, rfl⟩
  · have i1 : (m == 1) = false := beq_eq_false_iff_ne.2 h1
    have H := Lib.hid (show isMode m = (m == 2) by unfold isMode; rw [i1, Bool.false_or])
    clear h1
    go_enter Tryz.func180, Tryz.ntmps180
    go_wp2_with fail
    go_ret
    exact ⟨ret_bool H.out.symm, rfl⟩
theorem locks_clash (a b : Int) (w : World) : Calls Tryz.prog 294 #[.int .i64 a, .int .i64 b] w fun e w' => e = .returned (.bool (clash a b)) ∧ w = w' := by
  by_cases h1 : a = 2
  · subst h1
    go_enter Tryz.func294, Tryz.ntmps294
    go_wp2_with fail
    go_ret
    exact ⟨rfl, rfl⟩
  · have i1 : (a == 2) = false := beq_eq_false_iff_ne.2 h1
    have H := Lib.hid (show clash a b = (b == 2) by unfold clash; rw [i1, Bool.false_or])
    clear h1
    go_enter Tryz.func294, Tryz.ntmps294
    go_wp2_with fail
    go_ret
    exact ⟨ret_bool H.out.symm, rfl⟩
end Go.Proofs.YtllkjfadeaoicaaGreat

set_option linter.unusedVariables false
set_option linter.unusedSimpArgs false
namespace Go.Proofs.YtllkjfadeaoicaaGreat
open Go.RowKit

def str (s : Bs) : Value := .string ⟨s.toArray⟩
/-- v is a slice of these, each of sz cells, in a block of S -/
def Rows {α : Type} (w : World) (S : Nat → Prop) (el : α → List Value → Prop) (sz : Nat) (v : Value) (xs : List α) : Prop :=
  ∃ A n c, v = .slice A n c ∧ xs.length = n ∧ n ≤ c ∧ c ≤ 9223372036854775807 ∧ (0 < n → ∃ b o, A = some ⟨b, o, none⟩ ∧ S b ∧ ∀ k x, xs[k]? = some x → ∃ cs, cs.length = sz ∧ el x cs ∧ ∀ i u, cs[i]? = some u → w.cell? ⟨b, o + k * sz + i, none⟩ = some u)
theorem Rows.form {α : Type} {w : World} {S : Nat → Prop} {el : α → List Value → Prop} {sz : Nat} {v : Value} {xs : List α} (h : Rows w S el sz v xs) : ∃ A n c, v = .slice A n c := by
  obtain ⟨A, n, c, e, _⟩ := h; exact ⟨A, n, c, e⟩
theorem Rows.imp {α : Type} {w w' : World} {S S' : Nat → Prop} {el el' : α → List Value → Prop} {sz : Nat} {v : Value} {xs : List α} (h : Rows w S el sz v xs) (hB : ∀ k, S k → S' k) (hw : ∀ a : Addr, S a.block → w'.cell? a = w.cell? a)
    (he : ∀ x cs, el x cs → el' x cs) : Rows w' S' el' sz v xs := by
  obtain ⟨A, n, c, e, hl, hn, hc, hr⟩ := h
  refine ⟨A, n, c, e, hl, hn, hc, fun h0 => ?_⟩
  obtain ⟨b, o, hA, hb, hk⟩ := hr h0
  refine ⟨b, o, hA, hB b hb, fun k x hx => ?_⟩
  obtain ⟨cs, h1, h2, h3⟩ := hk k x hx
  exact ⟨cs, h1, he x cs h2, fun i u hu => (hw _ hb).trans (h3 i u hu)⟩
def lenOk (s : Bs) : Prop := s.length ≤ 140737488355327
def elVersion (x : Version) (cs : List Value) : Prop := cs = [.int .i64 x.at_, str x.value, .bool x.has] ∧ lenOk x.value
def elHold (x : Hold) (cs : List Value) : Prop := cs = [.int .i64 x.owner, .int .i64 x.mode]
def elRow (x : Row) (cs : List Value) : Prop := cs = [.int .i64 x.tx, .int .i64 x.attempt, .int .i64 x.stamp, .int .i64 x.state, .int .i64 x.heard]
def elDone (x : Done) (cs : List Value) : Prop := cs = [.int .i64 x.tx, .int .i64 x.attempt]
def elWrite (x : Write) (cs : List Value) : Prop := cs = [str x.key, str x.value, .bool x.has] ∧ lenOk x.key ∧ lenOk x.value
def elCmd (x : Cmd) (cs : List Value) : Prop := cs = [.int .i64 x.kind, .int .i64 x.tx, .int .i64 x.attempt, .int .i64 x.stamp, .int .i64 x.op, str x.key, str x.value, .int .i64 x.mode, .bool x.yes] ∧ lenOk x.key ∧ lenOk x.value
def elCell (w : World) (S : Nat → Prop) (x : Cell) (cs : List Value) : Prop := ∃ v, cs = [str x.key, v] ∧ lenOk x.key ∧ Rows w S elVersion 3 v x.versions
def elLine (w : World) (S : Nat → Prop) (x : Line) (cs : List Value) : Prop := ∃ v u, cs = [str x.key, v, u] ∧ lenOk x.key ∧ Rows w S elHold 2 v x.holders ∧ Rows w S elHold 2 u x.queue
def elLive (w : World) (S : Nat → Prop) (x : Live) (cs : List Value) : Prop := ∃ v, cs = [.int .i64 x.tx, .int .i64 x.attempt, .int .i64 x.last.kind, .int .i64 x.last.tx, .int .i64 x.last.attempt, .int .i64 x.last.stamp, .int .i64 x.last.op, str x.last.key, str x.last.value, .int .i64 x.last.mode, .bool x.last.yes, v] ∧ lenOk x.last.key ∧ lenOk x.last.value ∧ Rows w S elWrite 3 v x.writes
def elWhole (w : World) (S : Nat → Prop) (x : Whole) (cs : List Value) : Prop :=
  ∃ v1 v2 v3 v4 v5, cs = [.int .i64 x.clock, .int .i64 x.moment, v1, v2, v3, v4, v5] ∧ Rows w S (elCell w S) 2 v1 x.cells ∧ Rows w S (elLine w S) 3 v2 x.lines ∧ Rows w S elRow 5 v3 x.rows ∧ Rows w S (elLive w S) 12 v4 x.lives ∧ Rows w S elDone 2 v5 x.dones
theorem elCell.imp {w w' : World} {S S' : Nat → Prop} {x : Cell} {cs : List Value} (h : elCell w S x cs) (hB : ∀ k, S k → S' k) (hw : ∀ a : Addr, S a.block → w'.cell? a = w.cell? a) : elCell w' S' x cs := by
  obtain ⟨v, e, h1, h2⟩ := h; exact ⟨v, e, h1, h2.imp hB hw fun _ _ h => h⟩
theorem elLine.imp {w w' : World} {S S' : Nat → Prop} {x : Line} {cs : List Value} (h : elLine w S x cs) (hB : ∀ k, S k → S' k) (hw : ∀ a : Addr, S a.block → w'.cell? a = w.cell? a) : elLine w' S' x cs := by
  obtain ⟨v, u, e, h1, h2, h3⟩ := h; exact ⟨v, u, e, h1, h2.imp hB hw fun _ _ h => h, h3.imp hB hw fun _ _ h => h⟩
theorem elLive.imp {w w' : World} {S S' : Nat → Prop} {x : Live} {cs : List Value} (h : elLive w S x cs) (hB : ∀ k, S k → S' k) (hw : ∀ a : Addr, S a.block → w'.cell? a = w.cell? a) : elLive w' S' x cs := by
  obtain ⟨v, e, h1, h2, h3⟩ := h; exact ⟨v, e, h1, h2, h3.imp hB hw fun _ _ h => h⟩
theorem elWhole.imp {w w' : World} {S S' : Nat → Prop} {x : Whole} {cs : List Value} (h : elWhole w S x cs) (hB : ∀ k, S k → S' k) (hw : ∀ a : Addr, S a.block → w'.cell? a = w.cell? a) : elWhole w' S' x cs := by
  obtain ⟨v1, v2, v3, v4, v5, e, h1, h2, h3, h4, h5⟩ := h
  exact ⟨v1, v2, v3, v4, v5, e, h1.imp hB hw fun _ _ h => h.imp hB hw, h2.imp hB hw fun _ _ h => h.imp hB hw, h3.imp hB hw fun _ _ h => h, h4.imp hB hw fun _ _ h => h.imp hB hw, h5.imp hB hw fun _ _ h => h⟩
theorem below_cells {B : Nat} {w w' : World} (h : Below B w w') : ∀ a : Addr, a.block < B → w'.cell? a = w.cell? a := fun a ha => h.cell ha
end Go.Proofs.YtllkjfadeaoicaaGreat

set_option linter.unusedVariables false
set_option linter.unusedSimpArgs false
namespace Go.Proofs.YtllkjfadeaoicaaGreat
open Go.RowKit

/-- a slice whose elements have these cells -/
def IsSrc (w : World) (A : Option Addr) (n sz : Nat) (ys : List Value) : Prop :=
  ys.length = n * sz ∧ (∀ u ∈ ys, u.oneCell' = true) ∧ ((A = none ∧ n = 0) ∨ ∃ b o, A = some ⟨b, o, none⟩ ∧ ∀ j u, ys[j]? = some u → w.cell? ⟨b, o + j, none⟩ = some u)
theorem IsSrc.keep {w w' : World} {A : Option Addr} {n sz : Nat} {ys : List Value} (h : IsSrc w A n sz ys) {S : Nat → Prop} (hu : Upd S w w') (hn : ∀ a, A = some a → ¬ S a.block) : IsSrc w' A n sz ys :=
  ⟨h.1, h.2.1, h.2.2.imp id fun ⟨b, o, e, hc⟩ => ⟨b, o, e, fun j u hj => hu.cell (hc j u hj) (hn ⟨b, o, none⟩ e)⟩⟩
theorem addr_add (b o j : Nat) : (⟨b, o, none⟩ : Addr).add j = ⟨b, o + j, none⟩ := by unfold Addr.add; split <;> simp_all
/-- what is cloned: a new row, or nil -/
structure Cloned (w w' : World) (E sz : Nat) (A : Option Addr) (n : Nat) (ys : List Value) (v : Value) : Prop where
  own : w'.ownsRow 0 E sz v n ys
  grown : w.grownBy w' none
  fresh : ∀ k, v.ownBlock = some k → w.heap.size ≤ k


theorem Tryz.infoRow : (Tryz.prog.info? 116).map (fun i => (i.zero, i.size, i.bytes)) = some (some (.agg #[.int .i64 0, .int .i64 0, .int .i64 0, .int .i64 0, .int .i64 0]), 5, 40) := by kernel_rfl
@[go_sem] theorem eql_nil_Row (w : World) (a : Option Addr) (n c : Nat) : (binOp .eql 29 (.slice a n c) (.slice none 0 0)).run Tryz.prog w = .ok (.bool a.isNone) w := Lib.run_eql_slice_nil w 29 116 a n c 0 0 Tryz.underlying29
set_option maxHeartbeats 400000 in
set_option maxRecDepth 100000 in
theorem clone_Row (A : Option Addr) (n c : Nat) (ys : List Value) (w : World) (h : IsSrc w A n 5 ys) (hl : n * 40 ≤ 140737488355328) :
    Calls Tryz.prog 202 #[.slice A n c] w fun e w' => ∃ v, e = .returned v ∧ Cloned w w' 116 5 A n ys v := by
  obtain ⟨h1, h2, h3⟩ := h
  rcases h3 with ⟨rfl, rfl⟩ | ⟨b, o, rfl, hc⟩
  · obtain rfl : ys = [] := List.eq_nil_of_length_eq_zero (by omega)
    go_enter Tryz.func202, Tryz.ntmps202
    go_wp2_with fail
    go_ret
    exact ⟨.slice none 0 0, rfl, World.ownsRow_nil .., grownBy_refl w _, fun k e => (by cases e)⟩
  · have H1 := Lib.hid h1; have H2 := Lib.hid (List.all_eq_true.2 h2)
    have HC := Lib.hid (fun j u (hj : ys[j]? = some u) => (show (w.alloc (.cells #[] 116)).cell? ((⟨b, o, none⟩ : Addr).add j) = some u by
      rw [addr_add]; exact (World.grownBy_alloc w (.cells #[] 116) none).cell (hc j u hj) (by simp)))
    have HO := Lib.hid (World.ownsRow_lit (base := 0) (e := 116) (size := 5) w #[] 0 (Nat.zero_le _) (by simp [maxLen]) rfl)
    clear h1 h2 hc
    go_enter Tryz.func202, Tryz.ntmps202
    go_wp2_with (at_builtin; refine app_row rfl _ _ 29 116 (.agg #[.int .i64 0, .int .i64 0, .int .i64 0, .int .i64 0, .int .i64 0]) 5 40 rfl Tryz.underlying29 Tryz.infoRow rfl (by decide) (by decide) (.slice (some ⟨w.heap.size, 0, none⟩) 0 0) 0 n c ⟨b, o, none⟩ [] ys rfl rfl H2.out H1.out HC.out HO.out (by omega) ?_; intro v1 w1 hown hg; have HO1 := Lib.hid hown; have HG1 := Lib.hid hg; clear hown hg)
    go_ret
    have hown := HO1.out
    rw [Nat.zero_add, List.nil_append] at hown
    refine ⟨v1, rfl, hown, grownBy_fresh (World.grownBy_alloc w _ none) HG1.out.g (Nat.le_refl _), fun k e => ?_⟩
    rcases HG1.out.b with g | ⟨x, g, hx⟩
    · rw [g] at e; cases e; exact Nat.le_refl _
    · rw [g] at e; cases e; simp at hx; omega

theorem Tryz.infoVersion : (Tryz.prog.info? 194).map (fun i => (i.zero, i.size, i.bytes)) = some (some (.agg #[.int .i64 0, .string ⟨#[]⟩, .bool false]), 3, 32) := by kernel_rfl
@[go_sem] theorem eql_nil_Version (w : World) (a : Option Addr) (n c : Nat) : (binOp .eql 105 (.slice a n c) (.slice none 0 0)).run Tryz.prog w = .ok (.bool a.isNone) w := Lib.run_eql_slice_nil w 105 194 a n c 0 0 Tryz.underlying105
set_option maxHeartbeats 400000 in
set_option maxRecDepth 100000 in
theorem clone_Version (A : Option Addr) (n c : Nat) (ys : List Value) (w : World) (h : IsSrc w A n 3 ys) (hl : n * 32 ≤ 140737488355328) :
    Calls Tryz.prog 200 #[.slice A n c] w fun e w' => ∃ v, e = .returned v ∧ Cloned w w' 194 3 A n ys v := by
  obtain ⟨h1, h2, h3⟩ := h
  rcases h3 with ⟨rfl, rfl⟩ | ⟨b, o, rfl, hc⟩
  · obtain rfl : ys = [] := List.eq_nil_of_length_eq_zero (by omega)
    go_enter Tryz.func200, Tryz.ntmps200
    go_wp2_with fail
    go_ret
    exact ⟨.slice none 0 0, rfl, World.ownsRow_nil .., grownBy_refl w _, fun k e => (by cases e)⟩
  · have H1 := Lib.hid h1; have H2 := Lib.hid (List.all_eq_true.2 h2)
    have HC := Lib.hid (fun j u (hj : ys[j]? = some u) => (show (w.alloc (.cells #[] 194)).cell? ((⟨b, o, none⟩ : Addr).add j) = some u by
      rw [addr_add]; exact (World.grownBy_alloc w (.cells #[] 194) none).cell (hc j u hj) (by simp)))
    have HO := Lib.hid (World.ownsRow_lit (base := 0) (e := 194) (size := 3) w #[] 0 (Nat.zero_le _) (by simp [maxLen]) rfl)
    clear h1 h2 hc
    go_enter Tryz.func200, Tryz.ntmps200
    go_wp2_with (at_builtin; refine app_row rfl _ _ 105 194 (.agg #[.int .i64 0, .string ⟨#[]⟩, .bool false]) 3 32 rfl Tryz.underlying105 Tryz.infoVersion rfl (by decide) (by decide) (.slice (some ⟨w.heap.size, 0, none⟩) 0 0) 0 n c ⟨b, o, none⟩ [] ys rfl rfl H2.out H1.out HC.out HO.out (by omega) ?_; intro v1 w1 hown hg; have HO1 := Lib.hid hown; have HG1 := Lib.hid hg; clear hown hg)
    go_ret
    have hown := HO1.out
    rw [Nat.zero_add, List.nil_append] at hown
    refine ⟨v1, rfl, hown, grownBy_fresh (World.grownBy_alloc w _ none) HG1.out.g (Nat.le_refl _), fun k e => ?_⟩
    rcases HG1.out.b with g | ⟨x, g, hx⟩
    · rw [g] at e; cases e; exact Nat.le_refl _
    · rw [g] at e; cases e; simp at hx; omega

theorem Tryz.infoHold : (Tryz.prog.info? 198).map (fun i => (i.zero, i.size, i.bytes)) = some (some (.agg #[.int .i64 0, .int .i64 0]), 2, 16) := by kernel_rfl
@[go_sem] theorem eql_nil_Hold (w : World) (a : Option Addr) (n c : Nat) : (binOp .eql 110 (.slice a n c) (.slice none 0 0)).run Tryz.prog w = .ok (.bool a.isNone) w := Lib.run_eql_slice_nil w 110 198 a n c 0 0 Tryz.underlying110
set_option maxHeartbeats 400000 in
set_option maxRecDepth 100000 in
theorem clone_Hold (A : Option Addr) (n c : Nat) (ys : List Value) (w : World) (h : IsSrc w A n 2 ys) (hl : n * 16 ≤ 140737488355328) :
    Calls Tryz.prog 248 #[.slice A n c] w fun e w' => ∃ v, e = .returned v ∧ Cloned w w' 198 2 A n ys v := by
  obtain ⟨h1, h2, h3⟩ := h
  rcases h3 with ⟨rfl, rfl⟩ | ⟨b, o, rfl, hc⟩
  · obtain rfl : ys = [] := List.eq_nil_of_length_eq_zero (by omega)
    go_enter Tryz.func248, Tryz.ntmps248
    go_wp2_with fail
    go_ret
    exact ⟨.slice none 0 0, rfl, World.ownsRow_nil .., grownBy_refl w _, fun k e => (by cases e)⟩
  · have H1 := Lib.hid h1; have H2 := Lib.hid (List.all_eq_true.2 h2)
    have HC := Lib.hid (fun j u (hj : ys[j]? = some u) => (show (w.alloc (.cells #[] 198)).cell? ((⟨b, o, none⟩ : Addr).add j) = some u by
      rw [addr_add]; exact (World.grownBy_alloc w (.cells #[] 198) none).cell (hc j u hj) (by simp)))
    have HO := Lib.hid (World.ownsRow_lit (base := 0) (e := 198) (size := 2) w #[] 0 (Nat.zero_le _) (by simp [maxLen]) rfl)
    clear h1 h2 hc
    go_enter Tryz.func248, Tryz.ntmps248
    go_wp2_with (at_builtin; refine app_row rfl _ _ 110 198 (.agg #[.int .i64 0, .int .i64 0]) 2 16 rfl Tryz.underlying110 Tryz.infoHold rfl (by decide) (by decide) (.slice (some ⟨w.heap.size, 0, none⟩) 0 0) 0 n c ⟨b, o, none⟩ [] ys rfl rfl H2.out H1.out HC.out HO.out (by omega) ?_; intro v1 w1 hown hg; have HO1 := Lib.hid hown; have HG1 := Lib.hid hg; clear hown hg)
    go_ret
    have hown := HO1.out
    rw [Nat.zero_add, List.nil_append] at hown
    refine ⟨v1, rfl, hown, grownBy_fresh (World.grownBy_alloc w _ none) HG1.out.g (Nat.le_refl _), fun k e => ?_⟩
    rcases HG1.out.b with g | ⟨x, g, hx⟩
    · rw [g] at e; cases e; exact Nat.le_refl _
    · rw [g] at e; cases e; simp at hx; omega

theorem Tryz.infoWrite : (Tryz.prog.info? 204).map (fun i => (i.zero, i.size, i.bytes)) = some (some (.agg #[.string ⟨#[]⟩, .string ⟨#[]⟩, .bool false]), 3, 40) := by kernel_rfl
@[go_sem] theorem eql_nil_Write (w : World) (a : Option Addr) (n c : Nat) : (binOp .eql 119 (.slice a n c) (.slice none 0 0)).run Tryz.prog w = .ok (.bool a.isNone) w := Lib.run_eql_slice_nil w 119 204 a n c 0 0 Tryz.underlying119
set_option maxHeartbeats 400000 in
set_option maxRecDepth 100000 in
theorem clone_Write (A : Option Addr) (n c : Nat) (ys : List Value) (w : World) (h : IsSrc w A n 3 ys) (hl : n * 40 ≤ 140737488355328) :
    Calls Tryz.prog 138 #[.slice A n c] w fun e w' => ∃ v, e = .returned v ∧ Cloned w w' 204 3 A n ys v := by
  obtain ⟨h1, h2, h3⟩ := h
  rcases h3 with ⟨rfl, rfl⟩ | ⟨b, o, rfl, hc⟩
  · obtain rfl : ys = [] := List.eq_nil_of_length_eq_zero (by omega)
    go_enter Tryz.func138, Tryz.ntmps138
    go_wp2_with fail
    go_ret
    exact ⟨.slice none 0 0, rfl, World.ownsRow_nil .., grownBy_refl w _, fun k e => (by cases e)⟩
  · have H1 := Lib.hid h1; have H2 := Lib.hid (List.all_eq_true.2 h2)
    have HC := Lib.hid (fun j u (hj : ys[j]? = some u) => (show (w.alloc (.cells #[] 204)).cell? ((⟨b, o, none⟩ : Addr).add j) = some u by
      rw [addr_add]; exact (World.grownBy_alloc w (.cells #[] 204) none).cell (hc j u hj) (by simp)))
    have HO := Lib.hid (World.ownsRow_lit (base := 0) (e := 204) (size := 3) w #[] 0 (Nat.zero_le _) (by simp [maxLen]) rfl)
    clear h1 h2 hc
    go_enter Tryz.func138, Tryz.ntmps138
    go_wp2_with (at_builtin; refine app_row rfl _ _ 119 204 (.agg #[.string ⟨#[]⟩, .string ⟨#[]⟩, .bool false]) 3 40 rfl Tryz.underlying119 Tryz.infoWrite rfl (by decide) (by decide) (.slice (some ⟨w.heap.size, 0, none⟩) 0 0) 0 n c ⟨b, o, none⟩ [] ys rfl rfl H2.out H1.out HC.out HO.out (by omega) ?_; intro v1 w1 hown hg; have HO1 := Lib.hid hown; have HG1 := Lib.hid hg; clear hown hg)
    go_ret
    have hown := HO1.out
    rw [Nat.zero_add, List.nil_append] at hown
    refine ⟨v1, rfl, hown, grownBy_fresh (World.grownBy_alloc w _ none) HG1.out.g (Nat.le_refl _), fun k e => ?_⟩
    rcases HG1.out.b with g | ⟨x, g, hx⟩
    · rw [g] at e; cases e; exact Nat.le_refl _
    · rw [g] at e; cases e; simp at hx; omega
end Go.Proofs.YtllkjfadeaoicaaGreat

set_option linter.unusedVariables false
set_option linter.unusedSimpArgs false
namespace Go.Proofs.YtllkjfadeaoicaaGreat
open Go.RowKit

theorem wrap_u64 (n : Int) : IntKind.u64.wrap n = u64 n := by
  unfold IntKind.wrap u64
  rw [if_neg (by simp [IntKind.signed])]
  rfl
theorem enc_byte (n : Int) (j : Nat) (h : j < 8) : u8s ((encInt n).take j) ++ [.int .u8 (IntKind.u64.wrap n / 2 ^ (8 * (7 - j)) % 256)] = u8s ((encInt n).take (j + 1)) := by
  rw [wrap_u64]
  have : j = 0 ∨ j = 1 ∨ j = 2 ∨ j = 3 ∨ j = 4 ∨ j = 5 ∨ j = 6 ∨ j = 7 := by omega
  rcases this with rfl | rfl | rfl | rfl | rfl | rfl | rfl | rfl <;> simp [u8s, encInt, lowB_toNat]
set_option maxHeartbeats 400000 in
set_option maxRecDepth 100000 in
theorem word_Int (v : Value) (l : Bs) (n : Int) (w : World) (HO : w.ownsRow 0 5 1 v l.length (u8s l)) (hl : l.length ≤ 1099511627776) :
    Calls Tryz.prog 83 #[v, .int .i64 n] w fun e w' => ∃ v', e = .returned v' ∧ w'.ownsRow 0 5 1 v' (l ++ encInt n).length (u8s (l ++ encInt n)) ∧ Grows w w' v v' := by
  have H := Lib.hid HO; clear HO
  go_enter Tryz.func83, Tryz.ntmps83
  go_wp2_with fail
  go_loopw [0, 5] (fun b i wr => ∃ (j : Nat), j ≤ 8 ∧ i = .int .i64 (7 - (j : Int)) ∧ wr.ownsRow 0 5 1 b (l.length + j) (u8s (l ++ (encInt n).take j)) ∧ Grows w wr v b) (fun _ i _ => (1 + intOf i).toNat)
  case atStart => exact ⟨0, by omega, rfl, by simpa using H.out, Grows.refl _ _⟩
  case round =>
    obtain ⟨j, hj, rfl, hown, hg⟩ := hrel
    by_cases hlt : j < 8
    · have HO := Lib.hid hown; clear hown
      have HG := Lib.hid hg; clear hg
      have hb := enc_byte n j hlt
      go_wp2_with (at_builtin; refine app_one rfl _ _ 22 5 (.int .u8 0) 1 1 rfl Tryz.underlying22 Tryz.info5 rfl (by decide) (by decide) u0 (l.length + j) _ [.int .u8 (IntKind.u64.wrap n / 2 ^ (8 * (7 - j)) % 256)] rfl rfl rfl rfl HO.out (by omega) ?_; intro v1 w1 hown1 hg1)
      have HO1 := Lib.hid hown1; clear hown1
      have HG1 := Lib.hid hg1; clear hg1
      go_wp2_with fail
      go_roundw
      case rel => exact ⟨j + 1, by omega, by go_num, by have := HO1.out; simp only [u8s_append, List.append_assoc] at this ⊢; rw [hb] at this; exact this, HG.out.trans HG1.out⟩
      case measure => simp [intOf]; omega
    · have hj8 : j = 8 := by omega
      subst hj8
      have HO := Lib.hid hown; clear hown
      have HG := Lib.hid hg; clear hg
      go_wp2_with fail
      go_ret
      exact ⟨u0, rfl, by rw [List.length_append, encInt_length]; exact HO.out, HG.out⟩
end Go.Proofs.YtllkjfadeaoicaaGreat

set_option linter.unusedVariables false
set_option linter.unusedSimpArgs false
namespace Go.Proofs.YtllkjfadeaoicaaGreat
open Go.RowKit

/-- block rb is a reader with these bytes left -/
structure RdrAt (w : World) (rb : Nat) (r : Rdr) : Prop where
  ex : ∃ A n c, w.heap[rb]? = some (.cells #[.slice A n c, .bool r.bad] 190 (0, 0)) ∧ ReadsU8 w A n r.b ∧ n ≤ c ∧ c ≤ 9223372036854775807 ∧ (∀ a, A = some a → a.block < rb ∧ a.spot = none) ∧ (A = none → c = 0)
  bad : r.bad = true → r.b = []
theorem RdrAt.drewN {w : World} {rb : Nat} {r : Rdr} (h : RdrAt w rb r) (n : Nat) : RdrAt (w.drewN n) rb r := ⟨h.ex, h.bad⟩
theorem RdrAt.lt {w : World} {rb : Nat} {r : Rdr} (h : RdrAt w rb r) : rb < w.heap.size := by
  obtain ⟨A, n, c, hb, _⟩ := h.ex
  exact lt_of_heap hb

theorem rdr_Fail (rb : Nat) (r : Rdr) (w : World) (h : RdrAt w rb r) : Calls Tryz.prog 100 #[.pointer (some ⟨rb, 0, none⟩)] w fun e w' => e = .returned (.bool r.bad) ∧ w = w' := by
  obtain ⟨A, n, c, hb, _⟩ := h.ex
  have h1 : w.cell? ⟨rb, 1, none⟩ = some (.bool r.bad) := by rw [cell_of hb]; rfl
  clear hb
  go_enter Tryz.func100, Tryz.ntmps100
  go_wp2_with fail
  go_ret
  exact ⟨rfl, rfl⟩

theorem rdr_fail (rb : Nat) (r : Rdr) (w : World) (h : RdrAt w rb r) : Calls Tryz.prog 164 #[.pointer (some ⟨rb, 0, none⟩)] w fun e w' => e = .returned (.tuple #[]) ∧ RdrAt w' rb .failed ∧ w.grownBy w' (some rb) := by
  obtain ⟨A, n, c, hb, _⟩ := h.ex
  have h0 : w.cell? ⟨rb, 0, none⟩ = some (.slice A n c) := by rw [cell_of hb]; rfl
  have h1 : w.cell? ⟨rb, 1, none⟩ = some (.bool r.bad) := by rw [cell_of hb]; rfl
  have f0 : w.frozen? ⟨rb, 0, none⟩ = false := frozen_of hb 0
  have f1 : w.frozen? ⟨rb, 1, none⟩ = false := frozen_of hb 1
  have HB := Lib.hid hb; clear hb
  go_enter Tryz.func164, Tryz.ntmps164
  go_wp2_with fail
  go_end0
  refine ⟨rfl, ⟨⟨none, 0, 0, ?_, ReadsU8.nil _ _, by omega, by omega, fun a e => (by cases e), fun _ => rfl⟩, fun _ => rfl⟩, ?_⟩
  · rw [heap_set (heap_set HB.out 1 _) 0]; rfl
  · exact grownBy_trans' (grownBy_set ..) (grownBy_set ..) (.inl rfl)

/-- what a part is: a slice over the first bytes -/
def PartIs (w : World) (rb n : Nat) (l : Bs) (e : Ending) (w' : World) : Prop :=
  ∃ A c, e = .returned (.slice A n c) ∧ ReadsU8 w' A n (l.take n) ∧ n ≤ c ∧ (∀ a, A = some a → a.block < rb ∧ a.spot = none) ∧ RdrAt w' rb ⟨l.drop n, false⟩ ∧ w.grownBy w' (some rb)

set_option maxHeartbeats 400000 in
theorem rdr_part_ok (rb : Nat) (r : Rdr) (n : Nat) (w : World) (h : RdrAt w rb r) (hbad : r.bad = false) (hn : n ≤ r.b.length) :
    Calls Tryz.prog 163 #[.pointer (some ⟨rb, 0, none⟩), .int .i64 n] w (PartIs w rb n r.b) := by
  obtain ⟨A, m, c, hb, hr, hmc, hc63, hA, hA0⟩ := h.ex
  have hm := hr.1
  have hF := rdr_Fail rb r w h
  rw [hbad] at hF hb
  have HF := Lib.hid hF; clear hF
  have h0 : w.cell? ⟨rb, 0, none⟩ = some (.slice A m c) := by rw [cell_of hb]; rfl
  have f0 : w.frozen? ⟨rb, 0, none⟩ = false := frozen_of hb 0
  have HB := Lib.hid hb; clear hb
  have HR := Lib.hid hr; clear hr
  rw [hm] at hn
  have HM := Lib.hid hm; clear hm
  have HBAD := Lib.hid hbad; clear hbad
  have HA := Lib.hid hA; clear hA
  rcases A with _ | ⟨b, o, sp⟩
  · obtain rfl : c = 0 := hA0 rfl
    obtain rfl : m = 0 := by omega
    obtain rfl : n = 0 := by omega
    have HA0 := Lib.hid hA0; clear hA0
    go_enter Tryz.func163, Tryz.ntmps163
    go_wp2_with (go_at_call 100; refine HF.out.mono ?_; rintro e w' ⟨rfl, rfl⟩)
    go_ret
    exact ⟨none, 0, rfl, ReadsU8.nil _ _, Nat.le_refl _, fun a e => (by cases e), ⟨⟨none, 0, 0, heap_set HB.out 0 _, by have := HM.out; have e : r.b = [] := List.eq_nil_of_length_eq_zero this; rw [e]; exact ReadsU8.nil _ _, Nat.le_refl _, by omega, fun a e => (by cases e), fun _ => rfl⟩, fun g => by cases g⟩, grownBy_set ..⟩
  · obtain rfl : sp = none := (HA.out _ rfl).2
    have hlt' : b < rb := (HA.out _ rfl).1
    have hne : b ≠ rb := Nat.ne_of_lt hlt'
    have hs (v : Value) := heap_set HB.out 0 v
    have hk (l : Bs) (k o' : Nat) (v : Value) (g : ReadsU8 w (some ⟨b, o', none⟩) k l) : ReadsU8 (w.setCell ⟨rb, 0, none⟩ v) (some ⟨b, o', none⟩) k l := g.keep (grownBy_set ..) (fun a e => by cases e; simpa using hne)
    have HK := Lib.hid hk; have HS := Lib.hid hs; clear hk hs
    have hA0 : True := trivial
    by_cases hnc : n = c
    · obtain rfl : n = m := by omega
      obtain rfl : n = c := by omega
      go_enter Tryz.func163, Tryz.ntmps163
      go_wp2_with (go_at_call 100; refine HF.out.mono ?_; rintro e w' ⟨rfl, rfl⟩)
      go_ret
      have hd : r.b.drop n = [] := List.drop_of_length_le (Nat.le_of_eq HM.out)
      exact ⟨some ⟨b, o, none⟩, n, rfl, HK.out _ _ _ _ (HR.out.take (Nat.le_refl _)), Nat.le_refl _, fun a e => (by cases e; exact ⟨hlt', rfl⟩),
        ⟨⟨some ⟨b, o, none⟩, 0, 0, (by simpa using HS.out _), (by rw [hd]; exact ReadsU8.nil _ _), by omega, by omega, fun a e => (by cases e; exact ⟨hlt', rfl⟩), fun g => by cases g⟩, fun g => by cases g⟩, grownBy_set ..⟩
    · go_enter Tryz.func163, Tryz.ntmps163
      go_wp2_with (go_at_call 100; refine HF.out.mono ?_; rintro e w' ⟨rfl, rfl⟩)
      go_ret
      exact ⟨some ⟨b, o, none⟩, c, rfl, HK.out _ _ _ _ (HR.out.take hn), by omega, fun a e => (by cases e; exact ⟨hlt', rfl⟩),
        ⟨⟨some ⟨b, o + n, none⟩, m - n, c - n, HS.out _, HK.out _ _ _ _ (HR.out.drop hn), by omega, by omega, fun a e => (by cases e; exact ⟨hlt', rfl⟩), fun g => by cases g⟩, fun g => by cases g⟩, grownBy_set ..⟩

set_option maxHeartbeats 400000 in
theorem rdr_part_bad (rb : Nat) (r : Rdr) (n : Nat) (w : World) (h : RdrAt w rb r) (hbad : r.bad = true ∨ r.b.length < n) :
    Calls Tryz.prog 163 #[.pointer (some ⟨rb, 0, none⟩), .int .i64 n] w fun e w' => e = .returned (.slice none 0 0) ∧ RdrAt w' rb .failed ∧ w.grownBy w' (some rb) := by
  have HF := Lib.hid (rdr_Fail rb r w h)
  have HG := Lib.hid (rdr_fail rb r w h)
  obtain ⟨A, m, c, hb, hr, hmc, hc63, hA, hA0⟩ := h.ex
  have hm := hr.1
  have h0 : w.cell? ⟨rb, 0, none⟩ = some (.slice A m c) := by rw [cell_of hb]; rfl
  clear hb hr hA hA0 h
  rw [hm] at hbad
  clear hm
  obtain ⟨b, bad⟩ := r
  cases bad with
  | true =>
    clear hbad
    go_enter Tryz.func163, Tryz.ntmps163
    go_wp2_with (first | (go_at_call 100; refine HF.out.mono ?_; rintro e w' ⟨rfl, rfl⟩) | (go_at_call 164; refine HG.out.mono ?_; rintro e w' ⟨rfl, q1, q2⟩; have Q1 := Lib.hid q1; have Q2 := Lib.hid q2; clear q1 q2))
    go_ret
    exact ⟨rfl, Q1.out, Q2.out⟩
  | false =>
    have hlt : m < n := by
      rcases hbad with g | g
      · cases g
      · exact g
    clear hbad
    go_enter Tryz.func163, Tryz.ntmps163
    go_wp2_with (first | (go_at_call 100; refine HF.out.mono ?_; rintro e w' ⟨rfl, rfl⟩) | (go_at_call 164; refine HG.out.mono ?_; rintro e w' ⟨rfl, q1, q2⟩; have Q1 := Lib.hid q1; have Q2 := Lib.hid q2; clear q1 q2))
    go_ret
    exact ⟨rfl, Q1.out, Q2.out⟩

theorem or_byte {u : Int} {x : Nat} (hx : x < 256) : bits .or .u64 (IntKind.u64.wrap (u * 256)) (x : Int) = (u * 256 + (x : Int)) % 18446744073709551616 := by
  rw [wrap_u64]
  unfold u64
  have h1 : 0 ≤ u * 256 % 18446744073709551616 := by omega
  have h2 : u * 256 % 18446744073709551616 < 18446744073709551616 := by omega
  rw [u64_or _ _ h1 h2 (by omega) (by omega)]
  have e : (u * 256 % 18446744073709551616).toNat = 2 ^ 8 * ((u % 72057594037927936).toNat) := by omega
  rw [e, Int.toNat_natCast, ← Nat.two_pow_add_eq_or_of_lt (i := 8) (by omega)]
  omega
theorem wrap_s64 {u : Int} (h0 : 0 ≤ u) (h1 : u < 18446744073709551616) : wrap64 u = s64 u := by unfold wrap64 s64; split <;> omega
theorem decU_range (l : Bs) : 0 ≤ decU l ∧ decU l < 18446744073709551616 := by
  have : ∀ (l : Bs) (u : Int), 0 ≤ u ∧ u < 18446744073709551616 → 0 ≤ l.foldl (fun u c => (u * 256 + (c.toNat : Int)) % 18446744073709551616) u ∧ l.foldl (fun u c => (u * 256 + (c.toNat : Int)) % 18446744073709551616) u < 18446744073709551616 := by
    intro l
    induction l with
    | nil => intro u h; exact h
    | cons c l ih => intro u _; rw [List.foldl_cons]; apply ih; omega
  exact this l 0 (by omega)
theorem decU_snoc (l : Bs) (k : Nat) (h : k < l.length) : decU (l.take (k + 1)) = (decU (l.take k) * 256 + ((l.getD k 0).toNat : Int)) % 18446744073709551616 := by
  unfold decU
  rw [List.take_succ_eq_append_getElem h, List.foldl_append]
  simp [List.getD_eq_getElem?_getD, List.getElem?_eq_getElem h]
/-- what taking something does to a reader -/
def TookInt (w : World) (rb : Nat) (x : Int × Rdr) (e : Ending) (w' : World) : Prop := e = .returned (.int .i64 x.1) ∧ RdrAt w' rb x.2 ∧ w.grownBy w' (some rb)

theorem rdr_Left (rb : Nat) (r : Rdr) (w : World) (h : RdrAt w rb r) : Calls Tryz.prog 97 #[.pointer (some ⟨rb, 0, none⟩)] w fun e w' => e = .returned (.int .i64 r.b.length) ∧ w = w' := by
  obtain ⟨A, n, c, hb, hr, _⟩ := h.ex
  have h0 : w.cell? ⟨rb, 0, none⟩ = some (.slice A n c) := by rw [cell_of hb]; rfl
  have hm := Lib.hid hr.1
  clear hb hr h
  go_enter Tryz.func97, Tryz.ntmps97
  go_wp2_with fail
  go_ret
  refine ⟨?_, rfl⟩
  rw [hm.out]
  rfl

theorem rdr_Done (rb : Nat) (r : Rdr) (w : World) (h : RdrAt w rb r) : Calls Tryz.prog 49 #[.pointer (some ⟨rb, 0, none⟩)] w fun e w' => e = .returned (.bool (!r.bad && r.b.isEmpty)) ∧ w = w' := by
  have HF := Lib.hid (rdr_Fail rb r w h)
  obtain ⟨A, n, c, hb, hr, _⟩ := h.ex
  have h0 : w.cell? ⟨rb, 0, none⟩ = some (.slice A n c) := by rw [cell_of hb]; rfl
  have hm := Lib.hid hr.1
  clear hb hr h
  obtain ⟨b, bad⟩ := r
  cases bad with
  | true =>
    go_enter Tryz.func49, Tryz.ntmps49
    go_wp2_with (go_at_call 100; refine HF.out.mono ?_; rintro e w' ⟨rfl, rfl⟩)
    go_ret
    exact ⟨rfl, rfl⟩
  | false =>
    go_enter Tryz.func49, Tryz.ntmps49
    go_wp2_with (go_at_call 100; refine HF.out.mono ?_; rintro e w' ⟨rfl, rfl⟩)
    go_ret
    refine ⟨?_, rfl⟩
    have : b.length = n := hm.out
    cases b with
    | nil => simp at this; subst this; simp
    | cons x t => simp at this; simp; omega

set_option maxHeartbeats 800000 in
set_option maxRecDepth 100000 in
theorem rdr_Int_ok (rb : Nat) (r : Rdr) (least most : Int) (w : World) (h : RdrAt w rb r) (hbad : r.bad = false) (hn : 8 ≤ r.b.length) :
    Calls Tryz.prog 95 #[.pointer (some ⟨rb, 0, none⟩), .int .i64 least, .int .i64 most] w (TookInt w rb (takeInt least most r)) := by
  have HP := Lib.hid (rdr_part_ok rb r 8 w h hbad hn)
  clear h
  go_enter Tryz.func95, Tryz.ntmps95
  go_wp2_with (go_at_call 163; refine HP.out.mono ?_; rintro e w1 ⟨A, c, rfl, q1, q2, q3, q4, q5⟩)
  have Q3 := Lib.hid q3; have Q4 := Lib.hid q4; have Q5 := Lib.hid q5; clear q3 q4 q5
  obtain ⟨b, o, rfl, hc⟩ := q1.2 (by omega)
  have Q1 := Lib.hid hc; clear hc q1
  go_loop [7, 16] (fun u i => ∃ k : Nat, k ≤ 8 ∧ i = .int .i64 k ∧ u = .int .u64 (decU ((r.b.take 8).take k))) (fun _ i => (8 - intOf i).toNat)
  case atStart => exact ⟨0, by omega, rfl, rfl⟩
  case round =>
    obtain ⟨k, hk, rfl, rfl⟩ := hrel
    by_cases hlt : k < 8
    · have hcell := Q1.out k hlt
      have hb := ((r.b.take 8).getD k 0).toNat_lt
      have hu := decU_range ((r.b.take 8).take k)
      have HD := Lib.hid (decU_snoc (r.b.take 8) k (by simp; omega))
      generalize decU ((r.b.take 8).take k) = u at *
      generalize ((r.b.take 8).getD k 0).toNat = x at *
      go_wp2_with fail
      go_round
      case rel => exact ⟨k + 1, by omega, by go_num, by rw [HD.out, or_byte hb]⟩
      case measure => simp [intOf]; omega
    · obtain rfl : k = 8 := by omega
      have hu := decU_range (r.b.take 8)
      have hfin : takeInt least most r = if least ≤ s64 (decU (r.b.take 8)) ∧ s64 (decU (r.b.take 8)) ≤ most then (s64 (decU (r.b.take 8)), ⟨r.b.drop 8, false⟩) else (0, .failed) := by
        unfold takeInt; rw [if_neg (by simp [hbad]; omega)]
      have HFIN := Lib.hid hfin; clear hfin
      have e8 : (r.b.take 8).take 8 = r.b.take 8 := by rw [List.take_take]; rfl
      rw [e8]
      clear e8
      rw [← wrap_s64 hu.1 hu.2] at HFIN
      generalize decU (r.b.take 8) = u at *
      have HG := Lib.hid (rdr_fail rb ⟨r.b.drop 8, false⟩ w1 Q4.out)
      by_cases hr1 : least ≤ wrap64 u
      · by_cases hr2 : wrap64 u ≤ most
        · go_wp2_with fail
          go_ret
          have h := HFIN.out
          rw [if_pos ⟨hr1, hr2⟩] at h
          rw [h]
          exact ⟨rfl, Q4.out, Q5.out⟩
        · go_wp2_with (go_at_call 164; refine HG.out.mono ?_; rintro e w' ⟨rfl, p1, p2⟩; have P1 := Lib.hid p1; have P2 := Lib.hid p2; clear p1 p2)
          go_ret
          have h := HFIN.out
          rw [if_neg (fun g => by omega)] at h
          rw [h]
          exact ⟨rfl, P1.out, grownBy_trans' Q5.out P2.out (.inl rfl)⟩
      · go_wp2_with (go_at_call 164; refine HG.out.mono ?_; rintro e w' ⟨rfl, p1, p2⟩; have P1 := Lib.hid p1; have P2 := Lib.hid p2; clear p1 p2)
        go_ret
        have h := HFIN.out
        rw [if_neg (fun g => by omega)] at h
        rw [h]
        exact ⟨rfl, P1.out, grownBy_trans' Q5.out P2.out (.inl rfl)⟩

set_option maxHeartbeats 800000 in
theorem rdr_Int_bad (rb : Nat) (r : Rdr) (least most : Int) (w : World) (h : RdrAt w rb r) (hbad : r.bad = true ∨ r.b.length < 8) :
    Calls Tryz.prog 95 #[.pointer (some ⟨rb, 0, none⟩), .int .i64 least, .int .i64 most] w (TookInt w rb (takeInt least most r)) := by
  have hfin : takeInt least most r = (0, .failed) := by
    unfold takeInt; rw [if_pos (by rcases hbad with g | g <;> simp [g])]
  rw [hfin]
  clear hfin
  have HP := Lib.hid (rdr_part_bad rb r 8 w h hbad)
  clear h hbad
  go_enter Tryz.func95, Tryz.ntmps95
  go_wp2_with (go_at_call 163; refine HP.out.mono ?_; rintro e w1 ⟨rfl, q1, q2⟩; have Q1 := Lib.hid q1; have Q2 := Lib.hid q2; clear q1 q2)
  refine wp_loop_rounds 1 ?_
  rw [rounds_succ]
  have HG := Lib.hid (rdr_fail rb _ w1 Q1.out)
  go_wp2_with (go_at_call 164; refine HG.out.mono ?_; rintro e w' ⟨rfl, p1, p2⟩; have P1 := Lib.hid p1; have P2 := Lib.hid p2; clear p1 p2)
  go_ret
  exact ⟨rfl, P1.out, grownBy_trans' Q2.out P2.out (.inl rfl)⟩

theorem rdr_Int (rb : Nat) (r : Rdr) (least most : Int) (w : World) (h : RdrAt w rb r) :
    Calls Tryz.prog 95 #[.pointer (some ⟨rb, 0, none⟩), .int .i64 least, .int .i64 most] w (TookInt w rb (takeInt least most r)) := by
  by_cases hb : r.bad = true ∨ r.b.length < 8
  · exact rdr_Int_bad rb r least most w h hb
  · simp only [not_or, Bool.not_eq_true] at hb
    exact rdr_Int_ok rb r least most w h hb.1 (by omega)

def TookText (w : World) (rb : Nat) (x : Bs × Rdr) (e : Ending) (w' : World) : Prop := e = .returned (.string ⟨x.1.toArray⟩) ∧ RdrAt w' rb x.2 ∧ w.grownBy w' (some rb)
def TookBool (w : World) (rb : Nat) (x : Bool × Rdr) (e : Ending) (w' : World) : Prop := e = .returned (.bool x.1) ∧ RdrAt w' rb x.2 ∧ w.grownBy w' (some rb)

theorem getD_take {l : Bs} {n j : Nat} (h : j < n) : (l.take n).getD j 0 = l.getD j 0 := by simp [List.getD_eq_getElem?_getD, h]

set_option maxHeartbeats 800000 in
set_option maxRecDepth 100000 in
theorem rdr_Bool_ok (rb : Nat) (r : Rdr) (w : World) (h : RdrAt w rb r) (hbad : r.bad = false) (hn : 1 ≤ r.b.length) :
    Calls Tryz.prog 168 #[.pointer (some ⟨rb, 0, none⟩)] w (TookBool w rb (takeBool r)) := by
  have HP := Lib.hid (rdr_part_ok rb r 1 w h hbad hn)
  have hfin : takeBool r = if 1 < (r.b.getD 0 0).toNat then (false, .failed) else ((r.b.getD 0 0).toNat == 1, ⟨r.b.drop 1, false⟩) := by
    unfold takeBool; rw [if_neg (by rw [hbad]; simp only [Bool.false_or, decide_eq_true_eq]; omega)]
  rw [hfin]
  clear hfin h hbad
  have hx := (r.b.getD 0 0).toNat_lt
  have HX := Lib.hid (getD_take (l := r.b) (n := 1) (j := 0) (by omega))
  generalize hd : (r.b.getD 0 0).toNat = x at hx ⊢
  have HD := Lib.hid hd; clear hd
  by_cases h1 : 1 < x
  · rw [if_pos h1]
    go_enter Tryz.func168, Tryz.ntmps168
    go_wp2_with (first
      | (go_at_call 163; refine HP.out.mono ?_; rintro e w1 ⟨A, c, rfl, q1, q2, q3, q4, q5⟩; obtain ⟨b, o, rfl, hc⟩ := q1.2 (by omega); have hcell := hc 0 (by omega); rw [HX.out, HD.out, Nat.add_zero] at hcell; have Q4 := Lib.hid q4; have Q5 := Lib.hid q5; clear q1 q3 q4 q5 hc)
      | (go_at_call 164; refine (rdr_fail rb _ _ Q4.out).mono ?_; rintro e w' ⟨rfl, p1, p2⟩; have P1 := Lib.hid p1; have P2 := Lib.hid p2; clear p1 p2))
    go_ret
    exact ⟨rfl, P1.out, grownBy_trans' Q5.out P2.out (.inl rfl)⟩
  · rw [if_neg h1]
    go_enter Tryz.func168, Tryz.ntmps168
    go_wp2_with (first
      | (go_at_call 163; refine HP.out.mono ?_; rintro e w1 ⟨A, c, rfl, q1, q2, q3, q4, q5⟩; obtain ⟨b, o, rfl, hc⟩ := q1.2 (by omega); have hcell := hc 0 (by omega); rw [HX.out, HD.out, Nat.add_zero] at hcell; have Q4 := Lib.hid q4; have Q5 := Lib.hid q5; clear q1 q3 q4 q5 hc)
      | (go_at_call 164; refine (rdr_fail rb _ _ Q4.out).mono ?_; rintro e w' ⟨rfl, p1, p2⟩; have P1 := Lib.hid p1; have P2 := Lib.hid p2; clear p1 p2))
    go_ret
    refine ⟨?_, by simpa using Q4.out, Q5.out⟩
    show Ending.returned (.bool ((x : Int) == 1)) = Ending.returned (.bool (x == 1))
    congr 2
    rw [Bool.eq_iff_iff]; simp; omega

theorem rdr_Bool_bad (rb : Nat) (r : Rdr) (w : World) (h : RdrAt w rb r) (hbad : r.bad = true ∨ r.b.length < 1) :
    Calls Tryz.prog 168 #[.pointer (some ⟨rb, 0, none⟩)] w (TookBool w rb (takeBool r)) := by
  have hfin : takeBool r = (false, .failed) := by
    unfold takeBool; rw [if_pos (by rcases hbad with g | g <;> simp [g])]
  rw [hfin]
  clear hfin
  have HP := Lib.hid (rdr_part_bad rb r 1 w h hbad)
  clear h hbad
  go_enter Tryz.func168, Tryz.ntmps168
  go_wp2_with (first
      | (go_at_call 163; refine HP.out.mono ?_; rintro e w1 ⟨rfl, q1, q2⟩; have Q1 := Lib.hid q1; have Q2 := Lib.hid q2; clear q1 q2)
      | (go_at_call 164; refine (rdr_fail rb _ _ Q1.out).mono ?_; rintro e w' ⟨rfl, p1, p2⟩; have P1 := Lib.hid p1; have P2 := Lib.hid p2; clear p1 p2))
  go_ret
  exact ⟨rfl, P1.out, grownBy_trans' Q2.out P2.out (.inl rfl)⟩
theorem rdr_Bool (rb : Nat) (r : Rdr) (w : World) (h : RdrAt w rb r) :
    Calls Tryz.prog 168 #[.pointer (some ⟨rb, 0, none⟩)] w (TookBool w rb (takeBool r)) := by
  by_cases hb : r.bad = true ∨ r.b.length < 1
  · exact rdr_Bool_bad rb r w h hb
  · simp only [not_or, Bool.not_eq_true] at hb
    exact rdr_Bool_ok rb r w h hb.1 (by omega)

set_option maxHeartbeats 800000 in
theorem rdr_Text_bad (rb : Nat) (r : Rdr) (most : Int) (w : World) (h : RdrAt w rb r) (hbad : r.bad = true ∨ r.b.length < 2) :
    Calls Tryz.prog 165 #[.pointer (some ⟨rb, 0, none⟩), .int .i64 most] w (TookText w rb (takeText most r)) := by
  have hfin : takeText most r = ([], .failed) := by
    unfold takeText; rw [if_pos (by rcases hbad with g | g <;> simp [g])]
  rw [hfin]
  clear hfin
  have HP := Lib.hid (rdr_part_bad rb r 2 w h hbad)
  clear h hbad
  go_enter Tryz.func165, Tryz.ntmps165
  go_wp2_with (go_at_call 163; refine HP.out.mono ?_; rintro e w1 ⟨rfl, q1, q2⟩; have Q1 := Lib.hid q1; have Q2 := Lib.hid q2; clear q1 q2)
  go_ret
  exact ⟨rfl, Q1.out, Q2.out⟩

theorem or_text {x y : Nat} (hx : x < 256) (hy : y < 256) : bits .or .i64 ((x : Int) * 256) (y : Int) = ((x * 256 + y : Nat) : Int) := by
  have e : x * 256 + y = 2 ^ 8 * x ||| y := by rw [← Nat.two_pow_add_eq_or_of_lt (i := 8) (by omega)]; omega
  rw [e]
  have h1 : ((x : Int) * 256) = ((2 ^ 8 * x : Nat) : Int) := by omega
  rw [h1]
  have : bits .or .i64 ((2 ^ 8 * x : Nat) : Int) (y : Int) = ((2 ^ 8 * x ||| y : Nat) : Int) := by
    have hlt : 2 ^ 8 * x ||| y < 2 ^ 16 := Nat.or_lt_two_pow (by omega) (by omega)
    show IntKind.i64.wrap ((BitVec.ofInt 64 ((2 ^ 8 * x : Nat) : Int) ||| BitVec.ofInt 64 (y : Int)).toNat : Int) = _
    rw [BitVec.toNat_or, ofInt_u64 _ (by omega), ofInt_u64 y (by omega), IntKind.wrap_i64]
    generalize 2 ^ 8 * x ||| y = z at hlt
    omega
  exact this

set_option maxHeartbeats 800000 in
set_option maxRecDepth 100000 in
theorem rdr_Text_ok (rb : Nat) (r : Rdr) (most : Int) (w : World) (h : RdrAt w rb r) (hbad : r.bad = false) (hn : 2 ≤ r.b.length) :
    Calls Tryz.prog 165 #[.pointer (some ⟨rb, 0, none⟩), .int .i64 most] w (TookText w rb (takeText most r)) := by
  have HP := Lib.hid (rdr_part_ok rb r 2 w h hbad hn)
  have hfin : takeText most r = if most < (((r.b.getD 0 0).toNat * 256 + (r.b.getD 1 0).toNat : Nat) : Int) then ([], .failed) else Rdr.part ((r.b.getD 0 0).toNat * 256 + (r.b.getD 1 0).toNat) ⟨r.b.drop 2, false⟩ := by
    unfold takeText; rw [if_neg (by rw [hbad]; simp only [Bool.false_or, decide_eq_true_eq]; omega)]
  rw [hfin]
  clear hfin h hbad
  have hx := (r.b.getD 0 0).toNat_lt
  have hy := (r.b.getD 1 0).toNat_lt
  have HX := Lib.hid (getD_take (l := r.b) (n := 2) (j := 0) (by omega))
  have HY := Lib.hid (getD_take (l := r.b) (n := 2) (j := 1) (by omega))
  generalize hd : (r.b.getD 0 0).toNat = x at hx ⊢
  generalize he : (r.b.getD 1 0).toNat = y at hy ⊢
  have HD := Lib.hid hd; clear hd
  have HE := Lib.hid he; clear he
  by_cases h1 : most < ((x * 256 + y : Nat) : Int)
  · rw [if_pos h1]
    go_enter Tryz.func165, Tryz.ntmps165
    go_wp2_with (first
      | (go_at_call 163; refine HP.out.mono ?_; rintro e w1 ⟨A, c, rfl, q1, q2, q3, q4, q5⟩; obtain ⟨b, o, rfl, hc⟩ := q1.2 (by omega); have hcell := hc 0 (by omega); rw [HX.out, HD.out, Nat.add_zero] at hcell; have hcell1 := hc 1 (by omega); rw [HY.out, HE.out] at hcell1; have Q4 := Lib.hid q4; have Q5 := Lib.hid q5; clear q1 q3 q4 q5 hc)
      | (go_at_call 164; refine (rdr_fail rb _ _ Q4.out).mono ?_; rintro e w' ⟨rfl, p1, p2⟩; have P1 := Lib.hid p1; have P2 := Lib.hid p2; clear p1 p2))
    go_quiet (fail)
    rw [or_text hx hy]
    generalize hn' : x * 256 + y = n at *
    go_wp2_with (go_at_call 164; refine (rdr_fail rb _ _ (Q4.out.drewN nq)).mono ?_; rintro e w' ⟨rfl, p1, p2⟩; have P1 := Lib.hid p1; have P2 := Lib.hid p2; clear p1 p2)
    go_ret
    exact ⟨rfl, P1.out, grownBy_trans' Q5.out (grownBy_from_drewN P2.out) (.inl rfl)⟩
  · rw [if_neg h1]
    go_enter Tryz.func165, Tryz.ntmps165
    go_wp2_with (first
      | (go_at_call 163; refine HP.out.mono ?_; rintro e w1 ⟨A, c, rfl, q1, q2, q3, q4, q5⟩; obtain ⟨b, o, rfl, hc⟩ := q1.2 (by omega); have hcell := hc 0 (by omega); rw [HX.out, HD.out, Nat.add_zero] at hcell; have hcell1 := hc 1 (by omega); rw [HY.out, HE.out] at hcell1; have Q4 := Lib.hid q4; have Q5 := Lib.hid q5; clear q1 q3 q4 q5 hc))
    go_quiet (fail)
    rw [or_text hx hy]
    generalize x * 256 + y = n at *
    by_cases h2 : n ≤ (r.b.drop 2).length
    · have HP2 := Lib.hid (rdr_part_ok rb ⟨r.b.drop 2, false⟩ n (w1.drewN nq) (Q4.out.drewN nq) rfl h2)
      have hfin : Rdr.part n ⟨r.b.drop 2, false⟩ = ((r.b.drop 2).take n, ⟨(r.b.drop 2).drop n, false⟩) := by
        unfold Rdr.part; rw [if_neg (by simp only [Bool.false_or, decide_eq_true_eq]; omega)]
      have HFIN := Lib.hid hfin; clear hfin
      go_wp2_with (go_at_call 163; refine HP2.out.mono ?_; rintro e w2 ⟨A, c2, rfl, q1, q2, q3, q4, q5⟩; have hcv := conv_u8 q1 (fun a g => (q3 a g).2) c2; have P4 := Lib.hid q4; have P5 := Lib.hid q5; clear q1 q3 q4 q5)
      go_ret
      rw [HFIN.out]
      exact ⟨rfl, P4.out, grownBy_trans' Q5.out (grownBy_from_drewN P5.out) (.inl rfl)⟩
    · have HP2 := Lib.hid (rdr_part_bad rb ⟨r.b.drop 2, false⟩ n (w1.drewN nq) (Q4.out.drewN nq) (.inr (by simp only; omega)))
      have hfin : Rdr.part n ⟨r.b.drop 2, false⟩ = ([], .failed) := by
        unfold Rdr.part; rw [if_pos (by simp only [Bool.false_or, decide_eq_true_eq]; omega)]
      have HFIN := Lib.hid hfin; clear hfin
      go_wp2_with (go_at_call 163; refine HP2.out.mono ?_; rintro e w2 ⟨rfl, q4, q5⟩; have hcv := conv_u8 (ReadsU8.nil w2 none) (fun a g => by cases g) 0; have P4 := Lib.hid q4; have P5 := Lib.hid q5; clear q4 q5)
      go_ret
      rw [HFIN.out]
      exact ⟨rfl, P4.out, grownBy_trans' Q5.out (grownBy_from_drewN P5.out) (.inl rfl)⟩
theorem rdr_Text (rb : Nat) (r : Rdr) (most : Int) (w : World) (h : RdrAt w rb r) :
    Calls Tryz.prog 165 #[.pointer (some ⟨rb, 0, none⟩), .int .i64 most] w (TookText w rb (takeText most r)) := by
  by_cases hb : r.bad = true ∨ r.b.length < 2
  · exact rdr_Text_bad rb r most w h hb
  · simp only [not_or, Bool.not_eq_true] at hb
    exact rdr_Text_ok rb r most w h hb.1 (by omega)
end Go.Proofs.YtllkjfadeaoicaaGreat
