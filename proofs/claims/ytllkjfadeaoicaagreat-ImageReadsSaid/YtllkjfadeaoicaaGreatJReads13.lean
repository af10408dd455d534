/- Lemmas and walks: The walk of shard.From at an empty whole, of a tick, of kissinggatelaw19.fixed. The walk of kissinggatelaw19.fixed: a tick, the clock, loading and saving what is empty. The walk of kissinggatelaw19.fixed. -/
import Derived.Test.YtllkjfadeaoicaaGreatJReads07
import Derived.Test.YtllkjfadeaoicaaGreatJReads04
import Derived.Test.YtllkjfadeaoicaaGreatJReads12
import Derived.Deep.RegionHeld3
import Derived.StillTactics
set_option linter.unusedVariables false
set_option linter.unusedSimpArgs false
namespace Go.Proofs.YtllkjfadeaoicaaGreat
open Go.RowKit

set_option maxHeartbeats 400000 in
set_option maxRecDepth 100000 in
theorem locks_Owners0 (lb : Nat) (w : World) (h : w.heap[lb]? = some (.cells #[.slice none 0 0] 218 (0, 0))) :
    Calls Tryz.prog 197 #[.pointer (some ⟨lb, 0, none⟩)] w fun e w' => e = .returned (.slice none 0 0) ∧ w = w' := by
  have h0 : w.cell? ⟨lb, 0, none⟩ = some (.slice none 0 0) := by rw [cell_of h]; rfl
  clear h
  go_enter Tryz.func197, Tryz.ntmps197
  go_wp2_with fail
  go_loop [3, 17] (fun v i => v = .slice none 0 0 ∧ i = .int .i64 0) (fun _ _ => 0)
  case atStart => exact ⟨rfl, rfl⟩
  case round =>
    obtain ⟨rfl, rfl⟩ := hrel
    go_wp2_with (first
      | (go_at_call 152; refine (Tryz.slices_Sort_int_none _ _ _).mono ?_; rintro e w' ⟨rfl, rfl⟩)
      | (go_at_call 176; refine (Tryz.slices_Compact_int_empty _ _ _).mono ?_; rintro e w' ⟨rfl, rfl⟩))
    go_ret
    exact ⟨rfl, rfl⟩
set_option maxHeartbeats 400000 in
set_option maxRecDepth 100000 in
theorem shard_finished0 (sb : Nat) (A : Option Addr) (c : Nat) (w : World) :
    Calls Tryz.prog 131 #[.pointer (some ⟨sb, 0, none⟩), .slice A 0 c] w fun e w' => e = .returned (.bool true) ∧ w = w' := by
  go_enter Tryz.func131, Tryz.ntmps131
  go_wp2_with fail
  go_loop [10] (fun i => i = .int .i64 0) (fun _ => 0)
  case atStart => exact rfl
  case round =>
    obtain rfl := hrel
    go_wp2_with fail
    go_ret
    exact ⟨rfl, rfl⟩
set_option maxHeartbeats 400000 in
set_option maxRecDepth 100000 in
theorem shard_living0 (sb lb : Nat) (p2 p4 m5 m6 : Value) (A : Option Addr) (c : Nat) (w : World)
    (h : w.heap[sb]? = some (.cells #[.int .i64 0, .int .i64 0, p2, .pointer (some ⟨lb, 0, none⟩), p4, m5, m6] 155 (0, 0))) (hl : w.heap[lb]? = some (.cells #[.slice none 0 0] 218 (0, 0))) :
    Calls Tryz.prog 132 #[.pointer (some ⟨sb, 0, none⟩), .slice A 0 c] w fun e w' => e = .returned (.bool true) ∧ w = w' := by
  have h3 : w.cell? ⟨sb, 3, none⟩ = some (.pointer (some ⟨lb, 0, none⟩)) := by rw [cell_of h]; rfl
  have HO := Lib.hid (locks_Owners0 lb w hl)
  clear h hl
  go_enter Tryz.func132, Tryz.ntmps132
  go_wp2_with (go_at_call 197; refine HO.out.mono ?_; rintro e w' ⟨rfl, rfl⟩)
  go_loop [21] (fun i => i = .int .i64 0) (fun _ => 0)
  case atStart => exact rfl
  case round =>
    obtain rfl := hrel
    go_wp2_with fail
    go_ret
    exact ⟨rfl, rfl⟩
theorem shard_New' (w : World) : Calls Tryz.prog 16 #[] w fun e w' => ∃ sb p2 p3 p4 m5 m6, e = .returned (.pointer (some ⟨sb, 0, none⟩)) ∧
    w'.heap[sb]? = some (.cells #[.int .i64 0, .int .i64 0, p2, p3, p4, m5, m6] 155 (0, 0)) ∧ w.grownBy w' none ∧ w.heap.size ≤ sb := by
  refine (shard_New w).mono ?_
  rintro e w' ⟨rfl, rfl⟩
  exact ⟨_, _, _, _, _, _, rfl, (newW_heap w).2.2.2.2.2.2, newW_grown w, by omega⟩
/-- what shard.From gives at an empty whole -/
def From0 (w : World) (e : Ending) (w' : World) : Prop :=
  ∃ sb p2 p3 p4 m5 m6, e = .returned (.tuple #[.pointer (some ⟨sb, 0, none⟩), .int .i64 0]) ∧ w'.heap[sb]? = some (.cells #[.int .i64 0, .int .i64 0, p2, p3, p4, m5, m6] 155 (0, 0)) ∧ Below w.heap.size w w' ∧ w.heap.size ≤ sb
set_option maxHeartbeats 1600000 in
set_option maxRecDepth 100000 in
theorem shard_From0 (A1 A2 A3 A4 A5 : Option Addr) (c1 c2 c3 c4 c5 : Nat) (w : World) :
    Calls Tryz.prog 76 #[.agg #[.int .i64 0, .int .i64 0, .slice A1 0 c1, .slice A2 0 c2, .slice A3 0 c3, .slice A4 0 c4, .slice A5 0 c5]] w (From0 w) := by
  have hb1 := heap_alloc_new w (.cells #[.int .i64 0, .int .i64 0, .slice A1 0 c1, .slice A2 0 c2, .slice A3 0 c3, .slice A4 0 c4, .slice A5 0 c5] 33)
  have B1 := Lib.hid hb1; clear hb1
  have hw1 : Hid (Upd (fun k => w.heap.size < k) w (w.alloc (.cells #[.int .i64 0, .int .i64 0, .slice A1 0 c1, .slice A2 0 c2, .slice A3 0 c3, .slice A4 0 c4, .slice A5 0 c5] 33))) := Upd.alloc _ w _
  go_enter Tryz.func76, Tryz.ntmps76
  go_wp2_with fail
  (with_reducible refine (shard_New' _).mono ?_)
  rintro e w2 ⟨sb, p2, p3, p4, m5, m6, rfl, hs, q2, q3⟩
  rw [alloc_sz] at q3
  have hb := heap_keep q2 B1.out (by simp)
  have x1 : w2.cell? ⟨sb, 0, none⟩ = some (.int .i64 0) := by rw [cell_of hs]; rfl
  have x2 : w2.frozen? ⟨sb, 0, none⟩ = false := frozen_of hs 0
  have x3 : w2.cell? ⟨sb, 1, none⟩ = some (.int .i64 0) := by rw [cell_of hs]; rfl
  have x4 : w2.frozen? ⟨sb, 1, none⟩ = false := frozen_of hs 1
  have y1 : w2.cell? ⟨w.heap.size, 0, none⟩ = some (.int .i64 0) := by rw [cell_of hb]; rfl
  have y2 : w2.cell? ⟨w.heap.size, 1, none⟩ = some (.int .i64 0) := by rw [cell_of hb]; rfl
  have hne : sb ≠ w.heap.size := by omega
  have hne' : w.heap.size ≠ sb := by omega
  have HS := Lib.hid hs; have HB := Lib.hid hb; have Q2 := Lib.hid q2
  clear hs hb q2
  go_wp2_with fail
  go_region
  have hs3 : ((((w2.setCell ⟨sb, 0, none⟩ (.int .i64 0)).setCell ⟨sb, 1, none⟩ (.int .i64 0)).drew).heap[sb]? = some (.cells #[.int .i64 0, .int .i64 0, p2, p3, p4, m5, m6] 155 (0, 0))) := heap_set (heap_set HS.out 0 _) 1 _
  have hb3 := heap_keep (grownBy_set (w2.setCell ⟨sb, 0, none⟩ (.int .i64 0)) sb 1 (.int .i64 0)) (heap_keep (grownBy_set w2 sb 0 (.int .i64 0)) HB.out (by simp; omega)) (by simp; omega)
  have hb3 : ((((w2.setCell ⟨sb, 0, none⟩ (.int .i64 0)).setCell ⟨sb, 1, none⟩ (.int .i64 0)).drew).heap[w.heap.size]? = some (.cells #[.int .i64 0, .int .i64 0, .slice A1 0 c1, .slice A2 0 c2, .slice A3 0 c3, .slice A4 0 c4, .slice A5 0 c5] 33 (0, 0))) := hb3
  have hu3 : Upd (fun k => w.heap.size < k) w (((w2.setCell ⟨sb, 0, none⟩ (.int .i64 0)).setCell ⟨sb, 1, none⟩ (.int .i64 0)).drew) :=
    Upd.drewN (n := 1) (((hw1.out.trans (Upd.of_grown Q2.out) (fun k g => by cases g)).trans (Upd.set w2 sb 0 _) (fun k g => .inl (by omega))).trans (Upd.set _ sb 1 _) (fun k g => .inl (by omega)))
  clear x1 x2 x3 x4 y1 y2
  generalize (((w2.setCell ⟨sb, 0, none⟩ (.int .i64 0)).setCell ⟨sb, 1, none⟩ (.int .i64 0)).drew) = w3 at *
  have y0 : w3.cell? ⟨w.heap.size, 0, none⟩ = some (.int .i64 0) := by rw [cell_of hb3]; rfl
  have y1 : w3.cell? ⟨w.heap.size, 1, none⟩ = some (.int .i64 0) := by rw [cell_of hb3]; rfl
  have y2 : w3.cell? ⟨w.heap.size, 2, none⟩ = some (.slice A1 0 c1) := by rw [cell_of hb3]; rfl
  have y3 : w3.cell? ⟨w.heap.size, 3, none⟩ = some (.slice A2 0 c2) := by rw [cell_of hb3]; rfl
  have y4 : w3.cell? ⟨w.heap.size, 4, none⟩ = some (.slice A3 0 c3) := by rw [cell_of hb3]; rfl
  have y5 : w3.cell? ⟨w.heap.size, 5, none⟩ = some (.slice A4 0 c4) := by rw [cell_of hb3]; rfl
  have y6 : w3.cell? ⟨w.heap.size, 6, none⟩ = some (.slice A5 0 c5) := by rw [cell_of hb3]; rfl
  have HB3 := Lib.hid hb3; have HS3 := Lib.hid hs3; have HU3 := Lib.hid hu3
  clear hb3 hs3 hu3
  go_wp2_with (go_at_call 129; refine (shard_number _ _ _).mono ?_; rintro e w' ⟨rfl, rfl⟩; rw [upTo_yes (by omega) (by omega)])
  (with_reducible refine (shard_parts0 sb p2 p3 p4 m5 m6 A1 A2 A3 A4 A5 c1 c2 c3 c4 c5 _ HS3.out).mono ?_)
  rintro e w4 ⟨cb, lb, tb, rfl, g1, g2, g3⟩
  have hb4 := g3.heap HB3.out (by omega)
  have y5 : w4.cell? ⟨w.heap.size, 5, none⟩ = some (.slice A4 0 c4) := by rw [cell_of hb4]; rfl
  have y6 : w4.cell? ⟨w.heap.size, 6, none⟩ = some (.slice A5 0 c5) := by rw [cell_of hb4]; rfl
  have G1 := Lib.hid g1; have G2 := Lib.hid g2; have G3 := Lib.hid g3
  clear g1 g2 g3 hb4
  go_wp2_with (first
    | (go_at_call 131; refine (shard_finished0 _ _ _ _).mono ?_; rintro e w' ⟨rfl, rfl⟩)
    | (go_at_call 132; refine (shard_living0 sb lb _ _ _ _ _ _ _ G1.out G2.out).mono ?_; rintro e w' ⟨rfl, rfl⟩))
  go_ret2
  exact ⟨sb, _, _, _, _, _, rfl, G1.out, (HU3.out.trans G3.out (fun k g => .inl (by omega))).below (Nat.le_refl _) (fun k g => by omega), by omega⟩
end Go.Proofs.YtllkjfadeaoicaaGreat

set_option linter.unusedVariables false
set_option linter.unusedSimpArgs false
namespace Go.Proofs.YtllkjfadeaoicaaGreat
open Go.RowKit

theorem keep4 {w : World} {b : Nat} {o : Obj} (h : w.heap[b]? = some o) (r : Nat) (v1 v2 v3 v4 : Value) (hne : b ≠ r) :
    ((((w.setCell ⟨r, 0, none⟩ v1).setCell ⟨r, 1, none⟩ v2).setCell ⟨r, 2, none⟩ v3).setCell ⟨r, 3, none⟩ v4).heap[b]? = some o :=
  heap_keep (grownBy_set _ r 3 _) (heap_keep (grownBy_set _ r 2 _) (heap_keep (grownBy_set _ r 1 _) (heap_keep (grownBy_set _ r 0 _) h (by simpa using hne)) (by simpa using hne)) (by simpa using hne)) (by simpa using hne)
theorem upd4 (w : World) (r : Nat) (v1 v2 v3 v4 : Value) : Upd (fun k => k = r) w ((((w.setCell ⟨r, 0, none⟩ v1).setCell ⟨r, 1, none⟩ v2).setCell ⟨r, 2, none⟩ v3).setCell ⟨r, 3, none⟩ v4) :=
  (((Upd.set w r 0 v1).trans (Upd.set _ r 1 v2) (fun k g => .inl g)).trans (Upd.set _ r 2 v3) (fun k g => .inl g)).trans (Upd.set _ r 3 v4) (fun k g => .inl g)
theorem shard_Clock (sb : Nat) (n : Int) (m p2 p3 p4 m5 m6 : Value) (w : World) (h : w.heap[sb]? = some (.cells #[.int .i64 n, m, p2, p3, p4, m5, m6] 155 (0, 0))) :
    Calls Tryz.prog 33 #[.pointer (some ⟨sb, 0, none⟩)] w fun e w' => e = .returned (.int .i64 n) ∧ w = w' := by
  have h0 : w.cell? ⟨sb, 0, none⟩ = some (.int .i64 n) := by rw [cell_of h]; rfl
  clear h
  go_enter Tryz.func33, Tryz.ntmps33
  go_wp2_with fail
  go_ret
  exact ⟨rfl, rfl⟩
theorem right_tick (w : World) : Calls Tryz.prog 69 #[.agg #[.int .i64 9, .int .i64 0, .int .i64 0, .int .i64 0, .int .i64 0, .string ⟨#[]⟩, .string ⟨#[]⟩, .int .i64 0, .bool false]] w fun e w' => e = .returned (.bool true) ∧ w.grownBy w' none := by
  go_enter Tryz.func69, Tryz.ntmps69
  go_wp2_with fail
  go_ret
  exact ⟨rfl, World.grownBy_alloc w _ none⟩
set_option maxHeartbeats 800000 in
set_option maxRecDepth 100000 in
theorem do_tick0 (sb : Nat) (m p2 p3 p4 m5 m6 : Value) (w : World) (h : w.heap[sb]? = some (.cells #[.int .i64 0, m, p2, p3, p4, m5, m6] 155 (0, 0))) :
    Calls Tryz.prog 17 #[.pointer (some ⟨sb, 0, none⟩), .agg #[.int .i64 9, .int .i64 0, .int .i64 0, .int .i64 0, .int .i64 0, .string ⟨#[]⟩, .string ⟨#[]⟩, .int .i64 0, .bool false]] w
      fun e w' => e = .returned (.agg #[.int .i64 0, .int .i64 0, .string ⟨#[]⟩, .bool false]) ∧ w'.heap[sb]? = some (.cells #[.int .i64 1, m, p2, p3, p4, m5, m6] 155 (0, 0)) ∧ Upd (fun k => k = sb) w w' := by
  have hlt := lt_of_heap h
  have hu0 := (Upd.alloc (fun k => k = sb) w (.cells #[.int .i64 9, .int .i64 0, .int .i64 0, .int .i64 0, .int .i64 0, .string ⟨#[]⟩, .string ⟨#[]⟩, .int .i64 0, .bool false] 45)).trans (Upd.alloc (fun k => k = sb) _ (.cells #[.int .i64 0, .int .i64 0, .string ⟨#[]⟩, .bool false] 47)) (fun k g => .inl g)
  have hs0 := heap_keep (World.grownBy_alloc (w.alloc (.cells #[.int .i64 9, .int .i64 0, .int .i64 0, .int .i64 0, .int .i64 0, .string ⟨#[]⟩, .string ⟨#[]⟩, .int .i64 0, .bool false] 45)) (.cells #[.int .i64 0, .int .i64 0, .string ⟨#[]⟩, .bool false] 47) none) (heap_keep (World.grownBy_alloc w (.cells #[.int .i64 9, .int .i64 0, .int .i64 0, .int .i64 0, .int .i64 0, .string ⟨#[]⟩, .string ⟨#[]⟩, .int .i64 0, .bool false] 45) none) h (by simp)) (by simp)
  have hc0 := heap_keep (World.grownBy_alloc (w.alloc (.cells #[.int .i64 9, .int .i64 0, .int .i64 0, .int .i64 0, .int .i64 0, .string ⟨#[]⟩, .string ⟨#[]⟩, .int .i64 0, .bool false] 45)) (.cells #[.int .i64 0, .int .i64 0, .string ⟨#[]⟩, .bool false] 47) none) (heap_alloc_new w (.cells #[.int .i64 9, .int .i64 0, .int .i64 0, .int .i64 0, .int .i64 0, .string ⟨#[]⟩, .string ⟨#[]⟩, .int .i64 0, .bool false] 45)) (by simp)
  have hr0 := heap_alloc_new (w.alloc (.cells #[.int .i64 9, .int .i64 0, .int .i64 0, .int .i64 0, .int .i64 0, .string ⟨#[]⟩, .string ⟨#[]⟩, .int .i64 0, .bool false] 45)) (.cells #[.int .i64 0, .int .i64 0, .string ⟨#[]⟩, .bool false] 47)
  rw [alloc_sz] at hr0
  have HU0 := Lib.hid hu0; have HS0 := Lib.hid hs0; have HC0 := Lib.hid hc0; have HR0 := Lib.hid hr0
  clear h hu0 hs0 hc0 hr0
  go_enter Tryz.func17, Tryz.ntmps17
  go_wp2_with fail
  (with_reducible refine (right_tick _).mono ?_)
  rintro e w1 ⟨rfl, hg⟩
  have hs := heap_keep hg HS0.out (by simp)
  have hc := heap_keep hg HC0.out (by simp)
  have hr := heap_keep hg HR0.out (by simp)
  have x0 : w1.cell? ⟨sb, 0, none⟩ = some (.int .i64 0) := by rw [cell_of hs]; rfl
  have x1 : w1.frozen? ⟨sb, 0, none⟩ = false := frozen_of hs 0
  have y0 : w1.cell? ⟨w.heap.size, 0, none⟩ = some (.int .i64 9) := by rw [cell_of hc]; rfl
  have r0 : w1.cell? ⟨w.heap.size + 1, 0, none⟩ = some (.int .i64 0) := by rw [cell_of hr]; rfl
  have r1 : w1.cell? ⟨w.heap.size + 1, 1, none⟩ = some (.int .i64 0) := by rw [cell_of hr]; rfl
  have r2 : w1.cell? ⟨w.heap.size + 1, 2, none⟩ = some (.string ⟨#[]⟩) := by rw [cell_of hr]; rfl
  have r3 : w1.cell? ⟨w.heap.size + 1, 3, none⟩ = some (.bool false) := by rw [cell_of hr]; rfl
  have s0 : w1.frozen? ⟨w.heap.size + 1, 0, none⟩ = false := frozen_of hr 0
  have s1 : w1.frozen? ⟨w.heap.size + 1, 1, none⟩ = false := frozen_of hr 1
  have s2 : w1.frozen? ⟨w.heap.size + 1, 2, none⟩ = false := frozen_of hr 2
  have s3 : w1.frozen? ⟨w.heap.size + 1, 3, none⟩ = false := frozen_of hr 3
  have hne : sb ≠ w.heap.size + 1 := by omega
  have hne' : w.heap.size + 1 ≠ sb := by omega
  have HS := Lib.hid hs; have HR := Lib.hid hr; have HG := Lib.hid hg
  clear hs hc hr hg
  go_wp2_with fail
  refine bodyPost_ret (v := .agg #[.int .i64 0, .int .i64 0, .string ⟨#[]⟩, .bool false]) (by simp [results, Tryz.results17, go_sem, r0, r1, r2, r3]) rfl ⟨rfl, ?_, ?_⟩
  · exact keep4 (heap_set HS.out 0 _) _ _ _ _ _ hne
  · exact ((HU0.out.trans (Upd.of_grown HG.out) (fun k g => by cases g)).trans (Upd.set w1 sb 0 _) (fun k g => .inl g)).trans (upd4 _ _ _ _ _ _) (fun k g => .inr (by omega))
/-! ### loading and saving what is empty -/
theorem okEmpty : okWhole Whole.empty = true := by decide
theorem rows_nil_form {α : Type} {w : World} {S : Nat → Prop} {el : α → List Value → Prop} {sz : Nat} {v : Value} (h : Rows w S el sz v []) : ∃ A c, v = .slice A 0 c := by
  obtain ⟨A, n, c, rfl, hn, _⟩ := h
  simp at hn; subst hn; exact ⟨A, c, rfl⟩
theorem el_empty_form {w : World} {S : Nat → Prop} {cs : List Value} (h : elWhole w S Whole.empty cs) : ∃ A1 A2 A3 A4 A5 c1 c2 c3 c4 c5, cs = [.int .i64 0, .int .i64 0, .slice A1 0 c1, .slice A2 0 c2, .slice A3 0 c3, .slice A4 0 c4, .slice A5 0 c5] := by
  obtain ⟨v1, v2, v3, v4, v5, rfl, h1, h2, h3, h4, h5⟩ := h
  obtain ⟨A1, c1, rfl⟩ := rows_nil_form h1
  obtain ⟨A2, c2, rfl⟩ := rows_nil_form h2
  obtain ⟨A3, c3, rfl⟩ := rows_nil_form h3
  obtain ⟨A4, c4, rfl⟩ := rows_nil_form h4
  obtain ⟨A5, c5, rfl⟩ := rows_nil_form h5
  exact ⟨A1, A2, A3, A4, A5, c1, c2, c3, c4, c5, rfl⟩
set_option maxHeartbeats 800000 in
set_option maxRecDepth 100000 in
theorem load_empty (A : Option Addr) (n c : Nat) (w : World) (hr : ReadsU8 w A n (image Whole.empty)) (hA : ∀ a, A = some a → a.block < w.heap.size ∧ a.spot = none) (hnc : n ≤ c) (hc : c ≤ 9223372036854775807) :
    Calls Tryz.prog 18 #[.slice A n c] w (From0 w) := by
  have HR := Lib.hid (img_Read A n c _ w hr hA hnc hc)
  have HE := Lib.hid (read_image okEmpty)
  clear hr hA hnc hc
  go_enter Tryz.func18, Tryz.ntmps18
  go_wp2_with fail
  (with_reducible refine HR.out.mono ?_)
  rintro e w1 ⟨hb, cs, rfl, hel⟩
  rw [HE.out] at hel ⊢
  obtain ⟨A1, A2, A3, A4, A5, c1, c2, c3, c4, c5, rfl⟩ := el_empty_form hel
  have HB := Lib.hid hb
  clear hel hb
  have hsz := HB.out.size
  go_wp2_with fail
  (with_reducible refine (shard_From0 _ _ _ _ _ _ _ _ _ _ _).mono ?_)
  rintro e w2 ⟨sb, p2, p3, p4, m5, m6, rfl, g1, g2, g3⟩
  rw [alloc_sz] at g3
  have G1 := Lib.hid g1; have G2 := Lib.hid g2
  clear g1 g2
  go_wp2_with fail
  go_ret2
  exact ⟨sb, p2, p3, p4, m5, m6, rfl, G1.out, HB.out.trans (((Upd.alloc (fun _ => False) w1 _).below (Nat.le_refl _) (fun k g => g.elim)).trans (G2.out.mono (by rw [alloc_sz]; omega)) |>.mono hsz), by omega⟩
theorem whole_nil (w : World) : Calls Tryz.prog 77 #[.pointer none] w fun e w' => e = .returned (.agg #[.int .i64 0, .int .i64 0, .slice none 0 0, .slice none 0 0, .slice none 0 0, .slice none 0 0, .slice none 0 0]) ∧ w.grownBy w' none := by
  go_enter Tryz.func77, Tryz.ntmps77
  go_wp2_with fail
  refine bodyPost_ret (v := .agg #[.int .i64 0, .int .i64 0, .slice none 0 0, .slice none 0 0, .slice none 0 0, .slice none 0 0, .slice none 0 0]) (by simp [results, Tryz.results77, go_sem]) rfl ⟨rfl, World.grownBy_alloc w _ none⟩
set_option maxHeartbeats 800000 in
set_option maxRecDepth 100000 in
theorem save_nil (w : World) : Calls Tryz.prog 19 #[.pointer none] w fun e w' => ∃ v, e = .returned v ∧ w'.ownsRow 0 5 1 v (image Whole.empty).length (u8s (image Whole.empty)) ∧ Below w.heap.size w w' := by
  go_enter Tryz.func19, Tryz.ntmps19
  go_wp2_with fail
  (with_reducible refine (whole_nil _).mono ?_)
  rintro e w1 ⟨rfl, hg⟩
  have HG := Lib.hid hg; clear hg
  go_wp2_with fail
  (with_reducible refine (img_Bytes Whole.empty [.int .i64 0, .int .i64 0, .slice none 0 0, .slice none 0 0, .slice none 0 0, .slice none 0 0, .slice none 0 0] w1 (el_empty _ _) (by decide)).mono ?_)
  rintro e w2 ⟨hb, _, hok⟩
  obtain ⟨v, rfl, hown, _⟩ := hok (by decide)
  have HB := Lib.hid hb; have HO := Lib.hid hown
  clear hb hok hown
  go_wp2_with fail
  go_ret
  exact ⟨v, rfl, HO.out, (below_of HG.out (Nat.le_refl _)).trans (HB.out.mono HG.out.size)⟩
end Go.Proofs.YtllkjfadeaoicaaGreat

set_option linter.unusedVariables false
set_option linter.unusedSimpArgs false
namespace Go.Proofs.YtllkjfadeaoicaaGreat
open Go.RowKit

/-- what image.Read asks of an own row -/
theorem own_args {w : World} {l : Bs} {A : Option Addr} {n c : Nat} (h : w.ownsRow 0 5 1 (.slice A n c) l.length (u8s l)) :
    ReadsU8 w A n l ∧ (∀ a, A = some a → a.block < w.heap.size ∧ a.spot = none) ∧ n ≤ c ∧ c ≤ 9223372036854775807 ∧ l.length = n := by
  have h1 := own_reads_u8 h
  refine ⟨h1, fun a e => ⟨?_, own_spot h a e⟩, ?_, ?_, h1.1⟩
  · subst e; exact (h.lt a.block rfl).2
  · rcases h.2 with ⟨e, _⟩ | ⟨g, cap, cur, e, _, _, h2, h3, _⟩
    · cases e; exact Nat.le_refl _
    · cases e; exact h2
  · rcases h.2 with ⟨e, _⟩ | ⟨g, cap, cur, e, _, _, h2, h3, _⟩
    · cases e; omega
    · cases e; simp only [maxLen] at h3; omega
theorem own_below {w w' : World} {E sz n : Nat} {v : Value} {xs : List Value} (h : w.ownsRow 0 E sz v n xs) (hb : Below w.heap.size w w') : w'.ownsRow 0 E sz v n xs := by
  refine ⟨h.1, ?_⟩
  rcases h.2 with g | ⟨g, cap, cur, rfl, h1, h2, h3⟩
  · exact .inl g
  · exact .inr ⟨g, cap, cur, rfl, h1, (hb.block g (lt_of_heap h2)).trans h2, h3⟩
theorem heap_below {w w' : World} (hb : Below w.heap.size w w') {k : Nat} {o : Obj} (h : w.heap[k]? = some o) : w'.heap[k]? = some o := (hb.block k (lt_of_heap h)).trans h

theorem reply_code (a b c d : Value) (w : World) : (Instr.field 47 (.agg #[a, b, c, d]) 0).run Tryz.prog w = .ok a w := by kernel_rfl
theorem read_nil : readWhole [] = (Whole.empty, 2) := by decide
theorem read_1234 : readWhole [1, 2, 3, 4] = (Whole.empty, 3) := by decide
theorem image_empty_length : (image Whole.empty).length = 60 := by decide

set_option maxHeartbeats 1600000 in
set_option maxRecDepth 100000 in
theorem fixed19 (w : World) : Calls Tryz.prog 10 #[] w fun e w' => e = .returned (.bool true) ∧ Below w.heap.size w w' := by
  have HE := Lib.hid (read_image okEmpty); have HN := Lib.hid read_nil; have H4 := Lib.hid read_1234; have HL := Lib.hid image_empty_length
  have hcode := reply_code
  go_enter Tryz.func10, Tryz.ntmps10
  go_wp2_with fail
  (with_reducible refine (img_Bytes Whole.empty [.int .i64 0, .int .i64 0, .slice none 0 0, .slice none 0 0, .slice none 0 0, .slice none 0 0, .slice none 0 0] _ (el_empty _ _) (by decide)).mono ?_)
  rintro e w1 ⟨hb1, _, hok⟩
  obtain ⟨v, rfl, hown, _⟩ := hok (by decide)
  obtain ⟨A, n, c, rfl⟩ := own_form hown
  have HO1 : Hid (w1.ownsRow 0 5 1 (.slice A n c) (image Whole.empty).length (u8s (image Whole.empty))) := hown
  have hn : n = 60 := by rw [← (own_args hown).2.2.2.2]; exact HL.out
  subst hn
  have HB1 := Lib.hid hb1
  clear hok hown hb1
  go_wp2_with fail
  (with_reducible refine (img_Read A 60 c (image Whole.empty) _ (own_args HO1.out).1 (own_args HO1.out).2.1 (own_args HO1.out).2.2.1 (own_args HO1.out).2.2.2.1).mono ?_)
  rintro e w2 ⟨hb2, cs, rfl, hel⟩
  rw [HE.out] at hel ⊢
  obtain ⟨A1, A2, A3, A4, A5, c1, c2, c3, c4, c5, rfl⟩ := el_empty_form hel
  have HB2 := Lib.hid (hb2.trans ((Upd.alloc (fun _ => False) w2 (.cells #[.int .i64 0, .int .i64 0, .slice A1 0 c1, .slice A2 0 c2, .slice A3 0 c3, .slice A4 0 c4, .slice A5 0 c5] 33)).below (B := w1.heap.size) hb2.size (fun k g => g.elim)))
  have HW2 := Lib.hid (heap_alloc_new w2 (.cells #[.int .i64 0, .int .i64 0, .slice A1 0 c1, .slice A2 0 c2, .slice A3 0 c3, .slice A4 0 c4, .slice A5 0 c5] 33))
  clear hel hb2
  go_wp2_with fail
  generalize hb3 : w2.heap.size = b3 at *
  generalize (w2.alloc (.cells #[.int .i64 0, .int .i64 0, .slice A1 0 c1, .slice A2 0 c2, .slice A3 0 c3, .slice A4 0 c4, .slice A5 0 c5] 33)) = w3 at *
  clear hb3
  have HO3 := Lib.hid (own_below HO1.out HB2.out)
  have HK3 := Lib.hid (HB1.out.trans (HB2.out.mono HB1.out.size))
  clear HO1 HB1 HB2
  (with_reducible refine (img_Read none 0 0 [] _ (ReadsU8.nil _ _) (fun a g => by cases g) (Nat.le_refl _) (by omega)).mono ?_)
  rintro e w4 ⟨hb4, cs, rfl, hel⟩
  rw [HN.out] at hel ⊢
  obtain ⟨B1, B2, B3, B4, B5, d1, d2, d3, d4, d5, rfl⟩ := el_empty_form hel
  have hb5 := hb4.trans ((Upd.alloc (fun _ => False) w4 (.cells #[.int .i64 0, .int .i64 0, .slice B1 0 d1, .slice B2 0 d2, .slice B3 0 d3, .slice B4 0 d4, .slice B5 0 d5] 33)).below (B := w3.heap.size) hb4.size (fun k g => g.elim))
  have HB5 := Lib.hid (hb5.trans ((Upd.alloc (fun _ => False) (w4.alloc (.cells #[.int .i64 0, .int .i64 0, .slice B1 0 d1, .slice B2 0 d2, .slice B3 0 d3, .slice B4 0 d4, .slice B5 0 d5] 33)) (.cells #[.int .u8 1, .int .u8 2, .int .u8 3, .int .u8 4] 5)).below (B := w3.heap.size) hb5.size (fun k g => g.elim)))
  have HO5 := Lib.hid (World.ownsRow_lit (base := 0) (e := 5) (size := 1) (w4.alloc (.cells #[.int .i64 0, .int .i64 0, .slice B1 0 d1, .slice B2 0 d2, .slice B3 0 d3, .slice B4 0 d4, .slice B5 0 d5] 33)) #[.int .u8 1, .int .u8 2, .int .u8 3, .int .u8 4] 4 (Nat.zero_le _) (by simp [maxLen]) rfl)
  clear hel hb4 hb5
  rw [alloc_sz] at HO5
  go_wp2_with fail
  have HW5 := Lib.hid (heap_below HB5.out HW2.out)
  have HA5 := Lib.hid (own_below HO3.out HB5.out)
  have HK5 := Lib.hid (HK3.out.trans (HB5.out.mono HK3.out.size))
  generalize ((w4.alloc (.cells #[.int .i64 0, .int .i64 0, .slice B1 0 d1, .slice B2 0 d2, .slice B3 0 d3, .slice B4 0 d4, .slice B5 0 d5] 33)).alloc (.cells #[.int .u8 1, .int .u8 2, .int .u8 3, .int .u8 4] 5)) = w5 at *
  clear HB5 HW2 HO3 HK3
  have hl4 : u8s [1, 2, 3, 4] = [.int .u8 1, .int .u8 2, .int .u8 3, .int .u8 4] := by simp [u8s]
  have HO6 : Hid (w5.ownsRow 0 5 1 (.slice (some ⟨w4.heap.size + 1, 0, none⟩) 4 4) ([1, 2, 3, 4] : Bs).length (u8s [1, 2, 3, 4])) := by rw [hl4]; exact HO5.out
  clear hl4
  (with_reducible refine (img_Read (some ⟨w4.heap.size + 1, 0, none⟩) 4 4 [1, 2, 3, 4] _ (own_args HO6.out).1 (own_args HO6.out).2.1 (own_args HO6.out).2.2.1 (own_args HO6.out).2.2.2.1).mono ?_)
  rintro e w6 ⟨hb6, cs, rfl, hel⟩
  rw [H4.out] at hel ⊢
  obtain ⟨C1, C2, C3, C4, C5, e1, e2, e3, e4, e5, rfl⟩ := el_empty_form hel
  have HB7 := Lib.hid (hb6.trans ((Upd.alloc (fun _ => False) w6 (.cells #[.int .i64 0, .int .i64 0, .slice C1 0 e1, .slice C2 0 e2, .slice C3 0 e3, .slice C4 0 e4, .slice C5 0 e5] 33)).below (B := w5.heap.size) hb6.size (fun k g => g.elim)))
  clear hel hb6 HO5 HO6
  go_wp2_with fail
  have HW7 := Lib.hid (heap_below HB7.out HW5.out)
  have HA7 := Lib.hid (own_below HA5.out HB7.out)
  have HK7 := Lib.hid (HK5.out.trans (HB7.out.mono HK5.out.size))
  generalize (w6.alloc (.cells #[.int .i64 0, .int .i64 0, .slice C1 0 e1, .slice C2 0 e2, .slice C3 0 e3, .slice C4 0 e4, .slice C5 0 e5] 33)) = w7 at *
  clear HB7 HW5 HA5 HK5
  (with_reducible refine (load_empty A 60 c _ (own_args HA7.out).1 (own_args HA7.out).2.1 (own_args HA7.out).2.2.1 (own_args HA7.out).2.2.2.1).mono ?_)
  rintro e w8 ⟨sb, p2, p3, p4, m5, m6, rfl, hs8, hb8, hsb⟩
  have HS8 := Lib.hid hs8
  have HW8 := Lib.hid (heap_below hb8 HW7.out)
  have HK8 := Lib.hid (HK7.out.trans (hb8.mono HK7.out.size))
  have hne : b3 ≠ sb := by have := lt_of_heap HW7.out; omega
  have hksb : w.heap.size ≤ sb := Nat.le_trans HK7.out.size hsb
  clear hs8 hb8 HW7 HA7 HK7
  go_wp2_with fail
  (with_reducible refine (save_nil _).mono ?_)
  rintro e w9 ⟨v, rfl, ho9, hb9⟩
  obtain ⟨D, n9, c9, rfl⟩ := own_form ho9
  have HO9 := Lib.hid ho9
  have HS9 := Lib.hid (heap_below hb9 HS8.out)
  have HW9 := Lib.hid (heap_below hb9 HW8.out)
  have HK9 := Lib.hid (HK8.out.trans (hb9.mono HK8.out.size))
  clear ho9 hb9 HS8 HW8 HK8
  go_wp2_with fail
  (with_reducible refine (load_empty D n9 c9 _ (own_args HO9.out).1 (own_args HO9.out).2.1 (own_args HO9.out).2.2.1 (own_args HO9.out).2.2.2.1).mono ?_)
  rintro e w10 ⟨sb2, r2, r3, r4, t5, t6, rfl, hs10, hb10, _⟩
  have hS := heap_below hb10 HS9.out
  have hW := heap_below hb10 HW9.out
  have HK := Lib.hid (HK9.out.trans (hb10.mono HK9.out.size))
  clear hs10 hb10 HO9 HS9 HW9 HK9
  have x0 : w10.cell? ⟨b3, 0, none⟩ = some (.int .i64 0) := by rw [cell_of hW]; rfl
  have HS := Lib.hid hS; have HW := Lib.hid hW
  clear hS hW
  go_wp2_with fail
  (with_reducible refine (do_tick0 sb _ p2 p3 p4 m5 m6 _ HS.out).mono ?_)
  rintro e w11 ⟨rfl, g1, g2⟩
  have G1 := Lib.hid g1; have G2 := Lib.hid g2
  clear g1 g2
  go_wp2_with fail
  (with_reducible refine (shard_Clock sb 1 _ p2 p3 p4 m5 m6 _ G1.out).mono ?_)
  rintro e w' ⟨rfl, rfl⟩
  go_wp2_with fail
  go_ret
  exact ⟨rfl, HK.out.trans (G2.out.below HK.out.size (fun k g => by omega))⟩
end Go.Proofs.YtllkjfadeaoicaaGreat
