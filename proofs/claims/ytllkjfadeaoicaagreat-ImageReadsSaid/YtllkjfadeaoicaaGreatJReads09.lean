/- Lemmas and walks: The walks of word.Text, Bool, Read, crc.Bytes, bytes.Equal. Amid a take: the reader. The walks of image's takes (printed by gen_takes.py). The walk of image.takeRow: five numbers, by way of an array (printed by gen_takerow.py). The walks of image's takes (printed by gen_takes.py). The walks of image's takes (printed by gen_takes.py). The walks of image's takes (printed by gen_takes.py). The walks of image's takes (printed by gen_takes.py). The walks of image's takes (printed by gen_takes.py). The walks of image's takes (printed by gen_takes.py). The walks of image's takes (printed by gen_takes.py). The walks of image's takes (printed by gen_takes.py). -/
import Derived.Test.YtllkjfadeaoicaaGreatJReads08
import Derived.Test.YtllkjfadeaoicaaGreatJReads05
import Derived.Lib.AppendStr
set_option linter.unusedVariables false
set_option linter.unusedSimpArgs false
namespace Go.Proofs.YtllkjfadeaoicaaGreat
open Go.RowKit

/-- append(v, s...) of a string -/
theorem run_app_str {P : Program} (w : World) (t u ty e : TypeId) (i : TypeInfo) (ht : P.underlying t = some (.slice e)) (hu : P.underlying u = some .string) (hi : P.info? e = some i) (hz : i.zero = some (.int .u8 0))
    (hsize : i.size = 1) (hby : i.bytes = 1) (v : Value) (n : Nat) (xs : List Value) (hown : w.ownsRow 0 e 1 v n xs) (s : ByteArray) (hbytes : n + s.size ≤ 140737488355328) :
    ∃ v' w', (Builtin.append_ #[t, u] ty #[v, .string s]).run P w = .ok v' w' ∧ w'.ownsRow 0 e 1 v' (n + s.size) (xs ++ Lib.strCells s) ∧ Grows w w' v v' := by
  have hmax : n + s.size ≤ maxLen := by simp only [maxLen]; omega
  have hxl : xs.length = n := by simpa using hown.1
  have grown : ∀ (old : Nat), old < n + s.size → ∀ (row : Option Nat),
      (w.drew.alloc (.cells (xs.toArray ++ (Lib.strCells s).toArray ++ Builtin.zeroCells (Value.int .u8 0).cells (grownCap w (n + s.size) old e - (n + s.size))) e)).ownsRow 0 e 1
        (.slice (some ⟨w.heap.size, 0, none⟩) (n + s.size) (grownCap w (n + s.size) old e)) (n + s.size) (xs ++ Lib.strCells s) ∧
      w.grownBy (w.drew.alloc (.cells (xs.toArray ++ (Lib.strCells s).toArray ++ Builtin.zeroCells (Value.int .u8 0).cells (grownCap w (n + s.size) old e - (n + s.size))) e)) row := by
    intro old ho row
    have hge := grownCap_ge w (n + s.size) old e
    have hcm : grownCap w (n + s.size) old e ≤ maxLen := grownCap_le_maxLen w (n + s.size) old e hmax
    have hlen : (xs ++ Lib.strCells s).length = (n + s.size) * 1 := by rw [List.length_append, hxl, Lib.strCells_length, Nat.mul_one]
    refine ⟨⟨hlen, .inr ⟨w.heap.size, _, _, rfl, by omega, heap_alloc_new w.drew _, hge, hcm, ?_, ?_⟩⟩, ⟨rfl, rfl, rfl, by simp, fun k hk _ => heap_alloc_old w.drew _ hk⟩⟩
    · have hz1 : (Value.int IntKind.u8 0).cells.size = 1 := rfl
      simp only [Array.size_append, List.size_toArray, size_zeroCells, hz1, hxl, Lib.strCells_length]
      omega
    · simp only [Array.toList_append, List.append_assoc]
      rw [← List.append_assoc, ← hlen]
      exact List.take_left
  rcases hown.2 with ⟨rfl, rfl⟩ | ⟨g, cap, cur, rfl, hbg, hg, hnc, hcm, hcs, htake⟩
  · obtain ⟨v', w', h1, h2, h3, h4⟩ := Lib.run_append_own_string (P := P) w 0 t u ty e i ht hu hi hz hsize hby _ 0 xs hown s hmax hbytes (by omega)
    have hx : xs = [] := List.eq_nil_of_length_eq_zero hxl
    subst hx
    by_cases hm : s.size = 0
    · obtain rfl : v' = .slice none 0 0 := h4.2 ⟨rfl, hm⟩
      exact ⟨_, _, h1, h2, ⟨h3, .inl rfl⟩⟩
    · have hr := run_append_nil_string (P := P) w t u ty e i (.int .u8 0) ht hu hi hz s (by omega) (by omega) (by rw [hby]; omega)
      have hgr := grown 0 (by omega) (Value.ownBlock (.slice none 0 0))
      simp only [Nat.zero_add, List.nil_append, Array.empty_append] at hgr ⊢
      have e1 : (s.data.map fun b => Value.int .u8 b.toNat) = (Lib.strCells s).toArray := by
        apply Array.ext'
        simp [Lib.strCells]
      rw [e1] at hr
      exact ⟨_, _, hr, hgr.1, ⟨hgr.2, .inr ⟨w.heap.size, rfl, Nat.le_refl _⟩⟩⟩
  · by_cases hroom : n + s.size ≤ cap
    · have hcs' : cur.size = cap := by simpa using hcs
      have hr := Lib.run_append_room_string (P := P) w t u ty e i ht hu hi hsize g n cap cur hg s hroom (by omega)
      have hlen : (xs ++ Lib.strCells s).length = (n + s.size) * 1 := by rw [List.length_append, hxl, Lib.strCells_length, Nat.mul_one]
      refine ⟨_, _, hr, ⟨hlen, .inr ⟨g, cap, _, rfl, by omega, setRow_heap w g cur _ e _ hg, hroom, hcm, ?_, ?_⟩⟩, ⟨⟨rfl, rfl, rfl, by simp, fun k _ hk => setRow_other w g k _ (fun e => hk (by simp [Value.ownBlock, e]))⟩, .inl rfl⟩⟩
      · simp only [List.size_toArray, List.length_append, List.length_take, List.length_drop, Array.length_toList, Lib.strCells_length]
        omega
      · have ht' : cur.toList.take n = xs := by simpa using htake
        rw [ht', ← hlen]
        exact List.take_left
    · have holds : ∀ j u, xs[j]? = some u → w.cell? ((⟨g, 0, none⟩ : Addr).add j) = some u := hown.cells (g := g) rfl
      have hr := Lib.run_append_grow_string (P := P) w t u ty e i (.int .u8 0) ht hu hi hz ⟨g, 0, none⟩ n cap xs (by rw [hsize]; simpa using hxl) holds s (by omega) (by omega) (by rw [hby]; exact growslice_fits (by omega) (by omega))
      have hgr := grown cap (by omega) (Value.ownBlock (.slice (some ⟨g, 0, none⟩) n cap))
      exact ⟨_, _, hr, hgr.1, ⟨hgr.2, .inr ⟨w.heap.size, rfl, Nat.le_refl _⟩⟩⟩
theorem app_str {P : Program} {ops : Array Oper} {rest : List Oper} {o : Oper} {a : Act} {Q : Exit → Act → World → Prop} {W : World} (hgd : o.guard = none) (sl x : Operand) (t u e : TypeId)
    (ho : o.op = .call { callee := .builtin .append, args := #[sl, x], argTypes := #[t, u] })
    (ht : P.underlying t = some (.slice e)) (hu : P.underlying u = some .string) (hinfo : (P.info? e).map (fun i => (i.zero, i.size, i.bytes)) = some (some (.int .u8 0), 1, 1))
    (v : Value) (n : Nat) (xs : List Value) (hs : a.eval sl = v) (s : ByteArray) (hx : a.eval x = .string s)
    (HO : W.ownsRow 0 e 1 v n xs) (hl : n + s.size ≤ 140737488355328)
    (h : ∀ v1 w1, w1.ownsRow 0 e 1 v1 (n + s.size) (xs ++ Lib.strCells s) → Grows W w1 v v1 → wpList P ops Q rest (a.put o.dst v1) w1) :
    wpList P ops Q (o :: rest) a W := by
  obtain ⟨i0, hi, hzz⟩ := Option.map_eq_some_iff.1 hinfo
  simp only [Prod.mk.injEq] at hzz
  obtain ⟨hz0, hz1, hz2⟩ := hzz
  refine wpList_plain hgd fun K hK => ?_
  obtain ⟨v', w', hr, h2, h3⟩ := run_app_str (P := P) W t u o.type e i0 ht hu hi hz0 hz1 hz2 v n xs HO s hl
  unfold Oper.wp execOp
  simp only [ho, resolve, invoke, builtin, Sem.run_bind, Sem.run_pure, Result.andThen_ok, List.map_toArray, List.map_cons, List.map_nil, hs, hx, hr]
  exact hK _ _ (h v' w' h2 h3)

/-- append(v, x, y, ..) of m elements, boxed ahead -/
theorem app_box {P : Program} {ops : Array Oper} {rest : List Oper} {o : Oper} {a : Act} {Q : Exit → Act → World → Prop} {W : World} (hgd : o.guard = none) (s x : Operand) (t e : TypeId) (z : Value) (size bytes : Nat)
    (ho : o.op = .call { callee := .builtin .append, args := #[s, x], argTypes := #[t, t] })
    (ht : P.underlying t = some (.slice e)) (hinfo : (P.info? e).map (fun i => (i.zero, i.size, i.bytes)) = some (some z, size, bytes)) (hz : z.cells.size = size) (hs0 : 0 < size) (hb0 : 0 < bytes)
    (v : Value) (n m : Nat) (xs ys : List Value) (hs : a.eval s = v) (hx : a.eval x = .slice (some ⟨W.heap.size, 0, none⟩) m m) (h1 : ys.all (fun u => u.oneCell') = true) (hyl : ys.length = m * size)
    (HO : W.ownsRow 0 e size v n xs) (hl : (n + m) * bytes ≤ 140737488355328)
    (h : ∀ v1 w1, w1.ownsRow 0 e size v1 (n + m) (xs ++ ys) → Grows W w1 v v1 → wpList P ops Q rest (a.put o.dst v1) w1) :
    wpList P ops Q (o :: rest) a (W.alloc (.cells ys.toArray e)) :=
  app_row (W := W.alloc (.cells ys.toArray e)) hgd s x t e z size bytes ho ht hinfo hz hs0 hb0 v n m m ⟨W.heap.size, 0, none⟩ xs ys hs hx h1 hyl
    (World.news_of_block (cs := ys.toArray) (t := e) (fr := (0, 0)) (heap_alloc_new W _)) (HO.alloc _) hl
    fun v1 w1 h2 h3 => h v1 w1 h2 ⟨World.grownBy.trans (World.grownBy_alloc W _ _) h3.g, by
      rcases h3.b with g | ⟨k, g, hk⟩
      · exact .inl g
      · exact .inr ⟨k, g, by simp at hk; omega⟩⟩

theorem bytes_Equal (A A' : Option Addr) (n n' c c' : Nat) (l l' : Bs) (w : World) (h : ReadsU8 w A n l) (h' : ReadsU8 w A' n' l') (hA : ∀ a, A = some a → a.spot = none) (hA' : ∀ a, A' = some a → a.spot = none) :
    Calls Tryz.prog 34 #[.slice A n c, .slice A' n' c'] w fun e w' => e = .returned (.bool (l == l')) ∧ w = w' := by
  have c1 := conv_u8 h hA c
  have c2 := conv_u8 h' hA' c'
  clear h h' hA hA'
  go_enter Tryz.func34, Tryz.ntmps34
  go_wp2_with fail
  go_ret
  exact ⟨rfl, rfl⟩

set_option maxHeartbeats 400000 in
theorem word_Bool (v : Value) (l : Bs) (y : Bool) (w : World) (HO : w.ownsRow 0 5 1 v l.length (u8s l)) (hl : l.length ≤ 1099511627776) :
    Calls Tryz.prog 155 #[v, .bool y] w fun e w' => ∃ v', e = .returned v' ∧ w'.ownsRow 0 5 1 v' (l ++ encBool y).length (u8s (l ++ encBool y)) ∧ Grows w w' v v' := by
  have H := Lib.hid HO; clear HO
  cases y with
  | true =>
    go_enter Tryz.func155, Tryz.ntmps155
    go_wp2_with (at_builtin; refine app_one rfl _ _ 22 5 (.int .u8 0) 1 1 rfl Tryz.underlying22 Tryz.info5 rfl (by decide) (by decide) v l.length _ [.int .u8 1] rfl rfl rfl rfl H.out (by omega) ?_; intro v1 w1 hown1 hg1; have HO1 := Lib.hid hown1; have HG1 := Lib.hid hg1; clear hown1 hg1)
    go_ret
    exact ⟨v1, rfl, by rw [List.length_append, u8s_append]; exact HO1.out, HG1.out⟩
  | false =>
    go_enter Tryz.func155, Tryz.ntmps155
    go_wp2_with (at_builtin; refine app_one rfl _ _ 22 5 (.int .u8 0) 1 1 rfl Tryz.underlying22 Tryz.info5 rfl (by decide) (by decide) v l.length _ [.int .u8 0] rfl rfl rfl rfl H.out (by omega) ?_; intro v1 w1 hown1 hg1; have HO1 := Lib.hid hown1; have HG1 := Lib.hid hg1; clear hown1 hg1)
    go_ret
    exact ⟨v1, rfl, by rw [List.length_append, u8s_append]; exact HO1.out, HG1.out⟩

theorem ext_bs (s : Bs) (n : Nat) : (⟨s.toArray⟩ : ByteArray).extract 0 n = ⟨(s.take n).toArray⟩ := by
  apply ByteArray.ext
  simp
theorem strCells_u8s (s : Bs) : Lib.strCells ⟨s.toArray⟩ = u8s s := by
  unfold Lib.strCells u8s
  simp
theorem text_cells (l s : Bs) (h : s.length < 65536) : u8s l ++ [.int .u8 ((s.length : Int) / 256), .int .u8 ((s.length : Int) % 256)] ++ Lib.strCells ⟨s.toArray⟩ = u8s (l ++ ([lowB ((s.length : Int) / 256), lowB (s.length : Int)] ++ s)) := by
  rw [strCells_u8s, u8s_append, u8s_append, List.append_assoc]
  congr 2
  simp only [u8s, List.map_cons, List.map_nil, lowB_toNat]
  congr 2
  omega
set_option maxHeartbeats 400000 in
set_option maxRecDepth 100000 in
theorem word_Text (v : Value) (l s : Bs) (w : World) (HO : w.ownsRow 0 5 1 v l.length (u8s l)) (hl : l.length ≤ 1099511627776) (hs : s.length ≤ 140737488355327) :
    Calls Tryz.prog 88 #[v, .string ⟨s.toArray⟩] w fun e w' => ∃ v', e = .returned v' ∧ w'.ownsRow 0 5 1 v' (l ++ encText s).length (u8s (l ++ encText s)) ∧ Grows w w' v v' := by
  have H := Lib.hid HO; clear HO
  have hsz : (⟨s.toArray⟩ : ByteArray).size = s.length := by simp [ByteArray.size]
  by_cases h65 : s.length ≤ 65535
  · go_enter Tryz.func88, Tryz.ntmps88
    have hfin : l ++ encText s = l ++ ([lowB ((s.length : Int) / 256), lowB (s.length : Int)] ++ s) := by
      unfold encText; rw [show min s.length 65535 = s.length from by omega, List.take_of_length_le (by omega)]; rfl
    rw [hfin]
    have hcells : u8s l ++ [.int .u8 ((s.length : Int) / 256), .int .u8 ((s.length : Int) % 256)] ++ Lib.strCells ⟨s.toArray⟩ = u8s (l ++ ([lowB ((s.length : Int) / 256), lowB (s.length : Int)] ++ s)) := text_cells l s (by omega)
    have HC := Lib.hid hcells
    clear hfin hcells
    go_wp2_with (first
      | (at_builtin; refine app_box rfl _ _ 22 5 (.int .u8 0) 1 1 rfl Tryz.underlying22 Tryz.info5 rfl (by decide) (by decide) v l.length 2 _ [.int .u8 ((s.length : Int) / 256), .int .u8 ((s.length : Int) % 256)] rfl rfl rfl rfl H.out (by omega) ?_; intro v1 w1 hown1 hg1; have HO1 := Lib.hid hown1; have HG1 := Lib.hid hg1; clear hown1 hg1)
      | (at_builtin; refine app_str rfl _ _ 22 9 5 rfl Tryz.underlying22 Tryz.underlying9 Tryz.info5 v1 (l.length + 2) _ rfl _ rfl HO1.out ?hsize ?_; rotate_left; intro v2 w2 hown2 hg2; have HO2 := Lib.hid hown2; have HG2 := Lib.hid hg2; clear hown2 hg2))
    case hsize => rw [ext_bs, List.take_of_length_le (Nat.le_refl _), hsz]; omega
    rw [ext_bs, List.take_of_length_le (Nat.le_refl _), hsz, HC.out] at HO2
    go_ret
    exact ⟨v2, rfl, by have := HO2.out; rw [show l.length + 2 + s.length = (l ++ ([lowB ((s.length : Int) / 256), lowB (s.length : Int)] ++ s)).length from by simp; omega] at this; exact this, HG1.out.trans HG2.out⟩
  · have hfin : l ++ encText s = l ++ ([255, 255] ++ s.take 65535) := by
      unfold encText; rw [show min s.length 65535 = 65535 from by omega]; rfl
    rw [hfin]
    have hcells : u8s l ++ [.int .u8 255, .int .u8 255] ++ Lib.strCells ⟨(s.take 65535).toArray⟩ = u8s (l ++ ([255, 255] ++ s.take 65535)) := by
      rw [strCells_u8s, u8s_append, u8s_append, List.append_assoc]; rfl
    have HC := Lib.hid hcells
    clear hfin hcells
    go_enter Tryz.func88, Tryz.ntmps88
    go_wp2_with (first
      | (at_builtin; refine app_box rfl _ _ 22 5 (.int .u8 0) 1 1 rfl Tryz.underlying22 Tryz.info5 rfl (by decide) (by decide) v l.length 2 _ [.int .u8 255, .int .u8 255] rfl rfl rfl rfl H.out (by omega) ?_; intro v1 w1 hown1 hg1; have HO1 := Lib.hid hown1; have HG1 := Lib.hid hg1; clear hown1 hg1)
      | (at_builtin; refine app_str rfl _ _ 22 9 5 rfl Tryz.underlying22 Tryz.underlying9 Tryz.info5 v1 (l.length + 2) _ rfl _ rfl HO1.out ?hsize ?_; rotate_left; intro v2 w2 hown2 hg2; have HO2 := Lib.hid hown2; have HG2 := Lib.hid hg2; clear hown2 hg2))
    case hsize => rw [ext_bs]; simp [ByteArray.size]; omega
    rw [ext_bs, HC.out] at HO2
    go_ret
    refine ⟨v2, rfl, ?_, HG1.out.trans HG2.out⟩
    have := HO2.out
    rw [show l.length + 2 + (⟨(s.take 65535).toArray⟩ : ByteArray).size = (l ++ ([255, 255] ++ s.take 65535)).length from by simp [ByteArray.size]; omega] at this
    simpa using this

theorem word_Read (A : Option Addr) (n c : Nat) (l : Bs) (w : World) (hr : ReadsU8 w A n l) (hA : ∀ a, A = some a → a.block < w.heap.size ∧ a.spot = none) (hA0 : A = none → c = 0) (hn : n ≤ c) (hc : c ≤ 9223372036854775807) :
    Calls Tryz.prog 37 #[.slice A n c] w fun e w' => e = .returned (.pointer (some ⟨w.heap.size, 0, none⟩)) ∧ RdrAt w' w.heap.size ⟨l, false⟩ ∧ w.grownBy w' none := by
  have HR := Lib.hid hr; have HA := Lib.hid hA; have HA0 := Lib.hid hA0
  clear hr hA hA0
  go_enter Tryz.func37, Tryz.ntmps37
  go_wp2_with fail
  go_ret
  have hg := grownBy_alloc' w (.cells #[.slice A n c, .bool false] 190) none
  exact ⟨rfl, ⟨⟨A, n, c, heap_alloc_new w _, HR.out.keep hg (by simp), hn, hc, fun a e => HA.out a e, HA0.out⟩, fun g => by cases g⟩, hg⟩

theorem sum_byte (s : Nat) (k : Nat) (h : k < 4) : u8s ((crcBytes s).take k) ++ [.int .u8 ((s : Int) / 2 ^ (8 * k) % 256)] = u8s ((crcBytes s).take (k + 1)) := by
  have : k = 0 ∨ k = 1 ∨ k = 2 ∨ k = 3 := by omega
  rcases this with rfl | rfl | rfl | rfl <;> simp [u8s, crcBytes] <;> omega
set_option maxHeartbeats 400000 in
set_option maxRecDepth 100000 in
theorem crc_Bytes (s : Nat) (w : World) :
    Calls Tryz.prog 35 #[.int .u32 s] w fun e w' => ∃ v', e = .returned v' ∧ w'.ownsRow 0 5 1 v' 4 (u8s (crcBytes s)) ∧ Grows w w' (.slice none 0 0) v' := by
  go_enter Tryz.func35, Tryz.ntmps35
  go_wp2_with fail
  go_loopw [3, 5] (fun b i wr => ∃ (j : Nat), j ≤ 4 ∧ i = .int .i64 j ∧ wr.ownsRow 0 5 1 b j (u8s ((crcBytes s).take j)) ∧ Grows w wr (.slice none 0 0) b) (fun _ i _ => (4 - intOf i).toNat)
  case atStart => exact ⟨0, by omega, rfl, World.ownsRow_nil .., Grows.refl _ _⟩
  case round =>
    obtain ⟨j, hj, rfl, hown, hg⟩ := hrel
    have HO := Lib.hid hown; have HG := Lib.hid hg; clear hown hg
    by_cases hlt : j < 4
    · have hb := Lib.hid (sum_byte s j hlt)
      go_wp2_with (at_builtin; go_must (refine app_one rfl _ _ 22 5 (.int .u8 0) 1 1 rfl Tryz.underlying22 Tryz.info5 rfl (by decide) (by decide) u3 j _ [.int .u8 ((s : Int) / 2 ^ (8 * j) % 256)] rfl rfl rfl rfl HO.out (by omega) ?_); intro v1 w1 hown1 hg1; have HO1 := Lib.hid hown1; have HG1 := Lib.hid hg1; clear hown1 hg1)
      go_roundw
      case rel => exact ⟨j + 1, by omega, by go_num, by rw [← hb.out]; exact HO1.out, HG.out.trans HG1.out⟩
      case measure => simp [intOf]; omega
    · obtain rfl : j = 4 := by omega
      go_wp2_with fail
      go_ret
      exact ⟨_, rfl, HO.out, HG.out⟩
end Go.Proofs.YtllkjfadeaoicaaGreat

set_option linter.unusedVariables false
set_option linter.unusedSimpArgs false
namespace Go.Proofs.YtllkjfadeaoicaaGreat
open Go.RowKit

theorem RdrAt.keep {w w' : World} {rb : Nat} {r : Rdr} (h : RdrAt w rb r) {S : Nat → Prop} (hu : Upd S w w') (h1 : ∀ k, S k → rb < k) : RdrAt w' rb r := by
  obtain ⟨⟨A, n, c, hb, hr, h3, h4, h5, h6⟩, hbad⟩ := h
  refine ⟨⟨A, n, c, hu.heap hb (fun g => by have := h1 _ g; omega), ⟨hr.1, fun hn => ?_⟩, h3, h4, h5, h6⟩, hbad⟩
  obtain ⟨b, o, rfl, hc⟩ := hr.2 hn
  exact ⟨b, o, rfl, fun j hj => hu.cell (hc j hj) fun g => by have h7 := h1 _ g; have h8 := (h5 _ rfl).1; simp only at h7 h8; omega⟩

/-- w was when the call began -/
structure InTake (w wr : World) (rb : Nat) (r : Rdr) : Prop where
  rdr : RdrAt wr rb r
  upd : Upd (fun k => k = rb) w wr
  lt : rb < w.heap.size
theorem InTake.start {w : World} {rb : Nat} {r : Rdr} (h : RdrAt w rb r) : InTake w w rb r := ⟨h, Upd.refl _ _, h.lt⟩
/-- what writes to new blocks alone -/
theorem InTake.upd' {w wr w1 : World} {rb : Nat} {r : Rdr} (h : InTake w wr rb r) {S : Nat → Prop} (hu : Upd S wr w1) (hS : ∀ k, S k → w.heap.size ≤ k) : InTake w w1 rb r :=
  ⟨h.rdr.keep hu fun k g => Nat.lt_of_lt_of_le h.lt (hS k g), h.upd.trans hu fun k g => .inr (hS k g), h.lt⟩
theorem InTake.alloc {w wr : World} {rb : Nat} {r : Rdr} (h : InTake w wr rb r) (o : Obj) : InTake w (wr.alloc o) rb r := h.upd' (Upd.alloc (fun _ => False) wr o) fun _ g => g.elim
theorem InTake.set {w wr : World} {rb : Nat} {r : Rdr} (h : InTake w wr rb r) (b i : Nat) (v : Value) (hb : w.heap.size ≤ b) : InTake w (wr.setCell ⟨b, i, none⟩ v) rb r := h.upd' (Upd.set wr b i v) fun k g => by rw [g]; exact hb
theorem InTake.step {w wr w1 : World} {rb : Nat} {r r1 : Rdr} (h : InTake w wr rb r) (h1 : RdrAt w1 rb r1) (hu : Upd (fun k => k = rb) wr w1) : InTake w w1 rb r1 := ⟨h1, h.upd.trans hu fun k g => .inl g, h.lt⟩
/-- a block of the call's own is kept by what takes -/
theorem keep_own {wr w1 : World} {rb b : Nat} {o : Obj} (hu : Upd (fun k => k = rb) wr w1) (hb : wr.heap[b]? = some o) (hne : rb < b) : w1.heap[b]? = some o := hu.heap hb (Nat.ne_of_gt hne)
theorem upd_one {w w' : World} {b : Nat} (h : w.grownBy w' (some b)) : Upd (fun k => k = b) w w' := (Upd.of_grown h).mono fun k e => .inl (by cases e; rfl)

/-- image.number, image.text -/
theorem take_num {w wr : World} {rb : Nat} {r : Rdr} (h : InTake w wr rb r) : Calls Tryz.prog 38 #[.pointer (some ⟨rb, 0, none⟩)] wr
    fun e w1 => e = .returned (.int .i64 (takeNum r).1) ∧ InTake w w1 rb (takeNum r).2 ∧ Upd (fun k => k = rb) wr w1 := by
  have H := Lib.hid h; clear h
  go_enter Tryz.func38, Tryz.ntmps38
  go_wp2_with fail
  refine (rdr_Int rb r _ _ wr H.out.rdr).mono ?_
  rintro e w1 ⟨rfl, p1, p2⟩
  have P1 := Lib.hid p1; have P2 := Lib.hid p2; clear p1 p2
  go_wp2_with fail
  go_ret
  exact ⟨rfl, H.out.step P1.out (upd_one P2.out), upd_one P2.out⟩
theorem take_text {w wr : World} {rb : Nat} {r : Rdr} (h : InTake w wr rb r) : Calls Tryz.prog 101 #[.pointer (some ⟨rb, 0, none⟩)] wr
    fun e w1 => e = .returned (.string ⟨(takeText 65535 r).1.toArray⟩) ∧ InTake w w1 rb (takeText 65535 r).2 ∧ Upd (fun k => k = rb) wr w1 := by
  have H := Lib.hid h; clear h
  go_enter Tryz.func101, Tryz.ntmps101
  go_wp2_with fail
  refine (rdr_Text rb r _ wr H.out.rdr).mono ?_
  rintro e w1 ⟨rfl, p1, p2⟩
  have P1 := Lib.hid p1; have P2 := Lib.hid p2; clear p1 p2
  go_wp2_with fail
  go_ret
  exact ⟨rfl, H.out.step P1.out (upd_one P2.out), upd_one P2.out⟩
theorem take_bool {w wr : World} {rb : Nat} {r : Rdr} (h : InTake w wr rb r) : Calls Tryz.prog 168 #[.pointer (some ⟨rb, 0, none⟩)] wr
    fun e w1 => e = .returned (.bool (takeBool r).1) ∧ InTake w w1 rb (takeBool r).2 ∧ Upd (fun k => k = rb) wr w1 :=
  (rdr_Bool rb r wr h.rdr).mono fun e w1 ⟨h1, h2, h3⟩ => ⟨h1, h.step h2 (upd_one h3), upd_one h3⟩
/-- what a take of a struct gives -/
def TookX {α : Type} (w : World) (rb : Nat) (el : World → (Nat → Prop) → α → List Value → Prop) (x : α × Rdr) (e : Ending) (w' : World) : Prop :=
  (∃ cs, e = .returned (.agg cs.toArray) ∧ el w' (fun k => w.heap.size ≤ k ∧ k < w'.heap.size) x.1 cs) ∧ InTake w w' rb x.2
theorem takeText_len (most : Int) (r : Rdr) (hm : most ≤ 65535) : lenOk (takeText most r).1 := by
  unfold lenOk takeText
  split
  · simp
  · simp only
    split
    · simp
    · unfold Rdr.part
      split
      · simp
      · simp only [List.length_take]; omega

/-- cells of elements, one behind the other -/
theorem flat_at {sz : Nat} : ∀ (css : List (List Value)) (k i : Nat) (cs : List Value), (∀ c ∈ css, c.length = sz) → css[k]? = some cs → i < sz → css.flatten[k * sz + i]? = cs[i]?
  | [], k, i, cs, _, h, _ => by simp at h
  | c :: css, 0, i, cs, hl, h, hi => by
    simp only [List.getElem?_cons_zero, Option.some.injEq] at h
    subst h
    rw [List.flatten_cons, Nat.zero_mul, Nat.zero_add, List.getElem?_append_left (by rw [hl c (List.mem_cons_self ..)]; exact hi)]
  | c :: css, k + 1, i, cs, hl, h, hi => by
    simp only [List.getElem?_cons_succ] at h
    have hc := hl c (List.mem_cons_self ..)
    rw [List.flatten_cons, List.getElem?_append_right (by rw [hc, Nat.succ_mul]; omega), hc, show (k + 1) * sz + i - sz = k * sz + i from by rw [Nat.succ_mul]; omega]
    exact flat_at css k i cs (fun d hd => hl d (List.mem_cons_of_mem _ hd)) h hi

section
variable {α : Type} {el : World → (Nat → Prop) → α → List Value → Prop}
/-- an element's cells are read alike where its blocks are kept -/
def ElKeep (el : World → (Nat → Prop) → α → List Value → Prop) : Prop :=
  ∀ (w w' : World) (S S' : Nat → Prop) (x : α) (cs : List Value), el w S x cs → (∀ k, S k → S' k) → (∀ a : Addr, S a.block → w'.cell? a = w.cell? a) → el w' S' x cs
/-- new blocks that aren't the row's -/
def NewS (w wr : World) (out : Value) (k : Nat) : Prop := w.heap.size ≤ k ∧ k < wr.heap.size ∧ out.ownBlock ≠ some k
/-- amid taking a list: what was taken is in 'out', so many are still to come -/
structure InLoop (w wr : World) (rb : Nat) (one : Rdr → α × Rdr) (el : World → (Nat → Prop) → α → List Value → Prop) (E sz n0 : Nat) (r1 : Rdr) (out : Value) (m : Nat) (xs : List α) (css : List (List Value)) (r : Rdr) : Prop where
  tk : InTake w wr rb r
  few : xs.length + m ≤ 65535
  eq : takeN one n0 r1 = (xs ++ (takeN one m r).1, (takeN one m r).2)
  own : wr.ownsRow 0 E sz out xs.length css.flatten
  len : css.length = xs.length
  each : ∀ c ∈ css, c.length = sz
  els : ∀ (k : Nat) (x : α) (cs : List Value), xs[k]? = some x → css[k]? = some cs → el wr (NewS w wr out) x cs
  fresh : ∀ k, out.ownBlock = some k → w.heap.size ≤ k
theorem InLoop.start {w w1 : World} {rb : Nat} {one : Rdr → α × Rdr} {E sz n0 : Nat} {r1 : Rdr} (h : InTake w w1 rb r1) (hn : n0 ≤ 65535) : InLoop w w1 rb one el E sz n0 r1 (.slice none 0 0) n0 [] [] r1 :=
  ⟨h, by simpa using hn, by simp, World.ownsRow_nil .., rfl, fun c hc => (by cases hc), fun k x cs hx => (by simp at hx), fun k hk => (by cases hk)⟩
/-- an element more -/
theorem InLoop.next (HK : ElKeep el) {w wr w1 w2 : World} {rb : Nat} {one : Rdr → α × Rdr} {E sz n0 : Nat} {r1 : Rdr} {out v1 : Value} {m : Nat} {xs : List α} {css : List (List Value)} {r : Rdr} {cs : List Value}
    (h : InLoop w wr rb one el E sz n0 r1 out (m + 1) xs css r) (hbad : r.bad = false)
    (hel : el w1 (fun k => wr.heap.size ≤ k ∧ k < w1.heap.size) (one r).1 cs) (hcs : cs.length = sz) (htk : InTake wr w1 rb (one r).2)
    (hown : w2.ownsRow 0 E sz v1 (xs.length + 1) (css.flatten ++ cs)) (hg : Grows w1 w2 out v1) :
    InLoop w w2 rb one el E sz n0 r1 v1 m (xs ++ [(one r).1]) (css ++ [cs]) (one r).2 := by
  have hsz := htk.upd.size
  have hsz2 := hg.g.size
  have hw : w.heap.size ≤ wr.heap.size := h.tk.upd.size
  have hout : ∀ k, out.ownBlock = some k → k < wr.heap.size := fun k hk => (h.own.lt k hk).2
  have htk1 : InTake w w1 rb (one r).2 := h.tk.step htk.rdr htk.upd
  have hv1 : ∀ k, NewS w wr out k → v1.ownBlock ≠ some k := by
    rintro k ⟨k1, k2, k3⟩ e
    rcases hg.b with g | ⟨x, g, hx⟩
    · rw [g] at e; exact k3 e
    · rw [g] at e; cases e; omega
  refine ⟨htk1.upd' (Upd.of_grown hg.g) (fun k e => h.fresh k e), by have := h.few; simp; omega, ?_, ?_, by simp [h.len], ?_, ?_, ?_⟩
  · rw [h.eq]
    simp [takeN, hbad]
  · simpa using hown
  · intro c hc
    rcases List.mem_append.1 hc with hc | hc
    · exact h.each c hc
    · rw [List.mem_singleton.1 hc]; exact hcs
  · intro k x c hx hc
    by_cases hk : k < xs.length
    · rw [List.getElem?_append_left hk] at hx
      rw [List.getElem?_append_left (by rw [h.len]; exact hk)] at hc
      refine HK _ _ _ _ x c (h.els k x c hx hc) (fun j hj => ⟨hj.1, by have := hj.2.1; omega, hv1 j hj⟩) (fun a ha => ?_)
      have hrb := h.tk.lt
      have ha1 := ha.1
      rw [(Upd.of_grown hg.g).cellEq (by have := ha.2.1; omega) (fun e => ha.2.2 e), htk.upd.cellEq ha.2.1 (fun e => by omega)]
    · have hke : k = xs.length := by
        have := (List.getElem?_eq_some_iff.1 hx).1
        simp at this; omega
      subst hke
      rw [List.getElem?_append_right (Nat.le_refl _), Nat.sub_self] at hx
      rw [List.getElem?_append_right (by rw [h.len]; exact Nat.le_refl _), h.len, Nat.sub_self] at hc
      simp only [List.getElem?_cons_zero, Option.some.injEq] at hx hc
      subst hx; subst hc
      refine HK _ _ _ _ _ _ hel (fun j hj => ⟨by omega, by omega, fun e => ?_⟩) (fun a ha => ?_)
      · rcases hg.b with g | ⟨x, g, hx⟩
        · have := hout j (by rw [← g]; exact e); omega
        · rw [g] at e; cases e; omega
      · exact (Upd.of_grown hg.g).cellEq ha.2 (fun e => by have := hout _ e; omega)
  · intro k hk
    rcases hg.b with g | ⟨x, g, hx⟩
    · exact h.fresh k (by rw [← g]; exact hk)
    · rw [g] at hk; cases hk; omega
/-- what taking a list gives -/
def TookL (w : World) (rb : Nat) (el : World → (Nat → Prop) → α → List Value → Prop) (sz : Nat) (x : List α × Rdr) (e : Ending) (w' : World) : Prop :=
  (∃ v, e = .returned v ∧ Rows w' (fun k => w.heap.size ≤ k ∧ k < w'.heap.size) (el w' (fun k => w.heap.size ≤ k ∧ k < w'.heap.size)) sz v x.1) ∧ InTake w w' rb x.2
theorem InLoop.done (HK : ElKeep el) {w wr : World} {rb : Nat} {one : Rdr → α × Rdr} {E sz n0 : Nat} {r1 r0 : Rdr} {out : Value} {m : Nat} {xs : List α} {css : List (List Value)} {r : Rdr}
    (h : InLoop w wr rb one el E sz n0 r1 out m xs css r) (hend : m = 0 ∨ r.bad = true) (hn : takeList one r0 = takeN one n0 r1) : TookL w rb el sz (takeList one r0) (.returned out) wr := by
  have e : takeN one m r = ([], r) := by
    cases m with
    | zero => rfl
    | succ m => rcases hend with g | g
                · omega
                · simp [takeN, g]
  rw [hn, h.eq, e, List.append_nil]
  refine ⟨⟨out, rfl, ?_⟩, h.tk⟩
  rcases h.own.2 with ⟨rfl, hx⟩ | ⟨g, cap, cur, rfl, hb, hh, h1, h2, h3, h4⟩
  · have : xs = [] := List.eq_nil_of_length_eq_zero hx
    subst this
    exact ⟨none, 0, 0, rfl, rfl, Nat.le_refl _, by omega, fun h0 => by omega⟩
  · refine ⟨_, xs.length, cap, rfl, rfl, h1, by simpa [maxLen] using h2, fun h0 => ⟨g, 0, rfl, ⟨h.fresh g rfl, lt_of_heap hh⟩, fun k x hx => ?_⟩⟩
    have hk : k < xs.length := (List.getElem?_eq_some_iff.1 hx).1
    obtain ⟨cs, hc⟩ : ∃ cs, css[k]? = some cs := ⟨_, List.getElem?_eq_getElem (by rw [h.len]; exact hk)⟩
    have hcl := h.each cs (List.mem_of_getElem? hc)
    refine ⟨cs, hcl, HK _ _ _ _ x cs (h.els k x cs hx hc) (fun j hj => ⟨hj.1, hj.2.1⟩) (fun _ _ => rfl), fun i u hu => ?_⟩
    have hi : i < sz := by rw [← hcl]; exact (List.getElem?_eq_some_iff.1 hu).1
    have hf := flat_at css k i cs h.each hc hi
    rw [hu] at hf
    have := h.own.cells (g := g) rfl (k * sz + i) u hf
    rw [Nat.zero_add]
    have ha : (⟨g, 0, none⟩ : Addr).add (k * sz + i) = ⟨g, k * sz + i, none⟩ := by unfold Addr.add; split <;> simp_all
    rwa [ha] at this
end
theorem keep_flat {α : Type} (el : α → List Value → Prop) : ElKeep (fun _ _ => el) := fun _ _ _ _ _ _ h _ _ => h
theorem keep_Cell : ElKeep elCell := fun _ _ _ _ _ _ h h1 h2 => h.imp h1 h2
theorem keep_Line : ElKeep elLine := fun _ _ _ _ _ _ h h1 h2 => h.imp h1 h2
theorem keep_Live : ElKeep elLive := fun _ _ _ _ _ _ h h1 h2 => h.imp h1 h2
end Go.Proofs.YtllkjfadeaoicaaGreat

set_option linter.unusedVariables false
set_option linter.unusedSimpArgs false
namespace Go.Proofs.YtllkjfadeaoicaaGreat
open Go.RowKit
theorem takeInt_range (r : Rdr) : 0 ≤ (takeInt 0 65535 r).1 ∧ (takeInt 0 65535 r).1 ≤ 65535 := by
  unfold takeInt
  split
  · simp
  · split
    · rename_i h; exact h
    · simp
theorem World.heap_size_alloc' (w : World) (o : Obj) : (w.alloc o).heap.size = w.heap.size + 1 := by simp
theorem World.setCell_size' (w : World) (a : Addr) (v : Value) : (w.setCell a v).heap.size = w.heap.size := by simp

set_option maxHeartbeats 800000 in
set_option maxRecDepth 100000 in
theorem take_Version (rb : Nat) (r : Rdr) (w : World) (h : RdrAt w rb r) :
    Calls Tryz.prog 103 #[.pointer (some ⟨rb, 0, none⟩)] w (TookX w rb (fun _ _ => elVersion) (takeVersion r)) := by
  have ST0 := Lib.hid ((InTake.start h).alloc (.cells #[.int .i64 0, .string { data := #[] }, .bool false] 194))
  have HRES0 := Lib.hid (heap_alloc_new w (.cells #[.int .i64 0, .string { data := #[] }, .bool false] 194))
  have hlt := h.lt
  clear h
  unfold takeVersion
  go_enter Tryz.func103, Tryz.ntmps103
  go_wp2_with fail
  (with_reducible refine (take_num ST0.out).mono ?_)
  rintro e w1 ⟨rfl, st, hu⟩
  have ST1 := Lib.hid st; have HRES1 := Lib.hid (keep_own hu HRES0.out hlt); have HU1 := Lib.hid hu.size; clear st hu
  go_wp2_with fail
  (with_reducible refine (take_text ST1.out).mono ?_)
  rintro e w2 ⟨rfl, st, hu⟩
  have ST2 := Lib.hid st; have HRES2 := Lib.hid (keep_own hu HRES1.out hlt); have HU2 := Lib.hid hu.size; clear st hu
  go_wp2_with fail
  (with_reducible refine (take_bool ST2.out).mono ?_)
  rintro e w3 ⟨rfl, st, hu⟩
  have ST3 := Lib.hid st; have HRES3 := Lib.hid (keep_own hu HRES2.out hlt); have HU3 := Lib.hid hu.size; clear st hu
  have r0 : w3.cell? ⟨w.heap.size, 0, none⟩ = some (.int .i64 0) := by rw [cell_of HRES3.out]; rfl
  have f0 : w3.frozen? ⟨w.heap.size, 0, none⟩ = false := frozen_of HRES3.out 0
  have r1 : w3.cell? ⟨w.heap.size, 1, none⟩ = some (.string { data := #[] }) := by rw [cell_of HRES3.out]; rfl
  have f1 : w3.frozen? ⟨w.heap.size, 1, none⟩ = false := frozen_of HRES3.out 1
  have r2 : w3.cell? ⟨w.heap.size, 2, none⟩ = some (.bool false) := by rw [cell_of HRES3.out]; rfl
  have f2 : w3.frozen? ⟨w.heap.size, 2, none⟩ = false := frozen_of HRES3.out 2
  go_wp2_with fail
  refine bodyPost_ret (v := .agg #[.int .i64 (takeNum r).1, .string ⟨(takeText 65535 (takeNum r).2).1.toArray⟩, .bool (takeBool (takeText 65535 (takeNum r).2).2).1]) ?_ rfl ?_
  · simp [results, Tryz.results103, go_sem, r0, r1, r2]
  have hset : Upd (fun k => k = w.heap.size) w3 ((((w3.setCell ⟨w.heap.size, 0, none⟩ (.int .i64 (takeNum r).1)).setCell ⟨w.heap.size, 1, none⟩ (.string ⟨(takeText 65535 (takeNum r).2).1.toArray⟩)).setCell ⟨w.heap.size, 2, none⟩ (.bool (takeBool (takeText 65535 (takeNum r).2).2).1))) := by
    refine Upd.trans (Upd.trans (Upd.set _ _ _ _) (Upd.set _ _ _ _) (fun k g => .inl g)) (Upd.set _ _ _ _) (fun k g => .inl g)
  refine ⟨⟨_, rfl, ?_⟩, ST3.out.upd' hset fun k g => by rw [g]; exact Nat.le_refl _⟩
  exact ⟨rfl, takeText_len _ _ (by omega)⟩

set_option maxHeartbeats 800000 in
set_option maxRecDepth 100000 in
theorem take_Hold (rb : Nat) (r : Rdr) (w : World) (h : RdrAt w rb r) :
    Calls Tryz.prog 105 #[.pointer (some ⟨rb, 0, none⟩)] w (TookX w rb (fun _ _ => elHold) (takeHold r)) := by
  have ST0 := Lib.hid ((InTake.start h).alloc (.cells #[.int .i64 0, .int .i64 0] 198))
  have HRES0 := Lib.hid (heap_alloc_new w (.cells #[.int .i64 0, .int .i64 0] 198))
  have hlt := h.lt
  clear h
  unfold takeHold
  go_enter Tryz.func105, Tryz.ntmps105
  go_wp2_with fail
  (with_reducible refine (take_num ST0.out).mono ?_)
  rintro e w1 ⟨rfl, st, hu⟩
  have ST1 := Lib.hid st; have HRES1 := Lib.hid (keep_own hu HRES0.out hlt); have HU1 := Lib.hid hu.size; clear st hu
  go_wp2_with fail
  (with_reducible refine (take_num ST1.out).mono ?_)
  rintro e w2 ⟨rfl, st, hu⟩
  have ST2 := Lib.hid st; have HRES2 := Lib.hid (keep_own hu HRES1.out hlt); have HU2 := Lib.hid hu.size; clear st hu
  have r0 : w2.cell? ⟨w.heap.size, 0, none⟩ = some (.int .i64 0) := by rw [cell_of HRES2.out]; rfl
  have f0 : w2.frozen? ⟨w.heap.size, 0, none⟩ = false := frozen_of HRES2.out 0
  have r1 : w2.cell? ⟨w.heap.size, 1, none⟩ = some (.int .i64 0) := by rw [cell_of HRES2.out]; rfl
  have f1 : w2.frozen? ⟨w.heap.size, 1, none⟩ = false := frozen_of HRES2.out 1
  go_wp2_with fail
  refine bodyPost_ret (v := .agg #[.int .i64 (takeNum r).1, .int .i64 (takeNum (takeNum r).2).1]) ?_ rfl ?_
  · simp [results, Tryz.results105, go_sem, r0, r1]
  have hset : Upd (fun k => k = w.heap.size) w2 (((w2.setCell ⟨w.heap.size, 0, none⟩ (.int .i64 (takeNum r).1)).setCell ⟨w.heap.size, 1, none⟩ (.int .i64 (takeNum (takeNum r).2).1))) := by
    refine Upd.trans (Upd.set _ _ _ _) (Upd.set _ _ _ _) (fun k g => .inl g)
  refine ⟨⟨_, rfl, ?_⟩, ST2.out.upd' hset fun k g => by rw [g]; exact Nat.le_refl _⟩
  exact rfl

set_option maxHeartbeats 800000 in
set_option maxRecDepth 100000 in
theorem take_Write (rb : Nat) (r : Rdr) (w : World) (h : RdrAt w rb r) :
    Calls Tryz.prog 108 #[.pointer (some ⟨rb, 0, none⟩)] w (TookX w rb (fun _ _ => elWrite) (takeWrite r)) := by
  have ST0 := Lib.hid ((InTake.start h).alloc (.cells #[.string { data := #[] }, .string { data := #[] }, .bool false] 204))
  have HRES0 := Lib.hid (heap_alloc_new w (.cells #[.string { data := #[] }, .string { data := #[] }, .bool false] 204))
  have hlt := h.lt
  clear h
  unfold takeWrite
  go_enter Tryz.func108, Tryz.ntmps108
  go_wp2_with fail
  (with_reducible refine (take_text ST0.out).mono ?_)
  rintro e w1 ⟨rfl, st, hu⟩
  have ST1 := Lib.hid st; have HRES1 := Lib.hid (keep_own hu HRES0.out hlt); have HU1 := Lib.hid hu.size; clear st hu
  go_wp2_with fail
  (with_reducible refine (take_text ST1.out).mono ?_)
  rintro e w2 ⟨rfl, st, hu⟩
  have ST2 := Lib.hid st; have HRES2 := Lib.hid (keep_own hu HRES1.out hlt); have HU2 := Lib.hid hu.size; clear st hu
  go_wp2_with fail
  (with_reducible refine (take_bool ST2.out).mono ?_)
  rintro e w3 ⟨rfl, st, hu⟩
  have ST3 := Lib.hid st; have HRES3 := Lib.hid (keep_own hu HRES2.out hlt); have HU3 := Lib.hid hu.size; clear st hu
  have r0 : w3.cell? ⟨w.heap.size, 0, none⟩ = some (.string { data := #[] }) := by rw [cell_of HRES3.out]; rfl
  have f0 : w3.frozen? ⟨w.heap.size, 0, none⟩ = false := frozen_of HRES3.out 0
  have r1 : w3.cell? ⟨w.heap.size, 1, none⟩ = some (.string { data := #[] }) := by rw [cell_of HRES3.out]; rfl
  have f1 : w3.frozen? ⟨w.heap.size, 1, none⟩ = false := frozen_of HRES3.out 1
  have r2 : w3.cell? ⟨w.heap.size, 2, none⟩ = some (.bool false) := by rw [cell_of HRES3.out]; rfl
  have f2 : w3.frozen? ⟨w.heap.size, 2, none⟩ = false := frozen_of HRES3.out 2
  go_wp2_with fail
  refine bodyPost_ret (v := .agg #[.string ⟨(takeText 65535 r).1.toArray⟩, .string ⟨(takeText 65535 (takeText 65535 r).2).1.toArray⟩, .bool (takeBool (takeText 65535 (takeText 65535 r).2).2).1]) ?_ rfl ?_
  · simp [results, Tryz.results108, go_sem, r0, r1, r2]
  have hset : Upd (fun k => k = w.heap.size) w3 ((((w3.setCell ⟨w.heap.size, 0, none⟩ (.string ⟨(takeText 65535 r).1.toArray⟩)).setCell ⟨w.heap.size, 1, none⟩ (.string ⟨(takeText 65535 (takeText 65535 r).2).1.toArray⟩)).setCell ⟨w.heap.size, 2, none⟩ (.bool (takeBool (takeText 65535 (takeText 65535 r).2).2).1))) := by
    refine Upd.trans (Upd.trans (Upd.set _ _ _ _) (Upd.set _ _ _ _) (fun k g => .inl g)) (Upd.set _ _ _ _) (fun k g => .inl g)
  refine ⟨⟨_, rfl, ?_⟩, ST3.out.upd' hset fun k g => by rw [g]; exact Nat.le_refl _⟩
  exact ⟨rfl, takeText_len _ _ (by omega), takeText_len _ _ (by omega)⟩

set_option maxHeartbeats 800000 in
set_option maxRecDepth 100000 in
theorem take_Done (rb : Nat) (r : Rdr) (w : World) (h : RdrAt w rb r) :
    Calls Tryz.prog 48 #[.pointer (some ⟨rb, 0, none⟩)] w (TookX w rb (fun _ _ => elDone) (takeDone r)) := by
  have ST0 := Lib.hid ((InTake.start h).alloc (.cells #[.int .i64 0, .int .i64 0] 125))
  have HRES0 := Lib.hid (heap_alloc_new w (.cells #[.int .i64 0, .int .i64 0] 125))
  have hlt := h.lt
  clear h
  unfold takeDone
  go_enter Tryz.func48, Tryz.ntmps48
  go_wp2_with fail
  (with_reducible refine (take_num ST0.out).mono ?_)
  rintro e w1 ⟨rfl, st, hu⟩
  have ST1 := Lib.hid st; have HRES1 := Lib.hid (keep_own hu HRES0.out hlt); have HU1 := Lib.hid hu.size; clear st hu
  go_wp2_with fail
  (with_reducible refine (take_num ST1.out).mono ?_)
  rintro e w2 ⟨rfl, st, hu⟩
  have ST2 := Lib.hid st; have HRES2 := Lib.hid (keep_own hu HRES1.out hlt); have HU2 := Lib.hid hu.size; clear st hu
  have r0 : w2.cell? ⟨w.heap.size, 0, none⟩ = some (.int .i64 0) := by rw [cell_of HRES2.out]; rfl
  have f0 : w2.frozen? ⟨w.heap.size, 0, none⟩ = false := frozen_of HRES2.out 0
  have r1 : w2.cell? ⟨w.heap.size, 1, none⟩ = some (.int .i64 0) := by rw [cell_of HRES2.out]; rfl
  have f1 : w2.frozen? ⟨w.heap.size, 1, none⟩ = false := frozen_of HRES2.out 1
  go_wp2_with fail
  refine bodyPost_ret (v := .agg #[.int .i64 (takeNum r).1, .int .i64 (takeNum (takeNum r).2).1]) ?_ rfl ?_
  · simp [results, Tryz.results48, go_sem, r0, r1]
  have hset : Upd (fun k => k = w.heap.size) w2 (((w2.setCell ⟨w.heap.size, 0, none⟩ (.int .i64 (takeNum r).1)).setCell ⟨w.heap.size, 1, none⟩ (.int .i64 (takeNum (takeNum r).2).1))) := by
    refine Upd.trans (Upd.set _ _ _ _) (Upd.set _ _ _ _) (fun k g => .inl g)
  refine ⟨⟨_, rfl, ?_⟩, ST2.out.upd' hset fun k g => by rw [g]; exact Nat.le_refl _⟩
  exact rfl

end Go.Proofs.YtllkjfadeaoicaaGreat

set_option linter.unusedVariables false
set_option linter.unusedSimpArgs false
namespace Go.Proofs.YtllkjfadeaoicaaGreat
open Go.RowKit
set_option maxHeartbeats 1600000 in
set_option maxRecDepth 100000 in
theorem take_Row (rb : Nat) (r : Rdr) (w : World) (h : RdrAt w rb r) :
    Calls Tryz.prog 44 #[.pointer (some ⟨rb, 0, none⟩)] w (TookX w rb (fun _ _ => elRow) (takeRow r)) := by
  have ST0 := Lib.hid (((InTake.start h).alloc (.cells #[.int .i64 0, .int .i64 0, .int .i64 0, .int .i64 0, .int .i64 0] 116)).alloc (.cells #[.int .i64 0, .int .i64 0, .int .i64 0, .int .i64 0, .int .i64 0] 200))
  have HRES0 : Hid (((w.alloc (.cells #[.int .i64 0, .int .i64 0, .int .i64 0, .int .i64 0, .int .i64 0] 116)).alloc (.cells #[.int .i64 0, .int .i64 0, .int .i64 0, .int .i64 0, .int .i64 0] 200)).heap[w.heap.size]? = some (.cells #[.int .i64 0, .int .i64 0, .int .i64 0, .int .i64 0, .int .i64 0] 116 (0, 0))) :=
    heap_keep (World.grownBy_alloc _ _ none) (heap_alloc_new w _) (by simp)
  have HARR0 : Hid (((w.alloc (.cells #[.int .i64 0, .int .i64 0, .int .i64 0, .int .i64 0, .int .i64 0] 116)).alloc (.cells #[.int .i64 0, .int .i64 0, .int .i64 0, .int .i64 0, .int .i64 0] 200)).heap[w.heap.size + 1]? = some (.cells #[.int .i64 0, .int .i64 0, .int .i64 0, .int .i64 0, .int .i64 0] 200 (0, 0))) := by
    have := heap_alloc_new (w.alloc (.cells #[.int .i64 0, .int .i64 0, .int .i64 0, .int .i64 0, .int .i64 0] 116)) (.cells #[.int .i64 0, .int .i64 0, .int .i64 0, .int .i64 0, .int .i64 0] 200)
    rw [World.heap_size_alloc' w] at this
    exact this
  have hlt := h.lt
  clear h
  unfold takeRow
  go_enter Tryz.func44, Tryz.ntmps44
  go_wp2_with fail
  refine wp_loop_rounds 6 ?_
  rw [rounds_succ]
  go_wp2_with fail
  (with_reducible refine (take_num ST0.out).mono ?_)
  rintro e w1 ⟨rfl, st, hu⟩
  have HA := Lib.hid (keep_own hu HARR0.out (by omega)); have HRES1' := Lib.hid (keep_own hu HRES0.out hlt)
  have c0 : w1.cell? ⟨w.heap.size + 1, 0, none⟩ = some (.int .i64 0) := by rw [cell_of HA.out]; rfl
  have f0 : w1.frozen? ⟨w.heap.size + 1, 0, none⟩ = false := frozen_of HA.out 0
  have ST1 := Lib.hid (st.set (w.heap.size + 1) 0 (.int .i64 (takeNum r).1) (Nat.le_succ _))
  have HARR1 : Hid ((w1.setCell ⟨w.heap.size + 1, 0, none⟩ (.int .i64 (takeNum r).1)).heap[w.heap.size + 1]? = some (.cells #[.int .i64 (takeNum r).1, .int .i64 0, .int .i64 0, .int .i64 0, .int .i64 0] 200 (0, 0))) := heap_set HA.out 0 _
  have HRES1 : Hid ((w1.setCell ⟨w.heap.size + 1, 0, none⟩ (.int .i64 (takeNum r).1)).heap[w.heap.size]? = some (.cells #[.int .i64 0, .int .i64 0, .int .i64 0, .int .i64 0, .int .i64 0] 116 (0, 0))) := heap_keep (grownBy_set _ _ _ _) HRES1'.out (by simp)
  clear st hu HA HRES1'
  go_wp2_with fail
  rw [rounds_succ]
  clear c0 f0
  go_wp2_with fail
  (with_reducible refine (take_num ST1.out).mono ?_)
  rintro e w2 ⟨rfl, st, hu⟩
  have HA := Lib.hid (keep_own hu HARR1.out (by omega)); have HRES2' := Lib.hid (keep_own hu HRES1.out hlt)
  have c1 : w2.cell? ⟨w.heap.size + 1, 1, none⟩ = some (.int .i64 0) := by rw [cell_of HA.out]; rfl
  have f1 : w2.frozen? ⟨w.heap.size + 1, 1, none⟩ = false := frozen_of HA.out 1
  have ST2 := Lib.hid (st.set (w.heap.size + 1) 1 (.int .i64 (takeNum (takeNum r).2).1) (Nat.le_succ _))
  have HARR2 : Hid ((w2.setCell ⟨w.heap.size + 1, 1, none⟩ (.int .i64 (takeNum (takeNum r).2).1)).heap[w.heap.size + 1]? = some (.cells #[.int .i64 (takeNum r).1, .int .i64 (takeNum (takeNum r).2).1, .int .i64 0, .int .i64 0, .int .i64 0] 200 (0, 0))) := heap_set HA.out 1 _
  have HRES2 : Hid ((w2.setCell ⟨w.heap.size + 1, 1, none⟩ (.int .i64 (takeNum (takeNum r).2).1)).heap[w.heap.size]? = some (.cells #[.int .i64 0, .int .i64 0, .int .i64 0, .int .i64 0, .int .i64 0] 116 (0, 0))) := heap_keep (grownBy_set _ _ _ _) HRES2'.out (by simp)
  clear st hu HA HRES2'
  go_wp2_with fail
  rw [rounds_succ]
  clear c1 f1
  go_wp2_with fail
  (with_reducible refine (take_num ST2.out).mono ?_)
  rintro e w3 ⟨rfl, st, hu⟩
  have HA := Lib.hid (keep_own hu HARR2.out (by omega)); have HRES3' := Lib.hid (keep_own hu HRES2.out hlt)
  have c2 : w3.cell? ⟨w.heap.size + 1, 2, none⟩ = some (.int .i64 0) := by rw [cell_of HA.out]; rfl
  have f2 : w3.frozen? ⟨w.heap.size + 1, 2, none⟩ = false := frozen_of HA.out 2
  have ST3 := Lib.hid (st.set (w.heap.size + 1) 2 (.int .i64 (takeNum (takeNum (takeNum r).2).2).1) (Nat.le_succ _))
  have HARR3 : Hid ((w3.setCell ⟨w.heap.size + 1, 2, none⟩ (.int .i64 (takeNum (takeNum (takeNum r).2).2).1)).heap[w.heap.size + 1]? = some (.cells #[.int .i64 (takeNum r).1, .int .i64 (takeNum (takeNum r).2).1, .int .i64 (takeNum (takeNum (takeNum r).2).2).1, .int .i64 0, .int .i64 0] 200 (0, 0))) := heap_set HA.out 2 _
  have HRES3 : Hid ((w3.setCell ⟨w.heap.size + 1, 2, none⟩ (.int .i64 (takeNum (takeNum (takeNum r).2).2).1)).heap[w.heap.size]? = some (.cells #[.int .i64 0, .int .i64 0, .int .i64 0, .int .i64 0, .int .i64 0] 116 (0, 0))) := heap_keep (grownBy_set _ _ _ _) HRES3'.out (by simp)
  clear st hu HA HRES3'
  go_wp2_with fail
  rw [rounds_succ]
  clear c2 f2
  go_wp2_with fail
  (with_reducible refine (take_num ST3.out).mono ?_)
  rintro e w4 ⟨rfl, st, hu⟩
  have HA := Lib.hid (keep_own hu HARR3.out (by omega)); have HRES4' := Lib.hid (keep_own hu HRES3.out hlt)
  have c3 : w4.cell? ⟨w.heap.size + 1, 3, none⟩ = some (.int .i64 0) := by rw [cell_of HA.out]; rfl
  have f3 : w4.frozen? ⟨w.heap.size + 1, 3, none⟩ = false := frozen_of HA.out 3
  have ST4 := Lib.hid (st.set (w.heap.size + 1) 3 (.int .i64 (takeNum (takeNum (takeNum (takeNum r).2).2).2).1) (Nat.le_succ _))
  have HARR4 : Hid ((w4.setCell ⟨w.heap.size + 1, 3, none⟩ (.int .i64 (takeNum (takeNum (takeNum (takeNum r).2).2).2).1)).heap[w.heap.size + 1]? = some (.cells #[.int .i64 (takeNum r).1, .int .i64 (takeNum (takeNum r).2).1, .int .i64 (takeNum (takeNum (takeNum r).2).2).1, .int .i64 (takeNum (takeNum (takeNum (takeNum r).2).2).2).1, .int .i64 0] 200 (0, 0))) := heap_set HA.out 3 _
  have HRES4 : Hid ((w4.setCell ⟨w.heap.size + 1, 3, none⟩ (.int .i64 (takeNum (takeNum (takeNum (takeNum r).2).2).2).1)).heap[w.heap.size]? = some (.cells #[.int .i64 0, .int .i64 0, .int .i64 0, .int .i64 0, .int .i64 0] 116 (0, 0))) := heap_keep (grownBy_set _ _ _ _) HRES4'.out (by simp)
  clear st hu HA HRES4'
  go_wp2_with fail
  rw [rounds_succ]
  clear c3 f3
  go_wp2_with fail
  (with_reducible refine (take_num ST4.out).mono ?_)
  rintro e w5 ⟨rfl, st, hu⟩
  have HA := Lib.hid (keep_own hu HARR4.out (by omega)); have HRES5' := Lib.hid (keep_own hu HRES4.out hlt)
  have c4 : w5.cell? ⟨w.heap.size + 1, 4, none⟩ = some (.int .i64 0) := by rw [cell_of HA.out]; rfl
  have f4 : w5.frozen? ⟨w.heap.size + 1, 4, none⟩ = false := frozen_of HA.out 4
  have ST5 := Lib.hid (st.set (w.heap.size + 1) 4 (.int .i64 (takeNum (takeNum (takeNum (takeNum (takeNum r).2).2).2).2).1) (Nat.le_succ _))
  have HARR5 : Hid ((w5.setCell ⟨w.heap.size + 1, 4, none⟩ (.int .i64 (takeNum (takeNum (takeNum (takeNum (takeNum r).2).2).2).2).1)).heap[w.heap.size + 1]? = some (.cells #[.int .i64 (takeNum r).1, .int .i64 (takeNum (takeNum r).2).1, .int .i64 (takeNum (takeNum (takeNum r).2).2).1, .int .i64 (takeNum (takeNum (takeNum (takeNum r).2).2).2).1, .int .i64 (takeNum (takeNum (takeNum (takeNum (takeNum r).2).2).2).2).1] 200 (0, 0))) := heap_set HA.out 4 _
  have HRES5 : Hid ((w5.setCell ⟨w.heap.size + 1, 4, none⟩ (.int .i64 (takeNum (takeNum (takeNum (takeNum (takeNum r).2).2).2).2).1)).heap[w.heap.size]? = some (.cells #[.int .i64 0, .int .i64 0, .int .i64 0, .int .i64 0, .int .i64 0] 116 (0, 0))) := heap_keep (grownBy_set _ _ _ _) HRES5'.out (by simp)
  clear st hu HA HRES5'
  go_wp2_with fail
  rw [rounds_succ]
  clear c4 f4
  have a0 : (w5.setCell ⟨w.heap.size + 1, 4, none⟩ (.int .i64 (takeNum (takeNum (takeNum (takeNum (takeNum r).2).2).2).2).1)).cell? ⟨w.heap.size + 1, 0, none⟩ = some (.int .i64 (takeNum r).1) := by rw [cell_of HARR5.out]; rfl
  have r0 : (w5.setCell ⟨w.heap.size + 1, 4, none⟩ (.int .i64 (takeNum (takeNum (takeNum (takeNum (takeNum r).2).2).2).2).1)).cell? ⟨w.heap.size, 0, none⟩ = some (.int .i64 0) := by rw [cell_of HRES5.out]; rfl
  have f0 : (w5.setCell ⟨w.heap.size + 1, 4, none⟩ (.int .i64 (takeNum (takeNum (takeNum (takeNum (takeNum r).2).2).2).2).1)).frozen? ⟨w.heap.size, 0, none⟩ = false := frozen_of HRES5.out 0
  have a1 : (w5.setCell ⟨w.heap.size + 1, 4, none⟩ (.int .i64 (takeNum (takeNum (takeNum (takeNum (takeNum r).2).2).2).2).1)).cell? ⟨w.heap.size + 1, 1, none⟩ = some (.int .i64 (takeNum (takeNum r).2).1) := by rw [cell_of HARR5.out]; rfl
  have r1 : (w5.setCell ⟨w.heap.size + 1, 4, none⟩ (.int .i64 (takeNum (takeNum (takeNum (takeNum (takeNum r).2).2).2).2).1)).cell? ⟨w.heap.size, 1, none⟩ = some (.int .i64 0) := by rw [cell_of HRES5.out]; rfl
  have f1 : (w5.setCell ⟨w.heap.size + 1, 4, none⟩ (.int .i64 (takeNum (takeNum (takeNum (takeNum (takeNum r).2).2).2).2).1)).frozen? ⟨w.heap.size, 1, none⟩ = false := frozen_of HRES5.out 1
  have a2 : (w5.setCell ⟨w.heap.size + 1, 4, none⟩ (.int .i64 (takeNum (takeNum (takeNum (takeNum (takeNum r).2).2).2).2).1)).cell? ⟨w.heap.size + 1, 2, none⟩ = some (.int .i64 (takeNum (takeNum (takeNum r).2).2).1) := by rw [cell_of HARR5.out]; rfl
  have r2 : (w5.setCell ⟨w.heap.size + 1, 4, none⟩ (.int .i64 (takeNum (takeNum (takeNum (takeNum (takeNum r).2).2).2).2).1)).cell? ⟨w.heap.size, 2, none⟩ = some (.int .i64 0) := by rw [cell_of HRES5.out]; rfl
  have f2 : (w5.setCell ⟨w.heap.size + 1, 4, none⟩ (.int .i64 (takeNum (takeNum (takeNum (takeNum (takeNum r).2).2).2).2).1)).frozen? ⟨w.heap.size, 2, none⟩ = false := frozen_of HRES5.out 2
  have a3 : (w5.setCell ⟨w.heap.size + 1, 4, none⟩ (.int .i64 (takeNum (takeNum (takeNum (takeNum (takeNum r).2).2).2).2).1)).cell? ⟨w.heap.size + 1, 3, none⟩ = some (.int .i64 (takeNum (takeNum (takeNum (takeNum r).2).2).2).1) := by rw [cell_of HARR5.out]; rfl
  have r3 : (w5.setCell ⟨w.heap.size + 1, 4, none⟩ (.int .i64 (takeNum (takeNum (takeNum (takeNum (takeNum r).2).2).2).2).1)).cell? ⟨w.heap.size, 3, none⟩ = some (.int .i64 0) := by rw [cell_of HRES5.out]; rfl
  have f3 : (w5.setCell ⟨w.heap.size + 1, 4, none⟩ (.int .i64 (takeNum (takeNum (takeNum (takeNum (takeNum r).2).2).2).2).1)).frozen? ⟨w.heap.size, 3, none⟩ = false := frozen_of HRES5.out 3
  have a4 : (w5.setCell ⟨w.heap.size + 1, 4, none⟩ (.int .i64 (takeNum (takeNum (takeNum (takeNum (takeNum r).2).2).2).2).1)).cell? ⟨w.heap.size + 1, 4, none⟩ = some (.int .i64 (takeNum (takeNum (takeNum (takeNum (takeNum r).2).2).2).2).1) := by rw [cell_of HARR5.out]; rfl
  have r4 : (w5.setCell ⟨w.heap.size + 1, 4, none⟩ (.int .i64 (takeNum (takeNum (takeNum (takeNum (takeNum r).2).2).2).2).1)).cell? ⟨w.heap.size, 4, none⟩ = some (.int .i64 0) := by rw [cell_of HRES5.out]; rfl
  have f4 : (w5.setCell ⟨w.heap.size + 1, 4, none⟩ (.int .i64 (takeNum (takeNum (takeNum (takeNum (takeNum r).2).2).2).2).1)).frozen? ⟨w.heap.size, 4, none⟩ = false := frozen_of HRES5.out 4
  go_wp2_with fail
  refine bodyPost_ret (v := .agg #[.int .i64 (takeNum r).1, .int .i64 (takeNum (takeNum r).2).1, .int .i64 (takeNum (takeNum (takeNum r).2).2).1, .int .i64 (takeNum (takeNum (takeNum (takeNum r).2).2).2).1, .int .i64 (takeNum (takeNum (takeNum (takeNum (takeNum r).2).2).2).2).1]) ?_ rfl ?_
  · simp [results, Tryz.results44, go_sem, r0, r1, r2, r3, r4]
  have hset : Upd (fun k => k = w.heap.size) (w5.setCell ⟨w.heap.size + 1, 4, none⟩ (.int .i64 (takeNum (takeNum (takeNum (takeNum (takeNum r).2).2).2).2).1)) ((((((w5.setCell ⟨w.heap.size + 1, 4, none⟩ (.int .i64 (takeNum (takeNum (takeNum (takeNum (takeNum r).2).2).2).2).1)).setCell ⟨w.heap.size, 0, none⟩ (.int .i64 (takeNum r).1)).setCell ⟨w.heap.size, 1, none⟩ (.int .i64 (takeNum (takeNum r).2).1)).setCell ⟨w.heap.size, 2, none⟩ (.int .i64 (takeNum (takeNum (takeNum r).2).2).1)).setCell ⟨w.heap.size, 3, none⟩ (.int .i64 (takeNum (takeNum (takeNum (takeNum r).2).2).2).1)).setCell ⟨w.heap.size, 4, none⟩ (.int .i64 (takeNum (takeNum (takeNum (takeNum (takeNum r).2).2).2).2).1)) := by
    refine Upd.trans (Upd.trans (Upd.trans (Upd.trans (Upd.set _ _ _ _) (Upd.set _ _ _ _) (fun k g => .inl g)) (Upd.set _ _ _ _) (fun k g => .inl g)) (Upd.set _ _ _ _) (fun k g => .inl g)) (Upd.set _ _ _ _) (fun k g => .inl g)
  exact ⟨⟨_, rfl, rfl⟩, ST5.out.upd' hset fun k g => by rw [g]; exact Nat.le_refl _⟩
end Go.Proofs.YtllkjfadeaoicaaGreat

set_option linter.unusedVariables false
set_option linter.unusedSimpArgs false
namespace Go.Proofs.YtllkjfadeaoicaaGreat
open Go.RowKit
theorem info_Row : (Tryz.prog.info? 116).map (fun i => (i.zero, i.size, i.bytes)) = some (some (.agg #[.int .i64 0, .int .i64 0, .int .i64 0, .int .i64 0, .int .i64 0]), 5, 40) := by kernel_rfl
set_option maxHeartbeats 1600000 in
set_option maxRecDepth 100000 in
theorem takes_Row (rb : Nat) (r : Rdr) (w : World) (h : RdrAt w rb r) :
    Calls Tryz.prog 43 #[.pointer (some ⟨rb, 0, none⟩), .func (.func 44) #[] #[]] w (TookL w rb (fun _ _ => elRow) 5 (takeList takeRow r)) := by
  have hlt := h.lt
  have ST0 := Lib.hid (InTake.start h)
  clear h
  go_enter Tryz.func43, Tryz.ntmps43
  go_wp2_with fail
  refine (rdr_Int rb r 0 65535 w ST0.out.rdr).mono ?_
  rintro e w1 ⟨rfl, p1, p2⟩
  have hn0 := takeInt_range r
  have HN := Lib.hid (show takeList takeRow r = takeN takeRow (takeInt 0 65535 r).1.toNat (takeInt 0 65535 r).2 from rfl)
  have ST1 := Lib.hid (ST0.out.step p1 (upd_one p2)); clear p1 p2
  generalize (takeInt 0 65535 r).1 = nn at *
  generalize (takeInt 0 65535 r).2 = r1 at *
  obtain ⟨n0, rfl⟩ := Int.eq_ofNat_of_zero_le hn0.1
  rw [Int.toNat_natCast] at HN
  have LP0 := Lib.hid (InLoop.start (el := (fun _ _ => elRow)) (one := takeRow) (E := 116) (sz := 5) ST1.out (show n0 ≤ 65535 by omega))
  clear hn0
  go_wp2_with fail
  go_loopw [5, 6] (fun out i wr => ∃ (m : Nat) (xs : List Row) (css : List (List Value)) (r2 : Rdr), i = .int .i64 m ∧ InLoop w wr rb takeRow (fun _ _ => elRow) 116 5 n0 r1 out m xs css r2) (fun _ i _ => (intOf i).toNat)
  case atStart => exact ⟨n0, [], [], r1, rfl, LP0.out⟩
  case round =>
    obtain ⟨m, xs, css, r2, rfl, lp⟩ := hrel
    have hfew := lp.few
    have LP := Lib.hid lp; clear lp
    have HF := Lib.hid (rdr_Fail rb r2 wr LP.out.tk.rdr)
    by_cases hm : 0 < m
    · by_cases hb : r2.bad = true
      · rw [hb] at HF
        have HB := Lib.hid hb; clear hb
        go_wp2_with (go_at_call 100; refine HF.out.mono ?_; rintro e w' ⟨rfl, rfl⟩)
        go_ret
        exact LP.out.done (keep_flat elRow) (.inr HB.out) HN.out
      · have hb : r2.bad = false := by simpa using hb
        rw [hb] at HF
        have HB := Lib.hid hb; clear hb
        obtain ⟨m, rfl⟩ : ∃ k, m = k + 1 := ⟨m - 1, by omega⟩
        have HT := Lib.hid (take_Row rb r2 wr LP.out.tk.rdr)
        go_wp2_with (first
          | (go_at_call 100; refine HF.out.mono ?_; rintro e w' ⟨rfl, rfl⟩)
          | (go_at_call 44; refine HT.out.mono ?_; rintro e w2 ⟨⟨cs, rfl, hel⟩, tk⟩; have hel0 := hel; obtain rfl := hel;  have HEL := Lib.hid hel0; clear hel0; have OWN := Lib.hid (own_keep tk.upd LP.out.own (fun k hk e => by have := LP.out.fresh k hk; omega)); have TK := Lib.hid tk; clear tk)
          | (at_builtin; refine app_one rfl _ _ 29 116 (.agg #[.int .i64 0, .int .i64 0, .int .i64 0, .int .i64 0, .int .i64 0]) 5 40 rfl Tryz.underlying29 info_Row rfl (by decide) (by decide) u5 xs.length css.flatten [.int .i64 (takeRow r2).1.tx, .int .i64 (takeRow r2).1.attempt, .int .i64 (takeRow r2).1.stamp, .int .i64 (takeRow r2).1.state, .int .i64 (takeRow r2).1.heard] rfl rfl rfl rfl OWN.out (by omega) ?_; intro v1 w3 hown1 hg1; have HO1 := Lib.hid hown1; have HG1 := Lib.hid hg1; clear hown1 hg1))
        go_roundw
        case rel => exact ⟨m, _, _, _, by go_num, LP.out.next (keep_flat elRow) HB.out HEL.out rfl TK.out HO1.out HG1.out⟩
        case measure => (simp [intOf]; try omega)
    · obtain rfl : m = 0 := by omega
      go_wp2_with fail
      go_ret
      exact LP.out.done (keep_flat elRow) (.inl rfl) HN.out


end Go.Proofs.YtllkjfadeaoicaaGreat

set_option linter.unusedVariables false
set_option linter.unusedSimpArgs false
namespace Go.Proofs.YtllkjfadeaoicaaGreat
open Go.RowKit
theorem info_Version : (Tryz.prog.info? 194).map (fun i => (i.zero, i.size, i.bytes)) = some (some (.agg #[.int .i64 0, .string { data := #[] }, .bool false]), 3, 32) := by kernel_rfl
set_option maxHeartbeats 1600000 in
set_option maxRecDepth 100000 in
theorem takes_Version (rb : Nat) (r : Rdr) (w : World) (h : RdrAt w rb r) :
    Calls Tryz.prog 102 #[.pointer (some ⟨rb, 0, none⟩), .func (.func 103) #[] #[]] w (TookL w rb (fun _ _ => elVersion) 3 (takeList takeVersion r)) := by
  have hlt := h.lt
  have ST0 := Lib.hid (InTake.start h)
  clear h
  go_enter Tryz.func102, Tryz.ntmps102
  go_wp2_with fail
  refine (rdr_Int rb r 0 65535 w ST0.out.rdr).mono ?_
  rintro e w1 ⟨rfl, p1, p2⟩
  have hn0 := takeInt_range r
  have HN := Lib.hid (show takeList takeVersion r = takeN takeVersion (takeInt 0 65535 r).1.toNat (takeInt 0 65535 r).2 from rfl)
  have ST1 := Lib.hid (ST0.out.step p1 (upd_one p2)); clear p1 p2
  generalize (takeInt 0 65535 r).1 = nn at *
  generalize (takeInt 0 65535 r).2 = r1 at *
  obtain ⟨n0, rfl⟩ := Int.eq_ofNat_of_zero_le hn0.1
  rw [Int.toNat_natCast] at HN
  have LP0 := Lib.hid (InLoop.start (el := (fun _ _ => elVersion)) (one := takeVersion) (E := 194) (sz := 3) ST1.out (show n0 ≤ 65535 by omega))
  clear hn0
  go_wp2_with fail
  go_loopw [5, 6] (fun out i wr => ∃ (m : Nat) (xs : List Version) (css : List (List Value)) (r2 : Rdr), i = .int .i64 m ∧ InLoop w wr rb takeVersion (fun _ _ => elVersion) 194 3 n0 r1 out m xs css r2) (fun _ i _ => (intOf i).toNat)
  case atStart => exact ⟨n0, [], [], r1, rfl, LP0.out⟩
  case round =>
    obtain ⟨m, xs, css, r2, rfl, lp⟩ := hrel
    have hfew := lp.few
    have LP := Lib.hid lp; clear lp
    have HF := Lib.hid (rdr_Fail rb r2 wr LP.out.tk.rdr)
    by_cases hm : 0 < m
    · by_cases hb : r2.bad = true
      · rw [hb] at HF
        have HB := Lib.hid hb; clear hb
        go_wp2_with (go_at_call 100; refine HF.out.mono ?_; rintro e w' ⟨rfl, rfl⟩)
        go_ret
        exact LP.out.done (keep_flat elVersion) (.inr HB.out) HN.out
      · have hb : r2.bad = false := by simpa using hb
        rw [hb] at HF
        have HB := Lib.hid hb; clear hb
        obtain ⟨m, rfl⟩ : ∃ k, m = k + 1 := ⟨m - 1, by omega⟩
        have HT := Lib.hid (take_Version rb r2 wr LP.out.tk.rdr)
        go_wp2_with (first
          | (go_at_call 100; refine HF.out.mono ?_; rintro e w' ⟨rfl, rfl⟩)
          | (go_at_call 103; refine HT.out.mono ?_; rintro e w2 ⟨⟨cs, rfl, hel⟩, tk⟩; have hel0 := hel; obtain ⟨rfl, _⟩ := hel; simp only [str] at hel0 ⊢; have HEL := Lib.hid hel0; clear hel0; have OWN := Lib.hid (own_keep tk.upd LP.out.own (fun k hk e => by have := LP.out.fresh k hk; omega)); have TK := Lib.hid tk; clear tk)
          | (at_builtin; refine app_one rfl _ _ 105 194 (.agg #[.int .i64 0, .string { data := #[] }, .bool false]) 3 32 rfl Tryz.underlying105 info_Version rfl (by decide) (by decide) u5 xs.length css.flatten [.int .i64 (takeVersion r2).1.at_, .string ⟨(takeVersion r2).1.value.toArray⟩, .bool (takeVersion r2).1.has] rfl rfl rfl rfl OWN.out (by omega) ?_; intro v1 w3 hown1 hg1; have HO1 := Lib.hid hown1; have HG1 := Lib.hid hg1; clear hown1 hg1))
        go_roundw
        case rel => exact ⟨m, _, _, _, by go_num, LP.out.next (keep_flat elVersion) HB.out HEL.out rfl TK.out HO1.out HG1.out⟩
        case measure => (simp [intOf]; try omega)
    · obtain rfl : m = 0 := by omega
      go_wp2_with fail
      go_ret
      exact LP.out.done (keep_flat elVersion) (.inl rfl) HN.out


theorem info_Hold : (Tryz.prog.info? 198).map (fun i => (i.zero, i.size, i.bytes)) = some (some (.agg #[.int .i64 0, .int .i64 0]), 2, 16) := by kernel_rfl
set_option maxHeartbeats 1600000 in
set_option maxRecDepth 100000 in
theorem takes_Hold (rb : Nat) (r : Rdr) (w : World) (h : RdrAt w rb r) :
    Calls Tryz.prog 104 #[.pointer (some ⟨rb, 0, none⟩), .func (.func 105) #[] #[]] w (TookL w rb (fun _ _ => elHold) 2 (takeList takeHold r)) := by
  have hlt := h.lt
  have ST0 := Lib.hid (InTake.start h)
  clear h
  go_enter Tryz.func104, Tryz.ntmps104
  go_wp2_with fail
  refine (rdr_Int rb r 0 65535 w ST0.out.rdr).mono ?_
  rintro e w1 ⟨rfl, p1, p2⟩
  have hn0 := takeInt_range r
  have HN := Lib.hid (show takeList takeHold r = takeN takeHold (takeInt 0 65535 r).1.toNat (takeInt 0 65535 r).2 from rfl)
  have ST1 := Lib.hid (ST0.out.step p1 (upd_one p2)); clear p1 p2
  generalize (takeInt 0 65535 r).1 = nn at *
  generalize (takeInt 0 65535 r).2 = r1 at *
  obtain ⟨n0, rfl⟩ := Int.eq_ofNat_of_zero_le hn0.1
  rw [Int.toNat_natCast] at HN
  have LP0 := Lib.hid (InLoop.start (el := (fun _ _ => elHold)) (one := takeHold) (E := 198) (sz := 2) ST1.out (show n0 ≤ 65535 by omega))
  clear hn0
  go_wp2_with fail
  go_loopw [5, 6] (fun out i wr => ∃ (m : Nat) (xs : List Hold) (css : List (List Value)) (r2 : Rdr), i = .int .i64 m ∧ InLoop w wr rb takeHold (fun _ _ => elHold) 198 2 n0 r1 out m xs css r2) (fun _ i _ => (intOf i).toNat)
  case atStart => exact ⟨n0, [], [], r1, rfl, LP0.out⟩
  case round =>
    obtain ⟨m, xs, css, r2, rfl, lp⟩ := hrel
    have hfew := lp.few
    have LP := Lib.hid lp; clear lp
    have HF := Lib.hid (rdr_Fail rb r2 wr LP.out.tk.rdr)
    by_cases hm : 0 < m
    · by_cases hb : r2.bad = true
      · rw [hb] at HF
        have HB := Lib.hid hb; clear hb
        go_wp2_with (go_at_call 100; refine HF.out.mono ?_; rintro e w' ⟨rfl, rfl⟩)
        go_ret
        exact LP.out.done (keep_flat elHold) (.inr HB.out) HN.out
      · have hb : r2.bad = false := by simpa using hb
        rw [hb] at HF
        have HB := Lib.hid hb; clear hb
        obtain ⟨m, rfl⟩ : ∃ k, m = k + 1 := ⟨m - 1, by omega⟩
        have HT := Lib.hid (take_Hold rb r2 wr LP.out.tk.rdr)
        go_wp2_with (first
          | (go_at_call 100; refine HF.out.mono ?_; rintro e w' ⟨rfl, rfl⟩)
          | (go_at_call 105; refine HT.out.mono ?_; rintro e w2 ⟨⟨cs, rfl, hel⟩, tk⟩; have hel0 := hel; obtain rfl := hel;  have HEL := Lib.hid hel0; clear hel0; have OWN := Lib.hid (own_keep tk.upd LP.out.own (fun k hk e => by have := LP.out.fresh k hk; omega)); have TK := Lib.hid tk; clear tk)
          | (at_builtin; refine app_one rfl _ _ 110 198 (.agg #[.int .i64 0, .int .i64 0]) 2 16 rfl Tryz.underlying110 info_Hold rfl (by decide) (by decide) u5 xs.length css.flatten [.int .i64 (takeHold r2).1.owner, .int .i64 (takeHold r2).1.mode] rfl rfl rfl rfl OWN.out (by omega) ?_; intro v1 w3 hown1 hg1; have HO1 := Lib.hid hown1; have HG1 := Lib.hid hg1; clear hown1 hg1))
        go_roundw
        case rel => exact ⟨m, _, _, _, by go_num, LP.out.next (keep_flat elHold) HB.out HEL.out rfl TK.out HO1.out HG1.out⟩
        case measure => (simp [intOf]; try omega)
    · obtain rfl : m = 0 := by omega
      go_wp2_with fail
      go_ret
      exact LP.out.done (keep_flat elHold) (.inl rfl) HN.out


end Go.Proofs.YtllkjfadeaoicaaGreat

set_option linter.unusedVariables false
set_option linter.unusedSimpArgs false
namespace Go.Proofs.YtllkjfadeaoicaaGreat
open Go.RowKit
set_option maxHeartbeats 800000 in
set_option maxRecDepth 100000 in
theorem take_Cell (rb : Nat) (r : Rdr) (w : World) (h : RdrAt w rb r) :
    Calls Tryz.prog 40 #[.pointer (some ⟨rb, 0, none⟩)] w (TookX w rb elCell (takeCell r)) := by
  have ST0 := Lib.hid ((InTake.start h).alloc (.cells #[.string { data := #[] }, .slice none 0 0] 107))
  have HRES0 := Lib.hid (heap_alloc_new w (.cells #[.string { data := #[] }, .slice none 0 0] 107))
  have hlt := h.lt
  clear h
  unfold takeCell
  go_enter Tryz.func40, Tryz.ntmps40
  go_wp2_with fail
  (with_reducible refine (take_text ST0.out).mono ?_)
  rintro e w1 ⟨rfl, st, hu⟩
  have ST1 := Lib.hid st; have HRES1 := Lib.hid (keep_own hu HRES0.out hlt); have HU1 := Lib.hid hu.size; clear st hu
  go_wp2_with fail
  (with_reducible refine (takes_Version rb _ _ ST1.out.rdr).mono ?_)
  rintro e w2 ⟨⟨v2, rfl, hr⟩, tk⟩
  obtain ⟨A1, n1, c1, rfl⟩ := hr.form
  have HR := Lib.hid hr; have hu := tk.upd; clear hr
  have st := ST1.out.step tk.rdr hu
  clear tk
  have ST2 := Lib.hid st; have HRES2 := Lib.hid (keep_own hu HRES1.out hlt); have HU2 := Lib.hid hu.size; clear st hu
  have r0 : w2.cell? ⟨w.heap.size, 0, none⟩ = some (.string { data := #[] }) := by rw [cell_of HRES2.out]; rfl
  have f0 : w2.frozen? ⟨w.heap.size, 0, none⟩ = false := frozen_of HRES2.out 0
  have r1 : w2.cell? ⟨w.heap.size, 1, none⟩ = some (.slice none 0 0) := by rw [cell_of HRES2.out]; rfl
  have f1 : w2.frozen? ⟨w.heap.size, 1, none⟩ = false := frozen_of HRES2.out 1
  go_wp2_with fail
  refine bodyPost_ret (v := .agg #[.string ⟨(takeText 65535 r).1.toArray⟩, .slice A1 n1 c1]) ?_ rfl ?_
  · simp [results, Tryz.results40, go_sem, r0, r1]
  have hset : Upd (fun k => k = w.heap.size) w2 (((w2.setCell ⟨w.heap.size, 0, none⟩ (.string ⟨(takeText 65535 r).1.toArray⟩)).setCell ⟨w.heap.size, 1, none⟩ (.slice A1 n1 c1))) := by
    refine Upd.trans (Upd.set _ _ _ _) (Upd.set _ _ _ _) (fun k g => .inl g)
  refine ⟨⟨_, rfl, ?_⟩, ST2.out.upd' hset fun k g => by rw [g]; exact Nat.le_refl _⟩
  have hs1 := HU1.out; have hs2 := HU2.out; have hs3 := hset.size
  simp only [World.heap_size_alloc'] at hs1
  refine ⟨_, rfl, takeText_len _ _ (by omega), HR.out.imp (fun k hk => ⟨by omega, by omega⟩) (fun a ha => hset.cellEq ha.2 (fun g => by have := ha.1; omega)) (fun _ _ h => h)⟩

end Go.Proofs.YtllkjfadeaoicaaGreat

set_option linter.unusedVariables false
set_option linter.unusedSimpArgs false
namespace Go.Proofs.YtllkjfadeaoicaaGreat
open Go.RowKit
theorem info_Cell : (Tryz.prog.info? 107).map (fun i => (i.zero, i.size, i.bytes)) = some (some (.agg #[.string { data := #[] }, .slice none 0 0]), 2, 40) := by kernel_rfl
set_option maxHeartbeats 1600000 in
set_option maxRecDepth 100000 in
theorem takes_Cell (rb : Nat) (r : Rdr) (w : World) (h : RdrAt w rb r) :
    Calls Tryz.prog 39 #[.pointer (some ⟨rb, 0, none⟩), .func (.func 40) #[] #[]] w (TookL w rb elCell 2 (takeList takeCell r)) := by
  have hlt := h.lt
  have ST0 := Lib.hid (InTake.start h)
  clear h
  go_enter Tryz.func39, Tryz.ntmps39
  go_wp2_with fail
  refine (rdr_Int rb r 0 65535 w ST0.out.rdr).mono ?_
  rintro e w1 ⟨rfl, p1, p2⟩
  have hn0 := takeInt_range r
  have HN := Lib.hid (show takeList takeCell r = takeN takeCell (takeInt 0 65535 r).1.toNat (takeInt 0 65535 r).2 from rfl)
  have ST1 := Lib.hid (ST0.out.step p1 (upd_one p2)); clear p1 p2
  generalize (takeInt 0 65535 r).1 = nn at *
  generalize (takeInt 0 65535 r).2 = r1 at *
  obtain ⟨n0, rfl⟩ := Int.eq_ofNat_of_zero_le hn0.1
  rw [Int.toNat_natCast] at HN
  have LP0 := Lib.hid (InLoop.start (el := elCell) (one := takeCell) (E := 107) (sz := 2) ST1.out (show n0 ≤ 65535 by omega))
  clear hn0
  go_wp2_with fail
  go_loopw [5, 6] (fun out i wr => ∃ (m : Nat) (xs : List Cell) (css : List (List Value)) (r2 : Rdr), i = .int .i64 m ∧ InLoop w wr rb takeCell elCell 107 2 n0 r1 out m xs css r2) (fun _ i _ => (intOf i).toNat)
  case atStart => exact ⟨n0, [], [], r1, rfl, LP0.out⟩
  case round =>
    obtain ⟨m, xs, css, r2, rfl, lp⟩ := hrel
    have hfew := lp.few
    have LP := Lib.hid lp; clear lp
    have HF := Lib.hid (rdr_Fail rb r2 wr LP.out.tk.rdr)
    by_cases hm : 0 < m
    · by_cases hb : r2.bad = true
      · rw [hb] at HF
        have HB := Lib.hid hb; clear hb
        go_wp2_with (go_at_call 100; refine HF.out.mono ?_; rintro e w' ⟨rfl, rfl⟩)
        go_ret
        exact LP.out.done keep_Cell (.inr HB.out) HN.out
      · have hb : r2.bad = false := by simpa using hb
        rw [hb] at HF
        have HB := Lib.hid hb; clear hb
        obtain ⟨m, rfl⟩ : ∃ k, m = k + 1 := ⟨m - 1, by omega⟩
        have HT := Lib.hid (take_Cell rb r2 wr LP.out.tk.rdr)
        go_wp2_with (first
          | (go_at_call 100; refine HF.out.mono ?_; rintro e w' ⟨rfl, rfl⟩)
          | (go_at_call 40; refine HT.out.mono ?_; rintro e w2 ⟨⟨cs, rfl, hel⟩, tk⟩; have hel0 := hel; obtain ⟨q1, rfl, _, hr1⟩ := hel; obtain ⟨A1, n1, c1, rfl⟩ := hr1.form; clear hr1; simp only [str] at hel0 ⊢; have HEL := Lib.hid hel0; clear hel0; have OWN := Lib.hid (own_keep tk.upd LP.out.own (fun k hk e => by have := LP.out.fresh k hk; omega)); have TK := Lib.hid tk; clear tk)
          | (at_builtin; refine app_one rfl _ _ 27 107 (.agg #[.string { data := #[] }, .slice none 0 0]) 2 40 rfl Tryz.underlying27 info_Cell rfl (by decide) (by decide) u5 xs.length css.flatten [.string ⟨(takeCell r2).1.key.toArray⟩, .slice A1 n1 c1] rfl rfl rfl rfl OWN.out (by omega) ?_; intro v1 w3 hown1 hg1; have HO1 := Lib.hid hown1; have HG1 := Lib.hid hg1; clear hown1 hg1))
        go_roundw
        case rel => exact ⟨m, _, _, _, by go_num, LP.out.next keep_Cell HB.out HEL.out rfl TK.out HO1.out HG1.out⟩
        case measure => (simp [intOf]; try omega)
    · obtain rfl : m = 0 := by omega
      go_wp2_with fail
      go_ret
      exact LP.out.done keep_Cell (.inl rfl) HN.out


end Go.Proofs.YtllkjfadeaoicaaGreat

set_option linter.unusedVariables false
set_option linter.unusedSimpArgs false
namespace Go.Proofs.YtllkjfadeaoicaaGreat
open Go.RowKit

set_option maxHeartbeats 1600000 in
set_option maxRecDepth 100000 in
theorem take_Line (rb : Nat) (r : Rdr) (w : World) (h : RdrAt w rb r) :
    Calls Tryz.prog 42 #[.pointer (some ⟨rb, 0, none⟩)] w (TookX w rb elLine (takeLine r)) := by
  have ST0 := Lib.hid ((InTake.start h).alloc (.cells #[.string { data := #[] }, .slice none 0 0, .slice none 0 0] 112))
  have HRES0 := Lib.hid (heap_alloc_new w (.cells #[.string { data := #[] }, .slice none 0 0, .slice none 0 0] 112))
  have hlt := h.lt
  clear h
  unfold takeLine
  go_enter Tryz.func42, Tryz.ntmps42
  go_wp2_with fail
  (with_reducible refine (take_text ST0.out).mono ?_)
  rintro e w1 ⟨rfl, st, hu⟩
  have hsz1 := hu.size
  have HRES1' := Lib.hid (keep_own hu HRES0.out hlt)
  simp only [World.heap_size_alloc'] at hsz1
  have ST1 := Lib.hid (st.alloc (.cells #[.string ⟨(takeText 65535 r).1.toArray⟩, .slice none 0 0, .slice none 0 0] 112))
  have HRES1 : Hid ((w1.alloc (.cells #[.string ⟨(takeText 65535 r).1.toArray⟩, .slice none 0 0, .slice none 0 0] 112)).heap[w.heap.size]? = some (.cells #[.string { data := #[] }, .slice none 0 0, .slice none 0 0] 112 (0, 0))) := heap_keep (World.grownBy_alloc _ _ none) HRES1'.out (by simp)
  have HLOC1 : Hid ((w1.alloc (.cells #[.string ⟨(takeText 65535 r).1.toArray⟩, .slice none 0 0, .slice none 0 0] 112)).heap[w1.heap.size]? = some (.cells #[.string ⟨(takeText 65535 r).1.toArray⟩, .slice none 0 0, .slice none 0 0] 112 (0, 0))) := heap_alloc_new _ _
  clear st hu
  go_wp2_with fail
  (with_reducible refine (takes_Hold rb _ _ ST1.out.rdr).mono ?_)
  rintro e w2 ⟨⟨v2, rfl, hr⟩, tk⟩
  obtain ⟨A1, n1, c1, rfl⟩ := hr.form
  have HR1 := Lib.hid hr; have hu := tk.upd; have hsz2 := hu.size; clear hr
  have st := ST1.out.step tk.rdr hu
  clear tk
  have HRES2' := Lib.hid (keep_own hu HRES1.out hlt)
  have HLOC2' := Lib.hid (keep_own hu HLOC1.out (by omega))
  have l1 : w2.cell? ⟨w1.heap.size, 1, none⟩ = some (.slice none 0 0) := by rw [cell_of HLOC2'.out]; rfl
  have g1 : w2.frozen? ⟨w1.heap.size, 1, none⟩ = false := frozen_of HLOC2'.out 1
  have ST2 := Lib.hid (st.set (w1.heap.size) 1 (.slice A1 n1 c1) (by omega))
  have HLOC2 : Hid ((w2.setCell ⟨w1.heap.size, 1, none⟩ (.slice A1 n1 c1)).heap[w1.heap.size]? = some (.cells #[.string ⟨(takeText 65535 r).1.toArray⟩, .slice A1 n1 c1, .slice none 0 0] 112 (0, 0))) := (heap_set HLOC2'.out 1 (.slice A1 n1 c1))
  have HRES2 : Hid ((w2.setCell ⟨w1.heap.size, 1, none⟩ (.slice A1 n1 c1)).heap[w.heap.size]? = some (.cells #[.string { data := #[] }, .slice none 0 0, .slice none 0 0] 112 (0, 0))) := (heap_keep (grownBy_set w2 (w1.heap.size) 1 (.slice A1 n1 c1)) HRES2'.out (by simp; omega))
  have HC1_2 : Hid (Upd (fun k => k = rb ∨ k = w1.heap.size ∨ k = w.heap.size) w2 (w2.setCell ⟨w1.heap.size, 1, none⟩ (.slice A1 n1 c1))) := ((Upd.refl (fun k => k = rb ∨ k = w1.heap.size ∨ k = w.heap.size) w2).trans (Upd.set w2 (w1.heap.size) 1 (.slice A1 n1 c1)) fun k g => .inl (.inr (.inl g)))
  clear st hu
  go_wp2_with fail
  clear l1 g1
  (with_reducible refine (takes_Hold rb _ _ ST2.out.rdr).mono ?_)
  rintro e w3 ⟨⟨v3, rfl, hr⟩, tk⟩
  obtain ⟨A2, n2, c2, rfl⟩ := hr.form
  have HR2 := Lib.hid hr; have hu := tk.upd; have hsz3 := hu.size; clear hr
  have st := ST2.out.step tk.rdr hu
  clear tk
  have HRES3' := Lib.hid (keep_own hu HRES2.out hlt)
  have HLOC3' := Lib.hid (keep_own hu HLOC2.out (by omega))
  have HC1_3' := Lib.hid (HC1_2.out.trans hu fun k g => .inl (.inl g))
  have l2 : w3.cell? ⟨w1.heap.size, 2, none⟩ = some (.slice none 0 0) := by rw [cell_of HLOC3'.out]; rfl
  have g2 : w3.frozen? ⟨w1.heap.size, 2, none⟩ = false := frozen_of HLOC3'.out 2
  have ST3 := Lib.hid (st.set (w1.heap.size) 2 (.slice A2 n2 c2) (by omega))
  have HLOC3 : Hid ((w3.setCell ⟨w1.heap.size, 2, none⟩ (.slice A2 n2 c2)).heap[w1.heap.size]? = some (.cells #[.string ⟨(takeText 65535 r).1.toArray⟩, .slice A1 n1 c1, .slice A2 n2 c2] 112 (0, 0))) := (heap_set HLOC3'.out 2 (.slice A2 n2 c2))
  have HRES3 : Hid ((w3.setCell ⟨w1.heap.size, 2, none⟩ (.slice A2 n2 c2)).heap[w.heap.size]? = some (.cells #[.string { data := #[] }, .slice none 0 0, .slice none 0 0] 112 (0, 0))) := (heap_keep (grownBy_set w3 (w1.heap.size) 2 (.slice A2 n2 c2)) HRES3'.out (by simp; omega))
  have HC1_3 : Hid (Upd (fun k => k = rb ∨ k = w1.heap.size ∨ k = w.heap.size) w2 (w3.setCell ⟨w1.heap.size, 2, none⟩ (.slice A2 n2 c2))) := (HC1_3'.out.trans (Upd.set w3 (w1.heap.size) 2 (.slice A2 n2 c2)) fun k g => .inl (.inr (.inl g)))
  have HC2_3 : Hid (Upd (fun k => k = rb ∨ k = w1.heap.size ∨ k = w.heap.size) w3 (w3.setCell ⟨w1.heap.size, 2, none⟩ (.slice A2 n2 c2))) := ((Upd.refl (fun k => k = rb ∨ k = w1.heap.size ∨ k = w.heap.size) w3).trans (Upd.set w3 (w1.heap.size) 2 (.slice A2 n2 c2)) fun k g => .inl (.inr (.inl g)))
  clear st hu
  have a0 : (w3.setCell ⟨w1.heap.size, 2, none⟩ (.slice A2 n2 c2)).cell? ⟨w1.heap.size, 0, none⟩ = some (.string ⟨(takeText 65535 r).1.toArray⟩) := by rw [cell_of HLOC3.out]; rfl
  have r0 : (w3.setCell ⟨w1.heap.size, 2, none⟩ (.slice A2 n2 c2)).cell? ⟨w.heap.size, 0, none⟩ = some (.string { data := #[] }) := by rw [cell_of HRES3.out]; rfl
  have f0 : (w3.setCell ⟨w1.heap.size, 2, none⟩ (.slice A2 n2 c2)).frozen? ⟨w.heap.size, 0, none⟩ = false := frozen_of HRES3.out 0
  have a1 : (w3.setCell ⟨w1.heap.size, 2, none⟩ (.slice A2 n2 c2)).cell? ⟨w1.heap.size, 1, none⟩ = some (.slice A1 n1 c1) := by rw [cell_of HLOC3.out]; rfl
  have r1 : (w3.setCell ⟨w1.heap.size, 2, none⟩ (.slice A2 n2 c2)).cell? ⟨w.heap.size, 1, none⟩ = some (.slice none 0 0) := by rw [cell_of HRES3.out]; rfl
  have f1 : (w3.setCell ⟨w1.heap.size, 2, none⟩ (.slice A2 n2 c2)).frozen? ⟨w.heap.size, 1, none⟩ = false := frozen_of HRES3.out 1
  have a2 : (w3.setCell ⟨w1.heap.size, 2, none⟩ (.slice A2 n2 c2)).cell? ⟨w1.heap.size, 2, none⟩ = some (.slice A2 n2 c2) := by rw [cell_of HLOC3.out]; rfl
  have r2 : (w3.setCell ⟨w1.heap.size, 2, none⟩ (.slice A2 n2 c2)).cell? ⟨w.heap.size, 2, none⟩ = some (.slice none 0 0) := by rw [cell_of HRES3.out]; rfl
  have f2 : (w3.setCell ⟨w1.heap.size, 2, none⟩ (.slice A2 n2 c2)).frozen? ⟨w.heap.size, 2, none⟩ = false := frozen_of HRES3.out 2
  go_wp2_with fail
  refine bodyPost_ret (v := .agg #[.string ⟨(takeText 65535 r).1.toArray⟩, .slice A1 n1 c1, .slice A2 n2 c2]) ?_ rfl ?_
  · simp [results, Tryz.results42, go_sem, r0, r1, r2]
  have hset : Upd (fun k => k = w.heap.size) (w3.setCell ⟨w1.heap.size, 2, none⟩ (.slice A2 n2 c2)) ((((w3.setCell ⟨w1.heap.size, 2, none⟩ (.slice A2 n2 c2)).setCell ⟨w.heap.size, 0, none⟩ (.string ⟨(takeText 65535 r).1.toArray⟩)).setCell ⟨w.heap.size, 1, none⟩ (.slice A1 n1 c1)).setCell ⟨w.heap.size, 2, none⟩ (.slice A2 n2 c2)) := (Upd.trans (Upd.trans (Upd.set (w3.setCell ⟨w1.heap.size, 2, none⟩ (.slice A2 n2 c2)) w.heap.size 0 (.string ⟨(takeText 65535 r).1.toArray⟩)) (Upd.set _ w.heap.size 1 (.slice A1 n1 c1)) (fun k g => .inl g)) (Upd.set _ w.heap.size 2 (.slice A2 n2 c2)) (fun k g => .inl g))
  refine ⟨⟨_, rfl, ?_⟩, ST3.out.upd' hset fun k g => by rw [g]; exact Nat.le_refl _⟩
  have hfs := hset.size
  have hc1 := HC1_3.out.trans hset fun k g => .inl (.inr (.inr g))
  have hcs1 := hc1.size
  have hc2 := HC2_3.out.trans hset fun k g => .inl (.inr (.inr g))
  have hcs2 := hc2.size
  simp only [World.setCell_size', World.heap_size_alloc'] at *
  exact ⟨_, _, rfl, takeText_len _ _ (by omega), HR1.out.imp (fun k hk => ⟨by have := hk.1; omega, Nat.lt_of_lt_of_le hk.2 hcs1⟩) (fun a ha => hc1.cellEq ha.2 (fun g => by have := ha.1; omega)) (fun _ _ h => h), HR2.out.imp (fun k hk => ⟨by have := hk.1; omega, Nat.lt_of_lt_of_le hk.2 hcs2⟩) (fun a ha => hc2.cellEq ha.2 (fun g => by have := ha.1; omega)) (fun _ _ h => h)⟩
end Go.Proofs.YtllkjfadeaoicaaGreat

set_option linter.unusedVariables false
set_option linter.unusedSimpArgs false
namespace Go.Proofs.YtllkjfadeaoicaaGreat
open Go.RowKit
theorem info_Line : (Tryz.prog.info? 112).map (fun i => (i.zero, i.size, i.bytes)) = some (some (.agg #[.string { data := #[] }, .slice none 0 0, .slice none 0 0]), 3, 64) := by kernel_rfl
set_option maxHeartbeats 1600000 in
set_option maxRecDepth 100000 in
theorem takes_Line (rb : Nat) (r : Rdr) (w : World) (h : RdrAt w rb r) :
    Calls Tryz.prog 41 #[.pointer (some ⟨rb, 0, none⟩), .func (.func 42) #[] #[]] w (TookL w rb elLine 3 (takeList takeLine r)) := by
  have hlt := h.lt
  have ST0 := Lib.hid (InTake.start h)
  clear h
  go_enter Tryz.func41, Tryz.ntmps41
  go_wp2_with fail
  refine (rdr_Int rb r 0 65535 w ST0.out.rdr).mono ?_
  rintro e w1 ⟨rfl, p1, p2⟩
  have hn0 := takeInt_range r
  have HN := Lib.hid (show takeList takeLine r = takeN takeLine (takeInt 0 65535 r).1.toNat (takeInt 0 65535 r).2 from rfl)
  have ST1 := Lib.hid (ST0.out.step p1 (upd_one p2)); clear p1 p2
  generalize (takeInt 0 65535 r).1 = nn at *
  generalize (takeInt 0 65535 r).2 = r1 at *
  obtain ⟨n0, rfl⟩ := Int.eq_ofNat_of_zero_le hn0.1
  rw [Int.toNat_natCast] at HN
  have LP0 := Lib.hid (InLoop.start (el := elLine) (one := takeLine) (E := 112) (sz := 3) ST1.out (show n0 ≤ 65535 by omega))
  clear hn0
  go_wp2_with fail
  go_loopw [5, 6] (fun out i wr => ∃ (m : Nat) (xs : List Line) (css : List (List Value)) (r2 : Rdr), i = .int .i64 m ∧ InLoop w wr rb takeLine elLine 112 3 n0 r1 out m xs css r2) (fun _ i _ => (intOf i).toNat)
  case atStart => exact ⟨n0, [], [], r1, rfl, LP0.out⟩
  case round =>
    obtain ⟨m, xs, css, r2, rfl, lp⟩ := hrel
    have hfew := lp.few
    have LP := Lib.hid lp; clear lp
    have HF := Lib.hid (rdr_Fail rb r2 wr LP.out.tk.rdr)
    by_cases hm : 0 < m
    · by_cases hb : r2.bad = true
      · rw [hb] at HF
        have HB := Lib.hid hb; clear hb
        go_wp2_with (go_at_call 100; refine HF.out.mono ?_; rintro e w' ⟨rfl, rfl⟩)
        go_ret
        exact LP.out.done keep_Line (.inr HB.out) HN.out
      · have hb : r2.bad = false := by simpa using hb
        rw [hb] at HF
        have HB := Lib.hid hb; clear hb
        obtain ⟨m, rfl⟩ : ∃ k, m = k + 1 := ⟨m - 1, by omega⟩
        have HT := Lib.hid (take_Line rb r2 wr LP.out.tk.rdr)
        go_wp2_with (first
          | (go_at_call 100; refine HF.out.mono ?_; rintro e w' ⟨rfl, rfl⟩)
          | (go_at_call 42; refine HT.out.mono ?_; rintro e w2 ⟨⟨cs, rfl, hel⟩, tk⟩; have hel0 := hel; obtain ⟨q1, q2, rfl, _, hr1, hr2⟩ := hel; obtain ⟨A1, n1, c1, rfl⟩ := hr1.form; obtain ⟨A2, n2, c2, rfl⟩ := hr2.form; clear hr1 hr2; simp only [str] at hel0 ⊢; have HEL := Lib.hid hel0; clear hel0; have OWN := Lib.hid (own_keep tk.upd LP.out.own (fun k hk e => by have := LP.out.fresh k hk; omega)); have TK := Lib.hid tk; clear tk)
          | (at_builtin; refine app_one rfl _ _ 28 112 (.agg #[.string { data := #[] }, .slice none 0 0, .slice none 0 0]) 3 64 rfl Tryz.underlying28 info_Line rfl (by decide) (by decide) u5 xs.length css.flatten [.string ⟨(takeLine r2).1.key.toArray⟩, .slice A1 n1 c1, .slice A2 n2 c2] rfl rfl rfl rfl OWN.out (by omega) ?_; intro v1 w3 hown1 hg1; have HO1 := Lib.hid hown1; have HG1 := Lib.hid hg1; clear hown1 hg1))
        go_roundw
        case rel => exact ⟨m, _, _, _, by go_num, LP.out.next keep_Line HB.out HEL.out rfl TK.out HO1.out HG1.out⟩
        case measure => (simp [intOf]; try omega)
    · obtain rfl : m = 0 := by omega
      go_wp2_with fail
      go_ret
      exact LP.out.done keep_Line (.inl rfl) HN.out


end Go.Proofs.YtllkjfadeaoicaaGreat

set_option linter.unusedVariables false
set_option linter.unusedSimpArgs false
namespace Go.Proofs.YtllkjfadeaoicaaGreat
open Go.RowKit

set_option maxHeartbeats 1600000 in
set_option maxRecDepth 100000 in
theorem take_Cmd (rb : Nat) (r : Rdr) (w : World) (h : RdrAt w rb r) :
    Calls Tryz.prog 106 #[.pointer (some ⟨rb, 0, none⟩)] w (TookX w rb (fun _ _ => elCmd) (takeCmd r)) := by
  have ST0 := Lib.hid ((InTake.start h).alloc (.cells #[.int .i64 0, .int .i64 0, .int .i64 0, .int .i64 0, .int .i64 0, .string { data := #[] }, .string { data := #[] }, .int .i64 0, .bool false] 45))
  have HRES0 := Lib.hid (heap_alloc_new w (.cells #[.int .i64 0, .int .i64 0, .int .i64 0, .int .i64 0, .int .i64 0, .string { data := #[] }, .string { data := #[] }, .int .i64 0, .bool false] 45))
  have hlt := h.lt
  clear h
  unfold takeCmd
  go_enter Tryz.func106, Tryz.ntmps106
  go_wp2_with fail
  (with_reducible refine (take_Row rb _ _ ST0.out.rdr).mono ?_)
  rintro e w1 ⟨⟨cs, rfl, rfl⟩, tk⟩
  have hu := tk.upd; have hsz1 := hu.size
  have st := ST0.out.step tk.rdr hu
  clear tk
  have HRES1' := Lib.hid (keep_own hu HRES0.out hlt)
  simp only [World.heap_size_alloc'] at hsz1
  have ST1 := Lib.hid ((st.alloc (.cells #[.int .i64 (takeRow r).1.tx, .int .i64 (takeRow r).1.attempt, .int .i64 (takeRow r).1.stamp, .int .i64 (takeRow r).1.state, .int .i64 (takeRow r).1.heard] 116)).alloc (.cells #[.int .i64 (takeRow r).1.tx, .int .i64 (takeRow r).1.attempt, .int .i64 (takeRow r).1.stamp, .int .i64 (takeRow r).1.state, .int .i64 (takeRow r).1.heard, .string { data := #[] }, .string { data := #[] }, .int .i64 0, .bool false] 45))
  have HRES1 : Hid (((w1.alloc (.cells #[.int .i64 (takeRow r).1.tx, .int .i64 (takeRow r).1.attempt, .int .i64 (takeRow r).1.stamp, .int .i64 (takeRow r).1.state, .int .i64 (takeRow r).1.heard] 116)).alloc (.cells #[.int .i64 (takeRow r).1.tx, .int .i64 (takeRow r).1.attempt, .int .i64 (takeRow r).1.stamp, .int .i64 (takeRow r).1.state, .int .i64 (takeRow r).1.heard, .string { data := #[] }, .string { data := #[] }, .int .i64 0, .bool false] 45)).heap[w.heap.size]? = some (.cells #[.int .i64 0, .int .i64 0, .int .i64 0, .int .i64 0, .int .i64 0, .string { data := #[] }, .string { data := #[] }, .int .i64 0, .bool false] 45 (0, 0))) := heap_keep (World.grownBy_alloc _ _ none) (heap_keep (World.grownBy_alloc _ _ none) HRES1'.out (by simp)) (by simp)
  have HLOC1 : Hid (((w1.alloc (.cells #[.int .i64 (takeRow r).1.tx, .int .i64 (takeRow r).1.attempt, .int .i64 (takeRow r).1.stamp, .int .i64 (takeRow r).1.state, .int .i64 (takeRow r).1.heard] 116)).alloc (.cells #[.int .i64 (takeRow r).1.tx, .int .i64 (takeRow r).1.attempt, .int .i64 (takeRow r).1.stamp, .int .i64 (takeRow r).1.state, .int .i64 (takeRow r).1.heard, .string { data := #[] }, .string { data := #[] }, .int .i64 0, .bool false] 45)).heap[w1.heap.size + 1]? = some (.cells #[.int .i64 (takeRow r).1.tx, .int .i64 (takeRow r).1.attempt, .int .i64 (takeRow r).1.stamp, .int .i64 (takeRow r).1.state, .int .i64 (takeRow r).1.heard, .string { data := #[] }, .string { data := #[] }, .int .i64 0, .bool false] 45 (0, 0))) := by
    have := heap_alloc_new (w1.alloc (.cells #[.int .i64 (takeRow r).1.tx, .int .i64 (takeRow r).1.attempt, .int .i64 (takeRow r).1.stamp, .int .i64 (takeRow r).1.state, .int .i64 (takeRow r).1.heard] 116)) (.cells #[.int .i64 (takeRow r).1.tx, .int .i64 (takeRow r).1.attempt, .int .i64 (takeRow r).1.stamp, .int .i64 (takeRow r).1.state, .int .i64 (takeRow r).1.heard, .string { data := #[] }, .string { data := #[] }, .int .i64 0, .bool false] 45)
    rw [World.heap_size_alloc' w1] at this
    exact this
  clear st hu
  go_wp2_with fail
  (with_reducible refine (take_text ST1.out).mono ?_)
  rintro e w2 ⟨rfl, st, hu⟩
  have hsz2 := hu.size
  have HRES2' := Lib.hid (keep_own hu HRES1.out hlt)
  have HLOC2' := Lib.hid (keep_own hu HLOC1.out (by omega))
  have l5 : w2.cell? ⟨w1.heap.size + 1, 5, none⟩ = some (.string { data := #[] }) := by rw [cell_of HLOC2'.out]; rfl
  have g5 : w2.frozen? ⟨w1.heap.size + 1, 5, none⟩ = false := frozen_of HLOC2'.out 5
  have ST2 := Lib.hid (st.set (w1.heap.size + 1) 5 (.string ⟨(takeText 65535 (takeRow r).2).1.toArray⟩) (by omega))
  have HLOC2 : Hid ((w2.setCell ⟨w1.heap.size + 1, 5, none⟩ (.string ⟨(takeText 65535 (takeRow r).2).1.toArray⟩)).heap[w1.heap.size + 1]? = some (.cells #[.int .i64 (takeRow r).1.tx, .int .i64 (takeRow r).1.attempt, .int .i64 (takeRow r).1.stamp, .int .i64 (takeRow r).1.state, .int .i64 (takeRow r).1.heard, .string ⟨(takeText 65535 (takeRow r).2).1.toArray⟩, .string { data := #[] }, .int .i64 0, .bool false] 45 (0, 0))) := (heap_set HLOC2'.out 5 (.string ⟨(takeText 65535 (takeRow r).2).1.toArray⟩))
  have HRES2 : Hid ((w2.setCell ⟨w1.heap.size + 1, 5, none⟩ (.string ⟨(takeText 65535 (takeRow r).2).1.toArray⟩)).heap[w.heap.size]? = some (.cells #[.int .i64 0, .int .i64 0, .int .i64 0, .int .i64 0, .int .i64 0, .string { data := #[] }, .string { data := #[] }, .int .i64 0, .bool false] 45 (0, 0))) := (heap_keep (grownBy_set w2 (w1.heap.size + 1) 5 (.string ⟨(takeText 65535 (takeRow r).2).1.toArray⟩)) HRES2'.out (by simp; omega))
  clear st hu
  go_wp2_with fail
  clear l5 g5
  (with_reducible refine (take_text ST2.out).mono ?_)
  rintro e w3 ⟨rfl, st, hu⟩
  have hsz3 := hu.size
  have HRES3' := Lib.hid (keep_own hu HRES2.out hlt)
  have HLOC3' := Lib.hid (keep_own hu HLOC2.out (by omega))
  have l6 : w3.cell? ⟨w1.heap.size + 1, 6, none⟩ = some (.string { data := #[] }) := by rw [cell_of HLOC3'.out]; rfl
  have g6 : w3.frozen? ⟨w1.heap.size + 1, 6, none⟩ = false := frozen_of HLOC3'.out 6
  have ST3 := Lib.hid (st.set (w1.heap.size + 1) 6 (.string ⟨(takeText 65535 (takeText 65535 (takeRow r).2).2).1.toArray⟩) (by omega))
  have HLOC3 : Hid ((w3.setCell ⟨w1.heap.size + 1, 6, none⟩ (.string ⟨(takeText 65535 (takeText 65535 (takeRow r).2).2).1.toArray⟩)).heap[w1.heap.size + 1]? = some (.cells #[.int .i64 (takeRow r).1.tx, .int .i64 (takeRow r).1.attempt, .int .i64 (takeRow r).1.stamp, .int .i64 (takeRow r).1.state, .int .i64 (takeRow r).1.heard, .string ⟨(takeText 65535 (takeRow r).2).1.toArray⟩, .string ⟨(takeText 65535 (takeText 65535 (takeRow r).2).2).1.toArray⟩, .int .i64 0, .bool false] 45 (0, 0))) := (heap_set HLOC3'.out 6 (.string ⟨(takeText 65535 (takeText 65535 (takeRow r).2).2).1.toArray⟩))
  have HRES3 : Hid ((w3.setCell ⟨w1.heap.size + 1, 6, none⟩ (.string ⟨(takeText 65535 (takeText 65535 (takeRow r).2).2).1.toArray⟩)).heap[w.heap.size]? = some (.cells #[.int .i64 0, .int .i64 0, .int .i64 0, .int .i64 0, .int .i64 0, .string { data := #[] }, .string { data := #[] }, .int .i64 0, .bool false] 45 (0, 0))) := (heap_keep (grownBy_set w3 (w1.heap.size + 1) 6 (.string ⟨(takeText 65535 (takeText 65535 (takeRow r).2).2).1.toArray⟩)) HRES3'.out (by simp; omega))
  clear st hu
  go_wp2_with fail
  clear l6 g6
  (with_reducible refine (take_num ST3.out).mono ?_)
  rintro e w4 ⟨rfl, st, hu⟩
  have hsz4 := hu.size
  have HRES4' := Lib.hid (keep_own hu HRES3.out hlt)
  have HLOC4' := Lib.hid (keep_own hu HLOC3.out (by omega))
  have l7 : w4.cell? ⟨w1.heap.size + 1, 7, none⟩ = some (.int .i64 0) := by rw [cell_of HLOC4'.out]; rfl
  have g7 : w4.frozen? ⟨w1.heap.size + 1, 7, none⟩ = false := frozen_of HLOC4'.out 7
  have ST4 := Lib.hid (st.set (w1.heap.size + 1) 7 (.int .i64 (takeNum (takeText 65535 (takeText 65535 (takeRow r).2).2).2).1) (by omega))
  have HLOC4 : Hid ((w4.setCell ⟨w1.heap.size + 1, 7, none⟩ (.int .i64 (takeNum (takeText 65535 (takeText 65535 (takeRow r).2).2).2).1)).heap[w1.heap.size + 1]? = some (.cells #[.int .i64 (takeRow r).1.tx, .int .i64 (takeRow r).1.attempt, .int .i64 (takeRow r).1.stamp, .int .i64 (takeRow r).1.state, .int .i64 (takeRow r).1.heard, .string ⟨(takeText 65535 (takeRow r).2).1.toArray⟩, .string ⟨(takeText 65535 (takeText 65535 (takeRow r).2).2).1.toArray⟩, .int .i64 (takeNum (takeText 65535 (takeText 65535 (takeRow r).2).2).2).1, .bool false] 45 (0, 0))) := (heap_set HLOC4'.out 7 (.int .i64 (takeNum (takeText 65535 (takeText 65535 (takeRow r).2).2).2).1))
  have HRES4 : Hid ((w4.setCell ⟨w1.heap.size + 1, 7, none⟩ (.int .i64 (takeNum (takeText 65535 (takeText 65535 (takeRow r).2).2).2).1)).heap[w.heap.size]? = some (.cells #[.int .i64 0, .int .i64 0, .int .i64 0, .int .i64 0, .int .i64 0, .string { data := #[] }, .string { data := #[] }, .int .i64 0, .bool false] 45 (0, 0))) := (heap_keep (grownBy_set w4 (w1.heap.size + 1) 7 (.int .i64 (takeNum (takeText 65535 (takeText 65535 (takeRow r).2).2).2).1)) HRES4'.out (by simp; omega))
  clear st hu
  go_wp2_with fail
  clear l7 g7
  (with_reducible refine (take_bool ST4.out).mono ?_)
  rintro e w5 ⟨rfl, st, hu⟩
  have hsz5 := hu.size
  have HRES5' := Lib.hid (keep_own hu HRES4.out hlt)
  have HLOC5' := Lib.hid (keep_own hu HLOC4.out (by omega))
  have l8 : w5.cell? ⟨w1.heap.size + 1, 8, none⟩ = some (.bool false) := by rw [cell_of HLOC5'.out]; rfl
  have g8 : w5.frozen? ⟨w1.heap.size + 1, 8, none⟩ = false := frozen_of HLOC5'.out 8
  have ST5 := Lib.hid (st.set (w1.heap.size + 1) 8 (.bool (takeBool (takeNum (takeText 65535 (takeText 65535 (takeRow r).2).2).2).2).1) (by omega))
  have HLOC5 : Hid ((w5.setCell ⟨w1.heap.size + 1, 8, none⟩ (.bool (takeBool (takeNum (takeText 65535 (takeText 65535 (takeRow r).2).2).2).2).1)).heap[w1.heap.size + 1]? = some (.cells #[.int .i64 (takeRow r).1.tx, .int .i64 (takeRow r).1.attempt, .int .i64 (takeRow r).1.stamp, .int .i64 (takeRow r).1.state, .int .i64 (takeRow r).1.heard, .string ⟨(takeText 65535 (takeRow r).2).1.toArray⟩, .string ⟨(takeText 65535 (takeText 65535 (takeRow r).2).2).1.toArray⟩, .int .i64 (takeNum (takeText 65535 (takeText 65535 (takeRow r).2).2).2).1, .bool (takeBool (takeNum (takeText 65535 (takeText 65535 (takeRow r).2).2).2).2).1] 45 (0, 0))) := (heap_set HLOC5'.out 8 (.bool (takeBool (takeNum (takeText 65535 (takeText 65535 (takeRow r).2).2).2).2).1))
  have HRES5 : Hid ((w5.setCell ⟨w1.heap.size + 1, 8, none⟩ (.bool (takeBool (takeNum (takeText 65535 (takeText 65535 (takeRow r).2).2).2).2).1)).heap[w.heap.size]? = some (.cells #[.int .i64 0, .int .i64 0, .int .i64 0, .int .i64 0, .int .i64 0, .string { data := #[] }, .string { data := #[] }, .int .i64 0, .bool false] 45 (0, 0))) := (heap_keep (grownBy_set w5 (w1.heap.size + 1) 8 (.bool (takeBool (takeNum (takeText 65535 (takeText 65535 (takeRow r).2).2).2).2).1)) HRES5'.out (by simp; omega))
  clear st hu
  have a0 : (w5.setCell ⟨w1.heap.size + 1, 8, none⟩ (.bool (takeBool (takeNum (takeText 65535 (takeText 65535 (takeRow r).2).2).2).2).1)).cell? ⟨w1.heap.size + 1, 0, none⟩ = some (.int .i64 (takeRow r).1.tx) := by rw [cell_of HLOC5.out]; rfl
  have r0 : (w5.setCell ⟨w1.heap.size + 1, 8, none⟩ (.bool (takeBool (takeNum (takeText 65535 (takeText 65535 (takeRow r).2).2).2).2).1)).cell? ⟨w.heap.size, 0, none⟩ = some (.int .i64 0) := by rw [cell_of HRES5.out]; rfl
  have f0 : (w5.setCell ⟨w1.heap.size + 1, 8, none⟩ (.bool (takeBool (takeNum (takeText 65535 (takeText 65535 (takeRow r).2).2).2).2).1)).frozen? ⟨w.heap.size, 0, none⟩ = false := frozen_of HRES5.out 0
  have a1 : (w5.setCell ⟨w1.heap.size + 1, 8, none⟩ (.bool (takeBool (takeNum (takeText 65535 (takeText 65535 (takeRow r).2).2).2).2).1)).cell? ⟨w1.heap.size + 1, 1, none⟩ = some (.int .i64 (takeRow r).1.attempt) := by rw [cell_of HLOC5.out]; rfl
  have r1 : (w5.setCell ⟨w1.heap.size + 1, 8, none⟩ (.bool (takeBool (takeNum (takeText 65535 (takeText 65535 (takeRow r).2).2).2).2).1)).cell? ⟨w.heap.size, 1, none⟩ = some (.int .i64 0) := by rw [cell_of HRES5.out]; rfl
  have f1 : (w5.setCell ⟨w1.heap.size + 1, 8, none⟩ (.bool (takeBool (takeNum (takeText 65535 (takeText 65535 (takeRow r).2).2).2).2).1)).frozen? ⟨w.heap.size, 1, none⟩ = false := frozen_of HRES5.out 1
  have a2 : (w5.setCell ⟨w1.heap.size + 1, 8, none⟩ (.bool (takeBool (takeNum (takeText 65535 (takeText 65535 (takeRow r).2).2).2).2).1)).cell? ⟨w1.heap.size + 1, 2, none⟩ = some (.int .i64 (takeRow r).1.stamp) := by rw [cell_of HLOC5.out]; rfl
  have r2 : (w5.setCell ⟨w1.heap.size + 1, 8, none⟩ (.bool (takeBool (takeNum (takeText 65535 (takeText 65535 (takeRow r).2).2).2).2).1)).cell? ⟨w.heap.size, 2, none⟩ = some (.int .i64 0) := by rw [cell_of HRES5.out]; rfl
  have f2 : (w5.setCell ⟨w1.heap.size + 1, 8, none⟩ (.bool (takeBool (takeNum (takeText 65535 (takeText 65535 (takeRow r).2).2).2).2).1)).frozen? ⟨w.heap.size, 2, none⟩ = false := frozen_of HRES5.out 2
  have a3 : (w5.setCell ⟨w1.heap.size + 1, 8, none⟩ (.bool (takeBool (takeNum (takeText 65535 (takeText 65535 (takeRow r).2).2).2).2).1)).cell? ⟨w1.heap.size + 1, 3, none⟩ = some (.int .i64 (takeRow r).1.state) := by rw [cell_of HLOC5.out]; rfl
  have r3 : (w5.setCell ⟨w1.heap.size + 1, 8, none⟩ (.bool (takeBool (takeNum (takeText 65535 (takeText 65535 (takeRow r).2).2).2).2).1)).cell? ⟨w.heap.size, 3, none⟩ = some (.int .i64 0) := by rw [cell_of HRES5.out]; rfl
  have f3 : (w5.setCell ⟨w1.heap.size + 1, 8, none⟩ (.bool (takeBool (takeNum (takeText 65535 (takeText 65535 (takeRow r).2).2).2).2).1)).frozen? ⟨w.heap.size, 3, none⟩ = false := frozen_of HRES5.out 3
  have a4 : (w5.setCell ⟨w1.heap.size + 1, 8, none⟩ (.bool (takeBool (takeNum (takeText 65535 (takeText 65535 (takeRow r).2).2).2).2).1)).cell? ⟨w1.heap.size + 1, 4, none⟩ = some (.int .i64 (takeRow r).1.heard) := by rw [cell_of HLOC5.out]; rfl
  have r4 : (w5.setCell ⟨w1.heap.size + 1, 8, none⟩ (.bool (takeBool (takeNum (takeText 65535 (takeText 65535 (takeRow r).2).2).2).2).1)).cell? ⟨w.heap.size, 4, none⟩ = some (.int .i64 0) := by rw [cell_of HRES5.out]; rfl
  have f4 : (w5.setCell ⟨w1.heap.size + 1, 8, none⟩ (.bool (takeBool (takeNum (takeText 65535 (takeText 65535 (takeRow r).2).2).2).2).1)).frozen? ⟨w.heap.size, 4, none⟩ = false := frozen_of HRES5.out 4
  have a5 : (w5.setCell ⟨w1.heap.size + 1, 8, none⟩ (.bool (takeBool (takeNum (takeText 65535 (takeText 65535 (takeRow r).2).2).2).2).1)).cell? ⟨w1.heap.size + 1, 5, none⟩ = some (.string ⟨(takeText 65535 (takeRow r).2).1.toArray⟩) := by rw [cell_of HLOC5.out]; rfl
  have r5 : (w5.setCell ⟨w1.heap.size + 1, 8, none⟩ (.bool (takeBool (takeNum (takeText 65535 (takeText 65535 (takeRow r).2).2).2).2).1)).cell? ⟨w.heap.size, 5, none⟩ = some (.string { data := #[] }) := by rw [cell_of HRES5.out]; rfl
  have f5 : (w5.setCell ⟨w1.heap.size + 1, 8, none⟩ (.bool (takeBool (takeNum (takeText 65535 (takeText 65535 (takeRow r).2).2).2).2).1)).frozen? ⟨w.heap.size, 5, none⟩ = false := frozen_of HRES5.out 5
  have a6 : (w5.setCell ⟨w1.heap.size + 1, 8, none⟩ (.bool (takeBool (takeNum (takeText 65535 (takeText 65535 (takeRow r).2).2).2).2).1)).cell? ⟨w1.heap.size + 1, 6, none⟩ = some (.string ⟨(takeText 65535 (takeText 65535 (takeRow r).2).2).1.toArray⟩) := by rw [cell_of HLOC5.out]; rfl
  have r6 : (w5.setCell ⟨w1.heap.size + 1, 8, none⟩ (.bool (takeBool (takeNum (takeText 65535 (takeText 65535 (takeRow r).2).2).2).2).1)).cell? ⟨w.heap.size, 6, none⟩ = some (.string { data := #[] }) := by rw [cell_of HRES5.out]; rfl
  have f6 : (w5.setCell ⟨w1.heap.size + 1, 8, none⟩ (.bool (takeBool (takeNum (takeText 65535 (takeText 65535 (takeRow r).2).2).2).2).1)).frozen? ⟨w.heap.size, 6, none⟩ = false := frozen_of HRES5.out 6
  have a7 : (w5.setCell ⟨w1.heap.size + 1, 8, none⟩ (.bool (takeBool (takeNum (takeText 65535 (takeText 65535 (takeRow r).2).2).2).2).1)).cell? ⟨w1.heap.size + 1, 7, none⟩ = some (.int .i64 (takeNum (takeText 65535 (takeText 65535 (takeRow r).2).2).2).1) := by rw [cell_of HLOC5.out]; rfl
  have r7 : (w5.setCell ⟨w1.heap.size + 1, 8, none⟩ (.bool (takeBool (takeNum (takeText 65535 (takeText 65535 (takeRow r).2).2).2).2).1)).cell? ⟨w.heap.size, 7, none⟩ = some (.int .i64 0) := by rw [cell_of HRES5.out]; rfl
  have f7 : (w5.setCell ⟨w1.heap.size + 1, 8, none⟩ (.bool (takeBool (takeNum (takeText 65535 (takeText 65535 (takeRow r).2).2).2).2).1)).frozen? ⟨w.heap.size, 7, none⟩ = false := frozen_of HRES5.out 7
  have a8 : (w5.setCell ⟨w1.heap.size + 1, 8, none⟩ (.bool (takeBool (takeNum (takeText 65535 (takeText 65535 (takeRow r).2).2).2).2).1)).cell? ⟨w1.heap.size + 1, 8, none⟩ = some (.bool (takeBool (takeNum (takeText 65535 (takeText 65535 (takeRow r).2).2).2).2).1) := by rw [cell_of HLOC5.out]; rfl
  have r8 : (w5.setCell ⟨w1.heap.size + 1, 8, none⟩ (.bool (takeBool (takeNum (takeText 65535 (takeText 65535 (takeRow r).2).2).2).2).1)).cell? ⟨w.heap.size, 8, none⟩ = some (.bool false) := by rw [cell_of HRES5.out]; rfl
  have f8 : (w5.setCell ⟨w1.heap.size + 1, 8, none⟩ (.bool (takeBool (takeNum (takeText 65535 (takeText 65535 (takeRow r).2).2).2).2).1)).frozen? ⟨w.heap.size, 8, none⟩ = false := frozen_of HRES5.out 8
  go_wp2_with fail
  refine bodyPost_ret (v := .agg #[.int .i64 (takeRow r).1.tx, .int .i64 (takeRow r).1.attempt, .int .i64 (takeRow r).1.stamp, .int .i64 (takeRow r).1.state, .int .i64 (takeRow r).1.heard, .string ⟨(takeText 65535 (takeRow r).2).1.toArray⟩, .string ⟨(takeText 65535 (takeText 65535 (takeRow r).2).2).1.toArray⟩, .int .i64 (takeNum (takeText 65535 (takeText 65535 (takeRow r).2).2).2).1, .bool (takeBool (takeNum (takeText 65535 (takeText 65535 (takeRow r).2).2).2).2).1]) ?_ rfl ?_
  · simp [results, Tryz.results106, go_sem, r0, r1, r2, r3, r4, r5, r6, r7, r8]
  have hset : Upd (fun k => k = w.heap.size) (w5.setCell ⟨w1.heap.size + 1, 8, none⟩ (.bool (takeBool (takeNum (takeText 65535 (takeText 65535 (takeRow r).2).2).2).2).1)) ((((((((((w5.setCell ⟨w1.heap.size + 1, 8, none⟩ (.bool (takeBool (takeNum (takeText 65535 (takeText 65535 (takeRow r).2).2).2).2).1)).setCell ⟨w.heap.size, 0, none⟩ (.int .i64 (takeRow r).1.tx)).setCell ⟨w.heap.size, 1, none⟩ (.int .i64 (takeRow r).1.attempt)).setCell ⟨w.heap.size, 2, none⟩ (.int .i64 (takeRow r).1.stamp)).setCell ⟨w.heap.size, 3, none⟩ (.int .i64 (takeRow r).1.state)).setCell ⟨w.heap.size, 4, none⟩ (.int .i64 (takeRow r).1.heard)).setCell ⟨w.heap.size, 5, none⟩ (.string ⟨(takeText 65535 (takeRow r).2).1.toArray⟩)).setCell ⟨w.heap.size, 6, none⟩ (.string ⟨(takeText 65535 (takeText 65535 (takeRow r).2).2).1.toArray⟩)).setCell ⟨w.heap.size, 7, none⟩ (.int .i64 (takeNum (takeText 65535 (takeText 65535 (takeRow r).2).2).2).1)).setCell ⟨w.heap.size, 8, none⟩ (.bool (takeBool (takeNum (takeText 65535 (takeText 65535 (takeRow r).2).2).2).2).1)) := (Upd.trans (Upd.trans (Upd.trans (Upd.trans (Upd.trans (Upd.trans (Upd.trans (Upd.trans (Upd.set (w5.setCell ⟨w1.heap.size + 1, 8, none⟩ (.bool (takeBool (takeNum (takeText 65535 (takeText 65535 (takeRow r).2).2).2).2).1)) w.heap.size 0 (.int .i64 (takeRow r).1.tx)) (Upd.set _ w.heap.size 1 (.int .i64 (takeRow r).1.attempt)) (fun k g => .inl g)) (Upd.set _ w.heap.size 2 (.int .i64 (takeRow r).1.stamp)) (fun k g => .inl g)) (Upd.set _ w.heap.size 3 (.int .i64 (takeRow r).1.state)) (fun k g => .inl g)) (Upd.set _ w.heap.size 4 (.int .i64 (takeRow r).1.heard)) (fun k g => .inl g)) (Upd.set _ w.heap.size 5 (.string ⟨(takeText 65535 (takeRow r).2).1.toArray⟩)) (fun k g => .inl g)) (Upd.set _ w.heap.size 6 (.string ⟨(takeText 65535 (takeText 65535 (takeRow r).2).2).1.toArray⟩)) (fun k g => .inl g)) (Upd.set _ w.heap.size 7 (.int .i64 (takeNum (takeText 65535 (takeText 65535 (takeRow r).2).2).2).1)) (fun k g => .inl g)) (Upd.set _ w.heap.size 8 (.bool (takeBool (takeNum (takeText 65535 (takeText 65535 (takeRow r).2).2).2).2).1)) (fun k g => .inl g))
  refine ⟨⟨_, rfl, ?_⟩, ST5.out.upd' hset fun k g => by rw [g]; exact Nat.le_refl _⟩
  have hfs := hset.size
  exact ⟨rfl, takeText_len _ _ (by omega), takeText_len _ _ (by omega)⟩
end Go.Proofs.YtllkjfadeaoicaaGreat

set_option linter.unusedVariables false
set_option linter.unusedSimpArgs false
namespace Go.Proofs.YtllkjfadeaoicaaGreat
open Go.RowKit
theorem info_Write : (Tryz.prog.info? 204).map (fun i => (i.zero, i.size, i.bytes)) = some (some (.agg #[.string { data := #[] }, .string { data := #[] }, .bool false]), 3, 40) := by kernel_rfl
set_option maxHeartbeats 1600000 in
set_option maxRecDepth 100000 in
theorem takes_Write (rb : Nat) (r : Rdr) (w : World) (h : RdrAt w rb r) :
    Calls Tryz.prog 107 #[.pointer (some ⟨rb, 0, none⟩), .func (.func 108) #[] #[]] w (TookL w rb (fun _ _ => elWrite) 3 (takeList takeWrite r)) := by
  have hlt := h.lt
  have ST0 := Lib.hid (InTake.start h)
  clear h
  go_enter Tryz.func107, Tryz.ntmps107
  go_wp2_with fail
  refine (rdr_Int rb r 0 65535 w ST0.out.rdr).mono ?_
  rintro e w1 ⟨rfl, p1, p2⟩
  have hn0 := takeInt_range r
  have HN := Lib.hid (show takeList takeWrite r = takeN takeWrite (takeInt 0 65535 r).1.toNat (takeInt 0 65535 r).2 from rfl)
  have ST1 := Lib.hid (ST0.out.step p1 (upd_one p2)); clear p1 p2
  generalize (takeInt 0 65535 r).1 = nn at *
  generalize (takeInt 0 65535 r).2 = r1 at *
  obtain ⟨n0, rfl⟩ := Int.eq_ofNat_of_zero_le hn0.1
  rw [Int.toNat_natCast] at HN
  have LP0 := Lib.hid (InLoop.start (el := (fun _ _ => elWrite)) (one := takeWrite) (E := 204) (sz := 3) ST1.out (show n0 ≤ 65535 by omega))
  clear hn0
  go_wp2_with fail
  go_loopw [5, 6] (fun out i wr => ∃ (m : Nat) (xs : List Write) (css : List (List Value)) (r2 : Rdr), i = .int .i64 m ∧ InLoop w wr rb takeWrite (fun _ _ => elWrite) 204 3 n0 r1 out m xs css r2) (fun _ i _ => (intOf i).toNat)
  case atStart => exact ⟨n0, [], [], r1, rfl, LP0.out⟩
  case round =>
    obtain ⟨m, xs, css, r2, rfl, lp⟩ := hrel
    have hfew := lp.few
    have LP := Lib.hid lp; clear lp
    have HF := Lib.hid (rdr_Fail rb r2 wr LP.out.tk.rdr)
    by_cases hm : 0 < m
    · by_cases hb : r2.bad = true
      · rw [hb] at HF
        have HB := Lib.hid hb; clear hb
        go_wp2_with (go_at_call 100; refine HF.out.mono ?_; rintro e w' ⟨rfl, rfl⟩)
        go_ret
        exact LP.out.done (keep_flat elWrite) (.inr HB.out) HN.out
      · have hb : r2.bad = false := by simpa using hb
        rw [hb] at HF
        have HB := Lib.hid hb; clear hb
        obtain ⟨m, rfl⟩ : ∃ k, m = k + 1 := ⟨m - 1, by omega⟩
        have HT := Lib.hid (take_Write rb r2 wr LP.out.tk.rdr)
        go_wp2_with (first
          | (go_at_call 100; refine HF.out.mono ?_; rintro e w' ⟨rfl, rfl⟩)
          | (go_at_call 108; refine HT.out.mono ?_; rintro e w2 ⟨⟨cs, rfl, hel⟩, tk⟩; have hel0 := hel; obtain ⟨rfl, _, _⟩ := hel; simp only [str] at hel0 ⊢; have HEL := Lib.hid hel0; clear hel0; have OWN := Lib.hid (own_keep tk.upd LP.out.own (fun k hk e => by have := LP.out.fresh k hk; omega)); have TK := Lib.hid tk; clear tk)
          | (at_builtin; refine app_one rfl _ _ 119 204 (.agg #[.string { data := #[] }, .string { data := #[] }, .bool false]) 3 40 rfl Tryz.underlying119 info_Write rfl (by decide) (by decide) u5 xs.length css.flatten [.string ⟨(takeWrite r2).1.key.toArray⟩, .string ⟨(takeWrite r2).1.value.toArray⟩, .bool (takeWrite r2).1.has] rfl rfl rfl rfl OWN.out (by omega) ?_; intro v1 w3 hown1 hg1; have HO1 := Lib.hid hown1; have HG1 := Lib.hid hg1; clear hown1 hg1))
        go_roundw
        case rel => exact ⟨m, _, _, _, by go_num, LP.out.next (keep_flat elWrite) HB.out HEL.out rfl TK.out HO1.out HG1.out⟩
        case measure => (simp [intOf]; try omega)
    · obtain rfl : m = 0 := by omega
      go_wp2_with fail
      go_ret
      exact LP.out.done (keep_flat elWrite) (.inl rfl) HN.out


theorem info_Done : (Tryz.prog.info? 125).map (fun i => (i.zero, i.size, i.bytes)) = some (some (.agg #[.int .i64 0, .int .i64 0]), 2, 16) := by kernel_rfl
set_option maxHeartbeats 1600000 in
set_option maxRecDepth 100000 in
theorem takes_Done (rb : Nat) (r : Rdr) (w : World) (h : RdrAt w rb r) :
    Calls Tryz.prog 47 #[.pointer (some ⟨rb, 0, none⟩), .func (.func 48) #[] #[]] w (TookL w rb (fun _ _ => elDone) 2 (takeList takeDone r)) := by
  have hlt := h.lt
  have ST0 := Lib.hid (InTake.start h)
  clear h
  go_enter Tryz.func47, Tryz.ntmps47
  go_wp2_with fail
  refine (rdr_Int rb r 0 65535 w ST0.out.rdr).mono ?_
  rintro e w1 ⟨rfl, p1, p2⟩
  have hn0 := takeInt_range r
  have HN := Lib.hid (show takeList takeDone r = takeN takeDone (takeInt 0 65535 r).1.toNat (takeInt 0 65535 r).2 from rfl)
  have ST1 := Lib.hid (ST0.out.step p1 (upd_one p2)); clear p1 p2
  generalize (takeInt 0 65535 r).1 = nn at *
  generalize (takeInt 0 65535 r).2 = r1 at *
  obtain ⟨n0, rfl⟩ := Int.eq_ofNat_of_zero_le hn0.1
  rw [Int.toNat_natCast] at HN
  have LP0 := Lib.hid (InLoop.start (el := (fun _ _ => elDone)) (one := takeDone) (E := 125) (sz := 2) ST1.out (show n0 ≤ 65535 by omega))
  clear hn0
  go_wp2_with fail
  go_loopw [5, 6] (fun out i wr => ∃ (m : Nat) (xs : List Done) (css : List (List Value)) (r2 : Rdr), i = .int .i64 m ∧ InLoop w wr rb takeDone (fun _ _ => elDone) 125 2 n0 r1 out m xs css r2) (fun _ i _ => (intOf i).toNat)
  case atStart => exact ⟨n0, [], [], r1, rfl, LP0.out⟩
  case round =>
    obtain ⟨m, xs, css, r2, rfl, lp⟩ := hrel
    have hfew := lp.few
    have LP := Lib.hid lp; clear lp
    have HF := Lib.hid (rdr_Fail rb r2 wr LP.out.tk.rdr)
    by_cases hm : 0 < m
    · by_cases hb : r2.bad = true
      · rw [hb] at HF
        have HB := Lib.hid hb; clear hb
        go_wp2_with (go_at_call 100; refine HF.out.mono ?_; rintro e w' ⟨rfl, rfl⟩)
        go_ret
        exact LP.out.done (keep_flat elDone) (.inr HB.out) HN.out
      · have hb : r2.bad = false := by simpa using hb
        rw [hb] at HF
        have HB := Lib.hid hb; clear hb
        obtain ⟨m, rfl⟩ : ∃ k, m = k + 1 := ⟨m - 1, by omega⟩
        have HT := Lib.hid (take_Done rb r2 wr LP.out.tk.rdr)
        go_wp2_with (first
          | (go_at_call 100; refine HF.out.mono ?_; rintro e w' ⟨rfl, rfl⟩)
          | (go_at_call 48; refine HT.out.mono ?_; rintro e w2 ⟨⟨cs, rfl, hel⟩, tk⟩; have hel0 := hel; obtain rfl := hel;  have HEL := Lib.hid hel0; clear hel0; have OWN := Lib.hid (own_keep tk.upd LP.out.own (fun k hk e => by have := LP.out.fresh k hk; omega)); have TK := Lib.hid tk; clear tk)
          | (at_builtin; refine app_one rfl _ _ 31 125 (.agg #[.int .i64 0, .int .i64 0]) 2 16 rfl Tryz.underlying31 info_Done rfl (by decide) (by decide) u5 xs.length css.flatten [.int .i64 (takeDone r2).1.tx, .int .i64 (takeDone r2).1.attempt] rfl rfl rfl rfl OWN.out (by omega) ?_; intro v1 w3 hown1 hg1; have HO1 := Lib.hid hown1; have HG1 := Lib.hid hg1; clear hown1 hg1))
        go_roundw
        case rel => exact ⟨m, _, _, _, by go_num, LP.out.next (keep_flat elDone) HB.out HEL.out rfl TK.out HO1.out HG1.out⟩
        case measure => (simp [intOf]; try omega)
    · obtain rfl : m = 0 := by omega
      go_wp2_with fail
      go_ret
      exact LP.out.done (keep_flat elDone) (.inl rfl) HN.out


end Go.Proofs.YtllkjfadeaoicaaGreat
