/- Lemmas and walks: The walks of image's puts (printed by gen_puts.py). The walks of image's puts (printed by gen_puts.py). The walks of image's puts (printed by gen_puts.py). -/
import Derived.Test.YtllkjfadeaoicaaGreatJReads10
set_option linter.unusedVariables false
set_option linter.unusedSimpArgs false
namespace Go.Proofs.YtllkjfadeaoicaaGreat
open Go.RowKit
set_option maxHeartbeats 1600000 in
set_option maxRecDepth 100000 in
theorem puts_Row (wb : Nat) (v : Value) (l : Bs) (long : Bool) (B : Nat) (sv : Value) (xs : List Row) (w : World) (h : WrAt w wb v l long B) (hr : Rows w (fun k => k < B) (elRow) 5 sv xs) (hl : (l ++ encList encRow xs).length ≤ 1099511627776) :
    Calls Tryz.prog 55 #[.pointer (some ⟨wb, 0, none⟩), sv, .func (.func 56) #[] #[]] w (Puts w wb v (l ++ encList encRow xs) (long || longList longRow xs) B) := by
  obtain ⟨A, n, c, rfl, hlen, hnc, hc, hrow⟩ := hr
  have hf := h.flag (long || decide (65535 < (n : Int)))
  have HB := Lib.hid h.base; have HBV := Lib.hid h.baseV
  have hBw : B ≤ w.heap.size := Nat.le_trans h.base (Nat.le_of_lt h.lt)
  have c1 : w.cell? ⟨wb, 1, none⟩ = some (.bool long) := by rw [cell_of h.heap]; rfl
  have f1 : w.frozen? ⟨wb, 1, none⟩ = false := frozen_of h.heap 1
  have hst : InList w (w.setCell ⟨wb, 1, none⟩ (.bool (long || decide (65535 < (n : Int))))) wb v v l (long || decide (65535 < (n : Int))) B := ⟨hf.1, .inl rfl, hf.2⟩
  have ST0 := Lib.hid hst
  clear hf h hst
  have HROW := Lib.hid hrow; have HLEN := Lib.hid hlen
  clear hrow hlen
  have hfin : longList longRow xs = (decide (65535 < (n : Int)) || xs.any longRow) := by
    unfold longList; rw [HLEN.out]; congr 1; rw [Bool.eq_iff_iff]; simp; omega
  rw [hfin, ← Bool.or_assoc]
  unfold encList at hl ⊢
  rw [HLEN.out] at hl ⊢
  simp only [List.length_append, encInt_length] at hl
  clear hfin
  generalize hBB : (long || decide (65535 < (n : Int))) = BB at ST0 ⊢
  have HBB2 : long = true → BB = true := by intro g; rw [← hBB, g]; rfl
  have HBB3 : long = false → BB = decide (65535 < (n : Int)) := by intro g; rw [← hBB, g]; rfl
  clear hBB
  cases long
  · obtain rfl := HBB3 rfl
    clear HBB2 HBB3
    go_enter Tryz.func55, Tryz.ntmps55
    go_wp2_with fail
    (with_reducible refine (ls_ints ST0.out [(n : Int)] 1 rfl (by omega) ?sz ?ar).mono ?_)
    case sz => simp
    case ar => rfl
    rintro e w1 ⟨rfl, v1, st⟩
    have ST1 := Lib.hid st; clear st
    go_wp2_with fail
    go_loopw [27] (fun i wr => ∃ (k : Nat) (v2 : Value), k ≤ n ∧ i = .int .i64 k ∧ InList w wr wb v v2 (l ++ (encInt n ++ (xs.take k).flatMap encRow)) (decide (65535 < (n : Int)) || (xs.take k).any longRow) B) (fun i _ => n - (intOf i).toNat)
    case atStart => exact ⟨0, v1, Nat.zero_le _, rfl, by simpa using ST1.out⟩
    case round =>
      obtain ⟨k, v2, hk, rfl, st⟩ := hrel
      have ST2 := Lib.hid st; clear st
      by_cases hlt : k < n
      · obtain ⟨b, o, rfl, hb, hrw⟩ := HROW.out (by omega)
        replace hb : b < B := hb
        obtain ⟨x, hx⟩ : ∃ x, xs[k]? = some x := ⟨_, List.getElem?_eq_getElem (by rw [HLEN.out]; exact hlt)⟩
        obtain ⟨cs, hcs, hel, hcell⟩ := hrw k x hx
        have hkeep := ST2.out.keepB HB.out HBV.out hBw
        have hle := flatMap_le_snoc encRow hx
        have HX := Lib.hid (take_snoc' hx); have HEL := Lib.hid hel; clear hx hrw
        have HEL0 := hel; clear hel
        obtain rfl := HEL0
        have d0 := (hkeep ⟨b, _, none⟩ hb).trans (hcell 0 _ rfl)
        have d1 := (hkeep ⟨b, _, none⟩ hb).trans (hcell 1 _ rfl)
        have d2 := (hkeep ⟨b, _, none⟩ hb).trans (hcell 2 _ rfl)
        have d3 := (hkeep ⟨b, _, none⟩ hb).trans (hcell 3 _ rfl)
        have d4 := (hkeep ⟨b, _, none⟩ hb).trans (hcell 4 _ rfl)
        rw [Nat.add_zero] at d0
        clear hcell hkeep hcs
        go_wp2_with fail
        (with_reducible refine (put_Row wb _ _ _ B x _ _ (ST2.out.alloc _).wat HEL.out (by simp only [List.length_append, encInt_length]; omega)).mono ?_)
        rintro e w3 g
        obtain ⟨rfl, v3, st⟩ := (ST2.out.alloc _).step g
        clear g
        have ST3 := Lib.hid st; clear st
        go_wp2_with fail
        go_roundw
        case rel => exact ⟨k + 1, v3, by omega, by go_num, by rw [HX.out, List.flatMap_append, List.any_append]; simpa [Bool.or_assoc] using ST3.out⟩
        case measure => simp [intOf]; omega
      · obtain rfl : k = n := by omega
        have ht : xs.take k = xs := List.take_of_length_le (by rw [HLEN.out]; omega)
        rw [ht] at ST2
        go_wp2_with fail
        go_end0
        exact ST2.out.done

  · obtain rfl := HBB2 rfl
    clear HBB2 HBB3
    go_enter Tryz.func55, Tryz.ntmps55
    go_wp2_with fail
    (with_reducible refine (ls_ints ST0.out [(n : Int)] 1 rfl (by omega) ?sz ?ar).mono ?_)
    case sz => simp
    case ar => rfl
    rintro e w1 ⟨rfl, v1, st⟩
    have ST1 := Lib.hid st; clear st
    go_wp2_with fail
    go_loopw [27] (fun i wr => ∃ (k : Nat) (v2 : Value), k ≤ n ∧ i = .int .i64 k ∧ InList w wr wb v v2 (l ++ (encInt n ++ (xs.take k).flatMap encRow)) (true || (xs.take k).any longRow) B) (fun i _ => n - (intOf i).toNat)
    case atStart => exact ⟨0, v1, Nat.zero_le _, rfl, by simpa using ST1.out⟩
    case round =>
      obtain ⟨k, v2, hk, rfl, st⟩ := hrel
      have ST2 := Lib.hid st; clear st
      by_cases hlt : k < n
      · obtain ⟨b, o, rfl, hb, hrw⟩ := HROW.out (by omega)
        replace hb : b < B := hb
        obtain ⟨x, hx⟩ : ∃ x, xs[k]? = some x := ⟨_, List.getElem?_eq_getElem (by rw [HLEN.out]; exact hlt)⟩
        obtain ⟨cs, hcs, hel, hcell⟩ := hrw k x hx
        have hkeep := ST2.out.keepB HB.out HBV.out hBw
        have hle := flatMap_le_snoc encRow hx
        have HX := Lib.hid (take_snoc' hx); have HEL := Lib.hid hel; clear hx hrw
        have HEL0 := hel; clear hel
        obtain rfl := HEL0
        have d0 := (hkeep ⟨b, _, none⟩ hb).trans (hcell 0 _ rfl)
        have d1 := (hkeep ⟨b, _, none⟩ hb).trans (hcell 1 _ rfl)
        have d2 := (hkeep ⟨b, _, none⟩ hb).trans (hcell 2 _ rfl)
        have d3 := (hkeep ⟨b, _, none⟩ hb).trans (hcell 3 _ rfl)
        have d4 := (hkeep ⟨b, _, none⟩ hb).trans (hcell 4 _ rfl)
        rw [Nat.add_zero] at d0
        clear hcell hkeep hcs
        go_wp2_with fail
        (with_reducible refine (put_Row wb _ _ _ B x _ _ (ST2.out.alloc _).wat HEL.out (by simp only [List.length_append, encInt_length]; omega)).mono ?_)
        rintro e w3 g
        obtain ⟨rfl, v3, st⟩ := (ST2.out.alloc _).step g
        clear g
        have ST3 := Lib.hid st; clear st
        go_wp2_with fail
        go_roundw
        case rel => exact ⟨k + 1, v3, by omega, by go_num, by rw [HX.out, List.flatMap_append, List.any_append]; simpa [Bool.or_assoc] using ST3.out⟩
        case measure => simp [intOf]; omega
      · obtain rfl : k = n := by omega
        have ht : xs.take k = xs := List.take_of_length_le (by rw [HLEN.out]; omega)
        rw [ht] at ST2
        go_wp2_with fail
        go_end0
        exact ST2.out.done


set_option maxHeartbeats 1600000 in
set_option maxRecDepth 100000 in
theorem puts_Done (wb : Nat) (v : Value) (l : Bs) (long : Bool) (B : Nat) (sv : Value) (xs : List Done) (w : World) (h : WrAt w wb v l long B) (hr : Rows w (fun k => k < B) (elDone) 2 sv xs) (hl : (l ++ encList encDone xs).length ≤ 1099511627776) :
    Calls Tryz.prog 59 #[.pointer (some ⟨wb, 0, none⟩), sv, .func (.func 60) #[] #[]] w (Puts w wb v (l ++ encList encDone xs) (long || longList longDone xs) B) := by
  obtain ⟨A, n, c, rfl, hlen, hnc, hc, hrow⟩ := hr
  have hf := h.flag (long || decide (65535 < (n : Int)))
  have HB := Lib.hid h.base; have HBV := Lib.hid h.baseV
  have hBw : B ≤ w.heap.size := Nat.le_trans h.base (Nat.le_of_lt h.lt)
  have c1 : w.cell? ⟨wb, 1, none⟩ = some (.bool long) := by rw [cell_of h.heap]; rfl
  have f1 : w.frozen? ⟨wb, 1, none⟩ = false := frozen_of h.heap 1
  have hst : InList w (w.setCell ⟨wb, 1, none⟩ (.bool (long || decide (65535 < (n : Int))))) wb v v l (long || decide (65535 < (n : Int))) B := ⟨hf.1, .inl rfl, hf.2⟩
  have ST0 := Lib.hid hst
  clear hf h hst
  have HROW := Lib.hid hrow; have HLEN := Lib.hid hlen
  clear hrow hlen
  have hfin : longList longDone xs = (decide (65535 < (n : Int)) || xs.any longDone) := by
    unfold longList; rw [HLEN.out]; congr 1; rw [Bool.eq_iff_iff]; simp; omega
  rw [hfin, ← Bool.or_assoc]
  unfold encList at hl ⊢
  rw [HLEN.out] at hl ⊢
  simp only [List.length_append, encInt_length] at hl
  clear hfin
  generalize hBB : (long || decide (65535 < (n : Int))) = BB at ST0 ⊢
  have HBB2 : long = true → BB = true := by intro g; rw [← hBB, g]; rfl
  have HBB3 : long = false → BB = decide (65535 < (n : Int)) := by intro g; rw [← hBB, g]; rfl
  clear hBB
  cases long
  · obtain rfl := HBB3 rfl
    clear HBB2 HBB3
    go_enter Tryz.func59, Tryz.ntmps59
    go_wp2_with fail
    (with_reducible refine (ls_ints ST0.out [(n : Int)] 1 rfl (by omega) ?sz ?ar).mono ?_)
    case sz => simp
    case ar => rfl
    rintro e w1 ⟨rfl, v1, st⟩
    have ST1 := Lib.hid st; clear st
    go_wp2_with fail
    go_loopw [27] (fun i wr => ∃ (k : Nat) (v2 : Value), k ≤ n ∧ i = .int .i64 k ∧ InList w wr wb v v2 (l ++ (encInt n ++ (xs.take k).flatMap encDone)) (decide (65535 < (n : Int)) || (xs.take k).any longDone) B) (fun i _ => n - (intOf i).toNat)
    case atStart => exact ⟨0, v1, Nat.zero_le _, rfl, by simpa using ST1.out⟩
    case round =>
      obtain ⟨k, v2, hk, rfl, st⟩ := hrel
      have ST2 := Lib.hid st; clear st
      by_cases hlt : k < n
      · obtain ⟨b, o, rfl, hb, hrw⟩ := HROW.out (by omega)
        replace hb : b < B := hb
        obtain ⟨x, hx⟩ : ∃ x, xs[k]? = some x := ⟨_, List.getElem?_eq_getElem (by rw [HLEN.out]; exact hlt)⟩
        obtain ⟨cs, hcs, hel, hcell⟩ := hrw k x hx
        have hkeep := ST2.out.keepB HB.out HBV.out hBw
        have hle := flatMap_le_snoc encDone hx
        have HX := Lib.hid (take_snoc' hx); have HEL := Lib.hid hel; clear hx hrw
        have HEL0 := hel; clear hel
        obtain rfl := HEL0
        have d0 := (hkeep ⟨b, _, none⟩ hb).trans (hcell 0 _ rfl)
        have d1 := (hkeep ⟨b, _, none⟩ hb).trans (hcell 1 _ rfl)
        rw [Nat.add_zero] at d0
        clear hcell hkeep hcs
        go_wp2_with fail
        (with_reducible refine (put_Done wb _ _ _ B x _ _ (ST2.out.alloc _).wat HEL.out (by simp only [List.length_append, encInt_length]; omega)).mono ?_)
        rintro e w3 g
        obtain ⟨rfl, v3, st⟩ := (ST2.out.alloc _).step g
        clear g
        have ST3 := Lib.hid st; clear st
        go_wp2_with fail
        go_roundw
        case rel => exact ⟨k + 1, v3, by omega, by go_num, by rw [HX.out, List.flatMap_append, List.any_append]; simpa [Bool.or_assoc] using ST3.out⟩
        case measure => simp [intOf]; omega
      · obtain rfl : k = n := by omega
        have ht : xs.take k = xs := List.take_of_length_le (by rw [HLEN.out]; omega)
        rw [ht] at ST2
        go_wp2_with fail
        go_end0
        exact ST2.out.done

  · obtain rfl := HBB2 rfl
    clear HBB2 HBB3
    go_enter Tryz.func59, Tryz.ntmps59
    go_wp2_with fail
    (with_reducible refine (ls_ints ST0.out [(n : Int)] 1 rfl (by omega) ?sz ?ar).mono ?_)
    case sz => simp
    case ar => rfl
    rintro e w1 ⟨rfl, v1, st⟩
    have ST1 := Lib.hid st; clear st
    go_wp2_with fail
    go_loopw [27] (fun i wr => ∃ (k : Nat) (v2 : Value), k ≤ n ∧ i = .int .i64 k ∧ InList w wr wb v v2 (l ++ (encInt n ++ (xs.take k).flatMap encDone)) (true || (xs.take k).any longDone) B) (fun i _ => n - (intOf i).toNat)
    case atStart => exact ⟨0, v1, Nat.zero_le _, rfl, by simpa using ST1.out⟩
    case round =>
      obtain ⟨k, v2, hk, rfl, st⟩ := hrel
      have ST2 := Lib.hid st; clear st
      by_cases hlt : k < n
      · obtain ⟨b, o, rfl, hb, hrw⟩ := HROW.out (by omega)
        replace hb : b < B := hb
        obtain ⟨x, hx⟩ : ∃ x, xs[k]? = some x := ⟨_, List.getElem?_eq_getElem (by rw [HLEN.out]; exact hlt)⟩
        obtain ⟨cs, hcs, hel, hcell⟩ := hrw k x hx
        have hkeep := ST2.out.keepB HB.out HBV.out hBw
        have hle := flatMap_le_snoc encDone hx
        have HX := Lib.hid (take_snoc' hx); have HEL := Lib.hid hel; clear hx hrw
        have HEL0 := hel; clear hel
        obtain rfl := HEL0
        have d0 := (hkeep ⟨b, _, none⟩ hb).trans (hcell 0 _ rfl)
        have d1 := (hkeep ⟨b, _, none⟩ hb).trans (hcell 1 _ rfl)
        rw [Nat.add_zero] at d0
        clear hcell hkeep hcs
        go_wp2_with fail
        (with_reducible refine (put_Done wb _ _ _ B x _ _ (ST2.out.alloc _).wat HEL.out (by simp only [List.length_append, encInt_length]; omega)).mono ?_)
        rintro e w3 g
        obtain ⟨rfl, v3, st⟩ := (ST2.out.alloc _).step g
        clear g
        have ST3 := Lib.hid st; clear st
        go_wp2_with fail
        go_roundw
        case rel => exact ⟨k + 1, v3, by omega, by go_num, by rw [HX.out, List.flatMap_append, List.any_append]; simpa [Bool.or_assoc] using ST3.out⟩
        case measure => simp [intOf]; omega
      · obtain rfl : k = n := by omega
        have ht : xs.take k = xs := List.take_of_length_le (by rw [HLEN.out]; omega)
        rw [ht] at ST2
        go_wp2_with fail
        go_end0
        exact ST2.out.done


end Go.Proofs.YtllkjfadeaoicaaGreat

set_option linter.unusedVariables false
set_option linter.unusedSimpArgs false
namespace Go.Proofs.YtllkjfadeaoicaaGreat
open Go.RowKit
set_option maxHeartbeats 1600000 in
set_option maxRecDepth 100000 in
theorem puts_Cell (wb : Nat) (v : Value) (l : Bs) (long : Bool) (B : Nat) (sv : Value) (xs : List Cell) (w : World) (h : WrAt w wb v l long B) (hr : Rows w (fun k => k < B) (elCell w (fun k => k < B)) 2 sv xs) (hl : (l ++ encList encCell xs).length ≤ 1099511627776) :
    Calls Tryz.prog 51 #[.pointer (some ⟨wb, 0, none⟩), sv, .func (.func 52) #[] #[]] w (Puts w wb v (l ++ encList encCell xs) (long || longList longCell xs) B) := by
  obtain ⟨A, n, c, rfl, hlen, hnc, hc, hrow⟩ := hr
  have hf := h.flag (long || decide (65535 < (n : Int)))
  have HB := Lib.hid h.base; have HBV := Lib.hid h.baseV
  have hBw : B ≤ w.heap.size := Nat.le_trans h.base (Nat.le_of_lt h.lt)
  have c1 : w.cell? ⟨wb, 1, none⟩ = some (.bool long) := by rw [cell_of h.heap]; rfl
  have f1 : w.frozen? ⟨wb, 1, none⟩ = false := frozen_of h.heap 1
  have hst : InList w (w.setCell ⟨wb, 1, none⟩ (.bool (long || decide (65535 < (n : Int))))) wb v v l (long || decide (65535 < (n : Int))) B := ⟨hf.1, .inl rfl, hf.2⟩
  have ST0 := Lib.hid hst
  clear hf h hst
  have HROW := Lib.hid hrow; have HLEN := Lib.hid hlen
  clear hrow hlen
  have hfin : longList longCell xs = (decide (65535 < (n : Int)) || xs.any longCell) := by
    unfold longList; rw [HLEN.out]; congr 1; rw [Bool.eq_iff_iff]; simp; omega
  rw [hfin, ← Bool.or_assoc]
  unfold encList at hl ⊢
  rw [HLEN.out] at hl ⊢
  simp only [List.length_append, encInt_length] at hl
  clear hfin
  generalize hBB : (long || decide (65535 < (n : Int))) = BB at ST0 ⊢
  have HBB2 : long = true → BB = true := by intro g; rw [← hBB, g]; rfl
  have HBB3 : long = false → BB = decide (65535 < (n : Int)) := by intro g; rw [← hBB, g]; rfl
  clear hBB
  cases long
  · obtain rfl := HBB3 rfl
    clear HBB2 HBB3
    go_enter Tryz.func51, Tryz.ntmps51
    go_wp2_with fail
    (with_reducible refine (ls_ints ST0.out [(n : Int)] 1 rfl (by omega) ?sz ?ar).mono ?_)
    case sz => simp
    case ar => rfl
    rintro e w1 ⟨rfl, v1, st⟩
    have ST1 := Lib.hid st; clear st
    go_wp2_with fail
    go_loopw [27] (fun i wr => ∃ (k : Nat) (v2 : Value), k ≤ n ∧ i = .int .i64 k ∧ InList w wr wb v v2 (l ++ (encInt n ++ (xs.take k).flatMap encCell)) (decide (65535 < (n : Int)) || (xs.take k).any longCell) B) (fun i _ => n - (intOf i).toNat)
    case atStart => exact ⟨0, v1, Nat.zero_le _, rfl, by simpa using ST1.out⟩
    case round =>
      obtain ⟨k, v2, hk, rfl, st⟩ := hrel
      have ST2 := Lib.hid st; clear st
      by_cases hlt : k < n
      · obtain ⟨b, o, rfl, hb, hrw⟩ := HROW.out (by omega)
        replace hb : b < B := hb
        obtain ⟨x, hx⟩ : ∃ x, xs[k]? = some x := ⟨_, List.getElem?_eq_getElem (by rw [HLEN.out]; exact hlt)⟩
        obtain ⟨cs, hcs, hel, hcell⟩ := hrw k x hx
        have hkeep := ST2.out.keepB HB.out HBV.out hBw
        have hle := flatMap_le_snoc encCell hx
        have HX := Lib.hid (take_snoc' hx); have HEL := Lib.hid hel; clear hx hrw
        have HEL0 := hel; clear hel
        obtain ⟨q1, rfl, hlen0, hr1⟩ := HEL0
        obtain ⟨A1, n1, c1, rfl⟩ := hr1.form
        have d0 := (hkeep ⟨b, _, none⟩ hb).trans (hcell 0 _ rfl)
        have d1 := (hkeep ⟨b, _, none⟩ hb).trans (hcell 1 _ rfl)
        rw [Nat.add_zero] at d0
        simp only [str] at d0 d1 HEL
        clear hcell hkeep hcs
        go_wp2_with fail
        (with_reducible refine (put_Cell wb _ _ _ B x _ _ (ST2.out.alloc _).wat (HEL.out.imp (fun _ h => h) ((ST2.out.alloc _).keepB HB.out HBV.out hBw)) (by simp only [List.length_append, encInt_length]; omega)).mono ?_)
        rintro e w3 g
        obtain ⟨rfl, v3, st⟩ := (ST2.out.alloc _).step g
        clear g
        have ST3 := Lib.hid st; clear st
        go_wp2_with fail
        go_roundw
        case rel => exact ⟨k + 1, v3, by omega, by go_num, by rw [HX.out, List.flatMap_append, List.any_append]; simpa [Bool.or_assoc] using ST3.out⟩
        case measure => simp [intOf]; omega
      · obtain rfl : k = n := by omega
        have ht : xs.take k = xs := List.take_of_length_le (by rw [HLEN.out]; omega)
        rw [ht] at ST2
        go_wp2_with fail
        go_end0
        exact ST2.out.done

  · obtain rfl := HBB2 rfl
    clear HBB2 HBB3
    go_enter Tryz.func51, Tryz.ntmps51
    go_wp2_with fail
    (with_reducible refine (ls_ints ST0.out [(n : Int)] 1 rfl (by omega) ?sz ?ar).mono ?_)
    case sz => simp
    case ar => rfl
    rintro e w1 ⟨rfl, v1, st⟩
    have ST1 := Lib.hid st; clear st
    go_wp2_with fail
    go_loopw [27] (fun i wr => ∃ (k : Nat) (v2 : Value), k ≤ n ∧ i = .int .i64 k ∧ InList w wr wb v v2 (l ++ (encInt n ++ (xs.take k).flatMap encCell)) (true || (xs.take k).any longCell) B) (fun i _ => n - (intOf i).toNat)
    case atStart => exact ⟨0, v1, Nat.zero_le _, rfl, by simpa using ST1.out⟩
    case round =>
      obtain ⟨k, v2, hk, rfl, st⟩ := hrel
      have ST2 := Lib.hid st; clear st
      by_cases hlt : k < n
      · obtain ⟨b, o, rfl, hb, hrw⟩ := HROW.out (by omega)
        replace hb : b < B := hb
        obtain ⟨x, hx⟩ : ∃ x, xs[k]? = some x := ⟨_, List.getElem?_eq_getElem (by rw [HLEN.out]; exact hlt)⟩
        obtain ⟨cs, hcs, hel, hcell⟩ := hrw k x hx
        have hkeep := ST2.out.keepB HB.out HBV.out hBw
        have hle := flatMap_le_snoc encCell hx
        have HX := Lib.hid (take_snoc' hx); have HEL := Lib.hid hel; clear hx hrw
        have HEL0 := hel; clear hel
        obtain ⟨q1, rfl, hlen0, hr1⟩ := HEL0
        obtain ⟨A1, n1, c1, rfl⟩ := hr1.form
        have d0 := (hkeep ⟨b, _, none⟩ hb).trans (hcell 0 _ rfl)
        have d1 := (hkeep ⟨b, _, none⟩ hb).trans (hcell 1 _ rfl)
        rw [Nat.add_zero] at d0
        simp only [str] at d0 d1 HEL
        clear hcell hkeep hcs
        go_wp2_with fail
        (with_reducible refine (put_Cell wb _ _ _ B x _ _ (ST2.out.alloc _).wat (HEL.out.imp (fun _ h => h) ((ST2.out.alloc _).keepB HB.out HBV.out hBw)) (by simp only [List.length_append, encInt_length]; omega)).mono ?_)
        rintro e w3 g
        obtain ⟨rfl, v3, st⟩ := (ST2.out.alloc _).step g
        clear g
        have ST3 := Lib.hid st; clear st
        go_wp2_with fail
        go_roundw
        case rel => exact ⟨k + 1, v3, by omega, by go_num, by rw [HX.out, List.flatMap_append, List.any_append]; simpa [Bool.or_assoc] using ST3.out⟩
        case measure => simp [intOf]; omega
      · obtain rfl : k = n := by omega
        have ht : xs.take k = xs := List.take_of_length_le (by rw [HLEN.out]; omega)
        rw [ht] at ST2
        go_wp2_with fail
        go_end0
        exact ST2.out.done


set_option maxHeartbeats 1600000 in
set_option maxRecDepth 100000 in
theorem puts_Line (wb : Nat) (v : Value) (l : Bs) (long : Bool) (B : Nat) (sv : Value) (xs : List Line) (w : World) (h : WrAt w wb v l long B) (hr : Rows w (fun k => k < B) (elLine w (fun k => k < B)) 3 sv xs) (hl : (l ++ encList encLine xs).length ≤ 1099511627776) :
    Calls Tryz.prog 53 #[.pointer (some ⟨wb, 0, none⟩), sv, .func (.func 54) #[] #[]] w (Puts w wb v (l ++ encList encLine xs) (long || longList longLine xs) B) := by
  obtain ⟨A, n, c, rfl, hlen, hnc, hc, hrow⟩ := hr
  have hf := h.flag (long || decide (65535 < (n : Int)))
  have HB := Lib.hid h.base; have HBV := Lib.hid h.baseV
  have hBw : B ≤ w.heap.size := Nat.le_trans h.base (Nat.le_of_lt h.lt)
  have c1 : w.cell? ⟨wb, 1, none⟩ = some (.bool long) := by rw [cell_of h.heap]; rfl
  have f1 : w.frozen? ⟨wb, 1, none⟩ = false := frozen_of h.heap 1
  have hst : InList w (w.setCell ⟨wb, 1, none⟩ (.bool (long || decide (65535 < (n : Int))))) wb v v l (long || decide (65535 < (n : Int))) B := ⟨hf.1, .inl rfl, hf.2⟩
  have ST0 := Lib.hid hst
  clear hf h hst
  have HROW := Lib.hid hrow; have HLEN := Lib.hid hlen
  clear hrow hlen
  have hfin : longList longLine xs = (decide (65535 < (n : Int)) || xs.any longLine) := by
    unfold longList; rw [HLEN.out]; congr 1; rw [Bool.eq_iff_iff]; simp; omega
  rw [hfin, ← Bool.or_assoc]
  unfold encList at hl ⊢
  rw [HLEN.out] at hl ⊢
  simp only [List.length_append, encInt_length] at hl
  clear hfin
  generalize hBB : (long || decide (65535 < (n : Int))) = BB at ST0 ⊢
  have HBB2 : long = true → BB = true := by intro g; rw [← hBB, g]; rfl
  have HBB3 : long = false → BB = decide (65535 < (n : Int)) := by intro g; rw [← hBB, g]; rfl
  clear hBB
  cases long
  · obtain rfl := HBB3 rfl
    clear HBB2 HBB3
    go_enter Tryz.func53, Tryz.ntmps53
    go_wp2_with fail
    (with_reducible refine (ls_ints ST0.out [(n : Int)] 1 rfl (by omega) ?sz ?ar).mono ?_)
    case sz => simp
    case ar => rfl
    rintro e w1 ⟨rfl, v1, st⟩
    have ST1 := Lib.hid st; clear st
    go_wp2_with fail
    go_loopw [27] (fun i wr => ∃ (k : Nat) (v2 : Value), k ≤ n ∧ i = .int .i64 k ∧ InList w wr wb v v2 (l ++ (encInt n ++ (xs.take k).flatMap encLine)) (decide (65535 < (n : Int)) || (xs.take k).any longLine) B) (fun i _ => n - (intOf i).toNat)
    case atStart => exact ⟨0, v1, Nat.zero_le _, rfl, by simpa using ST1.out⟩
    case round =>
      obtain ⟨k, v2, hk, rfl, st⟩ := hrel
      have ST2 := Lib.hid st; clear st
      by_cases hlt : k < n
      · obtain ⟨b, o, rfl, hb, hrw⟩ := HROW.out (by omega)
        replace hb : b < B := hb
        obtain ⟨x, hx⟩ : ∃ x, xs[k]? = some x := ⟨_, List.getElem?_eq_getElem (by rw [HLEN.out]; exact hlt)⟩
        obtain ⟨cs, hcs, hel, hcell⟩ := hrw k x hx
        have hkeep := ST2.out.keepB HB.out HBV.out hBw
        have hle := flatMap_le_snoc encLine hx
        have HX := Lib.hid (take_snoc' hx); have HEL := Lib.hid hel; clear hx hrw
        have HEL0 := hel; clear hel
        obtain ⟨q1, q2, rfl, hlen0, hr1, hr2⟩ := HEL0
        obtain ⟨A1, n1, c1, rfl⟩ := hr1.form
        obtain ⟨A2, n2, c2, rfl⟩ := hr2.form
        have d0 := (hkeep ⟨b, _, none⟩ hb).trans (hcell 0 _ rfl)
        have d1 := (hkeep ⟨b, _, none⟩ hb).trans (hcell 1 _ rfl)
        have d2 := (hkeep ⟨b, _, none⟩ hb).trans (hcell 2 _ rfl)
        rw [Nat.add_zero] at d0
        simp only [str] at d0 d1 d2 HEL
        clear hcell hkeep hcs
        go_wp2_with fail
        (with_reducible refine (put_Line wb _ _ _ B x _ _ (ST2.out.alloc _).wat (HEL.out.imp (fun _ h => h) ((ST2.out.alloc _).keepB HB.out HBV.out hBw)) (by simp only [List.length_append, encInt_length]; omega)).mono ?_)
        rintro e w3 g
        obtain ⟨rfl, v3, st⟩ := (ST2.out.alloc _).step g
        clear g
        have ST3 := Lib.hid st; clear st
        go_wp2_with fail
        go_roundw
        case rel => exact ⟨k + 1, v3, by omega, by go_num, by rw [HX.out, List.flatMap_append, List.any_append]; simpa [Bool.or_assoc] using ST3.out⟩
        case measure => simp [intOf]; omega
      · obtain rfl : k = n := by omega
        have ht : xs.take k = xs := List.take_of_length_le (by rw [HLEN.out]; omega)
        rw [ht] at ST2
        go_wp2_with fail
        go_end0
        exact ST2.out.done

  · obtain rfl := HBB2 rfl
    clear HBB2 HBB3
    go_enter Tryz.func53, Tryz.ntmps53
    go_wp2_with fail
    (with_reducible refine (ls_ints ST0.out [(n : Int)] 1 rfl (by omega) ?sz ?ar).mono ?_)
    case sz => simp
    case ar => rfl
    rintro e w1 ⟨rfl, v1, st⟩
    have ST1 := Lib.hid st; clear st
    go_wp2_with fail
    go_loopw [27] (fun i wr => ∃ (k : Nat) (v2 : Value), k ≤ n ∧ i = .int .i64 k ∧ InList w wr wb v v2 (l ++ (encInt n ++ (xs.take k).flatMap encLine)) (true || (xs.take k).any longLine) B) (fun i _ => n - (intOf i).toNat)
    case atStart => exact ⟨0, v1, Nat.zero_le _, rfl, by simpa using ST1.out⟩
    case round =>
      obtain ⟨k, v2, hk, rfl, st⟩ := hrel
      have ST2 := Lib.hid st; clear st
      by_cases hlt : k < n
      · obtain ⟨b, o, rfl, hb, hrw⟩ := HROW.out (by omega)
        replace hb : b < B := hb
        obtain ⟨x, hx⟩ : ∃ x, xs[k]? = some x := ⟨_, List.getElem?_eq_getElem (by rw [HLEN.out]; exact hlt)⟩
        obtain ⟨cs, hcs, hel, hcell⟩ := hrw k x hx
        have hkeep := ST2.out.keepB HB.out HBV.out hBw
        have hle := flatMap_le_snoc encLine hx
        have HX := Lib.hid (take_snoc' hx); have HEL := Lib.hid hel; clear hx hrw
        have HEL0 := hel; clear hel
        obtain ⟨q1, q2, rfl, hlen0, hr1, hr2⟩ := HEL0
        obtain ⟨A1, n1, c1, rfl⟩ := hr1.form
        obtain ⟨A2, n2, c2, rfl⟩ := hr2.form
        have d0 := (hkeep ⟨b, _, none⟩ hb).trans (hcell 0 _ rfl)
        have d1 := (hkeep ⟨b, _, none⟩ hb).trans (hcell 1 _ rfl)
        have d2 := (hkeep ⟨b, _, none⟩ hb).trans (hcell 2 _ rfl)
        rw [Nat.add_zero] at d0
        simp only [str] at d0 d1 d2 HEL
        clear hcell hkeep hcs
        go_wp2_with fail
        (with_reducible refine (put_Line wb _ _ _ B x _ _ (ST2.out.alloc _).wat (HEL.out.imp (fun _ h => h) ((ST2.out.alloc _).keepB HB.out HBV.out hBw)) (by simp only [List.length_append, encInt_length]; omega)).mono ?_)
        rintro e w3 g
        obtain ⟨rfl, v3, st⟩ := (ST2.out.alloc _).step g
        clear g
        have ST3 := Lib.hid st; clear st
        go_wp2_with fail
        go_roundw
        case rel => exact ⟨k + 1, v3, by omega, by go_num, by rw [HX.out, List.flatMap_append, List.any_append]; simpa [Bool.or_assoc] using ST3.out⟩
        case measure => simp [intOf]; omega
      · obtain rfl : k = n := by omega
        have ht : xs.take k = xs := List.take_of_length_le (by rw [HLEN.out]; omega)
        rw [ht] at ST2
        go_wp2_with fail
        go_end0
        exact ST2.out.done


end Go.Proofs.YtllkjfadeaoicaaGreat

set_option linter.unusedVariables false
set_option linter.unusedSimpArgs false
namespace Go.Proofs.YtllkjfadeaoicaaGreat
open Go.RowKit
set_option maxHeartbeats 1600000 in
set_option maxRecDepth 100000 in
theorem puts_Live (wb : Nat) (v : Value) (l : Bs) (long : Bool) (B : Nat) (sv : Value) (xs : List Live) (w : World) (h : WrAt w wb v l long B) (hr : Rows w (fun k => k < B) (elLive w (fun k => k < B)) 12 sv xs) (hl : (l ++ encList encLive xs).length ≤ 1099511627776) :
    Calls Tryz.prog 57 #[.pointer (some ⟨wb, 0, none⟩), sv, .func (.func 58) #[] #[]] w (Puts w wb v (l ++ encList encLive xs) (long || longList longLive xs) B) := by
  obtain ⟨A, n, c, rfl, hlen, hnc, hc, hrow⟩ := hr
  have hf := h.flag (long || decide (65535 < (n : Int)))
  have HB := Lib.hid h.base; have HBV := Lib.hid h.baseV
  have hBw : B ≤ w.heap.size := Nat.le_trans h.base (Nat.le_of_lt h.lt)
  have c1 : w.cell? ⟨wb, 1, none⟩ = some (.bool long) := by rw [cell_of h.heap]; rfl
  have f1 : w.frozen? ⟨wb, 1, none⟩ = false := frozen_of h.heap 1
  have hst : InList w (w.setCell ⟨wb, 1, none⟩ (.bool (long || decide (65535 < (n : Int))))) wb v v l (long || decide (65535 < (n : Int))) B := ⟨hf.1, .inl rfl, hf.2⟩
  have ST0 := Lib.hid hst
  clear hf h hst
  have HROW := Lib.hid hrow; have HLEN := Lib.hid hlen
  clear hrow hlen
  have hfin : longList longLive xs = (decide (65535 < (n : Int)) || xs.any longLive) := by
    unfold longList; rw [HLEN.out]; congr 1; rw [Bool.eq_iff_iff]; simp; omega
  rw [hfin, ← Bool.or_assoc]
  unfold encList at hl ⊢
  rw [HLEN.out] at hl ⊢
  simp only [List.length_append, encInt_length] at hl
  clear hfin
  generalize hBB : (long || decide (65535 < (n : Int))) = BB at ST0 ⊢
  have HBB2 : long = true → BB = true := by intro g; rw [← hBB, g]; rfl
  have HBB3 : long = false → BB = decide (65535 < (n : Int)) := by intro g; rw [← hBB, g]; rfl
  clear hBB
  cases long
  · obtain rfl := HBB3 rfl
    clear HBB2 HBB3
    go_enter Tryz.func57, Tryz.ntmps57
    go_wp2_with fail
    (with_reducible refine (ls_ints ST0.out [(n : Int)] 1 rfl (by omega) ?sz ?ar).mono ?_)
    case sz => simp
    case ar => rfl
    rintro e w1 ⟨rfl, v1, st⟩
    have ST1 := Lib.hid st; clear st
    go_wp2_with fail
    go_loopw [27] (fun i wr => ∃ (k : Nat) (v2 : Value), k ≤ n ∧ i = .int .i64 k ∧ InList w wr wb v v2 (l ++ (encInt n ++ (xs.take k).flatMap encLive)) (decide (65535 < (n : Int)) || (xs.take k).any longLive) B) (fun i _ => n - (intOf i).toNat)
    case atStart => exact ⟨0, v1, Nat.zero_le _, rfl, by simpa using ST1.out⟩
    case round =>
      obtain ⟨k, v2, hk, rfl, st⟩ := hrel
      have ST2 := Lib.hid st; clear st
      by_cases hlt : k < n
      · obtain ⟨b, o, rfl, hb, hrw⟩ := HROW.out (by omega)
        replace hb : b < B := hb
        obtain ⟨x, hx⟩ : ∃ x, xs[k]? = some x := ⟨_, List.getElem?_eq_getElem (by rw [HLEN.out]; exact hlt)⟩
        obtain ⟨cs, hcs, hel, hcell⟩ := hrw k x hx
        have hkeep := ST2.out.keepB HB.out HBV.out hBw
        have hle := flatMap_le_snoc encLive hx
        have HX := Lib.hid (take_snoc' hx); have HEL := Lib.hid hel; clear hx hrw
        have HEL0 := hel; clear hel
        obtain ⟨q1, rfl, hlen0, hlen1, hr1⟩ := HEL0
        obtain ⟨A1, n1, c1, rfl⟩ := hr1.form
        have d0 := (hkeep ⟨b, _, none⟩ hb).trans (hcell 0 _ rfl)
        have d1 := (hkeep ⟨b, _, none⟩ hb).trans (hcell 1 _ rfl)
        have d2 := (hkeep ⟨b, _, none⟩ hb).trans (hcell 2 _ rfl)
        have d3 := (hkeep ⟨b, _, none⟩ hb).trans (hcell 3 _ rfl)
        have d4 := (hkeep ⟨b, _, none⟩ hb).trans (hcell 4 _ rfl)
        have d5 := (hkeep ⟨b, _, none⟩ hb).trans (hcell 5 _ rfl)
        have d6 := (hkeep ⟨b, _, none⟩ hb).trans (hcell 6 _ rfl)
        have d7 := (hkeep ⟨b, _, none⟩ hb).trans (hcell 7 _ rfl)
        have d8 := (hkeep ⟨b, _, none⟩ hb).trans (hcell 8 _ rfl)
        have d9 := (hkeep ⟨b, _, none⟩ hb).trans (hcell 9 _ rfl)
        have d10 := (hkeep ⟨b, _, none⟩ hb).trans (hcell 10 _ rfl)
        have d11 := (hkeep ⟨b, _, none⟩ hb).trans (hcell 11 _ rfl)
        rw [Nat.add_zero] at d0
        simp only [str] at d0 d1 d2 d3 d4 d5 d6 d7 d8 d9 d10 d11 HEL
        clear hcell hkeep hcs
        go_wp2_with fail
        (with_reducible refine (put_Live wb _ _ _ B x _ _ (ST2.out.alloc _).wat (HEL.out.imp (fun _ h => h) ((ST2.out.alloc _).keepB HB.out HBV.out hBw)) (by simp only [List.length_append, encInt_length]; omega)).mono ?_)
        rintro e w3 g
        obtain ⟨rfl, v3, st⟩ := (ST2.out.alloc _).step g
        clear g
        have ST3 := Lib.hid st; clear st
        go_wp2_with fail
        go_roundw
        case rel => exact ⟨k + 1, v3, by omega, by go_num, by rw [HX.out, List.flatMap_append, List.any_append]; simpa [Bool.or_assoc] using ST3.out⟩
        case measure => simp [intOf]; omega
      · obtain rfl : k = n := by omega
        have ht : xs.take k = xs := List.take_of_length_le (by rw [HLEN.out]; omega)
        rw [ht] at ST2
        go_wp2_with fail
        go_end0
        exact ST2.out.done

  · obtain rfl := HBB2 rfl
    clear HBB2 HBB3
    go_enter Tryz.func57, Tryz.ntmps57
    go_wp2_with fail
    (with_reducible refine (ls_ints ST0.out [(n : Int)] 1 rfl (by omega) ?sz ?ar).mono ?_)
    case sz => simp
    case ar => rfl
    rintro e w1 ⟨rfl, v1, st⟩
    have ST1 := Lib.hid st; clear st
    go_wp2_with fail
    go_loopw [27] (fun i wr => ∃ (k : Nat) (v2 : Value), k ≤ n ∧ i = .int .i64 k ∧ InList w wr wb v v2 (l ++ (encInt n ++ (xs.take k).flatMap encLive)) (true || (xs.take k).any longLive) B) (fun i _ => n - (intOf i).toNat)
    case atStart => exact ⟨0, v1, Nat.zero_le _, rfl, by simpa using ST1.out⟩
    case round =>
      obtain ⟨k, v2, hk, rfl, st⟩ := hrel
      have ST2 := Lib.hid st; clear st
      by_cases hlt : k < n
      · obtain ⟨b, o, rfl, hb, hrw⟩ := HROW.out (by omega)
        replace hb : b < B := hb
        obtain ⟨x, hx⟩ : ∃ x, xs[k]? = some x := ⟨_, List.getElem?_eq_getElem (by rw [HLEN.out]; exact hlt)⟩
        obtain ⟨cs, hcs, hel, hcell⟩ := hrw k x hx
        have hkeep := ST2.out.keepB HB.out HBV.out hBw
        have hle := flatMap_le_snoc encLive hx
        have HX := Lib.hid (take_snoc' hx); have HEL := Lib.hid hel; clear hx hrw
        have HEL0 := hel; clear hel
        obtain ⟨q1, rfl, hlen0, hlen1, hr1⟩ := HEL0
        obtain ⟨A1, n1, c1, rfl⟩ := hr1.form
        have d0 := (hkeep ⟨b, _, none⟩ hb).trans (hcell 0 _ rfl)
        have d1 := (hkeep ⟨b, _, none⟩ hb).trans (hcell 1 _ rfl)
        have d2 := (hkeep ⟨b, _, none⟩ hb).trans (hcell 2 _ rfl)
        have d3 := (hkeep ⟨b, _, none⟩ hb).trans (hcell 3 _ rfl)
        have d4 := (hkeep ⟨b, _, none⟩ hb).trans (hcell 4 _ rfl)
        have d5 := (hkeep ⟨b, _, none⟩ hb).trans (hcell 5 _ rfl)
        have d6 := (hkeep ⟨b, _, none⟩ hb).trans (hcell 6 _ rfl)
        have d7 := (hkeep ⟨b, _, none⟩ hb).trans (hcell 7 _ rfl)
        have d8 := (hkeep ⟨b, _, none⟩ hb).trans (hcell 8 _ rfl)
        have d9 := (hkeep ⟨b, _, none⟩ hb).trans (hcell 9 _ rfl)
        have d10 := (hkeep ⟨b, _, none⟩ hb).trans (hcell 10 _ rfl)
        have d11 := (hkeep ⟨b, _, none⟩ hb).trans (hcell 11 _ rfl)
        rw [Nat.add_zero] at d0
        simp only [str] at d0 d1 d2 d3 d4 d5 d6 d7 d8 d9 d10 d11 HEL
        clear hcell hkeep hcs
        go_wp2_with fail
        (with_reducible refine (put_Live wb _ _ _ B x _ _ (ST2.out.alloc _).wat (HEL.out.imp (fun _ h => h) ((ST2.out.alloc _).keepB HB.out HBV.out hBw)) (by simp only [List.length_append, encInt_length]; omega)).mono ?_)
        rintro e w3 g
        obtain ⟨rfl, v3, st⟩ := (ST2.out.alloc _).step g
        clear g
        have ST3 := Lib.hid st; clear st
        go_wp2_with fail
        go_roundw
        case rel => exact ⟨k + 1, v3, by omega, by go_num, by rw [HX.out, List.flatMap_append, List.any_append]; simpa [Bool.or_assoc] using ST3.out⟩
        case measure => simp [intOf]; omega
      · obtain rfl : k = n := by omega
        have ht : xs.take k = xs := List.take_of_length_le (by rw [HLEN.out]; omega)
        rw [ht] at ST2
        go_wp2_with fail
        go_end0
        exact ST2.out.done


end Go.Proofs.YtllkjfadeaoicaaGreat
