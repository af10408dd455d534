/- The walk of ImageReads. -/
import Derived.Test.YtllkjfadeaoicaaGreatJReads13
import Derived.Test.YtllkjfadeaoicaaGreatJReads08
import Derived.Test.YtllkjfadeaoicaaGreatJReads12
import Derived.Deep.AppendSrc
import Derived.Deep.DeepCutAuto
set_option linter.unusedVariables false
set_option linter.unusedSimpArgs false
namespace Go.Proofs.YtllkjfadeaoicaaGreat
open Go.RowKit

set_option maxHeartbeats 800000 in
set_option maxRecDepth 100000 in
theorem reads_big (A : Option Addr) (n c : Nat) (y : Bool) (w : World) (hn : 3000 < n) :
    Calls Tryz.prog 3 #[.slice A n c, .bool y] w fun e w' => e = .returned (.bool true) ∧ Below w.heap.size w w' := by
  have i0 : (3000 : Int) < (n : Int) := by omega
  go_enter Tryz.func3, Tryz.ntmps3
  go_wp2_with fail
  (with_reducible refine (fixed19 _).mono ?_)
  rintro e w1 ⟨rfl, hb⟩
  have HB := Lib.hid hb; clear hb
  go_wp2_with fail
  go_ret
  exact ⟨rfl, HB.out⟩

theorem reads_cells {w : World} {b o n : Nat} {l : Bs} (h : ReadsU8 w (some ⟨b, o, none⟩) n l) : ∀ j u, (u8s l)[j]? = some u → w.cell? ((⟨b, o, none⟩ : Addr).add j) = some u := by
  intro j u hj
  have hjl : j < l.length := by
    have := (List.getElem?_eq_some_iff.1 hj).1
    rwa [u8s_length] at this
  obtain ⟨b', o', e, hc⟩ := h.2 (by rw [← h.1]; omega)
  cases e
  have ha : (⟨b, o, none⟩ : Addr).add j = ⟨b, o + j, none⟩ := by unfold Addr.add; split <;> simp_all
  rw [ha, hc j (by rw [← h.1]; exact hjl), ← hj]
  simp [u8s, List.getD_eq_getElem?_getD, List.getElem?_eq_getElem hjl]
theorem ReadsU8.below {w w' : World} {A : Option Addr} {n : Nat} {l : Bs} (h : ReadsU8 w A n l) {B : Nat} (hb : Below B w w') (hA : ∀ a, A = some a → a.block < B) : ReadsU8 w' A n l :=
  ⟨h.1, fun hn => by
    obtain ⟨b, o, rfl, hc⟩ := h.2 hn
    exact ⟨b, o, rfl, fun j hj => (hb.cell (p := ⟨b, o + j, none⟩) (show b < B from hA ⟨b, o, none⟩ rfl)).trans (hc j hj)⟩⟩
section
variable {P : Program} {ops : Array Oper} {rest : List Oper} {o : Oper} {a : Act} {Q : Exit → Act → World → Prop}
/-- append(v, bytes...), v not nil -/
theorem app_u8 {W : World} (hgd : o.guard = none) (s x : Operand) (t e : TypeId)
    (ho : o.op = .call { callee := .builtin .append, args := #[s, x], argTypes := #[t, t] })
    (ht : P.underlying t = some (.slice e)) (hinfo : (P.info? e).map (fun i => (i.zero, i.size, i.bytes)) = some (some (.int .u8 0), 1, 1))
    (b off n' m n c : Nat) (A : Option Addr) (xs l : Bs) (hs : a.eval s = .slice (some ⟨b, off, none⟩) n' m) (hx : a.eval x = .slice A n c)
    (HO : W.ownsRow 0 e 1 (.slice (some ⟨b, off, none⟩) n' m) xs.length (u8s xs)) (hr : ReadsU8 W A n l) (hA : n = 0 ∨ ∀ a, A = some a → a.spot = none) (hl : xs.length + n ≤ 140737488355328)
    (h : ∀ b1 o1 n1 m1 w1, w1.ownsRow 0 e 1 (.slice (some ⟨b1, o1, none⟩) n1 m1) (xs ++ l).length (u8s (xs ++ l)) → W.grownBy w1 (some b) → (b1 = b ∨ W.heap.size ≤ b1) → wpList P ops Q rest (a.put o.dst (.slice (some ⟨b1, o1, none⟩) n1 m1)) w1) :
    wpList P ops Q (o :: rest) a W := by
  have hn' : n' = xs.length := by
    rcases HO.2 with ⟨e, _⟩ | ⟨g, cap, cur, e, _⟩
    · cases e
    · cases e; rfl
  subst hn'
  have hnm : xs.length ≤ m := by
    rcases HO.2 with ⟨e, _⟩ | ⟨g, cap, cur, e, _, _, h2, _⟩
    · cases e
    · cases e; exact h2
  obtain ⟨i5, hi5, hz0, hz1, hz2⟩ := info_parts hinfo
  by_cases hn0 : n = 0
  · subst hn0
    obtain rfl : l = [] := List.eq_nil_of_length_eq_zero hr.1
    rw [List.append_nil] at h
    exact app_zero hgd s x t e i5 ho ht hi5 b off xs.length m A c hs hx hnm (h b off _ m W HO (grownBy_refl W _) (.inl rfl))
  have hA := hA.resolve_left hn0
  rcases A with _ | ⟨b', o', sp⟩
  · obtain ⟨_, _, e, _⟩ := hr.2 (by omega); cases e
  · obtain rfl : sp = none := hA _ rfl
    refine app_row hgd s x t e (.int .u8 0) 1 1 ho ht hinfo rfl (by decide) (by decide) (.slice (some ⟨b, off, none⟩) xs.length m) xs.length n c ⟨b', o', none⟩ (u8s xs) (u8s l) hs hx (List.all_eq_true.2 (u8s_one l)) (by rw [u8s_length, hr.1, Nat.mul_one]) (reads_cells hr) HO (by omega) ?_
    intro v1 w1 hown hg
    obtain ⟨A1, n1, c1, rfl⟩ := own_form hown
    have hb := hg.b
    have hlen : xs.length + n = (xs ++ l).length := by rw [List.length_append, hr.1]
    rw [← u8s_append, hlen] at hown
    rcases A1 with _ | ⟨b1, o1, s1⟩
    · rcases hb with g | ⟨k, g, _⟩ <;> cases g
    · obtain rfl : s1 = none := own_spot hown _ rfl
      refine h b1 o1 n1 c1 w1 hown hg.g ?_
      rcases hb with g | ⟨k, g, hk⟩
      · simp only [Value.ownBlock, Option.some.injEq] at g; exact .inl g
      · simp only [Value.ownBlock, Option.some.injEq] at g; exact .inr (by omega)
end
theorem own_reads_u8' {w : World} {l : Bs} {A : Option Addr} {n c m : Nat} (hm : l.length = m) (h : w.ownsRow 0 5 1 (.slice A n c) m (u8s l)) : ReadsU8 w A n l := by
  subst hm; exact own_reads_u8 h
theorem own_args' {w : World} {l : Bs} {A : Option Addr} {n c m : Nat} (hm : l.length = m) (h : w.ownsRow 0 5 1 (.slice A n c) m (u8s l)) : m ≤ c := by
  subst hm; have := own_args h; have h1 := this.2.2.1; have h2 := this.2.2.2.2; omega
theorem grownBy_from_drew {w w' : World} {r : Option Nat} (h : w.drew.grownBy w' r) : w.grownBy w' r := ⟨h.os, h.tape, h.output, h.size, h.block⟩
theorem grownBy_drew {w w' : World} {r : Option Nat} (h : w.grownBy w' r) : w.grownBy w'.drew r := ⟨h.os, h.tape, h.output, h.size, h.block⟩
/-- what is read -/
def sums (l : Bs) (y : Bool) : Bs := if y then l ++ crcBytes (crcOf l) else l
set_option maxHeartbeats 1600000 in
set_option maxRecDepth 100000 in
theorem reads_few (A : Option Addr) (n c : Nat) (l : Bs) (y : Bool) (w : World) (hn : n ≤ 3000) (hr : ReadsU8 w A n l) (hA : n = 0 ∨ ∀ a, A = some a → a.block < w.heap.size ∧ a.spot = none) :
    Calls Tryz.prog 3 #[.slice A n c, .bool y] w fun e w' => e = .returned (.bool true) ∧ Below w.heap.size w w' := by
  have i0 : ¬ (3000 : Int) < (n : Int) := by omega
  have HR := Lib.hid hr; have HA := Lib.hid hA
  clear hr hA
  go_enter Tryz.func3, Tryz.ntmps3
  go_wp2_with fail
  (with_reducible refine (fixed19 _).mono ?_)
  rintro e w1 ⟨rfl, hb⟩
  have HB := Lib.hid hb
  have HR1 : Hid (ReadsU8 w1 A n l) := HA.out.elim (fun e => by subst e; rw [List.eq_nil_of_length_eq_zero HR.out.1]; exact ReadsU8.nil _ _) (fun h => HR.out.below hb (fun a e => (h a e).1))
  have HR2 := Lib.hid (HR1.out.keep (World.grownBy_alloc w1 (.cells #[] 5) none) (by simp))
  have HO := Lib.hid (World.ownsRow_lit (base := 0) (e := 5) (size := 1) w1 #[] 0 (Nat.zero_le _) (by simp [maxLen]) rfl)
  clear hb
  go_upto_if 20 with (at_builtin; refine app_u8 rfl _ _ 22 5 rfl Tryz.underlying22 Tryz.info5 w1.heap.size 0 0 0 n c A [] l rfl rfl HO.out HR2.out (HA.out.imp id fun h a e => (h a e).2) (by simp; omega) ?_; intro b2 o2 n2 c2 w2 hown hg hb2; have HO2 := Lib.hid hown; have HG2 := Lib.hid hg; clear hown hg)
  go_cut [5] (fun v wx => ∃ b o n c, v = .slice (some ⟨b, o, none⟩) n c ∧ Hid (wx.ownsRow 0 5 1 (.slice (some ⟨b, o, none⟩) n c) (sums l y).length (u8s (sums l y))) ∧ Hid (Below w.heap.size w wx))
  case first =>
    have HB2 : Hid (Below w.heap.size w w2) := HB.out.trans (((Upd.alloc (fun k => k = w1.heap.size) w1 (.cells #[] 5)).trans (Upd.of_grown HG2.out) (fun k g => by cases g; exact .inl rfl)).below HB.out.size (fun k g => by rw [g]; exact HB.out.size))
    rw [List.nil_append] at HO2
    have HR3 : Hid (ReadsU8 w2 A n l) := HA.out.elim (fun e => by subst e; rw [List.eq_nil_of_length_eq_zero HR.out.1]; exact ReadsU8.nil _ _) (fun h => HR2.out.keep HG2.out (fun a e g => by have g := Option.some.inj g; have h1 := (h a e).1; have h2 := HB.out.size; omega))
    have hbs : w.heap.size ≤ b2 := by have h2 := HB.out.size; rw [alloc_sz] at hb2; omega
    clear HB HR1 HR2 HO HG2
    cases y with
    | false =>
      go_wp2_with fail
      go_meet
      exact ⟨b2, o2, n2, c2, rfl, HO2, HB2⟩
    | true =>
      have hlt := crcOf_lt l
      go_wp2_with fail
      (with_reducible refine (ref_Of A n c l _ HR3.out (by omega)).mono ?_)
      rintro e w' ⟨rfl, rfl⟩
      go_wp2_with fail
      (with_reducible refine (ref_Bytes _ _ hlt).mono ?_)
      rintro e w3 ⟨rfl, ho3, hg3⟩
      have HO3 := Lib.hid ho3; have HG3 := Lib.hid hg3
      have HO23 := Lib.hid (own_kept_none HO2.out hg3)
      have HR4 := Lib.hid (own_reads_u8 (l := crcBytes (crcOf l)) ho3)
      have hl2 : l.length + 4 ≤ 140737488355328 := by have := HR3.out.1; omega
      clear ho3 hg3
      go_wp2_with (at_builtin; refine app_u8 rfl _ _ 22 5 rfl Tryz.underlying22 Tryz.info5 b2 o2 n2 c2 4 4 (some ⟨w2.heap.size, 0, none⟩) l (crcBytes (crcOf l)) rfl rfl HO23.out HR4.out (.inr fun a e => by cases e; rfl) hl2 ?_; intro b4 o4 n4 c4 w4 hown hg hb4; have HO4 := Lib.hid hown; have HG4 := Lib.hid hg; clear hown hg)
      go_meet
      refine ⟨b4, o4, n4, c4, rfl, HO4, ?_⟩
      exact HB2.out.trans ((((Upd.of_grown HG3.out).mono (T := fun k => w.heap.size ≤ k) (fun k g => by cases g)).trans (Upd.of_grown HG4.out) (fun k g => .inl (by cases g; exact hbs))).below HB2.out.size (fun k g => g))
  case rest =>
    obtain ⟨b, o, m, c, rfl, HO, HB⟩ := hcut
    have hL : (sums l y).length ≤ 3004 := by have := HR.out.1; unfold sums; cases y <;> simp [crcBytes] <;> omega
    clear HO2 HG2 hb2 HR HA HR1 HR2
    generalize sums l y = L at *
    have hm := (own_args HO.out).2.2.2.2
    subst hm
    go_wp2_with fail
    (with_reducible refine (img_Read (some ⟨b, o, none⟩) L.length c L _ (own_args HO.out).1 (own_args HO.out).2.1 (own_args HO.out).2.2.1 (own_args HO.out).2.2.2.1).mono ?_)
    rintro e w3 ⟨hb3, cs, rfl, hel⟩
    by_cases h0 : (readWhole L).2 = 0
    · have HRO := Lib.hid (read_ok h0); have hel2 := enc_le h0
      rw [h0]
      clear h0
      obtain ⟨q1, q2, q3, q4, q5, rfl, hr1, hr2, hr3, hr4, hr5⟩ := hel
      obtain ⟨A1, n1, c1, rfl⟩ := hr1.form
      obtain ⟨A2, n2, c2, rfl⟩ := hr2.form
      obtain ⟨A3, n3, c3, rfl⟩ := hr3.form
      obtain ⟨A4, n4, c4, rfl⟩ := hr4.form
      obtain ⟨A5, n5, c5, rfl⟩ := hr5.form
      have HEL := Lib.hid (show elWhole w3 _ (readWhole L).1 _ from ⟨_, _, _, _, _, rfl, hr1, hr2, hr3, hr4, hr5⟩)
      clear hr1 hr2 hr3 hr4 hr5
      have hb4 := hb3.trans ((Upd.alloc (fun _ => False) w3 (.cells #[.int .i64 (readWhole L).1.clock, .int .i64 (readWhole L).1.moment, .slice A1 n1 c1, .slice A2 n2 c2, .slice A3 n3 c3, .slice A4 n4 c4, .slice A5 n5 c5] 33)).below (B := wc.heap.size) hb3.size (fun k g => g.elim))
      have HO4 := Lib.hid (own_below HO.out hb4)
      have HB4 := Lib.hid (HB.out.trans (hb4.mono HB.out.size))
      have HEL4 := Lib.hid (HEL.out.imp (w' := w3.alloc (.cells #[.int .i64 (readWhole L).1.clock, .int .i64 (readWhole L).1.moment, .slice A1 n1 c1, .slice A2 n2 c2, .slice A3 n3 c3, .slice A4 n4 c4, .slice A5 n5 c5] 33)) (S' := fun k => k < (w3.alloc (.cells #[.int .i64 (readWhole L).1.clock, .int .i64 (readWhole L).1.moment, .slice A1 n1 c1, .slice A2 n2 c2, .slice A3 n3 c3, .slice A4 n4 c4, .slice A5 n5 c5] 33)).heap.size) (fun k g => by rw [alloc_sz]; omega) (fun a g => (Upd.alloc (fun _ => False) w3 _).cellEq g.2 (fun g => g)))
      clear hb3 hb4 HEL
      go_wp2_with fail
      (with_reducible refine (img_Bytes (readWhole L).1 [.int .i64 (readWhole L).1.clock, .int .i64 (readWhole L).1.moment, .slice A1 n1 c1, .slice A2 n2 c2, .slice A3 n3 c3, .slice A4 n4 c4, .slice A5 n5 c5] _ HEL4.out (by omega)).mono ?_)
      rintro e w5 ⟨hb5, _, hok⟩
      obtain ⟨v, rfl, hown5, _⟩ := hok HRO.out.1
      obtain ⟨A6, n6, c6, rfl⟩ := own_form hown5
      rw [HRO.out.2] at hown5
      have hc1 := conv_u8 (own_args hown5).1 (own_spot hown5) c6
      have hc2 := conv_u8 (own_args (own_below HO4.out hb5)).1 (own_spot HO.out) c
      have HB5 := Lib.hid (HB4.out.trans (hb5.mono HB4.out.size))
      clear hok hown5 hb5 HO4 HB4 HEL4
      go_wp2_with fail
      go_ret
      exact ⟨ret_bool (by simp), HB5.out⟩
    · have hbad := read_bad h0
      rw [hbad.1] at hel
      obtain ⟨A1, A2, A3, A4, A5, c1, c2, c3, c4, c5, rfl⟩ := el_empty_form hel
      clear hel h0
      have HB3 := Lib.hid (HB.out.trans (hb3.mono HB.out.size))
      have HO3 := Lib.hid (own_below HO.out hb3)
      clear HB HO hb3
      generalize hm : L.length = m at *
      have HM := Lib.hid hm; clear hm
      by_cases h4 : m < 4
      · have h2 := hbad.2
        rw [if_neg (by omega)] at h2
        rw [h2]
        clear hbad h2
        have i1 : ¬ (0 : Int) ≤ (m : Int) - 4 := by omega
        have i2 : ¬ (4 : Int) ≤ (m : Int) := by omega
        have i3 : decide ((4 : Int) ≤ (m : Int)) = false := by simp; omega
        have i4 : decide ((0 : Int) ≤ (m : Int) - 4) = false := by simp; omega
        go_wp2_with fail
        go_quiet (fail)
        go_wp2_with (go_at_call 15; refine (same0 _ _ _ _ _ _ _ _ _ _ _ _ _ _ _ _ _ _ _ _ _).mono ?_; rintro e w4 ⟨rfl, hg⟩; have HG := Lib.hid hg; clear hg)
        go_ret
        exact ⟨rfl, HB3.out.trans (((Upd.alloc (fun _ => False) w3 _).trans (Upd.of_grown (grownBy_from_drewN HG.out)) (fun k g => by cases g)).below HB3.out.size (fun k g => g.elim))⟩
      · obtain ⟨k, rfl⟩ : ∃ k, m = k + 4 := ⟨m - 4, by omega⟩
        have i0' : (0 : Int) ≤ ((k + 4 : Nat) : Int) - 4 := by omega
        have HRT : Hid (∀ W, w3.grownBy W none → ReadsU8 W (some ⟨b, o, none⟩) k (L.take k)) := fun W hg => ((own_reads_u8' (HM.out) HO3.out).keep hg (by simp)).take (by omega)
        have HRD : Hid (∀ W, w3.grownBy W none → ReadsU8 W (some ⟨b, o + k, none⟩) 4 (L.drop k)) := fun W hg => by
          have := ((own_reads_u8' (HM.out) HO3.out).keep hg (by simp)).drop (k := k) (by omega)
          rwa [show k + 4 - k = 4 from by omega] at this
        have hlt := crcOf_lt (L.take k)
        have HCV := Lib.hid (fun W (hg : w3.grownBy W none) => conv_u8 (HRD.out W hg) (fun a g => by cases g; rfl) (c - k))
        have hc0 := (own_args' HM.out HO3.out)
        have i1 : (k : Int) ≤ (c : Int) := by omega
        have i2 : ((k : Int) + 4) ≤ (c : Int) := by omega
        have i3 : (k : Int) ≤ (k : Int) + 4 := by omega
        have i4 : ((k + 4 : Nat) : Int) ≤ (c : Int) := by omega
        have i5 : (k : Int) ≤ ((k + 4 : Nat) : Int) := by omega
        have i6 : k ≠ c := by omega
        have i7 : (0 : Int) ≤ (k : Int) := by omega
        have i8 : c ≠ k := by omega
        by_cases he : crcBytes (crcOf (L.take k)) = L.drop k
        · have h2 := hbad.2
          rw [Nat.add_sub_cancel, if_neg (by rintro ⟨_, g⟩; exact g he)] at h2
          rw [h2]
          clear hbad h2 h4
          go_wp2_with fail
          refine wp_region_held_drew (S := (fun W => (convert 22 9 (.slice (some ⟨b, o + k, none⟩) 4 (c - k))).run Tryz.prog W = .ok (.string ⟨(L.drop k).toArray⟩) W)) (by kernel_rfl) ?_ (fun hHeld => ?_)
          · exact (HCV.out _ (grownBy_drew (World.grownBy_alloc w3 _ none)))
          refine wpAnyH_take (i := 0) (oi := ({ dst := some 50, op := Op.move (Operand.tmp 11), type := 3, pos := "law.go:88", after := #[], guard := none } : Oper)) (v := ?va0) rfl (by kernel_rfl) (by kernel_rfl) (by kernel_rfl) (fun _ _ _ h => h) (Or.inl ⟨by rfl, ?ha0⟩) (by assumption) ?ra0
          case ha0 => (intro w hSw; (try dsimp only at hSw); go_simp; try with_reducible rfl)
          try simp only [Act.put, List.setIfInBounds_toArray, List.set_cons_zero, List.set_cons_succ]
          refine wpAnyH_take (i := 1) (oi := ({ dst := some 51, op := Op.binOp BinOp.geq 3 (Operand.tmp 50) (Operand.const (Value.int IntKind.i64 0)) 3, type := 4, pos := "law.go:88", after := #[{ on := 0, ground := Ground.data }], guard := none } : Oper)) (v := ?va1) rfl (by kernel_rfl) (by kernel_rfl) (by kernel_rfl) (fun _ _ _ h => h) (Or.inl ⟨by rfl, ?ha1⟩) (by assumption) ?ra1
          case ha1 => (intro w hSw; (try dsimp only at hSw); go_simp; try with_reducible rfl)
          try simp only [Act.put, List.setIfInBounds_toArray, List.set_cons_zero, List.set_cons_succ]
          refine wpAnyH_take (i := 2) (oi := ({ dst := some 52, op := Op.move (Operand.tmp 51), type := 4, pos := "law.go:88", after := #[{ on := 1, ground := Ground.data }], guard := none } : Oper)) (v := ?va2) rfl (by kernel_rfl) (by kernel_rfl) (by kernel_rfl) (fun _ _ _ h => h) (Or.inl ⟨by rfl, ?ha2⟩) (by assumption) ?ra2
          case ha2 => (intro w hSw; (try dsimp only at hSw); go_simp; try with_reducible rfl)
          try simp only [Act.put, List.setIfInBounds_toArray, List.set_cons_zero, List.set_cons_succ]
          refine wpAnyH_take (i := 3) (oi := ({ dst := some 53, op := Op.move (Operand.tmp 5), type := 22, pos := "law.go:88", after := #[{ on := 2, ground := Ground.guard }], guard := some (2, true) } : Oper)) (v := ?va3) rfl (by kernel_rfl) (by kernel_rfl) (by kernel_rfl) (fun _ _ _ h => h) (Or.inl ⟨by rfl, ?ha3⟩) (by assumption) ?ra3
          case ha3 => (intro w hSw; (try dsimp only at hSw); go_simp; try with_reducible rfl)
          try simp only [Act.put, List.setIfInBounds_toArray, List.set_cons_zero, List.set_cons_succ]
          refine wpAnyH_take (i := 4) (oi := ({ dst := some 54, op := Op.move (Operand.tmp 11), type := 3, pos := "law.go:88", after := #[{ on := 2, ground := Ground.guard }], guard := some (2, true) } : Oper)) (v := ?va4) rfl (by kernel_rfl) (by kernel_rfl) (by kernel_rfl) (fun _ _ _ h => h) (Or.inl ⟨by rfl, ?ha4⟩) (by assumption) ?ra4
          case ha4 => (intro w hSw; (try dsimp only at hSw); go_simp; try with_reducible rfl)
          try simp only [Act.put, List.setIfInBounds_toArray, List.set_cons_zero, List.set_cons_succ]
          refine wpAnyH_take (i := 5) (oi := ({ dst := some 55, op := Op.slice 22 (Operand.tmp 53) none (some (Operand.tmp 54)) none, type := 22, pos := "law.go:88", after := #[{ on := 3, ground := Ground.data }, { on := 4, ground := Ground.data }, { on := 2, ground := Ground.guard }], guard := some (2, true) } : Oper)) (v := ?va5) rfl (by kernel_rfl) (by kernel_rfl) (by kernel_rfl) (fun _ _ _ h => h) (Or.inl ⟨by rfl, ?ha5⟩) (by assumption) ?ra5
          case ha5 => (intro w hSw; (try dsimp only at hSw); go_simp; try with_reducible rfl)
          try simp only [Act.put, List.setIfInBounds_toArray, List.set_cons_zero, List.set_cons_succ]
          refine wpAnyH_take (i := 9) (oi := ({ dst := some 59, op := Op.move (Operand.tmp 5), type := 22, pos := "law.go:88", after := #[{ on := 2, ground := Ground.guard }], guard := some (2, true) } : Oper)) (v := ?va9) rfl (by kernel_rfl) (by kernel_rfl) (by kernel_rfl) (fun _ _ _ h => h) (Or.inl ⟨by rfl, ?ha9⟩) (by assumption) ?ra9
          case ha9 => (intro w hSw; (try dsimp only at hSw); go_simp; try with_reducible rfl)
          try simp only [Act.put, List.setIfInBounds_toArray, List.set_cons_zero, List.set_cons_succ]
          refine wpAnyH_take (i := 10) (oi := ({ dst := some 60, op := Op.move (Operand.tmp 11), type := 3, pos := "law.go:88", after := #[{ on := 2, ground := Ground.guard }], guard := some (2, true) } : Oper)) (v := ?va10) rfl (by kernel_rfl) (by kernel_rfl) (by kernel_rfl) (fun _ _ _ h => h) (Or.inl ⟨by rfl, ?ha10⟩) (by assumption) ?ra10
          case ha10 => (intro w hSw; (try dsimp only at hSw); go_simp; try with_reducible rfl)
          try simp only [Act.put, List.setIfInBounds_toArray, List.set_cons_zero, List.set_cons_succ]
          refine wpAnyH_take (i := 11) (oi := ({ dst := some 61, op := Op.slice 22 (Operand.tmp 59) (some (Operand.tmp 60)) none none, type := 22, pos := "law.go:88", after := #[{ on := 9, ground := Ground.data }, { on := 10, ground := Ground.data }, { on := 2, ground := Ground.guard }], guard := some (2, true) } : Oper)) (v := ?va11) rfl (by kernel_rfl) (by kernel_rfl) (by kernel_rfl) (fun _ _ _ h => h) (Or.inl ⟨by rfl, ?ha11⟩) (by assumption) ?ra11
          case ha11 => (intro w hSw; (try dsimp only at hSw); go_simp; try with_reducible rfl)
          try simp only [Act.put, List.setIfInBounds_toArray, List.set_cons_zero, List.set_cons_succ]
          refine wpAnyH_take (i := 12) (oi := ({ dst := some 62, op := Op.convert 22 9 (Operand.tmp 61), type := 9, pos := "law.go:88", after := #[{ on := 11, ground := Ground.data }, { on := 2, ground := Ground.guard }], guard := some (2, true) } : Oper)) (v := ?va12) rfl (by kernel_rfl) (by kernel_rfl) (by kernel_rfl) (fun _ _ _ h => h) (Or.inl ⟨by rfl, ?ha12⟩) (by assumption) ?ra12
          case ha12 => (intro w hSw; (try dsimp only at hSw); go_simp; try with_reducible rfl)
          try simp only [Act.put, List.setIfInBounds_toArray, List.set_cons_zero, List.set_cons_succ]
          refine wpAnyH_ready (rs := [6]) (by kernel_rfl) (by simp) ?_
          refine AllReadyH.cons (o := ({ dst := some 56, op := Op.call { callee := Callee.value (Operand.func 12), args := #[Operand.tmp 55], argTypes := #[22] }, type := 25, pos := "law.go:88", after := #[{ on := 5, ground := Ground.data }, { on := 2, ground := Ground.chain }, { on := 2, ground := Ground.guard }], guard := some (2, true) } : Oper)) rfl (fun K hK => ?_) AllReadyH.nil
          go_simp
          (with_reducible refine (ref_Of (some ⟨b, o, none⟩) k _ (L.take k) _ (HRT.out _ (grownBy_drew (World.grownBy_alloc w3 _ none))) (by omega)).mono ?_)
          rintro e w' ⟨rfl, rfl⟩
          go_wp2_with fail
          refine hK.out _ _ ?_ (fun hHeld => ?_)
          · exact (HCV.out _ (grownBy_drew (World.grownBy_alloc w3 _ none)))
          clear hK K
          try simp only [Act.put, List.setIfInBounds_toArray, List.set_cons_zero, List.set_cons_succ]
          refine wpAnyH_ready (rs := [7]) (by kernel_rfl) (by simp) ?_
          refine AllReadyH.cons (o := ({ dst := some 57, op := Op.call { callee := Callee.value (Operand.func 11), args := #[Operand.tmp 56], argTypes := #[25] }, type := 22, pos := "law.go:88", after := #[{ on := 6, ground := Ground.data }, { on := 6, ground := Ground.chain }, { on := 2, ground := Ground.guard }], guard := some (2, true) } : Oper)) rfl (fun K hK => ?_) AllReadyH.nil
          go_simp
          (with_reducible refine (ref_Bytes _ _ hlt).mono ?_)
          rintro e w8 ⟨rfl, q1, q2⟩
          rw [show ((w3.alloc (.cells #[.int .i64 0, .int .i64 0, .slice A1 0 c1, .slice A2 0 c2, .slice A3 0 c3, .slice A4 0 c4, .slice A5 0 c5] 33)).drew).heap.size = w3.heap.size + 1 from alloc_sz w3 _] at q1 ⊢
          have hc1 := conv_u8 (own_reads_u8 (l := crcBytes (crcOf (L.take k))) q1) (own_spot q1) 4
          have Q2 := Lib.hid (grownBy_trans' (grownBy_drew (World.grownBy_alloc w3 (.cells #[.int .i64 0, .int .i64 0, .slice A1 0 c1, .slice A2 0 c2, .slice A3 0 c3, .slice A4 0 c4, .slice A5 0 c5] 33) none)) q2 (.inl rfl))
          have Q3 := Lib.hid (Upd.of_grown (grownBy_from_drew q2))
          clear q1 q2
          go_wp2_with fail
          refine hK.out _ _ ?_ (fun hHeld => ?_)
          · exact (HCV.out _ Q2.out)
          clear hK K
          try simp only [Act.put, List.setIfInBounds_toArray, List.set_cons_zero, List.set_cons_succ]
          refine wpAnyH_ready (rs := [8]) (by kernel_rfl) (by simp) ?_
          refine AllReadyH.cons (o := ({ dst := some 58, op := Op.convert 22 9 (Operand.tmp 57), type := 9, pos := "law.go:88", after := #[{ on := 7, ground := Ground.data }, { on := 2, ground := Ground.guard }], guard := some (2, true) } : Oper)) rfl (fun K hK => ?_) AllReadyH.nil
          go_simp
          refine hK.out _ _ ?_ (fun hHeld => ?_)
          · exact (HCV.out _ Q2.out)
          clear hK K
          try simp only [Act.put, List.setIfInBounds_toArray, List.set_cons_zero, List.set_cons_succ]
          refine wpAnyH_take (i := 13) (oi := ({ dst := some 63, op := Op.binOp BinOp.neq 9 (Operand.tmp 58) (Operand.tmp 62) 9, type := 4, pos := "law.go:88", after := #[{ on := 8, ground := Ground.data }, { on := 12, ground := Ground.data }, { on := 2, ground := Ground.guard }], guard := some (2, true) } : Oper)) (v := ?va13) rfl (by kernel_rfl) (by kernel_rfl) (by kernel_rfl) (fun _ _ _ h => h) (Or.inl ⟨by rfl, ?ha13⟩) (by assumption) ?ra13
          case ha13 => (intro w hSw; (try dsimp only at hSw); go_simp; try with_reducible rfl)
          try simp only [Act.put, List.setIfInBounds_toArray, List.set_cons_zero, List.set_cons_succ]
          refine wpAnyH_take (i := 14) (oi := ({ dst := some 64, op := Op.pick (Operand.tmp 52) (Operand.tmp 63) (Operand.const (Value.bool false)), type := 4, pos := "law.go:88", after := #[{ on := 2, ground := Ground.data }, { on := 13, ground := Ground.data }], guard := none } : Oper)) (v := ?va14) rfl (by kernel_rfl) (by kernel_rfl) (by kernel_rfl) (fun _ _ _ h => h) (Or.inl ⟨by rfl, ?ha14⟩) (by assumption) ?ra14
          case ha14 => (intro w hSw; (try dsimp only at hSw); go_simp; try with_reducible rfl)
          try simp only [Act.put, List.setIfInBounds_toArray, List.set_cons_zero, List.set_cons_succ]
          refine wpAnyH_done (by kernel_rfl) ?_ _
          clear hc1 hHeld
          have hcl : ∀ i, i < 7 → w8.cell? ⟨w3.heap.size, i, none⟩ = _ := fun i _ => Q3.out.cellEq (a := ⟨w3.heap.size, i, none⟩) (show w3.heap.size < (w3.alloc (.cells #[.int .i64 0, .int .i64 0, .slice A1 0 c1, .slice A2 0 c2, .slice A3 0 c3, .slice A4 0 c4, .slice A5 0 c5] 33)).heap.size by rw [alloc_sz]; omega) (fun g => by cases g)
          have hb8 := heap_alloc_new w3 (.cells #[.int .i64 0, .int .i64 0, .slice A1 0 c1, .slice A2 0 c2, .slice A3 0 c3, .slice A4 0 c4, .slice A5 0 c5] 33)
          have z0 : w8.cell? ⟨w3.heap.size, 0, none⟩ = some (.int .i64 0) := by rw [hcl 0 (by omega), cell_of hb8]; rfl
          have z1 : w8.cell? ⟨w3.heap.size, 1, none⟩ = some (.int .i64 0) := by rw [hcl 1 (by omega), cell_of hb8]; rfl
          have z2 : w8.cell? ⟨w3.heap.size, 2, none⟩ = some (.slice A1 0 c1) := by rw [hcl 2 (by omega), cell_of hb8]; rfl
          have z3 : w8.cell? ⟨w3.heap.size, 3, none⟩ = some (.slice A2 0 c2) := by rw [hcl 3 (by omega), cell_of hb8]; rfl
          have z4 : w8.cell? ⟨w3.heap.size, 4, none⟩ = some (.slice A3 0 c3) := by rw [hcl 4 (by omega), cell_of hb8]; rfl
          have z5 : w8.cell? ⟨w3.heap.size, 5, none⟩ = some (.slice A4 0 c4) := by rw [hcl 5 (by omega), cell_of hb8]; rfl
          have z6 : w8.cell? ⟨w3.heap.size, 6, none⟩ = some (.slice A5 0 c5) := by rw [hcl 6 (by omega), cell_of hb8]; rfl
          clear hcl hb8
          go_wp2_with (go_at_call 15; refine (same0 _ _ _ _ _ _ _ _ _ _ _ _ _ _ _ _ _ _ _ _ _).mono ?_; rintro e w4 ⟨rfl, hg⟩; have HG := Lib.hid hg; clear hg)
          go_ret
          exact ⟨rfl, HB3.out.trans (((Upd.of_grown Q2.out).trans (Upd.of_grown HG.out) (fun k g => by cases g)).below HB3.out.size (fun k g => by cases g))⟩
        · have h2 := hbad.2
          rw [Nat.add_sub_cancel, if_pos ⟨by omega, he⟩] at h2
          have heb : (crcBytes (crcOf (L.take k)) == L.drop k) = false := by simp [he]
          rw [h2]
          clear hbad h2 h4
          go_wp2_with fail
          refine wp_region_held_drew (S := (fun W => (convert 22 9 (.slice (some ⟨b, o + k, none⟩) 4 (c - k))).run Tryz.prog W = .ok (.string ⟨(L.drop k).toArray⟩) W)) (by kernel_rfl) ?_ (fun hHeld => ?_)
          · exact (HCV.out _ (grownBy_drew (World.grownBy_alloc w3 _ none)))
          refine wpAnyH_take (i := 0) (oi := ({ dst := some 50, op := Op.move (Operand.tmp 11), type := 3, pos := "law.go:88", after := #[], guard := none } : Oper)) (v := ?vb0) rfl (by kernel_rfl) (by kernel_rfl) (by kernel_rfl) (fun _ _ _ h => h) (Or.inl ⟨by rfl, ?hb0⟩) (by assumption) ?rb0
          case hb0 => (intro w hSw; (try dsimp only at hSw); go_simp; try with_reducible rfl)
          try simp only [Act.put, List.setIfInBounds_toArray, List.set_cons_zero, List.set_cons_succ]
          refine wpAnyH_take (i := 1) (oi := ({ dst := some 51, op := Op.binOp BinOp.geq 3 (Operand.tmp 50) (Operand.const (Value.int IntKind.i64 0)) 3, type := 4, pos := "law.go:88", after := #[{ on := 0, ground := Ground.data }], guard := none } : Oper)) (v := ?vb1) rfl (by kernel_rfl) (by kernel_rfl) (by kernel_rfl) (fun _ _ _ h => h) (Or.inl ⟨by rfl, ?hb1⟩) (by assumption) ?rb1
          case hb1 => (intro w hSw; (try dsimp only at hSw); go_simp; try with_reducible rfl)
          try simp only [Act.put, List.setIfInBounds_toArray, List.set_cons_zero, List.set_cons_succ]
          refine wpAnyH_take (i := 2) (oi := ({ dst := some 52, op := Op.move (Operand.tmp 51), type := 4, pos := "law.go:88", after := #[{ on := 1, ground := Ground.data }], guard := none } : Oper)) (v := ?vb2) rfl (by kernel_rfl) (by kernel_rfl) (by kernel_rfl) (fun _ _ _ h => h) (Or.inl ⟨by rfl, ?hb2⟩) (by assumption) ?rb2
          case hb2 => (intro w hSw; (try dsimp only at hSw); go_simp; try with_reducible rfl)
          try simp only [Act.put, List.setIfInBounds_toArray, List.set_cons_zero, List.set_cons_succ]
          refine wpAnyH_take (i := 3) (oi := ({ dst := some 53, op := Op.move (Operand.tmp 5), type := 22, pos := "law.go:88", after := #[{ on := 2, ground := Ground.guard }], guard := some (2, true) } : Oper)) (v := ?vb3) rfl (by kernel_rfl) (by kernel_rfl) (by kernel_rfl) (fun _ _ _ h => h) (Or.inl ⟨by rfl, ?hb3⟩) (by assumption) ?rb3
          case hb3 => (intro w hSw; (try dsimp only at hSw); go_simp; try with_reducible rfl)
          try simp only [Act.put, List.setIfInBounds_toArray, List.set_cons_zero, List.set_cons_succ]
          refine wpAnyH_take (i := 4) (oi := ({ dst := some 54, op := Op.move (Operand.tmp 11), type := 3, pos := "law.go:88", after := #[{ on := 2, ground := Ground.guard }], guard := some (2, true) } : Oper)) (v := ?vb4) rfl (by kernel_rfl) (by kernel_rfl) (by kernel_rfl) (fun _ _ _ h => h) (Or.inl ⟨by rfl, ?hb4⟩) (by assumption) ?rb4
          case hb4 => (intro w hSw; (try dsimp only at hSw); go_simp; try with_reducible rfl)
          try simp only [Act.put, List.setIfInBounds_toArray, List.set_cons_zero, List.set_cons_succ]
          refine wpAnyH_take (i := 5) (oi := ({ dst := some 55, op := Op.slice 22 (Operand.tmp 53) none (some (Operand.tmp 54)) none, type := 22, pos := "law.go:88", after := #[{ on := 3, ground := Ground.data }, { on := 4, ground := Ground.data }, { on := 2, ground := Ground.guard }], guard := some (2, true) } : Oper)) (v := ?vb5) rfl (by kernel_rfl) (by kernel_rfl) (by kernel_rfl) (fun _ _ _ h => h) (Or.inl ⟨by rfl, ?hb5⟩) (by assumption) ?rb5
          case hb5 => (intro w hSw; (try dsimp only at hSw); go_simp; try with_reducible rfl)
          try simp only [Act.put, List.setIfInBounds_toArray, List.set_cons_zero, List.set_cons_succ]
          refine wpAnyH_take (i := 9) (oi := ({ dst := some 59, op := Op.move (Operand.tmp 5), type := 22, pos := "law.go:88", after := #[{ on := 2, ground := Ground.guard }], guard := some (2, true) } : Oper)) (v := ?vb9) rfl (by kernel_rfl) (by kernel_rfl) (by kernel_rfl) (fun _ _ _ h => h) (Or.inl ⟨by rfl, ?hb9⟩) (by assumption) ?rb9
          case hb9 => (intro w hSw; (try dsimp only at hSw); go_simp; try with_reducible rfl)
          try simp only [Act.put, List.setIfInBounds_toArray, List.set_cons_zero, List.set_cons_succ]
          refine wpAnyH_take (i := 10) (oi := ({ dst := some 60, op := Op.move (Operand.tmp 11), type := 3, pos := "law.go:88", after := #[{ on := 2, ground := Ground.guard }], guard := some (2, true) } : Oper)) (v := ?vb10) rfl (by kernel_rfl) (by kernel_rfl) (by kernel_rfl) (fun _ _ _ h => h) (Or.inl ⟨by rfl, ?hb10⟩) (by assumption) ?rb10
          case hb10 => (intro w hSw; (try dsimp only at hSw); go_simp; try with_reducible rfl)
          try simp only [Act.put, List.setIfInBounds_toArray, List.set_cons_zero, List.set_cons_succ]
          refine wpAnyH_take (i := 11) (oi := ({ dst := some 61, op := Op.slice 22 (Operand.tmp 59) (some (Operand.tmp 60)) none none, type := 22, pos := "law.go:88", after := #[{ on := 9, ground := Ground.data }, { on := 10, ground := Ground.data }, { on := 2, ground := Ground.guard }], guard := some (2, true) } : Oper)) (v := ?vb11) rfl (by kernel_rfl) (by kernel_rfl) (by kernel_rfl) (fun _ _ _ h => h) (Or.inl ⟨by rfl, ?hb11⟩) (by assumption) ?rb11
          case hb11 => (intro w hSw; (try dsimp only at hSw); go_simp; try with_reducible rfl)
          try simp only [Act.put, List.setIfInBounds_toArray, List.set_cons_zero, List.set_cons_succ]
          refine wpAnyH_take (i := 12) (oi := ({ dst := some 62, op := Op.convert 22 9 (Operand.tmp 61), type := 9, pos := "law.go:88", after := #[{ on := 11, ground := Ground.data }, { on := 2, ground := Ground.guard }], guard := some (2, true) } : Oper)) (v := ?vb12) rfl (by kernel_rfl) (by kernel_rfl) (by kernel_rfl) (fun _ _ _ h => h) (Or.inl ⟨by rfl, ?hb12⟩) (by assumption) ?rb12
          case hb12 => (intro w hSw; (try dsimp only at hSw); go_simp; try with_reducible rfl)
          try simp only [Act.put, List.setIfInBounds_toArray, List.set_cons_zero, List.set_cons_succ]
          refine wpAnyH_ready (rs := [6]) (by kernel_rfl) (by simp) ?_
          refine AllReadyH.cons (o := ({ dst := some 56, op := Op.call { callee := Callee.value (Operand.func 12), args := #[Operand.tmp 55], argTypes := #[22] }, type := 25, pos := "law.go:88", after := #[{ on := 5, ground := Ground.data }, { on := 2, ground := Ground.chain }, { on := 2, ground := Ground.guard }], guard := some (2, true) } : Oper)) rfl (fun K hK => ?_) AllReadyH.nil
          go_simp
          (with_reducible refine (ref_Of (some ⟨b, o, none⟩) k _ (L.take k) _ (HRT.out _ (grownBy_drew (World.grownBy_alloc w3 _ none))) (by omega)).mono ?_)
          rintro e w' ⟨rfl, rfl⟩
          go_wp2_with fail
          refine hK.out _ _ ?_ (fun hHeld => ?_)
          · exact (HCV.out _ (grownBy_drew (World.grownBy_alloc w3 _ none)))
          clear hK K
          try simp only [Act.put, List.setIfInBounds_toArray, List.set_cons_zero, List.set_cons_succ]
          refine wpAnyH_ready (rs := [7]) (by kernel_rfl) (by simp) ?_
          refine AllReadyH.cons (o := ({ dst := some 57, op := Op.call { callee := Callee.value (Operand.func 11), args := #[Operand.tmp 56], argTypes := #[25] }, type := 22, pos := "law.go:88", after := #[{ on := 6, ground := Ground.data }, { on := 6, ground := Ground.chain }, { on := 2, ground := Ground.guard }], guard := some (2, true) } : Oper)) rfl (fun K hK => ?_) AllReadyH.nil
          go_simp
          (with_reducible refine (ref_Bytes _ _ hlt).mono ?_)
          rintro e w8 ⟨rfl, q1, q2⟩
          rw [show ((w3.alloc (.cells #[.int .i64 0, .int .i64 0, .slice A1 0 c1, .slice A2 0 c2, .slice A3 0 c3, .slice A4 0 c4, .slice A5 0 c5] 33)).drew).heap.size = w3.heap.size + 1 from alloc_sz w3 _] at q1 ⊢
          have hc1 := conv_u8 (own_reads_u8 (l := crcBytes (crcOf (L.take k))) q1) (own_spot q1) 4
          have Q2 := Lib.hid (grownBy_trans' (grownBy_drew (World.grownBy_alloc w3 (.cells #[.int .i64 0, .int .i64 0, .slice A1 0 c1, .slice A2 0 c2, .slice A3 0 c3, .slice A4 0 c4, .slice A5 0 c5] 33) none)) q2 (.inl rfl))
          have Q3 := Lib.hid (Upd.of_grown (grownBy_from_drew q2))
          clear q1 q2
          go_wp2_with fail
          refine hK.out _ _ ?_ (fun hHeld => ?_)
          · exact (HCV.out _ Q2.out)
          clear hK K
          try simp only [Act.put, List.setIfInBounds_toArray, List.set_cons_zero, List.set_cons_succ]
          refine wpAnyH_ready (rs := [8]) (by kernel_rfl) (by simp) ?_
          refine AllReadyH.cons (o := ({ dst := some 58, op := Op.convert 22 9 (Operand.tmp 57), type := 9, pos := "law.go:88", after := #[{ on := 7, ground := Ground.data }, { on := 2, ground := Ground.guard }], guard := some (2, true) } : Oper)) rfl (fun K hK => ?_) AllReadyH.nil
          go_simp
          refine hK.out _ _ ?_ (fun hHeld => ?_)
          · exact (HCV.out _ Q2.out)
          clear hK K
          try simp only [Act.put, List.setIfInBounds_toArray, List.set_cons_zero, List.set_cons_succ]
          refine wpAnyH_take (i := 13) (oi := ({ dst := some 63, op := Op.binOp BinOp.neq 9 (Operand.tmp 58) (Operand.tmp 62) 9, type := 4, pos := "law.go:88", after := #[{ on := 8, ground := Ground.data }, { on := 12, ground := Ground.data }, { on := 2, ground := Ground.guard }], guard := some (2, true) } : Oper)) (v := ?vb13) rfl (by kernel_rfl) (by kernel_rfl) (by kernel_rfl) (fun _ _ _ h => h) (Or.inl ⟨by rfl, ?hb13⟩) (by assumption) ?rb13
          case hb13 => (intro w hSw; (try dsimp only at hSw); go_simp; try with_reducible rfl)
          try simp only [Act.put, List.setIfInBounds_toArray, List.set_cons_zero, List.set_cons_succ]
          refine wpAnyH_take (i := 14) (oi := ({ dst := some 64, op := Op.pick (Operand.tmp 52) (Operand.tmp 63) (Operand.const (Value.bool false)), type := 4, pos := "law.go:88", after := #[{ on := 2, ground := Ground.data }, { on := 13, ground := Ground.data }], guard := none } : Oper)) (v := ?vb14) rfl (by kernel_rfl) (by kernel_rfl) (by kernel_rfl) (fun _ _ _ h => h) (Or.inl ⟨by rfl, ?hb14⟩) (by assumption) ?rb14
          case hb14 => (intro w hSw; (try dsimp only at hSw); go_simp; try with_reducible rfl)
          try simp only [Act.put, List.setIfInBounds_toArray, List.set_cons_zero, List.set_cons_succ]
          refine wpAnyH_done (by kernel_rfl) ?_ _
          clear hc1 hHeld
          have hcl : ∀ i, i < 7 → w8.cell? ⟨w3.heap.size, i, none⟩ = _ := fun i _ => Q3.out.cellEq (a := ⟨w3.heap.size, i, none⟩) (show w3.heap.size < (w3.alloc (.cells #[.int .i64 0, .int .i64 0, .slice A1 0 c1, .slice A2 0 c2, .slice A3 0 c3, .slice A4 0 c4, .slice A5 0 c5] 33)).heap.size by rw [alloc_sz]; omega) (fun g => by cases g)
          have hb8 := heap_alloc_new w3 (.cells #[.int .i64 0, .int .i64 0, .slice A1 0 c1, .slice A2 0 c2, .slice A3 0 c3, .slice A4 0 c4, .slice A5 0 c5] 33)
          have z0 : w8.cell? ⟨w3.heap.size, 0, none⟩ = some (.int .i64 0) := by rw [hcl 0 (by omega), cell_of hb8]; rfl
          have z1 : w8.cell? ⟨w3.heap.size, 1, none⟩ = some (.int .i64 0) := by rw [hcl 1 (by omega), cell_of hb8]; rfl
          have z2 : w8.cell? ⟨w3.heap.size, 2, none⟩ = some (.slice A1 0 c1) := by rw [hcl 2 (by omega), cell_of hb8]; rfl
          have z3 : w8.cell? ⟨w3.heap.size, 3, none⟩ = some (.slice A2 0 c2) := by rw [hcl 3 (by omega), cell_of hb8]; rfl
          have z4 : w8.cell? ⟨w3.heap.size, 4, none⟩ = some (.slice A3 0 c3) := by rw [hcl 4 (by omega), cell_of hb8]; rfl
          have z5 : w8.cell? ⟨w3.heap.size, 5, none⟩ = some (.slice A4 0 c4) := by rw [hcl 5 (by omega), cell_of hb8]; rfl
          have z6 : w8.cell? ⟨w3.heap.size, 6, none⟩ = some (.slice A5 0 c5) := by rw [hcl 6 (by omega), cell_of hb8]; rfl
          clear hcl hb8
          go_wp2_with (go_at_call 15; refine (same0 _ _ _ _ _ _ _ _ _ _ _ _ _ _ _ _ _ _ _ _ _).mono ?_; rintro e w4 ⟨rfl, hg⟩; have HG := Lib.hid hg; clear hg)
          go_ret
          exact ⟨rfl, HB3.out.trans (((Upd.of_grown Q2.out).trans (Upd.of_grown HG.out) (fun k g => by cases g)).below HB3.out.size (fun k g => by cases g))⟩
end Go.Proofs.YtllkjfadeaoicaaGreat
