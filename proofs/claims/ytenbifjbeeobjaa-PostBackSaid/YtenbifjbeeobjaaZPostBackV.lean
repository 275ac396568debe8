/- Part 22 of 33 of the proof of the law PostBack: what is proved is the statement at the end of the last part; its conditions are those of the given row. -/
import Derived.Test.YtenbifjbeeobjaaZPostBackI
import Derived.Test.YtenbifjbeeobjaaZPostBackS
namespace Go.Proofs.Ytenbifjbeeobjaa.Px
open Go.RowKit Go.Proofs.YtenbifjbeeobjaaW.PrintWords Go.Proofs.YtenbifjbeeobjaaW.PrintLast Go.Proofs.YtenbifjbeeobjaaW.PrintMore
attribute [local go_sem] zC zE zJ zK zv zw zB zD
set_option linter.unusedVariables false
set_option linter.unusedSimpArgs false
end Go.Proofs.Ytenbifjbeeobjaa.Px

namespace Go.Proofs.Ytenbifjbeeobjaa.Px
open Go.RowKit Go.Proofs.YtenbifjbeeobjaaW.PrintWords Go.Proofs.YtenbifjbeeobjaaW.PrintLast Go.Proofs.YtenbifjbeeobjaaW.PrintMore
attribute [local go_sem] zC zE zJ zK zv zw zB zD
set_option linter.unusedVariables false
set_option linter.unusedSimpArgs false
def zdO (s : ByteArray) (many most : Int) : List ByteArray × ByteArray × Int := ((zah (ofB s) many most).1, toB (zah (ofB s) many most).2.1, (zah (ofB s) many most).2.2)
theorem zbN (s : ByteArray) (many most : Int) (h1 : (Lit.int .i64 many).wf = true) (h2 : (Lit.int .i64 most).wf = true) (h3 : s.size < 4611686018427387904) (h4 : s.size ≤ 8796093022207 ∨ many ≤ 8796093022207) : zN.f s many most = some (zdO s many most) := by
  unfold zN.f
  rw [if_pos ⟨h1, h2, h3, h4⟩]; rfl
theorem zcZ {t : ByteArray} {most : Int} (h0 : (t.size : Int) ≤ most) (h1 : t.size < 18446744073709551616) (r : Bs) : zav (zcc (ofB t) ++ r) most = (ofB t, r, 0) := by
  rw [zav, zcc, List.append_assoc, zbA (by rw [z9]; exact h1), zbT, if_pos rfl, zbi, if_neg (by rw [z9]; omega)]
  simp only
  rw [if_neg (by rw [List.length_append]; omega), List.take_left, List.drop_left]
theorem zdC {s t r : Bs} {most : Int} (h : zav s most = (t, r, 0)) : s = zcc t ++ r ∧ (t.length : Int) ≤ most ∧ t.length < 18446744073709551616 := by
  unfold zav zbT at h
  split at h
  · rename_i h0
    rcases hq : zM s with ⟨v, q, e⟩
    rw [hq] at h h0
    simp only at h0 h
    subst h0
    obtain ⟨rfl, hv⟩ := zbn hq
    unfold zbi at h
    split at h
    · cases h
    · rename_i h1
      split at h
      · cases h
      · rename_i h2
        simp only [Prod.mk.injEq, and_true] at h
        obtain ⟨rfl, rfl⟩ := h
        have hl : (List.take v q).length = v := by rw [List.length_take]; omega
        refine ⟨?_, by rw [hl]; omega, by rw [hl]; exact hv⟩
        rw [zcc, hl, List.append_assoc, List.take_append_drop]
  · rename_i h0
    simp only [Prod.mk.injEq] at h
    exact absurd h.2.2 h0
theorem zdo (most : Int) : ∀ (l : List ByteArray) (r : Bs) (acc : List ByteArray), (∀ t ∈ l, (t.size : Int) ≤ most ∧ t.size < 18446744073709551616) → zaZ most l.length (za9 l ++ r) acc = (acc ++ l, r, 0)
  | [], r, acc, _ => by simp [zaZ, za9]
  | t :: l, r, acc, h => by
    have e : za9 (t :: l) ++ r = zcc (ofB t) ++ (za9 l ++ r) := by rw [← List.append_assoc]; rfl
    obtain ⟨h1, h2⟩ := h t List.mem_cons_self
    rw [List.length_cons, zaZ, e, zcZ h1 h2, if_pos rfl, zdo most l r _ (fun x hx => h x (List.mem_cons_of_mem _ hx)), zbt]
    simp
theorem zdF (most : Int) : ∀ (n : Nat) (s : Bs) (acc l : List ByteArray) (r : Bs), zaZ most n s acc = (l, r, 0) → ∃ l', l = acc ++ l' ∧ l'.length = n ∧ s = za9 l' ++ r ∧ ∀ t ∈ l', (t.size : Int) ≤ most ∧ t.size < 18446744073709551616
  | 0, s, acc, l, r, h => by
    simp only [zaZ, Prod.mk.injEq, and_true] at h
    obtain ⟨rfl, rfl⟩ := h
    exact ⟨[], by simp, rfl, by simp [za9], by simp⟩
  | n + 1, s, acc, l, r, h => by
    rw [zaZ] at h
    split at h
    · rename_i h0
      obtain ⟨l', rfl, h2, h3, h4⟩ := zdF most n _ _ _ _ h
      rcases hq : zav s most with ⟨t, q, e⟩
      rw [hq] at h0 h3
      simp only at h0 h3
      subst h0
      obtain ⟨h5, h6, h7⟩ := zdC hq
      refine ⟨toB t :: l', by simp, by simp [h2], ?_, ?_⟩
      · rw [h5, h3]
        have e : za9 (toB t :: l') = zcc (ofB (toB t)) ++ za9 l' := rfl
        rw [e, zY, List.append_assoc]
      · intro x hx
        rcases List.mem_cons.1 hx with rfl | hx
        · rw [z5]; exact ⟨h6, h7⟩
        · exact h4 x hx
    · rename_i h0
      simp only [Prod.mk.injEq] at h
      exact absurd h.2.2 h0
theorem zcO {l : List ByteArray} {many most : Int} (hm : (l.length : Int) ≤ many) (hl : l.length < 18446744073709551616) (h : ∀ t ∈ l, (t.size : Int) ≤ most ∧ t.size < 18446744073709551616) (r : Bs) : zah (zbw l ++ r) many most = (l, r, 0) := by
  rw [zah, zbw, List.append_assoc, zbA hl, zbS, if_pos rfl, if_neg (by simp only; omega)]
  simp only
  rw [zdo most l r [] h, List.nil_append]
theorem zct {s r : Bs} {l : List ByteArray} {many most : Int} (h : zah s many most = (l, r, 0)) : s = zbw l ++ r ∧ (l.length : Int) ≤ many ∧ l.length < 18446744073709551616 ∧ ∀ t ∈ l, (t.size : Int) ≤ most ∧ t.size < 18446744073709551616 := by
  unfold zah zbS at h
  split at h
  · rename_i h0
    rcases hq : zM s with ⟨v, q, e⟩
    rw [hq] at h h0
    simp only at h0 h
    subst h0
    obtain ⟨rfl, hv⟩ := zbn hq
    split at h
    · cases h
    · rename_i h1
      obtain ⟨l', hl', h2, h3, h4⟩ := zdF most v q [] l r h
      rw [List.nil_append] at hl'
      subst hl'
      refine ⟨?_, by omega, by omega, h4⟩
      rw [zbw, h2, h3, List.append_assoc]
  · rename_i h0
    simp only [Prod.mk.injEq] at h
    exact absurd h.2.2 h0
end Go.Proofs.Ytenbifjbeeobjaa.Px

namespace Go.Proofs.Ytenbifjbeeobjaa.Px
open Go.RowKit Go.Proofs.YtenbifjbeeobjaaW.PrintWords Go.Proofs.YtenbifjbeeobjaaW.PrintLast Go.Proofs.YtenbifjbeeobjaaW.PrintMore
attribute [local go_sem] zC zE zJ zK zv zw zB zD
set_option linter.unusedVariables false
set_option linter.unusedSimpArgs false
end Go.Proofs.Ytenbifjbeeobjaa.Px

namespace Go.Proofs.Ytenbifjbeeobjaa.Px
open Go.RowKit Go.Proofs.YtenbifjbeeobjaaW.PrintWords Go.Proofs.YtenbifjbeeobjaaW.PrintLast Go.Proofs.YtenbifjbeeobjaaW.PrintMore
attribute [local go_sem] zC zE zJ zK zv zw zB zD
set_option linter.unusedVariables false
set_option linter.unusedSimpArgs false
end Go.Proofs.Ytenbifjbeeobjaa.Px

namespace Go.Proofs.Ytenbifjbeeobjaa.Px
open Go.RowKit Go.Proofs.YtenbifjbeeobjaaW.PrintWords Go.Proofs.YtenbifjbeeobjaaW.PrintLast Go.Proofs.YtenbifjbeeobjaaW.PrintMore
attribute [local go_sem] zC zE zJ zK zv zw zB zD
set_option linter.unusedVariables false
set_option linter.unusedSimpArgs false
def zb7 (o q : Int) (e : Bool) (s : Bs) : Int × Int × List ByteArray × Int :=
  if e = true ∧ o ≤ 64 ∧ q ≤ 1073741824 ∧ (zah s 4 48).2.2 = 0 ∧ (zah s 4 48).2.1 = [] ∧ zcM o q (zah s 4 48).1 = true then (o, q, (zah s 4 48).1, 0) else (0, 0, [], 3)
theorem zcR {o q : Int} {e : Bool} {s : Bs} (h : e = true ∧ o ≤ 64 ∧ q ≤ 1073741824 ∧ (zah s 4 48).2.2 = 0 ∧ (zah s 4 48).2.1 = [] ∧ zcM o q (zah s 4 48).1 = true) : zb7 o q e s = (o, q, (zah s 4 48).1, 0) := if_pos h
theorem zbI {o q : Int} {e : Bool} {s : Bs} (h : ¬ (e = true ∧ o ≤ 64 ∧ q ≤ 1073741824 ∧ (zah s 4 48).2.2 = 0 ∧ (zah s 4 48).2.1 = [] ∧ zcM o q (zah s 4 48).1 = true)) : zb7 o q e s = (0, 0, [], 3) := if_neg h
def zba (s : Bs) : Int × Int × List ByteArray × Int :=
  zb7 (zM s).1 (zM (zM s).2.1).1 (decide ((zM s).2.2 = 0 ∧ (zM (zM s).2.1).2.2 = 0)) (zM (zM s).2.1).2.1
theorem zex (s : ByteArray) : s.toList = ([] : List UInt8) ↔ ofB s = [] := by rw [zaI]
theorem zfv (s : Bs) (o q : Nat) (e b : Bool) (hs : s.length < 4611686018427387904) (ho : o < 18446744073709551616) (hq : q < 18446744073709551616) (hb : b = true ↔ ¬ (e = true ∧ (o : Int) ≤ 64 ∧ (q : Int) ≤ 1073741824)) :
    Ev (fun k => zae.j0 k (toB s) (o : Int) (q : Int) b) (zb7 o q e s) := by
  refine Ev.step (fun k => by rw [zae.j0]) ?_
  by_cases h : e = true ∧ (o : Int) ≤ 64 ∧ (q : Int) ≤ 1073741824
  · obtain ⟨h1, h2, h3⟩ := h
    refine zak (fun hh => hb.1 hh ⟨h1, h2, h3⟩) (zam (zbN (toB s) 4 48 (by decide) (by decide) (by rw [z5]; exact hs) (.inr (by omega))) ?_)
    simp only [zdO, zY]
    rw [zaL (by omega) (by omega), zaL (by omega) (by omega)]
    by_cases h4 : (zah s 4 48).2.2 = 0
    · refine zX h4 ?_
      by_cases h5 : (zah s 4 48).2.1 = []
      · refine zX (by rw [zex, zY]; exact h5) (zam rfl ?_)
        by_cases h6 : zcM o q (zah s 4 48).1 = true
        · rw [zcR ⟨h1, h2, h3, h4, h5, h6⟩]
          exact zX h6 (Ev.now _)
        · rw [zbI (fun hh => h6 hh.2.2.2.2.2)]
          exact zak h6 (Ev.now _)
      · rw [zbI (fun hh => h5 hh.2.2.2.2.1)]
        exact zak (by rw [zex, zY]; exact h5) (Ev.now _)
    · rw [zbI (fun hh => h4 hh.2.2.2.1)]
      exact zak h4 (Ev.now _)
  · rw [zbI (fun hh => h ⟨hh.1, hh.2.1, hh.2.2.1⟩)]
    exact zX (hb.2 h) (Ev.now _)
theorem zfu (s : ByteArray) (hs : s.size < 4611686018427387904) : Ev (fun k => zae.f k s) (zba (ofB s)) := by
  have h1 := zbz (ofB s)
  have h2 := zbz (zM (ofB s)).2.1
  have h3 := zby (ofB s)
  have h4 := zby (zM (ofB s)).2.1
  rw [z9] at h1
  have t2 := zbu (zbs s).2.1 (by simp only [zbs, z5]; omega)
  refine Ev.bind (zbu s hs) (Ev.bind t2 ?_)
  simp only [zbs, zY]
  have key := fun b => zfv (zM (zM (ofB s)).2.1).2.1 (zM (ofB s)).1 (zM (zM (ofB s)).2.1).1 (decide ((zM (ofB s)).2.2 = 0 ∧ (zM (zM (ofB s)).2.1).2.2 = 0)) b (by omega) h3 h4
  by_cases e1 : (zM (ofB s)).2.2 = 0
  · refine zX e1 ?_
    by_cases e2 : (zM (zM (ofB s)).2.1).2.2 = 0
    · refine zX e2 ?_
      by_cases e3 : ((zM (ofB s)).1 : Int) > 64
      · exact zX e3 (key true (by simp [e1, e2]; omega))
      · exact zak e3 (key _ (by simp [e1, e2]; omega))
    · exact zak e2 (key true (by simp [e2]))
  · exact zak e1 (key true (by simp [e1]))
theorem ze6 {s : Bs} {o q : Int} {l : List ByteArray} (h : zba s = (o, q, l, 0)) : s = zcK o q l ∧ zcM o q l = true := by
  unfold zba zb7 at h
  split at h
  · rename_i hc
    obtain ⟨h1, h2, h3, h4, h5, h6⟩ := hc
    obtain ⟨h7, h8⟩ := of_decide_eq_true h1
    simp only [Prod.mk.injEq, and_true] at h
    obtain ⟨rfl, rfl, rfl⟩ := h
    refine ⟨?_, h6⟩
    rcases hq : zM s with ⟨v, r, e⟩
    rw [hq] at h4 h5 h7 h8
    simp only at h4 h5 h7 h8 ⊢
    subst h7
    obtain ⟨rfl, _⟩ := zbn hq
    rcases hq2 : zM r with ⟨v2, r2, e2⟩
    rw [hq2] at h4 h5 h8
    simp only at h4 h5 h8 ⊢
    subst h8
    obtain ⟨rfl, _⟩ := zbn hq2
    rcases hq3 : zah r2 4 48 with ⟨l, r3, e3⟩
    rw [hq3] at h4 h5
    simp only at h4 h5 ⊢
    subst h4 h5
    obtain ⟨h9, _⟩ := zct hq3
    rw [List.append_nil] at h9
    rw [zcK, ← h9, Int.toNat_natCast, Int.toNat_natCast, List.append_assoc]
  · simp at h
theorem zdR {o q : Int} {l : List ByteArray} (h : zcM o q l = true) : zba (zcK o q l) = (o, q, l, 0) := by
  obtain ⟨h1, h2, h3, h4, h5, h6, h7⟩ := (zdM o q l).1 h
  obtain ⟨a, rfl⟩ := Int.eq_ofNat_of_zero_le (show 0 ≤ o by omega)
  obtain ⟨b, rfl⟩ := Int.eq_ofNat_of_zero_le (show 0 ≤ q by omega)
  have e1 : zM (zcK a b l) = (a, zaN b ++ zbw l, 0) := by
    rw [zcK, Int.toNat_natCast, Int.toNat_natCast, List.append_assoc]
    exact zbA (by omega) _
  have e2 : zM (zaN b ++ zbw l) = (b, zbw l, 0) := zbA (by omega) _
  have e3 : zah (zbw l) 4 48 = (l, [], 0) := by
    have := zcO (l := l) (many := 4) (most := 48) (by omega) (by omega) (fun t ht => by have := h7 t ht; omega) []
    rwa [List.append_nil] at this
  rw [zba, e1]
  simp only
  rw [e2]
  simp only
  rw [zcR (by rw [e3]; exact ⟨by simp, h2, h4, rfl, rfl, h⟩), e3]
end Go.Proofs.Ytenbifjbeeobjaa.Px

namespace Go.Proofs.Ytenbifjbeeobjaa.Px
open Go.RowKit Go.Proofs.YtenbifjbeeobjaaW.PrintWords Go.Proofs.YtenbifjbeeobjaaW.PrintLast Go.Proofs.YtenbifjbeeobjaaW.PrintMore
attribute [local go_sem] zC zE zJ zK zv zw zB zD
set_option linter.unusedVariables false
set_option linter.unusedSimpArgs false
def zA.l0 : Nat → List (zR) → List (zR) → Int → Option (Bool)
  | 0, _, _, _ => none
  | k + 1, x0, x1, x5 => if x5 < (x0.length : Int) then (if 0 ≤ x5 then (if x5 < (x1.length : Int) then ((za2.f k ((z7 x0 x5).f0) ((z7 x0 x5).f1) ((z7 x0 x5).f2) ((z7 x1 x5).f0) ((z7 x1 x5).f1) ((z7 x1 x5).f2)).bind fun t390 => (if t390 = true then (zA.l0 k x0 x1 (wrap64 (x5 + 1))) else (some false))) else (none)) else (none)) else (some true)
def zA.f (k : Nat) (l0 : List (zR)) (l1 : List (zR)) : Option (Bool) := if (l0.length : Int) = (l1.length : Int) then (zA.l0 k l0 l1 0) else (some false)
def zA.T6 : Bool × List (List Nat × List Nat) := (true, [([], []), ([], []), ([0, 1], [0, 1]), ([2], [2]), ([], []), ([], []), ([4, 5], [4, 5]), ([6], [6]), ([3, 7], [3, 7]), ([8, 8, 0, 1, 2, 3, 4, 5, 6, 7, 8], [8])])
def zA.B6 : List Nat := [0, 0, 3, 7, 0, 0, 48, 112, 255, 511]
theorem zA.tab6 : zb3 .any (ze7 Try.f47 6) = zA.T6 := by kernel_rfl
theorem zA.bits6 : zbZ zA.T6.2 zA.B6 = true := by kernel_rfl
set_option maxHeartbeats 8000000 in
set_option maxRecDepth 100000 in
theorem zA.calls (k : Nat) (A0 : Option Addr) (c0 : Nat) (l0 : List (zR)) (A1 : Option Addr) (c1 : Nat) (l1 : List (zR)) (r : Bool) (w : World) (hr0 : Kd.C zbB w A0 l0.length l0) (hc0 : l0.length ≤ c0) (hr1 : Kd.C zbB w A1 l1.length l1) (hc1 : l1.length ≤ c1) (h : zA.f k l0 l1 = some r) :
    Calls Try.prog 47 #[.slice A0 l0.length c0, .slice A1 l1.length c1] w fun e w' => e = .returned (.bool r) ∧ Below w.heap.size w w' := by
  have hu101 := Try.underlying101
  have HR0 := zb.mk hr0
  have HC0 := zb.mk hc0
  clear hr0 hc0
  have HR1 := zb.mk hr1
  have HC1 := zb.mk hc1
  clear hr1 hc1
  have HB := zb.mk (Below.refl w.heap.size w)
  have H : (if (l0.length : Int) = (l1.length : Int) then (zA.l0 k l0 l1 0) else (some false)) = some r := h
  clear h
  by_cases c3 : (l0.length : Int) = (l1.length : Int)
  · rw [if_pos c3] at H
    have c3b0 : ((l0.length : Int) == (l1.length : Int)) = true := beq_iff_eq.mpr c3
    have c3b1 : ((l0.length : Int) != (l1.length : Int)) = false := bne_eq_false_iff_eq.mpr c3
    have c3b2 : (l0.length == l1.length) = true := by first | simpa using c3 | (simp at c3 ⊢; omega)
    clear c3
    have H' := zb.mk H
    clear H
    go_enter Try.func47, Try.ntmps47
    go_wp2
    go_loopg [5] k (fun kq v5 w' => ∃ (x5_1 : Int), v5 = .int .i64 x5_1 ∧ zb (zA.l0 kq l0 l1 x5_1 = some r) ∧ zb (kq ≤ k) ∧ zb (Below w.heap.size w w'))
    case atStart => exact ⟨(0), (by first | rfl | (simp; done) | (simp [*]; done)), H', ⟨Nat.le_refl _⟩, ⟨by repeat (first | (with_reducible first | exact HB.out | apply zi | apply zd | apply zj) | exact HB.out)⟩⟩
    case round =>
      clear H'
      try clear c1
      try clear p2
      try clear c3
      try clear c3b0
      try clear c3b1
      try clear c3b2
      obtain ⟨x5_1, rfl, HA, HK1, HB⟩ := hrel
      cases gk with
      | zero => exact absurd HA.out (by simp [zA.l0])
      | succ k1 =>
        have H := HA.out
        clear HA
        simp only [zA.l0] at H
        by_cases c4 : x5_1 < (l0.length : Int)
        · rw [if_pos c4] at H
          have c4b0 : decide (x5_1 < (l0.length : Int)) = true := decide_eq_true c4
          clear c4
          by_cases c5 : 0 ≤ x5_1
          · rw [if_pos c5] at H
            have c5b0 : decide (0 ≤ x5_1) = true := decide_eq_true c5
            clear c5
            by_cases c6 : x5_1 < (l1.length : Int)
            · rw [if_pos c6] at H
              have c6b0 : decide (x5_1 < (l1.length : Int)) = true := decide_eq_true c6
              clear c6
              replace H := Option.bind_eq_some_iff.mp H
              obtain ⟨t390, A70, H⟩ := H
              replace H : (if t390 = true then (zA.l0 k1 l0 l1 (wrap64 (x5_1 + 1))) else (some false)) = some r := H
              have A7 := zb.mk A70
              clear A70
              by_cases c8 : t390 = true
              · subst c8
                have H1 : (zA.l0 k1 l0 l1 (wrap64 (x5_1 + 1))) = some r := by rw [if_pos rfl] at H; exact H
                clear H
                have H := H1
                clear H1
                have H' := zb.mk H
                clear H
                try go_wp2
                have n0_ := zb.mk (zj HB.out)
                clear HB
                have HB := n0_
                clear n0_
                have p388 : 0 ≤ (x5_1 : Int) := of_decide_eq_true (by first | (with_reducible assumption) | assumption)
                have q388 : x5_1 < (l0.length : Int) := of_decide_eq_true (by first | (with_reducible assumption) | assumption)
                obtain ⟨ad388, A388_2, c388_2, e388, hx388_0, hx388_1, hx388_2, hl388_2, hi388_2⟩ := zc7 HR0.out x5_1 p388 q388
                have hw388_2 := hx388_2
                have hw388_1 := hx388_1
                have hw388_0 := hx388_0
                cases e388
                replace hx388_0 := (HB.out.cell (World.block_lt_of_cell? w _ hx388_0)).trans hx388_0
                replace hx388_1 := (HB.out.cell (World.block_lt_of_cell? w _ hx388_1)).trans hx388_1
                replace hx388_2 := (HB.out.cell (World.block_lt_of_cell? w _ hx388_2)).trans hx388_2
                have HR388_2 := zb.mk hi388_2
                have HC388_2 := zb.mk hl388_2
                clear hi388_2 hl388_2
                replace p388 := eq_true p388
                replace q388 := eq_true q388
                have p389 : 0 ≤ (x5_1 : Int) := of_decide_eq_true (by first | (with_reducible assumption) | assumption)
                have q389 : x5_1 < (l1.length : Int) := of_decide_eq_true (by first | (with_reducible assumption) | assumption)
                obtain ⟨ad389, A389_2, c389_2, e389, hx389_0, hx389_1, hx389_2, hl389_2, hi389_2⟩ := zc7 HR1.out x5_1 p389 q389
                have hw389_2 := hx389_2
                have hw389_1 := hx389_1
                have hw389_0 := hx389_0
                cases e389
                replace hx389_0 := (HB.out.cell (World.block_lt_of_cell? w _ hx389_0)).trans hx389_0
                replace hx389_1 := (HB.out.cell (World.block_lt_of_cell? w _ hx389_1)).trans hx389_1
                replace hx389_2 := (HB.out.cell (World.block_lt_of_cell? w _ hx389_2)).trans hx389_2
                have HR389_2 := zb.mk hi389_2
                have HC389_2 := zb.mk hl389_2
                clear hi389_2 hl389_2
                replace p389 := eq_true p389
                replace q389 := eq_true q389
                refine zdq (n := 10) (S := fun w' => w'.cell? (ad388.add ((x5_1).toNat * 3)) = some (.int .i64 ((z7 l0 x5_1).f0)) ∧ w'.cell? ⟨(ad388.add ((x5_1).toNat * 3)).block, (ad388.add ((x5_1).toNat * 3)).off + 1, none⟩ = some (.int .i64 ((z7 l0 x5_1).f1)) ∧ w'.cell? ⟨(ad388.add ((x5_1).toNat * 3)).block, (ad388.add ((x5_1).toNat * 3)).off + 2, none⟩ = some (.slice A388_2 ((z7 l0 x5_1).f2).length c388_2) ∧ w'.cell? (ad389.add ((x5_1).toNat * 3)) = some (.int .i64 ((z7 l1 x5_1).f0)) ∧ w'.cell? ⟨(ad389.add ((x5_1).toNat * 3)).block, (ad389.add ((x5_1).toNat * 3)).off + 1, none⟩ = some (.int .i64 ((z7 l1 x5_1).f1)) ∧ w'.cell? ⟨(ad389.add ((x5_1).toNat * 3)).block, (ad389.add ((x5_1).toNat * 3)).off + 2, none⟩ = some (.slice A389_2 ((z7 l1 x5_1).f2).length c389_2)) (ds := []) #[false, false, false, false, false, false, false, false, false, false] (by kernel_rfl) rfl rfl ⟨((HB.out.cell (World.block_lt_of_cell? w _ hw388_0)).trans hw388_0), ((HB.out.cell (World.block_lt_of_cell? w _ hw388_1)).trans hw388_1), ((HB.out.cell (World.block_lt_of_cell? w _ hw388_2)).trans hw388_2), ((HB.out.cell (World.block_lt_of_cell? w _ hw389_0)).trans hw389_0), ((HB.out.cell (World.block_lt_of_cell? w _ hw389_1)).trans hw389_1), ((HB.out.cell (World.block_lt_of_cell? w _ hw389_2)).trans hw389_2)⟩ (fun hHeld => ?_); refine zbW zA.tab6 zA.bits6 (fun HT_ HW_ => ?_)
                generalize wr.drew = w9 at HB HR388_2 HR389_2 hx388_0 hx388_1 hx388_2 hx389_0 hx389_1 hx389_2 hHeld ⊢
                refine zal (i := 0) (N := some 18) (v := ?_) (a' := ?_) #[true, false, false, false, false, false, false, false, false, false] rfl rfl (z8 HT_.out (by kernel_rfl)) (fun _ _ _ h => h) (Or.inl ⟨by rfl, ?_⟩) ?_ ?_
                rotate_left
                · intro w'
                  go_simp
                  with_reducible rfl
                rotate_left
                · simp only [Act.put, List.setIfInBounds_toArray, List.set_cons_zero, List.set_cons_succ, zU, zW]
                  rfl
                refine zal (i := 1) (N := some 19) (v := ?_) (a' := ?_) #[true, true, false, false, false, false, false, false, false, false] rfl rfl (z8 HT_.out (by kernel_rfl)) (fun _ _ _ h => h) (Or.inl ⟨by rfl, ?_⟩) ?_ ?_
                rotate_left
                · intro w'
                  go_simp
                  with_reducible rfl
                rotate_left
                · simp only [Act.put, List.setIfInBounds_toArray, List.set_cons_zero, List.set_cons_succ, zU, zW]
                  rfl
                refine zal (i := 2) (N := some 20) (v := ?_) (a' := ?_) #[true, true, true, false, false, false, false, false, false, false] rfl rfl (z8 HT_.out (by kernel_rfl)) (fun _ _ _ h => h) (Or.inl ⟨by rfl, ?_⟩) ?_ ?_
                rotate_left
                · intro w'
                  go_simp
                  with_reducible rfl
                rotate_left
                · simp only [Act.put, List.setIfInBounds_toArray, List.set_cons_zero, List.set_cons_succ, zU, zW]
                  rfl
                refine zal (i := 4) (N := some 22) (v := ?_) (a' := ?_) #[true, true, true, false, true, false, false, false, false, false] rfl rfl (z8 HT_.out (by kernel_rfl)) (fun _ _ _ h => h) (Or.inl ⟨by rfl, ?_⟩) ?_ ?_
                rotate_left
                · intro w'
                  go_simp
                  with_reducible rfl
                rotate_left
                · simp only [Act.put, List.setIfInBounds_toArray, List.set_cons_zero, List.set_cons_succ, zU, zW]
                  rfl
                refine zal (i := 5) (N := some 23) (v := ?_) (a' := ?_) #[true, true, true, false, true, true, false, false, false, false] rfl rfl (z8 HT_.out (by kernel_rfl)) (fun _ _ _ h => h) (Or.inl ⟨by rfl, ?_⟩) ?_ ?_
                rotate_left
                · intro w'
                  go_simp
                  with_reducible rfl
                rotate_left
                · simp only [Act.put, List.setIfInBounds_toArray, List.set_cons_zero, List.set_cons_succ, zU, zW]
                  rfl
                refine zal (i := 6) (N := some 24) (v := ?_) (a' := ?_) #[true, true, true, false, true, true, true, false, false, false] rfl rfl (z8 HT_.out (by kernel_rfl)) (fun _ _ _ h => h) (Or.inl ⟨by rfl, ?_⟩) ?_ ?_
                rotate_left
                · intro w'
                  go_simp
                  with_reducible rfl
                rotate_left
                · simp only [Act.put, List.setIfInBounds_toArray, List.set_cons_zero, List.set_cons_succ, zU, zW]
                  rfl
                refine take_ (i := 3) (N := some 21) (v := ?_) (a' := ?_) #[true, true, true, true, true, true, true, false, false, false] rfl rfl (zaP HT_.out HW_.out (by kernel_rfl)) (fun _ _ _ h => h) (Or.inl ⟨by rfl, ?_⟩) hHeld ?_ ?_
                rotate_left
                · rintro w' ⟨s0, s1, s2, s3, s4, s5⟩
                  go_simp
                  with_reducible rfl
                rotate_left
                · simp only [Act.put, List.setIfInBounds_toArray, List.set_cons_zero, List.set_cons_succ, zU, zW]
                  rfl
                refine take_ (i := 7) (N := some 25) (v := ?_) (a' := ?_) #[true, true, true, true, true, true, true, true, false, false] rfl rfl (zaP HT_.out HW_.out (by kernel_rfl)) (fun _ _ _ h => h) (Or.inl ⟨by rfl, ?_⟩) hHeld ?_ ?_
                rotate_left
                · rintro w' ⟨s0, s1, s2, s3, s4, s5⟩
                  go_simp
                  with_reducible rfl
                rotate_left
                · simp only [Act.put, List.setIfInBounds_toArray, List.set_cons_zero, List.set_cons_succ, zU, zW]
                  rfl
                refine zdL (i := 8) (N := some 26) #[true, true, true, true, true, true, true, true, true, false] rfl rfl (zbO HT_.out (by kernel_rfl)) (by decide) (fun K hK => ?_)
                refine zcp Try.func70 (by kernel_rfl) rfl #[.agg #[.int .i64 ((z7 l0 x5_1).f0), .int .i64 ((z7 l0 x5_1).f1), .slice A388_2 ((z7 l0 x5_1).f2).length c388_2], .agg #[.int .i64 ((z7 l1 x5_1).f0), .int .i64 ((z7 l1 x5_1).f1), .slice A389_2 ((z7 l1 x5_1).f2).length c389_2]] (by rfl) rfl rfl (by (try simp only [List.map_toArray, List.map_cons, List.map_nil]); first | done | rfl | (simp only [List.length_drop, List.length_take]; rfl)) ?_
                with_reducible refine (za2.calls k1 ((z7 l0 x5_1).f0) ((z7 l0 x5_1).f1) _ _ ((z7 l0 x5_1).f2) ((z7 l1 x5_1).f0) ((z7 l1 x5_1).f1) _ _ ((z7 l1 x5_1).f2) true _ ?side1 ?side2 ?side3 ?side4 A7.out).mono ?_
                (case side1 => repeat (first | exact (Kd.C_below HR388_2.out HB.out) | (with_reducible refine Kd.C_alloc ?_ _) | (with_reducible refine Kd.C_drewN ?_ _) | (with_reducible refine Kd.C_drew ?_)))
                (case side2 => exact HC388_2.out)
                (case side3 => repeat (first | exact (Kd.C_below HR389_2.out HB.out) | (with_reducible refine Kd.C_alloc ?_ _) | (with_reducible refine Kd.C_drewN ?_ _) | (with_reducible refine Kd.C_drew ?_)))
                (case side4 => exact HC389_2.out)
                rintro e w10 ⟨rfl, hb⟩
                refine ⟨_, rfl, ?_⟩
                have n0_ := zb.mk (zl (by repeat (first | (with_reducible first | exact HB.out | apply zi | apply zd | apply zj) | exact HB.out)) hb)
                clear HB
                have HB := n0_
                clear n0_
                (try clear hb)
                (try clear hb2)
                (try clear hk)
                (try clear hi)
                refine hK.out _ _ ⟨((HB.out.cell (World.block_lt_of_cell? w _ hw388_0)).trans hw388_0), ((HB.out.cell (World.block_lt_of_cell? w _ hw388_1)).trans hw388_1), ((HB.out.cell (World.block_lt_of_cell? w _ hw388_2)).trans hw388_2), ((HB.out.cell (World.block_lt_of_cell? w _ hw389_0)).trans hw389_0), ((HB.out.cell (World.block_lt_of_cell? w _ hw389_1)).trans hw389_1), ((HB.out.cell (World.block_lt_of_cell? w _ hw389_2)).trans hw389_2)⟩ (fun hHeld => ?_)
                clear hK K
                refine zcq (a' := ?_) ?_ ?_
                rotate_left
                · show Act.put _ (some 26) _ = _
                  simp only [Act.put, List.setIfInBounds_toArray, List.set_cons_zero, List.set_cons_succ, zU, zW]
                  rfl
                refine zal (i := 9) (N := some 6) (v := ?_) (a' := ?_) #[true, true, true, true, true, true, true, true, true, true] rfl rfl (z8 HT_.out (by kernel_rfl)) (fun _ _ _ h => h) (Or.inl ⟨by rfl, ?_⟩) ?_ ?_
                rotate_left
                · intro w'
                  go_simp
                  with_reducible rfl
                rotate_left
                · simp only [Act.put, List.setIfInBounds_toArray, List.set_cons_zero, List.set_cons_succ, zU, zW]
                  rfl
                refine zeA (zcI HT_.out (by kernel_rfl)) ?_
                try go_wp2
                go_roundg k1
                case measure => have := HK1.out; omega
                case rel => exact ⟨(wrap64 (x5_1 + 1)), (by first | rfl | (simp; done) | (simp [*]; done)), H', ⟨by have := HK1.out; omega⟩, ⟨by repeat (first | (with_reducible first | exact HB.out | apply zi | apply zd | apply zj) | exact HB.out)⟩⟩
              · replace c8 := Bool.eq_false_iff.mpr c8
                subst c8
                have H1 : (some false) = some r := by rw [if_neg (show ¬ (false = true) by decide)] at H; exact H
                clear H
                have H := H1
                clear H1
                obtain rfl := Option.some.inj H
                try go_wp2
                have n0_ := zb.mk (zj HB.out)
                clear HB
                have HB := n0_
                clear n0_
                have p388 : 0 ≤ (x5_1 : Int) := of_decide_eq_true (by first | (with_reducible assumption) | assumption)
                have q388 : x5_1 < (l0.length : Int) := of_decide_eq_true (by first | (with_reducible assumption) | assumption)
                obtain ⟨ad388, A388_2, c388_2, e388, hx388_0, hx388_1, hx388_2, hl388_2, hi388_2⟩ := zc7 HR0.out x5_1 p388 q388
                have hw388_2 := hx388_2
                have hw388_1 := hx388_1
                have hw388_0 := hx388_0
                cases e388
                replace hx388_0 := (HB.out.cell (World.block_lt_of_cell? w _ hx388_0)).trans hx388_0
                replace hx388_1 := (HB.out.cell (World.block_lt_of_cell? w _ hx388_1)).trans hx388_1
                replace hx388_2 := (HB.out.cell (World.block_lt_of_cell? w _ hx388_2)).trans hx388_2
                have HR388_2 := zb.mk hi388_2
                have HC388_2 := zb.mk hl388_2
                clear hi388_2 hl388_2
                replace p388 := eq_true p388
                replace q388 := eq_true q388
                have p389 : 0 ≤ (x5_1 : Int) := of_decide_eq_true (by first | (with_reducible assumption) | assumption)
                have q389 : x5_1 < (l1.length : Int) := of_decide_eq_true (by first | (with_reducible assumption) | assumption)
                obtain ⟨ad389, A389_2, c389_2, e389, hx389_0, hx389_1, hx389_2, hl389_2, hi389_2⟩ := zc7 HR1.out x5_1 p389 q389
                have hw389_2 := hx389_2
                have hw389_1 := hx389_1
                have hw389_0 := hx389_0
                cases e389
                replace hx389_0 := (HB.out.cell (World.block_lt_of_cell? w _ hx389_0)).trans hx389_0
                replace hx389_1 := (HB.out.cell (World.block_lt_of_cell? w _ hx389_1)).trans hx389_1
                replace hx389_2 := (HB.out.cell (World.block_lt_of_cell? w _ hx389_2)).trans hx389_2
                have HR389_2 := zb.mk hi389_2
                have HC389_2 := zb.mk hl389_2
                clear hi389_2 hl389_2
                replace p389 := eq_true p389
                replace q389 := eq_true q389
                refine zdq (n := 10) (S := fun w' => w'.cell? (ad388.add ((x5_1).toNat * 3)) = some (.int .i64 ((z7 l0 x5_1).f0)) ∧ w'.cell? ⟨(ad388.add ((x5_1).toNat * 3)).block, (ad388.add ((x5_1).toNat * 3)).off + 1, none⟩ = some (.int .i64 ((z7 l0 x5_1).f1)) ∧ w'.cell? ⟨(ad388.add ((x5_1).toNat * 3)).block, (ad388.add ((x5_1).toNat * 3)).off + 2, none⟩ = some (.slice A388_2 ((z7 l0 x5_1).f2).length c388_2) ∧ w'.cell? (ad389.add ((x5_1).toNat * 3)) = some (.int .i64 ((z7 l1 x5_1).f0)) ∧ w'.cell? ⟨(ad389.add ((x5_1).toNat * 3)).block, (ad389.add ((x5_1).toNat * 3)).off + 1, none⟩ = some (.int .i64 ((z7 l1 x5_1).f1)) ∧ w'.cell? ⟨(ad389.add ((x5_1).toNat * 3)).block, (ad389.add ((x5_1).toNat * 3)).off + 2, none⟩ = some (.slice A389_2 ((z7 l1 x5_1).f2).length c389_2)) (ds := []) #[false, false, false, false, false, false, false, false, false, false] (by kernel_rfl) rfl rfl ⟨((HB.out.cell (World.block_lt_of_cell? w _ hw388_0)).trans hw388_0), ((HB.out.cell (World.block_lt_of_cell? w _ hw388_1)).trans hw388_1), ((HB.out.cell (World.block_lt_of_cell? w _ hw388_2)).trans hw388_2), ((HB.out.cell (World.block_lt_of_cell? w _ hw389_0)).trans hw389_0), ((HB.out.cell (World.block_lt_of_cell? w _ hw389_1)).trans hw389_1), ((HB.out.cell (World.block_lt_of_cell? w _ hw389_2)).trans hw389_2)⟩ (fun hHeld => ?_); refine zbW zA.tab6 zA.bits6 (fun HT_ HW_ => ?_)
                generalize wr.drew = w11 at HB HR388_2 HR389_2 hx388_0 hx388_1 hx388_2 hx389_0 hx389_1 hx389_2 hHeld ⊢
                refine zal (i := 0) (N := some 18) (v := ?_) (a' := ?_) #[true, false, false, false, false, false, false, false, false, false] rfl rfl (z8 HT_.out (by kernel_rfl)) (fun _ _ _ h => h) (Or.inl ⟨by rfl, ?_⟩) ?_ ?_
                rotate_left
                · intro w'
                  go_simp
                  with_reducible rfl
                rotate_left
                · simp only [Act.put, List.setIfInBounds_toArray, List.set_cons_zero, List.set_cons_succ, zU, zW]
                  rfl
                refine zal (i := 1) (N := some 19) (v := ?_) (a' := ?_) #[true, true, false, false, false, false, false, false, false, false] rfl rfl (z8 HT_.out (by kernel_rfl)) (fun _ _ _ h => h) (Or.inl ⟨by rfl, ?_⟩) ?_ ?_
                rotate_left
                · intro w'
                  go_simp
                  with_reducible rfl
                rotate_left
                · simp only [Act.put, List.setIfInBounds_toArray, List.set_cons_zero, List.set_cons_succ, zU, zW]
                  rfl
                refine zal (i := 2) (N := some 20) (v := ?_) (a' := ?_) #[true, true, true, false, false, false, false, false, false, false] rfl rfl (z8 HT_.out (by kernel_rfl)) (fun _ _ _ h => h) (Or.inl ⟨by rfl, ?_⟩) ?_ ?_
                rotate_left
                · intro w'
                  go_simp
                  with_reducible rfl
                rotate_left
                · simp only [Act.put, List.setIfInBounds_toArray, List.set_cons_zero, List.set_cons_succ, zU, zW]
                  rfl
                refine zal (i := 4) (N := some 22) (v := ?_) (a' := ?_) #[true, true, true, false, true, false, false, false, false, false] rfl rfl (z8 HT_.out (by kernel_rfl)) (fun _ _ _ h => h) (Or.inl ⟨by rfl, ?_⟩) ?_ ?_
                rotate_left
                · intro w'
                  go_simp
                  with_reducible rfl
                rotate_left
                · simp only [Act.put, List.setIfInBounds_toArray, List.set_cons_zero, List.set_cons_succ, zU, zW]
                  rfl
                refine zal (i := 5) (N := some 23) (v := ?_) (a' := ?_) #[true, true, true, false, true, true, false, false, false, false] rfl rfl (z8 HT_.out (by kernel_rfl)) (fun _ _ _ h => h) (Or.inl ⟨by rfl, ?_⟩) ?_ ?_
                rotate_left
                · intro w'
                  go_simp
                  with_reducible rfl
                rotate_left
                · simp only [Act.put, List.setIfInBounds_toArray, List.set_cons_zero, List.set_cons_succ, zU, zW]
                  rfl
                refine zal (i := 6) (N := some 24) (v := ?_) (a' := ?_) #[true, true, true, false, true, true, true, false, false, false] rfl rfl (z8 HT_.out (by kernel_rfl)) (fun _ _ _ h => h) (Or.inl ⟨by rfl, ?_⟩) ?_ ?_
                rotate_left
                · intro w'
                  go_simp
                  with_reducible rfl
                rotate_left
                · simp only [Act.put, List.setIfInBounds_toArray, List.set_cons_zero, List.set_cons_succ, zU, zW]
                  rfl
                refine take_ (i := 3) (N := some 21) (v := ?_) (a' := ?_) #[true, true, true, true, true, true, true, false, false, false] rfl rfl (zaP HT_.out HW_.out (by kernel_rfl)) (fun _ _ _ h => h) (Or.inl ⟨by rfl, ?_⟩) hHeld ?_ ?_
                rotate_left
                · rintro w' ⟨s0, s1, s2, s3, s4, s5⟩
                  go_simp
                  with_reducible rfl
                rotate_left
                · simp only [Act.put, List.setIfInBounds_toArray, List.set_cons_zero, List.set_cons_succ, zU, zW]
                  rfl
                refine take_ (i := 7) (N := some 25) (v := ?_) (a' := ?_) #[true, true, true, true, true, true, true, true, false, false] rfl rfl (zaP HT_.out HW_.out (by kernel_rfl)) (fun _ _ _ h => h) (Or.inl ⟨by rfl, ?_⟩) hHeld ?_ ?_
                rotate_left
                · rintro w' ⟨s0, s1, s2, s3, s4, s5⟩
                  go_simp
                  with_reducible rfl
                rotate_left
                · simp only [Act.put, List.setIfInBounds_toArray, List.set_cons_zero, List.set_cons_succ, zU, zW]
                  rfl
                refine zdL (i := 8) (N := some 26) #[true, true, true, true, true, true, true, true, true, false] rfl rfl (zbO HT_.out (by kernel_rfl)) (by decide) (fun K hK => ?_)
                refine zcp Try.func70 (by kernel_rfl) rfl #[.agg #[.int .i64 ((z7 l0 x5_1).f0), .int .i64 ((z7 l0 x5_1).f1), .slice A388_2 ((z7 l0 x5_1).f2).length c388_2], .agg #[.int .i64 ((z7 l1 x5_1).f0), .int .i64 ((z7 l1 x5_1).f1), .slice A389_2 ((z7 l1 x5_1).f2).length c389_2]] (by rfl) rfl rfl (by (try simp only [List.map_toArray, List.map_cons, List.map_nil]); first | done | rfl | (simp only [List.length_drop, List.length_take]; rfl)) ?_
                with_reducible refine (za2.calls k1 ((z7 l0 x5_1).f0) ((z7 l0 x5_1).f1) _ _ ((z7 l0 x5_1).f2) ((z7 l1 x5_1).f0) ((z7 l1 x5_1).f1) _ _ ((z7 l1 x5_1).f2) false _ ?side1 ?side2 ?side3 ?side4 A7.out).mono ?_
                (case side1 => repeat (first | exact (Kd.C_below HR388_2.out HB.out) | (with_reducible refine Kd.C_alloc ?_ _) | (with_reducible refine Kd.C_drewN ?_ _) | (with_reducible refine Kd.C_drew ?_)))
                (case side2 => exact HC388_2.out)
                (case side3 => repeat (first | exact (Kd.C_below HR389_2.out HB.out) | (with_reducible refine Kd.C_alloc ?_ _) | (with_reducible refine Kd.C_drewN ?_ _) | (with_reducible refine Kd.C_drew ?_)))
                (case side4 => exact HC389_2.out)
                rintro e w12 ⟨rfl, hb⟩
                refine ⟨_, rfl, ?_⟩
                have n0_ := zb.mk (zl (by repeat (first | (with_reducible first | exact HB.out | apply zi | apply zd | apply zj) | exact HB.out)) hb)
                clear HB
                have HB := n0_
                clear n0_
                (try clear hb)
                (try clear hb2)
                (try clear hk)
                (try clear hi)
                refine hK.out _ _ ⟨((HB.out.cell (World.block_lt_of_cell? w _ hw388_0)).trans hw388_0), ((HB.out.cell (World.block_lt_of_cell? w _ hw388_1)).trans hw388_1), ((HB.out.cell (World.block_lt_of_cell? w _ hw388_2)).trans hw388_2), ((HB.out.cell (World.block_lt_of_cell? w _ hw389_0)).trans hw389_0), ((HB.out.cell (World.block_lt_of_cell? w _ hw389_1)).trans hw389_1), ((HB.out.cell (World.block_lt_of_cell? w _ hw389_2)).trans hw389_2)⟩ (fun hHeld => ?_)
                clear hK K
                refine zcq (a' := ?_) ?_ ?_
                rotate_left
                · show Act.put _ (some 26) _ = _
                  simp only [Act.put, List.setIfInBounds_toArray, List.set_cons_zero, List.set_cons_succ, zU, zW]
                  rfl
                refine zal (i := 9) (N := some 6) (v := ?_) (a' := ?_) #[true, true, true, true, true, true, true, true, true, true] rfl rfl (z8 HT_.out (by kernel_rfl)) (fun _ _ _ h => h) (Or.inl ⟨by rfl, ?_⟩) ?_ ?_
                rotate_left
                · intro w'
                  go_simp
                  with_reducible rfl
                rotate_left
                · simp only [Act.put, List.setIfInBounds_toArray, List.set_cons_zero, List.set_cons_succ, zU, zW]
                  rfl
                refine zeA (zcI HT_.out (by kernel_rfl)) ?_
                try go_wp2
                go_ret
                exact ⟨by first | rfl | (simp [zt, zr] <;> rfl) | (simp [*, zt, zr] <;> rfl), by repeat (first | (with_reducible first | exact HB.out | apply zi | apply zd | apply zj) | exact HB.out)⟩
            · rw [if_neg c6] at H
              exact absurd H (by simp)
          · rw [if_neg c5] at H
            exact absurd H (by simp)
        · rw [if_neg c4] at H
          have c4b0 : decide (x5_1 < (l0.length : Int)) = false := decide_eq_false c4
          clear c4
          obtain rfl := Option.some.inj H
          go_wp2
          go_ret
          exact ⟨by first | rfl | (simp [zt, zr] <;> rfl) | (simp [*, zt, zr] <;> rfl), by repeat (first | (with_reducible first | exact HB.out | apply zi | apply zd | apply zj) | exact HB.out)⟩
  · rw [if_neg c3] at H
    have c3b0 : ((l0.length : Int) == (l1.length : Int)) = false := beq_eq_false_iff_ne.mpr c3
    have c3b1 : ((l0.length : Int) != (l1.length : Int)) = true := bne_iff_ne.mpr c3
    have c3b2 : (l0.length == l1.length) = false := by first | simpa using c3 | (simp at c3 ⊢; omega)
    obtain rfl := Option.some.inj H
    go_enter Try.func47, Try.ntmps47
    go_wp2
    go_ret
    exact ⟨by first | rfl | (simp [zt, zr] <;> rfl) | (simp [*, zt, zr] <;> rfl), by repeat (first | (with_reducible first | exact HB.out | apply zi | apply zd | apply zj) | exact HB.out)⟩
end Go.Proofs.Ytenbifjbeeobjaa.Px

namespace Go.Proofs.Ytenbifjbeeobjaa.Px
open Go.RowKit Go.Proofs.YtenbifjbeeobjaaW.PrintWords Go.Proofs.YtenbifjbeeobjaaW.PrintLast Go.Proofs.YtenbifjbeeobjaaW.PrintMore
attribute [local go_sem] zC zE zJ zK zv zw zB zD
set_option linter.unusedVariables false
set_option linter.unusedSimpArgs false
theorem zh1 (d : Nat) (w : World) (x0 y0 : Int) (x1 y1 : Int) :
    (Op.equalIn (d + 2) 26 (.agg #[.int .i64 x0, .int .i64 x1]) (.agg #[.int .i64 y0, .int .i64 y1])).run Try.prog w = .ok (x0 == y0 && (x1 == y1)) w := by
  refine zf9 Try.underlying26 (by kernel_rfl) ?_
  refine zcA (by rfl) (by go_simp; rfl) (by go_simp; rfl) (by go_simp) ?_
  exact zeN (by rfl) (by go_simp; rfl) (by go_simp; rfl) (by go_simp)
end Go.Proofs.Ytenbifjbeeobjaa.Px
