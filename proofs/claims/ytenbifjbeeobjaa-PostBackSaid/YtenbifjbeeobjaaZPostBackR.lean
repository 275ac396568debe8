/- Part 18 of 33 of the proof of the law PostBack: what is proved is the statement at the end of the last part; its conditions are those of the given row. -/
import Derived.Test.YtenbifjbeeobjaaZPostBackQ
namespace Go.Proofs.Ytenbifjbeeobjaa.Px
open Go.RowKit Go.Proofs.YtenbifjbeeobjaaW.PrintWords Go.Proofs.YtenbifjbeeobjaaW.PrintLast Go.Proofs.YtenbifjbeeobjaaW.PrintMore
attribute [local go_sem] zC zE zJ zK zv zw zB zD
set_option linter.unusedVariables false
set_option linter.unusedSimpArgs false
def zbi (v : Nat) (r : Bs) (most : Int) : Bs × Bs × Int :=
  if most < 0 ∨ most < (v : Int) then ([], [], 4) else if r.length < v then ([], [], 2) else (r.take v, r.drop v, 0)
def zbT (q : Nat × Bs × Int) (most : Int) : Bs × Bs × Int := if q.2.2 = 0 then zbi q.1 q.2.1 most else ([], [], q.2.2)
def zav (s : Bs) (most : Int) : Bs × Bs × Int := zbT (zM s) most
def zaz (s : ByteArray) (most : Int) : ByteArray × ByteArray × Int := (toB (zav (ofB s) most).1, toB (zav (ofB s) most).2.1, (zav (ofB s) most).2.2)
theorem zbz (s : Bs) : (zM s).2.1.length ≤ s.length := by
  rcases s with _ | ⟨c, t⟩
  · simp [zM]
  · simp only [zM]
    (repeat' split) <;> simp <;> omega
theorem zby (s : Bs) : (zM s).1 < 18446744073709551616 := by
  rcases h : zM s with ⟨v, r, e⟩
  rcases zfB h with he | ⟨hv, _⟩
  · subst he; exact (zbn h).2
  · show v < _; omega
theorem zd0 (l : Bs) (i j : Nat) : (toB l).extract i j = toB ((l.drop i).take (j - i)) := zcN (by rw [zcs, zY, zY])
theorem zfk (v : Nat) (r : Bs) (h : ¬ r.length < v) : ((toB r).extract 0 v, (toB r).extract v (toB r).size) = (toB (r.take v), toB (r.drop v)) := by
  rw [zd0, zd0, z5, List.drop_zero, Nat.sub_zero, List.take_of_length_le (l := r.drop v) (by rw [List.length_drop]; omega)]
theorem zd6 (s : ByteArray) (most : Int) (hs : s.size < 4611686018427387904) (hw : (Lit.int .i64 most).wf = true) : Ev (fun k => zV.f k s most) (zaz s most) := by
  obtain ⟨m0, m1⟩ := zgV hw
  have hv := zby (ofB s)
  have hl := zbz (ofB s)
  rw [z9] at hl
  refine Ev.bind (zbu s hs) ?_
  rcases hq : zM (ofB s) with ⟨v, r, e⟩
  rw [hq] at hv hl
  simp only [zbs, zaz, zav, hq]
  simp only at hv hl
  by_cases he : e = 0
  · subst he
    refine zX rfl ?_
    have hj : ∀ b : Bool, (b = true ↔ (most < 0 ∨ most < (v : Int))) → Ev (fun k => zV.j0 k (v : Int) (toB r) b) (toB (zbi v r most).1, toB (zbi v r most).2.1, (zbi v r most).2.2) := by
      intro b hb
      refine Ev.step (fun k => by rw [zV.j0]) ?_
      by_cases h4 : most < 0 ∨ most < (v : Int)
      · rw [zbi, if_pos h4]
        exact zX (hb.2 h4) (Ev.now _)
      · rw [zbi, if_neg h4]
        refine zak (fun h => h4 (hb.1 h)) ?_
        rw [z5, zbe (by omega) (by omega)]
        by_cases h2 : r.length < v
        · rw [if_pos h2]
          exact zX (by omega) (Ev.now _)
        · rw [if_neg h2]
          refine zak (by omega) (zX (by omega) (zX (by omega) ?_))
          rw [Int.toNat_natCast]
          have hx := zfk v r h2
          rw [z5] at hx
          injection hx with hx1 hx2
          rw [hx1, hx2]
          exact Ev.now _
    by_cases hm : most < 0
    · exact zX hm (hj true (by simp [hm]))
    · refine zak hm ?_
      rw [zbe (by omega) (by omega)]
      exact hj _ (by simp; omega)
  · refine zak he ?_
    rw [zbT, if_neg he]
    exact Ev.now _
end Go.Proofs.Ytenbifjbeeobjaa.Px

namespace Go.Proofs.Ytenbifjbeeobjaa.Px
open Go.RowKit Go.Proofs.YtenbifjbeeobjaaW.PrintWords Go.Proofs.YtenbifjbeeobjaaW.PrintLast Go.Proofs.YtenbifjbeeobjaaW.PrintMore
attribute [local go_sem] zC zE zJ zK zv zw zB zD
set_option linter.unusedVariables false
set_option linter.unusedSimpArgs false
def zaZ (most : Int) : Nat → Bs → List ByteArray → List ByteArray × Bs × Int
  | 0, s, acc => (acc, s, 0)
  | n + 1, s, acc => if (zav s most).2.2 = 0 then zaZ most n (zav s most).2.1 (acc ++ [toB (zav s most).1]) else ([], [], (zav s most).2.2)
def zbS (q : Nat × Bs × Int) (many most : Int) : List ByteArray × Bs × Int :=
  if q.2.2 = 0 then (if many < 0 ∨ many < (q.1 : Int) then ([], [], 4) else zaZ most q.1 q.2.1 []) else ([], [], q.2.2)
def zah (s : Bs) (many most : Int) : List ByteArray × Bs × Int := zbS (zM s) many most
theorem zcT {s : Bs} {most : Int} (h : (zav s most).2.2 = 0) : (zav s most).2.1.length < s.length := by
  unfold zav zbT at h ⊢
  split at h
  · rename_i h0
    rw [if_pos h0]
    unfold zbi at h ⊢
    split at h
    · cases h
    · rename_i h1
      rw [if_neg h1]
      split at h
      · cases h
      · rename_i h2
        rw [if_neg h2]
        rcases hq : zM s with ⟨v, r, e⟩
        rw [hq] at h0
        simp only at h0
        subst h0
        obtain ⟨rfl, _⟩ := zbn hq
        simp only [List.length_drop, List.length_append, zaN, List.length_cons]
        omega
  · rename_i h0
    exact absurd h h0
end Go.Proofs.Ytenbifjbeeobjaa.Px

namespace Go.Proofs.Ytenbifjbeeobjaa.Px
open Go.RowKit Go.Proofs.YtenbifjbeeobjaaW.PrintWords Go.Proofs.YtenbifjbeeobjaaW.PrintLast Go.Proofs.YtenbifjbeeobjaaW.PrintMore
attribute [local go_sem] zC zE zJ zK zv zw zB zD
set_option linter.unusedVariables false
set_option linter.unusedSimpArgs false
theorem zN.take1k (s : ByteArray) (most : Int) (hs : s.size < 4611686018427387904) (hw : (Lit.int .i64 most).wf = true) : ∃ k, zV.f k s most = some ((zaz s most).1, (zaz s most).2.1, (zaz s most).2.2) := (zd6 s most hs hw).rounds
set_option maxRecDepth 100000 in
theorem zN.take1 (s : ByteArray) (most : Int) (b : Nat) (w : World) (hs : s.size < 4611686018427387904) (hw : (Lit.int .i64 most).wf = true) (hc : w.cell? ⟨b, 0, none⟩ = some (.int .i64 most)) :
    Calls Try.prog 80 #[.string s, .pointer (some ⟨b, 0, none⟩)] w fun e w' => e = .returned (.tuple #[.string (zaz s most).1, .string (zaz s most).2.1, .int .i64 (zaz s most).2.2]) ∧ zI w w' := by
  obtain ⟨k, hk⟩ := zN.take1k s most hs hw
  have HK := zb.mk hk
  clear hk hs hw
  generalize zaz s most = q at *
  go_enter Try.func80, Try.ntmps80
  go_wp2_with (go_at_call 62; (with_reducible refine (zV.calls _ _ _ _ _ _ _ HK.out).mono ?_); rintro e w1 ⟨rfl, hd⟩)
  go_ret3
  exact ⟨rfl, by assumption⟩
theorem zN.info : (Try.prog.info? 9).map (fun i => (i.zero, i.size, i.bytes)) = some (some (.string ⟨#[]⟩), 1, 16) := by kernel_rfl
def zN.Rel (most : Int) (w0 : World) (fin : List ByteArray × Bs × Int) (n j : Nat) (s : ByteArray) (v : Value) (wr : World) : Prop :=
  ∃ acc : List ByteArray, zaZ most (n - j) (ofB s) acc = fin ∧ acc.length ≤ j ∧ (n ≤ 8796093022207 ∨ acc.length + s.size ≤ 8796093022207) ∧ s.size < 4611686018427387904 ∧ Kd.R Kd.string 9 wr w0.heap.size (fun _ => True) v acc ∧ Below w0.heap.size w0 wr
theorem zN.Rel.step {most : Int} {w0 wr : World} {fin : List ByteArray × Bs × Int} {n j : Nat} {s : ByteArray} {v : Value} (h : zN.Rel most w0 fin n j s v wr) (hj : j < n) (h0 : (zaz s most).2.2 = 0) :
    ∃ acc : List ByteArray, (acc.length + 1) * 16 ≤ 140737488355328 ∧ Kd.R Kd.string 9 wr w0.heap.size (fun _ => True) v acc ∧ Below w0.heap.size w0 wr ∧
      ∀ v' w', Kd.R Kd.string 9 w' w0.heap.size (fun _ => True) v' (acc ++ [(zaz s most).1]) → Below w0.heap.size w0 w' → zN.Rel most w0 fin n (j + 1) (zaz s most).2.1 v' w' := by
  obtain ⟨acc, h1, h2, h3, h4, h5, h6⟩ := h
  have hsh := zcT (s := ofB s) (most := most) h0
  rw [z9] at hsh
  have e : n - j = (n - (j + 1)) + 1 := by omega
  have h0' : (zav (ofB s) most).2.2 = 0 := h0
  rw [e, zaZ, if_pos h0'] at h1
  have hsz : (zaz s most).2.1.size = (zav (ofB s) most).2.1.length := by rw [zaz, z5]
  refine ⟨acc, by omega, h5, h6, fun v' w' k1 k2 => ⟨_, ?_, by rw [List.length_append, List.length_singleton]; omega, ?_, by omega, k1, k2⟩⟩
  · rw [show ofB (zaz s most).2.1 = (zav (ofB s) most).2.1 by rw [zaz, zY]]
    exact h1
  · rw [List.length_append, List.length_singleton]; omega
theorem zN.Rel.fail {most : Int} {w0 wr : World} {fin : List ByteArray × Bs × Int} {n j : Nat} {s : ByteArray} {v : Value} (h : zN.Rel most w0 fin n j s v wr) (hj : j < n) (h0 : ¬ (zaz s most).2.2 = 0) : fin = ([], [], (zaz s most).2.2) := by
  obtain ⟨acc, h1, _⟩ := h
  have e : n - j = (n - (j + 1)) + 1 := by omega
  have h0' : ¬ (zav (ofB s) most).2.2 = 0 := h0
  rw [e, zaZ, if_neg h0'] at h1
  exact h1.symm
set_option maxRecDepth 100000 in
set_option maxHeartbeats 4000000 in
theorem zN.several (s : ByteArray) (n : Nat) (most : Int) (b : Nat) (w : World) (hn : n < 18446744073709551616) (hs : s.size < 4611686018427387904) (hw : (Lit.int .i64 most).wf = true) (hc : w.cell? ⟨b, 0, none⟩ = some (.int .i64 most)) (hroom : s.size ≤ 8796093022207 ∨ n ≤ 8796093022207) (fin : List ByteArray × Bs × Int) (hfin : zaZ most n (ofB s) [] = fin) :
    Calls Try.prog 79 #[.string s, .int .u64 n, .func (.func 80) #[] #[.pointer (some ⟨b, 0, none⟩)]] w fun e w' => ∃ v0_ : Value, e = .returned (.tuple #[v0_, .string (toB fin.2.1), .int .i64 fin.2.2]) ∧ Kd.R Kd.string 9 w' w.heap.size (fun _ => True) v0_ fin.1 ∧ Below w.heap.size w w' := by
  have HF : zb (zN.Rel most w fin n 0 s (.slice none 0 0) w) := ⟨⟨[], by rw [Nat.sub_zero]; exact hfin, Nat.le_refl _, by simp only [List.length_nil]; omega, hs, Kd.R_nil _ _ _ _ _, Below.refl _ _⟩⟩
  have HW := zb.mk hw
  have HC := zb.mk hc
  clear hfin hroom hs hw hc
  go_enter Try.func79, Try.ntmps79
  go_wp2_with fail
  go_loopw [0, 9, 10, 11, 12, 14] (fun v0 v9 _ _ _ v14 wr => ∃ (j : Nat) (s' : ByteArray), v0 = .string s' ∧ v14 = .int .u64 j ∧ j ≤ n ∧ zb (zN.Rel most w fin n j s' v9 wr)) (fun _ _ _ _ _ v14 _ => n - (match v14 with | .int _ q => q | _ => 0).toNat)
  case atStart => exact ⟨0, s, rfl, rfl, Nat.zero_le _, HF⟩
  case round =>
    obtain ⟨j, s', rfl, rfl, hj, HR⟩ := hrel
    by_cases hlt : j < n
    · have hb : decide (j < n) = true := decide_eq_true hlt
      have HT := zb.mk (zN.take1 s' most b)
      obtain ⟨hs', hbel⟩ : s'.size < 4611686018427387904 ∧ Below w.heap.size w wr := by
        obtain ⟨_, _, _, _, h4, _, h6⟩ := HR.out
        exact ⟨h4, h6⟩
      have HCW := zb.mk (zb1 hbel HC.out)
      have HS := zb.mk hs'
      clear hs' hbel
      by_cases h0 : (zaz s' most).2.2 = 0
      · obtain ⟨acc, a1, a2, a3, a4⟩ := HR.out.step hlt h0
        have HL := zb.mk a1
        have HO := zb.mk a2
        have HB := zb.mk a3
        have HN := zb.mk a4
        clear a1 a2 a3 a4
        have HZ := zb.mk h0
        clear h0
        generalize zaz s' most = q at *
        obtain ⟨q1, q2, q3⟩ := q
        have hq3 := HZ.out
        simp only at hq3
        subst hq3
        simp only at HN HT
        clear HZ
        go_wp2_with (first | (go_at_call 80; (with_reducible refine (HT.out _ HS.out HW.out HCW.out).mono ?_); rintro e w1 ⟨rfl, ⟨nd, rfl⟩⟩) | (at_builtin; refine Kd.R_append Kd.string (w0 := w) w.heap.size rfl (.tmp 26) (.tmp 28) 24 9 (.string ⟨#[]⟩) 16 rfl Try.underlying24 zN.info rfl (by decide) (by omega) _ acc q1 [.string q1] (fun _ => True) (fun _ => False) rfl rfl ?aP (fun _ hk => hk.elim) ?aF ?aO ?aB ?aS ?aL ?_; (case aP => exact rfl); (case aF => exact (fun _ _ => trivial)); (case aO => exact (Kd.R_drewN HO.out _)); (case aB => exact (zd HB.out _)); (case aS => exact (zo (zd HB.out _))); (case aL => exact HL.out); intro v3 w3 ho hb hg hat; have HX := zb.mk (HN.out _ _ ho hb); clear ho hb hg hat))
        go_roundw
        case rel => exact ⟨j + 1, q2, rfl, by go_num, by omega, HX⟩
        case measure => simp; omega
      · have hf := HR.out.fail hlt h0
        have HB : zb (Below w.heap.size w wr) := ⟨by obtain ⟨_, _, _, _, _, _, h6⟩ := HR.out; exact h6⟩
        have hz : ((zaz s' most).2.2 == 0) = false := beq_eq_false_iff_ne.2 h0
        have hz2 : ((zaz s' most).2.2 != 0) = true := by rw [bne, hz]; rfl
        clear h0
        have HF2 := zb.mk hf
        clear hf HF
        generalize zaz s' most = q at *
        obtain ⟨q1, q2, q3⟩ := q
        simp only at hz hz2 HF2 HT
        go_wp2_with (go_at_call 80; (with_reducible refine (HT.out _ HS.out HW.out HCW.out).mono ?_); rintro e w1 ⟨rfl, ⟨nd, rfl⟩⟩)
        go_ret3
        rw [HF2.out]
        exact ⟨_, rfl, Kd.R_nil _ _ _ _ _, zd HB.out _⟩
    · obtain rfl : j = n := by omega
      obtain ⟨acc, h1, _, _, _, h5, h6⟩ := HR.out
      rw [Nat.sub_self, zaZ] at h1
      have H1 := zb.mk h1
      have H5 := zb.mk h5
      have H6 := zb.mk h6
      clear h1 h5 h6 hlt HF HR
      go_wp2_with fail
      go_ret3
      rw [← H1.out]
      exact ⟨_, by simp only [zbt]; rfl, H5.out, H6.out⟩
def zN.f (a0 : ByteArray) (a1 : Int) (a2 : Int) : Option (List ByteArray × ByteArray × Int) :=
  if (Lit.int .i64 a1).wf = true ∧ (Lit.int .i64 a2).wf = true ∧ a0.size < 4611686018427387904 ∧ (a0.size ≤ 8796093022207 ∨ a1 ≤ 8796093022207) then some ((zah (ofB a0) a1 a2).1, toB (zah (ofB a0) a1 a2).2.1, (zah (ofB a0) a1 a2).2.2) else none
set_option maxHeartbeats 4000000 in
set_option maxRecDepth 100000 in
theorem zN.walk (a0 : ByteArray) (a1 : Int) (a2 : Int) (w : World) (h1 : (Lit.int .i64 a1).wf = true) (h2 : (Lit.int .i64 a2).wf = true) (hs : a0.size < 4611686018427387904) (hroom : a0.size ≤ 8796093022207 ∨ a1 ≤ 8796093022207) (fin : List ByteArray × Bs × Int) (hfin : zah (ofB a0) a1 a2 = fin) :
    Calls Try.prog 54 #[.string a0, .int .i64 a1, .int .i64 a2] w fun e w' => ∃ v0_ : Value, e = .returned (.tuple #[v0_, .string (toB fin.2.1), .int .i64 fin.2.2]) ∧ Kd.R Kd.string 9 w' w.heap.size (fun _ => True) v0_ fin.1 ∧ Below w.heap.size w w' := by
  obtain ⟨m0, m1⟩ := zgV h1
  obtain ⟨k, hk⟩ := (zbu a0 hs).rounds
  have hv := zby (ofB a0)
  have hl := zbz (ofB a0)
  rw [z9] at hl
  rcases hq : zM (ofB a0) with ⟨v, r, e⟩
  rw [zah, hq] at hfin
  rw [hq] at hv hl
  simp only [zbs, hq] at hk
  simp only at hv hl
  have HK := zb.mk hk
  have H2 := zb.mk h2
  have HF := zb.mk hfin
  have HR := zb.mk hroom
  have HL := zb.mk hl
  clear hk h1 h2 hfin hroom hl hq
  by_cases he : e = 0
  · subst he
    by_cases h4 : a1 < 0 ∨ a1 < (v : Int)
    · have hf := HF.out
      rw [zbS, if_pos rfl, if_pos h4] at hf
      have HF2 := zb.mk hf
      clear hf HF
      by_cases hneg : a1 < 0
      · have hb : decide (a1 < 0) = true := decide_eq_true hneg
        clear h4
        go_enter Try.func54, Try.ntmps54
        go_wp2_with (go_at_call 63; (with_reducible refine (zx.calls _ _ _ _ _ _ HK.out).mono ?_); rintro e w1 ⟨rfl, ⟨nd, rfl⟩⟩)
        go_ret3
        rw [← HF2.out]
        exact ⟨_, rfl, Kd.R_nil _ _ _ _ _, zd ((Below.refl _ _).alloc (Nat.le_refl _) _) _⟩
      · have hb : decide (a1 < 0) = false := decide_eq_false hneg
        have hpos : 0 ≤ a1 := by omega
        have hlt : a1 < (v : Int) := by omega
        have hb2 : decide (a1 < (v : Int)) = true := decide_eq_true hlt
        clear h4 hneg
        go_enter Try.func54, Try.ntmps54
        go_wp2_with (go_at_call 63; (with_reducible refine (zx.calls _ _ _ _ _ _ HK.out).mono ?_); rintro e w1 ⟨rfl, ⟨nd, rfl⟩⟩)
        go_ret3
        rw [← HF2.out]
        exact ⟨_, rfl, Kd.R_nil _ _ _ _ _, zd ((Below.refl _ _).alloc (Nat.le_refl _) _) _⟩
    · have hf := HF.out
      rw [zbS, if_pos rfl, if_neg h4] at hf
      have HF2 := zb.mk hf
      clear hf HF
      have hpos : 0 ≤ a1 := by omega
      have hge : (v : Int) ≤ a1 := by omega
      have hb : decide (a1 < 0) = false := decide_eq_false (by omega)
      have hb2 : decide (a1 < (v : Int)) = false := decide_eq_false (by omega)
      have HV := zb.mk hv
      have HS := zb.mk hs
      have HG := zb.mk hge
      clear h4 hge hv hs
      go_enter Try.func54, Try.ntmps54
      go_wp2_with (first | (go_at_call 63; (with_reducible refine (zx.calls _ _ _ _ _ _ HK.out).mono ?_); rintro e w1 ⟨rfl, ⟨nd, rfl⟩⟩) | (go_at_call 79; refine (zN.several (toB r) v a2 w.heap.size _ HV.out (by rw [z5]; have := HL.out; have := HS.out; omega) H2.out (by simp [World.cell?_alloc_new]) (by rw [z5]; have := HL.out; have := HR.out; have := HG.out; omega) fin (by rw [zY]; exact HF2.out)).mono ?_; rintro e w2 ⟨v0, rfl, hR, hB⟩))
      go_ret3
      have hW : Below w.heap.size w ((w.alloc (.cells #[.int .i64 a2] 3)).drewN nd) := zd ((Below.refl _ _).alloc (Nat.le_refl _) _) _
      exact ⟨_, rfl, Kd.R_lower hR hW.size, zl hW hB⟩
  · have hf := HF.out
    rw [zbS, if_neg he] at hf
    have HF2 := zb.mk hf
    have hz : (e == 0) = false := beq_eq_false_iff_ne.2 he
    have hz2 : (e != 0) = true := by rw [bne, hz]; rfl
    clear hf HF he
    go_enter Try.func54, Try.ntmps54
    go_wp2_with (go_at_call 63; (with_reducible refine (zx.calls _ _ _ _ _ _ HK.out).mono ?_); rintro e w1 ⟨rfl, ⟨nd, rfl⟩⟩)
    go_ret3
    rw [← HF2.out]
    exact ⟨_, rfl, Kd.R_nil _ _ _ _ _, zd ((Below.refl _ _).alloc (Nat.le_refl _) _) _⟩
theorem zN.calls (a0 : ByteArray) (a1 : Int) (a2 : Int) (r1 : List ByteArray) (r2 : ByteArray) (r3 : Int) (w : World) (h : zN.f a0 a1 a2 = some (r1, r2, r3)) :
    Calls Try.prog 54 #[.string a0, .int .i64 a1, .int .i64 a2] w fun e w' => ∃ v0_ : Value, e = .returned (.tuple #[v0_, .string r2, .int .i64 r3]) ∧ Kd.R Kd.string 9 w' w.heap.size (fun _ => True) v0_ r1 ∧ Below w.heap.size w w' := by
  unfold zN.f at h
  split at h
  · rename_i hc
    obtain ⟨h1, h2, h3, h4⟩ := hc
    simp only [Option.some.injEq, Prod.mk.injEq] at h
    obtain ⟨rfl, rfl, rfl⟩ := h
    exact zN.walk a0 a1 a2 w h1 h2 h3 h4 _ rfl
  · cases h
end Go.Proofs.Ytenbifjbeeobjaa.Px
