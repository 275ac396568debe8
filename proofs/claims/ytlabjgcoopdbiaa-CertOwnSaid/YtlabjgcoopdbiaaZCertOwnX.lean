/- Part 24 of 25 of the proof of the law CertOwn: what is proved is the statement at the end of the last part; its conditions are those of the given row. -/
import Derived.Test.YtlabjgcoopdbiaaZCertOwnU
namespace Go.Proofs.Ytlabjgcoopdbiaa.Px
open Go.RowKit Go.Proofs.YtlabjgcoopdbiaaW.PrintWords Go.Proofs.YtlabjgcoopdbiaaW.PrintLast Go.Proofs.YtlabjgcoopdbiaaW.PrintMore
attribute [local go_sem] zA zC zI zJ zt zu zB zD
set_option linter.unusedVariables false
set_option linter.unusedSimpArgs false
def zbl (a r : Int) (bs : List S68) (ps : List ByteArray) (x y : Int) : Bs :=
  zcd a.toNat ++ zcd r.toNat ++ zbo (bs.map bB) ++ zbo ps ++ zcd x.toNat ++ zcd y.toNat
theorem zcl (a r : Int) (bs : List S68) (ps : List ByteArray) (x y n : Int) : zaT a r bs ps x y n = true ↔ zcM n = true ∧ 1 ≤ a ∧ a ≤ n ∧ 1 ≤ r ∧ r ≤ 1048576 ∧ bs.length ≤ 4 ∧ bs.any (zb5 n) = false ∧ zdS x y = true ∧ (zcg r = true ∨ x = 0 ∧ y = 0) ∧ zbi ps r n = true := by
  unfold zaT
  simp [and_assoc]
theorem zfS (l : List ByteArray) (d : Nat) : ∀ j, zaM l d j = true → ∀ i, j ≤ i → i < j + d → (l.getD i ByteArray.empty).size = 32 := by
  induction d with
  | zero => intro j _ i h1 h2; omega
  | succ d ih =>
    intro j h i h1 h2
    rw [zaM, Bool.and_eq_true] at h
    rcases Nat.lt_or_ge j i with h3 | h3
    · exact ih (j + 1) h.2 i (by omega) (by omega)
    · obtain rfl : i = j := by omega
      have := h.1
      rw [zeJ, Bool.and_eq_true] at this
      exact of_decide_eq_true this.1
theorem zby {l : List ByteArray} {r n : Int} (hn : zcM n = true) (h : zbi l r n = true) : l.length ≤ 64 ∧ ∀ t ∈ l, t.size = 32 := by
  unfold zbi at h
  split at h
  · have h0 := of_decide_eq_true h
    obtain rfl := List.eq_nil_of_length_eq_zero h0
    simp
  · obtain ⟨_, h2, _⟩ := (zb1 n).1 hn
    rw [Bool.and_eq_true, Bool.and_eq_true] at h
    have h3 := of_decide_eq_true h.2
    refine ⟨by omega, fun t ht => ?_⟩
    obtain ⟨i, hi, rfl⟩ := List.mem_iff_getElem.1 ht
    have := zfS l l.length 0 h.1.1 i (by omega) (by omega)
    rwa [List.getD_eq_getElem?_getD, List.getElem?_eq_getElem hi] at this
theorem zhx (b : S68) : (bB b).size ≤ 400 := by
  unfold bB
  split
  · rename_i h
    obtain ⟨h1, h2, h3, h4, h5, h6, h7⟩ := (zcL _ _ _).1 h
    have r1 := zcR b.f2 48 (by omega) (fun t ht => (h7 t ht).2)
    have r2 := zaA (v := b.f2.length) (by omega)
    have r4 := zaA (v := b.f0.toNat) (by omega)
    have r5 := zaA (v := b.f1.toNat) (by omega)
    rw [zaf, zdt, List.length_append, List.length_append, zbo, List.length_append]; omega
  · show 0 ≤ 400; omega
theorem zfo {bs : List S68} (h : bs.length ≤ 4) : (zbo (bs.map bB)).length ≤ 1700 := by
  have r1 := zcR (bs.map bB) 400 (by omega) (fun t ht => by obtain ⟨b, _, rfl⟩ := List.mem_map.1 ht; exact zhx b)
  rw [List.length_map] at r1
  have r2 := zaA (v := (bs.map bB).length) (by rw [List.length_map]; omega)
  rw [zbo, List.length_append]; omega
theorem zfp {ps : List ByteArray} (h : ps.length ≤ 64 ∧ ∀ t ∈ ps, t.size = 32) : (zbo ps).length ≤ 2700 := by
  have r1 := zcR ps 32 (by omega) (fun t ht => by have := h.2 t ht; omega)
  have r2 := zaA (v := ps.length) (by have := h.1; omega)
  rw [zbo, List.length_append]; have := h.1; omega
theorem zhw {n : Int} {bs : List S68} (h : bs.any (zb5 n) = false) : ∀ b ∈ bs, zcK b.f0 b.f1 b.f2 = true ∧ b.f0 ≤ n := by
  intro b hb
  rw [List.any_eq_false] at h
  have := h b hb
  rw [zb5] at this
  simp at this
  exact ⟨this.1, by omega⟩
theorem zhL (a b c d : ByteArray) : zx ByteArray.empty [a, b, c, d] 0 = a ∧ zx ByteArray.empty [a, b, c, d] 1 = b ∧ zx ByteArray.empty [a, b, c, d] 2 = c ∧ zx ByteArray.empty [a, b, c, d] 3 = d := ⟨rfl, rfl, rfl, rfl⟩
theorem zdY (a r : Int) (bs : List S68) (ps : List ByteArray) (x y n : Int) :
    zag.f a r bs ps x y n = some (if zaT a r bs ps x y n = true then (toB (zbl a r bs ps x y), 0) else ((⟨#[]⟩ : ByteArray), 1)) := by
  unfold zag.f
  rw [show zX.f a r bs ps x y n = some (zaT a r bs ps x y n) from rfl]
  simp only [Option.bind_some]
  by_cases h : zaT a r bs ps x y n = true
  · rw [if_pos h, if_pos h]
    obtain ⟨h0, h1, h2, h3, h4, h5, h6, h7, h8, h9⟩ := (zcl ..).1 h
    obtain ⟨k1, k2, k3⟩ := (zb1 n).1 h0
    obtain ⟨x1, x2, y1, y2⟩ := (zdk x y).1 h7
    have e1 : zaq.f bs = some (bs.map bB) := if_pos h5
    have e2 : zad.f [a, r, x, y] = some [zaR a.toNat, zaR r.toNat, zaR x.toNat, zaR y.toNat] := by
      rw [zad.f, if_pos]
      · rfl
      · refine ⟨Nat.le_refl 4, fun k hk => ?_⟩
        simp only [List.mem_cons, List.not_mem_nil, or_false] at hk
        rcases hk with rfl | rfl | rfl | rfl <;> omega
    have s0 := zaE (v := a.toNat) (by omega)
    have s1 := zaE (v := r.toNat) (by omega)
    have s2 := zaE (v := x.toNat) (by omega)
    have s3 := zaE (v := y.toNat) (by omega)
    have r1 := zfo h5
    have r2 := zfp (zby h0 h9)
    have d1 : zQ.f (bs.map bB) = some (toB (zbo (bs.map bB))) := if_pos (by omega)
    have d2 : zQ.f ps = some (toB (zbo ps)) := if_pos (by omega)
    rw [e1, e2]
    simp only [Option.bind_some, d1, d2]
    obtain ⟨q0, q1, q2, q3⟩ := zhL (zaR a.toNat) (zaR r.toNat) (zaR x.toNat) (zaR y.toNat)
    rw [q0, q1, q2, q3]
    simp only [ByteArray.size_append, zaf]
    rw [if_pos (by simp), if_pos (by simp), if_pos (by omega), if_pos (by omega), if_pos (by omega), if_pos (by simp), if_pos (by omega), if_pos (by simp), if_pos (by omega)]
    simp only [zbl, zaR, zaJ]
  · rw [if_neg h, if_neg h]
instance decBatch : DecidableEq S68 := fun a b => decidable_of_iff (a.f0 = b.f0 ∧ a.f1 = b.f1 ∧ a.f2 = b.f2) ⟨fun ⟨h0, h1, h2⟩ => by obtain ⟨a0, a1, a2⟩ := a; obtain ⟨b0, b1, b2⟩ := b; simp only at h0 h1 h2; rw [h0, h1, h2], fun h => by rw [h]; exact ⟨rfl, rfl, rfl⟩⟩
theorem zdK (l : List S68) (j : Nat) (h : j < l.length) : zU l (j : Int) = l[j] := by
  rw [zU, Int.toNat_natCast, List.getD_eq_getElem?_getD, List.getElem?_eq_getElem h]; rfl
theorem zf1 {a r : Int} {bs : List S68} {ps : List ByteArray} {x y n : Int} (h : zaT a r bs ps x y n = true) : bs.length < 4611686018427387904 ∧ (∀ b ∈ bs, b.f2.length < 4611686018427387904) ∧ ps.length < 4611686018427387904 := by
  obtain ⟨h0, _, _, _, _, h5, h6, _, _, h9⟩ := (zcl ..).1 h
  refine ⟨by omega, fun b hb => ?_, by have := (zby h0 h9).1; omega⟩
  obtain ⟨_, _, _, _, _, k, _⟩ := (zcL _ _ _).1 (zhw h6 b hb).1
  omega
end Go.Proofs.Ytlabjgcoopdbiaa.Px

namespace Go.Proofs.Ytlabjgcoopdbiaa.Px
open Go.RowKit Go.Proofs.YtlabjgcoopdbiaaW.PrintWords Go.Proofs.YtlabjgcoopdbiaaW.PrintLast Go.Proofs.YtlabjgcoopdbiaaW.PrintMore
attribute [local go_sem] zA zC zI zJ zt zu zB zD
set_option linter.unusedVariables false
set_option linter.unusedSimpArgs false
end Go.Proofs.Ytlabjgcoopdbiaa.Px

namespace Go.Proofs.Ytlabjgcoopdbiaa.Px
open Go.RowKit Go.Proofs.YtlabjgcoopdbiaaW.PrintWords Go.Proofs.YtlabjgcoopdbiaaW.PrintLast Go.Proofs.YtlabjgcoopdbiaaW.PrintMore
attribute [local go_sem] zA zC zI zJ zt zu zB zD
set_option linter.unusedVariables false
set_option linter.unusedSimpArgs false
end Go.Proofs.Ytlabjgcoopdbiaa.Px

namespace Go.Proofs.Ytlabjgcoopdbiaa.Px
open Go.RowKit Go.Proofs.YtlabjgcoopdbiaaW.PrintWords Go.Proofs.YtlabjgcoopdbiaaW.PrintLast Go.Proofs.YtlabjgcoopdbiaaW.PrintMore
attribute [local go_sem] zA zC zI zJ zt zu zB zD
set_option linter.unusedVariables false
set_option linter.unusedSimpArgs false
end Go.Proofs.Ytlabjgcoopdbiaa.Px

namespace Go.Proofs.Ytlabjgcoopdbiaa.Px
open Go.RowKit Go.Proofs.YtlabjgcoopdbiaaW.PrintWords Go.Proofs.YtlabjgcoopdbiaaW.PrintLast Go.Proofs.YtlabjgcoopdbiaaW.PrintMore
attribute [local go_sem] zA zC zI zJ zt zu zB zD
set_option linter.unusedVariables false
set_option linter.unusedSimpArgs false
end Go.Proofs.Ytlabjgcoopdbiaa.Px

namespace Go.Proofs.Ytlabjgcoopdbiaa.Px
open Go.RowKit Go.Proofs.YtlabjgcoopdbiaaW.PrintWords Go.Proofs.YtlabjgcoopdbiaaW.PrintLast Go.Proofs.YtlabjgcoopdbiaaW.PrintMore
attribute [local go_sem] zA zC zI zJ zt zu zB zD
set_option linter.unusedVariables false
set_option linter.unusedSimpArgs false
end Go.Proofs.Ytlabjgcoopdbiaa.Px

namespace Go.Proofs.Ytlabjgcoopdbiaa.Px
open Go.RowKit Go.Proofs.YtlabjgcoopdbiaaW.PrintWords Go.Proofs.YtlabjgcoopdbiaaW.PrintLast Go.Proofs.YtlabjgcoopdbiaaW.PrintMore
attribute [local go_sem] zA zC zI zJ zt zu zB zD
set_option linter.unusedVariables false
set_option linter.unusedSimpArgs false
end Go.Proofs.Ytlabjgcoopdbiaa.Px

namespace Go.Proofs.Ytlabjgcoopdbiaa.Px
open Go.RowKit Go.Proofs.YtlabjgcoopdbiaaW.PrintWords Go.Proofs.YtlabjgcoopdbiaaW.PrintLast Go.Proofs.YtlabjgcoopdbiaaW.PrintMore
attribute [local go_sem] zA zC zI zJ zt zu zB zD
set_option linter.unusedVariables false
set_option linter.unusedSimpArgs false
end Go.Proofs.Ytlabjgcoopdbiaa.Px

namespace Go.Proofs.Ytlabjgcoopdbiaa.Px
open Go.RowKit Go.Proofs.YtlabjgcoopdbiaaW.PrintWords Go.Proofs.YtlabjgcoopdbiaaW.PrintLast Go.Proofs.YtlabjgcoopdbiaaW.PrintMore
attribute [local go_sem] zA zC zI zJ zt zu zB zD
set_option linter.unusedVariables false
set_option linter.unusedSimpArgs false
theorem zfL (o q : Int) (l : List ByteArray) (hl : l.length < 4611686018427387904) (d : Nat) : ∀ j, j + d = l.length →
    Ev (fun k => zr.l0 k (j : Int) o q l) (!(l.drop j).any zbG) := by
  induction d with
  | zero =>
    intro j hj
    refine Ev.step (fun k => by rw [zr.l0]) ?_
    refine zZ (by omega) (zav (Ev.now _) ?_)
    rw [List.drop_eq_nil_of_le (by omega)]; rfl
  | succ d ih =>
    intro j hj
    have hjl : j < l.length := by omega
    refine Ev.step (fun k => by rw [zr.l0]) ?_
    refine zO (by omega) (zO (by omega) ?_)
    rw [zhK l j hjl, List.drop_eq_getElem_cons hjl, zak (by omega) (by omega), List.any_cons]
    by_cases h1 : (l[j].size : Int) < 1
    · refine zO h1 (zav (Ev.now _) ?_)
      have : l[j].size = 0 := by omega
      simp [zbG, this]
    · refine zZ h1 ?_
      by_cases h2 : (l[j].size : Int) > 48
      · refine zO h2 (zav (Ev.now _) ?_)
        have : 48 < l[j].size := by omega
        simp [zbG, this]
      · refine zZ h2 (zav (ih (j + 1) (by omega)) ?_)
        have e1 : zbG l[j] = false := by
          have : ¬ l[j].size = 0 := by omega
          have h3 : ¬ 48 < l[j].size := by omega
          simp [zbG, this, h3]
        rw [e1, Bool.false_or]
theorem zeV (o q : Int) (l : List ByteArray) (hl : l.length < 4611686018427387904) : Ev (fun k => zr.f k o q l) (zcK o q l) := by
  have key : ∀ b : Bool, (b = true ↔ ¬ (1 ≤ o ∧ o ≤ 64 ∧ 1 ≤ q ∧ q ≤ 1073741824 ∧ 1 ≤ l.length ∧ l.length ≤ 4)) → Ev (fun k => zr.j0 k b o q l) (zcK o q l) := by
    intro b hb
    refine Ev.step (fun k => by rw [zr.j0]) ?_
    by_cases h : 1 ≤ o ∧ o ≤ 64 ∧ 1 ≤ q ∧ q ≤ 1073741824 ∧ 1 ≤ l.length ∧ l.length ≤ 4
    · refine zZ (fun hh => hb.1 hh h) (zav (zfL o q l hl l.length 0 (by omega)) ?_)
      obtain ⟨h1, h2, h3, h4, h5, h6⟩ := h
      simp [zcK, h1, h2, h3, h4, h5, h6]
    · refine zO (hb.2 h) (zav (Ev.now _) ?_)
      symm
      rw [← Bool.not_eq_true, zcL]
      exact fun ⟨h1, h2, h3, h4, h5, h6, _⟩ => h ⟨h1, h2, h3, h4, h5, h6⟩
  by_cases h1 : o < 1
  · exact zO h1 (key true (by simp; omega))
  refine zZ h1 ?_
  by_cases h2 : o > 64
  · exact zO h2 (key true (by simp; omega))
  refine zZ h2 ?_
  by_cases h3 : q < 1
  · exact zO h3 (key true (by simp; omega))
  refine zZ h3 ?_
  by_cases h4 : q > 1073741824
  · exact zO h4 (key true (by simp; omega))
  refine zZ h4 ?_
  by_cases h5 : (l.length : Int) < 1
  · exact zO h5 (key true (by simp; omega))
  exact zZ h5 (key _ (by simp; omega))
end Go.Proofs.Ytlabjgcoopdbiaa.Px

namespace Go.Proofs.Ytlabjgcoopdbiaa.Px
open Go.RowKit Go.Proofs.YtlabjgcoopdbiaaW.PrintWords Go.Proofs.YtlabjgcoopdbiaaW.PrintLast Go.Proofs.YtlabjgcoopdbiaaW.PrintMore
attribute [local go_sem] zA zC zI zJ zt zu zB zD
set_option linter.unusedVariables false
set_option linter.unusedSimpArgs false
theorem zdn (n : Int) : z6.f n = some (zcM n) := by
  unfold z6.f zcM
  by_cases h4 : n = 4
  · subst h4; rfl
  · rw [if_neg h4]
    by_cases h : n > 4
    · rw [if_pos h]
      by_cases h1 : n ≤ 64
      · rw [if_pos h1, zak (by omega) (by omega), Int.tmod_eq_emod_of_nonneg (by omega)]
        by_cases h2 : n % 3 = 1
        · have : (n - 1) % 3 = 0 := by omega
          simp [h1, h2, this]; omega
        · have : ¬ (n - 1) % 3 = 0 := by omega
          simp [h2, this]
      · rw [if_neg h1]; simp [h1]
    · rw [if_neg h]
      have : ¬ 4 ≤ n := by omega
      simp [this]
theorem zdV (n : Int) : zW.f n = some (zaW n) := by
  unfold zW.f zaW
  rw [zdn]
  simp only [Option.bind_some]
  by_cases h : zcM n = true
  · rw [if_pos h, if_pos h]
    obtain ⟨h1, h2, h3⟩ := (zb1 n).1 h
    rw [zak (x := n - 1) (by omega) (by omega), Int.tdiv_eq_ediv_of_nonneg (by omega), zak (x := (n - 1) / 3) (by omega) (by omega), zak (by omega) (by omega)]
  · rw [if_neg h, if_neg h]
theorem zfl (a b : Int) : zR.f a b = some (zdS a b) := by
  unfold zR.f zdS
  by_cases h1 : 0 ≤ a <;> by_cases h2 : a < 10007 <;> by_cases h3 : 0 ≤ b <;> simp [h1, h2, h3]
theorem zep (r : Int) : zP.f r = some (zcg r) := by
  unfold zP.f zcg
  by_cases h : r > 0
  · rw [if_pos h, Int.tmod_eq_emod_of_nonneg (by omega)]
    by_cases h2 : r % 3 = 0
    · have : 3 ≤ r := by omega
      simp [h2, this]
    · simp [h2]
  · rw [if_neg h]
    have : ¬ 3 ≤ r := by omega
    simp [this]
def zdC (r x y : Int) : Bool := zdS x y && (zcg r || (decide (x = 0) && decide (y = 0)))
theorem zgf (a r : Int) (bs : List S68) (ps : List ByteArray) (x y : Int) (hl : ps.length < 4611686018427387904) (hp : ∀ t ∈ ps, t.size < 4611686018427387904) (d : Nat) : ∀ j, j + d = ps.length →
    Ev (fun k => zh.l1 k (j : Int) a r bs ps x y) (zaM ps d j && zdC r x y) := by
  induction d with
  | zero =>
    intro j hj
    refine Ev.step (fun k => by rw [zh.l1]) ?_
    refine zZ (by omega) (zah (zfl x y) (zah (zep r) ?_))
    unfold zdC
    by_cases h1 : zdS x y = true
    · refine zO h1 ?_
      by_cases h2 : zcg r = true
      · exact zO h2 (zav (Ev.now _) (by simp [zaM, h1, h2]))
      · refine zZ h2 ?_
        by_cases h3 : x = 0
        · refine zO h3 (zav (Ev.now _) ?_)
          rw [Bool.not_eq_true] at h2
          subst h3
          by_cases h4 : y = 0
          · subst h4; simp [zaM, h1, h2]
          · simp [zaM, h1, h2, h4]
        · rw [Bool.not_eq_true] at h2
          exact zZ h3 (zav (Ev.now _) (by simp [zaM, h2, h3]))
    · rw [Bool.not_eq_true] at h1
      exact zZ (by rw [h1]; simp) (zav (Ev.now _) (by simp [zaM, h1]))
  | succ d ih =>
    intro j hj
    have hj' : j < ps.length := by omega
    refine Ev.step (fun k => by rw [zh.l1]) ?_
    refine zO (by omega) (zO (by omega) ?_)
    have e1 : zx ByteArray.empty ps (j : Int) = ps.getD j ByteArray.empty := by rw [zx, Int.toNat_natCast]
    rw [e1]
    by_cases h : (ps.getD j ByteArray.empty).size = 32
    · refine zO (by omega) ?_
      rw [zak (x := (j : Int) + 1) (by omega) (by omega)]
      by_cases h0 : j = 0
      · subst h0
        refine zZ (by omega) (zav (ih 1 (by omega)) ?_)
        simp only [zaM, zeJ, h]; simp
      · refine zO (by omega) ?_
        have e2 : wrap64 ((j : Int) - 1) = ((j - 1 : Nat) : Int) := by rw [zak (by omega) (by omega)]; omega
        rw [e2]
        refine zO (by omega) (zO (by omega) ?_)
        have e3 : zx ByteArray.empty ps ((j - 1 : Nat) : Int) = ps.getD (j - 1) ByteArray.empty := by rw [zx, Int.toNat_natCast]
        rw [e3]
        have hsz : (ps.getD (j - 1) ByteArray.empty).size < 4611686018427387904 := by
          rw [List.getD_eq_getElem?_getD, List.getElem?_eq_getElem (show j - 1 < ps.length by omega)]
          exact hp _ (List.getElem_mem _)
        refine Ev.bind (zhF _ _ hsz) ?_
        by_cases h2 : zcJ (ofB (ps.getD (j - 1) ByteArray.empty)) (ofB (ps.getD j ByteArray.empty)) = true
        · refine zO h2 (zav (ih (j + 1) (by omega)) ?_)
          simp only [zaM, zeJ, h, h2]; simp
        · refine zZ h2 (zav (Ev.now _) ?_)
          rw [Bool.not_eq_true] at h2
          simp only [zaM, zeJ, h, h0, h2]; simp
    · refine zZ (by omega) (zav (Ev.now _) ?_)
      simp only [zaM, zeJ, h]; simp
def zd5 (r : Int) (ps : List ByteArray) (x y n : Int) : Bool :=
  !(decide (r = 1) && decide (0 < ps.length)) && !(decide (1 < r) && (decide ((ps.length : Int) < zaW n) || decide (n < ps.length))) && (zaM ps ps.length 0 && zdC r x y)
theorem zge (a r : Int) (bs : List S68) (ps : List ByteArray) (x y n : Int) (hb : bs.length < 4611686018427387904) (hbs : ∀ b ∈ bs, b.f2.length < 4611686018427387904) (hl : ps.length < 4611686018427387904) (hp : ∀ t ∈ ps, t.size < 4611686018427387904) (d : Nat) : ∀ j, j + d = bs.length →
    Ev (fun k => zh.l0 k n (j : Int) a r bs ps x y) (!(bs.drop j).any (zb5 n) && zd5 r ps x y n) := by
  induction d with
  | zero =>
    intro j hj
    refine Ev.step (fun k => by rw [zh.l0]) ?_
    rw [List.drop_eq_nil_of_le (by omega)]
    refine zZ (by omega) ?_
    have J3 : ∀ b : Bool, Ev (fun k => zh.j3 k b a r bs ps x y) (!b && (zaM ps ps.length 0 && zdC r x y)) := by
      intro b
      refine Ev.step (fun k => by rw [zh.j3]) ?_
      rcases b with _ | _
      · exact zZ (by simp) (zav (zgf a r bs ps x y hl hp ps.length 0 (by omega)) (by simp))
      · exact zO rfl (zav (Ev.now _) (by simp))
    have J2 : ∀ b : Bool, Ev (fun k => zh.j2 k n b a r bs ps x y) (!b && (!(decide (1 < r) && (decide ((ps.length : Int) < zaW n) || decide (n < ps.length))) && (zaM ps ps.length 0 && zdC r x y))) := by
      intro b
      refine Ev.step (fun k => by rw [zh.j2]) ?_
      rcases b with _ | _
      · refine zZ (by simp) ?_
        by_cases h : r > 1
        · have h' : 1 < r := h
          refine zO h (zah (zdV n) ?_)
          by_cases h2 : (ps.length : Int) < zaW n
          · exact zO h2 (zav (J3 true) (by simp [h', h2]))
          · exact zZ h2 (zav (J3 _) (by simp [h', h2]))
        · have h' : ¬ 1 < r := h
          exact zZ h (zav (J3 false) (by simp [h']))
      · exact zO rfl (zav (Ev.now _) (by simp))
    unfold zd5
    by_cases h : r = 1
    · refine zO h (zav (J2 _) ?_)
      subst h
      by_cases h0 : 0 < ps.length
      · have : decide ((ps.length : Int) > 0) = true := decide_eq_true (by omega)
        simp [this, h0]
      · have : decide ((ps.length : Int) > 0) = false := decide_eq_false (by omega)
        simp [this, h0]
    · exact zZ h (zav (J2 false) (by simp [h]))
  | succ d ih =>
    intro j hj
    have hj' : j < bs.length := by omega
    refine Ev.step (fun k => by rw [zh.l0]) ?_
    refine zO (by omega) (zO (by omega) ?_)
    rw [zdK bs j hj', zak (by omega) (by omega), List.drop_eq_getElem_cons hj', List.any_cons]
    refine Ev.bind (zeV _ _ _ (hbs _ (List.getElem_mem hj'))) ?_
    by_cases h : zcK bs[j].f0 bs[j].f1 bs[j].f2 = true
    · refine zO h ?_
      by_cases h2 : bs[j].f0 > n
      · have h3 : n < bs[j].f0 := h2
        exact zO h2 (zav (Ev.now _) (by simp [zb5, h3]))
      · have h3 : ¬ n < bs[j].f0 := h2
        refine zZ h2 (zav (ih (j + 1) (by omega)) ?_)
        have : zb5 n bs[j] = false := by simp [zb5, h, h3]
        rw [this, Bool.false_or]
    · refine zZ h (zav (Ev.now _) ?_)
      rw [Bool.not_eq_true] at h
      simp [zb5, h]
theorem zha (a r : Int) (bs : List S68) (ps : List ByteArray) (x y n : Int) (h0 : zcM n = true) (h1 : 1 ≤ a) (h2 : a ≤ n) (h3 : 1 ≤ r) (h4 : r ≤ 1048576) (h5 : bs.length ≤ 4) :
    zaT a r bs ps x y n = (!bs.any (zb5 n) && zd5 r ps x y n) := by
  unfold zaT zd5 zbi zdC
  simp only [h0, h1, h2, h3, h4, h5]
  by_cases e : r = 1
  · subst e
    rcases ps with _ | ⟨p, ps⟩
    · simp [zaM, Bool.and_assoc]
    · simp
  · have h6 : 1 < r := by omega
    simp only [if_neg e, e, h6]
    have q1 : decide ((ps.length : Int) < zaW n) = !decide (zaW n ≤ (ps.length : Int)) := by
      by_cases q : zaW n ≤ (ps.length : Int) <;> simp [q] <;> omega
    have q2 : decide (n < (ps.length : Int)) = !decide ((ps.length : Int) ≤ n) := by
      by_cases q : (ps.length : Int) ≤ n <;> simp [q] <;> omega
    rw [q1, q2]
    cases bs.any (zb5 n) <;> cases zdS x y <;> cases zcg r <;> cases zaM ps ps.length 0 <;> cases decide (zaW n ≤ (ps.length : Int)) <;> cases decide ((ps.length : Int) ≤ n) <;> simp
theorem zgd (a r : Int) (bs : List S68) (ps : List ByteArray) (x y n : Int) (hb : bs.length < 4611686018427387904) (hbs : ∀ b ∈ bs, b.f2.length < 4611686018427387904) (hl : ps.length < 4611686018427387904) (hp : ∀ t ∈ ps, t.size < 4611686018427387904) :
    Ev (fun k => zh.f k a r bs ps x y n) (zaT a r bs ps x y n) := by
  have key : ∀ b : Bool, (b = true ↔ ¬ (zcM n = true ∧ 1 ≤ a ∧ a ≤ n ∧ 1 ≤ r ∧ r ≤ 1048576 ∧ bs.length ≤ 4)) → Ev (fun k => zh.j0 k n b a r bs ps x y) (zaT a r bs ps x y n) := by
    intro b hb'
    refine Ev.step (fun k => by rw [zh.j0]) ?_
    by_cases h : zcM n = true ∧ 1 ≤ a ∧ a ≤ n ∧ 1 ≤ r ∧ r ≤ 1048576 ∧ bs.length ≤ 4
    · refine zZ (fun hh => hb'.1 hh h) (zav (zge a r bs ps x y n hb hbs hl hp bs.length 0 (by omega)) ?_)
      obtain ⟨h0, h1, h2, h3, h4, h5⟩ := h
      rw [zha a r bs ps x y n h0 h1 h2 h3 h4 h5, List.drop_zero]
    · refine zO (hb'.2 h) (zav (Ev.now _) ?_)
      symm
      rw [← Bool.not_eq_true, zcl]
      exact fun ⟨h0, h1, h2, h3, h4, h5, _⟩ => h ⟨h0, h1, h2, h3, h4, h5⟩
  refine zah (zdn n) ?_
  by_cases h0 : zcM n = true
  · refine zO h0 ?_
    by_cases h1 : a < 1
    · exact zO h1 (key true (by simp; omega))
    refine zZ h1 ?_
    by_cases h2 : a > n
    · exact zO h2 (key true (by simp; omega))
    refine zZ h2 ?_
    by_cases h3 : r < 1
    · exact zO h3 (key true (by simp; omega))
    refine zZ h3 ?_
    by_cases h4 : r > 1048576
    · exact zO h4 (key true (by simp; omega))
    exact zZ h4 (key _ (by simp [h0]; omega))
  · exact zZ h0 (key true (by simp [h0]))
end Go.Proofs.Ytlabjgcoopdbiaa.Px

namespace Go.Proofs.Ytlabjgcoopdbiaa.Px
open Go.RowKit Go.Proofs.YtlabjgcoopdbiaaW.PrintWords Go.Proofs.YtlabjgcoopdbiaaW.PrintLast Go.Proofs.YtlabjgcoopdbiaaW.PrintMore
attribute [local go_sem] zA zC zI zJ zt zu zB zD
set_option linter.unusedVariables false
set_option linter.unusedSimpArgs false
def za0 : Nat → Nat → Nat
  | 0, _ => 0
  | d + 1, s => s % 2 + za0 d (s / 2)
theorem zbX : ∀ (d s : Nat), za0 d s ≤ d
  | 0, _ => Nat.le_refl _
  | d + 1, s => by have := zbX d (s / 2); rw [za0]; omega
theorem zbP : ∀ (d e b r : Nat), b < 2 ^ d → za0 (d + e) (b + 2 ^ d * r) = za0 d b + za0 e r
  | 0, e, b, r, h => by
    obtain rfl : b = 0 := by simpa using h
    rw [Nat.zero_add, Nat.zero_add, Nat.pow_zero, Nat.one_mul]; simp [za0]
  | d + 1, e, b, r, h => by
    rw [Nat.pow_succ] at h
    have e1 : (b + 2 ^ (d + 1) * r) / 2 = b / 2 + 2 ^ d * r := by
      rw [Nat.pow_succ, Nat.mul_assoc, Nat.mul_left_comm, Nat.add_mul_div_left _ _ (by omega)]
    have e2 : (b + 2 ^ (d + 1) * r) % 2 = b % 2 := by
      rw [Nat.pow_succ, Nat.mul_assoc, Nat.mul_left_comm, Nat.add_mul_mod_self_left]
    rw [show d + 1 + e = (d + e) + 1 by omega, za0, za0, e1, e2, zbP d e (b / 2) r (by omega)]
    omega
def zal : List Nat → Nat
  | [] => 0
  | b :: l => b + 256 * zal l
theorem zcH (a b c d : Nat) (hb : b < 256) (hd : d < 256) : (b + 256 * a) &&& (d + 256 * c) = (b &&& d) + 256 * (a &&& c) := by
  have hx : b &&& d < 2 ^ 8 := Nat.and_lt_two_pow _ (by omega)
  apply Nat.eq_of_testBit_eq
  intro i
  rw [Nat.testBit_and, Nat.add_comm b, Nat.add_comm d, Nat.add_comm (b &&& d)]
  rw [show (256 : Nat) = 2 ^ 8 from rfl, Nat.testBit_two_pow_mul_add _ (by omega), Nat.testBit_two_pow_mul_add _ (by omega), Nat.testBit_two_pow_mul_add _ hx]
  split <;> rw [Nat.testBit_and]
theorem ziz : ∀ (b : Fin 256) (t : Fin 2), (b.val / 2 + 128 * t.val) &&& 85 = b.val / 2 &&& 85 := by decide +kernel
theorem ziA : ∀ (b : Fin 256) (t : Fin 4), (b.val / 4 + 64 * t.val) &&& 51 = b.val / 4 &&& 51 := by decide +kernel
def zcZ (b : Nat) : Nat := (b / 2 &&& 85) + (b &&& 85)
def zdU (b : Nat) : Nat := (b / 4 &&& 51) + (b &&& 51)
def zhI (b : Nat) : Nat := b % 16 + b / 16
theorem zek : ∀ b : Fin 256, zcZ b.val < 256 ∧ zdU (zcZ b.val) < 256 ∧ zdU (zcZ b.val) % 16 ≤ 4 ∧ zdU (zcZ b.val) / 16 ≤ 4 ∧ zhI (zdU (zcZ b.val)) = za0 8 b.val := by decide +kernel
theorem zg4 : ∀ l : List Nat, (∀ b ∈ l, b < 256) → (zal l / 2 &&& zal (List.replicate l.length 85)) + (zal l &&& zal (List.replicate l.length 85)) = zal (l.map zcZ)
  | [], _ => rfl
  | b :: l, h => by
    have hb := h b List.mem_cons_self
    have ih := zg4 l (fun c hc => h c (List.mem_cons_of_mem _ hc))
    have k := ziz ⟨b, hb⟩ ⟨zal l % 2, Nat.mod_lt _ (by omega)⟩
    simp only at k
    rw [List.length_cons, List.replicate_succ, zal, zal, List.map_cons, zal, ← ih]
    rw [show (b + 256 * zal l) / 2 = (b / 2 + 128 * (zal l % 2)) + 256 * (zal l / 2) by omega, zcH _ _ _ _ (by omega) (by omega), zcH _ _ _ _ hb (by omega), k, zcZ]
    omega
theorem zg5 : ∀ l : List Nat, (∀ b ∈ l, b < 256) → (zal l / 4 &&& zal (List.replicate l.length 51)) + (zal l &&& zal (List.replicate l.length 51)) = zal (l.map zdU)
  | [], _ => rfl
  | b :: l, h => by
    have hb := h b List.mem_cons_self
    have ih := zg5 l (fun c hc => h c (List.mem_cons_of_mem _ hc))
    have k := ziA ⟨b, hb⟩ ⟨zal l % 4, Nat.mod_lt _ (by omega)⟩
    simp only at k
    rw [List.length_cons, List.replicate_succ, zal, zal, List.map_cons, zal, ← ih]
    rw [show (b + 256 * zal l) / 4 = (b / 4 + 64 * (zal l % 4)) + 256 * (zal l / 4) by omega, zcH _ _ _ _ (by omega) (by omega), zcH _ _ _ _ hb (by omega), k, zdU]
    omega
theorem zg7 (l : List Nat) (h : ∀ b ∈ l, b % 16 ≤ 4 ∧ b / 16 ≤ 4) : zal l % 16 ≤ 4 := by
  cases l with
  | nil => simp [zal]
  | cons b l => have := (h b List.mem_cons_self).1; rw [zal]; omega
theorem zg6 : ∀ l : List Nat, (∀ b ∈ l, b % 16 ≤ 4 ∧ b / 16 ≤ 4) → ((zal l / 16 + zal l) &&& zal (List.replicate l.length 15)) = zal (l.map zhI)
  | [], _ => rfl
  | b :: l, h => by
    obtain ⟨h1, h2⟩ := h b List.mem_cons_self
    have hl := fun c hc => h c (List.mem_cons_of_mem b hc)
    have ih := zg6 l hl
    have k := zg7 l hl
    rw [List.length_cons, List.replicate_succ, zal, zal, List.map_cons, zal, ← ih]
    rw [show (b + 256 * zal l) / 16 + (b + 256 * zal l) = (b / 16 + 16 * (zal l % 16) + b) + 256 * (zal l / 16 + zal l) by omega, zcH _ _ _ _ (by omega) (by omega)]
    rw [show (15 : Nat) = 2 ^ 4 - 1 from rfl, Nat.and_two_pow_sub_one_eq_mod, zhI]
    omega
theorem zfc : ∀ l : List Nat, (∀ b ∈ l, b < 256) → zal l < 256 ^ l.length
  | [], _ => by simp [zal]
  | b :: l, h => by
    have := zfc l (fun c hc => h c (List.mem_cons_of_mem _ hc))
    have hb := h b List.mem_cons_self
    rw [zal, List.length_cons, Nat.pow_succ]; omega
set_option maxRecDepth 10000 in
theorem zgq (m : Nat) : ∀ l : List Nat, (∀ b ∈ l, b ≤ m) → zal l * 255 + m ≤ m * 256 ^ l.length
  | [], _ => by simp [zal]
  | b :: l, h => by
    have := zgq m l (fun c hc => h c (List.mem_cons_of_mem _ hc))
    have hb := h b List.mem_cons_self
    rw [zal, List.length_cons, Nat.pow_succ, ← Nat.mul_assoc]
    generalize m * 256 ^ l.length = X at *
    omega
theorem zcW (a b : Nat) (h : a + b < 18446744073709551616) : IntKind.u64.wrap ((a : Int) + (b : Int)) = ((a + b : Nat) : Int) := by
  rw [zaY (by omega) (by omega)]; omega
theorem zia {q0 q1 q2 r1 r2 r3 z : Nat} (g0 : q0 ≤ 8) (g1 : q1 ≤ 8) (g2 : q2 ≤ 8) (e0 : z = q0 + 256 * r1) (e1 : r1 = q1 + 256 * r2) (e2 : r2 = q2 + 256 * r3) : z / 256 = r1 ∧ (z + r1) / 65536 = r2 + r3 := by
  constructor <;> omega
theorem zib {q0 q1 q2 q3 q4 q5 q6 q7 r1 r2 r3 r4 r5 r6 z : Nat} (g0 : q0 ≤ 8) (g1 : q1 ≤ 8) (g2 : q2 ≤ 8) (g3 : q3 ≤ 8) (g4 : q4 ≤ 8) (g5 : q5 ≤ 8) (g6 : q6 ≤ 8) (e0 : z = q0 + 256 * q1 + 65536 * q2 + 16777216 * q3 + 4294967296 * r4) (e1 : r1 = q1 + 256 * q2 + 65536 * q3 + 16777216 * q4 + 4294967296 * r5) (e2 : r2 = q2 + 256 * q3 + 65536 * q4 + 16777216 * q5 + 4294967296 * r6) (e3 : r3 = q3 + 256 * q4 + 65536 * q5 + 16777216 * q6 + 4294967296 * q7) :
    (z + r1 + (r2 + r3)) / 4294967296 = r4 + r5 + r6 + q7 := by
  generalize hx : q0 + 256 * q1 + 65536 * q2 + 16777216 * q3 = x at *
  have lx : x ≤ 134744072 := by omega
  generalize hy : q1 + 256 * q2 + 65536 * q3 + 16777216 * q4 = y at *
  have ly : y ≤ 134744072 := by omega
  generalize hu : q2 + 256 * q3 + 65536 * q4 + 16777216 * q5 = u at *
  have lu : u ≤ 134744072 := by omega
  generalize hv : q3 + 256 * q4 + 65536 * q5 + 16777216 * q6 = v at *
  have lv : v ≤ 134744072 := by omega
  clear hx hy hu hv g0 g1 g2 g3 g4 g5 g6
  omega
theorem zhJ (q0 q1 q2 q3 q4 q5 q6 q7 z z1 z2 z3 : Nat) (g0 : q0 ≤ 8) (g1 : q1 ≤ 8) (g2 : q2 ≤ 8) (g3 : q3 ≤ 8) (g4 : q4 ≤ 8) (g5 : q5 ≤ 8) (g6 : q6 ≤ 8) (g7 : q7 ≤ 8)
    (hz : z = q0 + 256 * (q1 + 256 * (q2 + 256 * (q3 + 256 * (q4 + 256 * (q5 + 256 * (q6 + 256 * q7))))))) (h1 : z1 = z + z / 256) (h2 : z2 = z1 + z1 / 65536) (h3 : z3 = z2 + z2 / 4294967296) :
    z3 % 128 = q0 + (q1 + (q2 + (q3 + (q4 + (q5 + (q6 + q7)))))) := by
  obtain ⟨r6, e6⟩ : ∃ r, r = q6 + 256 * q7 := ⟨_, rfl⟩
  obtain ⟨r5, e5⟩ : ∃ r, r = q5 + 256 * r6 := ⟨_, rfl⟩
  obtain ⟨r4, e4⟩ : ∃ r, r = q4 + 256 * r5 := ⟨_, rfl⟩
  obtain ⟨r3, e3⟩ : ∃ r, r = q3 + 256 * r4 := ⟨_, rfl⟩
  obtain ⟨r2, e2⟩ : ∃ r, r = q2 + 256 * r3 := ⟨_, rfl⟩
  obtain ⟨r1, e1⟩ : ∃ r, r = q1 + 256 * r2 := ⟨_, rfl⟩
  rw [← e6, ← e5, ← e4, ← e3, ← e2, ← e1] at hz
  obtain ⟨a1, a2⟩ := zia g0 g1 g2 hz e1 e2
  rw [a1] at h1
  rw [h1, a2] at h2
  have a3 := zib (z := z) (q7 := q7) (r1 := r1) (r2 := r2) (r3 := r3) (r4 := r4) (r5 := r5) (r6 := r6) g0 g1 g2 g3 g4 g5 g6 (by rw [hz, e1, e2, e3]; omega) (by rw [e1, e2, e3, e4]; omega) (by rw [e2, e3, e4, e5]; omega) (by rw [e3, e4, e5, e6]; omega)
  rw [h2, a3] at h3
  clear a1 a2 a3 h1 h2
  omega
set_option maxHeartbeats 1000000 in
theorem zcY (x : Nat) (hx : x < 18446744073709551616) : zaH.f (x : Int) = some ((za0 64 x : Nat) : Int) := by
  obtain ⟨b0, b1, b2, b3, b4, b5, b6, b7, h0, h1, h2, h3, h4, h5, h6, h7, e⟩ : ∃ b0 b1 b2 b3 b4 b5 b6 b7 : Nat, b0 < 256 ∧ b1 < 256 ∧ b2 < 256 ∧ b3 < 256 ∧ b4 < 256 ∧ b5 < 256 ∧ b6 < 256 ∧ b7 < 256 ∧ x = zal [b0, b1, b2, b3, b4, b5, b6, b7] :=
    ⟨x % 256, x / 256 % 256, x / 65536 % 256, x / 16777216 % 256, x / 4294967296 % 256, x / 1099511627776 % 256, x / 281474976710656 % 256, x / 72057594037927936, by omega, by omega, by omega, by omega, by omega, by omega, by omega, by omega, by simp only [zal]; omega⟩
  generalize hl : [b0, b1, b2, b3, b4, b5, b6, b7] = l at e
  have hlen : l.length = 8 := by rw [← hl]; rfl
  have hb : ∀ b ∈ l, b < 256 := by rw [← hl]; simp only [List.mem_cons, List.not_mem_nil, or_false]; rintro b (rfl | rfl | rfl | rfl | rfl | rfl | rfl | rfl) <;> assumption
  have q1 := zg4 l hb
  have hb1 : ∀ b ∈ l.map zcZ, b < 256 := fun b hm => by obtain ⟨c, hc, rfl⟩ := List.mem_map.1 hm; exact (zek ⟨c, hb c hc⟩).1
  have q2 := zg5 (l.map zcZ) hb1
  have hb2 : ∀ b ∈ (l.map zcZ).map zdU, b % 16 ≤ 4 ∧ b / 16 ≤ 4 := fun b hm => by
    obtain ⟨c, hc, rfl⟩ := List.mem_map.1 hm
    obtain ⟨d, hd, rfl⟩ := List.mem_map.1 hc
    have := zek ⟨d, hb d hd⟩
    exact ⟨this.2.2.1, this.2.2.2.1⟩
  have q3 := zg6 ((l.map zcZ).map zdU) hb2
  have e4 : ((l.map zcZ).map zdU).map zhI = l.map (za0 8) := by
    rw [List.map_map, List.map_map]
    refine List.map_congr_left (fun c hc => ?_)
    exact (zek ⟨c, hb c hc⟩).2.2.2.2
  rw [e4] at q3
  rw [List.length_map] at q2
  rw [List.length_map, List.length_map] at q3
  rw [hlen] at q1 q2 q3
  have p8 : (256 : Nat) ^ 8 = 18446744073709551616 := by decide
  have l1 := zfc _ hb1
  rw [List.length_map, hlen, p8] at l1
  have l2 := zfc ((l.map zcZ).map zdU) (fun b hm => by have := hb2 b hm; omega)
  rw [List.length_map, List.length_map, hlen, p8] at l2
  have l2' := zgq 68 ((l.map zcZ).map zdU) (fun b hm => by have := hb2 b hm; omega)
  rw [List.length_map, List.length_map, hlen, p8] at l2'
  rw [show zal (List.replicate 8 85) = 6148914691236517205 from rfl, ← e] at q1
  rw [show zal (List.replicate 8 51) = 3689348814741910323 from rfl] at q2
  rw [show zal (List.replicate 8 15) = 1085102592571150095 from rfl] at q3
  generalize zal (l.map zcZ) = y1 at *
  generalize zal ((l.map zcZ).map zdU) = y2 at *
  have hz : zal (l.map (za0 8)) = za0 8 b0 + 256 * (za0 8 b1 + 256 * (za0 8 b2 + 256 * (za0 8 b3 + 256 * (za0 8 b4 + 256 * (za0 8 b5 + 256 * (za0 8 b6 + 256 * za0 8 b7)))))) := by rw [← hl]; simp only [List.map, zal, Nat.mul_zero, Nat.add_zero]
  have hp : za0 64 x = za0 8 b0 + (za0 8 b1 + (za0 8 b2 + (za0 8 b3 + (za0 8 b4 + (za0 8 b5 + (za0 8 b6 + za0 8 b7)))))) := by
    rw [e, ← hl]
    simp only [zal, Nat.mul_zero, Nat.add_zero]
    rw [show (64 : Nat) = 8 + 56 from rfl, show (256 : Nat) = 2 ^ 8 from rfl, zbP _ _ _ _ h0, show (56 : Nat) = 8 + 48 from rfl, zbP _ _ _ _ h1, show (48 : Nat) = 8 + 40 from rfl, zbP _ _ _ _ h2, show (40 : Nat) = 8 + 32 from rfl, zbP _ _ _ _ h3, show (32 : Nat) = 8 + 24 from rfl, zbP _ _ _ _ h4, show (24 : Nat) = 8 + 16 from rfl, zbP _ _ _ _ h5, show (16 : Nat) = 8 + 8 from rfl, zbP _ _ _ _ h6]
  have g0 := zbX 8 b0
  have g1 := zbX 8 b1
  have g2 := zbX 8 b2
  have g3 := zbX 8 b3
  have g4 := zbX 8 b4
  have g5 := zbX 8 b5
  have g6 := zbX 8 b6
  have g7 := zbX 8 b7
  generalize zal (l.map (za0 8)) = z at *
  have d2 : (x : Int) / 2 = ((x / 2 : Nat) : Int) := by omega
  have d4 : (y1 : Int) / 4 = ((y1 / 4 : Nat) : Int) := by omega
  have d16 : (y2 : Int) / 16 = ((y2 / 16 : Nat) : Int) := by omega
  have i1 : IntKind.u64.wrap (Go.bits .and .u64 ((x : Int) / 2) 6148914691236517205 + Go.bits .and .u64 (x : Int) 6148914691236517205) = (y1 : Int) := by
    have k1 : Go.bits .and .u64 ((x / 2 : Nat) : Int) 6148914691236517205 = ((x / 2 &&& 6148914691236517205 : Nat) : Int) := u64_and_nat (x / 2) 6148914691236517205 (by omega) (by omega)
    have k2 : Go.bits .and .u64 (x : Int) 6148914691236517205 = ((x &&& 6148914691236517205 : Nat) : Int) := u64_and_nat x 6148914691236517205 hx (by omega)
    rw [d2, k1, k2, zcW _ _ (by rw [q1]; exact l1), q1]
  have i2 : IntKind.u64.wrap (Go.bits .and .u64 ((y1 : Int) / 4) 3689348814741910323 + Go.bits .and .u64 (y1 : Int) 3689348814741910323) = (y2 : Int) := by
    have k1 : Go.bits .and .u64 ((y1 / 4 : Nat) : Int) 3689348814741910323 = ((y1 / 4 &&& 3689348814741910323 : Nat) : Int) := u64_and_nat (y1 / 4) 3689348814741910323 (by omega) (by omega)
    have k2 : Go.bits .and .u64 (y1 : Int) 3689348814741910323 = ((y1 &&& 3689348814741910323 : Nat) : Int) := u64_and_nat y1 3689348814741910323 l1 (by omega)
    rw [d4, k1, k2, zcW _ _ (by rw [q2]; exact l2), q2]
  have l3 : y2 / 16 + y2 < 18446744073709551616 := by omega
  have i3 : Go.bits .and .u64 (IntKind.u64.wrap ((y2 : Int) / 16 + (y2 : Int))) 1085102592571150095 = (z : Int) := by
    have k1 : Go.bits .and .u64 ((y2 / 16 + y2 : Nat) : Int) 1085102592571150095 = ((y2 / 16 + y2 &&& 1085102592571150095 : Nat) : Int) := u64_and_nat (y2 / 16 + y2) 1085102592571150095 l3 (by omega)
    rw [d16, zcW _ _ l3, k1, q3]
  unfold zaH.f
  rw [i1, i2, i3]
  have i4 : IntKind.u64.wrap ((z : Int) + (z : Int) / 256) = ((z + z / 256 : Nat) : Int) := by
    rw [show (z : Int) / 256 = ((z / 256 : Nat) : Int) by omega]; exact zcW _ _ (by omega)
  rw [i4]
  generalize hz1 : z + z / 256 = z1
  have i5 : IntKind.u64.wrap ((z1 : Int) + (z1 : Int) / 65536) = ((z1 + z1 / 65536 : Nat) : Int) := by
    rw [show (z1 : Int) / 65536 = ((z1 / 65536 : Nat) : Int) by omega]; exact zcW _ _ (by omega)
  rw [i5]
  generalize hz2 : z1 + z1 / 65536 = z2
  have i6 : IntKind.u64.wrap ((z2 : Int) + (z2 : Int) / 4294967296) = ((z2 + z2 / 4294967296 : Nat) : Int) := by
    rw [show (z2 : Int) / 4294967296 = ((z2 / 4294967296 : Nat) : Int) by omega]; exact zcW _ _ (by omega)
  rw [i6]
  generalize hz3 : z2 + z2 / 4294967296 = z3
  have l4 : z3 < 9223372036854775808 := by omega
  have i7 : Go.bits .and .i64 (wrap64 (z3 : Int)) 127 = ((z3 % 128 : Nat) : Int) := by
    rw [zak (by omega) (by omega)]
    have := bits_mask .i64 63 (by decide) (fun n h0 h1 => by rw [IntKind.wrap_i64]; omega) 7 (by decide) (z3 : Int) (by omega) (by omega)
    rw [show ((2 : Int) ^ 7 - 1) = 127 from rfl] at this
    rw [this]; omega
  rw [i7, hp]
  have hq : z3 % 128 = za0 8 b0 + (za0 8 b1 + (za0 8 b2 + (za0 8 b3 + (za0 8 b4 + (za0 8 b5 + (za0 8 b6 + za0 8 b7)))))) := zhJ _ _ _ _ _ _ _ _ _ _ _ _ g0 g1 g2 g3 g4 g5 g6 g7 hz hz1.symm hz2.symm hz3.symm
  rw [hq]
end Go.Proofs.Ytlabjgcoopdbiaa.Px

namespace Go.Proofs.Ytlabjgcoopdbiaa.Px
open Go.RowKit Go.Proofs.YtlabjgcoopdbiaaW.PrintWords Go.Proofs.YtlabjgcoopdbiaaW.PrintLast Go.Proofs.YtlabjgcoopdbiaaW.PrintMore
attribute [local go_sem] zA zC zI zJ zt zu zB zD
set_option linter.unusedVariables false
set_option linter.unusedSimpArgs false
def zbB (s : Nat) (n : Int) : Bool := decide (0 ≤ n) && decide (n ≤ 64) && decide (s < 2 ^ n.toNat)
theorem zbQ (s : Nat) (n : Int) : zbB s n = true ↔ 0 ≤ n ∧ n ≤ 64 ∧ s < 2 ^ n.toNat := by
  unfold zbB; simp [and_assoc]
theorem zfa (s p : Nat) (hp : 0 < p) : s / p = 0 ↔ s < p := by
  rw [Nat.div_eq_zero_iff]; omega
theorem zdX (s : Nat) (n : Int) : zaD.f (s : Int) n = some (zbB s n) := by
  unfold zaD.f
  by_cases h1 : n < 0
  · rw [if_pos h1]
    have : zbB s n = false := by rw [← Bool.not_eq_true, zbQ]; omega
    rw [this]
  rw [if_neg h1]
  by_cases h2 : n > 64
  · rw [if_pos h2]
    have : zbB s n = false := by rw [← Bool.not_eq_true, zbQ]; omega
    rw [this]
  rw [if_neg h2, zak (by omega) (by omega)]
  by_cases h3 : n > 0
  · obtain ⟨m, rfl⟩ : ∃ m : Nat, n = ((m + 1 : Nat) : Int) := ⟨(n - 1).toNat, by omega⟩
    have hm : mx (((m + 1 : Nat) : Int) - 1) 0 = (m : Int) := by unfold mx; split <;> omega
    have hs : shr .u64 ((s : Int) / 2) (m : Int) = ((s / 2 / 2 ^ m : Nat) : Int) := by
      unfold shr
      rw [Int.toNat_natCast, Nat.min_eq_left (by show m ≤ 64; omega), show (s : Int) / 2 = ((s / 2 : Nat) : Int) by omega]
      norm_cast
    have he : s / 2 / 2 ^ m = s / 2 ^ (m + 1) := by rw [Nat.div_div_eq_div_mul, Nat.pow_succ, Nat.mul_comm]
    rw [hm, hs, he]
    have key := zfa s (2 ^ (m + 1)) (Nat.two_pow_pos _)
    by_cases h4 : s / 2 ^ (m + 1) = 0
    · rw [if_pos (by omega), if_pos h3]
      have : zbB s ((m + 1 : Nat) : Int) = true := by rw [zbQ]; exact ⟨by omega, by omega, key.1 h4⟩
      rw [this]
    · rw [if_neg (by omega)]
      have : zbB s ((m + 1 : Nat) : Int) = false := by
        rw [← Bool.not_eq_true, zbQ]
        exact fun hh => h4 (key.2 hh.2.2)
      rw [this]
  · obtain rfl : n = 0 := by omega
    have hm : mx ((0 : Int) - 1) 0 = 0 := by decide
    have hs : shr .u64 ((s : Int) / 2) 0 = (s : Int) / 2 := by unfold shr; simp
    have hw : zbB s 0 = decide (s = 0) := by
      rw [Bool.eq_iff_iff, zbQ]; simp
    rw [hm, hs, hw]
    by_cases h4 : s = 0
    · subst h4; rfl
    · by_cases h5 : (s : Int) / 2 = 0
      · rw [if_pos h5, if_neg (by omega)]
        congr 1
        rw [Bool.eq_iff_iff]; simp
      · rw [if_neg h5]; simp [h4]
theorem zeu (s : Nat) (hs : s < 18446744073709551616) : zaG.f (s : Int) = some ((za0 64 s : Nat) : Int) := by
  unfold zaG.f
  rw [zcY s hs]; rfl
def zcz : Nat → Nat → Nat → List Int
  | 0, _, _ => []
  | d + 1, id, s => (if s % 2 = 1 then [(id : Int)] else []) ++ zcz d (id + 1) (s / 2)
def zcI (a r : Int) (bs : List S68) (ps : List ByteArray) (x y : Int) (s : Nat) (n : Int) : Int :=
  if zaT a r bs ps x y n = true then if zbB s n = true then if ((za0 64 s : Nat) : Int) < zaW n then 2 else 0 else 4 else 1
theorem ze8 (a r : Int) (bs : List S68) (ps : List ByteArray) (x y : Int) (s : Nat) (hs : s < 18446744073709551616) (n : Int) : zbc.f a r bs ps x y (s : Int) n = some (zcI a r bs ps x y s n) := by
  unfold zbc.f zcI
  rw [show zX.f a r bs ps x y n = some (zaT a r bs ps x y n) from rfl, zdX, zeu s hs, zcC]
  simp only [Option.bind_some]
  split
  · split
    · split <;> rfl
    · rfl
  · rfl
theorem zf0 {a r : Int} {bs : List S68} {ps : List ByteArray} {x y : Int} {s : Nat} {n : Int} : zcI a r bs ps x y s n = 0 ↔ zaT a r bs ps x y n = true ∧ zbB s n = true ∧ zaW n ≤ ((za0 64 s : Nat) : Int) := by
  unfold zcI
  by_cases h1 : zaT a r bs ps x y n = true
  · rw [if_pos h1]
    by_cases h2 : zbB s n = true
    · rw [if_pos h2]
      by_cases h3 : ((za0 64 s : Nat) : Int) < zaW n
      · rw [if_pos h3]; simp; omega
      · rw [if_neg h3]; simp [h1, h2]; omega
    · rw [if_neg h2]; simp [h2]
  · rw [if_neg h1]; simp [h1]
end Go.Proofs.Ytlabjgcoopdbiaa.Px

namespace Go.Proofs.Ytlabjgcoopdbiaa.Px
open Go.RowKit Go.Proofs.YtlabjgcoopdbiaaW.PrintWords Go.Proofs.YtlabjgcoopdbiaaW.PrintLast Go.Proofs.YtlabjgcoopdbiaaW.PrintMore
attribute [local go_sem] zA zC zI zJ zt zu zB zD
set_option linter.unusedVariables false
set_option linter.unusedSimpArgs false
theorem zbH {x : Int} (h0 : 0 ≤ x) (h1 : x < 9223372036854775808) : Ev (fun k => zq.f k (IntKind.u64.wrap x)) (zaR x.toNat) := by
  obtain ⟨n, rfl⟩ := Int.eq_ofNat_of_zero_le h0
  rw [zaY (by omega) (by omega), Int.toNat_natCast]
  exact zdz n (by omega)
def ze3 (o q : Int) (l : List ByteArray) : ByteArray × Int := if zcK o q l = true then (toB (zdt o q l), 0) else ((⟨#[]⟩ : ByteArray), 1)
theorem zdy (o q : Int) (l : List ByteArray) (hl : l.length < 4611686018427387904) : Ev (fun k => zS.f k o q l) (ze3 o q l) := by
  refine Ev.bind (zeV _ _ _ hl) ?_
  unfold ze3
  by_cases h : zcK o q l = true
  · rw [if_pos h]
    obtain ⟨h1, h2, h3, h4, h5, h6, h7⟩ := (zcL o q l).1 h
    have r1 := zcR l 48 (by omega) (fun t ht => (h7 t ht).2)
    have r2 := zaA (v := l.length) (by omega)
    have r3 : (zbo l).length ≤ 300 := by rw [zbo, List.length_append]; omega
    have n1 := zaE (v := o.toNat) (by omega)
    have n2 := zaE (v := q.toNat) (by omega)
    have r4 : zH.f l = some (toB (zbo l)) := if_pos (by omega)
    refine zO h (Ev.bind (zbH (by omega) (by omega)) (Ev.bind (zbH (by omega) (by omega)) (zO (by omega) (zah r4 (zO (by rw [ByteArray.size_append, zaf]; omega) (zav (Ev.now _) ?_))))))
    rw [zdt, zaJ, zaJ]; rfl
  · rw [if_neg h]; exact zZ h (Ev.now _)
theorem zfX (b : S68) : (ze3 b.f0 b.f1 b.f2).1 = bB b := by
  unfold ze3 bB; split <;> rfl
def zfu (a r : Int) (bs : List S68) (ps : List ByteArray) (x y n : Int) : ByteArray × Int := if zaT a r bs ps x y n = true then (toB (zbl a r bs ps x y), 0) else ((⟨#[]⟩ : ByteArray), 1)
theorem zfm {a r : Int} {bs : List S68} {ps : List ByteArray} {x y n : Int} (h : zaT a r bs ps x y n = true) (d : Nat) : ∀ j, j + d = bs.length →
    Ev (fun k => zs.l0 k ((bs.take j).map bB) (j : Int) a r bs ps x y) (toB (zbl a r bs ps x y), 0) := by
  obtain ⟨h0, h1, h2, h3, h4, h5, h6, h7, h8, h9⟩ := (zcl ..).1 h
  obtain ⟨k1, k2, k3⟩ := (zb1 n).1 h0
  obtain ⟨x1, x2, y1, y2⟩ := (zdk x y).1 h7
  induction d with
  | zero =>
    intro j hj
    refine Ev.step (fun k => by rw [zs.l0]) ?_
    rw [List.take_of_length_le (by omega)]
    have s0 := zaE (v := a.toNat) (by omega)
    have s1 := zaE (v := r.toNat) (by omega)
    have s2 := zaE (v := x.toNat) (by omega)
    have s3 := zaE (v := y.toNat) (by omega)
    have r1 := zfo h5
    have r2 := zfp (zby h0 h9)
    have d1 : zH.f (bs.map bB) = some (toB (zbo (bs.map bB))) := if_pos (by omega)
    have d2 : zH.f ps = some (toB (zbo ps)) := if_pos (by omega)
    refine zZ (by omega) (Ev.bind (zbH (by omega) (by omega)) (Ev.bind (zbH (by omega) (by omega)) (zO (by omega) (zah d1 (zO (by simp only [ByteArray.size_append, zaf]; omega) (zah d2 (zO (by simp only [ByteArray.size_append, zaf]; omega)
      (Ev.bind (zbH (by omega) (by omega)) (zO (by simp only [ByteArray.size_append, zaf]; omega) (Ev.bind (zbH (by omega) (by omega)) (zO (by simp only [ByteArray.size_append, zaf]; omega) (zav (Ev.now _) ?_))))))))))))
    simp only [zbl, zaR, zaJ]
  | succ d ih =>
    intro j hj
    have hj' : j < bs.length := by omega
    refine Ev.step (fun k => by rw [zs.l0]) ?_
    refine zO (by omega) (zO (by omega) ?_)
    rw [zdK bs j hj', zak (by omega) (by omega)]
    have hl := (zf1 h).2.1 _ (List.getElem_mem hj')
    refine Ev.bind (zdy _ _ _ hl) (zO (by rw [List.length_map, List.length_take]; omega) ?_)
    rw [zfX]
    have e : (bs.take j).map bB ++ [bB bs[j]] = (bs.take (j + 1)).map bB := by
      rw [List.take_succ_eq_append_getElem hj', List.map_append]; rfl
    rw [e]
    exact ih (j + 1) (by omega)
theorem zdo (a r : Int) (bs : List S68) (ps : List ByteArray) (x y n : Int) (hb : bs.length < 4611686018427387904) (hbs : ∀ b ∈ bs, b.f2.length < 4611686018427387904) (hl : ps.length < 4611686018427387904) (hp : ∀ t ∈ ps, t.size < 4611686018427387904) :
    Ev (fun k => zs.f k a r bs ps x y n) (zfu a r bs ps x y n) := by
  refine Ev.bind (zgd a r bs ps x y n hb hbs hl hp) ?_
  unfold zfu
  by_cases h : zaT a r bs ps x y n = true
  · rw [if_pos h]
    exact zO h (zav (zfm h bs.length 0 (by omega)) rfl)
  · rw [if_neg h]; exact zZ h (Ev.now _)
end Go.Proofs.Ytlabjgcoopdbiaa.Px
