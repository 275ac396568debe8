/- Part 27 of 28 of the proof of the law CertMeet: what is proved is the statement at the end of the last part; its conditions are those of the given row. -/
import Derived.Test.YtlabjgcoopdbiaaZCertMeetZ
namespace Go.Proofs.Ytlabjgcoopdbiaa.Px
open Go.RowKit Go.Proofs.YtlabjgcoopdbiaaW.PrintWords Go.Proofs.YtlabjgcoopdbiaaW.PrintLast Go.Proofs.YtlabjgcoopdbiaaW.PrintMore
attribute [local go_sem] zz zB zJ zK zu zv zA zC
set_option linter.unusedVariables false
set_option linter.unusedSimpArgs false
theorem zcM (n : Int) : zY.f n = some (zcs n) := by
  unfold zY.f zcs
  by_cases h4 : n = 4
  · subst h4; rfl
  · rw [if_neg h4]
    by_cases h : n > 4
    · rw [if_pos h]
      by_cases h1 : n ≤ 64
      · rw [if_pos h1, zaf (by omega) (by omega), Int.tmod_eq_emod_of_nonneg (by omega)]
        by_cases h2 : n % 3 = 1
        · have : (n - 1) % 3 = 0 := by omega
          simp [h1, h2, this]; omega
        · have : ¬ (n - 1) % 3 = 0 := by omega
          simp [h2, this]
      · rw [if_neg h1]; simp [h1]
    · rw [if_neg h]
      have : ¬ 4 ≤ n := by omega
      simp [this]
theorem zek (n : Int) : zaa.f n = some (za9 n) := by
  unfold zaa.f za9
  rw [zcM]
  simp only [Option.bind_some]
  by_cases h : zcs n = true
  · rw [if_pos h, if_pos h]
    obtain ⟨h1, h2, h3⟩ := (zbJ n).1 h
    rw [zaf (x := n - 1) (by omega) (by omega), Int.tdiv_eq_ediv_of_nonneg (by omega), zaf (x := (n - 1) / 3) (by omega) (by omega), zaf (by omega) (by omega)]
  · rw [if_neg h, if_neg h]
theorem zfL (a b : Int) : zX.f a b = some (zeh a b) := by
  unfold zX.f zeh
  by_cases h1 : 0 ≤ a <;> by_cases h2 : a < 10007 <;> by_cases h3 : 0 ≤ b <;> simp [h1, h2, h3]
theorem zeP (r : Int) : zU.f r = some (zcx r) := by
  unfold zU.f zcx
  by_cases h : r > 0
  · rw [if_pos h, Int.tmod_eq_emod_of_nonneg (by omega)]
    by_cases h2 : r % 3 = 0
    · have : 3 ≤ r := by omega
      simp [h2, this]
    · simp [h2]
  · rw [if_neg h]
    have : ¬ 3 ≤ r := by omega
    simp [this]
def zdZ (r x y : Int) : Bool := zeh x y && (zcx r || (decide (x = 0) && decide (y = 0)))
theorem zgJ (a r : Int) (bs : List S68) (ps : List ByteArray) (x y : Int) (hl : ps.length < 4611686018427387904) (hp : ∀ t ∈ ps, t.size < 4611686018427387904) (d : Nat) : ∀ j, j + d = ps.length →
    Ev (fun k => zm.l1 k (j : Int) a r bs ps x y) (zaY ps d j && zdZ r x y) := by
  induction d with
  | zero =>
    intro j hj
    refine Ev.step (fun k => by rw [zm.l1]) ?_
    refine z6 (by omega) (zaq (zfL x y) (zaq (zeP r) ?_))
    unfold zdZ
    by_cases h1 : zeh x y = true
    · refine zN h1 ?_
      by_cases h2 : zcx r = true
      · exact zN h2 (zax (Ev.now _) (by simp [zaY, h1, h2]))
      · refine z6 h2 ?_
        by_cases h3 : x = 0
        · refine zN h3 (zax (Ev.now _) ?_)
          rw [Bool.not_eq_true] at h2
          subst h3
          by_cases h4 : y = 0
          · subst h4; simp [zaY, h1, h2]
          · simp [zaY, h1, h2, h4]
        · rw [Bool.not_eq_true] at h2
          exact z6 h3 (zax (Ev.now _) (by simp [zaY, h2, h3]))
    · rw [Bool.not_eq_true] at h1
      exact z6 (by rw [h1]; simp) (zax (Ev.now _) (by simp [zaY, h1]))
  | succ d ih =>
    intro j hj
    have hj' : j < ps.length := by omega
    refine Ev.step (fun k => by rw [zm.l1]) ?_
    refine zN (by omega) (zN (by omega) ?_)
    have e1 : zD ByteArray.empty ps (j : Int) = ps.getD j ByteArray.empty := by rw [zD, Int.toNat_natCast]
    rw [e1]
    by_cases h : (ps.getD j ByteArray.empty).size = 32
    · refine zN (by omega) ?_
      rw [zaf (x := (j : Int) + 1) (by omega) (by omega)]
      by_cases h0 : j = 0
      · subst h0
        refine z6 (by omega) (zax (ih 1 (by omega)) ?_)
        simp only [zaY, zfa, h]; simp
      · refine zN (by omega) ?_
        have e2 : wrap64 ((j : Int) - 1) = ((j - 1 : Nat) : Int) := by rw [zaf (by omega) (by omega)]; omega
        rw [e2]
        refine zN (by omega) (zN (by omega) ?_)
        have e3 : zD ByteArray.empty ps ((j - 1 : Nat) : Int) = ps.getD (j - 1) ByteArray.empty := by rw [zD, Int.toNat_natCast]
        rw [e3]
        have hsz : (ps.getD (j - 1) ByteArray.empty).size < 4611686018427387904 := by
          rw [List.getD_eq_getElem?_getD, List.getElem?_eq_getElem (show j - 1 < ps.length by omega)]
          exact hp _ (List.getElem_mem _)
        refine Ev.bind (zig _ _ hsz) ?_
        by_cases h2 : zcZ (ofB (ps.getD (j - 1) ByteArray.empty)) (ofB (ps.getD j ByteArray.empty)) = true
        · refine zN h2 (zax (ih (j + 1) (by omega)) ?_)
          simp only [zaY, zfa, h, h2]; simp
        · refine z6 h2 (zax (Ev.now _) ?_)
          rw [Bool.not_eq_true] at h2
          simp only [zaY, zfa, h, h0, h2]; simp
    · refine z6 (by omega) (zax (Ev.now _) ?_)
      simp only [zaY, zfa, h]; simp
def zeu (r : Int) (ps : List ByteArray) (x y n : Int) : Bool :=
  !(decide (r = 1) && decide (0 < ps.length)) && !(decide (1 < r) && (decide ((ps.length : Int) < za9 n) || decide (n < ps.length))) && (zaY ps ps.length 0 && zdZ r x y)
theorem zgI (a r : Int) (bs : List S68) (ps : List ByteArray) (x y n : Int) (hb : bs.length < 4611686018427387904) (hbs : ∀ b ∈ bs, b.f2.length < 4611686018427387904) (hl : ps.length < 4611686018427387904) (hp : ∀ t ∈ ps, t.size < 4611686018427387904) (d : Nat) : ∀ j, j + d = bs.length →
    Ev (fun k => zm.l0 k n (j : Int) a r bs ps x y) (!(bs.drop j).any (zcl n) && zeu r ps x y n) := by
  induction d with
  | zero =>
    intro j hj
    refine Ev.step (fun k => by rw [zm.l0]) ?_
    rw [List.drop_eq_nil_of_le (by omega)]
    refine z6 (by omega) ?_
    have J3 : ∀ b : Bool, Ev (fun k => zm.j3 k b a r bs ps x y) (!b && (zaY ps ps.length 0 && zdZ r x y)) := by
      intro b
      refine Ev.step (fun k => by rw [zm.j3]) ?_
      rcases b with _ | _
      · exact z6 (by simp) (zax (zgJ a r bs ps x y hl hp ps.length 0 (by omega)) (by simp))
      · exact zN rfl (zax (Ev.now _) (by simp))
    have J2 : ∀ b : Bool, Ev (fun k => zm.j2 k n b a r bs ps x y) (!b && (!(decide (1 < r) && (decide ((ps.length : Int) < za9 n) || decide (n < ps.length))) && (zaY ps ps.length 0 && zdZ r x y))) := by
      intro b
      refine Ev.step (fun k => by rw [zm.j2]) ?_
      rcases b with _ | _
      · refine z6 (by simp) ?_
        by_cases h : r > 1
        · have h' : 1 < r := h
          refine zN h (zaq (zek n) ?_)
          by_cases h2 : (ps.length : Int) < za9 n
          · exact zN h2 (zax (J3 true) (by simp [h', h2]))
          · exact z6 h2 (zax (J3 _) (by simp [h', h2]))
        · have h' : ¬ 1 < r := h
          exact z6 h (zax (J3 false) (by simp [h']))
      · exact zN rfl (zax (Ev.now _) (by simp))
    unfold zeu
    by_cases h : r = 1
    · refine zN h (zax (J2 _) ?_)
      subst h
      by_cases h0 : 0 < ps.length
      · have : decide ((ps.length : Int) > 0) = true := decide_eq_true (by omega)
        simp [this, h0]
      · have : decide ((ps.length : Int) > 0) = false := decide_eq_false (by omega)
        simp [this, h0]
    · exact z6 h (zax (J2 false) (by simp [h]))
  | succ d ih =>
    intro j hj
    have hj' : j < bs.length := by omega
    refine Ev.step (fun k => by rw [zm.l0]) ?_
    refine zN (by omega) (zN (by omega) ?_)
    rw [zd8 bs j hj', zaf (by omega) (by omega), List.drop_eq_getElem_cons hj', List.any_cons]
    refine Ev.bind (zfn _ _ _ (hbs _ (List.getElem_mem hj'))) ?_
    by_cases h : zc0 bs[j].f0 bs[j].f1 bs[j].f2 = true
    · refine zN h ?_
      by_cases h2 : bs[j].f0 > n
      · have h3 : n < bs[j].f0 := h2
        exact zN h2 (zax (Ev.now _) (by simp [zcl, h3]))
      · have h3 : ¬ n < bs[j].f0 := h2
        refine z6 h2 (zax (ih (j + 1) (by omega)) ?_)
        have : zcl n bs[j] = false := by simp [zcl, h, h3]
        rw [this, Bool.false_or]
    · refine z6 h (zax (Ev.now _) ?_)
      rw [Bool.not_eq_true] at h
      simp [zcl, h]
theorem zhK (a r : Int) (bs : List S68) (ps : List ByteArray) (x y n : Int) (h0 : zcs n = true) (h1 : 1 ≤ a) (h2 : a ≤ n) (h3 : 1 ≤ r) (h4 : r ≤ 1048576) (h5 : bs.length ≤ 4) :
    za7 a r bs ps x y n = (!bs.any (zcl n) && zeu r ps x y n) := by
  unfold za7 zeu zbv zdZ
  simp only [h0, h1, h2, h3, h4, h5]
  by_cases e : r = 1
  · subst e
    rcases ps with _ | ⟨p, ps⟩
    · simp [zaY, Bool.and_assoc]
    · simp
  · have h6 : 1 < r := by omega
    simp only [if_neg e, e, h6]
    have q1 : decide ((ps.length : Int) < za9 n) = !decide (za9 n ≤ (ps.length : Int)) := by
      by_cases q : za9 n ≤ (ps.length : Int) <;> simp [q] <;> omega
    have q2 : decide (n < (ps.length : Int)) = !decide ((ps.length : Int) ≤ n) := by
      by_cases q : (ps.length : Int) ≤ n <;> simp [q] <;> omega
    rw [q1, q2]
    cases bs.any (zcl n) <;> cases zeh x y <;> cases zcx r <;> cases zaY ps ps.length 0 <;> cases decide (za9 n ≤ (ps.length : Int)) <;> cases decide ((ps.length : Int) ≤ n) <;> simp
theorem zgH (a r : Int) (bs : List S68) (ps : List ByteArray) (x y n : Int) (hb : bs.length < 4611686018427387904) (hbs : ∀ b ∈ bs, b.f2.length < 4611686018427387904) (hl : ps.length < 4611686018427387904) (hp : ∀ t ∈ ps, t.size < 4611686018427387904) :
    Ev (fun k => zm.f k a r bs ps x y n) (za7 a r bs ps x y n) := by
  have key : ∀ b : Bool, (b = true ↔ ¬ (zcs n = true ∧ 1 ≤ a ∧ a ≤ n ∧ 1 ≤ r ∧ r ≤ 1048576 ∧ bs.length ≤ 4)) → Ev (fun k => zm.j0 k n b a r bs ps x y) (za7 a r bs ps x y n) := by
    intro b hb'
    refine Ev.step (fun k => by rw [zm.j0]) ?_
    by_cases h : zcs n = true ∧ 1 ≤ a ∧ a ≤ n ∧ 1 ≤ r ∧ r ≤ 1048576 ∧ bs.length ≤ 4
    · refine z6 (fun hh => hb'.1 hh h) (zax (zgI a r bs ps x y n hb hbs hl hp bs.length 0 (by omega)) ?_)
      obtain ⟨h0, h1, h2, h3, h4, h5⟩ := h
      rw [zhK a r bs ps x y n h0 h1 h2 h3 h4 h5, List.drop_zero]
    · refine zN (hb'.2 h) (zax (Ev.now _) ?_)
      symm
      rw [← Bool.not_eq_true, zch]
      exact fun ⟨h0, h1, h2, h3, h4, h5, _⟩ => h ⟨h0, h1, h2, h3, h4, h5⟩
  refine zaq (zcM n) ?_
  by_cases h0 : zcs n = true
  · refine zN h0 ?_
    by_cases h1 : a < 1
    · exact zN h1 (key true (by simp; omega))
    refine z6 h1 ?_
    by_cases h2 : a > n
    · exact zN h2 (key true (by simp; omega))
    refine z6 h2 ?_
    by_cases h3 : r < 1
    · exact zN h3 (key true (by simp; omega))
    refine z6 h3 ?_
    by_cases h4 : r > 1048576
    · exact zN h4 (key true (by simp; omega))
    exact z6 h4 (key _ (by simp [h0]; omega))
  · exact z6 h0 (key true (by simp [h0]))
end Go.Proofs.Ytlabjgcoopdbiaa.Px

namespace Go.Proofs.Ytlabjgcoopdbiaa.Px
open Go.RowKit Go.Proofs.YtlabjgcoopdbiaaW.PrintWords Go.Proofs.YtlabjgcoopdbiaaW.PrintLast Go.Proofs.YtlabjgcoopdbiaaW.PrintMore
attribute [local go_sem] zz zB zJ zK zu zv zA zC
set_option linter.unusedVariables false
set_option linter.unusedSimpArgs false
def zbO (s : Nat) (n : Int) : Bool := decide (0 ≤ n) && decide (n ≤ 64) && decide (s < 2 ^ n.toNat)
theorem zbo (s : Nat) (n : Int) : zbO s n = true ↔ 0 ≤ n ∧ n ≤ 64 ∧ s < 2 ^ n.toNat := by
  unfold zbO; simp [and_assoc]
theorem zfB (s p : Nat) (hp : 0 < p) : s / p = 0 ↔ s < p := by
  rw [Nat.div_eq_zero_iff]; omega
theorem zem (s : Nat) (n : Int) : zaO.f (s : Int) n = some (zbO s n) := by
  unfold zaO.f
  by_cases h1 : n < 0
  · rw [if_pos h1]
    have : zbO s n = false := by rw [← Bool.not_eq_true, zbo]; omega
    rw [this]
  rw [if_neg h1]
  by_cases h2 : n > 64
  · rw [if_pos h2]
    have : zbO s n = false := by rw [← Bool.not_eq_true, zbo]; omega
    rw [this]
  rw [if_neg h2, zaf (by omega) (by omega)]
  by_cases h3 : n > 0
  · obtain ⟨m, rfl⟩ : ∃ m : Nat, n = ((m + 1 : Nat) : Int) := ⟨(n - 1).toNat, by omega⟩
    have hm : mx (((m + 1 : Nat) : Int) - 1) 0 = (m : Int) := by unfold mx; split <;> omega
    have hs : shr .u64 ((s : Int) / 2) (m : Int) = ((s / 2 / 2 ^ m : Nat) : Int) := by
      unfold shr
      rw [Int.toNat_natCast, Nat.min_eq_left (by show m ≤ 64; omega), show (s : Int) / 2 = ((s / 2 : Nat) : Int) by omega]
      norm_cast
    have he : s / 2 / 2 ^ m = s / 2 ^ (m + 1) := by rw [Nat.div_div_eq_div_mul, Nat.pow_succ, Nat.mul_comm]
    rw [hm, hs, he]
    have key := zfB s (2 ^ (m + 1)) (Nat.two_pow_pos _)
    by_cases h4 : s / 2 ^ (m + 1) = 0
    · rw [if_pos (by omega), if_pos h3]
      have : zbO s ((m + 1 : Nat) : Int) = true := by rw [zbo]; exact ⟨by omega, by omega, key.1 h4⟩
      rw [this]
    · rw [if_neg (by omega)]
      have : zbO s ((m + 1 : Nat) : Int) = false := by
        rw [← Bool.not_eq_true, zbo]
        exact fun hh => h4 (key.2 hh.2.2)
      rw [this]
  · obtain rfl : n = 0 := by omega
    have hm : mx ((0 : Int) - 1) 0 = 0 := by decide
    have hs : shr .u64 ((s : Int) / 2) 0 = (s : Int) / 2 := by unfold shr; simp
    have hw : zbO s 0 = decide (s = 0) := by
      rw [Bool.eq_iff_iff, zbo]; simp
    rw [hm, hs, hw]
    by_cases h4 : s = 0
    · subst h4; rfl
    · by_cases h5 : (s : Int) / 2 = 0
      · rw [if_pos h5, if_neg (by omega)]
        congr 1
        rw [Bool.eq_iff_iff]; simp
      · rw [if_neg h5]; simp [h4]
theorem zeU (s : Nat) (hs : s < 18446744073709551616) : zaS.f (s : Int) = some ((zaQ 64 s : Nat) : Int) := by
  unfold zaS.f
  rw [zdj s hs]; rfl
def zbl : Nat → Nat → Nat → List Int
  | 0, _, _ => []
  | d + 1, id, s => (if s % 2 = 1 then [(id : Int)] else []) ++ zbl d (id + 1) (s / 2)
theorem zcw : ∀ d id s, (zbl d id s).length = zaQ d s
  | 0, _, _ => rfl
  | d + 1, id, s => by
    rw [zbl, zaQ, List.length_append, zcw d]
    split
    · rename_i h; rw [h]; rfl
    · rename_i h; have : s % 2 = 0 := by omega
      rw [this]; rfl
theorem zgB (d : Nat) : ∀ (id s : Nat) (acc : List Int), id + d = 65 → acc.length ≤ id → s < 18446744073709551616 → Ev (fun k => zP.l0 k (s : Int) acc (id : Int)) (acc ++ zbl d id s) := by
  induction d with
  | zero =>
    intro id s acc h ha hs
    refine Ev.step (fun k => by rw [zP.l0]) ?_
    exact z6 (by omega) (zax (Ev.now _) (by simp [zbl]))
  | succ d ih =>
    intro id s acc h ha hs
    refine Ev.step (fun k => by rw [zP.l0]) ?_
    refine zN (by omega) ?_
    have e1 : IntKind.u64.wrap (Int.tdiv (s : Int) 2) = ((s / 2 : Nat) : Int) := by
      rw [Int.tdiv_eq_ediv_of_nonneg (by omega), za6 (by omega) (by omega)]; omega
    have e2 : wrap64 ((id : Int) + 1) = ((id + 1 : Nat) : Int) := by rw [zaf (by omega) (by omega)]; omega
    have e3 : Int.tmod (s : Int) 2 = ((s % 2 : Nat) : Int) := by rw [Int.tmod_eq_emod_of_nonneg (by omega)]; omega
    rw [e1, e2, e3]
    by_cases hb : s % 2 = 1
    · refine zN (by omega) (zN (by omega) (zax (ih (id + 1) (s / 2) (acc ++ [(id : Int)]) (by omega) (by rw [List.length_append]; simp; omega) (by omega)) ?_))
      rw [zbl, if_pos hb, List.append_assoc]
    · refine z6 (by omega) (zax (ih (id + 1) (s / 2) acc (by omega) (by omega) (by omega)) ?_)
      rw [zbl, if_neg hb, List.nil_append]
theorem zeQ (s : Nat) (hs : s < 18446744073709551616) : Ev (fun k => zP.f k (s : Int)) (zbl 64 1 s) :=
  zgB 64 1 s [] (by omega) (by simp) hs
theorem zge (s : Nat) (hs : s < 18446744073709551616) : Ev (fun k => zar.f k (s : Int)) ((zaQ 64 s : Nat) : Int) :=
  Ev.bind (zeQ s hs) (zax (Ev.now _) (by rw [zcw]))
def zcY (a r : Int) (bs : List S68) (ps : List ByteArray) (x y : Int) (s : Nat) (n : Int) : Int :=
  if za7 a r bs ps x y n = true then if zbO s n = true then if ((zaQ 64 s : Nat) : Int) < za9 n then 2 else 0 else 4 else 1
theorem zfz (a r : Int) (bs : List S68) (ps : List ByteArray) (x y : Int) (s : Nat) (hs : s < 18446744073709551616) (n : Int) : zbp.f a r bs ps x y (s : Int) n = some (zcY a r bs ps x y s n) := by
  unfold zbp.f zcY
  rw [show zac.f a r bs ps x y n = some (za7 a r bs ps x y n) from rfl, zem, zeU s hs, zcR]
  simp only [Option.bind_some]
  split
  · split
    · split <;> rfl
    · rfl
  · rfl
theorem zdx {a r : Int} {bs : List S68} {ps : List ByteArray} {x y : Int} {s : Nat} {n : Int} : zcY a r bs ps x y s n = 0 ↔ za7 a r bs ps x y n = true ∧ zbO s n = true ∧ za9 n ≤ ((zaQ 64 s : Nat) : Int) := by
  unfold zcY
  by_cases h1 : za7 a r bs ps x y n = true
  · rw [if_pos h1]
    by_cases h2 : zbO s n = true
    · rw [if_pos h2]
      by_cases h3 : ((zaQ 64 s : Nat) : Int) < za9 n
      · rw [if_pos h3]; simp; omega
      · rw [if_neg h3]; simp [h1, h2]; omega
    · rw [if_neg h2]; simp [h2]
  · rw [if_neg h1]; simp [h1]
end Go.Proofs.Ytlabjgcoopdbiaa.Px

namespace Go.Proofs.Ytlabjgcoopdbiaa.Px
open Go.RowKit Go.Proofs.YtlabjgcoopdbiaaW.PrintWords Go.Proofs.YtlabjgcoopdbiaaW.PrintLast Go.Proofs.YtlabjgcoopdbiaaW.PrintMore
attribute [local go_sem] zz zB zJ zK zu zv zA zC
set_option linter.unusedVariables false
set_option linter.unusedSimpArgs false
theorem zbW {x : Int} (h0 : 0 ≤ x) (h1 : x < 9223372036854775808) : Ev (fun k => zr.f k (IntKind.u64.wrap x)) (za4 x.toNat) := by
  obtain ⟨n, rfl⟩ := Int.eq_ofNat_of_zero_le h0
  rw [za6 (by omega) (by omega), Int.toNat_natCast]
  exact zdW n (by omega)
def zfu (o q : Int) (l : List ByteArray) : ByteArray × Int := if zc0 o q l = true then (toB (zdQ o q l), 0) else ((⟨#[]⟩ : ByteArray), 1)
theorem zdV (o q : Int) (l : List ByteArray) (hl : l.length < 4611686018427387904) : Ev (fun k => z4.f k o q l) (zfu o q l) := by
  refine Ev.bind (zfn _ _ _ hl) ?_
  unfold zfu
  by_cases h : zc0 o q l = true
  · rw [if_pos h]
    obtain ⟨h1, h2, h3, h4, h5, h6, h7⟩ := (zc1 o q l).1 h
    have r1 := zc7 l 48 (by omega) (fun t ht => (h7 t ht).2)
    have r2 := zaL (v := l.length) (by omega)
    have r3 : (zbA l).length ≤ 300 := by rw [zbA, List.length_append]; omega
    have n1 := zaP (v := o.toNat) (by omega)
    have n2 := zaP (v := q.toNat) (by omega)
    have r4 : zL.f l = some (toB (zbA l)) := if_pos (by omega)
    refine zN h (Ev.bind (zbW (by omega) (by omega)) (Ev.bind (zbW (by omega) (by omega)) (zN (by omega) (zaq r4 (zN (by rw [ByteArray.size_append, zas]; omega) (zax (Ev.now _) ?_))))))
    rw [zdQ, zaV, zaV]; rfl
  · rw [if_neg h]; exact z6 h (Ev.now _)
theorem zgq (b : S68) : (zfu b.f0 b.f1 b.f2).1 = bB b := by
  unfold zfu bB; split <;> rfl
def zfU (a r : Int) (bs : List S68) (ps : List ByteArray) (x y n : Int) : ByteArray × Int := if za7 a r bs ps x y n = true then (toB (zbx a r bs ps x y), 0) else ((⟨#[]⟩ : ByteArray), 1)
theorem zfM {a r : Int} {bs : List S68} {ps : List ByteArray} {x y n : Int} (h : za7 a r bs ps x y n = true) (d : Nat) : ∀ j, j + d = bs.length →
    Ev (fun k => zt.l0 k ((bs.take j).map bB) (j : Int) a r bs ps x y) (toB (zbx a r bs ps x y), 0) := by
  obtain ⟨h0, h1, h2, h3, h4, h5, h6, h7, h8, h9⟩ := (zch ..).1 h
  obtain ⟨k1, k2, k3⟩ := (zbJ n).1 h0
  obtain ⟨x1, x2, y1, y2⟩ := (zdJ x y).1 h7
  induction d with
  | zero =>
    intro j hj
    refine Ev.step (fun k => by rw [zt.l0]) ?_
    rw [List.take_of_length_le (by omega)]
    have s0 := zaP (v := a.toNat) (by omega)
    have s1 := zaP (v := r.toNat) (by omega)
    have s2 := zaP (v := x.toNat) (by omega)
    have s3 := zaP (v := y.toNat) (by omega)
    have r1 := zfO h5
    have r2 := zfP (zbL h0 h9)
    have d1 : zL.f (bs.map bB) = some (toB (zbA (bs.map bB))) := if_pos (by omega)
    have d2 : zL.f ps = some (toB (zbA ps)) := if_pos (by omega)
    refine z6 (by omega) (Ev.bind (zbW (by omega) (by omega)) (Ev.bind (zbW (by omega) (by omega)) (zN (by omega) (zaq d1 (zN (by simp only [ByteArray.size_append, zas]; omega) (zaq d2 (zN (by simp only [ByteArray.size_append, zas]; omega)
      (Ev.bind (zbW (by omega) (by omega)) (zN (by simp only [ByteArray.size_append, zas]; omega) (Ev.bind (zbW (by omega) (by omega)) (zN (by simp only [ByteArray.size_append, zas]; omega) (zax (Ev.now _) ?_))))))))))))
    simp only [zbx, za4, zaV]
  | succ d ih =>
    intro j hj
    have hj' : j < bs.length := by omega
    refine Ev.step (fun k => by rw [zt.l0]) ?_
    refine zN (by omega) (zN (by omega) ?_)
    rw [zd8 bs j hj', zaf (by omega) (by omega)]
    have hl := (zgu h).2.1 _ (List.getElem_mem hj')
    refine Ev.bind (zdV _ _ _ hl) (zN (by rw [List.length_map, List.length_take]; omega) ?_)
    rw [zgq]
    have e : (bs.take j).map bB ++ [bB bs[j]] = (bs.take (j + 1)).map bB := by
      rw [List.take_succ_eq_append_getElem hj', List.map_append]; rfl
    rw [e]
    exact ih (j + 1) (by omega)
theorem zdM (a r : Int) (bs : List S68) (ps : List ByteArray) (x y n : Int) (hb : bs.length < 4611686018427387904) (hbs : ∀ b ∈ bs, b.f2.length < 4611686018427387904) (hl : ps.length < 4611686018427387904) (hp : ∀ t ∈ ps, t.size < 4611686018427387904) :
    Ev (fun k => zt.f k a r bs ps x y n) (zfU a r bs ps x y n) := by
  refine Ev.bind (zgH a r bs ps x y n hb hbs hl hp) ?_
  unfold zfU
  by_cases h : za7 a r bs ps x y n = true
  · rw [if_pos h]
    exact zN h (zax (zfM h bs.length 0 (by omega)) rfl)
  · rw [if_neg h]; exact z6 h (Ev.now _)
end Go.Proofs.Ytlabjgcoopdbiaa.Px

namespace Go.Proofs.Ytlabjgcoopdbiaa.Px
open Go.RowKit Go.Proofs.YtlabjgcoopdbiaaW.PrintWords Go.Proofs.YtlabjgcoopdbiaaW.PrintLast Go.Proofs.YtlabjgcoopdbiaaW.PrintMore
attribute [local go_sem] zz zB zJ zK zu zv zA zC
set_option linter.unusedVariables false
set_option linter.unusedSimpArgs false
end Go.Proofs.Ytlabjgcoopdbiaa.Px

namespace Go.Proofs.Ytlabjgcoopdbiaa.Px
open Go.RowKit Go.Proofs.YtlabjgcoopdbiaaW.PrintWords Go.Proofs.YtlabjgcoopdbiaaW.PrintLast Go.Proofs.YtlabjgcoopdbiaaW.PrintMore
attribute [local go_sem] zz zB zJ zK zu zv zA zC
set_option linter.unusedVariables false
set_option linter.unusedSimpArgs false
theorem zgM {s : ByteArray} (h : s.size ≤ 10000) : zb2.f s = some (zeV s) := by rw [zb2.f, if_pos (by omega)]
theorem zhf {s : ByteArray} (h : s.size ≤ 10000) : zaB.f s = some (zeV s) := by rw [zaB.f, if_pos (by omega)]
theorem zf9 (b : UInt8) (s : ByteArray) : ((⟨#[b]⟩ : ByteArray) ++ s).size = 1 + s.size := by rw [ByteArray.size_append]; rfl
end Go.Proofs.Ytlabjgcoopdbiaa.Px

namespace Go.Proofs.Ytlabjgcoopdbiaa.Px
open Go.RowKit Go.Proofs.YtlabjgcoopdbiaaW.PrintWords Go.Proofs.YtlabjgcoopdbiaaW.PrintLast Go.Proofs.YtlabjgcoopdbiaaW.PrintMore
attribute [local go_sem] zz zB zJ zK zu zv zA zC
set_option linter.unusedVariables false
set_option linter.unusedSimpArgs false
theorem zdN {a r : Int} {bs : List S68} {ps : List ByteArray} {x y n : Int} (h : za7 a r bs ps x y n = true) : (toB (zbx a r bs ps x y)).size ≤ 5000 := by
  obtain ⟨h0, h1, h2, h3, h4, h5, h6, h7, h8, h9⟩ := (zch ..).1 h
  obtain ⟨k1, k2, k3⟩ := (zbJ n).1 h0
  obtain ⟨x1, x2, y1, y2⟩ := (zdJ x y).1 h7
  have r1 := zfO (bs := bs) (by omega)
  have r2 := zfP (zbL h0 h9)
  have r3 := zaL (v := a.toNat) (by omega)
  have r4 := zaL (v := r.toNat) (by omega)
  have r5 := zaL (v := x.toNat) (by omega)
  have r6 := zaL (v := y.toNat) (by omega)
  rw [zas, zbx]
  simp only [List.length_append]
  omega
def zbr (a r : Int) (bs : List S68) (ps : List ByteArray) (x y n : Int) : ByteArray × Int := if za7 a r bs ps x y n = true then (zeV ((⟨#[118]⟩ : ByteArray) ++ toB (zbx a r bs ps x y)), 0) else ((⟨#[]⟩ : ByteArray), 1)
theorem zd1 (a r : Int) (bs : List S68) (ps : List ByteArray) (x y n : Int) : zaW.f a r bs ps x y n = some (zbr a r bs ps x y n) := by
  unfold zaW.f zbr
  rw [zen]
  simp only [Option.bind_some]
  by_cases h : za7 a r bs ps x y n = true
  · have hs := zdN h
    rw [if_pos h, if_pos h, if_pos rfl, if_pos (by show 1 + (toB (zbx a r bs ps x y)).size ≤ _; omega)]
    show (zb2.f ((⟨#[118]⟩ : ByteArray) ++ toB (zbx a r bs ps x y))).bind _ = _
    rw [zgM (by rw [zf9]; omega)]
    rfl
  · rw [if_neg h, if_neg h, if_neg (by simp)]
theorem zbz (a r : Int) (bs : List S68) (ps : List ByteArray) (x y n : Int) (hb : bs.length < 4611686018427387904) (hbs : ∀ b ∈ bs, b.f2.length < 4611686018427387904) (hl : ps.length < 4611686018427387904) (hp : ∀ t ∈ ps, t.size < 4611686018427387904) :
    Ev (fun k => zO.f k a r bs ps x y n) (zbr a r bs ps x y n) := by
  unfold zO.f
  refine Ev.bind (zdM a r bs ps x y n hb hbs hl hp) ?_
  unfold zfU zbr
  by_cases h : za7 a r bs ps x y n = true
  · have hs := zdN h
    rw [if_pos h, if_pos h]
    refine zN rfl (zN (by show 1 + (toB (zbx a r bs ps x y)).size ≤ _; omega) ?_)
    refine zaq (zhf (s := (⟨#[118]⟩ : ByteArray) ++ toB (zbx a r bs ps x y)) (by rw [zf9]; omega)) ?_
    exact Ev.now _
  · rw [if_neg h, if_neg h]
    exact z6 (by simp) (Ev.now _)
end Go.Proofs.Ytlabjgcoopdbiaa.Px

namespace Go.Proofs.Ytlabjgcoopdbiaa.Px
open Go.RowKit Go.Proofs.YtlabjgcoopdbiaaW.PrintWords Go.Proofs.YtlabjgcoopdbiaaW.PrintLast Go.Proofs.YtlabjgcoopdbiaaW.PrintMore
attribute [local go_sem] zz zB zJ zK zu zv zA zC
set_option linter.unusedVariables false
set_option linter.unusedSimpArgs false
theorem zd7 : ∀ (d a b : Nat), zaQ d (a &&& b) + zaQ d (a ||| b) = zaQ d a + zaQ d b
  | 0, _, _ => rfl
  | d + 1, a, b => by
    have ih := zd7 d (a / 2) (b / 2)
    have e1 : (a &&& b) / 2 = a / 2 &&& b / 2 := Nat.and_div_two
    have e2 : (a ||| b) / 2 = a / 2 ||| b / 2 := Nat.or_div_two
    have m1 : (a &&& b) % 2 = a % 2 &&& b % 2 := by have := Nat.and_mod_two_pow (a := a) (b := b) (n := 1); simpa using this
    have m2 : (a ||| b) % 2 = a % 2 ||| b % 2 := by have := Nat.or_mod_two_pow (a := a) (b := b) (n := 1); simpa using this
    have m3 : (a % 2 &&& b % 2) + (a % 2 ||| b % 2) = a % 2 + b % 2 := by
      rcases Nat.mod_two_eq_zero_or_one a with h | h <;> rcases Nat.mod_two_eq_zero_or_one b with h' | h' <;> rw [h, h'] <;> rfl
    rw [zaQ, zaQ, zaQ, zaQ, e1, e2, m1, m2]
    omega
theorem zfI : ∀ (d n s : Nat), s < 2 ^ n → zaQ d s ≤ n
  | 0, _, _, _ => Nat.zero_le _
  | d + 1, 0, s, h => by
    obtain rfl : s = 0 := by simpa using h
    have := zfI d 0 0 (by decide)
    show 0 % 2 + zaQ d 0 ≤ 0
    omega
  | d + 1, n + 1, s, h => by
    have := zfI d n (s / 2) (by rw [Nat.pow_succ] at h; omega)
    rw [zaQ]; omega
theorem zdB : ∀ (d id s : Nat) (x : Int), x ∈ zbl d id s ↔ ∃ j, j < d ∧ s.testBit j = true ∧ x = ((id + j : Nat) : Int)
  | 0, id, s, x => by simp [zbl]
  | d + 1, id, s, x => by
    have ih := zdB d (id + 1) (s / 2) x
    have t0 : s.testBit 0 = decide (s % 2 = 1) := Nat.testBit_zero s
    have ts : ∀ j, s.testBit (j + 1) = (s / 2).testBit j := fun j => Nat.testBit_succ s j
    constructor
    · intro h
      have h' : (s % 2 = 1 ∧ x = (id : Int)) ∨ x ∈ zbl d (id + 1) (s / 2) := by
        rw [zbl] at h
        split at h
        · rename_i h1
          rcases List.mem_cons.1 h with h2 | h2
          · exact .inl ⟨h1, h2⟩
          · exact .inr h2
        · exact .inr h
      rcases h' with ⟨h1, h2⟩ | h2
      · exact ⟨0, by omega, by rw [t0]; simp [h1], by rw [h2]; rfl⟩
      · obtain ⟨j, hj, h3, h4⟩ := ih.1 h2
        exact ⟨j + 1, by omega, by rw [ts]; exact h3, by rw [h4]; congr 1; omega⟩
    · rintro ⟨j, hj, h3, h4⟩
      rw [zbl]
      rcases j with _ | j
      · rw [t0] at h3
        rw [if_pos (of_decide_eq_true h3)]
        exact List.mem_cons.2 (.inl h4)
      · have : x ∈ zbl d (id + 1) (s / 2) := ih.2 ⟨j, by omega, by rw [← ts]; exact h3, by rw [h4]; congr 1; omega⟩
        split
        · exact List.mem_cons.2 (.inr this)
        · exact this
end Go.Proofs.Ytlabjgcoopdbiaa.Px

namespace Go.Proofs.Ytlabjgcoopdbiaa.Px
open Go.RowKit Go.Proofs.YtlabjgcoopdbiaaW.PrintWords Go.Proofs.YtlabjgcoopdbiaaW.PrintLast Go.Proofs.YtlabjgcoopdbiaaW.PrintMore
attribute [local go_sem] zz zB zJ zK zu zv zA zC
set_option linter.unusedVariables false
set_option linter.unusedSimpArgs false
def zcF (i : Int) (t : ByteArray) (b : List S58) : Bool := b.any fun x => decide (x.f0 = i ∧ x.f1 = t)
def zeJ (s : Nat) (i : Int) : Nat := if 1 ≤ i ∧ i ≤ 64 then s ||| 2 ^ (i.toNat - 1) else s
def byN (t : ByteArray) : List S58 → Nat → Nat
  | [], s => s
  | x :: b, s => byN t b (if x.f1 = t then zeJ s x.f0 else s)
theorem zgY {s : Nat} (h : s < 18446744073709551616) (i : Int) : zeJ s i < 18446744073709551616 := by
  unfold zeJ
  split
  · have h1 : s < 2 ^ 64 := h
    have h2 : 2 ^ (i.toNat - 1) < 2 ^ 64 := Nat.pow_lt_pow_right (by decide) (by omega)
    exact Nat.or_lt_two_pow h1 h2
  · exact h
theorem zht (t : ByteArray) : ∀ (b : List S58) (s : Nat), s < 18446744073709551616 → byN t b s < 18446744073709551616
  | [], _, h => h
  | x :: b, s, h => by
    rw [byN]
    refine zht t b _ ?_
    split
    · exact zgY h _
    · exact h
theorem zhQ (s : Nat) (i : Int) (j : Nat) : (zeJ s i).testBit j = true ↔ s.testBit j = true ∨ (i = ((j + 1 : Nat) : Int) ∧ j < 64) := by
  unfold zeJ
  split
  · rename_i h
    rw [Nat.testBit_or, Nat.testBit_two_pow, Bool.or_eq_true, decide_eq_true_eq]
    constructor
    · rintro (h1 | h1)
      · exact .inl h1
      · exact .inr ⟨by omega, by omega⟩
    · rintro (h1 | h1)
      · exact .inl h1
      · exact .inr (by omega)
  · rename_i h
    constructor
    · exact fun h1 => .inl h1
    · rintro (h1 | h1)
      · exact h1
      · exact absurd ⟨by omega, by omega⟩ h
theorem zfy (t : ByteArray) : ∀ (b : List S58) (s j : Nat), (byN t b s).testBit j = true ↔ s.testBit j = true ∨ (zcF ((j + 1 : Nat) : Int) t b = true ∧ j < 64)
  | [], s, j => by simp [byN, zcF]
  | x :: b, s, j => by
    rw [byN, zfy t b]
    rw [show zcF ((j + 1 : Nat) : Int) t (x :: b) = (decide (x.f0 = ((j + 1 : Nat) : Int) ∧ x.f1 = t) || zcF ((j + 1 : Nat) : Int) t b) from rfl, Bool.or_eq_true, decide_eq_true_eq]
    split
    · rename_i h
      rw [zhQ]
      constructor
      · rintro ((h1 | ⟨h1, h2⟩) | ⟨h1, h2⟩)
        · exact .inl h1
        · exact .inr ⟨.inl ⟨h1, h⟩, h2⟩
        · exact .inr ⟨.inr h1, h2⟩
      · rintro (h1 | ⟨h1 | h1, h2⟩)
        · exact .inl (.inl h1)
        · exact .inl (.inr ⟨h1.1, h2⟩)
        · exact .inr ⟨h1, h2⟩
    · rename_i h
      constructor
      · rintro (h1 | ⟨h1, h2⟩)
        · exact .inl h1
        · exact .inr ⟨.inr h1, h2⟩
      · rintro (h1 | ⟨h1 | h1, h2⟩)
        · exact .inl h1
        · exact absurd h1.2 h
        · exact .inr ⟨h1, h2⟩
def zef (b : List S58) (s : Nat) (t : ByteArray) : Bool := (zbl 64 1 s).all fun id => zcF id t b
theorem zew {b : List S58} {s : Nat} {t : ByteArray} : zef b s t = true ↔ ∀ j, j < 64 → s.testBit j = true → zcF ((j + 1 : Nat) : Int) t b = true := by
  rw [zef, List.all_eq_true]
  constructor
  · intro h j hj hs
    exact h _ ((zdB 64 1 s _).2 ⟨j, hj, hs, by rw [Nat.add_comm]⟩)
  · intro h x hx
    obtain ⟨j, hj, hs, rfl⟩ := (zdB 64 1 s x).1 hx
    have := h j hj hs
    rwa [Nat.add_comm] at this
theorem zfW (s m : Nat) (hs : s < 18446744073709551616) (hm : m < 18446744073709551616) : Go.bits .andNot .u64 (s : Int) (m : Int) = 0 ↔ ∀ j, j < 64 → s.testBit j = true → m.testBit j = true := by
  rw [u64_andNot_nat s m hs hm]
  have e : ((s &&& (18446744073709551615 - m) : Nat) : Int) = 0 ↔ (s &&& (18446744073709551615 - m)) = 0 := by omega
  have tb : ∀ j, (18446744073709551615 - m).testBit j = (decide (j < 64) && !m.testBit j) := fun j => by
    have := Nat.testBit_two_pow_sub_succ (x := m) (n := 64) hm j
    rwa [show 2 ^ 64 - (m + 1) = 18446744073709551615 - m by omega] at this
  rw [e]
  constructor
  · intro h j hj h1
    have h2 : (s &&& (18446744073709551615 - m)).testBit j = false := by rw [h]; exact Nat.zero_testBit j
    rw [Nat.testBit_and, tb, h1, decide_eq_true hj] at h2
    simpa using h2
  · intro h
    apply Nat.eq_of_testBit_eq
    intro j
    rw [Nat.zero_testBit, Nat.testBit_and, tb]
    by_cases hj : j < 64
    · cases h1 : s.testBit j
      · simp
      · rw [h j hj h1]; simp
    · simp [hj]
theorem ziH (b : List S58) (s : Nat) (hs : s < 18446744073709551616) (t : ByteArray) : decide (Go.bits .andNot .u64 (s : Int) ((byN t b 0 : Nat) : Int) = 0) = zef b s t := by
  rw [Bool.eq_iff_iff, decide_eq_true_eq, zfW s _ hs (zht t b 0 (by decide)), zew]
  constructor
  · intro h j hj h1
    have := (zfy t b 0 j).1 (h j hj h1)
    rcases this with h2 | h2
    · rw [Nat.zero_testBit] at h2; cases h2
    · exact h2.1
  · intro h j hj h1
    exact (zfy t b 0 j).2 (.inr ⟨h j hj h1, hj⟩)
theorem zfV {b : List S58} {s r : Nat} {t : ByteArray} (h : zef b s t = true) (hr : ∀ j, j < 64 → r.testBit j = true → s.testBit j = true) : zef b r t = true :=
  zew.2 fun j hj h1 => zew.1 h j hj (hr j hj h1)
end Go.Proofs.Ytlabjgcoopdbiaa.Px

namespace Go.Proofs.Ytlabjgcoopdbiaa.Px
open Go.RowKit Go.Proofs.YtlabjgcoopdbiaaW.PrintWords Go.Proofs.YtlabjgcoopdbiaaW.PrintLast Go.Proofs.YtlabjgcoopdbiaaW.PrintMore
attribute [local go_sem] zz zB zJ zK zu zv zA zC
set_option linter.unusedVariables false
set_option linter.unusedSimpArgs false
theorem zeL (l : List S58) (j : Nat) (h : j < l.length) : zaG l (j : Int) = l[j] := by
  rw [zaG, Int.toNat_natCast, List.getD_eq_getElem?_getD, List.getElem?_eq_getElem h]; rfl
theorem zfQ (s : Nat) (hs : s < 18446744073709551616) (i : Int) : zbF.f (s : Int) i = some (if 1 ≤ i ∧ i ≤ 64 then (((zeJ s i : Nat) : Int), 0) else (0, 1)) := by
  by_cases hh : 1 ≤ i ∧ i ≤ 64
  · have es : zbd.f i = some true := by unfold zbd.f; rw [if_pos hh.1, decide_eq_true hh.2]
    have e1 : wrap64 (i - 1) = ((i.toNat - 1 : Nat) : Int) := by rw [zaf (by omega) (by omega)]; omega
    have h3' : 2 ^ (i.toNat - 1) < 2 ^ 64 := Nat.pow_lt_pow_right (by decide) (by omega)
    have h3 : 2 ^ (i.toNat - 1) < 18446744073709551616 := h3'
    have e2 : shl .u64 1 ((i.toNat - 1 : Nat) : Int) = ((2 ^ (i.toNat - 1) : Nat) : Int) := by
      unfold shl
      rw [Int.toNat_natCast, Nat.min_eq_left (by show i.toNat - 1 ≤ 64; omega), Int.one_mul]
      have h4 : ((2 : Int) ^ (i.toNat - 1)) = ((2 ^ (i.toNat - 1) : Nat) : Int) := by rw [Int.natCast_pow]; rfl
      rw [h4]
      generalize 2 ^ (i.toNat - 1) = p at h3 ⊢
      exact za6 (Int.natCast_nonneg _) (by omega)
    unfold zbF.f
    rw [es, show (if 1 ≤ i ∧ i ≤ 64 then (((zeJ s i : Nat) : Int), (0 : Int)) else (0, 1)) = (((zeJ s i : Nat) : Int), 0) from if_pos hh, Option.bind_some, if_pos rfl, e1, if_pos (Int.natCast_nonneg _), e2, u64_or_nat _ _ hs h3, zeJ, if_pos hh]
  · have es : zbd.f i = some false := by
      unfold zbd.f
      by_cases h1 : i ≥ 1
      · rw [if_pos h1, decide_eq_false (fun h => hh ⟨h1, h⟩)]
      · rw [if_neg h1]
    unfold zbF.f
    rw [es, show (if 1 ≤ i ∧ i ≤ 64 then (((zeJ s i : Nat) : Int), (0 : Int)) else (0, 1)) = (0, 1) from if_neg hh]
    rfl
theorem by_l0 (t : ByteArray) (b : List S58) (hb : b.length < 4611686018427387904) (d : Nat) : ∀ (j s : Nat), j + d = b.length → s < 18446744073709551616 → Ev (fun k => za3.l0 k t (s : Int) b (b.length : Int) (j : Int)) ((byN t (b.drop j) s : Nat) : Int) := by
  induction d with
  | zero =>
    intro j s hj hs
    refine Ev.step (fun k => by rw [za3.l0]) ?_
    rw [List.drop_of_length_le (by omega)]
    exact z6 (by omega) (Ev.now _)
  | succ d ih =>
    intro j s hj hs
    refine Ev.step (fun k => by rw [za3.l0]) ?_
    have hlt : j < b.length := by omega
    rw [zeL b j hlt, List.drop_eq_getElem_cons hlt, byN, zaf (by omega) (by omega)]
    refine zN (by omega) (zN (by omega) (zN (by omega) ?_))
    by_cases h : b[j].f1 = t
    · rw [if_pos h]
      refine zN (by rw [h]) (zaq (zfQ s hs b[j].f0) ?_)
      by_cases h1 : 1 ≤ b[j].f0 ∧ b[j].f0 ≤ 64
      · rw [if_pos h1]
        exact zN rfl (ih (j + 1) _ (by omega) (zgY hs _))
      · rw [if_neg h1]
        refine z6 (by simp) ?_
        rw [zeJ, if_neg h1]
        exact ih (j + 1) s (by omega) hs
    · rw [if_neg h]
      refine z6 (fun hh => h ((zdr _ _).1 hh)) (ih (j + 1) s (by omega) hs)
theorem zfX (b : List S58) (hb : b.length < 4611686018427387904) (s : Nat) (hs : s < 18446744073709551616) (t : ByteArray) : Ev (fun k => zbt.f k b (s : Int) t) (zef b s t) := by
  refine Ev.bind (by_l0 t b hb b.length 0 0 (by omega) (by decide)) (zax (Ev.now _) ?_)
  rw [List.drop_zero, ← ziH b s hs t]
  rfl
def zgn (d : ByteArray) : ByteArray := (⟨#[121]⟩ : ByteArray) ++ d
def zdu (n : Int) (b : List S58) (a r : Int) (bs : List S68) (ps : List ByteArray) (x y : Int) (s : Nat) : Int :=
  if zcY a r bs ps x y s n = 0 then (if zef b s (zgn (zbr a r bs ps x y n).1) = true then 0 else 10) else zcY a r bs ps x y s n
theorem zce (a r : Int) (bs : List S68) (ps : List ByteArray) (x y n : Int) : (zbr a r bs ps x y n).1.size ≤ 32 := by
  unfold zbr
  split
  · exact Nat.le_of_eq (zhi _)
  · exact Nat.zero_le _
theorem zb0 (n : Int) (b : List S58) (hb : b.length < 4611686018427387904) (a r : Int) (bs : List S68) (ps : List ByteArray) (x y : Int) (s : Nat) (hs : s < 18446744073709551616) :
    Ev (fun k => zab.f k n b a r bs ps x y (s : Int)) (zdu n b a r bs ps x y s) := by
  unfold zab.f zdu
  refine zaq (zfz a r bs ps x y s hs n) ?_
  refine zhx (fun _ => ?_) (fun _ => Ev.now _)
  refine zaq (zd1 ..) ?_
  have hz := zce a r bs ps x y n
  refine zaq (show zaE.f (zbr a r bs ps x y n).1 = some (zgn (zbr a r bs ps x y n).1) from if_pos (by omega)) ?_
  refine Ev.bind (zfX b hb s hs _) ?_
  exact zhx (fun _ => Ev.now _) (fun _ => Ev.now _)
theorem zcX {n : Int} {b : List S58} {a r : Int} {bs : List S68} {ps : List ByteArray} {x y : Int} {s : Nat} : zdu n b a r bs ps x y s = 0 ↔ zcY a r bs ps x y s n = 0 ∧ zef b s (zgn (zbr a r bs ps x y n).1) = true := by
  unfold zdu
  by_cases h : zcY a r bs ps x y s n = 0
  · rw [if_pos h]
    by_cases h2 : zef b s (zgn (zbr a r bs ps x y n).1) = true
    · rw [if_pos h2]; simp [h, h2]
    · rw [if_neg h2]; simp [h2]
  · rw [if_neg h]; simp [h]
end Go.Proofs.Ytlabjgcoopdbiaa.Px

namespace Go.Proofs.Ytlabjgcoopdbiaa.Px
open Go.RowKit Go.Proofs.YtlabjgcoopdbiaaW.PrintWords Go.Proofs.YtlabjgcoopdbiaaW.PrintLast Go.Proofs.YtlabjgcoopdbiaaW.PrintMore
attribute [local go_sem] zz zB zJ zK zu zv zA zC
set_option linter.unusedVariables false
set_option linter.unusedSimpArgs false
theorem zea : za7 1 1 [] [] 0 0 4 = true := by
  rw [zch]
  simp [zbJ, zdJ, zbv]
theorem ze8 : zcY 1 1 [] [] 0 0 7 4 = 0 := by
  rw [zdx]
  exact ⟨zea, by decide +kernel, by decide +kernel⟩
theorem ze7 : zcY 1 1 [] [] 0 0 3 4 = 2 := by
  unfold zcY
  rw [if_pos zea, if_pos (by decide +kernel), if_pos (by decide +kernel)]
theorem ze9 : zbl 64 1 7 = [1, 2, 3] := by decide +kernel
theorem zgk (t : ByteArray) : zef [(⟨1, t⟩ : S58), ⟨2, t⟩, ⟨3, t⟩] 7 t = true := by
  rw [zef, ze9]
  simp [zcF]
theorem zgN : Ev (fun k => zaH.f k) true := by
  unfold zaH.f
  refine Ev.bind (zbz 1 1 [] [] 0 0 4 (by decide) (by simp) (by decide) (by simp)) ?_
  have hz := zce 1 1 [] [] 0 0 4
  refine zN (by omega) ?_
  refine zaq rfl ?_
  refine Ev.bind (zb0 4 _ (by decide) 1 1 [] [] 0 0 7 (by decide)) ?_
  refine Ev.bind (zb0 4 _ (by decide) 1 1 [] [] 0 0 3 (by decide)) ?_
  refine zaq (show zaE.f (zbr 1 1 [] [] 0 0 4).1 = some (zgn (zbr 1 1 [] [] 0 0 4).1) from if_pos (by omega)) ?_
  refine zN rfl ?_
  refine zN ?_ (zax (Ev.now _) ?_)
  · rw [zcX]
    exact ⟨ze8, zgk _⟩
  · unfold zdu
    rw [ze7]; rfl
end Go.Proofs.Ytlabjgcoopdbiaa.Px

namespace Go.Proofs.Ytlabjgcoopdbiaa.Px
open Go.RowKit Go.Proofs.YtlabjgcoopdbiaaW.PrintWords Go.Proofs.YtlabjgcoopdbiaaW.PrintLast Go.Proofs.YtlabjgcoopdbiaaW.PrintMore
attribute [local go_sem] zz zB zJ zK zu zv zA zC
set_option linter.unusedVariables false
set_option linter.unusedSimpArgs false
theorem ze6 (n : Int) : zaj.f n = some (if zcs n = true then (n - 1) / 3 + 1 else 0) := by
  unfold zaj.f
  rw [zcM]
  simp only [Option.bind_some]
  by_cases h : zcs n = true
  · obtain ⟨h1, h2, _⟩ := (zbJ n).1 h
    have e1 : wrap64 (n - 1) = n - 1 := zaf (by omega) (by omega)
    have e2 : wrap64 (Int.tdiv (n - 1) 3) = (n - 1) / 3 := by rw [Int.tdiv_eq_ediv_of_nonneg (by omega), zaf (by omega) (by omega)]
    rw [if_pos h, if_pos h, e1, e2, zaf (by omega) (by omega)]
  · rw [if_neg h, if_neg h]
theorem zhe (b : List S58) (hb : b.length < 4611686018427387904) (i : Int) (t : ByteArray) (d : Nat) : ∀ j : Nat, j + d = b.length → Ev (fun k => zZ.l0 k b (j : Int) i t) (zcF i t (b.drop j)) := by
  induction d with
  | zero =>
    intro j hj
    refine Ev.step (fun k => by rw [zZ.l0]) ?_
    rw [List.drop_of_length_le (by omega)]
    exact z6 (by omega) (Ev.now _)
  | succ d ih =>
    intro j hj
    refine Ev.step (fun k => by rw [zZ.l0]) ?_
    have hlt : j < b.length := by omega
    rw [zeL b j hlt, List.drop_eq_getElem_cons hlt, zaf (by omega) (by omega)]
    refine zN (by omega) (zN (by omega) ?_)
    rw [show zcF i t (b[j] :: b.drop (j + 1)) = (decide (b[j].f0 = i ∧ b[j].f1 = t) || zcF i t (b.drop (j + 1))) from rfl]
    by_cases h : b[j].f0 = i ∧ b[j].f1 = t
    · rw [decide_eq_true h]
      exact zN (by rw [h.1, h.2]; simp) (Ev.now _)
    · rw [decide_eq_false h, Bool.false_or]
      refine z6 (fun hh => h ?_) (ih (j + 1) (by omega))
      rw [Bool.and_eq_true, beq_iff_eq, zgs, decide_eq_true_eq] at hh
      exact hh
theorem zhd (b : List S58) (hb : b.length < 4611686018427387904) (i : Int) (t : ByteArray) : Ev (fun k => zZ.f k b i t) (zcF i t b) := by
  have := zhe b hb i t b.length 0 (by omega)
  rwa [List.drop_zero] at this
theorem zhc (b : List S58) (hb : b.length < 4611686018427387904) (t : ByteArray) (l : List Int) (hl : l.length ≤ 64) (d : Nat) : ∀ j : Nat, j + d = l.length → Ev (fun k => zF.l0 k b t l (j : Int)) ((l.drop j).all fun id => zcF id t b) := by
  induction d with
  | zero =>
    intro j hj
    refine Ev.step (fun k => by rw [zF.l0]) ?_
    rw [List.drop_of_length_le (by omega)]
    exact z6 (by omega) (Ev.now _)
  | succ d ih =>
    intro j hj
    refine Ev.step (fun k => by rw [zF.l0]) ?_
    have hlt : j < l.length := by omega
    have er : rd l (j : Int) = l[j] := by rw [rd, Int.toNat_natCast, List.getD_eq_getElem?_getD, List.getElem?_eq_getElem hlt]; rfl
    rw [List.drop_eq_getElem_cons hlt, List.all_cons, er, zaf (by omega) (by omega)]
    refine zN (by omega) (zN (by omega) (Ev.bind (zhd b hb l[j] t) ?_))
    cases h : zcF l[j] t b
    · exact z6 (by simp) (zax (Ev.now _) (by simp))
    · exact zN rfl (zax (ih (j + 1) (by omega)) (by simp))
theorem zfm (b : List S58) (hb : b.length < 4611686018427387904) (s : Nat) (hs : s < 18446744073709551616) (t : ByteArray) : Ev (fun k => zF.f k b (s : Int) t) (zef b s t) := by
  refine Ev.bind (zeQ s hs) ?_
  have := zhc b hb t (zbl 64 1 s) (by rw [zcw]; exact zb1 64 s) (zbl 64 1 s).length 0 (by omega)
  rwa [List.drop_zero] at this
end Go.Proofs.Ytlabjgcoopdbiaa.Px
