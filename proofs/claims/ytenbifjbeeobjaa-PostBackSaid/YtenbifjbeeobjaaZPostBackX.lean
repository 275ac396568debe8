/- Part 24 of 33 of the proof of the law PostBack: what is proved is the statement at the end of the last part; its conditions are those of the given row. -/
import Derived.Test.YtenbifjbeeobjaaZPostBackL
import Derived.Test.YtenbifjbeeobjaaZPostBackU
import Derived.Test.YtenbifjbeeobjaaZPostBackW
namespace Go.Proofs.Ytenbifjbeeobjaa.Px
open Go.RowKit Go.Proofs.YtenbifjbeeobjaaW.PrintWords Go.Proofs.YtenbifjbeeobjaaW.PrintLast Go.Proofs.YtenbifjbeeobjaaW.PrintMore
attribute [local go_sem] zC zE zJ zK zv zw zB zD
set_option linter.unusedVariables false
set_option linter.unusedSimpArgs false
def za6 (a r : Int) (bs : List zR) (ps : List ByteArray) (x y : Int) : Bs :=
  zaN a.toNat ++ zaN r.toNat ++ zbw (bs.map bB) ++ zbw ps ++ zaN x.toNat ++ zaN y.toNat
theorem zc0 (a r : Int) (bs : List zR) (ps : List ByteArray) (x y n : Int) : za3 a r bs ps x y n = true ↔ ze4 n = true ∧ 1 ≤ a ∧ a ≤ n ∧ 1 ≤ r ∧ r ≤ 1048576 ∧ bs.length ≤ 4 ∧ bs.any (zdx n) = false ∧ zf6 x y = true ∧ (zeR r = true ∨ x = 0 ∧ y = 0) ∧ zb9 ps r n = true := by
  unfold za3
  simp [and_assoc]
theorem zfG (l : List ByteArray) (d : Nat) : ∀ j, zcm l d j = true → ∀ i, j ≤ i → i < j + d → (l.getD i ByteArray.empty).size = 32 := by
  induction d with
  | zero => intro j _ i h1 h2; omega
  | succ d ih =>
    intro j h i h1 h2
    rw [zcm, Bool.and_eq_true] at h
    rcases Nat.lt_or_ge j i with h3 | h3
    · exact ih (j + 1) h.2 i (by omega) (by omega)
    · obtain rfl : i = j := by omega
      have := h.1
      rw [zgE, Bool.and_eq_true] at this
      exact of_decide_eq_true this.1
theorem zbx {l : List ByteArray} {r n : Int} (hn : ze4 n = true) (h : zb9 l r n = true) : l.length ≤ 64 ∧ ∀ t ∈ l, t.size = 32 := by
  unfold zb9 at h
  split at h
  · have h0 := of_decide_eq_true h
    obtain rfl := List.eq_nil_of_length_eq_zero h0
    simp
  · obtain ⟨_, h2, _⟩ := (zcz n).1 hn
    rw [Bool.and_eq_true, Bool.and_eq_true] at h
    have h3 := of_decide_eq_true h.2
    refine ⟨by omega, fun t ht => ?_⟩
    obtain ⟨i, hi, rfl⟩ := List.mem_iff_getElem.1 ht
    have := zfG l l.length 0 h.1.1 i (by omega) (by omega)
    rwa [List.getD_eq_getElem?_getD, List.getElem?_eq_getElem hi] at this
theorem zfl (b : zR) : (bB b).size ≤ 400 := by
  unfold bB
  split
  · rename_i h
    obtain ⟨h1, h2, h3, h4, h5, h6, h7⟩ := (zdM _ _ _).1 h
    have r1 := zcD b.f2 48 (by omega) (fun t ht => (h7 t ht).2)
    have r2 := zad (v := b.f2.length) (by omega)
    have r4 := zad (v := b.f0.toNat) (by omega)
    have r5 := zad (v := b.f1.toNat) (by omega)
    rw [z5, zcK, List.length_append, List.length_append, zbw, List.length_append]; omega
  · show 0 ≤ 400; omega
theorem zgi {bs : List zR} (h : bs.length ≤ 4) : (zbw (bs.map bB)).length ≤ 1700 := by
  have r1 := zcD (bs.map bB) 400 (by omega) (fun t ht => by obtain ⟨b, _, rfl⟩ := List.mem_map.1 ht; exact zfl b)
  rw [List.length_map] at r1
  have r2 := zad (v := (bs.map bB).length) (by rw [List.length_map]; omega)
  rw [zbw, List.length_append]; omega
theorem zgr {ps : List ByteArray} (h : ps.length ≤ 64 ∧ ∀ t ∈ ps, t.size = 32) : (zbw ps).length ≤ 2700 := by
  have r1 := zcD ps 32 (by omega) (fun t ht => by have := h.2 t ht; omega)
  have r2 := zad (v := ps.length) (by have := h.1; omega)
  rw [zbw, List.length_append]; have := h.1; omega
theorem zgh {n : Int} {bs : List zR} (h : bs.any (zdx n) = false) : ∀ b ∈ bs, zcM b.f0 b.f1 b.f2 = true ∧ b.f0 ≤ n := by
  intro b hb
  rw [List.any_eq_false] at h
  have := h b hb
  rw [zdx] at this
  simp at this
  exact ⟨this.1, by omega⟩
theorem zhy (a b c d : ByteArray) : zL ByteArray.empty [a, b, c, d] 0 = a ∧ zL ByteArray.empty [a, b, c, d] 1 = b ∧ zL ByteArray.empty [a, b, c, d] 2 = c ∧ zL ByteArray.empty [a, b, c, d] 3 = d := ⟨rfl, rfl, rfl, rfl⟩
theorem zcV (a r : Int) (bs : List zR) (ps : List ByteArray) (x y n : Int) :
    zai.f a r bs ps x y n = some (if za3 a r bs ps x y n = true then (toB (za6 a r bs ps x y), 0) else ((⟨#[]⟩ : ByteArray), 1)) := by
  unfold zai.f
  rw [show zaa.f a r bs ps x y n = some (za3 a r bs ps x y n) from rfl]
  simp only [Option.bind_some]
  by_cases h : za3 a r bs ps x y n = true
  · rw [if_pos h, if_pos h]
    obtain ⟨h0, h1, h2, h3, h4, h5, h6, h7, h8, h9⟩ := (zc0 ..).1 h
    obtain ⟨k1, k2, k3⟩ := (zcz n).1 h0
    obtain ⟨x1, x2, y1, y2⟩ := (zdy x y).1 h7
    have e1 : zaD.f bs = some (bs.map bB) := if_pos h5
    have e2 : zar.f [a, r, x, y] = some [zbg a.toNat, zbg r.toNat, zbg x.toNat, zbg y.toNat] := by
      rw [zar.f, if_pos]
      · rfl
      · refine ⟨Nat.le_refl 4, fun k hk => ?_⟩
        simp only [List.mem_cons, List.not_mem_nil, or_false] at hk
        rcases hk with rfl | rfl | rfl | rfl <;> omega
    have s0 := zaY (v := a.toNat) (by omega)
    have s1 := zaY (v := r.toNat) (by omega)
    have s2 := zaY (v := x.toNat) (by omega)
    have s3 := zaY (v := y.toNat) (by omega)
    have r1 := zgi h5
    have r2 := zgr (zbx h0 h9)
    have d1 : zZ.f (bs.map bB) = some (toB (zbw (bs.map bB))) := if_pos (by omega)
    have d2 : zZ.f ps = some (toB (zbw ps)) := if_pos (by omega)
    rw [e1, e2]
    simp only [Option.bind_some, d1, d2]
    obtain ⟨q0, q1, q2, q3⟩ := zhy (zbg a.toNat) (zbg r.toNat) (zbg x.toNat) (zbg y.toNat)
    rw [q0, q1, q2, q3]
    simp only [ByteArray.size_append, z5]
    rw [if_pos (by simp), if_pos (by simp), if_pos (by omega), if_pos (by omega), if_pos (by omega), if_pos (by simp), if_pos (by omega), if_pos (by simp), if_pos (by omega)]
    simp only [za6, zbg, zbU]
  · rw [if_neg h, if_neg h]
instance decBatch : DecidableEq zR := fun a b => decidable_of_iff (a.f0 = b.f0 ∧ a.f1 = b.f1 ∧ a.f2 = b.f2) ⟨fun ⟨h0, h1, h2⟩ => by obtain ⟨a0, a1, a2⟩ := a; obtain ⟨b0, b1, b2⟩ := b; simp only at h0 h1 h2; rw [h0, h1, h2], fun h => by rw [h]; exact ⟨rfl, rfl, rfl⟩⟩
theorem zd5 (l : List zR) (j : Nat) (h : j < l.length) : z7 l (j : Int) = l[j] := by
  rw [z7, Int.toNat_natCast, List.getD_eq_getElem?_getD, List.getElem?_eq_getElem h]; rfl
theorem zeb (a b : List zR) (hl : a.length = b.length) (hb : a.length < 4611686018427387904) (hs : ∀ x ∈ a, x.f2.length < 4611686018427387904) (d : Nat) : ∀ j, j + d = a.length →
    Ev (fun k => zA.l0 k a b (j : Int)) (decide (a.drop j = b.drop j)) := by
  induction d with
  | zero =>
    intro j hj
    refine Ev.step (fun k => by rw [zA.l0]) ?_
    refine zak (by omega) (zaX (Ev.now _) ?_)
    rw [List.drop_eq_nil_of_le (by omega), List.drop_eq_nil_of_le (by omega)]; rfl
  | succ d ih =>
    intro j hj
    have ha : j < a.length := by omega
    have hb' : j < b.length := by omega
    refine Ev.step (fun k => by rw [zA.l0]) ?_
    refine zX (by omega) (zX (by omega) (zX (by omega) ?_))
    rw [zd5 a j ha, zd5 b j hb']
    refine Ev.bind (zea _ _ _ _ _ _ (hs _ (List.getElem_mem ha))) ?_
    rw [zaL (by omega) (by omega), List.drop_eq_getElem_cons ha, List.drop_eq_getElem_cons hb']
    by_cases e : a[j] = b[j]
    · refine zX (by rw [e]; simp [zfs]) (zaX (ih (j + 1) (by omega)) ?_)
      rw [e]; exact decide_eq_decide.2 ⟨fun h => by rw [h], fun h => (List.cons.inj h).2⟩
    · refine zak ?_ (zaX (Ev.now _) ?_)
      · intro hh
        apply e
        obtain ⟨h0, h1, h2⟩ := of_decide_eq_true hh
        generalize a[j] = p at *
        generalize b[j] = q at *
        obtain ⟨p0, p1, p2⟩ := p; obtain ⟨q0, q1, q2⟩ := q
        simp only at h0 h1 h2; rw [h0, h1, h2]
      · exact (decide_eq_false (fun h => e (List.cons.inj h).1)).symm
theorem zeZ (a b : List zR) (hb : a.length < 4611686018427387904) (hs : ∀ x ∈ a, x.f2.length < 4611686018427387904) : Ev (fun k => zA.f k a b) (decide (a = b)) := by
  by_cases h : a.length = b.length
  · exact zX (by omega) (zeb a b h hb hs a.length 0 (by omega))
  · refine zak (by omega) (zaX (Ev.now _) ?_)
    have : ¬ a = b := fun e => h (by rw [e])
    simp [this]
def zcx (a r : Int) (bs : List zR) (ps : List ByteArray) (x y a' r' : Int) (bs' : List zR) (ps' : List ByteArray) (x' y' : Int) : Bool := decide (a = a' ∧ r = r' ∧ bs = bs' ∧ ps = ps' ∧ x = x' ∧ y = y')
theorem zcC (a r : Int) (bs : List zR) (ps : List ByteArray) (x y a' r' : Int) (bs' : List zR) (ps' : List ByteArray) (x' y' : Int) (hb : bs.length < 4611686018427387904) (hs : ∀ b ∈ bs, b.f2.length < 4611686018427387904) (hp : ps.length < 4611686018427387904) :
    Ev (fun k => zap.f k a r bs ps x y a' r' bs' ps' x' y') (zcx a r bs ps x y a' r' bs' ps' x' y') := by
  refine Ev.bind (zeQ _ _ hp) (Ev.bind (zeZ _ _ hb hs) ?_)
  unfold zcx
  by_cases h1 : ps = ps'
  · refine zX (by simp [h1]) ?_
    by_cases h2 : bs = bs'
    · refine zX (by simp [h2]) ?_
      by_cases h3 : a = a'
      · refine zX h3 ?_
        by_cases h4 : r = r'
        · refine zX h4 (zaX (Ev.now _) ?_)
          by_cases h5 : x = x' <;> by_cases h6 : y = y' <;> simp [h1, h2, h3, h4, h5, h6]
        · exact zak h4 (zaX (Ev.now _) (by simp [h4]))
      · exact zak h3 (zaX (Ev.now _) (by simp [h3]))
    · exact zak (by simp [h2]) (zaX (Ev.now _) (by simp [h2]))
  · exact zak (by simp [h1]) (zaX (Ev.now _) (by simp [h1]))
theorem zeM {a r : Int} {bs : List zR} {ps : List ByteArray} {x y n : Int} (h : za3 a r bs ps x y n = true) : bs.length < 4611686018427387904 ∧ (∀ b ∈ bs, b.f2.length < 4611686018427387904) ∧ ps.length < 4611686018427387904 := by
  obtain ⟨h0, _, _, _, _, h5, h6, _, _, h9⟩ := (zc0 ..).1 h
  refine ⟨by omega, fun b hb => ?_, by have := (zbx h0 h9).1; omega⟩
  obtain ⟨_, _, _, _, _, k, _⟩ := (zdM _ _ _).1 (zgh h6 b hb).1
  omega
end Go.Proofs.Ytenbifjbeeobjaa.Px

namespace Go.Proofs.Ytenbifjbeeobjaa.Px
open Go.RowKit Go.Proofs.YtenbifjbeeobjaaW.PrintWords Go.Proofs.YtenbifjbeeobjaaW.PrintLast Go.Proofs.YtenbifjbeeobjaaW.PrintMore
attribute [local go_sem] zC zE zJ zK zv zw zB zD
set_option linter.unusedVariables false
set_option linter.unusedSimpArgs false
abbrev VT := Int × Int × List zR × List ByteArray × Int × Int × Int
def zeo : VT := (0, 0, [], [], 0, 0, 3)
def zbr : List ByteArray → Option (List zR)
  | [] => some []
  | t :: l => if (zba (ofB t)).2.2.2 = 0 then (zbr l).map (fun bs => ⟨(zba (ofB t)).1, (zba (ofB t)).2.1, (zba (ofB t)).2.2.1⟩ :: bs) else none
def zfR (a r : Int) (ps : List ByteArray) (x y n : Int) : Option (List zR) → VT
  | none => zeo
  | some bs => if za3 a r bs ps x y n = true then (a, r, bs, ps, x, y, 0) else zeo
theorem zdX : ∀ {l : List ByteArray} {bs : List zR}, zbr l = some bs → l = bs.map bB ∧ ∀ b ∈ bs, zcM b.f0 b.f1 b.f2 = true
  | [], bs, h => by
    have : bs = [] := (Option.some.inj h).symm
    subst this; exact ⟨rfl, fun b hb => absurd hb (by simp)⟩
  | t :: l, bs, h => by
    rw [zbr] at h
    split at h
    · rename_i h0
      obtain ⟨cs, hc, rfl⟩ := Option.map_eq_some_iff.1 h
      obtain ⟨h1, h2⟩ := zdX hc
      rcases hq : zba (ofB t) with ⟨o, q, l', e⟩
      rw [hq] at h0
      simp only at h0
      subst h0
      obtain ⟨h3, h4⟩ := ze6 hq
      refine ⟨?_, ?_⟩
      · rw [List.map_cons, ← h1, bB]
        simp only
        rw [if_pos h4, ← h3, zbt]
      · intro b hb
        rcases List.mem_cons.1 hb with rfl | hb
        · exact h4
        · exact h2 b hb
    · cases h
theorem zdD : ∀ {bs : List zR}, (∀ b ∈ bs, zcM b.f0 b.f1 b.f2 = true) → zbr (bs.map bB) = some bs
  | [], _ => rfl
  | b :: bs, h => by
    have hb := h b List.mem_cons_self
    have e : zba (ofB (bB b)) = (b.f0, b.f1, b.f2, 0) := by rw [bB, if_pos hb, zY]; exact zdR hb
    rw [List.map_cons, zbr, e, if_pos rfl, zdD (fun c hc => h c (List.mem_cons_of_mem _ hc))]
    rfl
theorem zdm (s : Bs) (many most : Int) : (zah s many most).2.1.length ≤ s.length := by
  have key : ∀ (n : Nat) (s : Bs) (acc : List ByteArray), (zaZ most n s acc).2.1.length ≤ s.length := by
    intro n
    induction n with
    | zero => intro s acc; exact Nat.le_refl _
    | succ n ih =>
      intro s acc
      rw [zaZ]
      split
      · rename_i h0
        have := zcT h0
        exact Nat.le_trans (ih _ _) (by omega)
      · exact Nat.zero_le _
  have h := zbz s
  unfold zah zbS
  split
  · split
    · exact Nat.zero_le _
    · exact Nat.le_trans (key _ _ _) h
  · exact Nat.zero_le _
theorem ze1 (s : Bs) : (zab s).2.2.1.length ≤ s.length := by
  unfold zab
  rcases h : zao s with _ | ⟨a, s1⟩
  · exact Nat.zero_le _
  · simp only
    have h1 := zbq h
    rcases h' : zao s1 with _ | ⟨b, s2⟩
    · exact Nat.zero_le _
    · have h2 := zbq h'
      simp only; omega
def vA (s : Bs) : List ByteArray × Bs × Int := zah (zab s).2.2.1 4 65536
def vB (s : Bs) : List ByteArray × Bs × Int := zah (vA s).2.1 64 32
def vC (s : Bs) : Int × Int × Bs × Bool := zab (vB s).2.1
def okV (s : Bs) : Prop := (zab s).2.2.2 = true ∧ (vA s).2.2 = 0 ∧ (vB s).2.2 = 0 ∧ (vC s).2.2.2 = true ∧ (vC s).2.2.1 = []
instance decOkV (s : Bs) : Decidable (okV s) := by unfold okV; infer_instance
def zdj (s : Bs) (n : Int) : VT := if okV s then zfR (zab s).1 (zab s).2.1 (vB s).1 (vC s).1 (vC s).2.1 n (zbr (vA s).1) else zeo
theorem zdT {s : Bs} {n : Int} (h : okV s) : zdj s n = zfR (zab s).1 (zab s).2.1 (vB s).1 (vC s).1 (vC s).2.1 n (zbr (vA s).1) := if_pos h
theorem zfa {s : Bs} {n : Int} (h : ¬ okV s) : zdj s n = zeo := if_neg h
theorem zgZ {s : Bs} (h : (vA s).2.2 = 0) : (vA s).1.length ≤ 4 ∧ ∀ t ∈ (vA s).1, t.size < 4611686018427387904 := by
  rcases hq : vA s with ⟨l, r, e⟩
  rw [hq] at h
  simp only at h ⊢
  subst h
  obtain ⟨_, h2, _, h4⟩ := zct hq
  exact ⟨by omega, fun t ht => by have := (h4 t ht).1; omega⟩
theorem zeh (n : Int) (l : List ByteArray) (a r : Int) (ps : List ByteArray) (x y : Int) (hl : l.length ≤ 4) (hs : ∀ t ∈ l, t.size < 4611686018427387904) (d : Nat) : ∀ (j : Nat) (acc : List zR), j + d = l.length → acc.length = j →
    Ev (fun k => zy.l0 k n l (l.length : Int) (j : Int) a r acc ps x y) (zfR a r ps x y n ((zbr (l.drop j)).map (acc ++ ·))) := by
  induction d with
  | zero =>
    intro j acc hj ha
    refine Ev.step (fun k => by rw [zy.l0]) ?_
    rw [List.drop_eq_nil_of_le (by omega)]
    refine zak (by omega) (zam (show zaa.f a r acc ps x y n = some (za3 a r acc ps x y n) from rfl) ?_)
    show Ev _ (zfR a r ps x y n (some (acc ++ [])))
    rw [List.append_nil, zfR]
    by_cases h : za3 a r acc ps x y n = true
    · exact zaX (zX h (Ev.now _)) (by rw [if_pos h])
    · exact zaX (zak h (Ev.now _)) (by rw [if_neg h]; rfl)
  | succ d ih =>
    intro j acc hj ha
    have hj' : j < l.length := by omega
    refine Ev.step (fun k => by rw [zy.l0]) ?_
    refine zX (by omega) (zX (by omega) (zX (by omega) ?_))
    rw [zfx l j hj', List.drop_eq_getElem_cons hj']
    refine Ev.bind (zfu _ (hs _ (List.getElem_mem hj'))) ?_
    rw [zbr]
    by_cases h : (zba (ofB l[j])).2.2.2 = 0
    · rw [if_pos h]
      refine zX h (zX (by omega) ?_)
      rw [zaL (by omega) (by omega)]
      refine zaX (ih (j + 1) _ (by omega) (by rw [List.length_append, ha]; rfl)) ?_
      congr 1
      rcases zbr (l.drop (j + 1)) with _ | bs
      · rfl
      · simp
    · rw [if_neg h]
      exact zak h (Ev.now _)
theorem zcv (s : ByteArray) (hs : s.size < 4611686018427387904) : zT.f s = some ((zab (ofB s)).1, (zab (ofB s)).2.1, toB (zab (ofB s)).2.2.1, (zab (ofB s)).2.2.2) := if_pos hs
theorem zdn (s : ByteArray) (n : Int) (hs : s.size < 4611686018427387904) : Ev (fun k => zy.f k s n) (zdj (ofB s) n) := by
  have l0 : (ofB s).length < 4611686018427387904 := by rw [z9]; exact hs
  have l1 := ze1 (ofB s)
  have l2 : (vA (ofB s)).2.1.length ≤ _ := zdm (zab (ofB s)).2.2.1 4 65536
  have l3 : (vB (ofB s)).2.1.length ≤ _ := zdm (vA (ofB s)).2.1 64 32
  refine zam (zcv s hs) ?_
  simp only
  refine zam (zbN _ 4 65536 (by decide) (by decide) (by rw [z5]; omega) (.inr (by omega))) ?_
  simp only [zdO, zY]
  refine zam (zbN _ 64 32 (by decide) (by decide) (by rw [z5]; exact Nat.lt_of_le_of_lt (Nat.le_trans l2 l1) l0) (.inr (by omega))) ?_
  simp only [zdO, zY]
  refine zam (zcv _ (by rw [z5]; exact Nat.lt_of_le_of_lt (Nat.le_trans l3 (Nat.le_trans l2 l1)) l0)) ?_
  simp only [zY]
  have key : ∀ b : Bool, (b = true ↔ ¬ okV (ofB s)) → Ev (fun k => zy.j0 k n (vA (ofB s)).1 (vB (ofB s)).1 b (zab (ofB s)).1 (zab (ofB s)).2.1 (vC (ofB s)).1 (vC (ofB s)).2.1) (zdj (ofB s) n) := by
    intro b hb
    refine Ev.step (fun k => by rw [zy.j0]) ?_
    by_cases h : okV (ofB s)
    · rw [zdT h]
      obtain ⟨h1, h2⟩ := zgZ h.2.1
      refine zak (fun hh => hb.1 hh h) (zaX (zeh n (vA (ofB s)).1 _ _ _ _ _ h1 h2 (vA (ofB s)).1.length 0 [] (by omega) rfl) ?_)
      rw [List.drop_zero]
      rcases zbr (vA (ofB s)).1 with _ | bs <;> rfl
    · rw [zfa h]
      exact zX (hb.2 h) (Ev.now _)
  show Ev (fun k => if (zab (ofB s)).2.2.2 = true then (if (vA (ofB s)).2.2 = 0 then (if (vB (ofB s)).2.2 = 0 then (if (vC (ofB s)).2.2.2 = true then zy.j0 k n (vA (ofB s)).1 (vB (ofB s)).1 ((toB (vC (ofB s)).2.2.1).toList != ([] : List UInt8)) (zab (ofB s)).1 (zab (ofB s)).2.1 (vC (ofB s)).1 (vC (ofB s)).2.1 else _) else _) else _) else _) _
  by_cases h1 : (zab (ofB s)).2.2.2 = true
  · refine zX h1 ?_
    by_cases h2 : (vA (ofB s)).2.2 = 0
    · refine zX h2 ?_
      by_cases h3 : (vB (ofB s)).2.2 = 0
      · refine zX h3 ?_
        by_cases h4 : (vC (ofB s)).2.2.2 = true
        · refine zX h4 (key _ ?_)
          rw [zaI, zY, bne_iff_ne]
          exact ⟨fun hh hv => hh hv.2.2.2.2, fun hh hv => hh ⟨h1, h2, h3, h4, hv⟩⟩
        · exact zak h4 (key true ⟨fun _ hv => h4 hv.2.2.2.1, fun _ => rfl⟩)
      · exact zak h3 (key true ⟨fun _ hv => h3 hv.2.2.1, fun _ => rfl⟩)
    · exact zak h2 (key true ⟨fun _ hv => h2 hv.2.1, fun _ => rfl⟩)
  · exact zak h1 (key true ⟨fun _ hv => h1 hv.1, fun _ => rfl⟩)
theorem zdZ {s : Bs} (h : (zab s).2.2.2 = true) : ∃ a b : Nat, (zab s).1 = a ∧ (zab s).2.1 = b ∧ a ≤ 1048576 ∧ b ≤ 1048576 ∧ s = zaN a ++ (zaN b ++ (zab s).2.2.1) := by
  unfold zab at h ⊢
  rcases h1 : zao s with _ | ⟨a, s1⟩
  · rw [h1] at h; cases h
  · rw [h1] at h
    simp only at h ⊢
    rcases h2 : zao s1 with _ | ⟨b, s2⟩
    · rw [h2] at h; cases h
    · obtain ⟨e1, k1⟩ := zdV h1
      obtain ⟨e2, k2⟩ := zdV h2
      exact ⟨a, b, rfl, rfl, k1, k2, by rw [e1, e2]⟩
theorem zdH {a b : Nat} (ha : a ≤ 1048576) (hb : b ≤ 1048576) (r : Bs) : zab (zaN a ++ (zaN b ++ r)) = ((a : Int), (b : Int), r, true) := by
  rw [zab, zbJ ha]
  simp only
  rw [zbJ hb]
theorem zg8 (a r : Int) (ps : List ByteArray) (x y n : Int) (o : Option (List zR)) : zfR a r ps x y n o = zeo ∨ ∃ bs, o = some bs ∧ za3 a r bs ps x y n = true ∧ zfR a r ps x y n o = (a, r, bs, ps, x, y, 0) := by
  rcases o with _ | bs
  · exact .inl rfl
  · by_cases h : za3 a r bs ps x y n = true
    · exact .inr ⟨bs, rfl, h, if_pos h⟩
    · exact .inl (if_neg h)
theorem zfL (s : Bs) (n : Int) : zdj s n = zeo ∨ ∃ a r bs ps x y, zdj s n = (a, r, bs, ps, x, y, 0) ∧ za3 a r bs ps x y n = true ∧ s = za6 a r bs ps x y := by
  by_cases h : okV s
  · rw [zdT h]
    rcases zg8 (zab s).1 (zab s).2.1 (vB s).1 (vC s).1 (vC s).2.1 n (zbr (vA s).1) with h0 | ⟨bs, h1, h2, h3⟩
    · exact .inl h0
    · refine .inr ⟨_, _, _, _, _, _, h3, h2, ?_⟩
      obtain ⟨k1, k2, k3, k4, k5⟩ := h
      obtain ⟨a, b, e1, e2, _, _, e3⟩ := zdZ k1
      obtain ⟨c, d, e4, e5, _, _, e6⟩ := zdZ k4
      obtain ⟨e7, _⟩ := zdX h1
      have r1 : (zab s).2.2.1 = zbw (vA s).1 ++ (vA s).2.1 := (zct (many := 4) (most := 65536) (show zah (zab s).2.2.1 4 65536 = ((vA s).1, (vA s).2.1, 0) by rw [← k2]; rfl)).1
      have r2 : (vA s).2.1 = zbw (vB s).1 ++ (vB s).2.1 := (zct (many := 64) (most := 32) (show zah (vA s).2.1 64 32 = ((vB s).1, (vB s).2.1, 0) by rw [← k3]; rfl)).1
      have e6' : (vB s).2.1 = zaN c ++ (zaN d ++ (vC s).2.2.1) := e6
      have e4' : (vC s).1 = c := e4
      have e5' : (vC s).2.1 = d := e5
      rw [k5, List.append_nil] at e6'
      rw [za6, e1, e2, e4', e5', Int.toNat_natCast, Int.toNat_natCast, Int.toNat_natCast, Int.toNat_natCast, ← e7]
      rw [e6'] at r2
      rw [r2] at r1
      rw [r1] at e3
      simp only [List.append_assoc]
      exact e3
  · exact .inl (zfa h)
theorem zdJ {a r : Int} {bs : List zR} {ps : List ByteArray} {x y n : Int} (h : za3 a r bs ps x y n = true) : zdj (za6 a r bs ps x y) n = (a, r, bs, ps, x, y, 0) := by
  obtain ⟨h0, h1, h2, h3, h4, h5, h6, h7, h8, h9⟩ := (zc0 ..).1 h
  obtain ⟨k1, k2, k3⟩ := (zcz n).1 h0
  obtain ⟨x1, x2, y1, y2⟩ := (zdy x y).1 h7
  have hp := zbx h0 h9
  obtain ⟨a', rfl⟩ := Int.eq_ofNat_of_zero_le (show 0 ≤ a by omega)
  obtain ⟨r', rfl⟩ := Int.eq_ofNat_of_zero_le (show 0 ≤ r by omega)
  obtain ⟨x', rfl⟩ := Int.eq_ofNat_of_zero_le x1
  obtain ⟨y', rfl⟩ := Int.eq_ofNat_of_zero_le y1
  have e1 : zab (za6 a' r' bs ps x' y') = ((a' : Int), (r' : Int), zbw (bs.map bB) ++ (zbw ps ++ (zaN x' ++ zaN y')), true) := by
    rw [za6, Int.toNat_natCast, Int.toNat_natCast, Int.toNat_natCast, Int.toNat_natCast]
    simp only [List.append_assoc]
    exact zdH (by omega) (by omega) _
  have e2 : vA (za6 a' r' bs ps x' y') = (bs.map bB, zbw ps ++ (zaN x' ++ zaN y'), 0) := by
    rw [vA, e1]
    exact zcO (by rw [List.length_map]; omega) (by rw [List.length_map]; omega) (fun t ht => by
      obtain ⟨b, _, rfl⟩ := List.mem_map.1 ht
      have := zfl b; omega) _
  have e3 : vB (za6 a' r' bs ps x' y') = (ps, zaN x' ++ zaN y', 0) := by
    rw [vB, e2]
    exact zcO (by have := hp.1; omega) (by have := hp.1; omega) (fun t ht => by have := hp.2 t ht; omega) _
  have e4 : vC (za6 a' r' bs ps x' y') = ((x' : Int), (y' : Int), [], true) := by
    rw [vC, e3]
    have := zdH (a := x') (b := y') (by omega) (by omega) []
    rwa [List.append_nil] at this
  have hv : okV (za6 a' r' bs ps x' y') := by
    unfold okV
    rw [e1, e2, e3, e4]
    exact ⟨rfl, rfl, rfl, rfl, rfl⟩
  rw [zdT hv, e1, e2, e3, e4, zdD (fun b hb => (zgh h6 b hb).1), zfR, if_pos h]
end Go.Proofs.Ytenbifjbeeobjaa.Px
