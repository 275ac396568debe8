/- Part 9 of 9 of the proof of the law BatchDigests: what is proved is the statement at the end of the last part; its conditions are those of the given row. -/
import Derived.Test.YtcedkmjdigpdiaaRows
import Derived.Deep.Slices
import Derived.ChangeArms
import Derived.SizedLaws
import Derived.WideOpen
import Derived.Laws.AppendOwn
import Derived.ProofKit
import Derived.OpenShut
import Derived.ShutString
import Derived.ChangeOld
import Derived.JoinedCond
import Derived.Carry
import Derived.WideShapes
import Derived.Test.YtcedkmjdigpdiaaZBatchDigestsH
namespace Go.Proofs.Ytcedkmjdigpdiaa.Px
open Go.RowKit Go.Proofs.YtcedkmjdigpdiaaW.PrintWords Go.Proofs.YtcedkmjdigpdiaaW.PrintLast Go.Proofs.YtcedkmjdigpdiaaW.PrintMore
attribute [local go_sem] zs zu zD zE zm zn zt zv
set_option linter.unusedVariables false
set_option linter.unusedSimpArgs false
structure Rd (α : Type) where
  t : TypeId
  d : Kd α
  ok : α → Prop
  wt : α → Prop
  bk : α → Nat
structure zcf {α : Type} (P : Program) (r : Rd α) : Prop where
  out : ∀ {H : Type} {enc : TypeId × Value → H} {w : World} {fuel : Nat} {cs : List Value} {x : DataW H × List MemPlace}, DataW.trod enc P w 0 (fun _ => true) true fuel r.t cs = some x →
    ∃ a, r.d.K w a cs ∧ r.ok a ∧ ((∀ n ∈ x.1.weights P r.t, n ≤ reachBytes) → r.wt a) ∧ r.bk a ≤ Rows.uptoBulk x.1
def zaL (t : TypeId) (k : IntKind) : Rd Int := ⟨t, Kd.int k, fun a => (Lit.int k a).wf = true, fun _ => True, fun _ => 1⟩
def zY (t : TypeId) : Rd ByteArray := ⟨t, Kd.string, fun a => a.size ≤ maxLen, fun a => a.size ≤ reachBytes, fun a => a.size + 1⟩
def zZ {α : Type} (t : TypeId) (B : Nat) (r : Rd α) : Rd (List α) :=
  ⟨t, Kd.slice r.t r.d, fun l => l.length ≤ maxLen ∧ ∀ a ∈ l, r.ok a, fun l => l.length * B ≤ reachBytes ∧ ∀ a ∈ l, r.wt a, fun l => (l.map r.bk).sum + 1⟩
section
variable {P : Program}
theorem zc3 {t : TypeId} {k : IntKind} (h : P.underlying t = some (.int k)) : zcf P (zaL t k) := by
  constructor
  intro H enc w fuel cs x hx
  obtain ⟨n, rfl, rfl, hw⟩ := DataW.trod_int h hx
  exact ⟨n, rfl, hw, fun _ => trivial, by simp [zaL, Rows.uptoBulk]⟩
theorem zcL {t : TypeId} (h : P.underlying t = some .string) : zcf P (zY t) := by
  constructor
  intro H enc w fuel cs x hx
  obtain ⟨s, rfl, rfl, hs⟩ := DataW.trod_string h hx
  have e : s.data.toList.length = s.size := by rw [Array.length_toList]; rfl
  refine ⟨s, rfl, hs, fun hn => ?_, by simp only [zY, Rows.uptoBulk, e]; exact Nat.le_refl _⟩
  have := hn s.data.toList.length (by simp [DataW.weights])
  rwa [e] at this
theorem zcr {H α : Type} (f : Nat → DataW H) (g : Nat → α) (bk : α → Nat) (n : Nat) (h : ∀ i, i < n → bk (g i) ≤ Rows.uptoBulk (f i)) : (((List.range n).map g).map bk).sum ≤ Rows.uptoBulkAll ((List.range n).map f) := by
  suffices k : ∀ l : List Nat, (∀ i ∈ l, i < n) → ((l.map g).map bk).sum ≤ Rows.uptoBulkAll (l.map f) from k _ (fun i hi => List.mem_range.1 hi)
  intro l
  induction l with
  | nil => intro _; simp
  | cons i l ih =>
    intro hl
    have h1 := h i (hl i List.mem_cons_self)
    have h2 := ih (fun j hj => hl j (List.mem_cons_of_mem _ hj))
    simp only [List.map_cons, List.sum_cons, Rows.uptoBulkAll]
    omega
theorem zaX {H : Type} {e : TypeId} : ∀ {l : List (DataW H)} {d : DataW H} {n : Nat}, d ∈ l → n ∈ d.weights P e → n ∈ DataW.weightsAll P e l
  | x :: l, d, n, hd, hn => by
    simp only [DataW.weightsAll, List.mem_append]
    rcases List.mem_cons.1 hd with rfl | hd
    · exact .inl hn
    · exact .inr (zaX hd hn)
theorem zdb {α : Type} [Inhabited α] {r : Rd α} (hr : zcf P r) {t : TypeId} {B : Nat} (h : P.underlying t = some (.slice r.t)) (hc : P.cellsOf r.t = r.d.sz) (hB : P.bytesOf r.t = B) : zcf P (zZ t B r) := by
  constructor
  intro H enc w fuel cs x hx
  rcases Deep.open_slice h hx with ⟨rfl, rfl⟩ | ⟨a, len, cap, m, n, D, Pl, rfl, _, hl, hm, hmm, rfl, hel⟩
  · exact ⟨[], ⟨none, 0, rfl, Nat.le_refl _, Kd.C_nil _ _⟩, ⟨Nat.zero_le _, by simp⟩, fun _ => ⟨by simp, by simp⟩, by simp [zZ, Rows.uptoBulk]⟩
  · simp only [if_true] at hmm
    subst hmm
    obtain ⟨f, hf⟩ := Deep.choose_lt (α := α) (n := len) (p := fun i v => ∃ c, w.cells? 0 (a.add (i * P.cellsOf r.t)) (P.cellsOf r.t) = some c ∧ r.d.K w v c ∧ r.ok v ∧ ((∀ q ∈ (D i).weights P r.t, q ≤ reachBytes) → r.wt v) ∧ r.bk v ≤ Rows.uptoBulk (D i)) (fun i hi => by
      obtain ⟨cs', h1, h2⟩ := hel i (by omega)
      obtain ⟨v, k1, k2, k3, k4⟩ := hr.out h2
      exact ⟨v, cs', h1, k1, k2, k3, k4⟩)
    have hlen : ((List.range len).map f).length = len := by simp
    refine ⟨(List.range len).map f, ⟨some a, m, by rw [hlen], by rw [hlen]; exact hl, ?_⟩, ⟨by rw [hlen]; omega, ?_⟩, fun hw => ⟨?_, ?_⟩, ?_⟩
    · rw [hlen]
      refine ⟨hlen, by unfold maxLen at hm; omega, fun _ => ⟨a, rfl, fun j p hj => ?_⟩⟩
      have hjl : j < len := by
        have := (List.getElem?_eq_some_iff.1 hj).1
        simpa using this
      obtain ⟨c, c1, c2, _⟩ := hf j hjl
      have hp : f j = p := by simpa [List.getElem?_map, List.getElem?_range hjl] using hj
      obtain ⟨_, l2, l3⟩ := World.cells?_some c1
      refine ⟨c, by rw [l2, hc], hp ▸ c2, fun i u hu => ?_⟩
      have hi : i < P.cellsOf r.t := by rw [← l2]; exact (List.getElem?_eq_some_iff.1 hu).1
      rw [← hc, ← Deep.add_add, l3 i hi]
      exact hu
    · intro v hv
      obtain ⟨i, hi, rfl⟩ := List.mem_map.1 hv
      obtain ⟨c, _, _, h3, _⟩ := hf i (List.mem_range.1 hi)
      exact h3
    · have := hw ((((List.range len).map D).length + ((List.range (m - len)).map fun j => D (len + j)).length) * P.bytesOf r.t) (by show _ ∈ DataW.weights P t _; simp only [DataW.weights, h]; exact List.mem_cons_self)
      rw [hlen]
      rw [hB] at this
      simp only [List.length_map, List.length_range] at this
      exact Nat.le_trans (Nat.mul_le_mul_right _ (by omega)) this
    · intro v hv
      obtain ⟨i, hi, rfl⟩ := List.mem_map.1 hv
      obtain ⟨c, _, _, _, h4, _⟩ := hf i (List.mem_range.1 hi)
      refine h4 (fun q hq => hw q ?_)
      show _ ∈ DataW.weights P t _
      simp only [DataW.weights, h]
      exact List.mem_cons_of_mem _ (List.mem_append_left _ (zaX (List.mem_map.2 ⟨i, hi, rfl⟩) hq))
    · simp only [zZ, Rows.uptoBulk]
      have := zcr D f r.bk len (fun i hi => (hf i hi).choose_spec.2.2.2.2)
      omega
structure zaY {β : Type} (P : Program) (fs : List Field) (o : Nat) (d : Kd β) (ok wt : β → Prop) (bk : β → Nat) : Prop where
  out : ∀ {H : Type} {enc : TypeId × Value → H} {w : World} {n : Nat} {cs : List Value} {xs : List (DataW H × List MemPlace)}, xs.length = fs.length → cs.length = o + d.sz →
    (∀ (i : Nat) (f : Field), fs[i]? = some f → DataW.trod enc P w 0 (fun _ => true) true n f.type ((cs.drop f.offset).take (P.cellsOf f.type)) = xs[i]?) →
    ∃ b, d.K w b (cs.drop o) ∧ ok b ∧ ((∀ q ∈ DataW.weightsEach P (fs.map (·.type)) (xs.map (·.1)), q ≤ reachBytes) → wt b) ∧ bk b ≤ Rows.uptoBulkAll (xs.map (·.1))
theorem zcJ {α : Type} {r : Rd α} (hr : zcf P r) {f : Field} (ht : f.type = r.t) {o : Nat} (ho : f.offset = o) (hc : P.cellsOf r.t = r.d.sz) : zaY P [f] o r.d r.ok r.wt r.bk := by
  constructor
  intro H enc w n cs xs hl hcs hx
  match xs, hl with
  | [x], _ =>
    have h := hx 0 f rfl
    rw [ho, ht, hc, List.take_of_length_le (by rw [List.length_drop]; omega)] at h
    obtain ⟨a, h1, h2, h3, h4⟩ := hr.out h
    refine ⟨a, h1, h2, fun hq => h3 (fun q hm => hq q ?_), by simp [Rows.uptoBulkAll]; omega⟩
    simp only [List.map_cons, List.map_nil, DataW.weightsEach, List.mem_append, ht]
    exact .inl hm
theorem zbo {α β : Type} {r : Rd α} (hr : zcf P r) {f : Field} (ht : f.type = r.t) {fs : List Field} {o o' : Nat} (ho : f.offset = o) (hc : P.cellsOf r.t = r.d.sz) (ho' : o' = o + r.d.sz) {d : Kd β} {ok wt : β → Prop} {bk : β → Nat} (hfs : zaY P fs o' d ok wt bk) :
    zaY P (f :: fs) o (Kd.pair r.d d) (fun x => r.ok x.1 ∧ ok x.2) (fun x => r.wt x.1 ∧ wt x.2) (fun x => r.bk x.1 + bk x.2) := by
  constructor
  intro H enc w n cs xs hl hcs hx
  match xs, hl with
  | x :: xs, hl =>
    have h := hx 0 f rfl
    have hcs' : cs.length = o + (r.d.sz + d.sz) := hcs
    rw [ho, ht, hc] at h
    obtain ⟨a, h1, h2, h3, h4⟩ := hr.out h
    obtain ⟨b, k1, k2, k3, k4⟩ := hfs.out (enc := enc) (w := w) (n := n) (cs := cs) (xs := xs) (by simpa using hl) (by omega) (fun i g hg => hx (i + 1) g hg)
    refine ⟨(a, b), ⟨(cs.drop o).take r.d.sz, cs.drop o', ?_, h1, k1⟩, ⟨h2, k2⟩, fun hq => ⟨h3 (fun q hm => hq q ?_), k3 (fun q hm => hq q ?_)⟩, ?_⟩
    · rw [ho', ← List.drop_drop, List.take_append_drop]
    · simp only [List.map_cons, DataW.weightsEach, List.mem_append, ht]
      exact .inl hm
    · simp only [List.map_cons, DataW.weightsEach, List.mem_append]
      exact .inr hm
    · simp only [List.map_cons, Rows.uptoBulkAll]; omega
def zcA {α β : Type} (t : TypeId) (d : Kd β) (f : α → β) (ok wt : β → Prop) (bk : β → Nat) : Rd α := ⟨t, Kd.iso d f, fun a => ok (f a), fun a => wt (f a), fun a => bk (f a) + 1⟩
theorem zcM {α β : Type} {t : TypeId} {fs : List Field} {d : Kd β} {ok wt : β → Prop} {bk : β → Nat} (hfs : zaY P fs 0 d ok wt bk) (h : P.underlying t = some (.struct fs.toArray)) (hc : P.cellsOf t = d.sz) (f : α → β) (g : β → α) (hfg : ∀ b, f (g b) = b) : zcf P (zcA t d f ok wt bk) := by
  constructor
  intro H enc w fuel cs x hx
  obtain ⟨xs, n, rfl, rfl, hl, hn, hf⟩ := DataW.trod_struct h hx
  obtain ⟨b, k1, k2, k3, k4⟩ := hfs.out (enc := enc) (w := w) (n := n) (cs := cs) (xs := xs) (by simpa using hn) (by omega) (fun i g hg => hf i g (by simpa using hg))
  refine ⟨g b, ?_, ?_, fun hq => ?_, ?_⟩
  · show d.K w (f (g b)) cs
    rw [hfg]
    exact k1
  · show ok (f (g b))
    rw [hfg]
    exact k2
  · show wt (f (g b))
    rw [hfg]
    refine k3 (fun q hm => hq q ?_)
    show _ ∈ DataW.weights P t _
    simp only [DataW.weights, h]
    exact hm
  · show bk (f (g b)) + 1 ≤ _
    rw [hfg]
    simp only [Rows.uptoBulk]
    omega
end
theorem zdX {α H : Type} {P : Program} {r : Rd α} (hr : zcf P r) {enc : TypeId × Value → H} {w : World} {v : Value} {d : DataW H} {ps : List MemPlace} (h : DataW.Trod enc P w 0 (fun _ => true) true r.t v d ps) :
    ∃ a, r.d.K w a v.cells.toList ∧ r.ok a ∧ ((∀ n ∈ d.weights P r.t, n ≤ reachBytes) → r.wt a) ∧ r.bk a ≤ Rows.uptoBulk d := by
  obtain ⟨fuel, hf⟩ := h
  exact hr.out hf
end Go.Proofs.Ytcedkmjdigpdiaa.Px

namespace Go.Proofs.Ytcedkmjdigpdiaa.Px
open Go.RowKit Go.Proofs.Ytcedkmjdigpdiaa.Px Go.Proofs.YtcedkmjdigpdiaaW.PrintWords Go.Proofs.YtcedkmjdigpdiaaW.PrintLast Go.Proofs.YtcedkmjdigpdiaaW.PrintMore
set_option linter.unusedVariables false
instance : Inhabited S24 := ⟨z24⟩
def zd3 : Rd S24 := zcA 24 (Kd.pair (zaL 3 .i64).d (Kd.pair (zaL 3 .i64).d (zZ 22 16 (zY 9)).d)) (fun x : S24 => (x.f0, x.f1, x.f2)) (fun y => (zaL 3 .i64).ok y.1 ∧ ((zaL 3 .i64).ok y.2.1 ∧ ((zZ 22 16 (zY 9)).ok y.2.2))) (fun y => (zaL 3 .i64).wt y.1 ∧ ((zaL 3 .i64).wt y.2.1 ∧ ((zZ 22 16 (zY 9)).wt y.2.2))) (fun y => (zaL 3 .i64).bk y.1 + ((zaL 3 .i64).bk y.2.1 + ((zZ 22 16 (zY 9)).bk y.2.2)))
theorem zew : zcf Try.prog zd3 :=
  zcM (zbo (o := 0) (o' := 1) (ok := fun (y : Int × (List ByteArray)) => (zaL 3 .i64).ok y.1 ∧ ((zZ 22 16 (zY 9)).ok y.2)) (wt := fun (y : Int × (List ByteArray)) => (zaL 3 .i64).wt y.1 ∧ ((zZ 22 16 (zY 9)).wt y.2)) (bk := fun (y : Int × (List ByteArray)) => (zaL 3 .i64).bk y.1 + ((zZ 22 16 (zY 9)).bk y.2)) (zc3 Try.underlying3) rfl rfl (by kernel_rfl) rfl (zbo (o := 1) (o' := 2) (ok := fun (y : (List ByteArray)) => (zZ 22 16 (zY 9)).ok y) (wt := fun (y : (List ByteArray)) => (zZ 22 16 (zY 9)).wt y) (bk := fun (y : (List ByteArray)) => (zZ 22 16 (zY 9)).bk y) (zc3 Try.underlying3) rfl rfl (by kernel_rfl) rfl (zcJ (zdb (zcL Try.underlying9) Try.underlying22 (by kernel_rfl) (by kernel_rfl)) rfl rfl (by kernel_rfl)))) Try.underlying24 (by kernel_rfl) (fun x : S24 => (x.f0, x.f1, x.f2)) (fun y => ⟨y.1, y.2.1, y.2.2⟩) (fun _ => rfl)
def zah : Prop := ∀ (a0 : S24), zd3.ok a0 → zd3.wt a0 → zH.f (a0.f0) (a0.f1) (a0.f2) = some true
end Go.Proofs.Ytcedkmjdigpdiaa.Px

namespace Go.Proofs.Ytcedkmjdigpdiaa.Px
open Go.RowKit Go.Proofs.YtcedkmjdigpdiaaW.PrintWords Go.Proofs.YtcedkmjdigpdiaaW.PrintLast Go.Proofs.YtcedkmjdigpdiaaW.PrintMore
attribute [local go_sem] zs zu zD zE zm zn zt zv
set_option linter.unusedVariables false
set_option linter.unusedSimpArgs false
theorem zcC (l : List ByteArray) (m : Nat) (hm : m < 18446744073709551616) (h : ∀ t ∈ l, t.size ≤ m) : (zS l).length ≤ l.length * (m + 9) := by
  induction l with
  | nil => simp [zS]
  | cons t l ih =>
    have e : zS (t :: l) = zbs (ofB t) ++ zS l := rfl
    have h1 := h t List.mem_cons_self
    have h2 := ih (fun x hx => h x (List.mem_cons_of_mem _ hx))
    have h3 := zac (v := (ofB t).length) (by rw [zL]; omega)
    rw [e, List.length_append, zbs, List.length_append, zL, List.length_cons, Nat.succ_mul]
    rw [zL] at h3
    omega
theorem zbM (o q : Int) (l : List ByteArray) : zbL o q l = true ↔ 1 ≤ o ∧ o ≤ 64 ∧ 1 ≤ q ∧ q ≤ 1073741824 ∧ 1 ≤ l.length ∧ l.length ≤ 4 ∧ ∀ t ∈ l, 1 ≤ t.size ∧ t.size ≤ 48 := by
  unfold zbL
  simp only [Bool.and_eq_true, decide_eq_true_eq, Bool.not_eq_true', List.any_eq_false]
  constructor
  · rintro ⟨⟨⟨⟨⟨⟨h1, h2⟩, h3⟩, h4⟩, h5⟩, h6⟩, h7⟩
    refine ⟨h1, h2, h3, h4, h5, h6, fun t ht => ?_⟩
    have h8 := h7 t ht
    simp only [zaJ, Bool.or_eq_true, decide_eq_true_eq, not_or] at h8
    omega
  · rintro ⟨h1, h2, h3, h4, h5, h6, h7⟩
    refine ⟨⟨⟨⟨⟨⟨h1, h2⟩, h3⟩, h4⟩, h5⟩, h6⟩, fun t ht => ?_⟩
    have h8 := h7 t ht
    simp only [zaJ, Bool.or_eq_true, decide_eq_true_eq, not_or]
    omega
def zaD (o q : Int) (l : List ByteArray) : Bs := zaF o.toNat ++ zaF q.toNat ++ zbk l
theorem zas (o q : Int) (l : List ByteArray) : zk.f o q l = some (if zbL o q l = true then (toB (zaD o q l), 0) else ((⟨#[]⟩ : ByteArray), 1)) := by
  unfold zk.f zM.f
  rw [Option.bind_some]
  by_cases h : zbL o q l = true
  · rw [if_pos h, if_pos h]
    obtain ⟨h1, h2, h3, h4, h5, h6, h7⟩ := (zbM o q l).1 h
    obtain ⟨a, rfl⟩ := Int.eq_ofNat_of_zero_le (show 0 ≤ o by omega)
    obtain ⟨b, rfl⟩ := Int.eq_ofNat_of_zero_le (show 0 ≤ q by omega)
    have r1 := zcC l 48 (by omega) (fun t ht => (h7 t ht).2)
    have r2 := zac (v := l.length) (by omega)
    have r3 : (zbk l).length ≤ 300 := by rw [zbk, List.length_append]; omega
    have n1 := za1 (v := a) (by omega)
    have n2 := za1 (v := b) (by omega)
    have r4 : zF.f l = some (toB (zbk l)) := by unfold zF.f; rw [if_pos (by omega)]
    rw [zaB (by omega) (by omega), zaB (by omega) (by omega), zaE a (by omega), zaE b (by omega)]
    simp only [Option.bind_some]
    rw [if_pos (by omega), r4]
    simp only [Option.bind_some]
    rw [if_pos (by rw [ByteArray.size_append, zay]; omega), zaD, zaj, zaj, Int.toNat_natCast, Int.toNat_natCast]
    rfl
  · rw [if_neg h, if_neg h]
theorem zeF : be 1 = [1] := by
  rw [zbF (by omega)]
  simp [zbc]
theorem zcW : zq.f = some true := by
  unfold zq.f
  rw [zas, if_pos (by rw [zbM]; simp; decide)]
  simp only [Option.bind_some]
  rw [if_pos]
  · rfl
  · have e2 : zbs (ofB (⟨#[97, 98]⟩ : ByteArray)) = [1, 2, 97, 98] := by
      show zaF 2 ++ [97, 98] = _
      rw [zaF, zes]; rfl
    rw [zbb, zaU, zaD, zbk, zS, List.flatMap_cons, List.flatMap_nil, e2]
    show zaF 1 ++ zaF 2 ++ (zaF 1 ++ _) = _
    rw [zaF, zaF, zeF, zes]
    rfl
end Go.Proofs.Ytcedkmjdigpdiaa.Px

namespace Go.Proofs.Ytcedkmjdigpdiaa.Px
open Go.RowKit Go.Proofs.YtcedkmjdigpdiaaW.PrintWords Go.Proofs.YtcedkmjdigpdiaaW.PrintLast Go.Proofs.YtcedkmjdigpdiaaW.PrintMore
attribute [local go_sem] zs zu zD zE zm zn zt zv
set_option linter.unusedVariables false
set_option linter.unusedSimpArgs false
def zak (w : World) (base : Nat) (e : TypeId) (v : Value) (l : Bs) : Prop :=
  ∃ g cap cur fz, v = .slice (some ⟨g, 0, none⟩) l.length cap ∧ base ≤ g ∧ w.heap[g]? = some (.cells cur e fz) ∧ (fz.2 ≤ l.length ∨ cap ≤ fz.1) ∧ l.length ≤ cap ∧ cap ≤ maxLen ∧ cur.size = cap ∧ cur.toList.take l.length = Lib.byteCells l
theorem zak.below {w w' : World} {base : Nat} {e : TypeId} {v : Value} {l : Bs} (h : zak w base e v l) (hb : Below w.heap.size w w') : zak w' base e v l := by
  obtain ⟨g, cap, cur, fz, rfl, hg, hh, r⟩ := h
  exact ⟨g, cap, cur, fz, rfl, hg, (hb.block g (Array.getElem?_eq_some_iff.1 hh).1).trans hh, r⟩
theorem zak.start (W : World) (base : Nat) (e : TypeId) (s : ByteArray) (hb : base ≤ W.heap.size) (hs : s.size ≤ maxLen) : zak (Lib.bytesWorld W e s) base e (.slice (some ⟨W.heap.size, 0, none⟩) s.size (grownCap W s.size 0 e)) (ofB s) := by
  have hc := grownCap_ge W s.size 0 e
  have hd : s.data.size = s.size := rfl
  have hz : (Lib.bytesCells W e s).size = grownCap W s.size 0 e := by
    rw [Lib.bytesCells, Array.size_append, Array.size_map, Array.size_replicate, hd]; omega
  refine ⟨W.heap.size, grownCap W s.size 0 e, Lib.bytesCells W e s, _, by rw [zL], hb, Lib.bytesWorld_at_new W e s, .inr (by rw [hz]; exact Nat.le_refl _), by rw [zL]; exact hc, grownCap_le_maxLen W s.size 0 e hs, hz, ?_⟩
  rw [Lib.bytesCells, Array.toList_append, List.take_left' (by rw [Array.length_toList, Array.size_map, hd, zL])]
  simp [Lib.byteCells, ofB]
theorem zak.string {P : Program} {w : World} {base : Nat} {e src : TypeId} {v : Value} {l : Bs} (hown : zak w base e v l) (hs : P.underlying src = some (.slice e)) (he : P.underlying e = some (.int .u8)) :
    ∀ dst, P.underlying dst = some .string → (convert src dst v).run P w = .ok (.string (toB l)) w := by
  obtain ⟨g, cap, cur, fz, rfl, hbg, hg, hfz, hnc, hcm, hcs, htake⟩ := hown
  intro dst hd
  have h := run_convert_bytes_arg (P := P) w src e hs he g 0 l.length cap (l.map fun b => (b.toNat : Int)) (by simp) (fun i hi => by
    have h1 : (Lib.byteCells l)[i]? = some (.int .u8 ((l.map fun b => (b.toNat : Int)).getD i 0)) := by
      simp [Lib.byteCells, List.getElem?_eq_getElem hi]
    rw [← htake, List.getElem?_take, if_pos hi] at h1
    rw [Nat.zero_add]
    simp [World.cell?, hg]
    simpa using h1) dst hd
  rw [h]
  congr 3
  rw [za8, List.map_map]
  congr 1
  rw [List.map_congr_left (g := id) (fun b _ => by simp), List.map_id]
end Go.Proofs.Ytcedkmjdigpdiaa.Px

namespace Go.Proofs.Ytcedkmjdigpdiaa.Px
open Go.RowKit Go.Proofs.YtcedkmjdigpdiaaW.PrintWords Go.Proofs.YtcedkmjdigpdiaaW.PrintLast Go.Proofs.YtcedkmjdigpdiaaW.PrintMore
attribute [local go_sem] zs zu zD zE zm zn zt zv
set_option linter.unusedVariables false
set_option linter.unusedSimpArgs false
end Go.Proofs.Ytcedkmjdigpdiaa.Px

namespace Go.Proofs.Ytcedkmjdigpdiaa.Px
open Go.RowKit Go.Proofs.YtcedkmjdigpdiaaW.PrintWords Go.Proofs.YtcedkmjdigpdiaaW.PrintLast Go.Proofs.YtcedkmjdigpdiaaW.PrintMore
attribute [local go_sem] zs zu zD zE zm zn zt zv
set_option linter.unusedVariables false
set_option linter.unusedSimpArgs false
structure Rpb (w W : World) (v : Value) (l : Bs) : Prop where
  o : zak W w.heap.size 5 v l
  b : Below w.heap.size w W
structure Rpt (w1 W : World) (t : Value) (xs : List Int) : Prop where
  t : W.ownsRow w1.heap.size 5 1 t xs.length (zdC .u8 xs)
  c : Below w1.heap.size w1 W
structure Rw (w1 W : World) (v : Value) (xs : List Int) : Prop where
  o : W.ownsRow w1.heap.size 46 1 v xs.length (zdC .u32 xs)
  c : Below w1.heap.size w1 W
theorem Rw.below {w1 W W' : World} {v : Value} {xs : List Int} (h : Rw w1 W v xs) (hb : Below W.heap.size W W') : Rw w1 W' v xs := ⟨zap h.o hb, zg h.c hb⟩
structure Rh (w W : World) (g2 g4 : Nat) (H : List Int) : Prop where
  b : Below w.heap.size w W
  h : W.heap[g2]? = some (.cells (zj H) 47 (0, 0))
  r : W.heap[g4]? = some (.cells (zj [0, 0, 0, 0, 0, 0, 0, 0]) 47 (0, 0))
theorem zcn {W W' : World} {base e n g c : Nat} {size : Nat} {xs : List Value} (h : W.ownsRow base e size (.slice (some ⟨g, 0, none⟩) n c) n xs) (hb : W'.heap[g]? = W.heap[g]?) : W'.ownsRow base e size (.slice (some ⟨g, 0, none⟩) n c) n xs := by
  refine ⟨h.1, ?_⟩
  rcases h.2 with h1 | ⟨g', cap, cur, e1, h2, h3, h4⟩
  · exact .inl h1
  · cases e1
    exact .inr ⟨g, c, cur, rfl, h2, hb.trans h3, h4⟩
structure Rq (w W : World) (B g2 g4 g c : Nat) (H Wl : List Int) : Prop where
  b : Below w.heap.size w W
  h : W.heap[g2]? = some (.cells (zj H) 47 (0, 0))
  r : W.heap[g4]? = some (.cells (zj [0, 0, 0, 0, 0, 0, 0, 0]) 47 (0, 0))
  o : W.ownsRow B 46 1 (.slice (some ⟨g, 0, none⟩) 64 c) 64 (zdC .u32 Wl)
theorem Rq.below {w W W' : World} {B g2 g4 g c : Nat} {H Wl : List Int} (h : Rq w W B g2 g4 g c H Wl) (hb : Below W.heap.size W W') : Rq w W' B g2 g4 g c H Wl := ⟨zg h.b hb, zi h.h hb, zi h.r hb, zap h.o hb⟩
theorem Rq.row {w W : World} {B g2 g4 g c g13 : Nat} {cs : Array Value} {H Wl : List Int} (h : Rq w W B g2 g4 g c H Wl) (G : w.heap.size ≤ g13) (n2 : g13 ≠ g2) (n4 : g13 ≠ g4) (n : g13 ≠ g) : Rq w (W.setRow g13 cs) B g2 g4 g c H Wl :=
  ⟨zad h.b G, (setRow_other _ _ _ _ (Ne.symm n2)).trans h.h, (setRow_other _ _ _ _ (Ne.symm n4)).trans h.r, zcn h.o (setRow_other _ _ _ _ (Ne.symm n))⟩
theorem Rq.cell {w W : World} {B g2 g4 g c : Nat} {H Wl : List Int} (h : Rq w W B g2 g4 g c H Wl) (hl : Wl.length = 64) (j : Nat) (hj : j < 64) : W.cell? ⟨g, j, none⟩ = some (.int .u32 (Wl.getD j 0)) := by
  have h := h.o.cells (g := g) rfl j (.int .u32 (Wl.getD j 0)) (by simp [zdC, List.getElem?_eq_getElem (show j < Wl.length by omega), List.getD_eq_getElem?_getD])
  rwa [zb7] at h
structure Rr (w W : World) (B g2 g4 g13 g c : Nat) (H Wl : List Int) : Prop where
  q : Rq w W B g2 g4 g c H Wl
  k : W.heap[g13]? = some (.cells (zj kL) 49 (0, 0))
theorem Rr.below {w W W' : World} {B g2 g4 g13 g c : Nat} {H Wl : List Int} (h : Rr w W B g2 g4 g13 g c H Wl) (hb : Below W.heap.size W W') : Rr w W' B g2 g4 g13 g c H Wl := ⟨h.q.below hb, zi h.k hb⟩
structure Rs (w W : World) (g3 : Nat) (L : List Int) : Prop where
  b : Below w.heap.size w W
  h : W.heap[g3]? = some (.cells (zj L) 47 (0, 0))
theorem Rs.below {w W W' : World} {g3 : Nat} {L : List Int} (h : Rs w W g3 L) (hb : Below W.heap.size W W') : Rs w W' g3 L := ⟨zg h.b hb, zi h.h hb⟩
def zee (L : List Int) : Nat → List Int
  | 0 => []
  | n + 1 => zee L n ++ [L.getD n 0 / 16777216 % 256, L.getD n 0 / 65536 % 256, L.getD n 0 / 256 % 256, L.getD n 0 % 256]
structure Ro (wb W : World) (L : List Int) (v : Value) (n : Nat) : Prop where
  o : W.ownsRow wb.heap.size 5 1 v (zee L n).length (zdC .u8 (zee L n))
  c : Below wb.heap.size wb W
end Go.Proofs.Ytcedkmjdigpdiaa.Px

namespace Go.Proofs.Ytcedkmjdigpdiaa.Px
open Go.RowKit Go.Proofs.YtcedkmjdigpdiaaW.PrintWords Go.Proofs.YtcedkmjdigpdiaaW.PrintLast Go.Proofs.YtcedkmjdigpdiaaW.PrintMore
attribute [local go_sem] zs zu zD zE zm zn zt zv
set_option linter.unusedVariables false
set_option linter.unusedSimpArgs false
theorem zbl {o q : Int} {l : List ByteArray} (h : zbL o q l = true) : (toB (zaD o q l)).size ≤ 400 := by
  obtain ⟨h1, h2, h3, h4, h5, h6, h7⟩ := (zbM _ _ _).1 h
  have r1 := zcC l 48 (by omega) (fun t ht => (h7 t ht).2)
  have r2 := zac (v := l.length) (by omega)
  have r4 := zac (v := o.toNat) (by omega)
  have r5 := zac (v := q.toNat) (by omega)
  rw [zay, zaD, List.length_append, List.length_append, zbk, List.length_append]; omega
theorem zbV {s : ByteArray} (h : s.size ≤ 10000) : zP.f s = some (zcV s) := by rw [zP.f, if_pos (by omega)]
def zcH (o q : Int) (l : List ByteArray) : ByteArray × Int := if zbL o q l = true then (zcV ((⟨#[98]⟩ : ByteArray) ++ toB (zaD o q l)), 0) else ((⟨#[]⟩ : ByteArray), 1)
theorem zcx (b : UInt8) (s : ByteArray) : ((⟨#[b]⟩ : ByteArray) ++ s).size = 1 + s.size := by rw [ByteArray.size_append]; rfl
theorem zbt (o q : Int) (l : List ByteArray) : zI.f o q l = some (zcH o q l) := by
  unfold zI.f zcH
  rw [zas]
  simp only [Option.bind_some]
  by_cases h : zbL o q l = true
  · have hs := zbl h
    rw [if_pos h, if_pos h, if_pos rfl, if_pos (by show 1 + (toB (zaD o q l)).size ≤ _; omega)]
    show (zP.f ((⟨#[98]⟩ : ByteArray) ++ toB (zaD o q l))).bind _ = _
    rw [zbV (by rw [zcx]; omega)]
    rfl
  · rw [if_neg h, if_neg h, if_neg (by simp)]
end Go.Proofs.Ytcedkmjdigpdiaa.Px

namespace Go.Proofs.Ytcedkmjdigpdiaa.Pure
open Go.RowKit Go.Proofs.Ytcedkmjdigpdiaa.Px Go.Proofs.YtcedkmjdigpdiaaW.PrintWords Go.Proofs.YtcedkmjdigpdiaaW.PrintLast Go.Proofs.YtcedkmjdigpdiaaW.PrintMore
theorem BatchDigests : zah := by
  intro a0 _ _
  unfold zH.f
  rw [zcW, zas, zbt]
  simp only [Option.bind_some]
  unfold zcH
  by_cases h : zbL a0.f0 a0.f1 a0.f2 = true
  · have hs := zbl h
    rw [if_pos h, if_pos h, if_pos trivial, if_pos rfl, if_pos rfl, if_pos (by show 1 + (toB (zaD a0.f0 a0.f1 a0.f2)).size ≤ _; omega)]
    show (zP.f ((⟨#[98]⟩ : ByteArray) ++ toB (zaD a0.f0 a0.f1 a0.f2))).bind _ = _
    rw [zbV (by rw [zcx]; omega)]
    simp only [Option.bind_some]
    rw [if_pos trivial, zdi]
    rfl
  · rw [if_neg h, if_neg h, if_pos trivial, if_pos rfl, if_neg (by simp)]
end Go.Proofs.Ytcedkmjdigpdiaa.Pure

namespace Go.Proofs.Ytcedkmjdigpdiaa.batchDigests
open Go.ChangeShapes Go.WideShapes Go.ChangeAt Go.RowKit
open Go.ChangeMaps (open_string shut_string)
open Go.RowKit Go.Proofs.Ytcedkmjdigpdiaa.Px Go.Proofs.YtcedkmjdigpdiaaW.PrintWords Go.Proofs.YtcedkmjdigpdiaaW.PrintLast Go.Proofs.YtcedkmjdigpdiaaW.PrintMore
set_option linter.unusedVariables false
theorem own : ownKnob Try.prog.godebug = none := by kernel_rfl
theorem laidOut : laidOutB Try.prog = true := by kernel_rfl
set_option maxRecDepth 100000 in
theorem contract (H : Type) (enc : TypeId × Value → H) (W : World) (base : Nat) (args : Array Value) (ds gs : List (DataW H)) (before : List MemPlace)
    (hval0 : ∀ (j : Nat) t v, Try.f4.params[j]? = some t → args[j]? = some v → Value.okWide Try.prog W .any base t v)
    (hW : DataW.Whole enc Try.prog Try.f4.params.toList Rows.batchDigestsSpec.vars false W args.toList ds gs before)
    (hsz0 : (DataW.weightsEach Try.prog (Try.f4.params.toList ++ Rows.batchDigestsSpec.plain.varTypes Try.prog) (ds ++ gs)).all (· ≤ reachBytes) = true) :
    Calls Try.prog 4 args W fun e W' => ∃ v, e = .returned v ∧ Rows.batchDigestsSpec.post enc Try.prog Try.f4 false true false false W args v W' := by
  have hval : ∀ (j : Nat) t v, Try.f4.params[j]? = some t → args[j]? = some v → Value.okWide Try.prog W .any base t v := hval0
  have hW' := hW
  obtain ⟨p, q, hA0, hV, rfl, hfz, hnd⟩ := hW
  have hA : DataW.TrodAll enc Try.prog W 0 (fun _ => true) true Try.f4.params.toList args.toList ds p := hA0
  have hsz := hsz0
  rw [Try.params4] at hA hval hsz
  obtain ⟨v0, vs0, d0, ds0, p0, q0, hargs, rfl, rfl, h0, r0⟩ := trodAll_cons hA
  obtain ⟨rfl, rfl, rfl⟩ := trodAll_nil r0
  obtain rfl : args = #[v0] := by cases args; simp_all
  obtain ⟨rfl, rfl⟩ := trodVars_none hV
  have t0 := h0
  have lt0 : ∀ x ∈ p0, x.block < W.heap.size := by obtain ⟨m, hm⟩ := t0; exact DataW.trod_lt m _ _ _ hm
  obtain ⟨a0, K0, ok0, wt0, bk0⟩ := zdX zew h0
  have wq0 := wt0 (fun n hn => of_decide_eq_true (List.all_eq_true.1 hsz n (DataW.weights_mem_each (j := 0) (t := zd3.t) (d := d0) rfl rfl n hn)))
  obtain ⟨cs0, rfl, sz0⟩ := okWide_struct Try.underlying24 (hval 0 24 v0 rfl rfl)
  obtain ⟨A0_2, c0_2, e0, l0_2, g0_2⟩ := zdz (show k24.K W a0 _ from K0)
  obtain rfl : cs0 = #[.int .i64 a0.f0, .int .i64 a0.f1, .slice A0_2 a0.f2.length c0_2] := by have := congrArg List.toArray e0; simpa [Value.cells] using this
  have hkk := Pure.BatchDigests a0 ok0 wq0
  refine (zH.calls (a0.f0) (a0.f1) A0_2 c0_2 (a0.f2) true W g0_2 l0_2 hkk).mono fun e W' ⟨he, bel0⟩ => ?_
  have bel := bel0
  subst he
  exact ⟨_, rfl, _, _, _, [], _, [], hW', trodAll_mk1 (shut_bool Try.underlying4 _), (trodAll_cons_mk (Below.trod laidOut (by kernel_rfl) (of_decide_eq_true (by kernel_rfl)) t0 bel lt0) trodAll_mk0), rfl, bel.frame _, fun h => by cases h⟩
set_option maxRecDepth 100000 in
theorem lifted (os : Os) (started : os.Started) (H : Type) (enc : TypeId × Value → H) :
    ReturnsInHanded {} Try.checked os 4 .any (Rows.batchDigestsSpec.pre6 enc Try.prog Try.f4 Rows.batchDigestsRow.domain false) (Rows.batchDigestsSpec.post enc Try.prog Try.f4 false true false false) := by
  refine returnsInHanded_of_change_sized (C := Try.checked) own started (by kernel_rfl) Try.func4
    (ChangeSpec.witness6 (enc := enc) (C := Try.checked) false ⟨#[], #[.agg #[.int .i64 0, .int .i64 0, .slice none 0 0]], []⟩ 8 (by kernel_rfl) (by kernel_rfl) (by kernel_rfl) (by kernel_rfl)) ?_
  intro W base args ds gs before hval hW _ hsz _
  exact contract H enc W base args ds gs before hval hW hsz
theorem proved : Rows.BatchDigestsSaid :=
  OpenClaim.holds_of_wide 4 Try.f4 rfl rfl rfl rfl rfl rfl rfl ⟨rfl, rfl, rfl, rfl, rfl⟩ rfl rfl rfl rfl rfl (by kernel_rfl) Try.func4 (by kernel_rfl)
    (of_decide_eq_true (by kernel_rfl)) (by unfold Func.isWrapper; first | (rw [if_pos (by decide +kernel)]; kernel_rfl) | (rw [if_neg (by decide +kernel)]; exact ⟨rfl, rfl⟩))
    (fun os started H enc _ => lifted os started H enc)
#print axioms proved
end Go.Proofs.Ytcedkmjdigpdiaa.batchDigests
namespace Go.Proofs.Ytcedkmjdigpdiaa
theorem batchDigests_holds : Rows.BatchDigestsSaid := batchDigests.proved
end Go.Proofs.Ytcedkmjdigpdiaa
