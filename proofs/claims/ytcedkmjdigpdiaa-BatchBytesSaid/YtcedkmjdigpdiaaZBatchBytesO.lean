/- Part 15 of 15 of the proof of the law BatchBytes: what is proved is the statement at the end of the last part; its conditions are those of the given row. -/
import Derived.Test.YtcedkmjdigpdiaaRows
import Derived.Deep.Slices
import Derived.ChangeArms
import Derived.SizedLaws
import Derived.WideOpen
import Derived.ProofKit
import Derived.OpenShut
import Derived.ShutString
import Derived.ChangeOld
import Derived.JoinedCond
import Derived.Carry
import Derived.WideShapes
import Derived.Test.YtcedkmjdigpdiaaZBatchBytesN
namespace Go.Proofs.Ytcedkmjdigpdiaa.Px
open Go.RowKit Go.Proofs.YtcedkmjdigpdiaaW.PrintWords Go.Proofs.YtcedkmjdigpdiaaW.PrintLast Go.Proofs.YtcedkmjdigpdiaaW.PrintMore
attribute [local go_sem] zz zB zG zH zr zs zA zC
set_option linter.unusedVariables false
set_option linter.unusedSimpArgs false
structure Rd (α : Type) where
  t : TypeId
  d : Kd α
  ok : α → Prop
  wt : α → Prop
  bk : α → Nat
structure zds {α : Type} (P : Program) (r : Rd α) : Prop where
  out : ∀ {H : Type} {enc : TypeId × Value → H} {w : World} {fuel : Nat} {cs : List Value} {x : DataW H × List MemPlace}, DataW.trod enc P w 0 (fun _ => true) true fuel r.t cs = some x →
    ∃ a, r.d.K w a cs ∧ r.ok a ∧ ((∀ n ∈ x.1.weights P r.t, n ≤ reachBytes) → r.wt a) ∧ r.bk a ≤ Rows.uptoBulk x.1
def zbt (t : TypeId) (k : IntKind) : Rd Int := ⟨t, Kd.int k, fun a => (Lit.int k a).wf = true, fun _ => True, fun _ => 1⟩
def zar (t : TypeId) : Rd ByteArray := ⟨t, Kd.string, fun a => a.size ≤ maxLen, fun a => a.size ≤ reachBytes, fun a => a.size + 1⟩
def zaB {α : Type} (t : TypeId) (B : Nat) (r : Rd α) : Rd (List α) :=
  ⟨t, Kd.slice r.t r.d, fun l => l.length ≤ maxLen ∧ ∀ a ∈ l, r.ok a, fun l => l.length * B ≤ reachBytes ∧ ∀ a ∈ l, r.wt a, fun l => (l.map r.bk).sum + 1⟩
section
variable {P : Program}
theorem zex {t : TypeId} {k : IntKind} (h : P.underlying t = some (.int k)) : zds P (zbt t k) := by
  constructor
  intro H enc w fuel cs x hx
  obtain ⟨n, rfl, rfl, hw⟩ := DataW.trod_int h hx
  exact ⟨n, rfl, hw, fun _ => trivial, by simp [zbt, Rows.uptoBulk]⟩
theorem zeb {t : TypeId} (h : P.underlying t = some .string) : zds P (zar t) := by
  constructor
  intro H enc w fuel cs x hx
  obtain ⟨s, rfl, rfl, hs⟩ := DataW.trod_string h hx
  have e : s.data.toList.length = s.size := by rw [Array.length_toList]; rfl
  refine ⟨s, rfl, hs, fun hn => ?_, by simp only [zar, Rows.uptoBulk, e]; exact Nat.le_refl _⟩
  have := hn s.data.toList.length (by simp [DataW.weights])
  rwa [e] at this
theorem zdL {H α : Type} (f : Nat → DataW H) (g : Nat → α) (bk : α → Nat) (n : Nat) (h : ∀ i, i < n → bk (g i) ≤ Rows.uptoBulk (f i)) : (((List.range n).map g).map bk).sum ≤ Rows.uptoBulkAll ((List.range n).map f) := by
  suffices k : ∀ l : List Nat, (∀ i ∈ l, i < n) → ((l.map g).map bk).sum ≤ Rows.uptoBulkAll (l.map f) from k _ (fun i hi => List.mem_range.1 hi)
  intro l
  induction l with
  | nil => intro _; simp
  | cons i l ih =>
    intro hl
    have h1 := h i (hl i List.mem_cons_self)
    have h2 := ih (fun j hj => hl j (List.mem_cons_of_mem _ hj))
    simp only [List.map_cons, List.sum_cons, Rows.uptoBulkAll]
    omega
theorem zbR {H : Type} {e : TypeId} : ∀ {l : List (DataW H)} {d : DataW H} {n : Nat}, d ∈ l → n ∈ d.weights P e → n ∈ DataW.weightsAll P e l
  | x :: l, d, n, hd, hn => by
    simp only [DataW.weightsAll, List.mem_append]
    rcases List.mem_cons.1 hd with rfl | hd
    · exact .inl hn
    · exact .inr (zbR hd hn)
theorem zeI {α : Type} [Inhabited α] {r : Rd α} (hr : zds P r) {t : TypeId} {B : Nat} (h : P.underlying t = some (.slice r.t)) (hc : P.cellsOf r.t = r.d.sz) (hB : P.bytesOf r.t = B) : zds P (zaB t B r) := by
  constructor
  intro H enc w fuel cs x hx
  rcases Deep.open_slice h hx with ⟨rfl, rfl⟩ | ⟨a, len, cap, m, n, D, Pl, rfl, _, hl, hm, hmm, rfl, hel⟩
  · exact ⟨[], ⟨none, 0, rfl, Nat.le_refl _, Kd.C_nil _ _⟩, ⟨Nat.zero_le _, by simp⟩, fun _ => ⟨by simp, by simp⟩, by simp [zaB, Rows.uptoBulk]⟩
  · simp only [if_true] at hmm
    subst hmm
    obtain ⟨f, hf⟩ := Deep.choose_lt (α := α) (n := len) (p := fun i v => ∃ c, w.cells? 0 (a.add (i * P.cellsOf r.t)) (P.cellsOf r.t) = some c ∧ r.d.K w v c ∧ r.ok v ∧ ((∀ q ∈ (D i).weights P r.t, q ≤ reachBytes) → r.wt v) ∧ r.bk v ≤ Rows.uptoBulk (D i)) (fun i hi => by
      obtain ⟨cs', h1, h2⟩ := hel i (by omega)
      obtain ⟨v, k1, k2, k3, k4⟩ := hr.out h2
      exact ⟨v, cs', h1, k1, k2, k3, k4⟩)
    have hlen : ((List.range len).map f).length = len := by simp
    refine ⟨(List.range len).map f, ⟨some a, m, by rw [hlen], by rw [hlen]; exact hl, ?_⟩, ⟨by rw [hlen]; omega, ?_⟩, fun hw => ⟨?_, ?_⟩, ?_⟩
    · rw [hlen]
      refine ⟨hlen, by unfold maxLen at hm; omega, fun _ => ⟨a, rfl, fun j p hj => ?_⟩⟩
      have hjl : j < len := by
        have := (List.getElem?_eq_some_iff.1 hj).1
        simpa using this
      obtain ⟨c, c1, c2, _⟩ := hf j hjl
      have hp : f j = p := by simpa [List.getElem?_map, List.getElem?_range hjl] using hj
      obtain ⟨_, l2, l3⟩ := World.cells?_some c1
      refine ⟨c, by rw [l2, hc], hp ▸ c2, fun i u hu => ?_⟩
      have hi : i < P.cellsOf r.t := by rw [← l2]; exact (List.getElem?_eq_some_iff.1 hu).1
      rw [← hc, ← Deep.add_add, l3 i hi]
      exact hu
    · intro v hv
      obtain ⟨i, hi, rfl⟩ := List.mem_map.1 hv
      obtain ⟨c, _, _, h3, _⟩ := hf i (List.mem_range.1 hi)
      exact h3
    · have := hw ((((List.range len).map D).length + ((List.range (m - len)).map fun j => D (len + j)).length) * P.bytesOf r.t) (by show _ ∈ DataW.weights P t _; simp only [DataW.weights, h]; exact List.mem_cons_self)
      rw [hlen]
      rw [hB] at this
      simp only [List.length_map, List.length_range] at this
      exact Nat.le_trans (Nat.mul_le_mul_right _ (by omega)) this
    · intro v hv
      obtain ⟨i, hi, rfl⟩ := List.mem_map.1 hv
      obtain ⟨c, _, _, _, h4, _⟩ := hf i (List.mem_range.1 hi)
      refine h4 (fun q hq => hw q ?_)
      show _ ∈ DataW.weights P t _
      simp only [DataW.weights, h]
      exact List.mem_cons_of_mem _ (List.mem_append_left _ (zbR (List.mem_map.2 ⟨i, hi, rfl⟩) hq))
    · simp only [zaB, Rows.uptoBulk]
      have := zdL D f r.bk len (fun i hi => (hf i hi).choose_spec.2.2.2.2)
      omega
structure zbS {β : Type} (P : Program) (fs : List Field) (o : Nat) (d : Kd β) (ok wt : β → Prop) (bk : β → Nat) : Prop where
  out : ∀ {H : Type} {enc : TypeId × Value → H} {w : World} {n : Nat} {cs : List Value} {xs : List (DataW H × List MemPlace)}, xs.length = fs.length → cs.length = o + d.sz →
    (∀ (i : Nat) (f : Field), fs[i]? = some f → DataW.trod enc P w 0 (fun _ => true) true n f.type ((cs.drop f.offset).take (P.cellsOf f.type)) = xs[i]?) →
    ∃ b, d.K w b (cs.drop o) ∧ ok b ∧ ((∀ q ∈ DataW.weightsEach P (fs.map (·.type)) (xs.map (·.1)), q ≤ reachBytes) → wt b) ∧ bk b ≤ Rows.uptoBulkAll (xs.map (·.1))
theorem zd9 {α : Type} {r : Rd α} (hr : zds P r) {f : Field} (ht : f.type = r.t) {o : Nat} (ho : f.offset = o) (hc : P.cellsOf r.t = r.d.sz) : zbS P [f] o r.d r.ok r.wt r.bk := by
  constructor
  intro H enc w n cs xs hl hcs hx
  match xs, hl with
  | [x], _ =>
    have h := hx 0 f rfl
    rw [ho, ht, hc, List.take_of_length_le (by rw [List.length_drop]; omega)] at h
    obtain ⟨a, h1, h2, h3, h4⟩ := hr.out h
    refine ⟨a, h1, h2, fun hq => h3 (fun q hm => hq q ?_), by simp [Rows.uptoBulkAll]; omega⟩
    simp only [List.map_cons, List.map_nil, DataW.weightsEach, List.mem_append, ht]
    exact .inl hm
theorem zcv {α β : Type} {r : Rd α} (hr : zds P r) {f : Field} (ht : f.type = r.t) {fs : List Field} {o o' : Nat} (ho : f.offset = o) (hc : P.cellsOf r.t = r.d.sz) (ho' : o' = o + r.d.sz) {d : Kd β} {ok wt : β → Prop} {bk : β → Nat} (hfs : zbS P fs o' d ok wt bk) :
    zbS P (f :: fs) o (Kd.pair r.d d) (fun x => r.ok x.1 ∧ ok x.2) (fun x => r.wt x.1 ∧ wt x.2) (fun x => r.bk x.1 + bk x.2) := by
  constructor
  intro H enc w n cs xs hl hcs hx
  match xs, hl with
  | x :: xs, hl =>
    have h := hx 0 f rfl
    have hcs' : cs.length = o + (r.d.sz + d.sz) := hcs
    rw [ho, ht, hc] at h
    obtain ⟨a, h1, h2, h3, h4⟩ := hr.out h
    obtain ⟨b, k1, k2, k3, k4⟩ := hfs.out (enc := enc) (w := w) (n := n) (cs := cs) (xs := xs) (by simpa using hl) (by omega) (fun i g hg => hx (i + 1) g hg)
    refine ⟨(a, b), ⟨(cs.drop o).take r.d.sz, cs.drop o', ?_, h1, k1⟩, ⟨h2, k2⟩, fun hq => ⟨h3 (fun q hm => hq q ?_), k3 (fun q hm => hq q ?_)⟩, ?_⟩
    · rw [ho', ← List.drop_drop, List.take_append_drop]
    · simp only [List.map_cons, DataW.weightsEach, List.mem_append, ht]
      exact .inl hm
    · simp only [List.map_cons, DataW.weightsEach, List.mem_append]
      exact .inr hm
    · simp only [List.map_cons, Rows.uptoBulkAll]; omega
def zdZ {α β : Type} (t : TypeId) (d : Kd β) (f : α → β) (ok wt : β → Prop) (bk : β → Nat) : Rd α := ⟨t, Kd.iso d f, fun a => ok (f a), fun a => wt (f a), fun a => bk (f a) + 1⟩
theorem zec {α β : Type} {t : TypeId} {fs : List Field} {d : Kd β} {ok wt : β → Prop} {bk : β → Nat} (hfs : zbS P fs 0 d ok wt bk) (h : P.underlying t = some (.struct fs.toArray)) (hc : P.cellsOf t = d.sz) (f : α → β) (g : β → α) (hfg : ∀ b, f (g b) = b) : zds P (zdZ t d f ok wt bk) := by
  constructor
  intro H enc w fuel cs x hx
  obtain ⟨xs, n, rfl, rfl, hl, hn, hf⟩ := DataW.trod_struct h hx
  obtain ⟨b, k1, k2, k3, k4⟩ := hfs.out (enc := enc) (w := w) (n := n) (cs := cs) (xs := xs) (by simpa using hn) (by omega) (fun i g hg => hf i g (by simpa using hg))
  refine ⟨g b, ?_, ?_, fun hq => ?_, ?_⟩
  · show d.K w (f (g b)) cs
    rw [hfg]
    exact k1
  · show ok (f (g b))
    rw [hfg]
    exact k2
  · show wt (f (g b))
    rw [hfg]
    refine k3 (fun q hm => hq q ?_)
    show _ ∈ DataW.weights P t _
    simp only [DataW.weights, h]
    exact hm
  · show bk (f (g b)) + 1 ≤ _
    rw [hfg]
    simp only [Rows.uptoBulk]
    omega
end
theorem zfs {α H : Type} {P : Program} {r : Rd α} (hr : zds P r) {enc : TypeId × Value → H} {w : World} {v : Value} {d : DataW H} {ps : List MemPlace} (h : DataW.Trod enc P w 0 (fun _ => true) true r.t v d ps) :
    ∃ a, r.d.K w a v.cells.toList ∧ r.ok a ∧ ((∀ n ∈ d.weights P r.t, n ≤ reachBytes) → r.wt a) ∧ r.bk a ≤ Rows.uptoBulk d := by
  obtain ⟨fuel, hf⟩ := h
  exact hr.out hf
end Go.Proofs.Ytcedkmjdigpdiaa.Px

namespace Go.Proofs.Ytcedkmjdigpdiaa.Px
open Go.RowKit Go.Proofs.Ytcedkmjdigpdiaa.Px Go.Proofs.YtcedkmjdigpdiaaW.PrintWords Go.Proofs.YtcedkmjdigpdiaaW.PrintLast Go.Proofs.YtcedkmjdigpdiaaW.PrintMore
set_option linter.unusedVariables false
instance : Inhabited S24 := ⟨z24⟩
def zfy : Rd S24 := zdZ 24 (Kd.pair (zbt 3 .i64).d (Kd.pair (zbt 3 .i64).d (zaB 22 16 (zar 9)).d)) (fun x : S24 => (x.f0, x.f1, x.f2)) (fun y => (zbt 3 .i64).ok y.1 ∧ ((zbt 3 .i64).ok y.2.1 ∧ ((zaB 22 16 (zar 9)).ok y.2.2))) (fun y => (zbt 3 .i64).wt y.1 ∧ ((zbt 3 .i64).wt y.2.1 ∧ ((zaB 22 16 (zar 9)).wt y.2.2))) (fun y => (zbt 3 .i64).bk y.1 + ((zbt 3 .i64).bk y.2.1 + ((zaB 22 16 (zar 9)).bk y.2.2)))
theorem zgb : zds Try.prog zfy :=
  zec (zcv (o := 0) (o' := 1) (ok := fun (y : Int × (List ByteArray)) => (zbt 3 .i64).ok y.1 ∧ ((zaB 22 16 (zar 9)).ok y.2)) (wt := fun (y : Int × (List ByteArray)) => (zbt 3 .i64).wt y.1 ∧ ((zaB 22 16 (zar 9)).wt y.2)) (bk := fun (y : Int × (List ByteArray)) => (zbt 3 .i64).bk y.1 + ((zaB 22 16 (zar 9)).bk y.2)) (zex Try.underlying3) rfl rfl (by kernel_rfl) rfl (zcv (o := 1) (o' := 2) (ok := fun (y : (List ByteArray)) => (zaB 22 16 (zar 9)).ok y) (wt := fun (y : (List ByteArray)) => (zaB 22 16 (zar 9)).wt y) (bk := fun (y : (List ByteArray)) => (zaB 22 16 (zar 9)).bk y) (zex Try.underlying3) rfl rfl (by kernel_rfl) rfl (zd9 (zeI (zeb Try.underlying9) Try.underlying22 (by kernel_rfl) (by kernel_rfl)) rfl rfl (by kernel_rfl)))) Try.underlying24 (by kernel_rfl) (fun x : S24 => (x.f0, x.f1, x.f2)) (fun y => ⟨y.1, y.2.1, y.2.2⟩) (fun _ => rfl)
def zaV : Prop := ∀ (a0 : S24), zfy.ok a0 → zfy.wt a0 → ∃ k, zo.f k (a0.f0) (a0.f1) (a0.f2) = some true
end Go.Proofs.Ytcedkmjdigpdiaa.Px

namespace Go.Proofs.Ytcedkmjdigpdiaa.Px
open Go.RowKit Go.Proofs.YtcedkmjdigpdiaaW.PrintWords Go.Proofs.YtcedkmjdigpdiaaW.PrintLast Go.Proofs.YtcedkmjdigpdiaaW.PrintMore
attribute [local go_sem] zz zB zG zH zr zs zA zC
set_option linter.unusedVariables false
set_option linter.unusedSimpArgs false
theorem zfz (l : List ByteArray) (j : Nat) (h : j < l.length) : za3 ByteArray.empty l (j : Int) = l[j] := by
  rw [za3, Int.toNat_natCast, List.getD_eq_getElem?_getD, List.getElem?_eq_getElem h]; rfl
theorem zc2 (l : List ByteArray) (m : Nat) (hm : m < 18446744073709551616) (h : ∀ t ∈ l, t.size ≤ m) : (zaj l).length ≤ l.length * (m + 9) := by
  induction l with
  | nil => simp [zaj]
  | cons t l ih =>
    have e : zaj (t :: l) = zcC (ofB t) ++ zaj l := rfl
    have h1 := h t List.mem_cons_self
    have h2 := ih (fun x hx => h x (List.mem_cons_of_mem _ hx))
    have h3 := zaA (v := (ofB t).length) (by rw [zV]; omega)
    rw [e, List.length_append, zcC, List.length_append, zV, List.length_cons, Nat.succ_mul]
    rw [zV] at h3
    omega
theorem zbK (o q : Int) (l : List ByteArray) : zbo o q l = true ↔ 1 ≤ o ∧ o ≤ 64 ∧ 1 ≤ q ∧ q ≤ 1073741824 ∧ 1 ≤ l.length ∧ l.length ≤ 4 ∧ ∀ t ∈ l, 1 ≤ t.size ∧ t.size ≤ 48 := by
  unfold zbo
  simp only [Bool.and_eq_true, decide_eq_true_eq, Bool.not_eq_true', List.any_eq_false]
  constructor
  · rintro ⟨⟨⟨⟨⟨⟨h1, h2⟩, h3⟩, h4⟩, h5⟩, h6⟩, h7⟩
    refine ⟨h1, h2, h3, h4, h5, h6, fun t ht => ?_⟩
    have h8 := h7 t ht
    simp only [zaS, Bool.or_eq_true, decide_eq_true_eq, not_or] at h8
    omega
  · rintro ⟨h1, h2, h3, h4, h5, h6, h7⟩
    refine ⟨⟨⟨⟨⟨⟨h1, h2⟩, h3⟩, h4⟩, h5⟩, h6⟩, fun t ht => ?_⟩
    have h8 := h7 t ht
    simp only [zaS, Bool.or_eq_true, decide_eq_true_eq, not_or]
    omega
def zaU (o q : Int) (l : List ByteArray) : Bs := za6 o.toNat ++ za6 q.toNat ++ zbc l
theorem zaM (o q : Int) (l : List ByteArray) : zI.f o q l = some (if zbo o q l = true then (toB (zaU o q l), 0) else ((⟨#[]⟩ : ByteArray), 1)) := by
  unfold zI.f zS.f
  rw [Option.bind_some]
  by_cases h : zbo o q l = true
  · rw [if_pos h, if_pos h]
    obtain ⟨h1, h2, h3, h4, h5, h6, h7⟩ := (zbK o q l).1 h
    obtain ⟨a, rfl⟩ := Int.eq_ofNat_of_zero_le (show 0 ≤ o by omega)
    obtain ⟨b, rfl⟩ := Int.eq_ofNat_of_zero_le (show 0 ≤ q by omega)
    have r1 := zc2 l 48 (by omega) (fun t ht => (h7 t ht).2)
    have r2 := zaA (v := l.length) (by omega)
    have r3 : (zbc l).length ≤ 300 := by rw [zbc, List.length_append]; omega
    have n1 := zaI (v := a) (by omega)
    have n2 := zaI (v := b) (by omega)
    have r4 : zY.f l = some (toB (zbc l)) := by unfold zY.f; rw [if_pos (by omega)]
    rw [zaJ (by omega) (by omega), zaJ (by omega) (by omega), zbi a (by omega), zbi b (by omega)]
    simp only [Option.bind_some]
    rw [if_pos (by omega), r4]
    simp only [Option.bind_some]
    rw [if_pos (by rw [ByteArray.size_append, zas]; omega), zaU, zak, zak, Int.toNat_natCast, Int.toNat_natCast]
    rfl
  · rw [if_neg h, if_neg h]
theorem zgj : be 1 = [1] := by
  rw [zch (by omega)]
  simp [zbv]
theorem zer : zQ.f = some true := by
  unfold zQ.f
  rw [zaM, if_pos (by rw [zbK]; simp; decide)]
  simp only [Option.bind_some]
  rw [if_pos]
  · rfl
  · have e2 : zcC (ofB (⟨#[97, 98]⟩ : ByteArray)) = [1, 2, 97, 98] := by
      show za6 2 ++ [97, 98] = _
      rw [za6, zf8]; rfl
    rw [zca, zbf, zaU, zbc, zaj, List.flatMap_cons, List.flatMap_nil, e2]
    show za6 1 ++ za6 2 ++ (za6 1 ++ _) = _
    rw [za6, za6, zgj, zf8]
    rfl
end Go.Proofs.Ytcedkmjdigpdiaa.Px

namespace Go.Proofs.Ytcedkmjdigpdiaa.Px
open Go.RowKit Go.Proofs.YtcedkmjdigpdiaaW.PrintWords Go.Proofs.YtcedkmjdigpdiaaW.PrintLast Go.Proofs.YtcedkmjdigpdiaaW.PrintMore
attribute [local go_sem] zz zB zG zH zr zs zA zC
set_option linter.unusedVariables false
set_option linter.unusedSimpArgs false
end Go.Proofs.Ytcedkmjdigpdiaa.Px

namespace Go.Proofs.Ytcedkmjdigpdiaa.Px
open Go.RowKit Go.Proofs.YtcedkmjdigpdiaaW.PrintWords Go.Proofs.YtcedkmjdigpdiaaW.PrintLast Go.Proofs.YtcedkmjdigpdiaaW.PrintMore
attribute [local go_sem] zz zB zG zH zr zs zA zC
set_option linter.unusedVariables false
set_option linter.unusedSimpArgs false
end Go.Proofs.Ytcedkmjdigpdiaa.Px

namespace Go.Proofs.Ytcedkmjdigpdiaa.Px
open Go.RowKit Go.Proofs.YtcedkmjdigpdiaaW.PrintWords Go.Proofs.YtcedkmjdigpdiaaW.PrintLast Go.Proofs.YtcedkmjdigpdiaaW.PrintMore
attribute [local go_sem] zz zB zG zH zr zs zA zC
set_option linter.unusedVariables false
set_option linter.unusedSimpArgs false
end Go.Proofs.Ytcedkmjdigpdiaa.Px

namespace Go.Proofs.Ytcedkmjdigpdiaa.Px
open Go.RowKit Go.Proofs.YtcedkmjdigpdiaaW.PrintWords Go.Proofs.YtcedkmjdigpdiaaW.PrintLast Go.Proofs.YtcedkmjdigpdiaaW.PrintMore
attribute [local go_sem] zz zB zG zH zr zs zA zC
set_option linter.unusedVariables false
set_option linter.unusedSimpArgs false
theorem zd1 (o q : Int) (l : List ByteArray) (hl : l.length < 4611686018427387904) (d : Nat) : ∀ j, j + d = l.length →
    Ev (fun k => zi.l0 k (j : Int) o q l) (!(l.drop j).any zaS) := by
  induction d with
  | zero =>
    intro j hj
    refine Ev.step (fun k => by rw [zi.l0]) ?_
    refine zaz (by omega) (zbG (Ev.now _) ?_)
    rw [List.drop_eq_nil_of_le (by omega)]; rfl
  | succ d ih =>
    intro j hj
    have hjl : j < l.length := by omega
    refine Ev.step (fun k => by rw [zi.l0]) ?_
    refine zaf (by omega) (zaf (by omega) ?_)
    rw [zfz l j hjl, List.drop_eq_getElem_cons hjl, za8 (by omega) (by omega), List.any_cons]
    by_cases h1 : (l[j].size : Int) < 1
    · refine zaf h1 (zbG (Ev.now _) ?_)
      have : l[j].size = 0 := by omega
      simp [zaS, this]
    · refine zaz h1 ?_
      by_cases h2 : (l[j].size : Int) > 48
      · refine zaf h2 (zbG (Ev.now _) ?_)
        have : 48 < l[j].size := by omega
        simp [zaS, this]
      · refine zaz h2 (zbG (ih (j + 1) (by omega)) ?_)
        have e1 : zaS l[j] = false := by
          have : ¬ l[j].size = 0 := by omega
          have h3 : ¬ 48 < l[j].size := by omega
          simp [zaS, this, h3]
        rw [e1, Bool.false_or]
theorem zdp (o q : Int) (l : List ByteArray) (hl : l.length < 4611686018427387904) : Ev (fun k => zi.f k o q l) (zbo o q l) := by
  have key : ∀ b : Bool, (b = true ↔ ¬ (1 ≤ o ∧ o ≤ 64 ∧ 1 ≤ q ∧ q ≤ 1073741824 ∧ 1 ≤ l.length ∧ l.length ≤ 4)) → Ev (fun k => zi.j0 k b o q l) (zbo o q l) := by
    intro b hb
    refine Ev.step (fun k => by rw [zi.j0]) ?_
    by_cases h : 1 ≤ o ∧ o ≤ 64 ∧ 1 ≤ q ∧ q ≤ 1073741824 ∧ 1 ≤ l.length ∧ l.length ≤ 4
    · refine zaz (fun hh => hb.1 hh h) (zbG (zd1 o q l hl l.length 0 (by omega)) ?_)
      obtain ⟨h1, h2, h3, h4, h5, h6⟩ := h
      simp [zbo, h1, h2, h3, h4, h5, h6]
    · refine zaf (hb.2 h) (zbG (Ev.now _) ?_)
      symm
      rw [← Bool.not_eq_true, zbK]
      exact fun ⟨h1, h2, h3, h4, h5, h6, _⟩ => h ⟨h1, h2, h3, h4, h5, h6⟩
  by_cases h1 : o < 1
  · exact zaf h1 (key true (by simp; omega))
  refine zaz h1 ?_
  by_cases h2 : o > 64
  · exact zaf h2 (key true (by simp; omega))
  refine zaz h2 ?_
  by_cases h3 : q < 1
  · exact zaf h3 (key true (by simp; omega))
  refine zaz h3 ?_
  by_cases h4 : q > 1073741824
  · exact zaf h4 (key true (by simp; omega))
  refine zaz h4 ?_
  by_cases h5 : (l.length : Int) < 1
  · exact zaf h5 (key true (by simp; omega))
  exact zaz h5 (key _ (by simp; omega))
end Go.Proofs.Ytcedkmjdigpdiaa.Px

namespace Go.Proofs.Ytcedkmjdigpdiaa.Px
open Go.RowKit Go.Proofs.YtcedkmjdigpdiaaW.PrintWords Go.Proofs.YtcedkmjdigpdiaaW.PrintLast Go.Proofs.YtcedkmjdigpdiaaW.PrintMore
attribute [local go_sem] zz zB zG zH zr zs zA zC
set_option linter.unusedVariables false
set_option linter.unusedSimpArgs false
end Go.Proofs.Ytcedkmjdigpdiaa.Px

namespace Go.Proofs.Ytcedkmjdigpdiaa.Px
open Go.RowKit Go.Proofs.YtcedkmjdigpdiaaW.PrintWords Go.Proofs.YtcedkmjdigpdiaaW.PrintLast Go.Proofs.YtcedkmjdigpdiaaW.PrintMore
attribute [local go_sem] zz zB zG zH zr zs zA zC
set_option linter.unusedVariables false
set_option linter.unusedSimpArgs false
end Go.Proofs.Ytcedkmjdigpdiaa.Px

namespace Go.Proofs.Ytcedkmjdigpdiaa.Px
open Go.RowKit Go.Proofs.YtcedkmjdigpdiaaW.PrintWords Go.Proofs.YtcedkmjdigpdiaaW.PrintLast Go.Proofs.YtcedkmjdigpdiaaW.PrintMore
attribute [local go_sem] zz zB zG zH zr zs zA zC
set_option linter.unusedVariables false
set_option linter.unusedSimpArgs false
end Go.Proofs.Ytcedkmjdigpdiaa.Px

namespace Go.Proofs.Ytcedkmjdigpdiaa.Px
open Go.RowKit Go.Proofs.YtcedkmjdigpdiaaW.PrintWords Go.Proofs.YtcedkmjdigpdiaaW.PrintLast Go.Proofs.YtcedkmjdigpdiaaW.PrintMore
attribute [local go_sem] zz zB zG zH zr zs zA zC
set_option linter.unusedVariables false
set_option linter.unusedSimpArgs false
end Go.Proofs.Ytcedkmjdigpdiaa.Px

namespace Go.Proofs.Ytcedkmjdigpdiaa.Px
open Go.RowKit Go.Proofs.YtcedkmjdigpdiaaW.PrintWords Go.Proofs.YtcedkmjdigpdiaaW.PrintLast Go.Proofs.YtcedkmjdigpdiaaW.PrintMore
attribute [local go_sem] zz zB zG zH zr zs zA zC
set_option linter.unusedVariables false
set_option linter.unusedSimpArgs false
end Go.Proofs.Ytcedkmjdigpdiaa.Px

namespace Go.Proofs.Ytcedkmjdigpdiaa.Px
open Go.RowKit Go.Proofs.YtcedkmjdigpdiaaW.PrintWords Go.Proofs.YtcedkmjdigpdiaaW.PrintLast Go.Proofs.YtcedkmjdigpdiaaW.PrintMore
attribute [local go_sem] zz zB zG zH zr zs zA zC
set_option linter.unusedVariables false
set_option linter.unusedSimpArgs false
end Go.Proofs.Ytcedkmjdigpdiaa.Px

namespace Go.Proofs.Ytcedkmjdigpdiaa.Px
open Go.RowKit Go.Proofs.YtcedkmjdigpdiaaW.PrintWords Go.Proofs.YtcedkmjdigpdiaaW.PrintLast Go.Proofs.YtcedkmjdigpdiaaW.PrintMore
attribute [local go_sem] zz zB zG zH zr zs zA zC
set_option linter.unusedVariables false
set_option linter.unusedSimpArgs false
end Go.Proofs.Ytcedkmjdigpdiaa.Px

namespace Go.Proofs.Ytcedkmjdigpdiaa.Px
open Go.RowKit Go.Proofs.YtcedkmjdigpdiaaW.PrintWords Go.Proofs.YtcedkmjdigpdiaaW.PrintLast Go.Proofs.YtcedkmjdigpdiaaW.PrintMore
attribute [local go_sem] zz zB zG zH zr zs zA zC
set_option linter.unusedVariables false
set_option linter.unusedSimpArgs false
def bB (b : S24) : ByteArray := if zbo b.f0 b.f1 b.f2 = true then toB (zaU b.f0 b.f1 b.f2) else (⟨#[]⟩ : ByteArray)
theorem vertex_each1.one (b : S24) (A : Option Addr) (c : Nat) (w : World) (hr : Kd.C Kd.string w A b.f2.length b.f2) (hc : b.f2.length ≤ c) :
    Calls Try.prog 35 #[.agg #[.int .i64 b.f0, .int .i64 b.f1, .slice A b.f2.length c]] w fun e w' => e = .returned (.string (bB b)) ∧ Below w.heap.size w w' := by
  obtain ⟨e, he⟩ : ∃ e, zI.f b.f0 b.f1 b.f2 = some (bB b, e) := by
    rw [zaM, bB]
    split
    · exact ⟨_, rfl⟩
    · exact ⟨_, rfl⟩
  have HE := za.mk he
  have HR := za.mk hr
  have HC := za.mk hc
  clear he hr hc
  generalize bB b = s at *
  obtain ⟨b0, b1, b2⟩ := b
  go_enter Try.func35, Try.ntmps35
  go_wp2_with (first
    | ((with_reducible refine zP (N := 1) rfl ?_); refine zO ?hg (N := 1) ?hd (cs := #[.int .i64 b0, .int .i64 b1, .slice A b2.length c]) (t := 24) ?hr ?_; (case hd => rfl); (case hg => rfl); (case hr => first | (go_simp; done) | (go_simp; rfl)); intro gb hg w2 hbox hb; have BK := za.mk hbox; have HB := za.mk hb; clear hb hbox hg; have hz0 := (zd BK.out 0).trans rfl; have hz1 := (zd BK.out 1).trans rfl; have hz2 := (zd BK.out 2).trans rfl; have hf0 := ze BK.out 0; have hf1 := ze BK.out 1; have hf2 := ze BK.out 2)
    | (go_at_call 7; (with_reducible refine (zI.calls b0 b1 _ _ b2 _ _ _ (Kd.C_below HR.out HB.out) HC.out HE.out).mono ?_); rintro e w3 ⟨rfl, hb⟩; have HB3 := za.mk (zg HB.out hb); clear hb))
  go_ret
  exact ⟨rfl, HB3.out⟩
end Go.Proofs.Ytcedkmjdigpdiaa.Px

namespace Go.Proofs.Ytcedkmjdigpdiaa.Px
open Go.RowKit Go.Proofs.YtcedkmjdigpdiaaW.PrintWords Go.Proofs.YtcedkmjdigpdiaaW.PrintLast Go.Proofs.YtcedkmjdigpdiaaW.PrintMore
attribute [local go_sem] zz zB zG zH zr zs zA zC
set_option linter.unusedVariables false
set_option linter.unusedSimpArgs false
end Go.Proofs.Ytcedkmjdigpdiaa.Px

namespace Go.Proofs.Ytcedkmjdigpdiaa.Px
open Go.RowKit Go.Proofs.YtcedkmjdigpdiaaW.PrintWords Go.Proofs.YtcedkmjdigpdiaaW.PrintLast Go.Proofs.YtcedkmjdigpdiaaW.PrintMore
attribute [local go_sem] zz zB zG zH zr zs zA zC
set_option linter.unusedVariables false
set_option linter.unusedSimpArgs false
end Go.Proofs.Ytcedkmjdigpdiaa.Px

namespace Go.Proofs.Ytcedkmjdigpdiaa.Px
open Go.RowKit Go.Proofs.YtcedkmjdigpdiaaW.PrintWords Go.Proofs.YtcedkmjdigpdiaaW.PrintLast Go.Proofs.YtcedkmjdigpdiaaW.PrintMore
attribute [local go_sem] zz zB zG zH zr zs zA zC
set_option linter.unusedVariables false
set_option linter.unusedSimpArgs false
end Go.Proofs.Ytcedkmjdigpdiaa.Px

namespace Go.Proofs.Ytcedkmjdigpdiaa.Px
open Go.RowKit Go.Proofs.YtcedkmjdigpdiaaW.PrintWords Go.Proofs.YtcedkmjdigpdiaaW.PrintLast Go.Proofs.YtcedkmjdigpdiaaW.PrintMore
attribute [local go_sem] zz zB zG zH zr zs zA zC
set_option linter.unusedVariables false
set_option linter.unusedSimpArgs false
end Go.Proofs.Ytcedkmjdigpdiaa.Px

namespace Go.Proofs.Ytcedkmjdigpdiaa.Px
open Go.RowKit Go.Proofs.YtcedkmjdigpdiaaW.PrintWords Go.Proofs.YtcedkmjdigpdiaaW.PrintLast Go.Proofs.YtcedkmjdigpdiaaW.PrintMore
attribute [local go_sem] zz zB zG zH zr zs zA zC
set_option linter.unusedVariables false
set_option linter.unusedSimpArgs false
end Go.Proofs.Ytcedkmjdigpdiaa.Px

namespace Go.Proofs.Ytcedkmjdigpdiaa.Px
open Go.RowKit Go.Proofs.YtcedkmjdigpdiaaW.PrintWords Go.Proofs.YtcedkmjdigpdiaaW.PrintLast Go.Proofs.YtcedkmjdigpdiaaW.PrintMore
attribute [local go_sem] zz zB zG zH zr zs zA zC
set_option linter.unusedVariables false
set_option linter.unusedSimpArgs false
end Go.Proofs.Ytcedkmjdigpdiaa.Px

namespace Go.Proofs.Ytcedkmjdigpdiaa.Px
open Go.RowKit Go.Proofs.YtcedkmjdigpdiaaW.PrintWords Go.Proofs.YtcedkmjdigpdiaaW.PrintLast Go.Proofs.YtcedkmjdigpdiaaW.PrintMore
attribute [local go_sem] zz zB zG zH zr zs zA zC
set_option linter.unusedVariables false
set_option linter.unusedSimpArgs false
end Go.Proofs.Ytcedkmjdigpdiaa.Px

namespace Go.Proofs.Ytcedkmjdigpdiaa.Px
open Go.RowKit Go.Proofs.YtcedkmjdigpdiaaW.PrintWords Go.Proofs.YtcedkmjdigpdiaaW.PrintLast Go.Proofs.YtcedkmjdigpdiaaW.PrintMore
attribute [local go_sem] zz zB zG zH zr zs zA zC
set_option linter.unusedVariables false
set_option linter.unusedSimpArgs false
end Go.Proofs.Ytcedkmjdigpdiaa.Px

namespace Go.Proofs.Ytcedkmjdigpdiaa.Px
open Go.RowKit Go.Proofs.YtcedkmjdigpdiaaW.PrintWords Go.Proofs.YtcedkmjdigpdiaaW.PrintLast Go.Proofs.YtcedkmjdigpdiaaW.PrintMore
attribute [local go_sem] zz zB zG zH zr zs zA zC
set_option linter.unusedVariables false
set_option linter.unusedSimpArgs false
def zda (n : Int) (b : S24) : Bool := !zbo b.f0 b.f1 b.f2 || decide (n < b.f0)
theorem zbb.odd (n : Int) (g : Nat) (a0 a1 : Int) (A : Option Addr) (c : Nat) (l : List ByteArray) (w : World) (hr : Kd.C Kd.string w A l.length l) (hc : l.length ≤ c)
    (hn : w.heap[g]? = some (.cells #[.int .i64 n] 3 (0, 0))) :
    Calls Try.prog 38 #[.agg #[.int .i64 a0, .int .i64 a1, .slice A l.length c], .pointer (some ⟨g, 0, none⟩)] w fun e w' => e = .returned (.bool (zda n ⟨a0, a1, l⟩)) ∧ Below w.heap.size w w' := by
  have HR := za.mk hr
  have HC := za.mk hc
  have HN := za.mk hn
  clear hr hc hn
  rcases hm : zbo a0 a1 l with _ | _
  · have HO : za (zda n ⟨a0, a1, l⟩ = true) := ⟨by simp [zda, hm]⟩
    have HM := za.mk hm
    clear hm
    go_enter Try.func38, Try.ntmps38
    go_wp2_with (first
      | ((with_reducible refine zP (N := 2) rfl ?_); refine zO ?hg (N := 2) ?hd (cs := #[.int .i64 a0, .int .i64 a1, .slice A l.length c]) (t := 24) ?hr ?_; (case hd => rfl); (case hg => rfl); (case hr => first | (go_simp; done) | (go_simp; rfl)); intro gb hg w2 hbox hb; have BK := za.mk hbox; have HB := za.mk hb; clear hb hbox hg; have hz0 := (zd BK.out 0).trans rfl; have hz1 := (zd BK.out 1).trans rfl; have hz2 := (zd BK.out 2).trans rfl; have hf0 := ze BK.out 0; have hf1 := ze BK.out 1; have hf2 := ze BK.out 2)
      | (go_at_call 11; (with_reducible refine (zS.calls a0 a1 _ _ l _ _ (Kd.C_below HR.out HB.out) HC.out rfl).mono ?_); rintro e w3 ⟨rfl, hb⟩; rw [HM.out]; have HB3 := za.mk (zg HB.out hb); clear hb))
    go_ret
    exact ⟨by rw [HO.out]; rfl, HB3.out⟩
  · have HO : za (zda n ⟨a0, a1, l⟩ = decide (n < a0)) := ⟨by simp [zda, hm]⟩
    have HM := za.mk hm
    clear hm
    go_enter Try.func38, Try.ntmps38
    go_wp2_with (first
      | ((with_reducible refine zP (N := 2) rfl ?_); refine zO ?hg (N := 2) ?hd (cs := #[.int .i64 a0, .int .i64 a1, .slice A l.length c]) (t := 24) ?hr ?_; (case hd => rfl); (case hg => rfl); (case hr => first | (go_simp; done) | (go_simp; rfl)); intro gb hg w2 hbox hb; have BK := za.mk hbox; have HB := za.mk hb; clear hb hbox hg; have hz0 := (zd BK.out 0).trans rfl; have hz1 := (zd BK.out 1).trans rfl; have hz2 := (zd BK.out 2).trans rfl; have hf0 := ze BK.out 0; have hf1 := ze BK.out 1; have hf2 := ze BK.out 2)
      | (go_at_call 11; (with_reducible refine (zS.calls a0 a1 _ _ l _ _ (Kd.C_below HR.out HB.out) HC.out rfl).mono ?_); rintro e w3 ⟨rfl, hb⟩; rw [HM.out]; have HB3 := za.mk (zg HB.out hb); have BK3 := za.mk (zn BK.out hb); have BN3 := za.mk (zn HN.out HB3.out); clear hb; have hy0 := (zd BK3.out 0).trans rfl; have hyf := ze BK3.out 0; have hn0 := (zd BN3.out 0).trans rfl; have hnf := ze BN3.out 0))
    go_ret
    exact ⟨by rw [HO.out]; rfl, HB3.out⟩
theorem zbb.idx (n : Int) (g : Nat) (A : Option Addr) (c : Nat) (l : List S24) (w : World) (hr : Kd.C k24 w A l.length l) (hc : l.length ≤ c)
    (hn : w.heap[g]? = some (.cells #[.int .i64 n] 3 (0, 0))) :
    Calls Try.prog 58 #[.slice A l.length c, .func (.func 38) #[] #[.pointer (some ⟨g, 0, none⟩)]] w fun e w' => e = .returned (.int .i64 (zdQ (zda n) l)) ∧ Below w.heap.size w w' := by
  have hm := hr.2.1
  have HR := za.mk hr
  have HN := za.mk hn
  clear hr hn
  go_enter Try.func58, Try.ntmps58
  go_wp2_with fail
  have HB0 := za.mk (Below.refl w.heap.size w)
  go_loopw [5, 8] (fun v5 v8 wr => ∃ k : Nat, v8 = .int .i64 k ∧ k ≤ l.length ∧ za (∀ (j : Nat) (y : S24), j < k → l[j]? = some y → zda n y = false) ∧ za (Below w.heap.size w wr)) (fun _ v8 _ => l.length - (match v8 with | .int _ q => q | _ => 0).toNat)
  case atStart => exact ⟨0, rfl, Nat.zero_le _, ⟨fun j y hj => absurd hj (Nat.not_lt_zero _)⟩, ⟨by repeat (first | (with_reducible first | exact HB0.out | apply zf | apply zb | apply zc) | exact HB0.out)⟩⟩
  case round =>
    obtain ⟨k, rfl, hk, HF, HB⟩ := hrel
    by_cases hlt : k < l.length
    · obtain ⟨ad, A2, c2, rfl, hx0, hx1, hx2, hl2, hi2⟩ := zfR HR.out (k : Int) (by omega) (by omega)
      replace hx0 := (HB.out.cell (World.block_lt_of_cell? w _ hx0)).trans hx0
      replace hx1 := (HB.out.cell (World.block_lt_of_cell? w _ hx1)).trans hx1
      replace hx2 := (HB.out.cell (World.block_lt_of_cell? w _ hx2)).trans hx2
      rw [Int.toNat_natCast] at hx0 hx1 hx2
      have hb : decide (k < l.length) = true := decide_eq_true hlt
      have hx : l[k]? = some (zbB l (k : Int)) := by
        rw [zbB, Int.toNat_natCast, List.getD_eq_getElem?_getD, List.getElem?_eq_getElem hlt]; rfl
      have HX := za.mk hx
      have HL2 := za.mk hl2
      have HI2 := za.mk (Kd.C_below hi2 HB.out)
      have HNW := za.mk (zn HN.out HB.out)
      clear hx hl2 hi2
      generalize zbB l (k : Int) = s at *
      obtain ⟨s0, s1, s2⟩ := s
      rcases ho : zda n ⟨s0, s1, s2⟩ with _ | _
      · have HO := za.mk ho
        clear ho
        go_wp2_with (go_at_call 38; (with_reducible refine (zbb.odd n g s0 s1 _ _ s2 _ HI2.out HL2.out HNW.out).mono ?_); rintro e w1 ⟨rfl, hb1⟩; rw [HO.out]; have HB1 := za.mk (zg HB.out hb1); clear hb1)
        go_roundw
        case rel =>
          refine ⟨k + 1, by go_num, by omega, ⟨fun j y hj hy => ?_⟩, HB1⟩
          rcases Nat.lt_succ_iff_lt_or_eq.1 hj with h | h
          · exact HF.out j y h hy
          · subst h
            rw [HX.out] at hy
            injection hy with hy
            subst hy
            exact HO.out
        case measure => simp; omega
      · have HO := za.mk ho
        clear ho
        go_wp2_with (go_at_call 38; (with_reducible refine (zbb.odd n g s0 s1 _ _ s2 _ HI2.out HL2.out HNW.out).mono ?_); rintro e w1 ⟨rfl, hb1⟩; rw [HO.out]; have HB1 := za.mk (zg HB.out hb1); clear hb1)
        go_ret
        exact ⟨by rw [zdS HX.out HO.out HF.out]; rfl, HB1.out⟩
    · obtain rfl : k = l.length := by omega
      go_wp2_with fail
      go_ret
      exact ⟨by rw [zdj (fun j y hy => HF.out j y (List.getElem?_eq_some_iff.1 hy).1 hy)]; rfl, HB.out⟩
theorem zbb.contains (n : Int) (g : Nat) (A : Option Addr) (c : Nat) (l : List S24) (w : World) (hr : Kd.C k24 w A l.length l) (hc : l.length ≤ c)
    (hn : w.heap[g]? = some (.cells #[.int .i64 n] 3 (0, 0))) :
    Calls Try.prog 40 #[.slice A l.length c, .func (.func 38) #[] #[.pointer (some ⟨g, 0, none⟩)]] w fun e w' => e = .returned (.bool (l.any (zda n))) ∧ Below w.heap.size w w' := by
  have HR := za.mk hr
  have HC := za.mk hc
  have HN := za.mk hn
  clear hr hc hn
  have HA := za.mk (zdR (zda n) l)
  go_enter Try.func40, Try.ntmps40
  go_wp2_with (go_at_call 58; (with_reducible refine (zbb.idx n g _ _ l _ HR.out HC.out HN.out).mono ?_); rintro e w1 ⟨rfl, hb1⟩; have HB1 := za.mk hb1; clear hb1)
  go_ret
  exact ⟨by rw [← HA.out]; rfl, HB1.out⟩
end Go.Proofs.Ytcedkmjdigpdiaa.Px

namespace Go.Proofs.Ytcedkmjdigpdiaa.Px
open Go.RowKit Go.Proofs.YtcedkmjdigpdiaaW.PrintWords Go.Proofs.YtcedkmjdigpdiaaW.PrintLast Go.Proofs.YtcedkmjdigpdiaaW.PrintMore
attribute [local go_sem] zz zB zG zH zr zs zA zC
set_option linter.unusedVariables false
set_option linter.unusedSimpArgs false
end Go.Proofs.Ytcedkmjdigpdiaa.Px

namespace Go.Proofs.Ytcedkmjdigpdiaa.Px
open Go.RowKit Go.Proofs.YtcedkmjdigpdiaaW.PrintWords Go.Proofs.YtcedkmjdigpdiaaW.PrintLast Go.Proofs.YtcedkmjdigpdiaaW.PrintMore
attribute [local go_sem] zz zB zG zH zr zs zA zC
set_option linter.unusedVariables false
set_option linter.unusedSimpArgs false
def vertex_Bytes.B5 : List Nat := [0, 1, 3, 0, 8, 24, 63, 0, 128, 511, 0, 1024, 3456, 8191, 0, 16384, 49152, 131071, 0, 262144, 786432, 2097151, 4194303, 8388607]
end Go.Proofs.Ytcedkmjdigpdiaa.Px

namespace Go.Proofs.Ytcedkmjdigpdiaa.Px
open Go.RowKit Go.Proofs.YtcedkmjdigpdiaaW.PrintWords Go.Proofs.YtcedkmjdigpdiaaW.PrintLast Go.Proofs.YtcedkmjdigpdiaaW.PrintMore
attribute [local go_sem] zz zB zG zH zr zs zA zC
set_option linter.unusedVariables false
set_option linter.unusedSimpArgs false
end Go.Proofs.Ytcedkmjdigpdiaa.Px

namespace Go.Proofs.Ytcedkmjdigpdiaa.Px
open Go.RowKit Go.Proofs.YtcedkmjdigpdiaaW.PrintWords Go.Proofs.YtcedkmjdigpdiaaW.PrintLast Go.Proofs.YtcedkmjdigpdiaaW.PrintMore
attribute [local go_sem] zz zB zG zH zr zs zA zC
set_option linter.unusedVariables false
set_option linter.unusedSimpArgs false
end Go.Proofs.Ytcedkmjdigpdiaa.Px

namespace Go.Proofs.Ytcedkmjdigpdiaa.Px
open Go.RowKit Go.Proofs.YtcedkmjdigpdiaaW.PrintWords Go.Proofs.YtcedkmjdigpdiaaW.PrintLast Go.Proofs.YtcedkmjdigpdiaaW.PrintMore
attribute [local go_sem] zz zB zG zH zr zs zA zC
set_option linter.unusedVariables false
set_option linter.unusedSimpArgs false
instance decBatch : DecidableEq S24 := fun a b => decidable_of_iff (a.f0 = b.f0 ∧ a.f1 = b.f1 ∧ a.f2 = b.f2) ⟨fun ⟨h0, h1, h2⟩ => by obtain ⟨a0, a1, a2⟩ := a; obtain ⟨b0, b1, b2⟩ := b; simp only at h0 h1 h2; rw [h0, h1, h2], fun h => by rw [h]; exact ⟨rfl, rfl, rfl⟩⟩
end Go.Proofs.Ytcedkmjdigpdiaa.Px

namespace Go.Proofs.Ytcedkmjdigpdiaa.Px
open Go.RowKit Go.Proofs.YtcedkmjdigpdiaaW.PrintWords Go.Proofs.YtcedkmjdigpdiaaW.PrintLast Go.Proofs.YtcedkmjdigpdiaaW.PrintMore
attribute [local go_sem] zz zB zG zH zr zs zA zC
set_option linter.unusedVariables false
set_option linter.unusedSimpArgs false
end Go.Proofs.Ytcedkmjdigpdiaa.Px

namespace Go.Proofs.Ytcedkmjdigpdiaa.Px
open Go.RowKit Go.Proofs.YtcedkmjdigpdiaaW.PrintWords Go.Proofs.YtcedkmjdigpdiaaW.PrintLast Go.Proofs.YtcedkmjdigpdiaaW.PrintMore
attribute [local go_sem] zz zB zG zH zr zs zA zC
set_option linter.unusedVariables false
set_option linter.unusedSimpArgs false
theorem zcY {x : Int} (h0 : 0 ≤ x) (h1 : x < 9223372036854775808) : Ev (fun k => zu.f k (IntKind.u64.wrap x)) (za0 x.toNat) := by
  obtain ⟨n, rfl⟩ := Int.eq_ofNat_of_zero_le h0
  rw [zaJ (by omega) (by omega), Int.toNat_natCast]
  exact zcl n (by omega)
def zd7 (o q : Int) (l : List ByteArray) : ByteArray × Int := if zbo o q l = true then (toB (zaU o q l), 0) else ((⟨#[]⟩ : ByteArray), 1)
theorem zbu (o q : Int) (l : List ByteArray) (hl : l.length < 4611686018427387904) : Ev (fun k => zp.f k o q l) (zd7 o q l) := by
  refine Ev.bind (zdp _ _ _ hl) ?_
  unfold zd7
  by_cases h : zbo o q l = true
  · rw [if_pos h]
    obtain ⟨h1, h2, h3, h4, h5, h6, h7⟩ := (zbK o q l).1 h
    have r1 := zc2 l 48 (by omega) (fun t ht => (h7 t ht).2)
    have r2 := zaA (v := l.length) (by omega)
    have r3 : (zbc l).length ≤ 300 := by rw [zbc, List.length_append]; omega
    have n1 := zaI (v := o.toNat) (by omega)
    have n2 := zaI (v := q.toNat) (by omega)
    have r4 : zM.f l = some (toB (zbc l)) := if_pos (by omega)
    refine zaf h (Ev.bind (zcY (by omega) (by omega)) (Ev.bind (zcY (by omega) (by omega)) (zaf (by omega) (zat r4 (zaf (by rw [ByteArray.size_append, zas]; omega) (zbG (Ev.now _) ?_))))))
    rw [zaU, zak, zak]; rfl
  · rw [if_neg h]; exact zaz h (Ev.now _)
end Go.Proofs.Ytcedkmjdigpdiaa.Px

namespace Go.Proofs.Ytcedkmjdigpdiaa.Px
open Go.RowKit Go.Proofs.YtcedkmjdigpdiaaW.PrintWords Go.Proofs.YtcedkmjdigpdiaaW.PrintLast Go.Proofs.YtcedkmjdigpdiaaW.PrintMore
attribute [local go_sem] zz zB zG zH zr zs zA zC
set_option linter.unusedVariables false
set_option linter.unusedSimpArgs false
theorem zcp {o q : Int} {l : List ByteArray} (h : zbo o q l = true) : (toB (zaU o q l)).size ≤ 400 := by
  obtain ⟨h1, h2, h3, h4, h5, h6, h7⟩ := (zbK _ _ _).1 h
  have r1 := zc2 l 48 (by omega) (fun t ht => (h7 t ht).2)
  have r2 := zaA (v := l.length) (by omega)
  have r4 := zaA (v := o.toNat) (by omega)
  have r5 := zaA (v := q.toNat) (by omega)
  rw [zas, zaU, List.length_append, List.length_append, zbc, List.length_append]; omega
theorem zeq {s : ByteArray} (h : s.size ≤ 10000) : zaY.f s = some (zdH s) := by rw [zaY.f, if_pos (by omega)]
theorem zeN {s : ByteArray} (h : s.size ≤ 10000) : zZ.f s = some (zdH s) := by rw [zZ.f, if_pos (by omega)]
def zdu (o q : Int) (l : List ByteArray) : ByteArray × Int := if zbo o q l = true then (zdH ((⟨#[98]⟩ : ByteArray) ++ toB (zaU o q l)), 0) else ((⟨#[]⟩ : ByteArray), 1)
theorem zdX (b : UInt8) (s : ByteArray) : ((⟨#[b]⟩ : ByteArray) ++ s).size = 1 + s.size := by rw [ByteArray.size_append]; rfl
theorem zcF (o q : Int) (l : List ByteArray) : zX.f o q l = some (zdu o q l) := by
  unfold zX.f zdu
  rw [zaM]
  simp only [Option.bind_some]
  by_cases h : zbo o q l = true
  · have hs := zcp h
    rw [if_pos h, if_pos h, if_pos rfl, if_pos (by show 1 + (toB (zaU o q l)).size ≤ _; omega)]
    show (zaY.f ((⟨#[98]⟩ : ByteArray) ++ toB (zaU o q l))).bind _ = _
    rw [zeq (by rw [zdX]; omega)]
    rfl
  · rw [if_neg h, if_neg h, if_neg (by simp)]
end Go.Proofs.Ytcedkmjdigpdiaa.Px

namespace Go.Proofs.Ytcedkmjdigpdiaa.Px
open Go.RowKit Go.Proofs.YtcedkmjdigpdiaaW.PrintWords Go.Proofs.YtcedkmjdigpdiaaW.PrintLast Go.Proofs.YtcedkmjdigpdiaaW.PrintMore
attribute [local go_sem] zz zB zG zH zr zs zA zC
set_option linter.unusedVariables false
set_option linter.unusedSimpArgs false
theorem zcf (o q : Int) (l : List ByteArray) (hl : l.length < 4611686018427387904) : Ev (fun k => zJ.f k o q l) (zdu o q l) := by
  unfold zJ.f
  refine Ev.bind (zbu o q l hl) ?_
  unfold zd7 zdu
  by_cases h : zbo o q l = true
  · have hs := zcp h
    rw [if_pos h, if_pos h]
    refine zaf rfl (zaf (by show 1 + (toB (zaU o q l)).size ≤ _; omega) ?_)
    refine zat (zeN (s := (⟨#[98]⟩ : ByteArray) ++ toB (zaU o q l)) (by rw [zdX]; omega)) ?_
    exact Ev.now _
  · rw [if_neg h, if_neg h]
    exact zaz (by simp) (Ev.now _)
end Go.Proofs.Ytcedkmjdigpdiaa.Px

namespace Go.Proofs.Ytcedkmjdigpdiaa.Pure
open Go.RowKit Go.Proofs.Ytcedkmjdigpdiaa.Px Go.Proofs.YtcedkmjdigpdiaaW.PrintWords Go.Proofs.YtcedkmjdigpdiaaW.PrintLast Go.Proofs.YtcedkmjdigpdiaaW.PrintMore
theorem BatchBytes : zaV := by
  rintro a0 _ ⟨_, _, k1, _⟩
  have hl : a0.f2.length < 4611686018427387904 := by
    have : a0.f2.length * 16 ≤ 140737488351232 := k1
    omega
  refine Ev.rounds (zat zer (zat (zaM _ _ _) (Ev.bind (zbu _ _ _ hl) (zat (zcF _ _ _) (Ev.bind (zcf _ _ _ hl) ?_)))))
  refine zaf rfl (zaf rfl (zaf rfl (zaf rfl (zaf rfl (zat (show zS.f a0.f0 a0.f1 a0.f2 = some (zbo a0.f0 a0.f1 a0.f2) from rfl) (Ev.bind (zdp _ _ _ hl) (zbG (Ev.now _) ?_)))))))
  simp
end Go.Proofs.Ytcedkmjdigpdiaa.Pure

namespace Go.Proofs.Ytcedkmjdigpdiaa.batchBytes
open Go.ChangeShapes Go.WideShapes Go.ChangeAt Go.RowKit
open Go.ChangeMaps (open_string shut_string)
open Go.RowKit Go.Proofs.Ytcedkmjdigpdiaa.Px Go.Proofs.YtcedkmjdigpdiaaW.PrintWords Go.Proofs.YtcedkmjdigpdiaaW.PrintLast Go.Proofs.YtcedkmjdigpdiaaW.PrintMore
set_option linter.unusedVariables false
theorem own : ownKnob Try.prog.godebug = none := by kernel_rfl
theorem laidOut : laidOutB Try.prog = true := by kernel_rfl
set_option maxRecDepth 100000 in
theorem contract (H : Type) (enc : TypeId × Value → H) (W : World) (base : Nat) (args : Array Value) (ds gs : List (DataW H)) (before : List MemPlace)
    (hval0 : ∀ (j : Nat) t v, Try.f3.params[j]? = some t → args[j]? = some v → Value.okWide Try.prog W .any base t v)
    (hW : DataW.Whole enc Try.prog Try.f3.params.toList Rows.batchBytesSpec.vars false W args.toList ds gs before)
    (hsz0 : (DataW.weightsEach Try.prog (Try.f3.params.toList ++ Rows.batchBytesSpec.plain.varTypes Try.prog) (ds ++ gs)).all (· ≤ reachBytes) = true) :
    Calls Try.prog 3 args W fun e W' => ∃ v, e = .returned v ∧ Rows.batchBytesSpec.post enc Try.prog Try.f3 false true false false W args v W' := by
  have hval : ∀ (j : Nat) t v, Try.f3.params[j]? = some t → args[j]? = some v → Value.okWide Try.prog W .any base t v := hval0
  have hW' := hW
  obtain ⟨p, q, hA0, hV, rfl, hfz, hnd⟩ := hW
  have hA : DataW.TrodAll enc Try.prog W 0 (fun _ => true) true Try.f3.params.toList args.toList ds p := hA0
  have hsz := hsz0
  rw [Try.params3] at hA hval hsz
  obtain ⟨v0, vs0, d0, ds0, p0, q0, hargs, rfl, rfl, h0, r0⟩ := trodAll_cons hA
  obtain ⟨rfl, rfl, rfl⟩ := trodAll_nil r0
  obtain rfl : args = #[v0] := by cases args; simp_all
  obtain ⟨rfl, rfl⟩ := trodVars_none hV
  have t0 := h0
  have lt0 : ∀ x ∈ p0, x.block < W.heap.size := by obtain ⟨m, hm⟩ := t0; exact DataW.trod_lt m _ _ _ hm
  obtain ⟨a0, K0, ok0, wt0, bk0⟩ := zfs zgb h0
  have wq0 := wt0 (fun n hn => of_decide_eq_true (List.all_eq_true.1 hsz n (DataW.weights_mem_each (j := 0) (t := zfy.t) (d := d0) rfl rfl n hn)))
  obtain ⟨cs0, rfl, sz0⟩ := okWide_struct Try.underlying24 (hval 0 24 v0 rfl rfl)
  obtain ⟨A0_2, c0_2, e0, l0_2, g0_2⟩ := zdT (show k24.K W a0 _ from K0)
  obtain rfl : cs0 = #[.int .i64 a0.f0, .int .i64 a0.f1, .slice A0_2 a0.f2.length c0_2] := by have := congrArg List.toArray e0; simpa [Value.cells] using this
  obtain ⟨kk, hkk⟩ := Pure.BatchBytes a0 ok0 wq0
  refine (zo.calls kk (a0.f0) (a0.f1) A0_2 c0_2 (a0.f2) true W g0_2 l0_2 hkk).mono fun e W' ⟨he, bel0⟩ => ?_
  have bel := bel0
  subst he
  exact ⟨_, rfl, _, _, _, [], _, [], hW', trodAll_mk1 (shut_bool Try.underlying4 _), (trodAll_cons_mk (Below.trod laidOut (by kernel_rfl) (of_decide_eq_true (by kernel_rfl)) t0 bel lt0) trodAll_mk0), rfl, bel.frame _, fun h => by cases h⟩
set_option maxRecDepth 100000 in
theorem lifted (os : Os) (started : os.Started) (H : Type) (enc : TypeId × Value → H) :
    ReturnsInHanded {} Try.checked os 3 .any (Rows.batchBytesSpec.pre6 enc Try.prog Try.f3 Rows.batchBytesRow.domain false) (Rows.batchBytesSpec.post enc Try.prog Try.f3 false true false false) := by
  refine returnsInHanded_of_change_sized (C := Try.checked) own started (by kernel_rfl) Try.func3
    (ChangeSpec.witness6 (enc := enc) (C := Try.checked) false ⟨#[], #[.agg #[.int .i64 0, .int .i64 0, .slice none 0 0]], []⟩ 8 (by kernel_rfl) (by kernel_rfl) (by kernel_rfl) (by kernel_rfl)) ?_
  intro W base args ds gs before hval hW _ hsz _
  exact contract H enc W base args ds gs before hval hW hsz
theorem proved : Rows.BatchBytesSaid :=
  OpenClaim.holds_of_wide 3 Try.f3 rfl rfl rfl rfl rfl rfl rfl ⟨rfl, rfl, rfl, rfl, rfl⟩ rfl rfl rfl rfl rfl (by kernel_rfl) Try.func3 (by kernel_rfl)
    (of_decide_eq_true (by kernel_rfl)) (by unfold Func.isWrapper; first | (rw [if_pos (by decide +kernel)]; kernel_rfl) | (rw [if_neg (by decide +kernel)]; exact ⟨rfl, rfl⟩))
    (fun os started H enc _ => lifted os started H enc)
#print axioms proved
end Go.Proofs.Ytcedkmjdigpdiaa.batchBytes
namespace Go.Proofs.Ytcedkmjdigpdiaa
theorem batchBytes_holds : Rows.BatchBytesSaid := batchBytes.proved
end Go.Proofs.Ytcedkmjdigpdiaa
