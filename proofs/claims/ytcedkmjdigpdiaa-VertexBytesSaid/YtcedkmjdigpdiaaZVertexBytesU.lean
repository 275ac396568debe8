/- Part 21 of 22 of the proof of the law VertexBytes: what is proved is the statement at the end of the last part; its conditions are those of the given row. -/
import Derived.Test.YtcedkmjdigpdiaaRows
import Derived.Deep.Slices
import Derived.ChangeArms
import Derived.SizedLaws
import Derived.WideOpen
import Derived.Test.YtcedkmjdigpdiaaZVertexBytesT
namespace Go.Proofs.Ytcedkmjdigpdiaa.Px
open Go.RowKit Go.Proofs.YtcedkmjdigpdiaaW.PrintWords Go.Proofs.YtcedkmjdigpdiaaW.PrintLast Go.Proofs.YtcedkmjdigpdiaaW.PrintMore
attribute [local go_sem] zK zM zQ zR zC zD zL zN
set_option linter.unusedVariables false
set_option linter.unusedSimpArgs false
structure Rd (α : Type) where
  t : TypeId
  d : Kd α
  ok : α → Prop
  wt : α → Prop
  bk : α → Nat
structure zdJ {α : Type} (P : Program) (r : Rd α) : Prop where
  out : ∀ {H : Type} {enc : TypeId × Value → H} {w : World} {fuel : Nat} {cs : List Value} {x : DataW H × List MemPlace}, DataW.trod enc P w 0 (fun _ => true) true fuel r.t cs = some x →
    ∃ a, r.d.K w a cs ∧ r.ok a ∧ ((∀ n ∈ x.1.weights P r.t, n ≤ reachBytes) → r.wt a) ∧ r.bk a ≤ Rows.uptoBulk x.1
def zaD (t : TypeId) (k : IntKind) : Rd Int := ⟨t, Kd.int k, fun a => (Lit.int k a).wf = true, fun _ => True, fun _ => 1⟩
def zhf (t : TypeId) : Rd Bool := ⟨t, Kd.bool, fun _ => True, fun _ => True, fun _ => 1⟩
def zan (t : TypeId) : Rd ByteArray := ⟨t, Kd.string, fun a => a.size ≤ maxLen, fun a => a.size ≤ reachBytes, fun a => a.size + 1⟩
def zai {α : Type} (t : TypeId) (B : Nat) (r : Rd α) : Rd (List α) :=
  ⟨t, Kd.slice r.t r.d, fun l => l.length ≤ maxLen ∧ ∀ a ∈ l, r.ok a, fun l => l.length * B ≤ reachBytes ∧ ∀ a ∈ l, r.wt a, fun l => (l.map r.bk).sum + 1⟩
section
variable {P : Program}
theorem zcf {t : TypeId} {k : IntKind} (h : P.underlying t = some (.int k)) : zdJ P (zaD t k) := by
  constructor
  intro H enc w fuel cs x hx
  obtain ⟨n, rfl, rfl, hw⟩ := DataW.trod_int h hx
  exact ⟨n, rfl, hw, fun _ => trivial, by simp [zaD, Rows.uptoBulk]⟩
theorem zdR {t : TypeId} (h : P.underlying t = some .string) : zdJ P (zan t) := by
  constructor
  intro H enc w fuel cs x hx
  obtain ⟨s, rfl, rfl, hs⟩ := DataW.trod_string h hx
  have e : s.data.toList.length = s.size := by rw [Array.length_toList]; rfl
  refine ⟨s, rfl, hs, fun hn => ?_, by simp only [zan, Rows.uptoBulk, e]; exact Nat.le_refl _⟩
  have := hn s.data.toList.length (by simp [DataW.weights])
  rwa [e] at this
theorem zeV {H α : Type} (f : Nat → DataW H) (g : Nat → α) (bk : α → Nat) (n : Nat) (h : ∀ i, i < n → bk (g i) ≤ Rows.uptoBulk (f i)) : (((List.range n).map g).map bk).sum ≤ Rows.uptoBulkAll ((List.range n).map f) := by
  suffices k : ∀ l : List Nat, (∀ i ∈ l, i < n) → ((l.map g).map bk).sum ≤ Rows.uptoBulkAll (l.map f) from k _ (fun i hi => List.mem_range.1 hi)
  intro l
  induction l with
  | nil => intro _; simp
  | cons i l ih =>
    intro hl
    have h1 := h i (hl i List.mem_cons_self)
    have h2 := ih (fun j hj => hl j (List.mem_cons_of_mem _ hj))
    simp only [List.map_cons, List.sum_cons, Rows.uptoBulkAll]
    omega
theorem zcB {H : Type} {e : TypeId} : ∀ {l : List (DataW H)} {d : DataW H} {n : Nat}, d ∈ l → n ∈ d.weights P e → n ∈ DataW.weightsAll P e l
  | x :: l, d, n, hd, hn => by
    simp only [DataW.weightsAll, List.mem_append]
    rcases List.mem_cons.1 hd with rfl | hd
    · exact .inl hn
    · exact .inr (zcB hd hn)
theorem zc8 {α : Type} [Inhabited α] {r : Rd α} (hr : zdJ P r) {t : TypeId} {B : Nat} (h : P.underlying t = some (.slice r.t)) (hc : P.cellsOf r.t = r.d.sz) (hB : P.bytesOf r.t = B) : zdJ P (zai t B r) := by
  constructor
  intro H enc w fuel cs x hx
  rcases Deep.open_slice h hx with ⟨rfl, rfl⟩ | ⟨a, len, cap, m, n, D, Pl, rfl, _, hl, hm, hmm, rfl, hel⟩
  · exact ⟨[], ⟨none, 0, rfl, Nat.le_refl _, Kd.C_nil _ _⟩, ⟨Nat.zero_le _, by simp⟩, fun _ => ⟨by simp, by simp⟩, by simp [zai, Rows.uptoBulk]⟩
  · simp only [if_true] at hmm
    subst hmm
    obtain ⟨f, hf⟩ := Deep.choose_lt (α := α) (n := len) (p := fun i v => ∃ c, w.cells? 0 (a.add (i * P.cellsOf r.t)) (P.cellsOf r.t) = some c ∧ r.d.K w v c ∧ r.ok v ∧ ((∀ q ∈ (D i).weights P r.t, q ≤ reachBytes) → r.wt v) ∧ r.bk v ≤ Rows.uptoBulk (D i)) (fun i hi => by
      obtain ⟨cs', h1, h2⟩ := hel i (by omega)
      obtain ⟨v, k1, k2, k3, k4⟩ := hr.out h2
      exact ⟨v, cs', h1, k1, k2, k3, k4⟩)
    have hlen : ((List.range len).map f).length = len := by simp
    refine ⟨(List.range len).map f, ⟨some a, m, by rw [hlen], by rw [hlen]; exact hl, ?_⟩, ⟨by rw [hlen]; omega, ?_⟩, fun hw => ⟨?_, ?_⟩, ?_⟩
    · rw [hlen]
      refine ⟨hlen, by unfold maxLen at hm; omega, fun _ => ⟨a, rfl, fun j p hj => ?_⟩⟩
      have hjl : j < len := by
        have := (List.getElem?_eq_some_iff.1 hj).1
        simpa using this
      obtain ⟨c, c1, c2, _⟩ := hf j hjl
      have hp : f j = p := by simpa [List.getElem?_map, List.getElem?_range hjl] using hj
      obtain ⟨_, l2, l3⟩ := World.cells?_some c1
      refine ⟨c, by rw [l2, hc], hp ▸ c2, fun i u hu => ?_⟩
      have hi : i < P.cellsOf r.t := by rw [← l2]; exact (List.getElem?_eq_some_iff.1 hu).1
      rw [← hc, ← Deep.add_add, l3 i hi]
      exact hu
    · intro v hv
      obtain ⟨i, hi, rfl⟩ := List.mem_map.1 hv
      obtain ⟨c, _, _, h3, _⟩ := hf i (List.mem_range.1 hi)
      exact h3
    · have := hw ((((List.range len).map D).length + ((List.range (m - len)).map fun j => D (len + j)).length) * P.bytesOf r.t) (by show _ ∈ DataW.weights P t _; simp only [DataW.weights, h]; exact List.mem_cons_self)
      rw [hlen]
      rw [hB] at this
      simp only [List.length_map, List.length_range] at this
      exact Nat.le_trans (Nat.mul_le_mul_right _ (by omega)) this
    · intro v hv
      obtain ⟨i, hi, rfl⟩ := List.mem_map.1 hv
      obtain ⟨c, _, _, _, h4, _⟩ := hf i (List.mem_range.1 hi)
      refine h4 (fun q hq => hw q ?_)
      show _ ∈ DataW.weights P t _
      simp only [DataW.weights, h]
      exact List.mem_cons_of_mem _ (List.mem_append_left _ (zcB (List.mem_map.2 ⟨i, hi, rfl⟩) hq))
    · simp only [zai, Rows.uptoBulk]
      have := zeV D f r.bk len (fun i hi => (hf i hi).choose_spec.2.2.2.2)
      omega
structure zcC {β : Type} (P : Program) (fs : List Field) (o : Nat) (d : Kd β) (ok wt : β → Prop) (bk : β → Nat) : Prop where
  out : ∀ {H : Type} {enc : TypeId × Value → H} {w : World} {n : Nat} {cs : List Value} {xs : List (DataW H × List MemPlace)}, xs.length = fs.length → cs.length = o + d.sz →
    (∀ (i : Nat) (f : Field), fs[i]? = some f → DataW.trod enc P w 0 (fun _ => true) true n f.type ((cs.drop f.offset).take (P.cellsOf f.type)) = xs[i]?) →
    ∃ b, d.K w b (cs.drop o) ∧ ok b ∧ ((∀ q ∈ DataW.weightsEach P (fs.map (·.type)) (xs.map (·.1)), q ≤ reachBytes) → wt b) ∧ bk b ≤ Rows.uptoBulkAll (xs.map (·.1))
theorem zcT {α : Type} {r : Rd α} (hr : zdJ P r) {f : Field} (ht : f.type = r.t) {o : Nat} (ho : f.offset = o) (hc : P.cellsOf r.t = r.d.sz) : zcC P [f] o r.d r.ok r.wt r.bk := by
  constructor
  intro H enc w n cs xs hl hcs hx
  match xs, hl with
  | [x], _ =>
    have h := hx 0 f rfl
    rw [ho, ht, hc, List.take_of_length_le (by rw [List.length_drop]; omega)] at h
    obtain ⟨a, h1, h2, h3, h4⟩ := hr.out h
    refine ⟨a, h1, h2, fun hq => h3 (fun q hm => hq q ?_), by simp [Rows.uptoBulkAll]; omega⟩
    simp only [List.map_cons, List.map_nil, DataW.weightsEach, List.mem_append, ht]
    exact .inl hm
theorem za8 {α β : Type} {r : Rd α} (hr : zdJ P r) {f : Field} (ht : f.type = r.t) {fs : List Field} {o o' : Nat} (ho : f.offset = o) (hc : P.cellsOf r.t = r.d.sz) (ho' : o' = o + r.d.sz) {d : Kd β} {ok wt : β → Prop} {bk : β → Nat} (hfs : zcC P fs o' d ok wt bk) :
    zcC P (f :: fs) o (Kd.pair r.d d) (fun x => r.ok x.1 ∧ ok x.2) (fun x => r.wt x.1 ∧ wt x.2) (fun x => r.bk x.1 + bk x.2) := by
  constructor
  intro H enc w n cs xs hl hcs hx
  match xs, hl with
  | x :: xs, hl =>
    have h := hx 0 f rfl
    have hcs' : cs.length = o + (r.d.sz + d.sz) := hcs
    rw [ho, ht, hc] at h
    obtain ⟨a, h1, h2, h3, h4⟩ := hr.out h
    obtain ⟨b, k1, k2, k3, k4⟩ := hfs.out (enc := enc) (w := w) (n := n) (cs := cs) (xs := xs) (by simpa using hl) (by omega) (fun i g hg => hx (i + 1) g hg)
    refine ⟨(a, b), ⟨(cs.drop o).take r.d.sz, cs.drop o', ?_, h1, k1⟩, ⟨h2, k2⟩, fun hq => ⟨h3 (fun q hm => hq q ?_), k3 (fun q hm => hq q ?_)⟩, ?_⟩
    · rw [ho', ← List.drop_drop, List.take_append_drop]
    · simp only [List.map_cons, DataW.weightsEach, List.mem_append, ht]
      exact .inl hm
    · simp only [List.map_cons, DataW.weightsEach, List.mem_append]
      exact .inr hm
    · simp only [List.map_cons, Rows.uptoBulkAll]; omega
def zc2 {α β : Type} (t : TypeId) (d : Kd β) (f : α → β) (ok wt : β → Prop) (bk : β → Nat) : Rd α := ⟨t, Kd.iso d f, fun a => ok (f a), fun a => wt (f a), fun a => bk (f a) + 1⟩
theorem zcU {α β : Type} {t : TypeId} {fs : List Field} {d : Kd β} {ok wt : β → Prop} {bk : β → Nat} (hfs : zcC P fs 0 d ok wt bk) (h : P.underlying t = some (.struct fs.toArray)) (hc : P.cellsOf t = d.sz) (f : α → β) (g : β → α) (hfg : ∀ b, f (g b) = b) : zdJ P (zc2 t d f ok wt bk) := by
  constructor
  intro H enc w fuel cs x hx
  obtain ⟨xs, n, rfl, rfl, hl, hn, hf⟩ := DataW.trod_struct h hx
  obtain ⟨b, k1, k2, k3, k4⟩ := hfs.out (enc := enc) (w := w) (n := n) (cs := cs) (xs := xs) (by simpa using hn) (by omega) (fun i g hg => hf i g (by simpa using hg))
  refine ⟨g b, ?_, ?_, fun hq => ?_, ?_⟩
  · show d.K w (f (g b)) cs
    rw [hfg]
    exact k1
  · show ok (f (g b))
    rw [hfg]
    exact k2
  · show wt (f (g b))
    rw [hfg]
    refine k3 (fun q hm => hq q ?_)
    show _ ∈ DataW.weights P t _
    simp only [DataW.weights, h]
    exact hm
  · show bk (f (g b)) + 1 ≤ _
    rw [hfg]
    simp only [Rows.uptoBulk]
    omega
end
theorem zfG {α H : Type} {P : Program} {r : Rd α} (hr : zdJ P r) {enc : TypeId × Value → H} {w : World} {v : Value} {d : DataW H} {ps : List MemPlace} (h : DataW.Trod enc P w 0 (fun _ => true) true r.t v d ps) :
    ∃ a, r.d.K w a v.cells.toList ∧ r.ok a ∧ ((∀ n ∈ d.weights P r.t, n ≤ reachBytes) → r.wt a) ∧ r.bk a ≤ Rows.uptoBulk d := by
  obtain ⟨fuel, hf⟩ := h
  exact hr.out hf
end Go.Proofs.Ytcedkmjdigpdiaa.Px

namespace Go.Proofs.Ytcedkmjdigpdiaa.Px
open Go.RowKit Go.Proofs.Ytcedkmjdigpdiaa.Px Go.Proofs.YtcedkmjdigpdiaaW.PrintWords Go.Proofs.YtcedkmjdigpdiaaW.PrintLast Go.Proofs.YtcedkmjdigpdiaaW.PrintMore
set_option linter.unusedVariables false
instance : Inhabited S24 := ⟨z24⟩
def zdW : Rd S24 := zc2 24 (Kd.pair (zaD 3 .i64).d (Kd.pair (zaD 3 .i64).d (zai 22 16 (zan 9)).d)) (fun x : S24 => (x.f0, x.f1, x.f2)) (fun y => (zaD 3 .i64).ok y.1 ∧ ((zaD 3 .i64).ok y.2.1 ∧ ((zai 22 16 (zan 9)).ok y.2.2))) (fun y => (zaD 3 .i64).wt y.1 ∧ ((zaD 3 .i64).wt y.2.1 ∧ ((zai 22 16 (zan 9)).wt y.2.2))) (fun y => (zaD 3 .i64).bk y.1 + ((zaD 3 .i64).bk y.2.1 + ((zai 22 16 (zan 9)).bk y.2.2)))
theorem zhy : zdJ Try.prog zdW :=
  zcU (za8 (o := 0) (o' := 1) (ok := fun (y : Int × (List ByteArray)) => (zaD 3 .i64).ok y.1 ∧ ((zai 22 16 (zan 9)).ok y.2)) (wt := fun (y : Int × (List ByteArray)) => (zaD 3 .i64).wt y.1 ∧ ((zai 22 16 (zan 9)).wt y.2)) (bk := fun (y : Int × (List ByteArray)) => (zaD 3 .i64).bk y.1 + ((zai 22 16 (zan 9)).bk y.2)) (zcf Try.underlying3) rfl rfl (by kernel_rfl) rfl (za8 (o := 1) (o' := 2) (ok := fun (y : (List ByteArray)) => (zai 22 16 (zan 9)).ok y) (wt := fun (y : (List ByteArray)) => (zai 22 16 (zan 9)).wt y) (bk := fun (y : (List ByteArray)) => (zai 22 16 (zan 9)).bk y) (zcf Try.underlying3) rfl rfl (by kernel_rfl) rfl (zcT (zc8 (zdR Try.underlying9) Try.underlying22 (by kernel_rfl) (by kernel_rfl)) rfl rfl (by kernel_rfl)))) Try.underlying24 (by kernel_rfl) (fun x : S24 => (x.f0, x.f1, x.f2)) (fun y => ⟨y.1, y.2.1, y.2.2⟩) (fun _ => rfl)
instance : Inhabited S35 := ⟨z35⟩
def zcy : Rd S35 := zc2 35 (Kd.pair (zaD 3 .i64).d (zaD 3 .i64).d) (fun x : S35 => (x.f0, x.f1)) (fun y => (zaD 3 .i64).ok y.1 ∧ ((zaD 3 .i64).ok y.2)) (fun y => (zaD 3 .i64).wt y.1 ∧ ((zaD 3 .i64).wt y.2)) (fun y => (zaD 3 .i64).bk y.1 + ((zaD 3 .i64).bk y.2))
theorem zhz : zdJ Try.prog zcy :=
  zcU (za8 (o := 0) (o' := 1) (ok := fun (y : Int) => (zaD 3 .i64).ok y) (wt := fun (y : Int) => (zaD 3 .i64).wt y) (bk := fun (y : Int) => (zaD 3 .i64).bk y) (zcf Try.underlying3) rfl rfl (by kernel_rfl) rfl (zcT (zcf Try.underlying3) rfl rfl (by kernel_rfl))) Try.underlying35 (by kernel_rfl) (fun x : S35 => (x.f0, x.f1)) (fun y => ⟨y.1, y.2⟩) (fun _ => rfl)
instance : Inhabited S37 := ⟨z37⟩
def zgQ : Rd S37 := zc2 37 (Kd.pair (zaD 3 .i64).d (Kd.pair (zaD 3 .i64).d (Kd.pair (zai 33 40 zdW).d (Kd.pair (zai 22 16 (zan 9)).d zcy.d)))) (fun x : S37 => (x.f0, x.f1, x.f2, x.f3, x.f4)) (fun y => (zaD 3 .i64).ok y.1 ∧ ((zaD 3 .i64).ok y.2.1 ∧ ((zai 33 40 zdW).ok y.2.2.1 ∧ ((zai 22 16 (zan 9)).ok y.2.2.2.1 ∧ (zcy.ok y.2.2.2.2))))) (fun y => (zaD 3 .i64).wt y.1 ∧ ((zaD 3 .i64).wt y.2.1 ∧ ((zai 33 40 zdW).wt y.2.2.1 ∧ ((zai 22 16 (zan 9)).wt y.2.2.2.1 ∧ (zcy.wt y.2.2.2.2))))) (fun y => (zaD 3 .i64).bk y.1 + ((zaD 3 .i64).bk y.2.1 + ((zai 33 40 zdW).bk y.2.2.1 + ((zai 22 16 (zan 9)).bk y.2.2.2.1 + (zcy.bk y.2.2.2.2)))))
theorem zhA : zdJ Try.prog zgQ :=
  zcU (za8 (o := 0) (o' := 1) (ok := fun (y : Int × (List S24) × (List ByteArray) × S35) => (zaD 3 .i64).ok y.1 ∧ ((zai 33 40 zdW).ok y.2.1 ∧ ((zai 22 16 (zan 9)).ok y.2.2.1 ∧ (zcy.ok y.2.2.2)))) (wt := fun (y : Int × (List S24) × (List ByteArray) × S35) => (zaD 3 .i64).wt y.1 ∧ ((zai 33 40 zdW).wt y.2.1 ∧ ((zai 22 16 (zan 9)).wt y.2.2.1 ∧ (zcy.wt y.2.2.2)))) (bk := fun (y : Int × (List S24) × (List ByteArray) × S35) => (zaD 3 .i64).bk y.1 + ((zai 33 40 zdW).bk y.2.1 + ((zai 22 16 (zan 9)).bk y.2.2.1 + (zcy.bk y.2.2.2)))) (zcf Try.underlying3) rfl rfl (by kernel_rfl) rfl (za8 (o := 1) (o' := 2) (ok := fun (y : (List S24) × (List ByteArray) × S35) => (zai 33 40 zdW).ok y.1 ∧ ((zai 22 16 (zan 9)).ok y.2.1 ∧ (zcy.ok y.2.2))) (wt := fun (y : (List S24) × (List ByteArray) × S35) => (zai 33 40 zdW).wt y.1 ∧ ((zai 22 16 (zan 9)).wt y.2.1 ∧ (zcy.wt y.2.2))) (bk := fun (y : (List S24) × (List ByteArray) × S35) => (zai 33 40 zdW).bk y.1 + ((zai 22 16 (zan 9)).bk y.2.1 + (zcy.bk y.2.2))) (zcf Try.underlying3) rfl rfl (by kernel_rfl) rfl (za8 (o := 2) (o' := 3) (ok := fun (y : (List ByteArray) × S35) => (zai 22 16 (zan 9)).ok y.1 ∧ (zcy.ok y.2)) (wt := fun (y : (List ByteArray) × S35) => (zai 22 16 (zan 9)).wt y.1 ∧ (zcy.wt y.2)) (bk := fun (y : (List ByteArray) × S35) => (zai 22 16 (zan 9)).bk y.1 + (zcy.bk y.2)) (zc8 zhy Try.underlying33 (by kernel_rfl) (by kernel_rfl)) rfl rfl (by kernel_rfl) rfl (za8 (o := 3) (o' := 4) (ok := fun (y : S35) => zcy.ok y) (wt := fun (y : S35) => zcy.wt y) (bk := fun (y : S35) => zcy.bk y) (zc8 (zdR Try.underlying9) Try.underlying22 (by kernel_rfl) (by kernel_rfl)) rfl rfl (by kernel_rfl) rfl (zcT zhz rfl rfl (by kernel_rfl)))))) Try.underlying37 (by kernel_rfl) (fun x : S37 => (x.f0, x.f1, x.f2, x.f3, x.f4)) (fun y => ⟨y.1, y.2.1, y.2.2.1, y.2.2.2.1, y.2.2.2.2⟩) (fun _ => rfl)
def zbv : Prop := ∀ (a0 : S37) (a1 : Int), zgQ.ok a0 → (zaD 3 .i64).ok a1 → zgQ.wt a0 → (zaD 3 .i64).wt a1 → ∃ k, zy.f k (a0.f0) (a0.f1) (a0.f2) (a0.f3) (a0.f4.f0) (a0.f4.f1) a1 = some true
end Go.Proofs.Ytcedkmjdigpdiaa.Px

namespace Go.Proofs.Ytcedkmjdigpdiaa.Px
open Go.RowKit Go.Proofs.YtcedkmjdigpdiaaW.PrintWords Go.Proofs.YtcedkmjdigpdiaaW.PrintLast Go.Proofs.YtcedkmjdigpdiaaW.PrintMore
attribute [local go_sem] zK zM zQ zR zC zD zL zN
set_option linter.unusedVariables false
set_option linter.unusedSimpArgs false
def zbc (a r : Int) (bs : List S24) (ps : List ByteArray) (x y : Int) : Bs :=
  zbp a.toNat ++ zbp r.toNat ++ za9 (bs.map bB) ++ za9 ps ++ zbp x.toNat ++ zbp y.toNat
theorem zcu (a r : Int) (bs : List S24) (ps : List ByteArray) (x y n : Int) : zaR a r bs ps x y n = true ↔ zct n = true ∧ 1 ≤ a ∧ a ≤ n ∧ 1 ≤ r ∧ r ≤ 1048576 ∧ bs.length ≤ 4 ∧ bs.any (zbS n) = false ∧ zdv x y = true ∧ (zb2 r = true ∨ x = 0 ∧ y = 0) ∧ zbq ps r n = true := by
  unfold zaR
  simp [and_assoc]
theorem zfe (l : List ByteArray) (d : Nat) : ∀ j, zaK l d j = true → ∀ i, j ≤ i → i < j + d → (l.getD i ByteArray.empty).size = 32 := by
  induction d with
  | zero => intro j _ i h1 h2; omega
  | succ d ih =>
    intro j h i h1 h2
    rw [zaK, Bool.and_eq_true] at h
    rcases Nat.lt_or_ge j i with h3 | h3
    · exact ih (j + 1) h.2 i (by omega) (by omega)
    · obtain rfl : i = j := by omega
      have := h.1
      rw [zef, Bool.and_eq_true] at this
      exact of_decide_eq_true this.1
theorem zbr {l : List ByteArray} {r n : Int} (hn : zct n = true) (h : zbq l r n = true) : l.length ≤ 64 ∧ ∀ t ∈ l, t.size = 32 := by
  unfold zbq at h
  split at h
  · have h0 := of_decide_eq_true h
    obtain rfl := List.eq_nil_of_length_eq_zero h0
    simp
  · obtain ⟨_, h2, _⟩ := (zb6 n).1 hn
    rw [Bool.and_eq_true, Bool.and_eq_true] at h
    have h3 := of_decide_eq_true h.2
    refine ⟨by omega, fun t ht => ?_⟩
    obtain ⟨i, hi, rfl⟩ := List.mem_iff_getElem.1 ht
    have := zfe l l.length 0 h.1.1 i (by omega) (by omega)
    rwa [List.getD_eq_getElem?_getD, List.getElem?_eq_getElem hi] at this
theorem zgF (b : S24) : (bB b).size ≤ 400 := by
  unfold bB
  split
  · rename_i h
    obtain ⟨h1, h2, h3, h4, h5, h6, h7⟩ := (zcs _ _ _).1 h
    have r1 := zcA b.f2 48 (by omega) (fun t ht => (h7 t ht).2)
    have r2 := zaB (v := b.f2.length) (by omega)
    have r4 := zaB (v := b.f0.toNat) (by omega)
    have r5 := zaB (v := b.f1.toNat) (by omega)
    rw [zal, zc6, List.length_append, List.length_append, za9, List.length_append]; omega
  · show 0 ≤ 400; omega
theorem zeO {bs : List S24} (h : bs.length ≤ 4) : (za9 (bs.map bB)).length ≤ 1700 := by
  have r1 := zcA (bs.map bB) 400 (by omega) (fun t ht => by obtain ⟨b, _, rfl⟩ := List.mem_map.1 ht; exact zgF b)
  rw [List.length_map] at r1
  have r2 := zaB (v := (bs.map bB).length) (by rw [List.length_map]; omega)
  rw [za9, List.length_append]; omega
theorem zeP {ps : List ByteArray} (h : ps.length ≤ 64 ∧ ∀ t ∈ ps, t.size = 32) : (za9 ps).length ≤ 2700 := by
  have r1 := zcA ps 32 (by omega) (fun t ht => by have := h.2 t ht; omega)
  have r2 := zaB (v := ps.length) (by have := h.1; omega)
  rw [za9, List.length_append]; have := h.1; omega
theorem zgE {n : Int} {bs : List S24} (h : bs.any (zbS n) = false) : ∀ b ∈ bs, zcr b.f0 b.f1 b.f2 = true ∧ b.f0 ≤ n := by
  intro b hb
  rw [List.any_eq_false] at h
  have := h b hb
  rw [zbS] at this
  simp at this
  exact ⟨this.1, by omega⟩
theorem zgS (a b c d : ByteArray) : zz ByteArray.empty [a, b, c, d] 0 = a ∧ zz ByteArray.empty [a, b, c, d] 1 = b ∧ zz ByteArray.empty [a, b, c, d] 2 = c ∧ zz ByteArray.empty [a, b, c, d] 3 = d := ⟨rfl, rfl, rfl, rfl⟩
theorem zbH (a r : Int) (bs : List S24) (ps : List ByteArray) (x y n : Int) :
    zO.f a r bs ps x y n = some (if zaR a r bs ps x y n = true then (toB (zbc a r bs ps x y), 0) else ((⟨#[]⟩ : ByteArray), 1)) := by
  unfold zO.f
  rw [show zX.f a r bs ps x y n = some (zaR a r bs ps x y n) from rfl]
  simp only [Option.bind_some]
  by_cases h : zaR a r bs ps x y n = true
  · rw [if_pos h, if_pos h]
    obtain ⟨h0, h1, h2, h3, h4, h5, h6, h7, h8, h9⟩ := (zcu ..).1 h
    obtain ⟨k1, k2, k3⟩ := (zb6 n).1 h0
    obtain ⟨x1, x2, y1, y2⟩ := (zdU x y).1 h7
    have e1 : zao.f bs = some (bs.map bB) := if_pos h5
    have e2 : zah.f [a, r, x, y] = some [zaN a.toNat, zaN r.toNat, zaN x.toNat, zaN y.toNat] := by
      rw [zah.f, if_pos]
      · rfl
      · refine ⟨Nat.le_refl 4, fun k hk => ?_⟩
        simp only [List.mem_cons, List.not_mem_nil, or_false] at hk
        rcases hk with rfl | rfl | rfl | rfl <;> omega
    have s0 := zaF (v := a.toNat) (by omega)
    have s1 := zaF (v := r.toNat) (by omega)
    have s2 := zaF (v := x.toNat) (by omega)
    have s3 := zaF (v := y.toNat) (by omega)
    have r1 := zeO h5
    have r2 := zeP (zbr h0 h9)
    have d1 : zV.f (bs.map bB) = some (toB (za9 (bs.map bB))) := if_pos (by omega)
    have d2 : zV.f ps = some (toB (za9 ps)) := if_pos (by omega)
    rw [e1, e2]
    simp only [Option.bind_some, d1, d2]
    obtain ⟨q0, q1, q2, q3⟩ := zgS (zaN a.toNat) (zaN r.toNat) (zaN x.toNat) (zaN y.toNat)
    rw [q0, q1, q2, q3]
    simp only [ByteArray.size_append, zal]
    rw [if_pos (by simp), if_pos (by simp), if_pos (by omega), if_pos (by omega), if_pos (by omega), if_pos (by simp), if_pos (by omega), if_pos (by simp), if_pos (by omega)]
    simp only [zbc, zaN, zaI]
  · rw [if_neg h, if_neg h]
theorem zfB : z9.f = some true := by
  unfold z9.f
  rw [zbH, if_pos (by decide)]
  simp only [Option.bind_some]
  have w3 : zam.f 3 = some 1 := by unfold zam.f wrap64; decide
  have w4 : zam.f 4 = some 2 := by unfold zam.f wrap64; decide
  rw [if_pos]
  · rw [if_pos trivial, w3, w4, za1]
    rfl
  · rw [zbR, zbM, zbc]
    have e0 : za9 [] = [0] := by rw [za9, zaP, List.flatMap_nil, List.append_nil]; show zbp 0 = _; rw [zbp, zbT]; rfl
    show zbp 1 ++ zbp 1 ++ za9 [] ++ za9 [] ++ zbp 0 ++ zbp 0 = _
    rw [e0, zbp, zbp, zhI, zbT]
    rfl
instance decBatch : DecidableEq S24 := fun a b => decidable_of_iff (a.f0 = b.f0 ∧ a.f1 = b.f1 ∧ a.f2 = b.f2) ⟨fun ⟨h0, h1, h2⟩ => by obtain ⟨a0, a1, a2⟩ := a; obtain ⟨b0, b1, b2⟩ := b; simp only at h0 h1 h2; rw [h0, h1, h2], fun h => by rw [h]; exact ⟨rfl, rfl, rfl⟩⟩
theorem zdo (l : List S24) (j : Nat) (h : j < l.length) : z4 l (j : Int) = l[j] := by
  rw [z4, Int.toNat_natCast, List.getD_eq_getElem?_getD, List.getElem?_eq_getElem h]; rfl
theorem zfk {a r : Int} {bs : List S24} {ps : List ByteArray} {x y n : Int} (h : zaR a r bs ps x y n = true) : bs.length < 4611686018427387904 ∧ (∀ b ∈ bs, b.f2.length < 4611686018427387904) ∧ ps.length < 4611686018427387904 := by
  obtain ⟨h0, _, _, _, _, h5, h6, _, _, h9⟩ := (zcu ..).1 h
  refine ⟨by omega, fun b hb => ?_, by have := (zbr h0 h9).1; omega⟩
  obtain ⟨_, _, _, _, _, k, _⟩ := (zcs _ _ _).1 (zgE h6 b hb).1
  omega
end Go.Proofs.Ytcedkmjdigpdiaa.Px

namespace Go.Proofs.Ytcedkmjdigpdiaa.Px
open Go.RowKit Go.Proofs.YtcedkmjdigpdiaaW.PrintWords Go.Proofs.YtcedkmjdigpdiaaW.PrintLast Go.Proofs.YtcedkmjdigpdiaaW.PrintMore
attribute [local go_sem] zK zM zQ zR zC zD zL zN
set_option linter.unusedVariables false
set_option linter.unusedSimpArgs false
end Go.Proofs.Ytcedkmjdigpdiaa.Px

namespace Go.Proofs.Ytcedkmjdigpdiaa.Px
open Go.RowKit Go.Proofs.YtcedkmjdigpdiaaW.PrintWords Go.Proofs.YtcedkmjdigpdiaaW.PrintLast Go.Proofs.YtcedkmjdigpdiaaW.PrintMore
attribute [local go_sem] zK zM zQ zR zC zD zL zN
set_option linter.unusedVariables false
set_option linter.unusedSimpArgs false
end Go.Proofs.Ytcedkmjdigpdiaa.Px

namespace Go.Proofs.Ytcedkmjdigpdiaa.Px
open Go.RowKit Go.Proofs.YtcedkmjdigpdiaaW.PrintWords Go.Proofs.YtcedkmjdigpdiaaW.PrintLast Go.Proofs.YtcedkmjdigpdiaaW.PrintMore
attribute [local go_sem] zK zM zQ zR zC zD zL zN
set_option linter.unusedVariables false
set_option linter.unusedSimpArgs false
end Go.Proofs.Ytcedkmjdigpdiaa.Px

namespace Go.Proofs.Ytcedkmjdigpdiaa.Px
open Go.RowKit Go.Proofs.YtcedkmjdigpdiaaW.PrintWords Go.Proofs.YtcedkmjdigpdiaaW.PrintLast Go.Proofs.YtcedkmjdigpdiaaW.PrintMore
attribute [local go_sem] zK zM zQ zR zC zD zL zN
set_option linter.unusedVariables false
set_option linter.unusedSimpArgs false
theorem ze8 (o q : Int) (l : List ByteArray) (hl : l.length < 4611686018427387904) (d : Nat) : ∀ j, j + d = l.length →
    Ev (fun k => zt.l0 k (j : Int) o q l) (!(l.drop j).any zbx) := by
  induction d with
  | zero =>
    intro j hj
    refine Ev.step (fun k => by rw [zt.l0]) ?_
    refine zad (by omega) (zaw (Ev.now _) ?_)
    rw [List.drop_eq_nil_of_le (by omega)]; rfl
  | succ d ih =>
    intro j hj
    have hjl : j < l.length := by omega
    refine Ev.step (fun k => by rw [zt.l0]) ?_
    refine zT (by omega) (zT (by omega) ?_)
    rw [zgR l j hjl, List.drop_eq_getElem_cons hjl, zas (by omega) (by omega), List.any_cons]
    by_cases h1 : (l[j].size : Int) < 1
    · refine zT h1 (zaw (Ev.now _) ?_)
      have : l[j].size = 0 := by omega
      simp [zbx, this]
    · refine zad h1 ?_
      by_cases h2 : (l[j].size : Int) > 48
      · refine zT h2 (zaw (Ev.now _) ?_)
        have : 48 < l[j].size := by omega
        simp [zbx, this]
      · refine zad h2 (zaw (ih (j + 1) (by omega)) ?_)
        have e1 : zbx l[j] = false := by
          have : ¬ l[j].size = 0 := by omega
          have h3 : ¬ 48 < l[j].size := by omega
          simp [zbx, this, h3]
        rw [e1, Bool.false_or]
theorem zet (o q : Int) (l : List ByteArray) (hl : l.length < 4611686018427387904) : Ev (fun k => zt.f k o q l) (zcr o q l) := by
  have key : ∀ b : Bool, (b = true ↔ ¬ (1 ≤ o ∧ o ≤ 64 ∧ 1 ≤ q ∧ q ≤ 1073741824 ∧ 1 ≤ l.length ∧ l.length ≤ 4)) → Ev (fun k => zt.j0 k b o q l) (zcr o q l) := by
    intro b hb
    refine Ev.step (fun k => by rw [zt.j0]) ?_
    by_cases h : 1 ≤ o ∧ o ≤ 64 ∧ 1 ≤ q ∧ q ≤ 1073741824 ∧ 1 ≤ l.length ∧ l.length ≤ 4
    · refine zad (fun hh => hb.1 hh h) (zaw (ze8 o q l hl l.length 0 (by omega)) ?_)
      obtain ⟨h1, h2, h3, h4, h5, h6⟩ := h
      simp [zcr, h1, h2, h3, h4, h5, h6]
    · refine zT (hb.2 h) (zaw (Ev.now _) ?_)
      symm
      rw [← Bool.not_eq_true, zcs]
      exact fun ⟨h1, h2, h3, h4, h5, h6, _⟩ => h ⟨h1, h2, h3, h4, h5, h6⟩
  by_cases h1 : o < 1
  · exact zT h1 (key true (by simp; omega))
  refine zad h1 ?_
  by_cases h2 : o > 64
  · exact zT h2 (key true (by simp; omega))
  refine zad h2 ?_
  by_cases h3 : q < 1
  · exact zT h3 (key true (by simp; omega))
  refine zad h3 ?_
  by_cases h4 : q > 1073741824
  · exact zT h4 (key true (by simp; omega))
  refine zad h4 ?_
  by_cases h5 : (l.length : Int) < 1
  · exact zT h5 (key true (by simp; omega))
  exact zad h5 (key _ (by simp; omega))
end Go.Proofs.Ytcedkmjdigpdiaa.Px

namespace Go.Proofs.Ytcedkmjdigpdiaa.Px
open Go.RowKit Go.Proofs.YtcedkmjdigpdiaaW.PrintWords Go.Proofs.YtcedkmjdigpdiaaW.PrintLast Go.Proofs.YtcedkmjdigpdiaaW.PrintMore
attribute [local go_sem] zK zM zQ zR zC zD zL zN
set_option linter.unusedVariables false
set_option linter.unusedSimpArgs false
theorem zc3 (n : Int) : zab.f n = some (zct n) := by
  unfold zab.f zct
  by_cases h4 : n = 4
  · subst h4; rfl
  · rw [if_neg h4]
    by_cases h : n > 4
    · rw [if_pos h]
      by_cases h1 : n ≤ 64
      · rw [if_pos h1, zas (by omega) (by omega), Int.tmod_eq_emod_of_nonneg (by omega)]
        by_cases h2 : n % 3 = 1
        · have : (n - 1) % 3 = 0 := by omega
          simp [h1, h2, this]; omega
        · have : ¬ (n - 1) % 3 = 0 := by omega
          simp [h2, this]
      · rw [if_neg h1]; simp [h1]
    · rw [if_neg h]
      have : ¬ 4 ≤ n := by omega
      simp [this]
theorem zdx (n : Int) : z8.f n = some (za6 n) := by
  unfold z8.f za6
  rw [zc3]
  simp only [Option.bind_some]
  by_cases h : zct n = true
  · rw [if_pos h, if_pos h]
    obtain ⟨h1, h2, h3⟩ := (zb6 n).1 h
    rw [zas (x := n - 1) (by omega) (by omega), Int.tdiv_eq_ediv_of_nonneg (by omega), zas (x := (n - 1) / 3) (by omega) (by omega), zas (by omega) (by omega)]
  · rw [if_neg h, if_neg h]
theorem zeL (a b : Int) : zW.f a b = some (zdv a b) := by
  unfold zW.f zdv
  by_cases h1 : 0 ≤ a <;> by_cases h2 : a < 10007 <;> by_cases h3 : 0 ≤ b <;> simp [h1, h2, h3]
theorem zd0 (r : Int) : zS.f r = some (zb2 r) := by
  unfold zS.f zb2
  by_cases h : r > 0
  · rw [if_pos h, Int.tmod_eq_emod_of_nonneg (by omega)]
    by_cases h2 : r % 3 = 0
    · have : 3 ≤ r := by omega
      simp [h2, this]
    · simp [h2]
  · rw [if_neg h]
    have : ¬ 3 ≤ r := by omega
    simp [this]
def zdg (r x y : Int) : Bool := zdv x y && (zb2 r || (decide (x = 0) && decide (y = 0)))
theorem zfx (a r : Int) (bs : List S24) (ps : List ByteArray) (x y : Int) (hl : ps.length < 4611686018427387904) (hp : ∀ t ∈ ps, t.size < 4611686018427387904) (d : Nat) : ∀ j, j + d = ps.length →
    Ev (fun k => zg.l1 k (j : Int) a r bs ps x y) (zaK ps d j && zdg r x y) := by
  induction d with
  | zero =>
    intro j hj
    refine Ev.step (fun k => by rw [zg.l1]) ?_
    refine zad (by omega) (zap (zeL x y) (zap (zd0 r) ?_))
    unfold zdg
    by_cases h1 : zdv x y = true
    · refine zT h1 ?_
      by_cases h2 : zb2 r = true
      · exact zT h2 (zaw (Ev.now _) (by simp [zaK, h1, h2]))
      · refine zad h2 ?_
        by_cases h3 : x = 0
        · refine zT h3 (zaw (Ev.now _) ?_)
          rw [Bool.not_eq_true] at h2
          subst h3
          by_cases h4 : y = 0
          · subst h4; simp [zaK, h1, h2]
          · simp [zaK, h1, h2, h4]
        · rw [Bool.not_eq_true] at h2
          exact zad h3 (zaw (Ev.now _) (by simp [zaK, h2, h3]))
    · rw [Bool.not_eq_true] at h1
      exact zad (by rw [h1]; simp) (zaw (Ev.now _) (by simp [zaK, h1]))
  | succ d ih =>
    intro j hj
    have hj' : j < ps.length := by omega
    refine Ev.step (fun k => by rw [zg.l1]) ?_
    refine zT (by omega) (zT (by omega) ?_)
    have e1 : zz ByteArray.empty ps (j : Int) = ps.getD j ByteArray.empty := by rw [zz, Int.toNat_natCast]
    rw [e1]
    by_cases h : (ps.getD j ByteArray.empty).size = 32
    · refine zT (by omega) ?_
      rw [zas (x := (j : Int) + 1) (by omega) (by omega)]
      by_cases h0 : j = 0
      · subst h0
        refine zad (by omega) (zaw (ih 1 (by omega)) ?_)
        simp only [zaK, zef, h]; simp
      · refine zT (by omega) ?_
        have e2 : wrap64 ((j : Int) - 1) = ((j - 1 : Nat) : Int) := by rw [zas (by omega) (by omega)]; omega
        rw [e2]
        refine zT (by omega) (zT (by omega) ?_)
        have e3 : zz ByteArray.empty ps ((j - 1 : Nat) : Int) = ps.getD (j - 1) ByteArray.empty := by rw [zz, Int.toNat_natCast]
        rw [e3]
        have hsz : (ps.getD (j - 1) ByteArray.empty).size < 4611686018427387904 := by
          rw [List.getD_eq_getElem?_getD, List.getElem?_eq_getElem (show j - 1 < ps.length by omega)]
          exact hp _ (List.getElem_mem _)
        refine Ev.bind (zgM _ _ hsz) ?_
        by_cases h2 : zcq (ofB (ps.getD (j - 1) ByteArray.empty)) (ofB (ps.getD j ByteArray.empty)) = true
        · refine zT h2 (zaw (ih (j + 1) (by omega)) ?_)
          simp only [zaK, zef, h, h2]; simp
        · refine zad h2 (zaw (Ev.now _) ?_)
          rw [Bool.not_eq_true] at h2
          simp only [zaK, zef, h, h0, h2]; simp
    · refine zad (by omega) (zaw (Ev.now _) ?_)
      simp only [zaK, zef, h]; simp
def zdG (r : Int) (ps : List ByteArray) (x y n : Int) : Bool :=
  !(decide (r = 1) && decide (0 < ps.length)) && !(decide (1 < r) && (decide ((ps.length : Int) < za6 n) || decide (n < ps.length))) && (zaK ps ps.length 0 && zdg r x y)
theorem zfw (a r : Int) (bs : List S24) (ps : List ByteArray) (x y n : Int) (hb : bs.length < 4611686018427387904) (hbs : ∀ b ∈ bs, b.f2.length < 4611686018427387904) (hl : ps.length < 4611686018427387904) (hp : ∀ t ∈ ps, t.size < 4611686018427387904) (d : Nat) : ∀ j, j + d = bs.length →
    Ev (fun k => zg.l0 k n (j : Int) a r bs ps x y) (!(bs.drop j).any (zbS n) && zdG r ps x y n) := by
  induction d with
  | zero =>
    intro j hj
    refine Ev.step (fun k => by rw [zg.l0]) ?_
    rw [List.drop_eq_nil_of_le (by omega)]
    refine zad (by omega) ?_
    have J3 : ∀ b : Bool, Ev (fun k => zg.j3 k b a r bs ps x y) (!b && (zaK ps ps.length 0 && zdg r x y)) := by
      intro b
      refine Ev.step (fun k => by rw [zg.j3]) ?_
      rcases b with _ | _
      · exact zad (by simp) (zaw (zfx a r bs ps x y hl hp ps.length 0 (by omega)) (by simp))
      · exact zT rfl (zaw (Ev.now _) (by simp))
    have J2 : ∀ b : Bool, Ev (fun k => zg.j2 k n b a r bs ps x y) (!b && (!(decide (1 < r) && (decide ((ps.length : Int) < za6 n) || decide (n < ps.length))) && (zaK ps ps.length 0 && zdg r x y))) := by
      intro b
      refine Ev.step (fun k => by rw [zg.j2]) ?_
      rcases b with _ | _
      · refine zad (by simp) ?_
        by_cases h : r > 1
        · have h' : 1 < r := h
          refine zT h (zap (zdx n) ?_)
          by_cases h2 : (ps.length : Int) < za6 n
          · exact zT h2 (zaw (J3 true) (by simp [h', h2]))
          · exact zad h2 (zaw (J3 _) (by simp [h', h2]))
        · have h' : ¬ 1 < r := h
          exact zad h (zaw (J3 false) (by simp [h']))
      · exact zT rfl (zaw (Ev.now _) (by simp))
    unfold zdG
    by_cases h : r = 1
    · refine zT h (zaw (J2 _) ?_)
      subst h
      by_cases h0 : 0 < ps.length
      · have : decide ((ps.length : Int) > 0) = true := decide_eq_true (by omega)
        simp [this, h0]
      · have : decide ((ps.length : Int) > 0) = false := decide_eq_false (by omega)
        simp [this, h0]
    · exact zad h (zaw (J2 false) (by simp [h]))
  | succ d ih =>
    intro j hj
    have hj' : j < bs.length := by omega
    refine Ev.step (fun k => by rw [zg.l0]) ?_
    refine zT (by omega) (zT (by omega) ?_)
    rw [zdo bs j hj', zas (by omega) (by omega), List.drop_eq_getElem_cons hj', List.any_cons]
    refine Ev.bind (zet _ _ _ (hbs _ (List.getElem_mem hj'))) ?_
    by_cases h : zcr bs[j].f0 bs[j].f1 bs[j].f2 = true
    · refine zT h ?_
      by_cases h2 : bs[j].f0 > n
      · have h3 : n < bs[j].f0 := h2
        exact zT h2 (zaw (Ev.now _) (by simp [zbS, h3]))
      · have h3 : ¬ n < bs[j].f0 := h2
        refine zad h2 (zaw (ih (j + 1) (by omega)) ?_)
        have : zbS n bs[j] = false := by simp [zbS, h, h3]
        rw [this, Bool.false_or]
    · refine zad h (zaw (Ev.now _) ?_)
      rw [Bool.not_eq_true] at h
      simp [zbS, h]
theorem zgk (a r : Int) (bs : List S24) (ps : List ByteArray) (x y n : Int) (h0 : zct n = true) (h1 : 1 ≤ a) (h2 : a ≤ n) (h3 : 1 ≤ r) (h4 : r ≤ 1048576) (h5 : bs.length ≤ 4) :
    zaR a r bs ps x y n = (!bs.any (zbS n) && zdG r ps x y n) := by
  unfold zaR zdG zbq zdg
  simp only [h0, h1, h2, h3, h4, h5]
  by_cases e : r = 1
  · subst e
    rcases ps with _ | ⟨p, ps⟩
    · simp [zaK, Bool.and_assoc]
    · simp
  · have h6 : 1 < r := by omega
    simp only [if_neg e, e, h6]
    have q1 : decide ((ps.length : Int) < za6 n) = !decide (za6 n ≤ (ps.length : Int)) := by
      by_cases q : za6 n ≤ (ps.length : Int) <;> simp [q] <;> omega
    have q2 : decide (n < (ps.length : Int)) = !decide ((ps.length : Int) ≤ n) := by
      by_cases q : (ps.length : Int) ≤ n <;> simp [q] <;> omega
    rw [q1, q2]
    cases bs.any (zbS n) <;> cases zdv x y <;> cases zb2 r <;> cases zaK ps ps.length 0 <;> cases decide (za6 n ≤ (ps.length : Int)) <;> cases decide ((ps.length : Int) ≤ n) <;> simp
theorem zd2 (a r : Int) (bs : List S24) (ps : List ByteArray) (x y n : Int) (hb : bs.length < 4611686018427387904) (hbs : ∀ b ∈ bs, b.f2.length < 4611686018427387904) (hl : ps.length < 4611686018427387904) (hp : ∀ t ∈ ps, t.size < 4611686018427387904) :
    Ev (fun k => zg.f k a r bs ps x y n) (zaR a r bs ps x y n) := by
  have key : ∀ b : Bool, (b = true ↔ ¬ (zct n = true ∧ 1 ≤ a ∧ a ≤ n ∧ 1 ≤ r ∧ r ≤ 1048576 ∧ bs.length ≤ 4)) → Ev (fun k => zg.j0 k n b a r bs ps x y) (zaR a r bs ps x y n) := by
    intro b hb'
    refine Ev.step (fun k => by rw [zg.j0]) ?_
    by_cases h : zct n = true ∧ 1 ≤ a ∧ a ≤ n ∧ 1 ≤ r ∧ r ≤ 1048576 ∧ bs.length ≤ 4
    · refine zad (fun hh => hb'.1 hh h) (zaw (zfw a r bs ps x y n hb hbs hl hp bs.length 0 (by omega)) ?_)
      obtain ⟨h0, h1, h2, h3, h4, h5⟩ := h
      rw [zgk a r bs ps x y n h0 h1 h2 h3 h4 h5, List.drop_zero]
    · refine zT (hb'.2 h) (zaw (Ev.now _) ?_)
      symm
      rw [← Bool.not_eq_true, zcu]
      exact fun ⟨h0, h1, h2, h3, h4, h5, _⟩ => h ⟨h0, h1, h2, h3, h4, h5⟩
  refine zap (zc3 n) ?_
  by_cases h0 : zct n = true
  · refine zT h0 ?_
    by_cases h1 : a < 1
    · exact zT h1 (key true (by simp; omega))
    refine zad h1 ?_
    by_cases h2 : a > n
    · exact zT h2 (key true (by simp; omega))
    refine zad h2 ?_
    by_cases h3 : r < 1
    · exact zT h3 (key true (by simp; omega))
    refine zad h3 ?_
    by_cases h4 : r > 1048576
    · exact zT h4 (key true (by simp; omega))
    exact zad h4 (key _ (by simp [h0]; omega))
  · exact zad h0 (key true (by simp [h0]))
end Go.Proofs.Ytcedkmjdigpdiaa.Px

namespace Go.Proofs.Ytcedkmjdigpdiaa.Px
open Go.RowKit Go.Proofs.YtcedkmjdigpdiaaW.PrintWords Go.Proofs.YtcedkmjdigpdiaaW.PrintLast Go.Proofs.YtcedkmjdigpdiaaW.PrintMore
attribute [local go_sem] zK zM zQ zR zC zD zL zN
set_option linter.unusedVariables false
set_option linter.unusedSimpArgs false
theorem zby {x : Int} (h0 : 0 ≤ x) (h1 : x < 9223372036854775808) : Ev (fun k => zr.f k (IntKind.u64.wrap x)) (zaN x.toNat) := by
  obtain ⟨n, rfl⟩ := Int.eq_ofNat_of_zero_le h0
  rw [zba (by omega) (by omega), Int.toNat_natCast]
  exact zdd n (by omega)
def zey (o q : Int) (l : List ByteArray) : ByteArray × Int := if zcr o q l = true then (toB (zc6 o q l), 0) else ((⟨#[]⟩ : ByteArray), 1)
theorem zdc (o q : Int) (l : List ByteArray) (hl : l.length < 4611686018427387904) : Ev (fun k => zY.f k o q l) (zey o q l) := by
  refine Ev.bind (zet _ _ _ hl) ?_
  unfold zey
  by_cases h : zcr o q l = true
  · rw [if_pos h]
    obtain ⟨h1, h2, h3, h4, h5, h6, h7⟩ := (zcs o q l).1 h
    have r1 := zcA l 48 (by omega) (fun t ht => (h7 t ht).2)
    have r2 := zaB (v := l.length) (by omega)
    have r3 : (za9 l).length ≤ 300 := by rw [za9, List.length_append]; omega
    have n1 := zaF (v := o.toNat) (by omega)
    have n2 := zaF (v := q.toNat) (by omega)
    have r4 : zI.f l = some (toB (za9 l)) := if_pos (by omega)
    refine zT h (Ev.bind (zby (by omega) (by omega)) (Ev.bind (zby (by omega) (by omega)) (zT (by omega) (zap r4 (zT (by rw [ByteArray.size_append, zal]; omega) (zaw (Ev.now _) ?_))))))
    rw [zc6, zaI, zaI]; rfl
  · rw [if_neg h]; exact zad h (Ev.now _)
theorem zfh (b : S24) : (zey b.f0 b.f1 b.f2).1 = bB b := by
  unfold zey bB; split <;> rfl
def zeU (a r : Int) (bs : List S24) (ps : List ByteArray) (x y n : Int) : ByteArray × Int := if zaR a r bs ps x y n = true then (toB (zbc a r bs ps x y), 0) else ((⟨#[]⟩ : ByteArray), 1)
theorem zeM {a r : Int} {bs : List S24} {ps : List ByteArray} {x y n : Int} (h : zaR a r bs ps x y n = true) (d : Nat) : ∀ j, j + d = bs.length →
    Ev (fun k => zn.l0 k ((bs.take j).map bB) (j : Int) a r bs ps x y) (toB (zbc a r bs ps x y), 0) := by
  obtain ⟨h0, h1, h2, h3, h4, h5, h6, h7, h8, h9⟩ := (zcu ..).1 h
  obtain ⟨k1, k2, k3⟩ := (zb6 n).1 h0
  obtain ⟨x1, x2, y1, y2⟩ := (zdU x y).1 h7
  induction d with
  | zero =>
    intro j hj
    refine Ev.step (fun k => by rw [zn.l0]) ?_
    rw [List.take_of_length_le (by omega)]
    have s0 := zaF (v := a.toNat) (by omega)
    have s1 := zaF (v := r.toNat) (by omega)
    have s2 := zaF (v := x.toNat) (by omega)
    have s3 := zaF (v := y.toNat) (by omega)
    have r1 := zeO h5
    have r2 := zeP (zbr h0 h9)
    have d1 : zI.f (bs.map bB) = some (toB (za9 (bs.map bB))) := if_pos (by omega)
    have d2 : zI.f ps = some (toB (za9 ps)) := if_pos (by omega)
    refine zad (by omega) (Ev.bind (zby (by omega) (by omega)) (Ev.bind (zby (by omega) (by omega)) (zT (by omega) (zap d1 (zT (by simp only [ByteArray.size_append, zal]; omega) (zap d2 (zT (by simp only [ByteArray.size_append, zal]; omega)
      (Ev.bind (zby (by omega) (by omega)) (zT (by simp only [ByteArray.size_append, zal]; omega) (Ev.bind (zby (by omega) (by omega)) (zT (by simp only [ByteArray.size_append, zal]; omega) (zaw (Ev.now _) ?_))))))))))))
    simp only [zbc, zaN, zaI]
  | succ d ih =>
    intro j hj
    have hj' : j < bs.length := by omega
    refine Ev.step (fun k => by rw [zn.l0]) ?_
    refine zT (by omega) (zT (by omega) ?_)
    rw [zdo bs j hj', zas (by omega) (by omega)]
    have hl := (zfk h).2.1 _ (List.getElem_mem hj')
    refine Ev.bind (zdc _ _ _ hl) (zT (by rw [List.length_map, List.length_take]; omega) ?_)
    rw [zfh]
    have e : (bs.take j).map bB ++ [bB bs[j]] = (bs.take (j + 1)).map bB := by
      rw [List.take_succ_eq_append_getElem hj', List.map_append]; rfl
    rw [e]
    exact ih (j + 1) (by omega)
theorem zbX (a r : Int) (bs : List S24) (ps : List ByteArray) (x y n : Int) (hb : bs.length < 4611686018427387904) (hbs : ∀ b ∈ bs, b.f2.length < 4611686018427387904) (hl : ps.length < 4611686018427387904) (hp : ∀ t ∈ ps, t.size < 4611686018427387904) :
    Ev (fun k => zn.f k a r bs ps x y n) (zeU a r bs ps x y n) := by
  refine Ev.bind (zd2 a r bs ps x y n hb hbs hl hp) ?_
  unfold zeU
  by_cases h : zaR a r bs ps x y n = true
  · rw [if_pos h]
    exact zT h (zaw (zeM h bs.length 0 (by omega)) rfl)
  · rw [if_neg h]; exact zad h (Ev.now _)
end Go.Proofs.Ytcedkmjdigpdiaa.Px

namespace Go.Proofs.Ytcedkmjdigpdiaa.Px
open Go.RowKit Go.Proofs.YtcedkmjdigpdiaaW.PrintWords Go.Proofs.YtcedkmjdigpdiaaW.PrintLast Go.Proofs.YtcedkmjdigpdiaaW.PrintMore
attribute [local go_sem] zK zM zQ zR zC zD zL zN
set_option linter.unusedVariables false
set_option linter.unusedSimpArgs false
end Go.Proofs.Ytcedkmjdigpdiaa.Px

namespace Go.Proofs.Ytcedkmjdigpdiaa.Px
open Go.RowKit Go.Proofs.YtcedkmjdigpdiaaW.PrintWords Go.Proofs.YtcedkmjdigpdiaaW.PrintLast Go.Proofs.YtcedkmjdigpdiaaW.PrintMore
attribute [local go_sem] zK zM zQ zR zC zD zL zN
set_option linter.unusedVariables false
set_option linter.unusedSimpArgs false
theorem zfA {s : ByteArray} (h : s.size ≤ 10000) : zbB.f s = some (zeQ s) := by rw [zbB.f, if_pos (by omega)]
theorem zfY {s : ByteArray} (h : s.size ≤ 10000) : zaq.f s = some (zeQ s) := by rw [zaq.f, if_pos (by omega)]
theorem ze5 (b : UInt8) (s : ByteArray) : ((⟨#[b]⟩ : ByteArray) ++ s).size = 1 + s.size := by rw [ByteArray.size_append]; rfl
end Go.Proofs.Ytcedkmjdigpdiaa.Px

namespace Go.Proofs.Ytcedkmjdigpdiaa.Px
open Go.RowKit Go.Proofs.YtcedkmjdigpdiaaW.PrintWords Go.Proofs.YtcedkmjdigpdiaaW.PrintLast Go.Proofs.YtcedkmjdigpdiaaW.PrintMore
attribute [local go_sem] zK zM zQ zR zC zD zL zN
set_option linter.unusedVariables false
set_option linter.unusedSimpArgs false
theorem zc4 {a r : Int} {bs : List S24} {ps : List ByteArray} {x y n : Int} (h : zaR a r bs ps x y n = true) : (toB (zbc a r bs ps x y)).size ≤ 5000 := by
  obtain ⟨h0, h1, h2, h3, h4, h5, h6, h7, h8, h9⟩ := (zcu ..).1 h
  obtain ⟨k1, k2, k3⟩ := (zb6 n).1 h0
  obtain ⟨x1, x2, y1, y2⟩ := (zdU x y).1 h7
  have r1 := zeO (bs := bs) (by omega)
  have r2 := zeP (zbr h0 h9)
  have r3 := zaB (v := a.toNat) (by omega)
  have r4 := zaB (v := r.toNat) (by omega)
  have r5 := zaB (v := x.toNat) (by omega)
  have r6 := zaB (v := y.toNat) (by omega)
  rw [zal, zbc]
  simp only [List.length_append]
  omega
def zdI (a r : Int) (bs : List S24) (ps : List ByteArray) (x y n : Int) : ByteArray × Int := if zaR a r bs ps x y n = true then (zeQ ((⟨#[118]⟩ : ByteArray) ++ toB (zbc a r bs ps x y)), 0) else ((⟨#[]⟩ : ByteArray), 1)
theorem zdi (a r : Int) (bs : List S24) (ps : List ByteArray) (x y n : Int) : zaj.f a r bs ps x y n = some (zdI a r bs ps x y n) := by
  unfold zaj.f zdI
  rw [zbH]
  simp only [Option.bind_some]
  by_cases h : zaR a r bs ps x y n = true
  · have hs := zc4 h
    rw [if_pos h, if_pos h, if_pos rfl, if_pos (by show 1 + (toB (zbc a r bs ps x y)).size ≤ _; omega)]
    show (zbB.f ((⟨#[118]⟩ : ByteArray) ++ toB (zbc a r bs ps x y))).bind _ = _
    rw [zfA (by rw [ze5]; omega)]
    rfl
  · rw [if_neg h, if_neg h, if_neg (by simp)]
theorem zcX (a r : Int) (bs : List S24) (ps : List ByteArray) (x y n : Int) (hb : bs.length < 4611686018427387904) (hbs : ∀ b ∈ bs, b.f2.length < 4611686018427387904) (hl : ps.length < 4611686018427387904) (hp : ∀ t ∈ ps, t.size < 4611686018427387904) :
    Ev (fun k => zU.f k a r bs ps x y n) (zdI a r bs ps x y n) := by
  unfold zU.f
  refine Ev.bind (zbX a r bs ps x y n hb hbs hl hp) ?_
  unfold zeU zdI
  by_cases h : zaR a r bs ps x y n = true
  · have hs := zc4 h
    rw [if_pos h, if_pos h]
    refine zT rfl (zT (by show 1 + (toB (zbc a r bs ps x y)).size ≤ _; omega) ?_)
    refine zap (zfY (s := (⟨#[118]⟩ : ByteArray) ++ toB (zbc a r bs ps x y)) (by rw [ze5]; omega)) ?_
    exact Ev.now _
  · rw [if_neg h, if_neg h]
    exact zad (by simp) (Ev.now _)
end Go.Proofs.Ytcedkmjdigpdiaa.Px
