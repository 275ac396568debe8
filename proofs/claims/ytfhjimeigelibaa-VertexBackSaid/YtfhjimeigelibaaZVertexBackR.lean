/- part 18 of the proof of the law VertexBack: texts merged by this session's bundle.py. What is proved: the statement at the end of the last of these texts; its conditions are those of the given row. -/
import Derived.Test.YtfhjimeigelibaaRows
import Derived.Deep.Slices
import Derived.ChangeArms
import Derived.SizedLaws
import Derived.WideOpen
import Derived.Test.YtfhjimeigelibaaZVertexBackD
import Derived.Test.YtfhjimeigelibaaZVertexBackE
import Derived.Test.YtfhjimeigelibaaZVertexBackG
import Derived.Test.YtfhjimeigelibaaZVertexBackH
import Derived.Test.YtfhjimeigelibaaZVertexBackI
import Derived.Test.YtfhjimeigelibaaZVertexBackJ
import Derived.Test.YtfhjimeigelibaaZVertexBackK
import Derived.Test.YtfhjimeigelibaaZVertexBackL
import Derived.Test.YtfhjimeigelibaaZVertexBackM
import Derived.Test.YtfhjimeigelibaaZVertexBackN
import Derived.Test.YtfhjimeigelibaaZVertexBackQ
namespace Go.Proofs.Ytfhjimeigelibaa.Px
open Go.RowKit Go.Proofs.YtfhjimeigelibaaW.PrintWords Go.Proofs.YtfhjimeigelibaaW.PrintLast Go.Proofs.YtfhjimeigelibaaW.PrintMore
attribute [local go_sem] max2_int min2_int max_two min_two max_three min_three max_four min_four
set_option linter.unusedVariables false
set_option linter.unusedSimpArgs false
structure Rd (α : Type) where
  t : TypeId
  d : Kd α
  ok : α → Prop
  wt : α → Prop
  bk : α → Nat
structure Fits {α : Type} (P : Program) (r : Rd α) : Prop where
  out : ∀ {H : Type} {enc : TypeId × Value → H} {w : World} {fuel : Nat} {cs : List Value} {x : DataW H × List MemPlace}, DataW.trod enc P w 0 (fun _ => true) true fuel r.t cs = some x →
    ∃ a, r.d.K w a cs ∧ r.ok a ∧ ((∀ n ∈ x.1.weights P r.t, n ≤ reachBytes) → r.wt a) ∧ r.bk a ≤ Rows.uptoBulk x.1
def rdInt (t : TypeId) (k : IntKind) : Rd Int := ⟨t, Kd.int k, fun a => (Lit.int k a).wf = true, fun _ => True, fun _ => 1⟩
def rdBool (t : TypeId) : Rd Bool := ⟨t, Kd.bool, fun _ => True, fun _ => True, fun _ => 1⟩
def rdString (t : TypeId) : Rd ByteArray := ⟨t, Kd.string, fun a => a.size ≤ maxLen, fun a => a.size ≤ reachBytes, fun a => a.size + 1⟩
def rdSlice {α : Type} (t : TypeId) (B : Nat) (r : Rd α) : Rd (List α) :=
  ⟨t, Kd.slice r.t r.d, fun l => l.length ≤ maxLen ∧ ∀ a ∈ l, r.ok a, fun l => l.length * B ≤ reachBytes ∧ ∀ a ∈ l, r.wt a, fun l => (l.map r.bk).sum + 1⟩
section
variable {P : Program}
theorem fit_int {t : TypeId} {k : IntKind} (h : P.underlying t = some (.int k)) : Fits P (rdInt t k) := by
  constructor
  intro H enc w fuel cs x hx
  obtain ⟨n, rfl, rfl, hw⟩ := DataW.trod_int h hx
  exact ⟨n, rfl, hw, fun _ => trivial, by simp [rdInt, Rows.uptoBulk]⟩
theorem fit_string {t : TypeId} (h : P.underlying t = some .string) : Fits P (rdString t) := by
  constructor
  intro H enc w fuel cs x hx
  obtain ⟨s, rfl, rfl, hs⟩ := DataW.trod_string h hx
  have e : s.data.toList.length = s.size := by rw [Array.length_toList]; rfl
  refine ⟨s, rfl, hs, fun hn => ?_, by simp only [rdString, Rows.uptoBulk, e]; exact Nat.le_refl _⟩
  have := hn s.data.toList.length (by simp [DataW.weights])
  rwa [e] at this
theorem bulkAll_map {H α : Type} (f : Nat → DataW H) (g : Nat → α) (bk : α → Nat) (n : Nat) (h : ∀ i, i < n → bk (g i) ≤ Rows.uptoBulk (f i)) : (((List.range n).map g).map bk).sum ≤ Rows.uptoBulkAll ((List.range n).map f) := by
  suffices k : ∀ l : List Nat, (∀ i ∈ l, i < n) → ((l.map g).map bk).sum ≤ Rows.uptoBulkAll (l.map f) from k _ (fun i hi => List.mem_range.1 hi)
  intro l
  induction l with
  | nil => intro _; simp
  | cons i l ih =>
    intro hl
    have h1 := h i (hl i List.mem_cons_self)
    have h2 := ih (fun j hj => hl j (List.mem_cons_of_mem _ hj))
    simp only [List.map_cons, List.sum_cons, Rows.uptoBulkAll]
    omega
theorem weightsAll_mem {H : Type} {e : TypeId} : ∀ {l : List (DataW H)} {d : DataW H} {n : Nat}, d ∈ l → n ∈ d.weights P e → n ∈ DataW.weightsAll P e l
  | x :: l, d, n, hd, hn => by
    simp only [DataW.weightsAll, List.mem_append]
    rcases List.mem_cons.1 hd with rfl | hd
    · exact .inl hn
    · exact .inr (weightsAll_mem hd hn)
theorem fit_slice {α : Type} [Inhabited α] {r : Rd α} (hr : Fits P r) {t : TypeId} {B : Nat} (h : P.underlying t = some (.slice r.t)) (hc : P.cellsOf r.t = r.d.sz) (hB : P.bytesOf r.t = B) : Fits P (rdSlice t B r) := by
  constructor
  intro H enc w fuel cs x hx
  rcases Deep.open_slice h hx with ⟨rfl, rfl⟩ | ⟨a, len, cap, m, n, D, Pl, rfl, _, hl, hm, hmm, rfl, hel⟩
  · exact ⟨[], ⟨none, 0, rfl, Nat.le_refl _, Kd.C_nil _ _⟩, ⟨Nat.zero_le _, by simp⟩, fun _ => ⟨by simp, by simp⟩, by simp [rdSlice, Rows.uptoBulk]⟩
  · simp only [if_true] at hmm
    subst hmm
    obtain ⟨f, hf⟩ := Deep.choose_lt (α := α) (n := len) (p := fun i v => ∃ c, w.cells? 0 (a.add (i * P.cellsOf r.t)) (P.cellsOf r.t) = some c ∧ r.d.K w v c ∧ r.ok v ∧ ((∀ q ∈ (D i).weights P r.t, q ≤ reachBytes) → r.wt v) ∧ r.bk v ≤ Rows.uptoBulk (D i)) (fun i hi => by
      obtain ⟨cs', h1, h2⟩ := hel i (by omega)
      obtain ⟨v, k1, k2, k3, k4⟩ := hr.out h2
      exact ⟨v, cs', h1, k1, k2, k3, k4⟩)
    have hlen : ((List.range len).map f).length = len := by simp
    refine ⟨(List.range len).map f, ⟨some a, m, by rw [hlen], by rw [hlen]; exact hl, ?_⟩, ⟨by rw [hlen]; omega, ?_⟩, fun hw => ⟨?_, ?_⟩, ?_⟩
    · rw [hlen]
      refine ⟨hlen, by unfold maxLen at hm; omega, fun _ => ⟨a, rfl, fun j p hj => ?_⟩⟩
      have hjl : j < len := by
        have := (List.getElem?_eq_some_iff.1 hj).1
        simpa using this
      obtain ⟨c, c1, c2, _⟩ := hf j hjl
      have hp : f j = p := by simpa [List.getElem?_map, List.getElem?_range hjl] using hj
      obtain ⟨_, l2, l3⟩ := World.cells?_some c1
      refine ⟨c, by rw [l2, hc], hp ▸ c2, fun i u hu => ?_⟩
      have hi : i < P.cellsOf r.t := by rw [← l2]; exact (List.getElem?_eq_some_iff.1 hu).1
      rw [← hc, ← Deep.add_add, l3 i hi]
      exact hu
    · intro v hv
      obtain ⟨i, hi, rfl⟩ := List.mem_map.1 hv
      obtain ⟨c, _, _, h3, _⟩ := hf i (List.mem_range.1 hi)
      exact h3
    · have := hw ((((List.range len).map D).length + ((List.range (m - len)).map fun j => D (len + j)).length) * P.bytesOf r.t) (by show _ ∈ DataW.weights P t _; simp only [DataW.weights, h]; exact List.mem_cons_self)
      rw [hlen]
      rw [hB] at this
      simp only [List.length_map, List.length_range] at this
      exact Nat.le_trans (Nat.mul_le_mul_right _ (by omega)) this
    · intro v hv
      obtain ⟨i, hi, rfl⟩ := List.mem_map.1 hv
      obtain ⟨c, _, _, _, h4, _⟩ := hf i (List.mem_range.1 hi)
      refine h4 (fun q hq => hw q ?_)
      show _ ∈ DataW.weights P t _
      simp only [DataW.weights, h]
      exact List.mem_cons_of_mem _ (List.mem_append_left _ (weightsAll_mem (List.mem_map.2 ⟨i, hi, rfl⟩) hq))
    · simp only [rdSlice, Rows.uptoBulk]
      have := bulkAll_map D f r.bk len (fun i hi => (hf i hi).choose_spec.2.2.2.2)
      omega
structure FieldsFit {β : Type} (P : Program) (fs : List Field) (o : Nat) (d : Kd β) (ok wt : β → Prop) (bk : β → Nat) : Prop where
  out : ∀ {H : Type} {enc : TypeId × Value → H} {w : World} {n : Nat} {cs : List Value} {xs : List (DataW H × List MemPlace)}, xs.length = fs.length → cs.length = o + d.sz →
    (∀ (i : Nat) (f : Field), fs[i]? = some f → DataW.trod enc P w 0 (fun _ => true) true n f.type ((cs.drop f.offset).take (P.cellsOf f.type)) = xs[i]?) →
    ∃ b, d.K w b (cs.drop o) ∧ ok b ∧ ((∀ q ∈ DataW.weightsEach P (fs.map (·.type)) (xs.map (·.1)), q ≤ reachBytes) → wt b) ∧ bk b ≤ Rows.uptoBulkAll (xs.map (·.1))
theorem fields_one {α : Type} {r : Rd α} (hr : Fits P r) {f : Field} (ht : f.type = r.t) {o : Nat} (ho : f.offset = o) (hc : P.cellsOf r.t = r.d.sz) : FieldsFit P [f] o r.d r.ok r.wt r.bk := by
  constructor
  intro H enc w n cs xs hl hcs hx
  match xs, hl with
  | [x], _ =>
    have h := hx 0 f rfl
    rw [ho, ht, hc, List.take_of_length_le (by rw [List.length_drop]; omega)] at h
    obtain ⟨a, h1, h2, h3, h4⟩ := hr.out h
    refine ⟨a, h1, h2, fun hq => h3 (fun q hm => hq q ?_), by simp [Rows.uptoBulkAll]; omega⟩
    simp only [List.map_cons, List.map_nil, DataW.weightsEach, List.mem_append, ht]
    exact .inl hm
theorem fields_cons {α β : Type} {r : Rd α} (hr : Fits P r) {f : Field} (ht : f.type = r.t) {fs : List Field} {o o' : Nat} (ho : f.offset = o) (hc : P.cellsOf r.t = r.d.sz) (ho' : o' = o + r.d.sz) {d : Kd β} {ok wt : β → Prop} {bk : β → Nat} (hfs : FieldsFit P fs o' d ok wt bk) :
    FieldsFit P (f :: fs) o (Kd.pair r.d d) (fun x => r.ok x.1 ∧ ok x.2) (fun x => r.wt x.1 ∧ wt x.2) (fun x => r.bk x.1 + bk x.2) := by
  constructor
  intro H enc w n cs xs hl hcs hx
  match xs, hl with
  | x :: xs, hl =>
    have h := hx 0 f rfl
    have hcs' : cs.length = o + (r.d.sz + d.sz) := hcs
    rw [ho, ht, hc] at h
    obtain ⟨a, h1, h2, h3, h4⟩ := hr.out h
    obtain ⟨b, k1, k2, k3, k4⟩ := hfs.out (enc := enc) (w := w) (n := n) (cs := cs) (xs := xs) (by simpa using hl) (by omega) (fun i g hg => hx (i + 1) g hg)
    refine ⟨(a, b), ⟨(cs.drop o).take r.d.sz, cs.drop o', ?_, h1, k1⟩, ⟨h2, k2⟩, fun hq => ⟨h3 (fun q hm => hq q ?_), k3 (fun q hm => hq q ?_)⟩, ?_⟩
    · rw [ho', ← List.drop_drop, List.take_append_drop]
    · simp only [List.map_cons, DataW.weightsEach, List.mem_append, ht]
      exact .inl hm
    · simp only [List.map_cons, DataW.weightsEach, List.mem_append]
      exact .inr hm
    · simp only [List.map_cons, Rows.uptoBulkAll]; omega
def rdStruct {α β : Type} (t : TypeId) (d : Kd β) (f : α → β) (ok wt : β → Prop) (bk : β → Nat) : Rd α := ⟨t, Kd.iso d f, fun a => ok (f a), fun a => wt (f a), fun a => bk (f a) + 1⟩
theorem fit_struct {α β : Type} {t : TypeId} {fs : List Field} {d : Kd β} {ok wt : β → Prop} {bk : β → Nat} (hfs : FieldsFit P fs 0 d ok wt bk) (h : P.underlying t = some (.struct fs.toArray)) (hc : P.cellsOf t = d.sz) (f : α → β) (g : β → α) (hfg : ∀ b, f (g b) = b) : Fits P (rdStruct t d f ok wt bk) := by
  constructor
  intro H enc w fuel cs x hx
  obtain ⟨xs, n, rfl, rfl, hl, hn, hf⟩ := DataW.trod_struct h hx
  obtain ⟨b, k1, k2, k3, k4⟩ := hfs.out (enc := enc) (w := w) (n := n) (cs := cs) (xs := xs) (by simpa using hn) (by omega) (fun i g hg => hf i g (by simpa using hg))
  refine ⟨g b, ?_, ?_, fun hq => ?_, ?_⟩
  · show d.K w (f (g b)) cs
    rw [hfg]
    exact k1
  · show ok (f (g b))
    rw [hfg]
    exact k2
  · show wt (f (g b))
    rw [hfg]
    refine k3 (fun q hm => hq q ?_)
    show _ ∈ DataW.weights P t _
    simp only [DataW.weights, h]
    exact hm
  · show bk (f (g b)) + 1 ≤ _
    rw [hfg]
    simp only [Rows.uptoBulk]
    omega
end
theorem fit_arg {α H : Type} {P : Program} {r : Rd α} (hr : Fits P r) {enc : TypeId × Value → H} {w : World} {v : Value} {d : DataW H} {ps : List MemPlace} (h : DataW.Trod enc P w 0 (fun _ => true) true r.t v d ps) :
    ∃ a, r.d.K w a v.cells.toList ∧ r.ok a ∧ ((∀ n ∈ d.weights P r.t, n ≤ reachBytes) → r.wt a) ∧ r.bk a ≤ Rows.uptoBulk d := by
  obtain ⟨fuel, hf⟩ := h
  exact hr.out hf
end Go.Proofs.Ytfhjimeigelibaa.Px

namespace Go.Proofs.Ytfhjimeigelibaa.Px
open Go.RowKit Go.Proofs.Ytfhjimeigelibaa.Px Go.Proofs.YtfhjimeigelibaaW.PrintWords Go.Proofs.YtfhjimeigelibaaW.PrintLast Go.Proofs.YtfhjimeigelibaaW.PrintMore
set_option linter.unusedVariables false
instance : Inhabited S24 := ⟨z24⟩
def rd24 : Rd S24 := rdStruct 24 (Kd.pair (rdInt 3 .i64).d (Kd.pair (rdInt 3 .i64).d (rdSlice 22 16 (rdString 9)).d)) (fun x : S24 => (x.f0, x.f1, x.f2)) (fun y => (rdInt 3 .i64).ok y.1 ∧ ((rdInt 3 .i64).ok y.2.1 ∧ ((rdSlice 22 16 (rdString 9)).ok y.2.2))) (fun y => (rdInt 3 .i64).wt y.1 ∧ ((rdInt 3 .i64).wt y.2.1 ∧ ((rdSlice 22 16 (rdString 9)).wt y.2.2))) (fun y => (rdInt 3 .i64).bk y.1 + ((rdInt 3 .i64).bk y.2.1 + ((rdSlice 22 16 (rdString 9)).bk y.2.2)))
theorem fit24 : Fits Try.prog rd24 :=
  fit_struct (fields_cons (o := 0) (o' := 1) (ok := fun (y : Int × (List ByteArray)) => (rdInt 3 .i64).ok y.1 ∧ ((rdSlice 22 16 (rdString 9)).ok y.2)) (wt := fun (y : Int × (List ByteArray)) => (rdInt 3 .i64).wt y.1 ∧ ((rdSlice 22 16 (rdString 9)).wt y.2)) (bk := fun (y : Int × (List ByteArray)) => (rdInt 3 .i64).bk y.1 + ((rdSlice 22 16 (rdString 9)).bk y.2)) (fit_int Try.underlying3) rfl rfl (by kernel_rfl) rfl (fields_cons (o := 1) (o' := 2) (ok := fun (y : (List ByteArray)) => (rdSlice 22 16 (rdString 9)).ok y) (wt := fun (y : (List ByteArray)) => (rdSlice 22 16 (rdString 9)).wt y) (bk := fun (y : (List ByteArray)) => (rdSlice 22 16 (rdString 9)).bk y) (fit_int Try.underlying3) rfl rfl (by kernel_rfl) rfl (fields_one (fit_slice (fit_string Try.underlying9) Try.underlying22 (by kernel_rfl) (by kernel_rfl)) rfl rfl (by kernel_rfl)))) Try.underlying24 (by kernel_rfl) (fun x : S24 => (x.f0, x.f1, x.f2)) (fun y => ⟨y.1, y.2.1, y.2.2⟩) (fun _ => rfl)
instance : Inhabited S36 := ⟨z36⟩
def rd36 : Rd S36 := rdStruct 36 (Kd.pair (rdInt 3 .i64).d (rdInt 3 .i64).d) (fun x : S36 => (x.f0, x.f1)) (fun y => (rdInt 3 .i64).ok y.1 ∧ ((rdInt 3 .i64).ok y.2)) (fun y => (rdInt 3 .i64).wt y.1 ∧ ((rdInt 3 .i64).wt y.2)) (fun y => (rdInt 3 .i64).bk y.1 + ((rdInt 3 .i64).bk y.2))
theorem fit36 : Fits Try.prog rd36 :=
  fit_struct (fields_cons (o := 0) (o' := 1) (ok := fun (y : Int) => (rdInt 3 .i64).ok y) (wt := fun (y : Int) => (rdInt 3 .i64).wt y) (bk := fun (y : Int) => (rdInt 3 .i64).bk y) (fit_int Try.underlying3) rfl rfl (by kernel_rfl) rfl (fields_one (fit_int Try.underlying3) rfl rfl (by kernel_rfl))) Try.underlying36 (by kernel_rfl) (fun x : S36 => (x.f0, x.f1)) (fun y => ⟨y.1, y.2⟩) (fun _ => rfl)
instance : Inhabited S38 := ⟨z38⟩
def rd38 : Rd S38 := rdStruct 38 (Kd.pair (rdInt 3 .i64).d (Kd.pair (rdInt 3 .i64).d (Kd.pair (rdSlice 34 40 rd24).d (Kd.pair (rdSlice 22 16 (rdString 9)).d rd36.d)))) (fun x : S38 => (x.f0, x.f1, x.f2, x.f3, x.f4)) (fun y => (rdInt 3 .i64).ok y.1 ∧ ((rdInt 3 .i64).ok y.2.1 ∧ ((rdSlice 34 40 rd24).ok y.2.2.1 ∧ ((rdSlice 22 16 (rdString 9)).ok y.2.2.2.1 ∧ (rd36.ok y.2.2.2.2))))) (fun y => (rdInt 3 .i64).wt y.1 ∧ ((rdInt 3 .i64).wt y.2.1 ∧ ((rdSlice 34 40 rd24).wt y.2.2.1 ∧ ((rdSlice 22 16 (rdString 9)).wt y.2.2.2.1 ∧ (rd36.wt y.2.2.2.2))))) (fun y => (rdInt 3 .i64).bk y.1 + ((rdInt 3 .i64).bk y.2.1 + ((rdSlice 34 40 rd24).bk y.2.2.1 + ((rdSlice 22 16 (rdString 9)).bk y.2.2.2.1 + (rd36.bk y.2.2.2.2)))))
theorem fit38 : Fits Try.prog rd38 :=
  fit_struct (fields_cons (o := 0) (o' := 1) (ok := fun (y : Int × (List S24) × (List ByteArray) × S36) => (rdInt 3 .i64).ok y.1 ∧ ((rdSlice 34 40 rd24).ok y.2.1 ∧ ((rdSlice 22 16 (rdString 9)).ok y.2.2.1 ∧ (rd36.ok y.2.2.2)))) (wt := fun (y : Int × (List S24) × (List ByteArray) × S36) => (rdInt 3 .i64).wt y.1 ∧ ((rdSlice 34 40 rd24).wt y.2.1 ∧ ((rdSlice 22 16 (rdString 9)).wt y.2.2.1 ∧ (rd36.wt y.2.2.2)))) (bk := fun (y : Int × (List S24) × (List ByteArray) × S36) => (rdInt 3 .i64).bk y.1 + ((rdSlice 34 40 rd24).bk y.2.1 + ((rdSlice 22 16 (rdString 9)).bk y.2.2.1 + (rd36.bk y.2.2.2)))) (fit_int Try.underlying3) rfl rfl (by kernel_rfl) rfl (fields_cons (o := 1) (o' := 2) (ok := fun (y : (List S24) × (List ByteArray) × S36) => (rdSlice 34 40 rd24).ok y.1 ∧ ((rdSlice 22 16 (rdString 9)).ok y.2.1 ∧ (rd36.ok y.2.2))) (wt := fun (y : (List S24) × (List ByteArray) × S36) => (rdSlice 34 40 rd24).wt y.1 ∧ ((rdSlice 22 16 (rdString 9)).wt y.2.1 ∧ (rd36.wt y.2.2))) (bk := fun (y : (List S24) × (List ByteArray) × S36) => (rdSlice 34 40 rd24).bk y.1 + ((rdSlice 22 16 (rdString 9)).bk y.2.1 + (rd36.bk y.2.2))) (fit_int Try.underlying3) rfl rfl (by kernel_rfl) rfl (fields_cons (o := 2) (o' := 3) (ok := fun (y : (List ByteArray) × S36) => (rdSlice 22 16 (rdString 9)).ok y.1 ∧ (rd36.ok y.2)) (wt := fun (y : (List ByteArray) × S36) => (rdSlice 22 16 (rdString 9)).wt y.1 ∧ (rd36.wt y.2)) (bk := fun (y : (List ByteArray) × S36) => (rdSlice 22 16 (rdString 9)).bk y.1 + (rd36.bk y.2)) (fit_slice fit24 Try.underlying34 (by kernel_rfl) (by kernel_rfl)) rfl rfl (by kernel_rfl) rfl (fields_cons (o := 3) (o' := 4) (ok := fun (y : S36) => rd36.ok y) (wt := fun (y : S36) => rd36.wt y) (bk := fun (y : S36) => rd36.bk y) (fit_slice (fit_string Try.underlying9) Try.underlying22 (by kernel_rfl) (by kernel_rfl)) rfl rfl (by kernel_rfl) rfl (fields_one fit36 rfl rfl (by kernel_rfl)))))) Try.underlying38 (by kernel_rfl) (fun x : S38 => (x.f0, x.f1, x.f2, x.f3, x.f4)) (fun y => ⟨y.1, y.2.1, y.2.2.1, y.2.2.2.1, y.2.2.2.2⟩) (fun _ => rfl)
def selvedgelaw08_VertexBack_PureS : Prop := ∀ (a0 : S38) (a1 : Int) (a2 : Int), rd38.ok a0 → (rdInt 3 .i64).ok a1 → (rdInt 3 .i64).ok a2 → rd38.wt a0 → (rdInt 3 .i64).wt a1 → (rdInt 3 .i64).wt a2 → ∃ k, selvedgelaw08_VertexBack.f k (a0.f0) (a0.f1) (a0.f2) (a0.f3) (a0.f4.f0) (a0.f4.f1) a1 a2 = some true
end Go.Proofs.Ytfhjimeigelibaa.Px

namespace Go.Proofs.Ytfhjimeigelibaa.Px
open Go.RowKit Go.Proofs.YtfhjimeigelibaaW.PrintWords Go.Proofs.YtfhjimeigelibaaW.PrintLast Go.Proofs.YtfhjimeigelibaaW.PrintMore
attribute [local go_sem] max2_int min2_int max_two min_two max_three min_three max_four min_four
set_option linter.unusedVariables false
set_option linter.unusedSimpArgs false
def vertexL (a r : Int) (bs : List S24) (ps : List ByteArray) (x y : Int) : Bs :=
  numL a.toNat ++ numL r.toNat ++ rowL (bs.map bB) ++ rowL ps ++ numL x.toNat ++ numL y.toNat
theorem mayV_iff (a r : Int) (bs : List S24) (ps : List ByteArray) (x y n : Int) : mayV a r bs ps x y n = true ↔ mayN n = true ∧ 1 ≤ a ∧ a ≤ n ∧ 1 ≤ r ∧ r ≤ 1048576 ∧ bs.length ≤ 4 ∧ bs.any (oddB n) = false ∧ mayE x y = true ∧ (thirdR r = true ∨ x = 0 ∧ y = 0) ∧ parentsB ps r n = true := by
  unfold mayV
  simp [and_assoc]
theorem upFrom_size (l : List ByteArray) (d : Nat) : ∀ j, upFrom l d j = true → ∀ i, j ≤ i → i < j + d → (l.getD i ByteArray.empty).size = 32 := by
  induction d with
  | zero => intro j _ i h1 h2; omega
  | succ d ih =>
    intro j h i h1 h2
    rw [upFrom, Bool.and_eq_true] at h
    rcases Nat.lt_or_ge j i with h3 | h3
    · exact ih (j + 1) h.2 i (by omega) (by omega)
    · obtain rfl : i = j := by omega
      have := h.1
      rw [upAt, Bool.and_eq_true] at this
      exact of_decide_eq_true this.1
theorem parentsB_small {l : List ByteArray} {r n : Int} (hn : mayN n = true) (h : parentsB l r n = true) : l.length ≤ 64 ∧ ∀ t ∈ l, t.size = 32 := by
  unfold parentsB at h
  split at h
  · have h0 := of_decide_eq_true h
    obtain rfl := List.eq_nil_of_length_eq_zero h0
    simp
  · obtain ⟨_, h2, _⟩ := (mayN_iff n).1 hn
    rw [Bool.and_eq_true, Bool.and_eq_true] at h
    have h3 := of_decide_eq_true h.2
    refine ⟨by omega, fun t ht => ?_⟩
    obtain ⟨i, hi, rfl⟩ := List.mem_iff_getElem.1 ht
    have := upFrom_size l l.length 0 h.1.1 i (by omega) (by omega)
    rwa [List.getD_eq_getElem?_getD, List.getElem?_eq_getElem hi] at this
theorem bB_size (b : S24) : (bB b).size ≤ 400 := by
  unfold bB
  split
  · rename_i h
    obtain ⟨h1, h2, h3, h4, h5, h6, h7⟩ := (mayB_iff _ _ _).1 h
    have r1 := rowOf_le b.f2 48 (by omega) (fun t ht => (h7 t ht).2)
    have r2 := numL_length (v := b.f2.length) (by omega)
    have r4 := numL_length (v := b.f0.toNat) (by omega)
    have r5 := numL_length (v := b.f1.toNat) (by omega)
    rw [toB_size, batchL, List.length_append, List.length_append, rowL, List.length_append]; omega
  · show 0 ≤ 400; omega
theorem rowL_bs {bs : List S24} (h : bs.length ≤ 4) : (rowL (bs.map bB)).length ≤ 1700 := by
  have r1 := rowOf_le (bs.map bB) 400 (by omega) (fun t ht => by obtain ⟨b, _, rfl⟩ := List.mem_map.1 ht; exact bB_size b)
  rw [List.length_map] at r1
  have r2 := numL_length (v := (bs.map bB).length) (by rw [List.length_map]; omega)
  rw [rowL, List.length_append]; omega
theorem rowL_ps {ps : List ByteArray} (h : ps.length ≤ 64 ∧ ∀ t ∈ ps, t.size = 32) : (rowL ps).length ≤ 2700 := by
  have r1 := rowOf_le ps 32 (by omega) (fun t ht => by have := h.2 t ht; omega)
  have r2 := numL_length (v := ps.length) (by have := h.1; omega)
  rw [rowL, List.length_append]; have := h.1; omega
theorem any_odd {n : Int} {bs : List S24} (h : bs.any (oddB n) = false) : ∀ b ∈ bs, mayB b.f0 b.f1 b.f2 = true ∧ b.f0 ≤ n := by
  intro b hb
  rw [List.any_eq_false] at h
  have := h b hb
  rw [oddB] at this
  simp at this
  exact ⟨this.1, by omega⟩
theorem rd_four (a b c d : ByteArray) : rdOf ByteArray.empty [a, b, c, d] 0 = a ∧ rdOf ByteArray.empty [a, b, c, d] 1 = b ∧ rdOf ByteArray.empty [a, b, c, d] 2 = c ∧ rdOf ByteArray.empty [a, b, c, d] 3 = d := ⟨rfl, rfl, rfl, rfl⟩
theorem vertex_Bytes_of (a r : Int) (bs : List S24) (ps : List ByteArray) (x y n : Int) :
    vertex_Bytes.f a r bs ps x y n = some (if mayV a r bs ps x y n = true then (toB (vertexL a r bs ps x y), 0) else ((⟨#[]⟩ : ByteArray), 1)) := by
  unfold vertex_Bytes.f
  rw [show vertex_May.f a r bs ps x y n = some (mayV a r bs ps x y n) from rfl]
  simp only [Option.bind_some]
  by_cases h : mayV a r bs ps x y n = true
  · rw [if_pos h, if_pos h]
    obtain ⟨h0, h1, h2, h3, h4, h5, h6, h7, h8, h9⟩ := (mayV_iff ..).1 h
    obtain ⟨k1, k2, k3⟩ := (mayN_iff n).1 h0
    obtain ⟨x1, x2, y1, y2⟩ := (mayE_iff x y).1 h7
    have e1 : vertex_each1.f bs = some (bs.map bB) := if_pos h5
    have e2 : vertex_each2.f [a, r, x, y] = some [numB a.toNat, numB r.toNat, numB x.toNat, numB y.toNat] := by
      rw [vertex_each2.f, if_pos]
      · rfl
      · refine ⟨Nat.le_refl 4, fun k hk => ?_⟩
        simp only [List.mem_cons, List.not_mem_nil, or_false] at hk
        rcases hk with rfl | rfl | rfl | rfl <;> omega
    have s0 := numB_size (v := a.toNat) (by omega)
    have s1 := numB_size (v := r.toNat) (by omega)
    have s2 := numB_size (v := x.toNat) (by omega)
    have s3 := numB_size (v := y.toNat) (by omega)
    have r1 := rowL_bs h5
    have r2 := rowL_ps (parentsB_small h0 h9)
    have d1 : digits_Row.f (bs.map bB) = some (toB (rowL (bs.map bB))) := if_pos (by omega)
    have d2 : digits_Row.f ps = some (toB (rowL ps)) := if_pos (by omega)
    rw [e1, e2]
    simp only [Option.bind_some, d1, d2]
    obtain ⟨q0, q1, q2, q3⟩ := rd_four (numB a.toNat) (numB r.toNat) (numB x.toNat) (numB y.toNat)
    rw [q0, q1, q2, q3]
    simp only [ByteArray.size_append, toB_size]
    rw [if_pos (by simp), if_pos (by simp), if_pos (by omega), if_pos (by omega), if_pos (by omega), if_pos (by simp), if_pos (by omega), if_pos (by simp), if_pos (by omega)]
    simp only [vertexL, numB, toB_append]
  · rw [if_neg h, if_neg h]
theorem bB_inj : ∀ {n m : Int} {bs cs : List S24}, bs.any (oddB n) = false → cs.any (oddB m) = false → bs.map bB = cs.map bB → bs = cs := by
  intro n m bs
  induction bs with
  | nil => intro cs _ _ h; exact (List.map_eq_nil_iff.1 h.symm).symm
  | cons b bs ih =>
    intro cs hb hc h
    rcases cs with _ | ⟨c, cs⟩
    · simp at h
    · rw [List.map_cons, List.map_cons] at h
      injection h with h1 h2
      have hb1 := (any_odd hb b List.mem_cons_self).1
      have hc1 := (any_odd hc c List.mem_cons_self).1
      rw [bB, if_pos hb1, bB, if_pos hc1] at h1
      obtain ⟨e1, e2, e3, _⟩ := batchL_cancel hb1 hc1 (r := []) (t := []) (by rw [toB_inj h1])
      have e : b = c := by obtain ⟨b0, b1, b2⟩ := b; obtain ⟨c0, c1, c2⟩ := c; simp only at e1 e2 e3; rw [e1, e2, e3]
      rw [List.any_cons, Bool.or_eq_false_iff] at hb hc
      rw [e, ih hb.2 hc.2 h2]
theorem vertexL_cancel {a r : Int} {bs : List S24} {ps : List ByteArray} {x y n a' r' : Int} {bs' : List S24} {ps' : List ByteArray} {x' y' n' : Int} (h : mayV a r bs ps x y n = true) (h' : mayV a' r' bs' ps' x' y' n' = true) {s t : Bs} (e : vertexL a r bs ps x y ++ s = vertexL a' r' bs' ps' x' y' ++ t) :
    a = a' ∧ r = r' ∧ bs = bs' ∧ ps = ps' ∧ x = x' ∧ y = y' ∧ s = t := by
  obtain ⟨h0, h1, h2, h3, h4, h5, h6, h7, h8, h9⟩ := (mayV_iff ..).1 h
  obtain ⟨k1, k2, k3⟩ := (mayN_iff n).1 h0
  obtain ⟨x1, x2, y1, y2⟩ := (mayE_iff x y).1 h7
  have hp := parentsB_small h0 h9
  obtain ⟨h0', h1', h2', h3', h4', h5', h6', h7', h8', h9'⟩ := (mayV_iff ..).1 h'
  obtain ⟨k1', k2', k3'⟩ := (mayN_iff n').1 h0'
  obtain ⟨x1', x2', y1', y2'⟩ := (mayE_iff x' y').1 h7'
  have hp' := parentsB_small h0' h9'
  rw [vertexL, vertexL] at e
  simp only [List.append_assoc] at e
  obtain ⟨e1, e⟩ := numL_cancel (by omega) (by omega) e
  obtain ⟨e2, e⟩ := numL_cancel (by omega) (by omega) e
  have hs : ∀ {cs : List S24}, ∀ t ∈ cs.map bB, t.size < 18446744073709551616 := fun t ht => by
    obtain ⟨b, _, rfl⟩ := List.mem_map.1 ht
    have := bB_size b; omega
  obtain ⟨e3, e⟩ := rowL_cancel (by rw [List.length_map]; omega) (by rw [List.length_map]; omega) hs hs e
  obtain ⟨e4, e⟩ := rowL_cancel (by have := hp.1; omega) (by have := hp'.1; omega) (fun t ht => by have := hp.2 t ht; omega) (fun t ht => by have := hp'.2 t ht; omega) e
  obtain ⟨e5, e⟩ := numL_cancel (by omega) (by omega) e
  obtain ⟨e6, e⟩ := numL_cancel (by omega) (by omega) e
  exact ⟨by omega, by omega, bB_inj h6 h6' e3, e4, by omega, by omega, e⟩
theorem shown08_of : selvedgelaw08_shown.f = some true := by
  unfold selvedgelaw08_shown.f
  rw [vertex_Bytes_of, if_pos (by decide)]
  simp only [Option.bind_some]
  have w3 : vertex_Wave.f 3 = some 1 := by unfold vertex_Wave.f wrap64; decide
  have w4 : vertex_Wave.f 4 = some 2 := by unfold vertex_Wave.f wrap64; decide
  rw [if_pos]
  · rw [if_pos trivial, w3, w4, vertex_Third_of]
    rfl
  · rw [toList_ofB, ofB_toB, vertexL]
    have e0 : rowL [] = [0] := by rw [rowL, rowOf, List.flatMap_nil, List.append_nil]; show numL 0 = _; rw [numL, be_zero]; rfl
    show numL 1 ++ numL 1 ++ rowL [] ++ rowL [] ++ numL 0 ++ numL 0 = _
    rw [e0, numL, numL, be_1, be_zero]
    rfl
instance decBatch : DecidableEq S24 := fun a b => decidable_of_iff (a.f0 = b.f0 ∧ a.f1 = b.f1 ∧ a.f2 = b.f2) ⟨fun ⟨h0, h1, h2⟩ => by obtain ⟨a0, a1, a2⟩ := a; obtain ⟨b0, b1, b2⟩ := b; simp only at h0 h1 h2; rw [h0, h1, h2], fun h => by rw [h]; exact ⟨rfl, rfl, rfl⟩⟩
theorem rd_Batch_at (l : List S24) (j : Nat) (h : j < l.length) : rd_T24 l (j : Int) = l[j] := by
  rw [rd_T24, Int.toNat_natCast, List.getD_eq_getElem?_getD, List.getElem?_eq_getElem h]; rfl
theorem refSameAll_loop (a b : List S24) (hl : a.length = b.length) (hb : a.length < 4611686018427387904) (hs : ∀ x ∈ a, x.f2.length < 4611686018427387904) (d : Nat) : ∀ j, j + d = a.length →
    Ev (fun k => selvedgeref07_SameAll.l0 k a b (j : Int)) (decide (a.drop j = b.drop j)) := by
  induction d with
  | zero =>
    intro j hj
    refine Ev.step (fun k => by rw [selvedgeref07_SameAll.l0]) ?_
    refine ev_neg (by omega) (ev_eq (Ev.now _) ?_)
    rw [List.drop_eq_nil_of_le (by omega), List.drop_eq_nil_of_le (by omega)]; rfl
  | succ d ih =>
    intro j hj
    have ha : j < a.length := by omega
    have hb' : j < b.length := by omega
    refine Ev.step (fun k => by rw [selvedgeref07_SameAll.l0]) ?_
    refine ev_pos (by omega) (ev_pos (by omega) (ev_pos (by omega) ?_))
    rw [rd_Batch_at a j ha, rd_Batch_at b j hb']
    refine Ev.bind (refBatchSame_ev _ _ _ _ _ _ (hs _ (List.getElem_mem ha))) ?_
    rw [wrap64_of (by omega) (by omega), List.drop_eq_getElem_cons ha, List.drop_eq_getElem_cons hb']
    by_cases e : a[j] = b[j]
    · refine ev_pos (by rw [e]; simp [batchEq]) (ev_eq (ih (j + 1) (by omega)) ?_)
      rw [e]; exact decide_eq_decide.2 ⟨fun h => by rw [h], fun h => (List.cons.inj h).2⟩
    · refine ev_neg ?_ (ev_eq (Ev.now _) ?_)
      · intro hh
        apply e
        obtain ⟨h0, h1, h2⟩ := of_decide_eq_true hh
        generalize a[j] = p at *
        generalize b[j] = q at *
        obtain ⟨p0, p1, p2⟩ := p; obtain ⟨q0, q1, q2⟩ := q
        simp only at h0 h1 h2; rw [h0, h1, h2]
      · exact (decide_eq_false (fun h => e (List.cons.inj h).1)).symm
theorem refSameAll_ev (a b : List S24) (hb : a.length < 4611686018427387904) (hs : ∀ x ∈ a, x.f2.length < 4611686018427387904) : Ev (fun k => selvedgeref07_SameAll.f k a b) (decide (a = b)) := by
  by_cases h : a.length = b.length
  · exact ev_pos (by omega) (refSameAll_loop a b h hb hs a.length 0 (by omega))
  · refine ev_neg (by omega) (ev_eq (Ev.now _) ?_)
    have : ¬ a = b := fun e => h (by rw [e])
    simp [this]
def vertexEq (a r : Int) (bs : List S24) (ps : List ByteArray) (x y a' r' : Int) (bs' : List S24) (ps' : List ByteArray) (x' y' : Int) : Bool := decide (a = a' ∧ r = r' ∧ bs = bs' ∧ ps = ps' ∧ x = x' ∧ y = y')
theorem refVertexSame_ev (a r : Int) (bs : List S24) (ps : List ByteArray) (x y a' r' : Int) (bs' : List S24) (ps' : List ByteArray) (x' y' : Int) (hb : bs.length < 4611686018427387904) (hs : ∀ b ∈ bs, b.f2.length < 4611686018427387904) (hp : ps.length < 4611686018427387904) :
    Ev (fun k => selvedgeref08_Same.f k a r bs ps x y a' r' bs' ps' x' y') (vertexEq a r bs ps x y a' r' bs' ps' x' y') := by
  refine Ev.bind (refSame_ev _ _ hp) (Ev.bind (refSameAll_ev _ _ hb hs) ?_)
  unfold vertexEq
  by_cases h1 : ps = ps'
  · refine ev_pos (by simp [h1]) ?_
    by_cases h2 : bs = bs'
    · refine ev_pos (by simp [h2]) ?_
      by_cases h3 : a = a'
      · refine ev_pos h3 ?_
        by_cases h4 : r = r'
        · refine ev_pos h4 (ev_eq (Ev.now _) ?_)
          by_cases h5 : x = x' <;> by_cases h6 : y = y' <;> simp [h1, h2, h3, h4, h5, h6]
        · exact ev_neg h4 (ev_eq (Ev.now _) (by simp [h4]))
      · exact ev_neg h3 (ev_eq (Ev.now _) (by simp [h3]))
    · exact ev_neg (by simp [h2]) (ev_eq (Ev.now _) (by simp [h2]))
  · exact ev_neg (by simp [h1]) (ev_eq (Ev.now _) (by simp [h1]))
theorem mayV_small {a r : Int} {bs : List S24} {ps : List ByteArray} {x y n : Int} (h : mayV a r bs ps x y n = true) : bs.length < 4611686018427387904 ∧ (∀ b ∈ bs, b.f2.length < 4611686018427387904) ∧ ps.length < 4611686018427387904 := by
  obtain ⟨h0, _, _, _, _, h5, h6, _, _, h9⟩ := (mayV_iff ..).1 h
  refine ⟨by omega, fun b hb => ?_, by have := (parentsB_small h0 h9).1; omega⟩
  obtain ⟨_, _, _, _, _, k, _⟩ := (mayB_iff _ _ _).1 (any_odd h6 b hb).1
  omega
end Go.Proofs.Ytfhjimeigelibaa.Px

namespace Go.Proofs.Ytfhjimeigelibaa.Px
open Go.RowKit Go.Proofs.YtfhjimeigelibaaW.PrintWords Go.Proofs.YtfhjimeigelibaaW.PrintLast Go.Proofs.YtfhjimeigelibaaW.PrintMore
attribute [local go_sem] max2_int min2_int max_two min_two max_three min_three max_four min_four
set_option linter.unusedVariables false
set_option linter.unusedSimpArgs false
end Go.Proofs.Ytfhjimeigelibaa.Px

namespace Go.Proofs.Ytfhjimeigelibaa.Px
open Go.RowKit Go.Proofs.YtfhjimeigelibaaW.PrintWords Go.Proofs.YtfhjimeigelibaaW.PrintLast Go.Proofs.YtfhjimeigelibaaW.PrintMore
attribute [local go_sem] max2_int min2_int max_two min_two max_three min_three max_four min_four
set_option linter.unusedVariables false
set_option linter.unusedSimpArgs false
def takeRowB (s : ByteArray) (many most : Int) : List ByteArray × ByteArray × Int := ((takeRowL (ofB s) many most).1, toB (takeRowL (ofB s) many most).2.1, (takeRowL (ofB s) many most).2.2)
theorem digits_TakeRow_of (s : ByteArray) (many most : Int) (h1 : (Lit.int .i64 many).wf = true) (h2 : (Lit.int .i64 most).wf = true) (h3 : s.size < 4611686018427387904) (h4 : s.size ≤ 8796093022207 ∨ many ≤ 8796093022207) : digits_TakeRow.f s many most = some (takeRowB s many most) := by
  unfold digits_TakeRow.f
  rw [if_pos ⟨h1, h2, h3, h4⟩]; rfl
theorem takeTextL_text {t : ByteArray} {most : Int} (h0 : (t.size : Int) ≤ most) (h1 : t.size < 18446744073709551616) (r : Bs) : takeTextL (textL (ofB t) ++ r) most = (ofB t, r, 0) := by
  rw [takeTextL, textL, List.append_assoc, takeNumL_num (by rw [ofB_length]; exact h1), takeTextIf, if_pos rfl, takeTextOf, if_neg (by rw [ofB_length]; omega)]
  simp only
  rw [if_neg (by rw [List.length_append]; omega), List.take_left, List.drop_left]
theorem takeTextL_ok {s t r : Bs} {most : Int} (h : takeTextL s most = (t, r, 0)) : s = textL t ++ r ∧ (t.length : Int) ≤ most ∧ t.length < 18446744073709551616 := by
  unfold takeTextL takeTextIf at h
  split at h
  · rename_i h0
    rcases hq : takeNumL s with ⟨v, q, e⟩
    rw [hq] at h h0
    simp only at h0 h
    subst h0
    obtain ⟨rfl, hv⟩ := takeNumL_ok hq
    unfold takeTextOf at h
    split at h
    · cases h
    · rename_i h1
      split at h
      · cases h
      · rename_i h2
        simp only [Prod.mk.injEq, and_true] at h
        obtain ⟨rfl, rfl⟩ := h
        have hl : (List.take v q).length = v := by rw [List.length_take]; omega
        refine ⟨?_, by rw [hl]; omega, by rw [hl]; exact hv⟩
        rw [textL, hl, List.append_assoc, List.take_append_drop]
  · rename_i h0
    simp only [Prod.mk.injEq] at h
    exact absurd h.2.2 h0
theorem takeTexts_row (most : Int) : ∀ (l : List ByteArray) (r : Bs) (acc : List ByteArray), (∀ t ∈ l, (t.size : Int) ≤ most ∧ t.size < 18446744073709551616) → takeTexts most l.length (rowOf l ++ r) acc = (acc ++ l, r, 0)
  | [], r, acc, _ => by simp [takeTexts, rowOf]
  | t :: l, r, acc, h => by
    have e : rowOf (t :: l) ++ r = textL (ofB t) ++ (rowOf l ++ r) := by rw [← List.append_assoc]; rfl
    obtain ⟨h1, h2⟩ := h t List.mem_cons_self
    rw [List.length_cons, takeTexts, e, takeTextL_text h1 h2, if_pos rfl, takeTexts_row most l r _ (fun x hx => h x (List.mem_cons_of_mem _ hx)), toB_ofB]
    simp
theorem takeTexts_ok (most : Int) : ∀ (n : Nat) (s : Bs) (acc l : List ByteArray) (r : Bs), takeTexts most n s acc = (l, r, 0) → ∃ l', l = acc ++ l' ∧ l'.length = n ∧ s = rowOf l' ++ r ∧ ∀ t ∈ l', (t.size : Int) ≤ most ∧ t.size < 18446744073709551616
  | 0, s, acc, l, r, h => by
    simp only [takeTexts, Prod.mk.injEq, and_true] at h
    obtain ⟨rfl, rfl⟩ := h
    exact ⟨[], by simp, rfl, by simp [rowOf], by simp⟩
  | n + 1, s, acc, l, r, h => by
    rw [takeTexts] at h
    split at h
    · rename_i h0
      obtain ⟨l', rfl, h2, h3, h4⟩ := takeTexts_ok most n _ _ _ _ h
      rcases hq : takeTextL s most with ⟨t, q, e⟩
      rw [hq] at h0 h3
      simp only at h0 h3
      subst h0
      obtain ⟨h5, h6, h7⟩ := takeTextL_ok hq
      refine ⟨toB t :: l', by simp, by simp [h2], ?_, ?_⟩
      · rw [h5, h3]
        have e : rowOf (toB t :: l') = textL (ofB (toB t)) ++ rowOf l' := rfl
        rw [e, ofB_toB, List.append_assoc]
      · intro x hx
        rcases List.mem_cons.1 hx with rfl | hx
        · rw [toB_size]; exact ⟨h6, h7⟩
        · exact h4 x hx
    · rename_i h0
      simp only [Prod.mk.injEq] at h
      exact absurd h.2.2 h0
theorem takeRowL_row {l : List ByteArray} {many most : Int} (hm : (l.length : Int) ≤ many) (hl : l.length < 18446744073709551616) (h : ∀ t ∈ l, (t.size : Int) ≤ most ∧ t.size < 18446744073709551616) (r : Bs) : takeRowL (rowL l ++ r) many most = (l, r, 0) := by
  rw [takeRowL, rowL, List.append_assoc, takeNumL_num hl, takeRowIf, if_pos rfl, if_neg (by simp only; omega)]
  simp only
  rw [takeTexts_row most l r [] h, List.nil_append]
theorem takeRowL_ok {s r : Bs} {l : List ByteArray} {many most : Int} (h : takeRowL s many most = (l, r, 0)) : s = rowL l ++ r ∧ (l.length : Int) ≤ many ∧ l.length < 18446744073709551616 ∧ ∀ t ∈ l, (t.size : Int) ≤ most ∧ t.size < 18446744073709551616 := by
  unfold takeRowL takeRowIf at h
  split at h
  · rename_i h0
    rcases hq : takeNumL s with ⟨v, q, e⟩
    rw [hq] at h h0
    simp only at h0 h
    subst h0
    obtain ⟨rfl, hv⟩ := takeNumL_ok hq
    split at h
    · cases h
    · rename_i h1
      obtain ⟨l', hl', h2, h3, h4⟩ := takeTexts_ok most v q [] l r h
      rw [List.nil_append] at hl'
      subst hl'
      refine ⟨?_, by omega, by omega, h4⟩
      rw [rowL, h2, h3, List.append_assoc]
  · rename_i h0
    simp only [Prod.mk.injEq] at h
    exact absurd h.2.2 h0
end Go.Proofs.Ytfhjimeigelibaa.Px

namespace Go.Proofs.Ytfhjimeigelibaa.Px
open Go.RowKit Go.Proofs.YtfhjimeigelibaaW.PrintWords Go.Proofs.YtfhjimeigelibaaW.PrintLast Go.Proofs.YtfhjimeigelibaaW.PrintMore
attribute [local go_sem] max2_int min2_int max_two min_two max_three min_three max_four min_four
set_option linter.unusedVariables false
set_option linter.unusedSimpArgs false
end Go.Proofs.Ytfhjimeigelibaa.Px

namespace Go.Proofs.Ytfhjimeigelibaa.Px
open Go.RowKit Go.Proofs.YtfhjimeigelibaaW.PrintWords Go.Proofs.YtfhjimeigelibaaW.PrintLast Go.Proofs.YtfhjimeigelibaaW.PrintMore
attribute [local go_sem] max2_int min2_int max_two min_two max_three min_three max_four min_four
set_option linter.unusedVariables false
set_option linter.unusedSimpArgs false
end Go.Proofs.Ytfhjimeigelibaa.Px

namespace Go.Proofs.Ytfhjimeigelibaa.Px
open Go.RowKit Go.Proofs.YtfhjimeigelibaaW.PrintWords Go.Proofs.YtfhjimeigelibaaW.PrintLast Go.Proofs.YtfhjimeigelibaaW.PrintMore
attribute [local go_sem] max2_int min2_int max_two min_two max_three min_three max_four min_four
set_option linter.unusedVariables false
set_option linter.unusedSimpArgs false
def takeBatchIf (o q : Int) (e : Bool) (s : Bs) : Int × Int × List ByteArray × Int :=
  if e = true ∧ o ≤ 64 ∧ q ≤ 1073741824 ∧ (takeRowL s 4 48).2.2 = 0 ∧ (takeRowL s 4 48).2.1 = [] ∧ mayB o q (takeRowL s 4 48).1 = true then (o, q, (takeRowL s 4 48).1, 0) else (0, 0, [], 3)
theorem takeBatchIf_pos {o q : Int} {e : Bool} {s : Bs} (h : e = true ∧ o ≤ 64 ∧ q ≤ 1073741824 ∧ (takeRowL s 4 48).2.2 = 0 ∧ (takeRowL s 4 48).2.1 = [] ∧ mayB o q (takeRowL s 4 48).1 = true) : takeBatchIf o q e s = (o, q, (takeRowL s 4 48).1, 0) := if_pos h
theorem takeBatchIf_neg {o q : Int} {e : Bool} {s : Bs} (h : ¬ (e = true ∧ o ≤ 64 ∧ q ≤ 1073741824 ∧ (takeRowL s 4 48).2.2 = 0 ∧ (takeRowL s 4 48).2.1 = [] ∧ mayB o q (takeRowL s 4 48).1 = true)) : takeBatchIf o q e s = (0, 0, [], 3) := if_neg h
def takeBatchL (s : Bs) : Int × Int × List ByteArray × Int :=
  takeBatchIf (takeNumL s).1 (takeNumL (takeNumL s).2.1).1 (decide ((takeNumL s).2.2 = 0 ∧ (takeNumL (takeNumL s).2.1).2.2 = 0)) (takeNumL (takeNumL s).2.1).2.1
theorem toList_nil (s : ByteArray) : s.toList = ([] : List UInt8) ↔ ofB s = [] := by rw [toList_ofB]
theorem batchTake_j0 (s : Bs) (o q : Nat) (e b : Bool) (hs : s.length < 4611686018427387904) (ho : o < 18446744073709551616) (hq : q < 18446744073709551616) (hb : b = true ↔ ¬ (e = true ∧ (o : Int) ≤ 64 ∧ (q : Int) ≤ 1073741824)) :
    Ev (fun k => batch_Take.j0 k (toB s) (o : Int) (q : Int) b) (takeBatchIf o q e s) := by
  refine Ev.step (fun k => by rw [batch_Take.j0]) ?_
  by_cases h : e = true ∧ (o : Int) ≤ 64 ∧ (q : Int) ≤ 1073741824
  · obtain ⟨h1, h2, h3⟩ := h
    refine ev_neg (fun hh => hb.1 hh ⟨h1, h2, h3⟩) (ev_bind_const (digits_TakeRow_of (toB s) 4 48 (by decide) (by decide) (by rw [toB_size]; exact hs) (.inr (by omega))) ?_)
    simp only [takeRowB, ofB_toB]
    rw [wrap64_of (by omega) (by omega), wrap64_of (by omega) (by omega)]
    by_cases h4 : (takeRowL s 4 48).2.2 = 0
    · refine ev_pos h4 ?_
      by_cases h5 : (takeRowL s 4 48).2.1 = []
      · refine ev_pos (by rw [toList_nil, ofB_toB]; exact h5) (ev_bind_const rfl ?_)
        by_cases h6 : mayB o q (takeRowL s 4 48).1 = true
        · rw [takeBatchIf_pos ⟨h1, h2, h3, h4, h5, h6⟩]
          exact ev_pos h6 (Ev.now _)
        · rw [takeBatchIf_neg (fun hh => h6 hh.2.2.2.2.2)]
          exact ev_neg h6 (Ev.now _)
      · rw [takeBatchIf_neg (fun hh => h5 hh.2.2.2.2.1)]
        exact ev_neg (by rw [toList_nil, ofB_toB]; exact h5) (Ev.now _)
    · rw [takeBatchIf_neg (fun hh => h4 hh.2.2.2.1)]
      exact ev_neg h4 (Ev.now _)
  · rw [takeBatchIf_neg (fun hh => h ⟨hh.1, hh.2.1, hh.2.2.1⟩)]
    exact ev_pos (hb.2 h) (Ev.now _)
theorem batchTake_ev (s : ByteArray) (hs : s.size < 4611686018427387904) : Ev (fun k => batch_Take.f k s) (takeBatchL (ofB s)) := by
  have h1 := takeNumL_len (ofB s)
  have h2 := takeNumL_len (takeNumL (ofB s)).2.1
  have h3 := takeNumL_val (ofB s)
  have h4 := takeNumL_val (takeNumL (ofB s)).2.1
  rw [ofB_length] at h1
  have t2 := takeNum_ev (takeNumB s).2.1 (by simp only [takeNumB, toB_size]; omega)
  refine Ev.bind (takeNum_ev s hs) (Ev.bind t2 ?_)
  simp only [takeNumB, ofB_toB]
  have key := fun b => batchTake_j0 (takeNumL (takeNumL (ofB s)).2.1).2.1 (takeNumL (ofB s)).1 (takeNumL (takeNumL (ofB s)).2.1).1 (decide ((takeNumL (ofB s)).2.2 = 0 ∧ (takeNumL (takeNumL (ofB s)).2.1).2.2 = 0)) b (by omega) h3 h4
  by_cases e1 : (takeNumL (ofB s)).2.2 = 0
  · refine ev_pos e1 ?_
    by_cases e2 : (takeNumL (takeNumL (ofB s)).2.1).2.2 = 0
    · refine ev_pos e2 ?_
      by_cases e3 : ((takeNumL (ofB s)).1 : Int) > 64
      · exact ev_pos e3 (key true (by simp [e1, e2]; omega))
      · exact ev_neg e3 (key _ (by simp [e1, e2]; omega))
    · exact ev_neg e2 (key true (by simp [e2]))
  · exact ev_neg e1 (key true (by simp [e1]))
theorem takeBatchL_ok {s : Bs} {o q : Int} {l : List ByteArray} (h : takeBatchL s = (o, q, l, 0)) : s = batchL o q l ∧ mayB o q l = true := by
  unfold takeBatchL takeBatchIf at h
  split at h
  · rename_i hc
    obtain ⟨h1, h2, h3, h4, h5, h6⟩ := hc
    obtain ⟨h7, h8⟩ := of_decide_eq_true h1
    simp only [Prod.mk.injEq, and_true] at h
    obtain ⟨rfl, rfl, rfl⟩ := h
    refine ⟨?_, h6⟩
    rcases hq : takeNumL s with ⟨v, r, e⟩
    rw [hq] at h4 h5 h7 h8
    simp only at h4 h5 h7 h8 ⊢
    subst h7
    obtain ⟨rfl, _⟩ := takeNumL_ok hq
    rcases hq2 : takeNumL r with ⟨v2, r2, e2⟩
    rw [hq2] at h4 h5 h8
    simp only at h4 h5 h8 ⊢
    subst h8
    obtain ⟨rfl, _⟩ := takeNumL_ok hq2
    rcases hq3 : takeRowL r2 4 48 with ⟨l, r3, e3⟩
    rw [hq3] at h4 h5
    simp only at h4 h5 ⊢
    subst h4 h5
    obtain ⟨h9, _⟩ := takeRowL_ok hq3
    rw [List.append_nil] at h9
    rw [batchL, ← h9, Int.toNat_natCast, Int.toNat_natCast, List.append_assoc]
  · simp at h
theorem takeBatchL_batch {o q : Int} {l : List ByteArray} (h : mayB o q l = true) : takeBatchL (batchL o q l) = (o, q, l, 0) := by
  obtain ⟨h1, h2, h3, h4, h5, h6, h7⟩ := (mayB_iff o q l).1 h
  obtain ⟨a, rfl⟩ := Int.eq_ofNat_of_zero_le (show 0 ≤ o by omega)
  obtain ⟨b, rfl⟩ := Int.eq_ofNat_of_zero_le (show 0 ≤ q by omega)
  have e1 : takeNumL (batchL a b l) = (a, numL b ++ rowL l, 0) := by
    rw [batchL, Int.toNat_natCast, Int.toNat_natCast, List.append_assoc]
    exact takeNumL_num (by omega) _
  have e2 : takeNumL (numL b ++ rowL l) = (b, rowL l, 0) := takeNumL_num (by omega) _
  have e3 : takeRowL (rowL l) 4 48 = (l, [], 0) := by
    have := takeRowL_row (l := l) (many := 4) (most := 48) (by omega) (by omega) (fun t ht => by have := h7 t ht; omega) []
    rwa [List.append_nil] at this
  rw [takeBatchL, e1]
  simp only
  rw [e2]
  simp only
  rw [takeBatchIf_pos (by rw [e3]; exact ⟨by simp, h2, h4, rfl, rfl, h⟩), e3]
end Go.Proofs.Ytfhjimeigelibaa.Px
