/- part 16 of the proof of the law PostLetters: texts merged by this session's bundle.py. What is proved: the statement at the end of the last of these texts; its conditions are those of the given row. -/
import Derived.Test.YtnkeecogengfhaaRows
import Derived.Deep.Slices
import Derived.ChangeArms
import Derived.SizedLaws
import Derived.WideOpen
import Derived.Lib.Builder
import Derived.Lib.AppendStr
import Derived.Lib.UnsafeStr
import Derived.Lib.Strings
import Derived.Lib.Slices
import Derived.Lib.Walk
import Derived.Lib.ConvBytes
import Derived.Test.YtnkeecogengfhaaZPostLettersD
import Derived.Test.YtnkeecogengfhaaZPostLettersE
import Derived.Test.YtnkeecogengfhaaZPostLettersF
import Derived.Test.YtnkeecogengfhaaZPostLettersG
import Derived.Test.YtnkeecogengfhaaZPostLettersH
import Derived.Test.YtnkeecogengfhaaZPostLettersI
import Derived.Test.YtnkeecogengfhaaZPostLettersJ
import Derived.Test.YtnkeecogengfhaaZPostLettersM
import Derived.Test.YtnkeecogengfhaaZPostLettersN
import Derived.Test.YtnkeecogengfhaaZPostLettersO
namespace Go.Proofs.Ytnkeecogengfhaa.Px
open Go.RowKit Go.Proofs.YtnkeecogengfhaaW.PrintWords Go.Proofs.YtnkeecogengfhaaW.PrintLast Go.Proofs.YtnkeecogengfhaaW.PrintMore
attribute [local go_sem] max2_int min2_int max_two min_two max_three min_three max_four min_four
set_option linter.unusedVariables false
set_option linter.unusedSimpArgs false
structure Rd (α : Type) where
  t : TypeId
  d : Kd α
  ok : α → Prop
  wt : α → Prop
  bk : α → Nat
structure Fits {α : Type} (P : Program) (r : Rd α) : Prop where
  out : ∀ {H : Type} {enc : TypeId × Value → H} {w : World} {fuel : Nat} {cs : List Value} {x : DataW H × List MemPlace}, DataW.trod enc P w 0 (fun _ => true) true fuel r.t cs = some x →
    ∃ a, r.d.K w a cs ∧ r.ok a ∧ ((∀ n ∈ x.1.weights P r.t, n ≤ reachBytes) → r.wt a) ∧ r.bk a ≤ Rows.uptoBulk x.1
def rdInt (t : TypeId) (k : IntKind) : Rd Int := ⟨t, Kd.int k, fun a => (Lit.int k a).wf = true, fun _ => True, fun _ => 1⟩
def rdString (t : TypeId) : Rd ByteArray := ⟨t, Kd.string, fun a => a.size ≤ maxLen, fun a => a.size ≤ reachBytes, fun a => a.size + 1⟩
def rdSlice {α : Type} (t : TypeId) (B : Nat) (r : Rd α) : Rd (List α) :=
  ⟨t, Kd.slice r.t r.d, fun l => l.length ≤ maxLen ∧ ∀ a ∈ l, r.ok a, fun l => l.length * B ≤ reachBytes ∧ ∀ a ∈ l, r.wt a, fun l => (l.map r.bk).sum + 1⟩
section
variable {P : Program}
theorem fit_int {t : TypeId} {k : IntKind} (h : P.underlying t = some (.int k)) : Fits P (rdInt t k) := by
  constructor
  intro H enc w fuel cs x hx
  obtain ⟨n, rfl, rfl, hw⟩ := DataW.trod_int h hx
  exact ⟨n, rfl, hw, fun _ => trivial, by simp [rdInt, Rows.uptoBulk]⟩
theorem fit_string {t : TypeId} (h : P.underlying t = some .string) : Fits P (rdString t) := by
  constructor
  intro H enc w fuel cs x hx
  obtain ⟨s, rfl, rfl, hs⟩ := DataW.trod_string h hx
  have e : s.data.toList.length = s.size := by rw [Array.length_toList]; rfl
  refine ⟨s, rfl, hs, fun hn => ?_, by simp only [rdString, Rows.uptoBulk, e]; exact Nat.le_refl _⟩
  have := hn s.data.toList.length (by simp [DataW.weights])
  rwa [e] at this
theorem bulkAll_map {H α : Type} (f : Nat → DataW H) (g : Nat → α) (bk : α → Nat) (n : Nat) (h : ∀ i, i < n → bk (g i) ≤ Rows.uptoBulk (f i)) : (((List.range n).map g).map bk).sum ≤ Rows.uptoBulkAll ((List.range n).map f) := by
  suffices k : ∀ l : List Nat, (∀ i ∈ l, i < n) → ((l.map g).map bk).sum ≤ Rows.uptoBulkAll (l.map f) from k _ (fun i hi => List.mem_range.1 hi)
  intro l
  induction l with
  | nil => intro _; simp
  | cons i l ih =>
    intro hl
    have h1 := h i (hl i List.mem_cons_self)
    have h2 := ih (fun j hj => hl j (List.mem_cons_of_mem _ hj))
    simp only [List.map_cons, List.sum_cons, Rows.uptoBulkAll]
    omega
theorem weightsAll_mem {H : Type} {e : TypeId} : ∀ {l : List (DataW H)} {d : DataW H} {n : Nat}, d ∈ l → n ∈ d.weights P e → n ∈ DataW.weightsAll P e l
  | x :: l, d, n, hd, hn => by
    simp only [DataW.weightsAll, List.mem_append]
    rcases List.mem_cons.1 hd with rfl | hd
    · exact .inl hn
    · exact .inr (weightsAll_mem hd hn)
theorem fit_slice {α : Type} [Inhabited α] {r : Rd α} (hr : Fits P r) {t : TypeId} {B : Nat} (h : P.underlying t = some (.slice r.t)) (hc : P.cellsOf r.t = r.d.sz) (hB : P.bytesOf r.t = B) : Fits P (rdSlice t B r) := by
  constructor
  intro H enc w fuel cs x hx
  rcases Deep.open_slice h hx with ⟨rfl, rfl⟩ | ⟨a, len, cap, m, n, D, Pl, rfl, _, hl, hm, hmm, rfl, hel⟩
  · exact ⟨[], ⟨none, 0, rfl, Nat.le_refl _, Kd.C_nil _ _⟩, ⟨Nat.zero_le _, by simp⟩, fun _ => ⟨by simp, by simp⟩, by simp [rdSlice, Rows.uptoBulk]⟩
  · simp only [if_true] at hmm
    subst hmm
    obtain ⟨f, hf⟩ := Deep.choose_lt (α := α) (n := len) (p := fun i v => ∃ c, w.cells? 0 (a.add (i * P.cellsOf r.t)) (P.cellsOf r.t) = some c ∧ r.d.K w v c ∧ r.ok v ∧ ((∀ q ∈ (D i).weights P r.t, q ≤ reachBytes) → r.wt v) ∧ r.bk v ≤ Rows.uptoBulk (D i)) (fun i hi => by
      obtain ⟨cs', h1, h2⟩ := hel i (by omega)
      obtain ⟨v, k1, k2, k3, k4⟩ := hr.out h2
      exact ⟨v, cs', h1, k1, k2, k3, k4⟩)
    have hlen : ((List.range len).map f).length = len := by simp
    refine ⟨(List.range len).map f, ⟨some a, m, by rw [hlen], by rw [hlen]; exact hl, ?_⟩, ⟨by rw [hlen]; omega, ?_⟩, fun hw => ⟨?_, ?_⟩, ?_⟩
    · rw [hlen]
      refine ⟨hlen, by unfold maxLen at hm; omega, fun _ => ⟨a, rfl, fun j p hj => ?_⟩⟩
      have hjl : j < len := by
        have := (List.getElem?_eq_some_iff.1 hj).1
        simpa using this
      obtain ⟨c, c1, c2, _⟩ := hf j hjl
      have hp : f j = p := by simpa [List.getElem?_map, List.getElem?_range hjl] using hj
      obtain ⟨_, l2, l3⟩ := World.cells?_some c1
      refine ⟨c, by rw [l2, hc], hp ▸ c2, fun i u hu => ?_⟩
      have hi : i < P.cellsOf r.t := by rw [← l2]; exact (List.getElem?_eq_some_iff.1 hu).1
      rw [← hc, ← Deep.add_add, l3 i hi]
      exact hu
    · intro v hv
      obtain ⟨i, hi, rfl⟩ := List.mem_map.1 hv
      obtain ⟨c, _, _, h3, _⟩ := hf i (List.mem_range.1 hi)
      exact h3
    · have := hw ((((List.range len).map D).length + ((List.range (m - len)).map fun j => D (len + j)).length) * P.bytesOf r.t) (by show _ ∈ DataW.weights P t _; simp only [DataW.weights, h]; exact List.mem_cons_self)
      rw [hlen]
      rw [hB] at this
      simp only [List.length_map, List.length_range] at this
      exact Nat.le_trans (Nat.mul_le_mul_right _ (by omega)) this
    · intro v hv
      obtain ⟨i, hi, rfl⟩ := List.mem_map.1 hv
      obtain ⟨c, _, _, _, h4, _⟩ := hf i (List.mem_range.1 hi)
      refine h4 (fun q hq => hw q ?_)
      show _ ∈ DataW.weights P t _
      simp only [DataW.weights, h]
      exact List.mem_cons_of_mem _ (List.mem_append_left _ (weightsAll_mem (List.mem_map.2 ⟨i, hi, rfl⟩) hq))
    · simp only [rdSlice, Rows.uptoBulk]
      have := bulkAll_map D f r.bk len (fun i hi => (hf i hi).choose_spec.2.2.2.2)
      omega
structure FieldsFit {β : Type} (P : Program) (fs : List Field) (o : Nat) (d : Kd β) (ok wt : β → Prop) (bk : β → Nat) : Prop where
  out : ∀ {H : Type} {enc : TypeId × Value → H} {w : World} {n : Nat} {cs : List Value} {xs : List (DataW H × List MemPlace)}, xs.length = fs.length → cs.length = o + d.sz →
    (∀ (i : Nat) (f : Field), fs[i]? = some f → DataW.trod enc P w 0 (fun _ => true) true n f.type ((cs.drop f.offset).take (P.cellsOf f.type)) = xs[i]?) →
    ∃ b, d.K w b (cs.drop o) ∧ ok b ∧ ((∀ q ∈ DataW.weightsEach P (fs.map (·.type)) (xs.map (·.1)), q ≤ reachBytes) → wt b) ∧ bk b ≤ Rows.uptoBulkAll (xs.map (·.1))
theorem fields_one {α : Type} {r : Rd α} (hr : Fits P r) {f : Field} (ht : f.type = r.t) {o : Nat} (ho : f.offset = o) (hc : P.cellsOf r.t = r.d.sz) : FieldsFit P [f] o r.d r.ok r.wt r.bk := by
  constructor
  intro H enc w n cs xs hl hcs hx
  match xs, hl with
  | [x], _ =>
    have h := hx 0 f rfl
    rw [ho, ht, hc, List.take_of_length_le (by rw [List.length_drop]; omega)] at h
    obtain ⟨a, h1, h2, h3, h4⟩ := hr.out h
    refine ⟨a, h1, h2, fun hq => h3 (fun q hm => hq q ?_), by simp [Rows.uptoBulkAll]; omega⟩
    simp only [List.map_cons, List.map_nil, DataW.weightsEach, List.mem_append, ht]
    exact .inl hm
theorem fields_cons {α β : Type} {r : Rd α} (hr : Fits P r) {f : Field} (ht : f.type = r.t) {fs : List Field} {o o' : Nat} (ho : f.offset = o) (hc : P.cellsOf r.t = r.d.sz) (ho' : o' = o + r.d.sz) {d : Kd β} {ok wt : β → Prop} {bk : β → Nat} (hfs : FieldsFit P fs o' d ok wt bk) :
    FieldsFit P (f :: fs) o (Kd.pair r.d d) (fun x => r.ok x.1 ∧ ok x.2) (fun x => r.wt x.1 ∧ wt x.2) (fun x => r.bk x.1 + bk x.2) := by
  constructor
  intro H enc w n cs xs hl hcs hx
  match xs, hl with
  | x :: xs, hl =>
    have h := hx 0 f rfl
    have hcs' : cs.length = o + (r.d.sz + d.sz) := hcs
    rw [ho, ht, hc] at h
    obtain ⟨a, h1, h2, h3, h4⟩ := hr.out h
    obtain ⟨b, k1, k2, k3, k4⟩ := hfs.out (enc := enc) (w := w) (n := n) (cs := cs) (xs := xs) (by simpa using hl) (by omega) (fun i g hg => hx (i + 1) g hg)
    refine ⟨(a, b), ⟨(cs.drop o).take r.d.sz, cs.drop o', ?_, h1, k1⟩, ⟨h2, k2⟩, fun hq => ⟨h3 (fun q hm => hq q ?_), k3 (fun q hm => hq q ?_)⟩, ?_⟩
    · rw [ho', ← List.drop_drop, List.take_append_drop]
    · simp only [List.map_cons, DataW.weightsEach, List.mem_append, ht]
      exact .inl hm
    · simp only [List.map_cons, DataW.weightsEach, List.mem_append]
      exact .inr hm
    · simp only [List.map_cons, Rows.uptoBulkAll]; omega
def rdStruct {α β : Type} (t : TypeId) (d : Kd β) (f : α → β) (ok wt : β → Prop) (bk : β → Nat) : Rd α := ⟨t, Kd.iso d f, fun a => ok (f a), fun a => wt (f a), fun a => bk (f a) + 1⟩
theorem fit_struct {α β : Type} {t : TypeId} {fs : List Field} {d : Kd β} {ok wt : β → Prop} {bk : β → Nat} (hfs : FieldsFit P fs 0 d ok wt bk) (h : P.underlying t = some (.struct fs.toArray)) (hc : P.cellsOf t = d.sz) (f : α → β) (g : β → α) (hfg : ∀ b, f (g b) = b) : Fits P (rdStruct t d f ok wt bk) := by
  constructor
  intro H enc w fuel cs x hx
  obtain ⟨xs, n, rfl, rfl, hl, hn, hf⟩ := DataW.trod_struct h hx
  obtain ⟨b, k1, k2, k3, k4⟩ := hfs.out (enc := enc) (w := w) (n := n) (cs := cs) (xs := xs) (by simpa using hn) (by omega) (fun i g hg => hf i g (by simpa using hg))
  refine ⟨g b, ?_, ?_, fun hq => ?_, ?_⟩
  · show d.K w (f (g b)) cs
    rw [hfg]
    exact k1
  · show ok (f (g b))
    rw [hfg]
    exact k2
  · show wt (f (g b))
    rw [hfg]
    refine k3 (fun q hm => hq q ?_)
    show _ ∈ DataW.weights P t _
    simp only [DataW.weights, h]
    exact hm
  · show bk (f (g b)) + 1 ≤ _
    rw [hfg]
    simp only [Rows.uptoBulk]
    omega
end
theorem fit_arg {α H : Type} {P : Program} {r : Rd α} (hr : Fits P r) {enc : TypeId × Value → H} {w : World} {v : Value} {d : DataW H} {ps : List MemPlace} (h : DataW.Trod enc P w 0 (fun _ => true) true r.t v d ps) :
    ∃ a, r.d.K w a v.cells.toList ∧ r.ok a ∧ ((∀ n ∈ d.weights P r.t, n ≤ reachBytes) → r.wt a) ∧ r.bk a ≤ Rows.uptoBulk d := by
  obtain ⟨fuel, hf⟩ := h
  exact hr.out hf
end Go.Proofs.Ytnkeecogengfhaa.Px

namespace Go.Proofs.Ytnkeecogengfhaa.Px
open Go.RowKit Go.Proofs.Ytnkeecogengfhaa.Px Go.Proofs.YtnkeecogengfhaaW.PrintWords Go.Proofs.YtnkeecogengfhaaW.PrintLast Go.Proofs.YtnkeecogengfhaaW.PrintMore
set_option linter.unusedVariables false
instance : Inhabited S61 := ⟨z61⟩
def rd61 : Rd S61 := rdStruct 61 (Kd.pair (rdInt 3 .i64).d (Kd.pair (rdInt 3 .i64).d (rdSlice 23 16 (rdString 9)).d)) (fun x : S61 => (x.f0, x.f1, x.f2)) (fun y => (rdInt 3 .i64).ok y.1 ∧ ((rdInt 3 .i64).ok y.2.1 ∧ ((rdSlice 23 16 (rdString 9)).ok y.2.2))) (fun y => (rdInt 3 .i64).wt y.1 ∧ ((rdInt 3 .i64).wt y.2.1 ∧ ((rdSlice 23 16 (rdString 9)).wt y.2.2))) (fun y => (rdInt 3 .i64).bk y.1 + ((rdInt 3 .i64).bk y.2.1 + ((rdSlice 23 16 (rdString 9)).bk y.2.2)))
theorem fit61 : Fits Try.prog rd61 :=
  fit_struct (fields_cons (o := 0) (o' := 1) (ok := fun (y : Int × (List ByteArray)) => (rdInt 3 .i64).ok y.1 ∧ ((rdSlice 23 16 (rdString 9)).ok y.2)) (wt := fun (y : Int × (List ByteArray)) => (rdInt 3 .i64).wt y.1 ∧ ((rdSlice 23 16 (rdString 9)).wt y.2)) (bk := fun (y : Int × (List ByteArray)) => (rdInt 3 .i64).bk y.1 + ((rdSlice 23 16 (rdString 9)).bk y.2)) (fit_int Try.underlying3) rfl rfl (by kernel_rfl) rfl (fields_cons (o := 1) (o' := 2) (ok := fun (y : (List ByteArray)) => (rdSlice 23 16 (rdString 9)).ok y) (wt := fun (y : (List ByteArray)) => (rdSlice 23 16 (rdString 9)).wt y) (bk := fun (y : (List ByteArray)) => (rdSlice 23 16 (rdString 9)).bk y) (fit_int Try.underlying3) rfl rfl (by kernel_rfl) rfl (fields_one (fit_slice (fit_string Try.underlying9) Try.underlying23 (by kernel_rfl) (by kernel_rfl)) rfl rfl (by kernel_rfl)))) Try.underlying61 (by kernel_rfl) (fun x : S61 => (x.f0, x.f1, x.f2)) (fun y => ⟨y.1, y.2.1, y.2.2⟩) (fun _ => rfl)
instance : Inhabited S25 := ⟨z25⟩
def rd25 : Rd S25 := rdStruct 25 (Kd.pair (rdInt 3 .i64).d (rdInt 3 .i64).d) (fun x : S25 => (x.f0, x.f1)) (fun y => (rdInt 3 .i64).ok y.1 ∧ ((rdInt 3 .i64).ok y.2)) (fun y => (rdInt 3 .i64).wt y.1 ∧ ((rdInt 3 .i64).wt y.2)) (fun y => (rdInt 3 .i64).bk y.1 + ((rdInt 3 .i64).bk y.2))
theorem fit25 : Fits Try.prog rd25 :=
  fit_struct (fields_cons (o := 0) (o' := 1) (ok := fun (y : Int) => (rdInt 3 .i64).ok y) (wt := fun (y : Int) => (rdInt 3 .i64).wt y) (bk := fun (y : Int) => (rdInt 3 .i64).bk y) (fit_int Try.underlying3) rfl rfl (by kernel_rfl) rfl (fields_one (fit_int Try.underlying3) rfl rfl (by kernel_rfl))) Try.underlying25 (by kernel_rfl) (fun x : S25 => (x.f0, x.f1)) (fun y => ⟨y.1, y.2⟩) (fun _ => rfl)
instance : Inhabited S27 := ⟨z27⟩
def rd27 : Rd S27 := rdStruct 27 (Kd.pair (rdInt 3 .i64).d (Kd.pair (rdInt 3 .i64).d (Kd.pair (rdSlice 22 40 rd61).d (Kd.pair (rdSlice 23 16 (rdString 9)).d rd25.d)))) (fun x : S27 => (x.f0, x.f1, x.f2, x.f3, x.f4)) (fun y => (rdInt 3 .i64).ok y.1 ∧ ((rdInt 3 .i64).ok y.2.1 ∧ ((rdSlice 22 40 rd61).ok y.2.2.1 ∧ ((rdSlice 23 16 (rdString 9)).ok y.2.2.2.1 ∧ (rd25.ok y.2.2.2.2))))) (fun y => (rdInt 3 .i64).wt y.1 ∧ ((rdInt 3 .i64).wt y.2.1 ∧ ((rdSlice 22 40 rd61).wt y.2.2.1 ∧ ((rdSlice 23 16 (rdString 9)).wt y.2.2.2.1 ∧ (rd25.wt y.2.2.2.2))))) (fun y => (rdInt 3 .i64).bk y.1 + ((rdInt 3 .i64).bk y.2.1 + ((rdSlice 22 40 rd61).bk y.2.2.1 + ((rdSlice 23 16 (rdString 9)).bk y.2.2.2.1 + (rd25.bk y.2.2.2.2)))))
theorem fit27 : Fits Try.prog rd27 :=
  fit_struct (fields_cons (o := 0) (o' := 1) (ok := fun (y : Int × (List S61) × (List ByteArray) × S25) => (rdInt 3 .i64).ok y.1 ∧ ((rdSlice 22 40 rd61).ok y.2.1 ∧ ((rdSlice 23 16 (rdString 9)).ok y.2.2.1 ∧ (rd25.ok y.2.2.2)))) (wt := fun (y : Int × (List S61) × (List ByteArray) × S25) => (rdInt 3 .i64).wt y.1 ∧ ((rdSlice 22 40 rd61).wt y.2.1 ∧ ((rdSlice 23 16 (rdString 9)).wt y.2.2.1 ∧ (rd25.wt y.2.2.2)))) (bk := fun (y : Int × (List S61) × (List ByteArray) × S25) => (rdInt 3 .i64).bk y.1 + ((rdSlice 22 40 rd61).bk y.2.1 + ((rdSlice 23 16 (rdString 9)).bk y.2.2.1 + (rd25.bk y.2.2.2)))) (fit_int Try.underlying3) rfl rfl (by kernel_rfl) rfl (fields_cons (o := 1) (o' := 2) (ok := fun (y : (List S61) × (List ByteArray) × S25) => (rdSlice 22 40 rd61).ok y.1 ∧ ((rdSlice 23 16 (rdString 9)).ok y.2.1 ∧ (rd25.ok y.2.2))) (wt := fun (y : (List S61) × (List ByteArray) × S25) => (rdSlice 22 40 rd61).wt y.1 ∧ ((rdSlice 23 16 (rdString 9)).wt y.2.1 ∧ (rd25.wt y.2.2))) (bk := fun (y : (List S61) × (List ByteArray) × S25) => (rdSlice 22 40 rd61).bk y.1 + ((rdSlice 23 16 (rdString 9)).bk y.2.1 + (rd25.bk y.2.2))) (fit_int Try.underlying3) rfl rfl (by kernel_rfl) rfl (fields_cons (o := 2) (o' := 3) (ok := fun (y : (List ByteArray) × S25) => (rdSlice 23 16 (rdString 9)).ok y.1 ∧ (rd25.ok y.2)) (wt := fun (y : (List ByteArray) × S25) => (rdSlice 23 16 (rdString 9)).wt y.1 ∧ (rd25.wt y.2)) (bk := fun (y : (List ByteArray) × S25) => (rdSlice 23 16 (rdString 9)).bk y.1 + (rd25.bk y.2)) (fit_slice fit61 Try.underlying22 (by kernel_rfl) (by kernel_rfl)) rfl rfl (by kernel_rfl) rfl (fields_cons (o := 3) (o' := 4) (ok := fun (y : S25) => rd25.ok y) (wt := fun (y : S25) => rd25.wt y) (bk := fun (y : S25) => rd25.bk y) (fit_slice (fit_string Try.underlying9) Try.underlying23 (by kernel_rfl) (by kernel_rfl)) rfl rfl (by kernel_rfl) rfl (fields_one fit25 rfl rfl (by kernel_rfl)))))) Try.underlying27 (by kernel_rfl) (fun x : S27 => (x.f0, x.f1, x.f2, x.f3, x.f4)) (fun y => ⟨y.1, y.2.1, y.2.2.1, y.2.2.2.1, y.2.2.2.2⟩) (fun _ => rfl)
instance : Inhabited S30 := ⟨z30⟩
def rd30 : Rd S30 := rdStruct 30 (Kd.pair (rdInt 3 .i64).d (Kd.pair (rdInt 3 .i64).d (Kd.pair (rdInt 3 .i64).d (rdString 9).d))) (fun x : S30 => (x.f0, x.f1, x.f2, x.f3)) (fun y => (rdInt 3 .i64).ok y.1 ∧ ((rdInt 3 .i64).ok y.2.1 ∧ ((rdInt 3 .i64).ok y.2.2.1 ∧ ((rdString 9).ok y.2.2.2)))) (fun y => (rdInt 3 .i64).wt y.1 ∧ ((rdInt 3 .i64).wt y.2.1 ∧ ((rdInt 3 .i64).wt y.2.2.1 ∧ ((rdString 9).wt y.2.2.2)))) (fun y => (rdInt 3 .i64).bk y.1 + ((rdInt 3 .i64).bk y.2.1 + ((rdInt 3 .i64).bk y.2.2.1 + ((rdString 9).bk y.2.2.2))))
theorem fit30 : Fits Try.prog rd30 :=
  fit_struct (fields_cons (o := 0) (o' := 1) (ok := fun (y : Int × Int × ByteArray) => (rdInt 3 .i64).ok y.1 ∧ ((rdInt 3 .i64).ok y.2.1 ∧ ((rdString 9).ok y.2.2))) (wt := fun (y : Int × Int × ByteArray) => (rdInt 3 .i64).wt y.1 ∧ ((rdInt 3 .i64).wt y.2.1 ∧ ((rdString 9).wt y.2.2))) (bk := fun (y : Int × Int × ByteArray) => (rdInt 3 .i64).bk y.1 + ((rdInt 3 .i64).bk y.2.1 + ((rdString 9).bk y.2.2))) (fit_int Try.underlying3) rfl rfl (by kernel_rfl) rfl (fields_cons (o := 1) (o' := 2) (ok := fun (y : Int × ByteArray) => (rdInt 3 .i64).ok y.1 ∧ ((rdString 9).ok y.2)) (wt := fun (y : Int × ByteArray) => (rdInt 3 .i64).wt y.1 ∧ ((rdString 9).wt y.2)) (bk := fun (y : Int × ByteArray) => (rdInt 3 .i64).bk y.1 + ((rdString 9).bk y.2)) (fit_int Try.underlying3) rfl rfl (by kernel_rfl) rfl (fields_cons (o := 2) (o' := 3) (ok := fun (y : ByteArray) => (rdString 9).ok y) (wt := fun (y : ByteArray) => (rdString 9).wt y) (bk := fun (y : ByteArray) => (rdString 9).bk y) (fit_int Try.underlying3) rfl rfl (by kernel_rfl) rfl (fields_one (fit_string Try.underlying9) rfl rfl (by kernel_rfl))))) Try.underlying30 (by kernel_rfl) (fun x : S30 => (x.f0, x.f1, x.f2, x.f3)) (fun y => ⟨y.1, y.2.1, y.2.2.1, y.2.2.2⟩) (fun _ => rfl)
instance : Inhabited S52 := ⟨z52⟩
def rd52 : Rd S52 := rdStruct 52 (Kd.pair rd27.d (Kd.pair (rdInt 28 .u64).d (Kd.pair rd30.d (rdInt 3 .i64).d))) (fun x : S52 => (x.f0, x.f1, x.f2, x.f3)) (fun y => rd27.ok y.1 ∧ ((rdInt 28 .u64).ok y.2.1 ∧ (rd30.ok y.2.2.1 ∧ ((rdInt 3 .i64).ok y.2.2.2)))) (fun y => rd27.wt y.1 ∧ ((rdInt 28 .u64).wt y.2.1 ∧ (rd30.wt y.2.2.1 ∧ ((rdInt 3 .i64).wt y.2.2.2)))) (fun y => rd27.bk y.1 + ((rdInt 28 .u64).bk y.2.1 + (rd30.bk y.2.2.1 + ((rdInt 3 .i64).bk y.2.2.2))))
theorem fit52 : Fits Try.prog rd52 :=
  fit_struct (fields_cons (o := 0) (o' := 6) (ok := fun (y : Int × S30 × Int) => (rdInt 28 .u64).ok y.1 ∧ (rd30.ok y.2.1 ∧ ((rdInt 3 .i64).ok y.2.2))) (wt := fun (y : Int × S30 × Int) => (rdInt 28 .u64).wt y.1 ∧ (rd30.wt y.2.1 ∧ ((rdInt 3 .i64).wt y.2.2))) (bk := fun (y : Int × S30 × Int) => (rdInt 28 .u64).bk y.1 + (rd30.bk y.2.1 + ((rdInt 3 .i64).bk y.2.2))) fit27 rfl rfl (by kernel_rfl) rfl (fields_cons (o := 6) (o' := 7) (ok := fun (y : S30 × Int) => rd30.ok y.1 ∧ ((rdInt 3 .i64).ok y.2)) (wt := fun (y : S30 × Int) => rd30.wt y.1 ∧ ((rdInt 3 .i64).wt y.2)) (bk := fun (y : S30 × Int) => rd30.bk y.1 + ((rdInt 3 .i64).bk y.2)) (fit_int Try.underlying28) rfl rfl (by kernel_rfl) rfl (fields_cons (o := 7) (o' := 11) (ok := fun (y : Int) => (rdInt 3 .i64).ok y) (wt := fun (y : Int) => (rdInt 3 .i64).wt y) (bk := fun (y : Int) => (rdInt 3 .i64).bk y) fit30 rfl rfl (by kernel_rfl) rfl (fields_one (fit_int Try.underlying3) rfl rfl (by kernel_rfl))))) Try.underlying52 (by kernel_rfl) (fun x : S52 => (x.f0, x.f1, x.f2, x.f3)) (fun y => ⟨y.1, y.2.1, y.2.2.1, y.2.2.2⟩) (fun _ => rfl)
def selvedgelaw18_PostLetters_PureS : Prop := ∀ (a0 : S52), rd52.ok a0 → rd52.wt a0 → ∃ k, selvedgelaw18_PostLetters.f k (a0.f0.f0) (a0.f0.f1) (a0.f0.f2) (a0.f0.f3) (a0.f0.f4.f0) (a0.f0.f4.f1) (a0.f1) (a0.f2.f0) (a0.f2.f1) (a0.f2.f2) (a0.f2.f3) (a0.f3) = some true
end Go.Proofs.Ytnkeecogengfhaa.Px

namespace Go.Proofs.Ytnkeecogengfhaa.Px
open Go.RowKit Go.Proofs.YtnkeecogengfhaaW.PrintWords Go.Proofs.YtnkeecogengfhaaW.PrintLast Go.Proofs.YtnkeecogengfhaaW.PrintMore
attribute [local go_sem] max2_int min2_int max_two min_two max_three min_three max_four min_four
set_option linter.unusedVariables false
set_option linter.unusedSimpArgs false
def namedB (a r : Int) (d : ByteArray) : Bool := decide (1 ≤ a) && decide (a ≤ 64) && decide (1 ≤ r) && decide (r ≤ 1048576) && decide (d.size = 32)
def seatB (a : Int) : Bool := decide (1 ≤ a) && decide (a ≤ 64)
theorem post_seat_of (a : Int) : post_seat.f a = some (seatB a) := by
  unfold post_seat.f seatB
  by_cases h : a ≥ 1
  · rw [if_pos h]; have : 1 ≤ a := h; simp [this]
  · rw [if_neg h]; have : ¬ 1 ≤ a := h; simp [this]
theorem post_may_of (a r : Int) (d : ByteArray) : post_may.f a r d = some (namedB a r d) := by
  unfold post_may.f namedB
  rw [post_seat_of]
  simp only [Option.bind_some, seatB]
  by_cases h1 : 1 ≤ a <;> by_cases h2 : a ≤ 64 <;> by_cases h3 : 1 ≤ r <;> by_cases h4 : r ≤ 1048576 <;> simp [h1, h2, h3, h4]
  by_cases h5 : d.size = 32
  · simp [h5]
  · have : ¬ (d.size : Int) = 32 := by omega
    rw [decide_eq_false h5]; exact beq_eq_false_iff_ne.2 this
end Go.Proofs.Ytnkeecogengfhaa.Px

namespace Go.Proofs.Ytnkeecogengfhaa.Px
open Go.RowKit Go.Proofs.YtnkeecogengfhaaW.PrintWords Go.Proofs.YtnkeecogengfhaaW.PrintLast Go.Proofs.YtnkeecogengfhaaW.PrintMore
attribute [local go_sem] max2_int min2_int max_two min_two max_three min_three max_four min_four
set_option linter.unusedVariables false
set_option linter.unusedSimpArgs false
theorem digits_NumZ {x : Int} (h0 : 0 ≤ x) (h1 : x < 9223372036854775808) : digits_Num.f (IntKind.u64.wrap x) = some (numB x.toNat) := by
  rw [u64_wrap_of h0 (by omega), digits_Num.f, if_pos h0, if_pos (by omega)]
theorem namedB_iff (a r : Int) (d : ByteArray) : namedB a r d = true ↔ 1 ≤ a ∧ a ≤ 64 ∧ 1 ≤ r ∧ r ≤ 1048576 ∧ d.size = 32 := by
  unfold namedB; simp [and_assoc]
theorem seatB_iff (a : Int) : seatB a = true ↔ 1 ≤ a ∧ a ≤ 64 := by
  unfold seatB; simp
def sayW (a r v : Int) (d : ByteArray) : Bs := numL a.toNat ++ (numL r.toNat ++ (numL v.toNat ++ ofB d))
def ballotW (a r : Int) (d : ByteArray) : Bs := numL a.toNat ++ (numL r.toNat ++ ofB d)
def sayR (a r v : Int) (d : ByteArray) : ByteArray × Int := if namedB a r d = true ∧ seatB v = true then (toB (121 :: sayW a r v d), 0) else ((⟨#[]⟩ : ByteArray), 1)
def ballotR (a r : Int) (d : ByteArray) : ByteArray × Int := if namedB a r d = true then (toB (118 :: ballotW a r d), 0) else ((⟨#[]⟩ : ByteArray), 1)
theorem sayB_eq (a r v : Nat) (d : ByteArray) : ((((⟨#[121]⟩ : ByteArray) ++ numB a) ++ numB r) ++ numB v) ++ d = toB (121 :: (numL a ++ (numL r ++ (numL v ++ ofB d)))) := by
  apply ofB_inj
  simp only [ofB_append, ofB_toB, numB]
  show (([121] : Bs) ++ numL a ++ numL r ++ numL v ++ ofB d) = _
  simp
theorem ballotB_eq (a r : Nat) (d : ByteArray) : (((⟨#[118]⟩ : ByteArray) ++ numB a) ++ numB r) ++ d = toB (118 :: (numL a ++ (numL r ++ ofB d))) := by
  apply ofB_inj
  simp only [ofB_append, ofB_toB, numB]
  show (([118] : Bs) ++ numL a ++ numL r ++ ofB d) = _
  simp
theorem size_one (c : UInt8) : (⟨#[c]⟩ : ByteArray).size = 1 := rfl
theorem post_Say_ev (a r v : Int) (d : ByteArray) : Ev (fun k => post_Say.f k a r v d) (sayR a r v d) := by
  refine ev_bind_const (post_may_of _ _ _) ?_
  unfold sayR
  have bad : Ev (fun k => post_Say.j0 k true a r v d) ((⟨#[]⟩ : ByteArray), 1) := Ev.step (fun k => by rw [post_Say.j0]) (ev_pos rfl (Ev.now _))
  by_cases h : namedB a r d = true
  · refine ev_pos h (ev_bind_const (post_seat_of _) ?_)
    by_cases hv : seatB v = true
    · rw [if_pos ⟨h, hv⟩, hv]
      refine Ev.step (fun k => by rw [post_Say.j0]) ?_
      obtain ⟨h1, h2, h3, h4, h5⟩ := (namedB_iff _ _ _).1 h
      obtain ⟨h6, h7⟩ := (seatB_iff _).1 hv
      have s0 := numB_size (v := a.toNat) (by omega)
      have s1 := numB_size (v := r.toNat) (by omega)
      have s2 := numB_size (v := v.toNat) (by omega)
      refine ev_neg (by simp) (ev_bind_const (digits_NumZ (by omega) (by omega)) (ev_pos (by omega) (ev_bind_const (digits_NumZ (by omega) (by omega)) (ev_pos (by rw [ByteArray.size_append, size_one]; omega) (ev_bind_const (digits_NumZ (by omega) (by omega)) (ev_pos (by simp only [ByteArray.size_append, size_one]; omega) (ev_pos (by simp only [ByteArray.size_append, size_one]; omega) ?_)))))))
      rw [sayB_eq, ← sayW]
      exact Ev.now _
    · rw [if_neg (fun hh => hv hh.2)]
      rw [Bool.not_eq_true] at hv
      rw [hv]; exact bad
  · rw [if_neg (fun hh => h hh.1)]
    exact ev_neg h bad
theorem post_Ballot_of (a r : Int) (d : ByteArray) : post_Ballot.f a r d = some (ballotR a r d) := by
  unfold post_Ballot.f
  rw [post_may_of]
  simp only [Option.bind_some]
  unfold ballotR
  by_cases h : namedB a r d = true
  · rw [if_pos h, if_pos h]
    obtain ⟨h1, h2, h3, h4, h5⟩ := (namedB_iff _ _ _).1 h
    have s0 := numB_size (v := a.toNat) (by omega)
    have s1 := numB_size (v := r.toNat) (by omega)
    rw [digits_NumZ (by omega) (by omega), digits_NumZ (by omega) (by omega)]
    simp only [Option.bind_some]
    rw [if_pos (by omega), if_pos (by rw [ByteArray.size_append, size_one]; omega), if_pos (by simp only [ByteArray.size_append, size_one]; omega), ballotB_eq, ← ballotW]
  · rw [if_neg h, if_neg h]
theorem post_Kind_of (s : ByteArray) : post_Kind.f s = some ((((ofB s).head?.map (fun c => (c.toNat : Int))).getD 0)) := by
  unfold post_Kind.f
  rw [toList_ofB]
  rcases hq : ofB s with _ | ⟨c, t⟩
  · rfl
  · have hz : s.size = t.length + 1 := by rw [← ofB_length, hq]; rfl
    rw [if_neg (by simp), if_pos (by omega)]
    have := bt_ofB s 0
    rw [hq] at this
    rw [show ((0 : Nat) : Int) = 0 from rfl] at this
    rw [this]; rfl
def d32 : ByteArray := strOfNums (List.replicate 32 0)
theorem d32_size : d32.size = 32 := by
  rw [d32, strOfNums_toB, toB_size, List.length_map, List.length_replicate]
theorem shown18_ev : Ev (fun k => selvedgelaw18_shown.f k) true := by
  unfold selvedgelaw18_shown.f
  refine ev_pos (by omega) (ev_bind_const rfl ?_)
  have hn : namedB 1 2 d32 = true := by rw [namedB_iff]; exact ⟨by omega, by omega, by omega, by omega, d32_size⟩
  have hz : (strOfNums (List.replicate 32 0)).size = 32 := d32_size
  refine Ev.bind (post_Say_ev 1 2 3 d32) (ev_pos (by omega) ?_)
  have hs : sayR 1 2 3 d32 = (toB (121 :: sayW 1 2 3 d32), 0) := if_pos ⟨hn, by decide⟩
  have b3 : be 3 = [3] := by rw [be_pos (by omega)]; simp [be_zero]
  have e : (toB (121 :: sayW 1 2 3 d32)).toList = ((⟨#[121, 1, 1, 1, 2, 1, 3]⟩ : ByteArray) ++ strOfNums (List.replicate 32 0)).toList := by
    rw [toList_ofB, toList_ofB, ofB_toB, ofB_append]
    show 121 :: (numL 1 ++ (numL 2 ++ (numL 3 ++ ofB d32))) = _
    rw [numL, numL, numL, be_1, be_2, b3]
    rfl
  rw [hs]
  refine ev_pos e (ev_pos rfl (ev_bind_const (post_Kind_of _) (ev_pos rfl (ev_bind_const (post_Kind_of _) (ev_eq (Ev.now _) ?_)))))
  rw [ofB_toB]; rfl
end Go.Proofs.Ytnkeecogengfhaa.Px

namespace Go.Proofs.Ytnkeecogengfhaa.Px
open Go.RowKit Go.Proofs.YtnkeecogengfhaaW.PrintWords Go.Proofs.YtnkeecogengfhaaW.PrintLast Go.Proofs.YtnkeecogengfhaaW.PrintMore
attribute [local go_sem] max2_int min2_int max_two min_two max_three min_three max_four min_four
set_option linter.unusedVariables false
set_option linter.unusedSimpArgs false
end Go.Proofs.Ytnkeecogengfhaa.Px

namespace Go.Proofs.Ytnkeecogengfhaa.Px
open Go.RowKit Go.Proofs.YtnkeecogengfhaaW.PrintWords Go.Proofs.YtnkeecogengfhaaW.PrintLast Go.Proofs.YtnkeecogengfhaaW.PrintMore
attribute [local go_sem] max2_int min2_int max_two min_two max_three min_three max_four min_four
set_option linter.unusedVariables false
set_option linter.unusedSimpArgs false
end Go.Proofs.Ytnkeecogengfhaa.Px

namespace Go.Proofs.Ytnkeecogengfhaa.Px
open Go.RowKit Go.Proofs.YtnkeecogengfhaaW.PrintWords Go.Proofs.YtnkeecogengfhaaW.PrintLast Go.Proofs.YtnkeecogengfhaaW.PrintMore
attribute [local go_sem] max2_int min2_int max_two min_two max_three min_three max_four min_four
set_option linter.unusedVariables false
set_option linter.unusedSimpArgs false
def OwnBytes (w : World) (base : Nat) (e : TypeId) (v : Value) (l : Bs) : Prop :=
  ∃ g cap cur fz, v = .slice (some ⟨g, 0, none⟩) l.length cap ∧ base ≤ g ∧ w.heap[g]? = some (.cells cur e fz) ∧ (fz.2 ≤ l.length ∨ cap ≤ fz.1) ∧ l.length ≤ cap ∧ cap ≤ maxLen ∧ cur.size = cap ∧ cur.toList.take l.length = Lib.byteCells l
theorem OwnBytes.below {w w' : World} {base : Nat} {e : TypeId} {v : Value} {l : Bs} (h : OwnBytes w base e v l) (hb : Below w.heap.size w w') : OwnBytes w' base e v l := by
  obtain ⟨g, cap, cur, fz, rfl, hg, hh, r⟩ := h
  exact ⟨g, cap, cur, fz, rfl, hg, (hb.block g (Array.getElem?_eq_some_iff.1 hh).1).trans hh, r⟩
theorem OwnBytes.string {P : Program} {w : World} {base : Nat} {e src : TypeId} {v : Value} {l : Bs} (hown : OwnBytes w base e v l) (hs : P.underlying src = some (.slice e)) (he : P.underlying e = some (.int .u8)) :
    ∀ dst, P.underlying dst = some .string → (convert src dst v).run P w = .ok (.string (toB l)) w := by
  obtain ⟨g, cap, cur, fz, rfl, hbg, hg, hfz, hnc, hcm, hcs, htake⟩ := hown
  intro dst hd
  have h := run_convert_bytes_arg (P := P) w src e hs he g 0 l.length cap (l.map fun b => (b.toNat : Int)) (by simp) (fun i hi => by
    have h1 : (Lib.byteCells l)[i]? = some (.int .u8 ((l.map fun b => (b.toNat : Int)).getD i 0)) := by
      simp [Lib.byteCells, List.getElem?_eq_getElem hi]
    rw [← htake, List.getElem?_take, if_pos hi] at h1
    rw [Nat.zero_add]
    simp [World.cell?, hg]
    simpa using h1) dst hd
  rw [h]
  congr 3
  rw [strOfNums_toB, List.map_map]
  congr 1
  rw [List.map_congr_left (g := id) (fun b _ => by simp), List.map_id]
end Go.Proofs.Ytnkeecogengfhaa.Px

namespace Go.Proofs.Ytnkeecogengfhaa.Px
open Go.RowKit Go.Proofs.YtnkeecogengfhaaW.PrintWords Go.Proofs.YtnkeecogengfhaaW.PrintLast Go.Proofs.YtnkeecogengfhaaW.PrintMore
attribute [local go_sem] max2_int min2_int max_two min_two max_three min_three max_four min_four
set_option linter.unusedVariables false
set_option linter.unusedSimpArgs false
end Go.Proofs.Ytnkeecogengfhaa.Px

namespace Go.Proofs.Ytnkeecogengfhaa.Px
open Go.RowKit Go.Proofs.YtnkeecogengfhaaW.PrintWords Go.Proofs.YtnkeecogengfhaaW.PrintLast Go.Proofs.YtnkeecogengfhaaW.PrintMore
attribute [local go_sem] max2_int min2_int max_two min_two max_three min_three max_four min_four
set_option linter.unusedVariables false
set_option linter.unusedSimpArgs false
end Go.Proofs.Ytnkeecogengfhaa.Px

namespace Go.Proofs.Ytnkeecogengfhaa.Px
open Go.RowKit Go.Proofs.YtnkeecogengfhaaW.PrintWords Go.Proofs.YtnkeecogengfhaaW.PrintLast Go.Proofs.YtnkeecogengfhaaW.PrintMore
attribute [local go_sem] max2_int min2_int max_two min_two max_three min_three max_four min_four
set_option linter.unusedVariables false
set_option linter.unusedSimpArgs false
end Go.Proofs.Ytnkeecogengfhaa.Px

namespace Go.Proofs.Ytnkeecogengfhaa.Px
open Go.RowKit Go.Proofs.YtnkeecogengfhaaW.PrintWords Go.Proofs.YtnkeecogengfhaaW.PrintLast Go.Proofs.YtnkeecogengfhaaW.PrintMore
attribute [local go_sem] max2_int min2_int max_two min_two max_three min_three max_four min_four
set_option linter.unusedVariables false
set_option linter.unusedSimpArgs false
end Go.Proofs.Ytnkeecogengfhaa.Px

namespace Go.Proofs.Ytnkeecogengfhaa.Px
open Go.RowKit Go.Proofs.YtnkeecogengfhaaW.PrintWords Go.Proofs.YtnkeecogengfhaaW.PrintLast Go.Proofs.YtnkeecogengfhaaW.PrintMore
attribute [local go_sem] max2_int min2_int max_two min_two max_three min_three max_four min_four
set_option linter.unusedVariables false
set_option linter.unusedSimpArgs false
end Go.Proofs.Ytnkeecogengfhaa.Px

namespace Go.Proofs.Ytnkeecogengfhaa.Px
open Go.RowKit Go.Proofs.YtnkeecogengfhaaW.PrintWords Go.Proofs.YtnkeecogengfhaaW.PrintLast Go.Proofs.YtnkeecogengfhaaW.PrintMore
attribute [local go_sem] max2_int min2_int max_two min_two max_three min_three max_four min_four
set_option linter.unusedVariables false
set_option linter.unusedSimpArgs false
end Go.Proofs.Ytnkeecogengfhaa.Px

namespace Go.Proofs.Ytnkeecogengfhaa.Px
open Go.RowKit Go.Proofs.YtnkeecogengfhaaW.PrintWords Go.Proofs.YtnkeecogengfhaaW.PrintLast Go.Proofs.YtnkeecogengfhaaW.PrintMore
attribute [local go_sem] max2_int min2_int max_two min_two max_three min_three max_four min_four
set_option linter.unusedVariables false
set_option linter.unusedSimpArgs false
end Go.Proofs.Ytnkeecogengfhaa.Px

namespace Go.Proofs.Ytnkeecogengfhaa.Px
open Go.RowKit Go.Proofs.YtnkeecogengfhaaW.PrintWords Go.Proofs.YtnkeecogengfhaaW.PrintLast Go.Proofs.YtnkeecogengfhaaW.PrintMore
attribute [local go_sem] max2_int min2_int max_two min_two max_three min_three max_four min_four
set_option linter.unusedVariables false
set_option linter.unusedSimpArgs false
end Go.Proofs.Ytnkeecogengfhaa.Px

namespace Go.Proofs.Ytnkeecogengfhaa.Px
open Go.RowKit Go.Proofs.YtnkeecogengfhaaW.PrintWords Go.Proofs.YtnkeecogengfhaaW.PrintLast Go.Proofs.YtnkeecogengfhaaW.PrintMore
attribute [local go_sem] max2_int min2_int max_two min_two max_three min_three max_four min_four
set_option linter.unusedVariables false
set_option linter.unusedSimpArgs false
end Go.Proofs.Ytnkeecogengfhaa.Px

namespace Go.Proofs.Ytnkeecogengfhaa.Px
open Go.RowKit Go.Proofs.YtnkeecogengfhaaW.PrintWords Go.Proofs.YtnkeecogengfhaaW.PrintLast Go.Proofs.YtnkeecogengfhaaW.PrintMore
attribute [local go_sem] max2_int min2_int max_two min_two max_three min_three max_four min_four
set_option linter.unusedVariables false
set_option linter.unusedSimpArgs false
end Go.Proofs.Ytnkeecogengfhaa.Px

namespace Go.Proofs.Ytnkeecogengfhaa.Px
open Go.RowKit Go.Proofs.YtnkeecogengfhaaW.PrintWords Go.Proofs.YtnkeecogengfhaaW.PrintLast Go.Proofs.YtnkeecogengfhaaW.PrintMore
attribute [local go_sem] max2_int min2_int max_two min_two max_three min_three max_four min_four
set_option linter.unusedVariables false
set_option linter.unusedSimpArgs false
end Go.Proofs.Ytnkeecogengfhaa.Px

namespace Go.Proofs.Ytnkeecogengfhaa.Px
open Go.RowKit Go.Proofs.YtnkeecogengfhaaW.PrintWords Go.Proofs.YtnkeecogengfhaaW.PrintLast Go.Proofs.YtnkeecogengfhaaW.PrintMore
attribute [local go_sem] max2_int min2_int max_two min_two max_three min_three max_four min_four
set_option linter.unusedVariables false
set_option linter.unusedSimpArgs false
end Go.Proofs.Ytnkeecogengfhaa.Px

namespace Go.Proofs.Ytnkeecogengfhaa.Px
open Go.RowKit Go.Proofs.YtnkeecogengfhaaW.PrintWords Go.Proofs.YtnkeecogengfhaaW.PrintLast Go.Proofs.YtnkeecogengfhaaW.PrintMore
attribute [local go_sem] max2_int min2_int max_two min_two max_three min_three max_four min_four
set_option linter.unusedVariables false
set_option linter.unusedSimpArgs false
end Go.Proofs.Ytnkeecogengfhaa.Px

namespace Go.Proofs.Ytnkeecogengfhaa.Px
open Go.RowKit Go.Proofs.YtnkeecogengfhaaW.PrintWords Go.Proofs.YtnkeecogengfhaaW.PrintLast Go.Proofs.YtnkeecogengfhaaW.PrintMore
attribute [local go_sem] max2_int min2_int max_two min_two max_three min_three max_four min_four
set_option linter.unusedVariables false
set_option linter.unusedSimpArgs false
end Go.Proofs.Ytnkeecogengfhaa.Px

namespace Go.Proofs.Ytnkeecogengfhaa.Px
open Go.RowKit Go.Proofs.YtnkeecogengfhaaW.PrintWords Go.Proofs.YtnkeecogengfhaaW.PrintLast Go.Proofs.YtnkeecogengfhaaW.PrintMore
attribute [local go_sem] max2_int min2_int max_two min_two max_three min_three max_four min_four
set_option linter.unusedVariables false
set_option linter.unusedSimpArgs false
def selvedgeref10_Bytes.T5 : Bool × List (List Nat × List Nat) := (true, [([], []), ([0], [0]), ([], []), ([2], [2]), ([3, 1], [3]), ([1, 4], [1, 4]), ([5, 4, 0, 1, 2, 3, 4, 5], [5]), ([6, 0, 1, 2, 3, 4, 5, 6], [])])
def selvedgeref10_Bytes.B5 : List Nat := [0, 1, 0, 4, 15, 31, 63, 127]
theorem selvedgeref10_Bytes.tab5 : rtab .any (opsOf Try.f20 5) = selvedgeref10_Bytes.T5 := by kernel_rfl
theorem selvedgeref10_Bytes.bits5 : waitsOk selvedgeref10_Bytes.T5.2 selvedgeref10_Bytes.B5 = true := by kernel_rfl
end Go.Proofs.Ytnkeecogengfhaa.Px

namespace Go.Proofs.Ytnkeecogengfhaa.Px
open Go.RowKit Go.Proofs.YtnkeecogengfhaaW.PrintWords Go.Proofs.YtnkeecogengfhaaW.PrintLast Go.Proofs.YtnkeecogengfhaaW.PrintMore
attribute [local go_sem] max2_int min2_int max_two min_two max_three min_three max_four min_four
set_option linter.unusedVariables false
set_option linter.unusedSimpArgs false
end Go.Proofs.Ytnkeecogengfhaa.Px

namespace Go.Proofs.Ytnkeecogengfhaa.Px
open Go.RowKit Go.Proofs.YtnkeecogengfhaaW.PrintWords Go.Proofs.YtnkeecogengfhaaW.PrintLast Go.Proofs.YtnkeecogengfhaaW.PrintMore
attribute [local go_sem] max2_int min2_int max_two min_two max_three min_three max_four min_four
set_option linter.unusedVariables false
set_option linter.unusedSimpArgs false
end Go.Proofs.Ytnkeecogengfhaa.Px

namespace Go.Proofs.Ytnkeecogengfhaa.Px
open Go.RowKit Go.Proofs.YtnkeecogengfhaaW.PrintWords Go.Proofs.YtnkeecogengfhaaW.PrintLast Go.Proofs.YtnkeecogengfhaaW.PrintMore
attribute [local go_sem] max2_int min2_int max_two min_two max_three min_three max_four min_four
set_option linter.unusedVariables false
set_option linter.unusedSimpArgs false
def vertexL (a r : Int) (bs : List S61) (ps : List ByteArray) (x y : Int) : Bs :=
  numL a.toNat ++ numL r.toNat ++ rowL (bs.map bB) ++ rowL ps ++ numL x.toNat ++ numL y.toNat
theorem mayV_iff (a r : Int) (bs : List S61) (ps : List ByteArray) (x y n : Int) : mayV a r bs ps x y n = true ↔ mayN n = true ∧ 1 ≤ a ∧ a ≤ n ∧ 1 ≤ r ∧ r ≤ 1048576 ∧ bs.length ≤ 4 ∧ bs.any (oddB n) = false ∧ mayE x y = true ∧ (thirdR r = true ∨ x = 0 ∧ y = 0) ∧ parentsB ps r n = true := by
  unfold mayV
  simp [and_assoc]
theorem upFrom_size (l : List ByteArray) (d : Nat) : ∀ j, upFrom l d j = true → ∀ i, j ≤ i → i < j + d → (l.getD i ByteArray.empty).size = 32 := by
  induction d with
  | zero => intro j _ i h1 h2; omega
  | succ d ih =>
    intro j h i h1 h2
    rw [upFrom, Bool.and_eq_true] at h
    rcases Nat.lt_or_ge j i with h3 | h3
    · exact ih (j + 1) h.2 i (by omega) (by omega)
    · obtain rfl : i = j := by omega
      have := h.1
      rw [upAt, Bool.and_eq_true] at this
      exact of_decide_eq_true this.1
theorem parentsB_small {l : List ByteArray} {r n : Int} (hn : mayN n = true) (h : parentsB l r n = true) : l.length ≤ 64 ∧ ∀ t ∈ l, t.size = 32 := by
  unfold parentsB at h
  split at h
  · have h0 := of_decide_eq_true h
    obtain rfl := List.eq_nil_of_length_eq_zero h0
    simp
  · obtain ⟨_, h2, _⟩ := (mayN_iff n).1 hn
    rw [Bool.and_eq_true, Bool.and_eq_true] at h
    have h3 := of_decide_eq_true h.2
    refine ⟨by omega, fun t ht => ?_⟩
    obtain ⟨i, hi, rfl⟩ := List.mem_iff_getElem.1 ht
    have := upFrom_size l l.length 0 h.1.1 i (by omega) (by omega)
    rwa [List.getD_eq_getElem?_getD, List.getElem?_eq_getElem hi] at this
theorem bB_size (b : S61) : (bB b).size ≤ 400 := by
  unfold bB
  split
  · rename_i h
    obtain ⟨h1, h2, h3, h4, h5, h6, h7⟩ := (mayB_iff _ _ _).1 h
    have r1 := rowOf_le b.f2 48 (by omega) (fun t ht => (h7 t ht).2)
    have r2 := numL_length (v := b.f2.length) (by omega)
    have r4 := numL_length (v := b.f0.toNat) (by omega)
    have r5 := numL_length (v := b.f1.toNat) (by omega)
    rw [toB_size, batchL, List.length_append, List.length_append, rowL, List.length_append]; omega
  · show 0 ≤ 400; omega
theorem rowL_bs {bs : List S61} (h : bs.length ≤ 4) : (rowL (bs.map bB)).length ≤ 1700 := by
  have r1 := rowOf_le (bs.map bB) 400 (by omega) (fun t ht => by obtain ⟨b, _, rfl⟩ := List.mem_map.1 ht; exact bB_size b)
  rw [List.length_map] at r1
  have r2 := numL_length (v := (bs.map bB).length) (by rw [List.length_map]; omega)
  rw [rowL, List.length_append]; omega
theorem rowL_ps {ps : List ByteArray} (h : ps.length ≤ 64 ∧ ∀ t ∈ ps, t.size = 32) : (rowL ps).length ≤ 2700 := by
  have r1 := rowOf_le ps 32 (by omega) (fun t ht => by have := h.2 t ht; omega)
  have r2 := numL_length (v := ps.length) (by have := h.1; omega)
  rw [rowL, List.length_append]; have := h.1; omega
theorem rd_four (a b c d : ByteArray) : rdOf ByteArray.empty [a, b, c, d] 0 = a ∧ rdOf ByteArray.empty [a, b, c, d] 1 = b ∧ rdOf ByteArray.empty [a, b, c, d] 2 = c ∧ rdOf ByteArray.empty [a, b, c, d] 3 = d := ⟨rfl, rfl, rfl, rfl⟩
theorem vertex_Bytes_of (a r : Int) (bs : List S61) (ps : List ByteArray) (x y n : Int) :
    vertex_Bytes.f a r bs ps x y n = some (if mayV a r bs ps x y n = true then (toB (vertexL a r bs ps x y), 0) else ((⟨#[]⟩ : ByteArray), 1)) := by
  unfold vertex_Bytes.f
  rw [show vertex_May.f a r bs ps x y n = some (mayV a r bs ps x y n) from rfl]
  simp only [Option.bind_some]
  by_cases h : mayV a r bs ps x y n = true
  · rw [if_pos h, if_pos h]
    obtain ⟨h0, h1, h2, h3, h4, h5, h6, h7, h8, h9⟩ := (mayV_iff ..).1 h
    obtain ⟨k1, k2, k3⟩ := (mayN_iff n).1 h0
    obtain ⟨x1, x2, y1, y2⟩ := (mayE_iff x y).1 h7
    have e1 : vertex_each1.f bs = some (bs.map bB) := if_pos h5
    have e2 : vertex_each2.f [a, r, x, y] = some [numB a.toNat, numB r.toNat, numB x.toNat, numB y.toNat] := by
      rw [vertex_each2.f, if_pos]
      · rfl
      · refine ⟨Nat.le_refl 4, fun k hk => ?_⟩
        simp only [List.mem_cons, List.not_mem_nil, or_false] at hk
        rcases hk with rfl | rfl | rfl | rfl <;> omega
    have s0 := numB_size (v := a.toNat) (by omega)
    have s1 := numB_size (v := r.toNat) (by omega)
    have s2 := numB_size (v := x.toNat) (by omega)
    have s3 := numB_size (v := y.toNat) (by omega)
    have r1 := rowL_bs h5
    have r2 := rowL_ps (parentsB_small h0 h9)
    have d1 : digits_Row.f (bs.map bB) = some (toB (rowL (bs.map bB))) := if_pos (by omega)
    have d2 : digits_Row.f ps = some (toB (rowL ps)) := if_pos (by omega)
    rw [e1, e2]
    simp only [Option.bind_some, d1, d2]
    obtain ⟨q0, q1, q2, q3⟩ := rd_four (numB a.toNat) (numB r.toNat) (numB x.toNat) (numB y.toNat)
    rw [q0, q1, q2, q3]
    simp only [ByteArray.size_append, toB_size]
    rw [if_pos (by simp), if_pos (by simp), if_pos (by omega), if_pos (by omega), if_pos (by omega), if_pos (by simp), if_pos (by omega), if_pos (by simp), if_pos (by omega)]
    simp only [vertexL, numB, toB_append]
  · rw [if_neg h, if_neg h]
instance decBatch : DecidableEq S61 := fun a b => decidable_of_iff (a.f0 = b.f0 ∧ a.f1 = b.f1 ∧ a.f2 = b.f2) ⟨fun ⟨h0, h1, h2⟩ => by obtain ⟨a0, a1, a2⟩ := a; obtain ⟨b0, b1, b2⟩ := b; simp only at h0 h1 h2; rw [h0, h1, h2], fun h => by rw [h]; exact ⟨rfl, rfl, rfl⟩⟩
end Go.Proofs.Ytnkeecogengfhaa.Px

namespace Go.Proofs.Ytnkeecogengfhaa.Px
open Go.RowKit Go.Proofs.YtnkeecogengfhaaW.PrintWords Go.Proofs.YtnkeecogengfhaaW.PrintLast Go.Proofs.YtnkeecogengfhaaW.PrintMore
attribute [local go_sem] max2_int min2_int max_two min_two max_three min_three max_four min_four
set_option linter.unusedVariables false
set_option linter.unusedSimpArgs false
theorem vertexL_len {a r : Int} {bs : List S61} {ps : List ByteArray} {x y n : Int} (h : mayV a r bs ps x y n = true) : (vertexL a r bs ps x y).length ≤ 1000000 := by
  obtain ⟨h0, h1, h2, h3, h4, h5, h6, h7, h8, h9⟩ := (mayV_iff ..).1 h
  obtain ⟨k1, k2, k3⟩ := (mayN_iff n).1 h0
  obtain ⟨x1, x2, y1, y2⟩ := (mayE_iff x y).1 h7
  obtain ⟨p1, p2⟩ := parentsB_small h0 h9
  have r1 := rowOf_le (bs.map bB) 400 (by omega) (fun t ht => by
    obtain ⟨b, _, rfl⟩ := List.mem_map.1 ht
    exact bB_size b)
  have r2 := rowOf_le ps 32 (by omega) (fun t ht => by have := p2 t ht; omega)
  have l1 := numL_length (v := (bs.map bB).length) (by rw [List.length_map]; omega)
  have l2 := numL_length (v := ps.length) (by omega)
  have l3 := numL_length (v := a.toNat) (by omega)
  have l4 := numL_length (v := r.toNat) (by omega)
  have l5 := numL_length (v := x.toNat) (by omega)
  have l6 := numL_length (v := y.toNat) (by omega)
  have l7 : (bs.map bB).length = bs.length := List.length_map ..
  rw [vertexL, rowL, rowL]
  simp only [List.length_append]
  have m1 : (bs.map bB).length * (400 + 9) ≤ 4 * 409 := Nat.mul_le_mul (by omega) (by omega)
  have m2 : ps.length * (32 + 9) ≤ 64 * 41 := Nat.mul_le_mul (by omega) (by omega)
  omega
end Go.Proofs.Ytnkeecogengfhaa.Px

namespace Go.Proofs.Ytnkeecogengfhaa.Px
open Go.RowKit Go.Proofs.YtnkeecogengfhaaW.PrintWords Go.Proofs.YtnkeecogengfhaaW.PrintLast Go.Proofs.YtnkeecogengfhaaW.PrintMore
attribute [local go_sem] max2_int min2_int max_two min_two max_three min_three max_four min_four
set_option linter.unusedVariables false
set_option linter.unusedSimpArgs false
end Go.Proofs.Ytnkeecogengfhaa.Px

namespace Go.Proofs.Ytnkeecogengfhaa.Px
open Go.RowKit Go.Proofs.YtnkeecogengfhaaW.PrintWords Go.Proofs.YtnkeecogengfhaaW.PrintLast Go.Proofs.YtnkeecogengfhaaW.PrintMore
attribute [local go_sem] max2_int min2_int max_two min_two max_three min_three max_four min_four
set_option linter.unusedVariables false
set_option linter.unusedSimpArgs false
end Go.Proofs.Ytnkeecogengfhaa.Px
