/- Part 26 of 28 of the proof of the law CertFewer: what is proved is the statement at the end of the last part; its conditions are those of the given row. -/
import Derived.Test.YtlabjgcoopdbiaaRows
import Derived.Deep.Slices
import Derived.ChangeArms
import Derived.SizedLaws
import Derived.WideOpen
import Derived.Test.YtlabjgcoopdbiaaZCertFewerY
namespace Go.Proofs.Ytlabjgcoopdbiaa.Px
open Go.RowKit Go.Proofs.YtlabjgcoopdbiaaW.PrintWords Go.Proofs.YtlabjgcoopdbiaaW.PrintLast Go.Proofs.YtlabjgcoopdbiaaW.PrintMore
attribute [local go_sem] zB zD zL zM zx zy zC zE
set_option linter.unusedVariables false
set_option linter.unusedSimpArgs false
structure Rd (α : Type) where
  t : TypeId
  d : Kd α
  ok : α → Prop
  wt : α → Prop
  bk : α → Nat
structure zdx {α : Type} (P : Program) (r : Rd α) : Prop where
  out : ∀ {H : Type} {enc : TypeId × Value → H} {w : World} {fuel : Nat} {cs : List Value} {x : DataW H × List MemPlace}, DataW.trod enc P w 0 (fun _ => true) true fuel r.t cs = some x →
    ∃ a, r.d.K w a cs ∧ r.ok a ∧ ((∀ n ∈ x.1.weights P r.t, n ≤ reachBytes) → r.wt a) ∧ r.bk a ≤ Rows.uptoBulk x.1
def zam (t : TypeId) (k : IntKind) : Rd Int := ⟨t, Kd.int k, fun a => (Lit.int k a).wf = true, fun _ => True, fun _ => 1⟩
def zai (t : TypeId) : Rd ByteArray := ⟨t, Kd.string, fun a => a.size ≤ maxLen, fun a => a.size ≤ reachBytes, fun a => a.size + 1⟩
def zac {α : Type} (t : TypeId) (B : Nat) (r : Rd α) : Rd (List α) :=
  ⟨t, Kd.slice r.t r.d, fun l => l.length ≤ maxLen ∧ ∀ a ∈ l, r.ok a, fun l => l.length * B ≤ reachBytes ∧ ∀ a ∈ l, r.wt a, fun l => (l.map r.bk).sum + 1⟩
section
variable {P : Program}
theorem zbW {t : TypeId} {k : IntKind} (h : P.underlying t = some (.int k)) : zdx P (zam t k) := by
  constructor
  intro H enc w fuel cs x hx
  obtain ⟨n, rfl, rfl, hw⟩ := DataW.trod_int h hx
  exact ⟨n, rfl, hw, fun _ => trivial, by simp [zam, Rows.uptoBulk]⟩
theorem zdp {t : TypeId} (h : P.underlying t = some .string) : zdx P (zai t) := by
  constructor
  intro H enc w fuel cs x hx
  obtain ⟨s, rfl, rfl, hs⟩ := DataW.trod_string h hx
  have e : s.data.toList.length = s.size := by rw [Array.length_toList]; rfl
  refine ⟨s, rfl, hs, fun hn => ?_, by simp only [zai, Rows.uptoBulk, e]; exact Nat.le_refl _⟩
  have := hn s.data.toList.length (by simp [DataW.weights])
  rwa [e] at this
theorem zfQ {H α : Type} (f : Nat → DataW H) (g : Nat → α) (bk : α → Nat) (n : Nat) (h : ∀ i, i < n → bk (g i) ≤ Rows.uptoBulk (f i)) : (((List.range n).map g).map bk).sum ≤ Rows.uptoBulkAll ((List.range n).map f) := by
  suffices k : ∀ l : List Nat, (∀ i ∈ l, i < n) → ((l.map g).map bk).sum ≤ Rows.uptoBulkAll (l.map f) from k _ (fun i hi => List.mem_range.1 hi)
  intro l
  induction l with
  | nil => intro _; simp
  | cons i l ih =>
    intro hl
    have h1 := h i (hl i List.mem_cons_self)
    have h2 := ih (fun j hj => hl j (List.mem_cons_of_mem _ hj))
    simp only [List.map_cons, List.sum_cons, Rows.uptoBulkAll]
    omega
theorem zc3 {H : Type} {e : TypeId} : ∀ {l : List (DataW H)} {d : DataW H} {n : Nat}, d ∈ l → n ∈ d.weights P e → n ∈ DataW.weightsAll P e l
  | x :: l, d, n, hd, hn => by
    simp only [DataW.weightsAll, List.mem_append]
    rcases List.mem_cons.1 hd with rfl | hd
    · exact .inl hn
    · exact .inr (zc3 hd hn)
theorem zc5 {α : Type} [Inhabited α] {r : Rd α} (hr : zdx P r) {t : TypeId} {B : Nat} (h : P.underlying t = some (.slice r.t)) (hc : P.cellsOf r.t = r.d.sz) (hB : P.bytesOf r.t = B) : zdx P (zac t B r) := by
  constructor
  intro H enc w fuel cs x hx
  rcases Deep.open_slice h hx with ⟨rfl, rfl⟩ | ⟨a, len, cap, m, n, D, Pl, rfl, _, hl, hm, hmm, rfl, hel⟩
  · exact ⟨[], ⟨none, 0, rfl, Nat.le_refl _, Kd.C_nil _ _⟩, ⟨Nat.zero_le _, by simp⟩, fun _ => ⟨by simp, by simp⟩, by simp [zac, Rows.uptoBulk]⟩
  · simp only [if_true] at hmm
    subst hmm
    obtain ⟨f, hf⟩ := Deep.choose_lt (α := α) (n := len) (p := fun i v => ∃ c, w.cells? 0 (a.add (i * P.cellsOf r.t)) (P.cellsOf r.t) = some c ∧ r.d.K w v c ∧ r.ok v ∧ ((∀ q ∈ (D i).weights P r.t, q ≤ reachBytes) → r.wt v) ∧ r.bk v ≤ Rows.uptoBulk (D i)) (fun i hi => by
      obtain ⟨cs', h1, h2⟩ := hel i (by omega)
      obtain ⟨v, k1, k2, k3, k4⟩ := hr.out h2
      exact ⟨v, cs', h1, k1, k2, k3, k4⟩)
    have hlen : ((List.range len).map f).length = len := by simp
    refine ⟨(List.range len).map f, ⟨some a, m, by rw [hlen], by rw [hlen]; exact hl, ?_⟩, ⟨by rw [hlen]; omega, ?_⟩, fun hw => ⟨?_, ?_⟩, ?_⟩
    · rw [hlen]
      refine ⟨hlen, by unfold maxLen at hm; omega, fun _ => ⟨a, rfl, fun j p hj => ?_⟩⟩
      have hjl : j < len := by
        have := (List.getElem?_eq_some_iff.1 hj).1
        simpa using this
      obtain ⟨c, c1, c2, _⟩ := hf j hjl
      have hp : f j = p := by simpa [List.getElem?_map, List.getElem?_range hjl] using hj
      obtain ⟨_, l2, l3⟩ := World.cells?_some c1
      refine ⟨c, by rw [l2, hc], hp ▸ c2, fun i u hu => ?_⟩
      have hi : i < P.cellsOf r.t := by rw [← l2]; exact (List.getElem?_eq_some_iff.1 hu).1
      rw [← hc, ← Deep.add_add, l3 i hi]
      exact hu
    · intro v hv
      obtain ⟨i, hi, rfl⟩ := List.mem_map.1 hv
      obtain ⟨c, _, _, h3, _⟩ := hf i (List.mem_range.1 hi)
      exact h3
    · have := hw ((((List.range len).map D).length + ((List.range (m - len)).map fun j => D (len + j)).length) * P.bytesOf r.t) (by show _ ∈ DataW.weights P t _; simp only [DataW.weights, h]; exact List.mem_cons_self)
      rw [hlen]
      rw [hB] at this
      simp only [List.length_map, List.length_range] at this
      exact Nat.le_trans (Nat.mul_le_mul_right _ (by omega)) this
    · intro v hv
      obtain ⟨i, hi, rfl⟩ := List.mem_map.1 hv
      obtain ⟨c, _, _, _, h4, _⟩ := hf i (List.mem_range.1 hi)
      refine h4 (fun q hq => hw q ?_)
      show _ ∈ DataW.weights P t _
      simp only [DataW.weights, h]
      exact List.mem_cons_of_mem _ (List.mem_append_left _ (zc3 (List.mem_map.2 ⟨i, hi, rfl⟩) hq))
    · simp only [zac, Rows.uptoBulk]
      have := zfQ D f r.bk len (fun i hi => (hf i hi).choose_spec.2.2.2.2)
      omega
structure zc4 {β : Type} (P : Program) (fs : List Field) (o : Nat) (d : Kd β) (ok wt : β → Prop) (bk : β → Nat) : Prop where
  out : ∀ {H : Type} {enc : TypeId × Value → H} {w : World} {n : Nat} {cs : List Value} {xs : List (DataW H × List MemPlace)}, xs.length = fs.length → cs.length = o + d.sz →
    (∀ (i : Nat) (f : Field), fs[i]? = some f → DataW.trod enc P w 0 (fun _ => true) true n f.type ((cs.drop f.offset).take (P.cellsOf f.type)) = xs[i]?) →
    ∃ b, d.K w b (cs.drop o) ∧ ok b ∧ ((∀ q ∈ DataW.weightsEach P (fs.map (·.type)) (xs.map (·.1)), q ≤ reachBytes) → wt b) ∧ bk b ≤ Rows.uptoBulkAll (xs.map (·.1))
theorem zbP {α : Type} {r : Rd α} (hr : zdx P r) {f : Field} (ht : f.type = r.t) {o : Nat} (ho : f.offset = o) (hc : P.cellsOf r.t = r.d.sz) : zc4 P [f] o r.d r.ok r.wt r.bk := by
  constructor
  intro H enc w n cs xs hl hcs hx
  match xs, hl with
  | [x], _ =>
    have h := hx 0 f rfl
    rw [ho, ht, hc, List.take_of_length_le (by rw [List.length_drop]; omega)] at h
    obtain ⟨a, h1, h2, h3, h4⟩ := hr.out h
    refine ⟨a, h1, h2, fun hq => h3 (fun q hm => hq q ?_), by simp [Rows.uptoBulkAll]; omega⟩
    simp only [List.map_cons, List.map_nil, DataW.weightsEach, List.mem_append, ht]
    exact .inl hm
theorem zaM {α β : Type} {r : Rd α} (hr : zdx P r) {f : Field} (ht : f.type = r.t) {fs : List Field} {o o' : Nat} (ho : f.offset = o) (hc : P.cellsOf r.t = r.d.sz) (ho' : o' = o + r.d.sz) {d : Kd β} {ok wt : β → Prop} {bk : β → Nat} (hfs : zc4 P fs o' d ok wt bk) :
    zc4 P (f :: fs) o (Kd.pair r.d d) (fun x => r.ok x.1 ∧ ok x.2) (fun x => r.wt x.1 ∧ wt x.2) (fun x => r.bk x.1 + bk x.2) := by
  constructor
  intro H enc w n cs xs hl hcs hx
  match xs, hl with
  | x :: xs, hl =>
    have h := hx 0 f rfl
    have hcs' : cs.length = o + (r.d.sz + d.sz) := hcs
    rw [ho, ht, hc] at h
    obtain ⟨a, h1, h2, h3, h4⟩ := hr.out h
    obtain ⟨b, k1, k2, k3, k4⟩ := hfs.out (enc := enc) (w := w) (n := n) (cs := cs) (xs := xs) (by simpa using hl) (by omega) (fun i g hg => hx (i + 1) g hg)
    refine ⟨(a, b), ⟨(cs.drop o).take r.d.sz, cs.drop o', ?_, h1, k1⟩, ⟨h2, k2⟩, fun hq => ⟨h3 (fun q hm => hq q ?_), k3 (fun q hm => hq q ?_)⟩, ?_⟩
    · rw [ho', ← List.drop_drop, List.take_append_drop]
    · simp only [List.map_cons, DataW.weightsEach, List.mem_append, ht]
      exact .inl hm
    · simp only [List.map_cons, DataW.weightsEach, List.mem_append]
      exact .inr hm
    · simp only [List.map_cons, Rows.uptoBulkAll]; omega
def zcd {α β : Type} (t : TypeId) (d : Kd β) (f : α → β) (ok wt : β → Prop) (bk : β → Nat) : Rd α := ⟨t, Kd.iso d f, fun a => ok (f a), fun a => wt (f a), fun a => bk (f a) + 1⟩
theorem zbQ {α β : Type} {t : TypeId} {fs : List Field} {d : Kd β} {ok wt : β → Prop} {bk : β → Nat} (hfs : zc4 P fs 0 d ok wt bk) (h : P.underlying t = some (.struct fs.toArray)) (hc : P.cellsOf t = d.sz) (f : α → β) (g : β → α) (hfg : ∀ b, f (g b) = b) : zdx P (zcd t d f ok wt bk) := by
  constructor
  intro H enc w fuel cs x hx
  obtain ⟨xs, n, rfl, rfl, hl, hn, hf⟩ := DataW.trod_struct h hx
  obtain ⟨b, k1, k2, k3, k4⟩ := hfs.out (enc := enc) (w := w) (n := n) (cs := cs) (xs := xs) (by simpa using hn) (by omega) (fun i g hg => hf i g (by simpa using hg))
  refine ⟨g b, ?_, ?_, fun hq => ?_, ?_⟩
  · show d.K w (f (g b)) cs
    rw [hfg]
    exact k1
  · show ok (f (g b))
    rw [hfg]
    exact k2
  · show wt (f (g b))
    rw [hfg]
    refine k3 (fun q hm => hq q ?_)
    show _ ∈ DataW.weights P t _
    simp only [DataW.weights, h]
    exact hm
  · show bk (f (g b)) + 1 ≤ _
    rw [hfg]
    simp only [Rows.uptoBulk]
    omega
end
theorem zh2 {α H : Type} {P : Program} {r : Rd α} (hr : zdx P r) {enc : TypeId × Value → H} {w : World} {v : Value} {d : DataW H} {ps : List MemPlace} (h : DataW.Trod enc P w 0 (fun _ => true) true r.t v d ps) :
    ∃ a, r.d.K w a v.cells.toList ∧ r.ok a ∧ ((∀ n ∈ d.weights P r.t, n ≤ reachBytes) → r.wt a) ∧ r.bk a ≤ Rows.uptoBulk d := by
  obtain ⟨fuel, hf⟩ := h
  exact hr.out hf
end Go.Proofs.Ytlabjgcoopdbiaa.Px

namespace Go.Proofs.Ytlabjgcoopdbiaa.Px
open Go.RowKit Go.Proofs.Ytlabjgcoopdbiaa.Px Go.Proofs.YtlabjgcoopdbiaaW.PrintWords Go.Proofs.YtlabjgcoopdbiaaW.PrintLast Go.Proofs.YtlabjgcoopdbiaaW.PrintMore
set_option linter.unusedVariables false
instance : Inhabited S58 := ⟨z58⟩
def zf3 : Rd S58 := zcd 58 (Kd.pair (zam 3 .i64).d (zai 9).d) (fun x : S58 => (x.f0, x.f1)) (fun y => (zam 3 .i64).ok y.1 ∧ ((zai 9).ok y.2)) (fun y => (zam 3 .i64).wt y.1 ∧ ((zai 9).wt y.2)) (fun y => (zam 3 .i64).bk y.1 + ((zai 9).bk y.2))
theorem fit58 : zdx Try.prog zf3 :=
  zbQ (zaM (o := 0) (o' := 1) (ok := fun (y : ByteArray) => (zai 9).ok y) (wt := fun (y : ByteArray) => (zai 9).wt y) (bk := fun (y : ByteArray) => (zai 9).bk y) (zbW Try.underlying3) rfl rfl (by kernel_rfl) rfl (zbP (zdp Try.underlying9) rfl rfl (by kernel_rfl))) Try.underlying58 (by kernel_rfl) (fun x : S58 => (x.f0, x.f1)) (fun y => ⟨y.1, y.2⟩) (fun _ => rfl)
instance : Inhabited S68 := ⟨z68⟩
def zeG : Rd S68 := zcd 68 (Kd.pair (zam 3 .i64).d (Kd.pair (zam 3 .i64).d (zac 27 16 (zai 9)).d)) (fun x : S68 => (x.f0, x.f1, x.f2)) (fun y => (zam 3 .i64).ok y.1 ∧ ((zam 3 .i64).ok y.2.1 ∧ ((zac 27 16 (zai 9)).ok y.2.2))) (fun y => (zam 3 .i64).wt y.1 ∧ ((zam 3 .i64).wt y.2.1 ∧ ((zac 27 16 (zai 9)).wt y.2.2))) (fun y => (zam 3 .i64).bk y.1 + ((zam 3 .i64).bk y.2.1 + ((zac 27 16 (zai 9)).bk y.2.2)))
theorem fit68 : zdx Try.prog zeG :=
  zbQ (zaM (o := 0) (o' := 1) (ok := fun (y : Int × (List ByteArray)) => (zam 3 .i64).ok y.1 ∧ ((zac 27 16 (zai 9)).ok y.2)) (wt := fun (y : Int × (List ByteArray)) => (zam 3 .i64).wt y.1 ∧ ((zac 27 16 (zai 9)).wt y.2)) (bk := fun (y : Int × (List ByteArray)) => (zam 3 .i64).bk y.1 + ((zac 27 16 (zai 9)).bk y.2)) (zbW Try.underlying3) rfl rfl (by kernel_rfl) rfl (zaM (o := 1) (o' := 2) (ok := fun (y : (List ByteArray)) => (zac 27 16 (zai 9)).ok y) (wt := fun (y : (List ByteArray)) => (zac 27 16 (zai 9)).wt y) (bk := fun (y : (List ByteArray)) => (zac 27 16 (zai 9)).bk y) (zbW Try.underlying3) rfl rfl (by kernel_rfl) rfl (zbP (zc5 (zdp Try.underlying9) Try.underlying27 (by kernel_rfl) (by kernel_rfl)) rfl rfl (by kernel_rfl)))) Try.underlying68 (by kernel_rfl) (fun x : S68 => (x.f0, x.f1, x.f2)) (fun y => ⟨y.1, y.2.1, y.2.2⟩) (fun _ => rfl)
instance : Inhabited S29 := ⟨z29⟩
def zcZ : Rd S29 := zcd 29 (Kd.pair (zam 3 .i64).d (zam 3 .i64).d) (fun x : S29 => (x.f0, x.f1)) (fun y => (zam 3 .i64).ok y.1 ∧ ((zam 3 .i64).ok y.2)) (fun y => (zam 3 .i64).wt y.1 ∧ ((zam 3 .i64).wt y.2)) (fun y => (zam 3 .i64).bk y.1 + ((zam 3 .i64).bk y.2))
theorem fit29 : zdx Try.prog zcZ :=
  zbQ (zaM (o := 0) (o' := 1) (ok := fun (y : Int) => (zam 3 .i64).ok y) (wt := fun (y : Int) => (zam 3 .i64).wt y) (bk := fun (y : Int) => (zam 3 .i64).bk y) (zbW Try.underlying3) rfl rfl (by kernel_rfl) rfl (zbP (zbW Try.underlying3) rfl rfl (by kernel_rfl))) Try.underlying29 (by kernel_rfl) (fun x : S29 => (x.f0, x.f1)) (fun y => ⟨y.1, y.2⟩) (fun _ => rfl)
instance : Inhabited S31 := ⟨z31⟩
def zhH : Rd S31 := zcd 31 (Kd.pair (zam 3 .i64).d (Kd.pair (zam 3 .i64).d (Kd.pair (zac 26 40 zeG).d (Kd.pair (zac 27 16 (zai 9)).d zcZ.d)))) (fun x : S31 => (x.f0, x.f1, x.f2, x.f3, x.f4)) (fun y => (zam 3 .i64).ok y.1 ∧ ((zam 3 .i64).ok y.2.1 ∧ ((zac 26 40 zeG).ok y.2.2.1 ∧ ((zac 27 16 (zai 9)).ok y.2.2.2.1 ∧ (zcZ.ok y.2.2.2.2))))) (fun y => (zam 3 .i64).wt y.1 ∧ ((zam 3 .i64).wt y.2.1 ∧ ((zac 26 40 zeG).wt y.2.2.1 ∧ ((zac 27 16 (zai 9)).wt y.2.2.2.1 ∧ (zcZ.wt y.2.2.2.2))))) (fun y => (zam 3 .i64).bk y.1 + ((zam 3 .i64).bk y.2.1 + ((zac 26 40 zeG).bk y.2.2.1 + ((zac 27 16 (zai 9)).bk y.2.2.2.1 + (zcZ.bk y.2.2.2.2)))))
theorem fit31 : zdx Try.prog zhH :=
  zbQ (zaM (o := 0) (o' := 1) (ok := fun (y : Int × (List S68) × (List ByteArray) × S29) => (zam 3 .i64).ok y.1 ∧ ((zac 26 40 zeG).ok y.2.1 ∧ ((zac 27 16 (zai 9)).ok y.2.2.1 ∧ (zcZ.ok y.2.2.2)))) (wt := fun (y : Int × (List S68) × (List ByteArray) × S29) => (zam 3 .i64).wt y.1 ∧ ((zac 26 40 zeG).wt y.2.1 ∧ ((zac 27 16 (zai 9)).wt y.2.2.1 ∧ (zcZ.wt y.2.2.2)))) (bk := fun (y : Int × (List S68) × (List ByteArray) × S29) => (zam 3 .i64).bk y.1 + ((zac 26 40 zeG).bk y.2.1 + ((zac 27 16 (zai 9)).bk y.2.2.1 + (zcZ.bk y.2.2.2)))) (zbW Try.underlying3) rfl rfl (by kernel_rfl) rfl (zaM (o := 1) (o' := 2) (ok := fun (y : (List S68) × (List ByteArray) × S29) => (zac 26 40 zeG).ok y.1 ∧ ((zac 27 16 (zai 9)).ok y.2.1 ∧ (zcZ.ok y.2.2))) (wt := fun (y : (List S68) × (List ByteArray) × S29) => (zac 26 40 zeG).wt y.1 ∧ ((zac 27 16 (zai 9)).wt y.2.1 ∧ (zcZ.wt y.2.2))) (bk := fun (y : (List S68) × (List ByteArray) × S29) => (zac 26 40 zeG).bk y.1 + ((zac 27 16 (zai 9)).bk y.2.1 + (zcZ.bk y.2.2))) (zbW Try.underlying3) rfl rfl (by kernel_rfl) rfl (zaM (o := 2) (o' := 3) (ok := fun (y : (List ByteArray) × S29) => (zac 27 16 (zai 9)).ok y.1 ∧ (zcZ.ok y.2)) (wt := fun (y : (List ByteArray) × S29) => (zac 27 16 (zai 9)).wt y.1 ∧ (zcZ.wt y.2)) (bk := fun (y : (List ByteArray) × S29) => (zac 27 16 (zai 9)).bk y.1 + (zcZ.bk y.2)) (zc5 fit68 Try.underlying26 (by kernel_rfl) (by kernel_rfl)) rfl rfl (by kernel_rfl) rfl (zaM (o := 3) (o' := 4) (ok := fun (y : S29) => zcZ.ok y) (wt := fun (y : S29) => zcZ.wt y) (bk := fun (y : S29) => zcZ.bk y) (zc5 (zdp Try.underlying9) Try.underlying27 (by kernel_rfl) (by kernel_rfl)) rfl rfl (by kernel_rfl) rfl (zbP fit29 rfl rfl (by kernel_rfl)))))) Try.underlying31 (by kernel_rfl) (fun x : S31 => (x.f0, x.f1, x.f2, x.f3, x.f4)) (fun y => ⟨y.1, y.2.1, y.2.2.1, y.2.2.2.1, y.2.2.2.2⟩) (fun _ => rfl)
instance : Inhabited S34 := ⟨z34⟩
def zeF : Rd S34 := zcd 34 (Kd.pair zhH.d (zam 32 .u64).d) (fun x : S34 => (x.f0, x.f1)) (fun y => zhH.ok y.1 ∧ ((zam 32 .u64).ok y.2)) (fun y => zhH.wt y.1 ∧ ((zam 32 .u64).wt y.2)) (fun y => zhH.bk y.1 + ((zam 32 .u64).bk y.2))
theorem fit34 : zdx Try.prog zeF :=
  zbQ (zaM (o := 0) (o' := 6) (ok := fun (y : Int) => (zam 32 .u64).ok y) (wt := fun (y : Int) => (zam 32 .u64).wt y) (bk := fun (y : Int) => (zam 32 .u64).bk y) fit31 rfl rfl (by kernel_rfl) rfl (zbP (zbW Try.underlying32) rfl rfl (by kernel_rfl))) Try.underlying34 (by kernel_rfl) (fun x : S34 => (x.f0, x.f1)) (fun y => ⟨y.1, y.2⟩) (fun _ => rfl)
instance : Inhabited S36 := ⟨z36⟩
def zia : Rd S36 := zcd 36 (Kd.pair (zam 3 .i64).d (Kd.pair (zac 25 24 zf3).d (Kd.pair zeF.d (zam 32 .u64).d))) (fun x : S36 => (x.f0, x.f1, x.f2, x.f3)) (fun y => (zam 3 .i64).ok y.1 ∧ ((zac 25 24 zf3).ok y.2.1 ∧ (zeF.ok y.2.2.1 ∧ ((zam 32 .u64).ok y.2.2.2)))) (fun y => (zam 3 .i64).wt y.1 ∧ ((zac 25 24 zf3).wt y.2.1 ∧ (zeF.wt y.2.2.1 ∧ ((zam 32 .u64).wt y.2.2.2)))) (fun y => (zam 3 .i64).bk y.1 + ((zac 25 24 zf3).bk y.2.1 + (zeF.bk y.2.2.1 + ((zam 32 .u64).bk y.2.2.2))))
theorem fit36 : zdx Try.prog zia :=
  zbQ (zaM (o := 0) (o' := 1) (ok := fun (y : (List S58) × S34 × Int) => (zac 25 24 zf3).ok y.1 ∧ (zeF.ok y.2.1 ∧ ((zam 32 .u64).ok y.2.2))) (wt := fun (y : (List S58) × S34 × Int) => (zac 25 24 zf3).wt y.1 ∧ (zeF.wt y.2.1 ∧ ((zam 32 .u64).wt y.2.2))) (bk := fun (y : (List S58) × S34 × Int) => (zac 25 24 zf3).bk y.1 + (zeF.bk y.2.1 + ((zam 32 .u64).bk y.2.2))) (zbW Try.underlying3) rfl rfl (by kernel_rfl) rfl (zaM (o := 1) (o' := 2) (ok := fun (y : S34 × Int) => zeF.ok y.1 ∧ ((zam 32 .u64).ok y.2)) (wt := fun (y : S34 × Int) => zeF.wt y.1 ∧ ((zam 32 .u64).wt y.2)) (bk := fun (y : S34 × Int) => zeF.bk y.1 + ((zam 32 .u64).bk y.2)) (zc5 fit58 Try.underlying25 (by kernel_rfl) (by kernel_rfl)) rfl rfl (by kernel_rfl) rfl (zaM (o := 2) (o' := 9) (ok := fun (y : Int) => (zam 32 .u64).ok y) (wt := fun (y : Int) => (zam 32 .u64).wt y) (bk := fun (y : Int) => (zam 32 .u64).bk y) fit34 rfl rfl (by kernel_rfl) rfl (zbP (zbW Try.underlying32) rfl rfl (by kernel_rfl))))) Try.underlying36 (by kernel_rfl) (fun x : S36 => (x.f0, x.f1, x.f2, x.f3)) (fun y => ⟨y.1, y.2.1, y.2.2.1, y.2.2.2⟩) (fun _ => rfl)
def zb0 : Prop := ∀ (a0 : S36), zia.ok a0 → zia.wt a0 → ∃ k, zaW.f k (a0.f0) (a0.f1) (a0.f2.f0.f0) (a0.f2.f0.f1) (a0.f2.f0.f2) (a0.f2.f0.f3) (a0.f2.f0.f4.f0) (a0.f2.f0.f4.f1) (a0.f2.f1) (a0.f3) = some true
end Go.Proofs.Ytlabjgcoopdbiaa.Px

namespace Go.Proofs.Ytlabjgcoopdbiaa.Px
open Go.RowKit Go.Proofs.YtlabjgcoopdbiaaW.PrintWords Go.Proofs.YtlabjgcoopdbiaaW.PrintLast Go.Proofs.YtlabjgcoopdbiaaW.PrintMore
attribute [local go_sem] zB zD zL zM zx zy zC zE
set_option linter.unusedVariables false
set_option linter.unusedSimpArgs false
end Go.Proofs.Ytlabjgcoopdbiaa.Px

namespace Go.Proofs.Ytlabjgcoopdbiaa.Px
open Go.RowKit Go.Proofs.YtlabjgcoopdbiaaW.PrintWords Go.Proofs.YtlabjgcoopdbiaaW.PrintLast Go.Proofs.YtlabjgcoopdbiaaW.PrintMore
attribute [local go_sem] zB zD zL zM zx zy zC zE
set_option linter.unusedVariables false
set_option linter.unusedSimpArgs false
end Go.Proofs.Ytlabjgcoopdbiaa.Px

namespace Go.Proofs.Ytlabjgcoopdbiaa.Px
open Go.RowKit Go.Proofs.YtlabjgcoopdbiaaW.PrintWords Go.Proofs.YtlabjgcoopdbiaaW.PrintLast Go.Proofs.YtlabjgcoopdbiaaW.PrintMore
attribute [local go_sem] zB zD zL zM zx zy zC zE
set_option linter.unusedVariables false
set_option linter.unusedSimpArgs false
end Go.Proofs.Ytlabjgcoopdbiaa.Px

namespace Go.Proofs.Ytlabjgcoopdbiaa.Px
open Go.RowKit Go.Proofs.YtlabjgcoopdbiaaW.PrintWords Go.Proofs.YtlabjgcoopdbiaaW.PrintLast Go.Proofs.YtlabjgcoopdbiaaW.PrintMore
attribute [local go_sem] zB zD zL zM zx zy zC zE
set_option linter.unusedVariables false
set_option linter.unusedSimpArgs false
theorem zf5 (o q : Int) (l : List ByteArray) (hl : l.length < 4611686018427387904) (d : Nat) : ∀ j, j + d = l.length →
    Ev (fun k => zs.l0 k (j : Int) o q l) (!(l.drop j).any zbO) := by
  induction d with
  | zero =>
    intro j hj
    refine Ev.step (fun k => by rw [zs.l0]) ?_
    refine z8 (by omega) (zay (Ev.now _) ?_)
    rw [List.drop_eq_nil_of_le (by omega)]; rfl
  | succ d ih =>
    intro j hj
    have hjl : j < l.length := by omega
    refine Ev.step (fun k => by rw [zs.l0]) ?_
    refine zP (by omega) (zP (by omega) ?_)
    rw [zib l j hjl, List.drop_eq_getElem_cons hjl, zap (by omega) (by omega), List.any_cons]
    by_cases h1 : (l[j].size : Int) < 1
    · refine zP h1 (zay (Ev.now _) ?_)
      have : l[j].size = 0 := by omega
      simp [zbO, this]
    · refine z8 h1 ?_
      by_cases h2 : (l[j].size : Int) > 48
      · refine zP h2 (zay (Ev.now _) ?_)
        have : 48 < l[j].size := by omega
        simp [zbO, this]
      · refine z8 h2 (zay (ih (j + 1) (by omega)) ?_)
        have e1 : zbO l[j] = false := by
          have : ¬ l[j].size = 0 := by omega
          have h3 : ¬ 48 < l[j].size := by omega
          simp [zbO, this, h3]
        rw [e1, Bool.false_or]
theorem zfh (o q : Int) (l : List ByteArray) (hl : l.length < 4611686018427387904) : Ev (fun k => zs.f k o q l) (zcT o q l) := by
  have key : ∀ b : Bool, (b = true ↔ ¬ (1 ≤ o ∧ o ≤ 64 ∧ 1 ≤ q ∧ q ≤ 1073741824 ∧ 1 ≤ l.length ∧ l.length ≤ 4)) → Ev (fun k => zs.j0 k b o q l) (zcT o q l) := by
    intro b hb
    refine Ev.step (fun k => by rw [zs.j0]) ?_
    by_cases h : 1 ≤ o ∧ o ≤ 64 ∧ 1 ≤ q ∧ q ≤ 1073741824 ∧ 1 ≤ l.length ∧ l.length ≤ 4
    · refine z8 (fun hh => hb.1 hh h) (zay (zf5 o q l hl l.length 0 (by omega)) ?_)
      obtain ⟨h1, h2, h3, h4, h5, h6⟩ := h
      simp [zcT, h1, h2, h3, h4, h5, h6]
    · refine zP (hb.2 h) (zay (Ev.now _) ?_)
      symm
      rw [← Bool.not_eq_true, zcU]
      exact fun ⟨h1, h2, h3, h4, h5, h6, _⟩ => h ⟨h1, h2, h3, h4, h5, h6⟩
  by_cases h1 : o < 1
  · exact zP h1 (key true (by simp; omega))
  refine z8 h1 ?_
  by_cases h2 : o > 64
  · exact zP h2 (key true (by simp; omega))
  refine z8 h2 ?_
  by_cases h3 : q < 1
  · exact zP h3 (key true (by simp; omega))
  refine z8 h3 ?_
  by_cases h4 : q > 1073741824
  · exact zP h4 (key true (by simp; omega))
  refine z8 h4 ?_
  by_cases h5 : (l.length : Int) < 1
  · exact zP h5 (key true (by simp; omega))
  exact z8 h5 (key _ (by simp; omega))
end Go.Proofs.Ytlabjgcoopdbiaa.Px

namespace Go.Proofs.Ytlabjgcoopdbiaa.Px
open Go.RowKit Go.Proofs.YtlabjgcoopdbiaaW.PrintWords Go.Proofs.YtlabjgcoopdbiaaW.PrintLast Go.Proofs.YtlabjgcoopdbiaaW.PrintMore
attribute [local go_sem] zB zD zL zM zx zy zC zE
set_option linter.unusedVariables false
set_option linter.unusedSimpArgs false
def zbt (a r : Int) (bs : List S68) (ps : List ByteArray) (x y : Int) : Bs :=
  zcm a.toNat ++ zcm r.toNat ++ zbx (bs.map bB) ++ zbx ps ++ zcm x.toNat ++ zcm y.toNat
theorem zcu (a r : Int) (bs : List S68) (ps : List ByteArray) (x y n : Int) : za4 a r bs ps x y n = true ↔ zcV n = true ∧ 1 ≤ a ∧ a ≤ n ∧ 1 ≤ r ∧ r ≤ 1048576 ∧ bs.length ≤ 4 ∧ bs.any (zcf n) = false ∧ zec x y = true ∧ (zcp r = true ∨ x = 0 ∧ y = 0) ∧ zbr ps r n = true := by
  unfold za4
  simp [and_assoc]
theorem zgc (l : List ByteArray) (d : Nat) : ∀ j, zaU l d j = true → ∀ i, j ≤ i → i < j + d → (l.getD i ByteArray.empty).size = 32 := by
  induction d with
  | zero => intro j _ i h1 h2; omega
  | succ d ih =>
    intro j h i h1 h2
    rw [zaU, Bool.and_eq_true] at h
    rcases Nat.lt_or_ge j i with h3 | h3
    · exact ih (j + 1) h.2 i (by omega) (by omega)
    · obtain rfl : i = j := by omega
      have := h.1
      rw [ze5, Bool.and_eq_true] at this
      exact of_decide_eq_true this.1
theorem zbH {l : List ByteArray} {r n : Int} (hn : zcV n = true) (h : zbr l r n = true) : l.length ≤ 64 ∧ ∀ t ∈ l, t.size = 32 := by
  unfold zbr at h
  split at h
  · have h0 := of_decide_eq_true h
    obtain rfl := List.eq_nil_of_length_eq_zero h0
    simp
  · obtain ⟨_, h2, _⟩ := (zcb n).1 hn
    rw [Bool.and_eq_true, Bool.and_eq_true] at h
    have h3 := of_decide_eq_true h.2
    refine ⟨by omega, fun t ht => ?_⟩
    obtain ⟨i, hi, rfl⟩ := List.mem_iff_getElem.1 ht
    have := zgc l l.length 0 h.1.1 i (by omega) (by omega)
    rwa [List.getD_eq_getElem?_getD, List.getElem?_eq_getElem hi] at this
theorem zhX (b : S68) : (bB b).size ≤ 400 := by
  unfold bB
  split
  · rename_i h
    obtain ⟨h1, h2, h3, h4, h5, h6, h7⟩ := (zcU _ _ _).1 h
    have r1 := zc1 b.f2 48 (by omega) (fun t ht => (h7 t ht).2)
    have r2 := zaH (v := b.f2.length) (by omega)
    have r4 := zaH (v := b.f0.toNat) (by omega)
    have r5 := zaH (v := b.f1.toNat) (by omega)
    rw [zar, zdM, List.length_append, List.length_append, zbx, List.length_append]; omega
  · show 0 ≤ 400; omega
theorem zfH {bs : List S68} (h : bs.length ≤ 4) : (zbx (bs.map bB)).length ≤ 1700 := by
  have r1 := zc1 (bs.map bB) 400 (by omega) (fun t ht => by obtain ⟨b, _, rfl⟩ := List.mem_map.1 ht; exact zhX b)
  rw [List.length_map] at r1
  have r2 := zaH (v := (bs.map bB).length) (by rw [List.length_map]; omega)
  rw [zbx, List.length_append]; omega
theorem zfI {ps : List ByteArray} (h : ps.length ≤ 64 ∧ ∀ t ∈ ps, t.size = 32) : (zbx ps).length ≤ 2700 := by
  have r1 := zc1 ps 32 (by omega) (fun t ht => by have := h.2 t ht; omega)
  have r2 := zaH (v := ps.length) (by have := h.1; omega)
  rw [zbx, List.length_append]; have := h.1; omega
theorem zhW {n : Int} {bs : List S68} (h : bs.any (zcf n) = false) : ∀ b ∈ bs, zcT b.f0 b.f1 b.f2 = true ∧ b.f0 ≤ n := by
  intro b hb
  rw [List.any_eq_false] at h
  have := h b hb
  rw [zcf] at this
  simp at this
  exact ⟨this.1, by omega⟩
theorem zic (a b c d : ByteArray) : zA ByteArray.empty [a, b, c, d] 0 = a ∧ zA ByteArray.empty [a, b, c, d] 1 = b ∧ zA ByteArray.empty [a, b, c, d] 2 = c ∧ zA ByteArray.empty [a, b, c, d] 3 = d := ⟨rfl, rfl, rfl, rfl⟩
theorem zeh (a r : Int) (bs : List S68) (ps : List ByteArray) (x y n : Int) :
    zas.f a r bs ps x y n = some (if za4 a r bs ps x y n = true then (toB (zbt a r bs ps x y), 0) else ((⟨#[]⟩ : ByteArray), 1)) := by
  unfold zas.f
  rw [show z9.f a r bs ps x y n = some (za4 a r bs ps x y n) from rfl]
  simp only [Option.bind_some]
  by_cases h : za4 a r bs ps x y n = true
  · rw [if_pos h, if_pos h]
    obtain ⟨h0, h1, h2, h3, h4, h5, h6, h7, h8, h9⟩ := (zcu ..).1 h
    obtain ⟨k1, k2, k3⟩ := (zcb n).1 h0
    obtain ⟨x1, x2, y1, y2⟩ := (zdD x y).1 h7
    have e1 : zax.f bs = some (bs.map bB) := if_pos h5
    have e2 : zan.f [a, r, x, y] = some [za1 a.toNat, za1 r.toNat, za1 x.toNat, za1 y.toNat] := by
      rw [zan.f, if_pos]
      · rfl
      · refine ⟨Nat.le_refl 4, fun k hk => ?_⟩
        simp only [List.mem_cons, List.not_mem_nil, or_false] at hk
        rcases hk with rfl | rfl | rfl | rfl <;> omega
    have s0 := zaL (v := a.toNat) (by omega)
    have s1 := zaL (v := r.toNat) (by omega)
    have s2 := zaL (v := x.toNat) (by omega)
    have s3 := zaL (v := y.toNat) (by omega)
    have r1 := zfH h5
    have r2 := zfI (zbH h0 h9)
    have d1 : zW.f (bs.map bB) = some (toB (zbx (bs.map bB))) := if_pos (by omega)
    have d2 : zW.f ps = some (toB (zbx ps)) := if_pos (by omega)
    rw [e1, e2]
    simp only [Option.bind_some, d1, d2]
    obtain ⟨q0, q1, q2, q3⟩ := zic (za1 a.toNat) (za1 r.toNat) (za1 x.toNat) (za1 y.toNat)
    rw [q0, q1, q2, q3]
    simp only [ByteArray.size_append, zar]
    rw [if_pos (by simp), if_pos (by simp), if_pos (by omega), if_pos (by omega), if_pos (by omega), if_pos (by simp), if_pos (by omega), if_pos (by simp), if_pos (by omega)]
    simp only [zbt, za1, zaQ]
  · rw [if_neg h, if_neg h]
instance decBatch : DecidableEq S68 := fun a b => decidable_of_iff (a.f0 = b.f0 ∧ a.f1 = b.f1 ∧ a.f2 = b.f2) ⟨fun ⟨h0, h1, h2⟩ => by obtain ⟨a0, a1, a2⟩ := a; obtain ⟨b0, b1, b2⟩ := b; simp only at h0 h1 h2; rw [h0, h1, h2], fun h => by rw [h]; exact ⟨rfl, rfl, rfl⟩⟩
theorem zd3 (l : List S68) (j : Nat) (h : j < l.length) : z4 l (j : Int) = l[j] := by
  rw [z4, Int.toNat_natCast, List.getD_eq_getElem?_getD, List.getElem?_eq_getElem h]; rfl
theorem zgk {a r : Int} {bs : List S68} {ps : List ByteArray} {x y n : Int} (h : za4 a r bs ps x y n = true) : bs.length < 4611686018427387904 ∧ (∀ b ∈ bs, b.f2.length < 4611686018427387904) ∧ ps.length < 4611686018427387904 := by
  obtain ⟨h0, _, _, _, _, h5, h6, _, _, h9⟩ := (zcu ..).1 h
  refine ⟨by omega, fun b hb => ?_, by have := (zbH h0 h9).1; omega⟩
  obtain ⟨_, _, _, _, _, k, _⟩ := (zcU _ _ _).1 (zhW h6 b hb).1
  omega
end Go.Proofs.Ytlabjgcoopdbiaa.Px

namespace Go.Proofs.Ytlabjgcoopdbiaa.Px
open Go.RowKit Go.Proofs.YtlabjgcoopdbiaaW.PrintWords Go.Proofs.YtlabjgcoopdbiaaW.PrintLast Go.Proofs.YtlabjgcoopdbiaaW.PrintMore
attribute [local go_sem] zB zD zL zM zx zy zC zE
set_option linter.unusedVariables false
set_option linter.unusedSimpArgs false
theorem zdG (n : Int) : zae.f n = some (zcV n) := by
  unfold zae.f zcV
  by_cases h4 : n = 4
  · subst h4; rfl
  · rw [if_neg h4]
    by_cases h : n > 4
    · rw [if_pos h]
      by_cases h1 : n ≤ 64
      · rw [if_pos h1, zap (by omega) (by omega), Int.tmod_eq_emod_of_nonneg (by omega)]
        by_cases h2 : n % 3 = 1
        · have : (n - 1) % 3 = 0 := by omega
          simp [h1, h2, this]; omega
        · have : ¬ (n - 1) % 3 = 0 := by omega
          simp [h2, this]
      · rw [if_neg h1]; simp [h1]
    · rw [if_neg h]
      have : ¬ 4 ≤ n := by omega
      simp [this]
theorem zcK (n : Int) : zO.f n = some (zaV n) := by
  unfold zO.f zaV
  rw [zdG]
  simp only [Option.bind_some]
  by_cases h : zcV n = true
  · rw [if_pos h, if_pos h]
    obtain ⟨h1, h2, h3⟩ := (zcb n).1 h
    rw [zap (x := n - 1) (by omega) (by omega), Int.tdiv_eq_ediv_of_nonneg (by omega), zap (x := (n - 1) / 3) (by omega) (by omega), zap (by omega) (by omega)]
  · rw [if_neg h, if_neg h]
theorem zfE (a b : Int) : zY.f a b = some (zec a b) := by
  unfold zY.f zec
  by_cases h1 : 0 ≤ a <;> by_cases h2 : a < 10007 <;> by_cases h3 : 0 ≤ b <;> simp [h1, h2, h3]
theorem zeK (r : Int) : zU.f r = some (zcp r) := by
  unfold zU.f zcp
  by_cases h : r > 0
  · rw [if_pos h, Int.tmod_eq_emod_of_nonneg (by omega)]
    by_cases h2 : r % 3 = 0
    · have : 3 ≤ r := by omega
      simp [h2, this]
    · simp [h2]
  · rw [if_neg h]
    have : ¬ 3 ≤ r := by omega
    simp [this]
def zdV (r x y : Int) : Bool := zec x y && (zcp r || (decide (x = 0) && decide (y = 0)))
theorem zgB (a r : Int) (bs : List S68) (ps : List ByteArray) (x y : Int) (hl : ps.length < 4611686018427387904) (hp : ∀ t ∈ ps, t.size < 4611686018427387904) (d : Nat) : ∀ j, j + d = ps.length →
    Ev (fun k => zm.l1 k (j : Int) a r bs ps x y) (zaU ps d j && zdV r x y) := by
  induction d with
  | zero =>
    intro j hj
    refine Ev.step (fun k => by rw [zm.l1]) ?_
    refine z8 (by omega) (zao (zfE x y) (zao (zeK r) ?_))
    unfold zdV
    by_cases h1 : zec x y = true
    · refine zP h1 ?_
      by_cases h2 : zcp r = true
      · exact zP h2 (zay (Ev.now _) (by simp [zaU, h1, h2]))
      · refine z8 h2 ?_
        by_cases h3 : x = 0
        · refine zP h3 (zay (Ev.now _) ?_)
          rw [Bool.not_eq_true] at h2
          subst h3
          by_cases h4 : y = 0
          · subst h4; simp [zaU, h1, h2]
          · simp [zaU, h1, h2, h4]
        · rw [Bool.not_eq_true] at h2
          exact z8 h3 (zay (Ev.now _) (by simp [zaU, h2, h3]))
    · rw [Bool.not_eq_true] at h1
      exact z8 (by rw [h1]; simp) (zay (Ev.now _) (by simp [zaU, h1]))
  | succ d ih =>
    intro j hj
    have hj' : j < ps.length := by omega
    refine Ev.step (fun k => by rw [zm.l1]) ?_
    refine zP (by omega) (zP (by omega) ?_)
    have e1 : zA ByteArray.empty ps (j : Int) = ps.getD j ByteArray.empty := by rw [zA, Int.toNat_natCast]
    rw [e1]
    by_cases h : (ps.getD j ByteArray.empty).size = 32
    · refine zP (by omega) ?_
      rw [zap (x := (j : Int) + 1) (by omega) (by omega)]
      by_cases h0 : j = 0
      · subst h0
        refine z8 (by omega) (zay (ih 1 (by omega)) ?_)
        simp only [zaU, ze5, h]; simp
      · refine zP (by omega) ?_
        have e2 : wrap64 ((j : Int) - 1) = ((j - 1 : Nat) : Int) := by rw [zap (by omega) (by omega)]; omega
        rw [e2]
        refine zP (by omega) (zP (by omega) ?_)
        have e3 : zA ByteArray.empty ps ((j - 1 : Nat) : Int) = ps.getD (j - 1) ByteArray.empty := by rw [zA, Int.toNat_natCast]
        rw [e3]
        have hsz : (ps.getD (j - 1) ByteArray.empty).size < 4611686018427387904 := by
          rw [List.getD_eq_getElem?_getD, List.getElem?_eq_getElem (show j - 1 < ps.length by omega)]
          exact hp _ (List.getElem_mem _)
        refine Ev.bind (zh5 _ _ hsz) ?_
        by_cases h2 : zcS (ofB (ps.getD (j - 1) ByteArray.empty)) (ofB (ps.getD j ByteArray.empty)) = true
        · refine zP h2 (zay (ih (j + 1) (by omega)) ?_)
          simp only [zaU, ze5, h, h2]; simp
        · refine z8 h2 (zay (Ev.now _) ?_)
          rw [Bool.not_eq_true] at h2
          simp only [zaU, ze5, h, h0, h2]; simp
    · refine z8 (by omega) (zay (Ev.now _) ?_)
      simp only [zaU, ze5, h]; simp
def zeo (r : Int) (ps : List ByteArray) (x y n : Int) : Bool :=
  !(decide (r = 1) && decide (0 < ps.length)) && !(decide (1 < r) && (decide ((ps.length : Int) < zaV n) || decide (n < ps.length))) && (zaU ps ps.length 0 && zdV r x y)
theorem zgA (a r : Int) (bs : List S68) (ps : List ByteArray) (x y n : Int) (hb : bs.length < 4611686018427387904) (hbs : ∀ b ∈ bs, b.f2.length < 4611686018427387904) (hl : ps.length < 4611686018427387904) (hp : ∀ t ∈ ps, t.size < 4611686018427387904) (d : Nat) : ∀ j, j + d = bs.length →
    Ev (fun k => zm.l0 k n (j : Int) a r bs ps x y) (!(bs.drop j).any (zcf n) && zeo r ps x y n) := by
  induction d with
  | zero =>
    intro j hj
    refine Ev.step (fun k => by rw [zm.l0]) ?_
    rw [List.drop_eq_nil_of_le (by omega)]
    refine z8 (by omega) ?_
    have J3 : ∀ b : Bool, Ev (fun k => zm.j3 k b a r bs ps x y) (!b && (zaU ps ps.length 0 && zdV r x y)) := by
      intro b
      refine Ev.step (fun k => by rw [zm.j3]) ?_
      rcases b with _ | _
      · exact z8 (by simp) (zay (zgB a r bs ps x y hl hp ps.length 0 (by omega)) (by simp))
      · exact zP rfl (zay (Ev.now _) (by simp))
    have J2 : ∀ b : Bool, Ev (fun k => zm.j2 k n b a r bs ps x y) (!b && (!(decide (1 < r) && (decide ((ps.length : Int) < zaV n) || decide (n < ps.length))) && (zaU ps ps.length 0 && zdV r x y))) := by
      intro b
      refine Ev.step (fun k => by rw [zm.j2]) ?_
      rcases b with _ | _
      · refine z8 (by simp) ?_
        by_cases h : r > 1
        · have h' : 1 < r := h
          refine zP h (zao (zcK n) ?_)
          by_cases h2 : (ps.length : Int) < zaV n
          · exact zP h2 (zay (J3 true) (by simp [h', h2]))
          · exact z8 h2 (zay (J3 _) (by simp [h', h2]))
        · have h' : ¬ 1 < r := h
          exact z8 h (zay (J3 false) (by simp [h']))
      · exact zP rfl (zay (Ev.now _) (by simp))
    unfold zeo
    by_cases h : r = 1
    · refine zP h (zay (J2 _) ?_)
      subst h
      by_cases h0 : 0 < ps.length
      · have : decide ((ps.length : Int) > 0) = true := decide_eq_true (by omega)
        simp [this, h0]
      · have : decide ((ps.length : Int) > 0) = false := decide_eq_false (by omega)
        simp [this, h0]
    · exact z8 h (zay (J2 false) (by simp [h]))
  | succ d ih =>
    intro j hj
    have hj' : j < bs.length := by omega
    refine Ev.step (fun k => by rw [zm.l0]) ?_
    refine zP (by omega) (zP (by omega) ?_)
    rw [zd3 bs j hj', zap (by omega) (by omega), List.drop_eq_getElem_cons hj', List.any_cons]
    refine Ev.bind (zfh _ _ _ (hbs _ (List.getElem_mem hj'))) ?_
    by_cases h : zcT bs[j].f0 bs[j].f1 bs[j].f2 = true
    · refine zP h ?_
      by_cases h2 : bs[j].f0 > n
      · have h3 : n < bs[j].f0 := h2
        exact zP h2 (zay (Ev.now _) (by simp [zcf, h3]))
      · have h3 : ¬ n < bs[j].f0 := h2
        refine z8 h2 (zay (ih (j + 1) (by omega)) ?_)
        have : zcf n bs[j] = false := by simp [zcf, h, h3]
        rw [this, Bool.false_or]
    · refine z8 h (zay (Ev.now _) ?_)
      rw [Bool.not_eq_true] at h
      simp [zcf, h]
theorem zhz (a r : Int) (bs : List S68) (ps : List ByteArray) (x y n : Int) (h0 : zcV n = true) (h1 : 1 ≤ a) (h2 : a ≤ n) (h3 : 1 ≤ r) (h4 : r ≤ 1048576) (h5 : bs.length ≤ 4) :
    za4 a r bs ps x y n = (!bs.any (zcf n) && zeo r ps x y n) := by
  unfold za4 zeo zbr zdV
  simp only [h0, h1, h2, h3, h4, h5]
  by_cases e : r = 1
  · subst e
    rcases ps with _ | ⟨p, ps⟩
    · simp [zaU, Bool.and_assoc]
    · simp
  · have h6 : 1 < r := by omega
    simp only [if_neg e, e, h6]
    have q1 : decide ((ps.length : Int) < zaV n) = !decide (zaV n ≤ (ps.length : Int)) := by
      by_cases q : zaV n ≤ (ps.length : Int) <;> simp [q] <;> omega
    have q2 : decide (n < (ps.length : Int)) = !decide ((ps.length : Int) ≤ n) := by
      by_cases q : (ps.length : Int) ≤ n <;> simp [q] <;> omega
    rw [q1, q2]
    cases bs.any (zcf n) <;> cases zec x y <;> cases zcp r <;> cases zaU ps ps.length 0 <;> cases decide (zaV n ≤ (ps.length : Int)) <;> cases decide ((ps.length : Int) ≤ n) <;> simp
theorem zgz (a r : Int) (bs : List S68) (ps : List ByteArray) (x y n : Int) (hb : bs.length < 4611686018427387904) (hbs : ∀ b ∈ bs, b.f2.length < 4611686018427387904) (hl : ps.length < 4611686018427387904) (hp : ∀ t ∈ ps, t.size < 4611686018427387904) :
    Ev (fun k => zm.f k a r bs ps x y n) (za4 a r bs ps x y n) := by
  have key : ∀ b : Bool, (b = true ↔ ¬ (zcV n = true ∧ 1 ≤ a ∧ a ≤ n ∧ 1 ≤ r ∧ r ≤ 1048576 ∧ bs.length ≤ 4)) → Ev (fun k => zm.j0 k n b a r bs ps x y) (za4 a r bs ps x y n) := by
    intro b hb'
    refine Ev.step (fun k => by rw [zm.j0]) ?_
    by_cases h : zcV n = true ∧ 1 ≤ a ∧ a ≤ n ∧ 1 ≤ r ∧ r ≤ 1048576 ∧ bs.length ≤ 4
    · refine z8 (fun hh => hb'.1 hh h) (zay (zgA a r bs ps x y n hb hbs hl hp bs.length 0 (by omega)) ?_)
      obtain ⟨h0, h1, h2, h3, h4, h5⟩ := h
      rw [zhz a r bs ps x y n h0 h1 h2 h3 h4 h5, List.drop_zero]
    · refine zP (hb'.2 h) (zay (Ev.now _) ?_)
      symm
      rw [← Bool.not_eq_true, zcu]
      exact fun ⟨h0, h1, h2, h3, h4, h5, _⟩ => h ⟨h0, h1, h2, h3, h4, h5⟩
  refine zao (zdG n) ?_
  by_cases h0 : zcV n = true
  · refine zP h0 ?_
    by_cases h1 : a < 1
    · exact zP h1 (key true (by simp; omega))
    refine z8 h1 ?_
    by_cases h2 : a > n
    · exact zP h2 (key true (by simp; omega))
    refine z8 h2 ?_
    by_cases h3 : r < 1
    · exact zP h3 (key true (by simp; omega))
    refine z8 h3 ?_
    by_cases h4 : r > 1048576
    · exact zP h4 (key true (by simp; omega))
    exact z8 h4 (key _ (by simp [h0]; omega))
  · exact z8 h0 (key true (by simp [h0]))
end Go.Proofs.Ytlabjgcoopdbiaa.Px
