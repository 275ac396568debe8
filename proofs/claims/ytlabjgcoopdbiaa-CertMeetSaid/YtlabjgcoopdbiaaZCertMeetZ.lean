/- Part 26 of 28 of the proof of the law CertMeet: what is proved is the statement at the end of the last part; its conditions are those of the given row. -/
import Derived.Test.YtlabjgcoopdbiaaRows
import Derived.Deep.Slices
import Derived.ChangeArms
import Derived.SizedLaws
import Derived.WideOpen
import Derived.Test.YtlabjgcoopdbiaaZCertMeetY
namespace Go.Proofs.Ytlabjgcoopdbiaa.Px
open Go.RowKit Go.Proofs.YtlabjgcoopdbiaaW.PrintWords Go.Proofs.YtlabjgcoopdbiaaW.PrintLast Go.Proofs.YtlabjgcoopdbiaaW.PrintMore
attribute [local go_sem] zz zB zJ zK zu zv zA zC
set_option linter.unusedVariables false
set_option linter.unusedSimpArgs false
structure Rd (α : Type) where
  t : TypeId
  d : Kd α
  ok : α → Prop
  wt : α → Prop
  bk : α → Nat
structure zdD {α : Type} (P : Program) (r : Rd α) : Prop where
  out : ∀ {H : Type} {enc : TypeId × Value → H} {w : World} {fuel : Nat} {cs : List Value} {x : DataW H × List MemPlace}, DataW.trod enc P w 0 (fun _ => true) true fuel r.t cs = some x →
    ∃ a, r.d.K w a cs ∧ r.ok a ∧ ((∀ n ∈ x.1.weights P r.t, n ≤ reachBytes) → r.wt a) ∧ r.bk a ≤ Rows.uptoBulk x.1
def zaA (t : TypeId) (k : IntKind) : Rd Int := ⟨t, Kd.int k, fun a => (Lit.int k a).wf = true, fun _ => True, fun _ => 1⟩
def zal (t : TypeId) : Rd ByteArray := ⟨t, Kd.string, fun a => a.size ≤ maxLen, fun a => a.size ≤ reachBytes, fun a => a.size + 1⟩
def zae {α : Type} (t : TypeId) (B : Nat) (r : Rd α) : Rd (List α) :=
  ⟨t, Kd.slice r.t r.d, fun l => l.length ≤ maxLen ∧ ∀ a ∈ l, r.ok a, fun l => l.length * B ≤ reachBytes ∧ ∀ a ∈ l, r.wt a, fun l => (l.map r.bk).sum + 1⟩
section
variable {P : Program}
theorem zcb {t : TypeId} {k : IntKind} (h : P.underlying t = some (.int k)) : zdD P (zaA t k) := by
  constructor
  intro H enc w fuel cs x hx
  obtain ⟨n, rfl, rfl, hw⟩ := DataW.trod_int h hx
  exact ⟨n, rfl, hw, fun _ => trivial, by simp [zaA, Rows.uptoBulk]⟩
theorem zdw {t : TypeId} (h : P.underlying t = some .string) : zdD P (zal t) := by
  constructor
  intro H enc w fuel cs x hx
  obtain ⟨s, rfl, rfl, hs⟩ := DataW.trod_string h hx
  have e : s.data.toList.length = s.size := by rw [Array.length_toList]; rfl
  refine ⟨s, rfl, hs, fun hn => ?_, by simp only [zal, Rows.uptoBulk, e]; exact Nat.le_refl _⟩
  have := hn s.data.toList.length (by simp [DataW.weights])
  rwa [e] at this
theorem zfY {H α : Type} (f : Nat → DataW H) (g : Nat → α) (bk : α → Nat) (n : Nat) (h : ∀ i, i < n → bk (g i) ≤ Rows.uptoBulk (f i)) : (((List.range n).map g).map bk).sum ≤ Rows.uptoBulkAll ((List.range n).map f) := by
  suffices k : ∀ l : List Nat, (∀ i ∈ l, i < n) → ((l.map g).map bk).sum ≤ Rows.uptoBulkAll (l.map f) from k _ (fun i hi => List.mem_range.1 hi)
  intro l
  induction l with
  | nil => intro _; simp
  | cons i l ih =>
    intro hl
    have h1 := h i (hl i List.mem_cons_self)
    have h2 := ih (fun j hj => hl j (List.mem_cons_of_mem _ hj))
    simp only [List.map_cons, List.sum_cons, Rows.uptoBulkAll]
    omega
theorem zc9 {H : Type} {e : TypeId} : ∀ {l : List (DataW H)} {d : DataW H} {n : Nat}, d ∈ l → n ∈ d.weights P e → n ∈ DataW.weightsAll P e l
  | x :: l, d, n, hd, hn => by
    simp only [DataW.weightsAll, List.mem_append]
    rcases List.mem_cons.1 hd with rfl | hd
    · exact .inl hn
    · exact .inr (zc9 hd hn)
theorem zdb {α : Type} [Inhabited α] {r : Rd α} (hr : zdD P r) {t : TypeId} {B : Nat} (h : P.underlying t = some (.slice r.t)) (hc : P.cellsOf r.t = r.d.sz) (hB : P.bytesOf r.t = B) : zdD P (zae t B r) := by
  constructor
  intro H enc w fuel cs x hx
  rcases Deep.open_slice h hx with ⟨rfl, rfl⟩ | ⟨a, len, cap, m, n, D, Pl, rfl, _, hl, hm, hmm, rfl, hel⟩
  · exact ⟨[], ⟨none, 0, rfl, Nat.le_refl _, Kd.C_nil _ _⟩, ⟨Nat.zero_le _, by simp⟩, fun _ => ⟨by simp, by simp⟩, by simp [zae, Rows.uptoBulk]⟩
  · simp only [if_true] at hmm
    subst hmm
    obtain ⟨f, hf⟩ := Deep.choose_lt (α := α) (n := len) (p := fun i v => ∃ c, w.cells? 0 (a.add (i * P.cellsOf r.t)) (P.cellsOf r.t) = some c ∧ r.d.K w v c ∧ r.ok v ∧ ((∀ q ∈ (D i).weights P r.t, q ≤ reachBytes) → r.wt v) ∧ r.bk v ≤ Rows.uptoBulk (D i)) (fun i hi => by
      obtain ⟨cs', h1, h2⟩ := hel i (by omega)
      obtain ⟨v, k1, k2, k3, k4⟩ := hr.out h2
      exact ⟨v, cs', h1, k1, k2, k3, k4⟩)
    have hlen : ((List.range len).map f).length = len := by simp
    refine ⟨(List.range len).map f, ⟨some a, m, by rw [hlen], by rw [hlen]; exact hl, ?_⟩, ⟨by rw [hlen]; omega, ?_⟩, fun hw => ⟨?_, ?_⟩, ?_⟩
    · rw [hlen]
      refine ⟨hlen, by unfold maxLen at hm; omega, fun _ => ⟨a, rfl, fun j p hj => ?_⟩⟩
      have hjl : j < len := by
        have := (List.getElem?_eq_some_iff.1 hj).1
        simpa using this
      obtain ⟨c, c1, c2, _⟩ := hf j hjl
      have hp : f j = p := by simpa [List.getElem?_map, List.getElem?_range hjl] using hj
      obtain ⟨_, l2, l3⟩ := World.cells?_some c1
      refine ⟨c, by rw [l2, hc], hp ▸ c2, fun i u hu => ?_⟩
      have hi : i < P.cellsOf r.t := by rw [← l2]; exact (List.getElem?_eq_some_iff.1 hu).1
      rw [← hc, ← Deep.add_add, l3 i hi]
      exact hu
    · intro v hv
      obtain ⟨i, hi, rfl⟩ := List.mem_map.1 hv
      obtain ⟨c, _, _, h3, _⟩ := hf i (List.mem_range.1 hi)
      exact h3
    · have := hw ((((List.range len).map D).length + ((List.range (m - len)).map fun j => D (len + j)).length) * P.bytesOf r.t) (by show _ ∈ DataW.weights P t _; simp only [DataW.weights, h]; exact List.mem_cons_self)
      rw [hlen]
      rw [hB] at this
      simp only [List.length_map, List.length_range] at this
      exact Nat.le_trans (Nat.mul_le_mul_right _ (by omega)) this
    · intro v hv
      obtain ⟨i, hi, rfl⟩ := List.mem_map.1 hv
      obtain ⟨c, _, _, _, h4, _⟩ := hf i (List.mem_range.1 hi)
      refine h4 (fun q hq => hw q ?_)
      show _ ∈ DataW.weights P t _
      simp only [DataW.weights, h]
      exact List.mem_cons_of_mem _ (List.mem_append_left _ (zc9 (List.mem_map.2 ⟨i, hi, rfl⟩) hq))
    · simp only [zae, Rows.uptoBulk]
      have := zfY D f r.bk len (fun i hi => (hf i hi).choose_spec.2.2.2.2)
      omega
structure zda {β : Type} (P : Program) (fs : List Field) (o : Nat) (d : Kd β) (ok wt : β → Prop) (bk : β → Nat) : Prop where
  out : ∀ {H : Type} {enc : TypeId × Value → H} {w : World} {n : Nat} {cs : List Value} {xs : List (DataW H × List MemPlace)}, xs.length = fs.length → cs.length = o + d.sz →
    (∀ (i : Nat) (f : Field), fs[i]? = some f → DataW.trod enc P w 0 (fun _ => true) true n f.type ((cs.drop f.offset).take (P.cellsOf f.type)) = xs[i]?) →
    ∃ b, d.K w b (cs.drop o) ∧ ok b ∧ ((∀ q ∈ DataW.weightsEach P (fs.map (·.type)) (xs.map (·.1)), q ≤ reachBytes) → wt b) ∧ bk b ≤ Rows.uptoBulkAll (xs.map (·.1))
theorem zbU {α : Type} {r : Rd α} (hr : zdD P r) {f : Field} (ht : f.type = r.t) {o : Nat} (ho : f.offset = o) (hc : P.cellsOf r.t = r.d.sz) : zda P [f] o r.d r.ok r.wt r.bk := by
  constructor
  intro H enc w n cs xs hl hcs hx
  match xs, hl with
  | [x], _ =>
    have h := hx 0 f rfl
    rw [ho, ht, hc, List.take_of_length_le (by rw [List.length_drop]; omega)] at h
    obtain ⟨a, h1, h2, h3, h4⟩ := hr.out h
    refine ⟨a, h1, h2, fun hq => h3 (fun q hm => hq q ?_), by simp [Rows.uptoBulkAll]; omega⟩
    simp only [List.map_cons, List.map_nil, DataW.weightsEach, List.mem_append, ht]
    exact .inl hm
theorem zaR {α β : Type} {r : Rd α} (hr : zdD P r) {f : Field} (ht : f.type = r.t) {fs : List Field} {o o' : Nat} (ho : f.offset = o) (hc : P.cellsOf r.t = r.d.sz) (ho' : o' = o + r.d.sz) {d : Kd β} {ok wt : β → Prop} {bk : β → Nat} (hfs : zda P fs o' d ok wt bk) :
    zda P (f :: fs) o (Kd.pair r.d d) (fun x => r.ok x.1 ∧ ok x.2) (fun x => r.wt x.1 ∧ wt x.2) (fun x => r.bk x.1 + bk x.2) := by
  constructor
  intro H enc w n cs xs hl hcs hx
  match xs, hl with
  | x :: xs, hl =>
    have h := hx 0 f rfl
    have hcs' : cs.length = o + (r.d.sz + d.sz) := hcs
    rw [ho, ht, hc] at h
    obtain ⟨a, h1, h2, h3, h4⟩ := hr.out h
    obtain ⟨b, k1, k2, k3, k4⟩ := hfs.out (enc := enc) (w := w) (n := n) (cs := cs) (xs := xs) (by simpa using hl) (by omega) (fun i g hg => hx (i + 1) g hg)
    refine ⟨(a, b), ⟨(cs.drop o).take r.d.sz, cs.drop o', ?_, h1, k1⟩, ⟨h2, k2⟩, fun hq => ⟨h3 (fun q hm => hq q ?_), k3 (fun q hm => hq q ?_)⟩, ?_⟩
    · rw [ho', ← List.drop_drop, List.take_append_drop]
    · simp only [List.map_cons, DataW.weightsEach, List.mem_append, ht]
      exact .inl hm
    · simp only [List.map_cons, DataW.weightsEach, List.mem_append]
      exact .inr hm
    · simp only [List.map_cons, Rows.uptoBulkAll]; omega
def zcj {α β : Type} (t : TypeId) (d : Kd β) (f : α → β) (ok wt : β → Prop) (bk : β → Nat) : Rd α := ⟨t, Kd.iso d f, fun a => ok (f a), fun a => wt (f a), fun a => bk (f a) + 1⟩
theorem zbV {α β : Type} {t : TypeId} {fs : List Field} {d : Kd β} {ok wt : β → Prop} {bk : β → Nat} (hfs : zda P fs 0 d ok wt bk) (h : P.underlying t = some (.struct fs.toArray)) (hc : P.cellsOf t = d.sz) (f : α → β) (g : β → α) (hfg : ∀ b, f (g b) = b) : zdD P (zcj t d f ok wt bk) := by
  constructor
  intro H enc w fuel cs x hx
  obtain ⟨xs, n, rfl, rfl, hl, hn, hf⟩ := DataW.trod_struct h hx
  obtain ⟨b, k1, k2, k3, k4⟩ := hfs.out (enc := enc) (w := w) (n := n) (cs := cs) (xs := xs) (by simpa using hn) (by omega) (fun i g hg => hf i g (by simpa using hg))
  refine ⟨g b, ?_, ?_, fun hq => ?_, ?_⟩
  · show d.K w (f (g b)) cs
    rw [hfg]
    exact k1
  · show ok (f (g b))
    rw [hfg]
    exact k2
  · show wt (f (g b))
    rw [hfg]
    refine k3 (fun q hm => hq q ?_)
    show _ ∈ DataW.weights P t _
    simp only [DataW.weights, h]
    exact hm
  · show bk (f (g b)) + 1 ≤ _
    rw [hfg]
    simp only [Rows.uptoBulk]
    omega
end
theorem zid {α H : Type} {P : Program} {r : Rd α} (hr : zdD P r) {enc : TypeId × Value → H} {w : World} {v : Value} {d : DataW H} {ps : List MemPlace} (h : DataW.Trod enc P w 0 (fun _ => true) true r.t v d ps) :
    ∃ a, r.d.K w a v.cells.toList ∧ r.ok a ∧ ((∀ n ∈ d.weights P r.t, n ≤ reachBytes) → r.wt a) ∧ r.bk a ≤ Rows.uptoBulk d := by
  obtain ⟨fuel, hf⟩ := h
  exact hr.out hf
end Go.Proofs.Ytlabjgcoopdbiaa.Px

namespace Go.Proofs.Ytlabjgcoopdbiaa.Px
open Go.RowKit Go.Proofs.Ytlabjgcoopdbiaa.Px Go.Proofs.YtlabjgcoopdbiaaW.PrintWords Go.Proofs.YtlabjgcoopdbiaaW.PrintLast Go.Proofs.YtlabjgcoopdbiaaW.PrintMore
set_option linter.unusedVariables false
instance : Inhabited S58 := ⟨z58⟩
def zgc : Rd S58 := zcj 58 (Kd.pair (zaA 3 .i64).d (zal 9).d) (fun x : S58 => (x.f0, x.f1)) (fun y => (zaA 3 .i64).ok y.1 ∧ ((zal 9).ok y.2)) (fun y => (zaA 3 .i64).wt y.1 ∧ ((zal 9).wt y.2)) (fun y => (zaA 3 .i64).bk y.1 + ((zal 9).bk y.2))
theorem fit58 : zdD Try.prog zgc :=
  zbV (zaR (o := 0) (o' := 1) (ok := fun (y : ByteArray) => (zal 9).ok y) (wt := fun (y : ByteArray) => (zal 9).wt y) (bk := fun (y : ByteArray) => (zal 9).bk y) (zcb Try.underlying3) rfl rfl (by kernel_rfl) rfl (zbU (zdw Try.underlying9) rfl rfl (by kernel_rfl))) Try.underlying58 (by kernel_rfl) (fun x : S58 => (x.f0, x.f1)) (fun y => ⟨y.1, y.2⟩) (fun _ => rfl)
instance : Inhabited S68 := ⟨z68⟩
def zeK : Rd S68 := zcj 68 (Kd.pair (zaA 3 .i64).d (Kd.pair (zaA 3 .i64).d (zae 27 16 (zal 9)).d)) (fun x : S68 => (x.f0, x.f1, x.f2)) (fun y => (zaA 3 .i64).ok y.1 ∧ ((zaA 3 .i64).ok y.2.1 ∧ ((zae 27 16 (zal 9)).ok y.2.2))) (fun y => (zaA 3 .i64).wt y.1 ∧ ((zaA 3 .i64).wt y.2.1 ∧ ((zae 27 16 (zal 9)).wt y.2.2))) (fun y => (zaA 3 .i64).bk y.1 + ((zaA 3 .i64).bk y.2.1 + ((zae 27 16 (zal 9)).bk y.2.2)))
theorem fit68 : zdD Try.prog zeK :=
  zbV (zaR (o := 0) (o' := 1) (ok := fun (y : Int × (List ByteArray)) => (zaA 3 .i64).ok y.1 ∧ ((zae 27 16 (zal 9)).ok y.2)) (wt := fun (y : Int × (List ByteArray)) => (zaA 3 .i64).wt y.1 ∧ ((zae 27 16 (zal 9)).wt y.2)) (bk := fun (y : Int × (List ByteArray)) => (zaA 3 .i64).bk y.1 + ((zae 27 16 (zal 9)).bk y.2)) (zcb Try.underlying3) rfl rfl (by kernel_rfl) rfl (zaR (o := 1) (o' := 2) (ok := fun (y : (List ByteArray)) => (zae 27 16 (zal 9)).ok y) (wt := fun (y : (List ByteArray)) => (zae 27 16 (zal 9)).wt y) (bk := fun (y : (List ByteArray)) => (zae 27 16 (zal 9)).bk y) (zcb Try.underlying3) rfl rfl (by kernel_rfl) rfl (zbU (zdb (zdw Try.underlying9) Try.underlying27 (by kernel_rfl) (by kernel_rfl)) rfl rfl (by kernel_rfl)))) Try.underlying68 (by kernel_rfl) (fun x : S68 => (x.f0, x.f1, x.f2)) (fun y => ⟨y.1, y.2.1, y.2.2⟩) (fun _ => rfl)
instance : Inhabited S29 := ⟨z29⟩
def zc5 : Rd S29 := zcj 29 (Kd.pair (zaA 3 .i64).d (zaA 3 .i64).d) (fun x : S29 => (x.f0, x.f1)) (fun y => (zaA 3 .i64).ok y.1 ∧ ((zaA 3 .i64).ok y.2)) (fun y => (zaA 3 .i64).wt y.1 ∧ ((zaA 3 .i64).wt y.2)) (fun y => (zaA 3 .i64).bk y.1 + ((zaA 3 .i64).bk y.2))
theorem fit29 : zdD Try.prog zc5 :=
  zbV (zaR (o := 0) (o' := 1) (ok := fun (y : Int) => (zaA 3 .i64).ok y) (wt := fun (y : Int) => (zaA 3 .i64).wt y) (bk := fun (y : Int) => (zaA 3 .i64).bk y) (zcb Try.underlying3) rfl rfl (by kernel_rfl) rfl (zbU (zcb Try.underlying3) rfl rfl (by kernel_rfl))) Try.underlying29 (by kernel_rfl) (fun x : S29 => (x.f0, x.f1)) (fun y => ⟨y.1, y.2⟩) (fun _ => rfl)
instance : Inhabited S31 := ⟨z31⟩
def zhS : Rd S31 := zcj 31 (Kd.pair (zaA 3 .i64).d (Kd.pair (zaA 3 .i64).d (Kd.pair (zae 26 40 zeK).d (Kd.pair (zae 27 16 (zal 9)).d zc5.d)))) (fun x : S31 => (x.f0, x.f1, x.f2, x.f3, x.f4)) (fun y => (zaA 3 .i64).ok y.1 ∧ ((zaA 3 .i64).ok y.2.1 ∧ ((zae 26 40 zeK).ok y.2.2.1 ∧ ((zae 27 16 (zal 9)).ok y.2.2.2.1 ∧ (zc5.ok y.2.2.2.2))))) (fun y => (zaA 3 .i64).wt y.1 ∧ ((zaA 3 .i64).wt y.2.1 ∧ ((zae 26 40 zeK).wt y.2.2.1 ∧ ((zae 27 16 (zal 9)).wt y.2.2.2.1 ∧ (zc5.wt y.2.2.2.2))))) (fun y => (zaA 3 .i64).bk y.1 + ((zaA 3 .i64).bk y.2.1 + ((zae 26 40 zeK).bk y.2.2.1 + ((zae 27 16 (zal 9)).bk y.2.2.2.1 + (zc5.bk y.2.2.2.2)))))
theorem fit31 : zdD Try.prog zhS :=
  zbV (zaR (o := 0) (o' := 1) (ok := fun (y : Int × (List S68) × (List ByteArray) × S29) => (zaA 3 .i64).ok y.1 ∧ ((zae 26 40 zeK).ok y.2.1 ∧ ((zae 27 16 (zal 9)).ok y.2.2.1 ∧ (zc5.ok y.2.2.2)))) (wt := fun (y : Int × (List S68) × (List ByteArray) × S29) => (zaA 3 .i64).wt y.1 ∧ ((zae 26 40 zeK).wt y.2.1 ∧ ((zae 27 16 (zal 9)).wt y.2.2.1 ∧ (zc5.wt y.2.2.2)))) (bk := fun (y : Int × (List S68) × (List ByteArray) × S29) => (zaA 3 .i64).bk y.1 + ((zae 26 40 zeK).bk y.2.1 + ((zae 27 16 (zal 9)).bk y.2.2.1 + (zc5.bk y.2.2.2)))) (zcb Try.underlying3) rfl rfl (by kernel_rfl) rfl (zaR (o := 1) (o' := 2) (ok := fun (y : (List S68) × (List ByteArray) × S29) => (zae 26 40 zeK).ok y.1 ∧ ((zae 27 16 (zal 9)).ok y.2.1 ∧ (zc5.ok y.2.2))) (wt := fun (y : (List S68) × (List ByteArray) × S29) => (zae 26 40 zeK).wt y.1 ∧ ((zae 27 16 (zal 9)).wt y.2.1 ∧ (zc5.wt y.2.2))) (bk := fun (y : (List S68) × (List ByteArray) × S29) => (zae 26 40 zeK).bk y.1 + ((zae 27 16 (zal 9)).bk y.2.1 + (zc5.bk y.2.2))) (zcb Try.underlying3) rfl rfl (by kernel_rfl) rfl (zaR (o := 2) (o' := 3) (ok := fun (y : (List ByteArray) × S29) => (zae 27 16 (zal 9)).ok y.1 ∧ (zc5.ok y.2)) (wt := fun (y : (List ByteArray) × S29) => (zae 27 16 (zal 9)).wt y.1 ∧ (zc5.wt y.2)) (bk := fun (y : (List ByteArray) × S29) => (zae 27 16 (zal 9)).bk y.1 + (zc5.bk y.2)) (zdb fit68 Try.underlying26 (by kernel_rfl) (by kernel_rfl)) rfl rfl (by kernel_rfl) rfl (zaR (o := 3) (o' := 4) (ok := fun (y : S29) => zc5.ok y) (wt := fun (y : S29) => zc5.wt y) (bk := fun (y : S29) => zc5.bk y) (zdb (zdw Try.underlying9) Try.underlying27 (by kernel_rfl) (by kernel_rfl)) rfl rfl (by kernel_rfl) rfl (zbU fit29 rfl rfl (by kernel_rfl)))))) Try.underlying31 (by kernel_rfl) (fun x : S31 => (x.f0, x.f1, x.f2, x.f3, x.f4)) (fun y => ⟨y.1, y.2.1, y.2.2.1, y.2.2.2.1, y.2.2.2.2⟩) (fun _ => rfl)
instance : Inhabited S34 := ⟨z34⟩
def zcd : Rd S34 := zcj 34 (Kd.pair zhS.d (zaA 32 .u64).d) (fun x : S34 => (x.f0, x.f1)) (fun y => zhS.ok y.1 ∧ ((zaA 32 .u64).ok y.2)) (fun y => zhS.wt y.1 ∧ ((zaA 32 .u64).wt y.2)) (fun y => zhS.bk y.1 + ((zaA 32 .u64).bk y.2))
theorem ziz : zdD Try.prog zcd :=
  zbV (zaR (o := 0) (o' := 6) (ok := fun (y : Int) => (zaA 32 .u64).ok y) (wt := fun (y : Int) => (zaA 32 .u64).wt y) (bk := fun (y : Int) => (zaA 32 .u64).bk y) fit31 rfl rfl (by kernel_rfl) rfl (zbU (zcb Try.underlying32) rfl rfl (by kernel_rfl))) Try.underlying34 (by kernel_rfl) (fun x : S34 => (x.f0, x.f1)) (fun y => ⟨y.1, y.2⟩) (fun _ => rfl)
instance : Inhabited S43 := ⟨z43⟩
def zil : Rd S43 := zcj 43 (Kd.pair (zaA 3 .i64).d (Kd.pair (zae 25 24 zgc).d (Kd.pair zcd.d zcd.d))) (fun x : S43 => (x.f0, x.f1, x.f2, x.f3)) (fun y => (zaA 3 .i64).ok y.1 ∧ ((zae 25 24 zgc).ok y.2.1 ∧ (zcd.ok y.2.2.1 ∧ (zcd.ok y.2.2.2)))) (fun y => (zaA 3 .i64).wt y.1 ∧ ((zae 25 24 zgc).wt y.2.1 ∧ (zcd.wt y.2.2.1 ∧ (zcd.wt y.2.2.2)))) (fun y => (zaA 3 .i64).bk y.1 + ((zae 25 24 zgc).bk y.2.1 + (zcd.bk y.2.2.1 + (zcd.bk y.2.2.2))))
theorem fit43 : zdD Try.prog zil :=
  zbV (zaR (o := 0) (o' := 1) (ok := fun (y : (List S58) × S34 × S34) => (zae 25 24 zgc).ok y.1 ∧ (zcd.ok y.2.1 ∧ (zcd.ok y.2.2))) (wt := fun (y : (List S58) × S34 × S34) => (zae 25 24 zgc).wt y.1 ∧ (zcd.wt y.2.1 ∧ (zcd.wt y.2.2))) (bk := fun (y : (List S58) × S34 × S34) => (zae 25 24 zgc).bk y.1 + (zcd.bk y.2.1 + (zcd.bk y.2.2))) (zcb Try.underlying3) rfl rfl (by kernel_rfl) rfl (zaR (o := 1) (o' := 2) (ok := fun (y : S34 × S34) => zcd.ok y.1 ∧ (zcd.ok y.2)) (wt := fun (y : S34 × S34) => zcd.wt y.1 ∧ (zcd.wt y.2)) (bk := fun (y : S34 × S34) => zcd.bk y.1 + (zcd.bk y.2)) (zdb fit58 Try.underlying25 (by kernel_rfl) (by kernel_rfl)) rfl rfl (by kernel_rfl) rfl (zaR (o := 2) (o' := 9) (ok := fun (y : S34) => zcd.ok y) (wt := fun (y : S34) => zcd.wt y) (bk := fun (y : S34) => zcd.bk y) ziz rfl rfl (by kernel_rfl) rfl (zbU ziz rfl rfl (by kernel_rfl))))) Try.underlying43 (by kernel_rfl) (fun x : S43 => (x.f0, x.f1, x.f2, x.f3)) (fun y => ⟨y.1, y.2.1, y.2.2.1, y.2.2.2⟩) (fun _ => rfl)
def zb8 : Prop := ∀ (a0 : S43), zil.ok a0 → zil.wt a0 → ∃ k, zx.f k (a0.f0) (a0.f1) (a0.f2.f0.f0) (a0.f2.f0.f1) (a0.f2.f0.f2) (a0.f2.f0.f3) (a0.f2.f0.f4.f0) (a0.f2.f0.f4.f1) (a0.f2.f1) (a0.f3.f0.f0) (a0.f3.f0.f1) (a0.f3.f0.f2) (a0.f3.f0.f3) (a0.f3.f0.f4.f0) (a0.f3.f0.f4.f1) (a0.f3.f1) = some true
end Go.Proofs.Ytlabjgcoopdbiaa.Px

namespace Go.Proofs.Ytlabjgcoopdbiaa.Px
open Go.RowKit Go.Proofs.YtlabjgcoopdbiaaW.PrintWords Go.Proofs.YtlabjgcoopdbiaaW.PrintLast Go.Proofs.YtlabjgcoopdbiaaW.PrintMore
attribute [local go_sem] zz zB zJ zK zu zv zA zC
set_option linter.unusedVariables false
set_option linter.unusedSimpArgs false
def zbx (a r : Int) (bs : List S68) (ps : List ByteArray) (x y : Int) : Bs :=
  zct a.toNat ++ zct r.toNat ++ zbA (bs.map bB) ++ zbA ps ++ zct x.toNat ++ zct y.toNat
theorem zch (a r : Int) (bs : List S68) (ps : List ByteArray) (x y n : Int) : za7 a r bs ps x y n = true ↔ zcs n = true ∧ 1 ≤ a ∧ a ≤ n ∧ 1 ≤ r ∧ r ≤ 1048576 ∧ bs.length ≤ 4 ∧ bs.any (zcl n) = false ∧ zeh x y = true ∧ (zcx r = true ∨ x = 0 ∧ y = 0) ∧ zbv ps r n = true := by
  unfold za7
  simp [and_assoc]
theorem zgm (l : List ByteArray) (d : Nat) : ∀ j, zaY l d j = true → ∀ i, j ≤ i → i < j + d → (l.getD i ByteArray.empty).size = 32 := by
  induction d with
  | zero => intro j _ i h1 h2; omega
  | succ d ih =>
    intro j h i h1 h2
    rw [zaY, Bool.and_eq_true] at h
    rcases Nat.lt_or_ge j i with h3 | h3
    · exact ih (j + 1) h.2 i (by omega) (by omega)
    · obtain rfl : i = j := by omega
      have := h.1
      rw [zfa, Bool.and_eq_true] at this
      exact of_decide_eq_true this.1
theorem zbL {l : List ByteArray} {r n : Int} (hn : zcs n = true) (h : zbv l r n = true) : l.length ≤ 64 ∧ ∀ t ∈ l, t.size = 32 := by
  unfold zbv at h
  split at h
  · have h0 := of_decide_eq_true h
    obtain rfl := List.eq_nil_of_length_eq_zero h0
    simp
  · obtain ⟨_, h2, _⟩ := (zbJ n).1 hn
    rw [Bool.and_eq_true, Bool.and_eq_true] at h
    have h3 := of_decide_eq_true h.2
    refine ⟨by omega, fun t ht => ?_⟩
    obtain ⟨i, hi, rfl⟩ := List.mem_iff_getElem.1 ht
    have := zgm l l.length 0 h.1.1 i (by omega) (by omega)
    rwa [List.getD_eq_getElem?_getD, List.getElem?_eq_getElem hi] at this
theorem zh8 (b : S68) : (bB b).size ≤ 400 := by
  unfold bB
  split
  · rename_i h
    obtain ⟨h1, h2, h3, h4, h5, h6, h7⟩ := (zc1 _ _ _).1 h
    have r1 := zc7 b.f2 48 (by omega) (fun t ht => (h7 t ht).2)
    have r2 := zaL (v := b.f2.length) (by omega)
    have r4 := zaL (v := b.f0.toNat) (by omega)
    have r5 := zaL (v := b.f1.toNat) (by omega)
    rw [zas, zdQ, List.length_append, List.length_append, zbA, List.length_append]; omega
  · show 0 ≤ 400; omega
theorem zfO {bs : List S68} (h : bs.length ≤ 4) : (zbA (bs.map bB)).length ≤ 1700 := by
  have r1 := zc7 (bs.map bB) 400 (by omega) (fun t ht => by obtain ⟨b, _, rfl⟩ := List.mem_map.1 ht; exact zh8 b)
  rw [List.length_map] at r1
  have r2 := zaL (v := (bs.map bB).length) (by rw [List.length_map]; omega)
  rw [zbA, List.length_append]; omega
theorem zfP {ps : List ByteArray} (h : ps.length ≤ 64 ∧ ∀ t ∈ ps, t.size = 32) : (zbA ps).length ≤ 2700 := by
  have r1 := zc7 ps 32 (by omega) (fun t ht => by have := h.2 t ht; omega)
  have r2 := zaL (v := ps.length) (by have := h.1; omega)
  rw [zbA, List.length_append]; have := h.1; omega
theorem zh7 {n : Int} {bs : List S68} (h : bs.any (zcl n) = false) : ∀ b ∈ bs, zc0 b.f0 b.f1 b.f2 = true ∧ b.f0 ≤ n := by
  intro b hb
  rw [List.any_eq_false] at h
  have := h b hb
  rw [zcl] at this
  simp at this
  exact ⟨this.1, by omega⟩
theorem zin (a b c d : ByteArray) : zD ByteArray.empty [a, b, c, d] 0 = a ∧ zD ByteArray.empty [a, b, c, d] 1 = b ∧ zD ByteArray.empty [a, b, c, d] 2 = c ∧ zD ByteArray.empty [a, b, c, d] 3 = d := ⟨rfl, rfl, rfl, rfl⟩
theorem zen (a r : Int) (bs : List S68) (ps : List ByteArray) (x y n : Int) :
    zat.f a r bs ps x y n = some (if za7 a r bs ps x y n = true then (toB (zbx a r bs ps x y), 0) else ((⟨#[]⟩ : ByteArray), 1)) := by
  unfold zat.f
  rw [show zac.f a r bs ps x y n = some (za7 a r bs ps x y n) from rfl]
  simp only [Option.bind_some]
  by_cases h : za7 a r bs ps x y n = true
  · rw [if_pos h, if_pos h]
    obtain ⟨h0, h1, h2, h3, h4, h5, h6, h7, h8, h9⟩ := (zch ..).1 h
    obtain ⟨k1, k2, k3⟩ := (zbJ n).1 h0
    obtain ⟨x1, x2, y1, y2⟩ := (zdJ x y).1 h7
    have e1 : zaz.f bs = some (bs.map bB) := if_pos h5
    have e2 : zap.f [a, r, x, y] = some [za4 a.toNat, za4 r.toNat, za4 x.toNat, za4 y.toNat] := by
      rw [zap.f, if_pos]
      · rfl
      · refine ⟨Nat.le_refl 4, fun k hk => ?_⟩
        simp only [List.mem_cons, List.not_mem_nil, or_false] at hk
        rcases hk with rfl | rfl | rfl | rfl <;> omega
    have s0 := zaP (v := a.toNat) (by omega)
    have s1 := zaP (v := r.toNat) (by omega)
    have s2 := zaP (v := x.toNat) (by omega)
    have s3 := zaP (v := y.toNat) (by omega)
    have r1 := zfO h5
    have r2 := zfP (zbL h0 h9)
    have d1 : zW.f (bs.map bB) = some (toB (zbA (bs.map bB))) := if_pos (by omega)
    have d2 : zW.f ps = some (toB (zbA ps)) := if_pos (by omega)
    rw [e1, e2]
    simp only [Option.bind_some, d1, d2]
    obtain ⟨q0, q1, q2, q3⟩ := zin (za4 a.toNat) (za4 r.toNat) (za4 x.toNat) (za4 y.toNat)
    rw [q0, q1, q2, q3]
    simp only [ByteArray.size_append, zas]
    rw [if_pos (by simp), if_pos (by simp), if_pos (by omega), if_pos (by omega), if_pos (by omega), if_pos (by simp), if_pos (by omega), if_pos (by simp), if_pos (by omega)]
    simp only [zbx, za4, zaV]
  · rw [if_neg h, if_neg h]
instance decBatch : DecidableEq S68 := fun a b => decidable_of_iff (a.f0 = b.f0 ∧ a.f1 = b.f1 ∧ a.f2 = b.f2) ⟨fun ⟨h0, h1, h2⟩ => by obtain ⟨a0, a1, a2⟩ := a; obtain ⟨b0, b1, b2⟩ := b; simp only at h0 h1 h2; rw [h0, h1, h2], fun h => by rw [h]; exact ⟨rfl, rfl, rfl⟩⟩
theorem zd8 (l : List S68) (j : Nat) (h : j < l.length) : z8 l (j : Int) = l[j] := by
  rw [z8, Int.toNat_natCast, List.getD_eq_getElem?_getD, List.getElem?_eq_getElem h]; rfl
theorem zgu {a r : Int} {bs : List S68} {ps : List ByteArray} {x y n : Int} (h : za7 a r bs ps x y n = true) : bs.length < 4611686018427387904 ∧ (∀ b ∈ bs, b.f2.length < 4611686018427387904) ∧ ps.length < 4611686018427387904 := by
  obtain ⟨h0, _, _, _, _, h5, h6, _, _, h9⟩ := (zch ..).1 h
  refine ⟨by omega, fun b hb => ?_, by have := (zbL h0 h9).1; omega⟩
  obtain ⟨_, _, _, _, _, k, _⟩ := (zc1 _ _ _).1 (zh7 h6 b hb).1
  omega
end Go.Proofs.Ytlabjgcoopdbiaa.Px

namespace Go.Proofs.Ytlabjgcoopdbiaa.Px
open Go.RowKit Go.Proofs.YtlabjgcoopdbiaaW.PrintWords Go.Proofs.YtlabjgcoopdbiaaW.PrintLast Go.Proofs.YtlabjgcoopdbiaaW.PrintMore
attribute [local go_sem] zz zB zJ zK zu zv zA zC
set_option linter.unusedVariables false
set_option linter.unusedSimpArgs false
def zaQ : Nat → Nat → Nat
  | 0, _ => 0
  | d + 1, s => s % 2 + zaQ d (s / 2)
theorem zb1 : ∀ (d s : Nat), zaQ d s ≤ d
  | 0, _ => Nat.le_refl _
  | d + 1, s => by have := zb1 d (s / 2); rw [zaQ]; omega
theorem zb4 : ∀ (d e b r : Nat), b < 2 ^ d → zaQ (d + e) (b + 2 ^ d * r) = zaQ d b + zaQ e r
  | 0, e, b, r, h => by
    obtain rfl : b = 0 := by simpa using h
    rw [Nat.zero_add, Nat.zero_add, Nat.pow_zero, Nat.one_mul]; simp [zaQ]
  | d + 1, e, b, r, h => by
    rw [Nat.pow_succ] at h
    have e1 : (b + 2 ^ (d + 1) * r) / 2 = b / 2 + 2 ^ d * r := by
      rw [Nat.pow_succ, Nat.mul_assoc, Nat.mul_left_comm, Nat.add_mul_div_left _ _ (by omega)]
    have e2 : (b + 2 ^ (d + 1) * r) % 2 = b % 2 := by
      rw [Nat.pow_succ, Nat.mul_assoc, Nat.mul_left_comm, Nat.add_mul_mod_self_left]
    rw [show d + 1 + e = (d + e) + 1 by omega, zaQ, zaQ, e1, e2, zb4 d e (b / 2) r (by omega)]
    omega
def zav : List Nat → Nat
  | [] => 0
  | b :: l => b + 256 * zav l
theorem zcW (a b c d : Nat) (hb : b < 256) (hd : d < 256) : (b + 256 * a) &&& (d + 256 * c) = (b &&& d) + 256 * (a &&& c) := by
  have hx : b &&& d < 2 ^ 8 := Nat.and_lt_two_pow _ (by omega)
  apply Nat.eq_of_testBit_eq
  intro i
  rw [Nat.testBit_and, Nat.add_comm b, Nat.add_comm d, Nat.add_comm (b &&& d)]
  rw [show (256 : Nat) = 2 ^ 8 from rfl, Nat.testBit_two_pow_mul_add _ (by omega), Nat.testBit_two_pow_mul_add _ (by omega), Nat.testBit_two_pow_mul_add _ hx]
  split <;> rw [Nat.testBit_and]
theorem low_1 : ∀ (b : Fin 256) (t : Fin 2), (b.val / 2 + 128 * t.val) &&& 85 = b.val / 2 &&& 85 := by decide +kernel
theorem low_2 : ∀ (b : Fin 256) (t : Fin 4), (b.val / 4 + 64 * t.val) &&& 51 = b.val / 4 &&& 51 := by decide +kernel
def zdk (b : Nat) : Nat := (b / 2 &&& 85) + (b &&& 85)
def zej (b : Nat) : Nat := (b / 4 &&& 51) + (b &&& 51)
def zij (b : Nat) : Nat := b % 16 + b / 16
theorem zeI : ∀ b : Fin 256, zdk b.val < 256 ∧ zej (zdk b.val) < 256 ∧ zej (zdk b.val) % 16 ≤ 4 ∧ zej (zdk b.val) / 16 ≤ 4 ∧ zij (zej (zdk b.val)) = zaQ 8 b.val := by decide +kernel
theorem zhB : ∀ l : List Nat, (∀ b ∈ l, b < 256) → (zav l / 2 &&& zav (List.replicate l.length 85)) + (zav l &&& zav (List.replicate l.length 85)) = zav (l.map zdk)
  | [], _ => rfl
  | b :: l, h => by
    have hb := h b List.mem_cons_self
    have ih := zhB l (fun c hc => h c (List.mem_cons_of_mem _ hc))
    have k := low_1 ⟨b, hb⟩ ⟨zav l % 2, Nat.mod_lt _ (by omega)⟩
    simp only at k
    rw [List.length_cons, List.replicate_succ, zav, zav, List.map_cons, zav, ← ih]
    rw [show (b + 256 * zav l) / 2 = (b / 2 + 128 * (zav l % 2)) + 256 * (zav l / 2) by omega, zcW _ _ _ _ (by omega) (by omega), zcW _ _ _ _ hb (by omega), k, zdk]
    omega
theorem zhC : ∀ l : List Nat, (∀ b ∈ l, b < 256) → (zav l / 4 &&& zav (List.replicate l.length 51)) + (zav l &&& zav (List.replicate l.length 51)) = zav (l.map zej)
  | [], _ => rfl
  | b :: l, h => by
    have hb := h b List.mem_cons_self
    have ih := zhC l (fun c hc => h c (List.mem_cons_of_mem _ hc))
    have k := low_2 ⟨b, hb⟩ ⟨zav l % 4, Nat.mod_lt _ (by omega)⟩
    simp only at k
    rw [List.length_cons, List.replicate_succ, zav, zav, List.map_cons, zav, ← ih]
    rw [show (b + 256 * zav l) / 4 = (b / 4 + 64 * (zav l % 4)) + 256 * (zav l / 4) by omega, zcW _ _ _ _ (by omega) (by omega), zcW _ _ _ _ hb (by omega), k, zej]
    omega
theorem zhE (l : List Nat) (h : ∀ b ∈ l, b % 16 ≤ 4 ∧ b / 16 ≤ 4) : zav l % 16 ≤ 4 := by
  cases l with
  | nil => simp [zav]
  | cons b l => have := (h b List.mem_cons_self).1; rw [zav]; omega
theorem zhD : ∀ l : List Nat, (∀ b ∈ l, b % 16 ≤ 4 ∧ b / 16 ≤ 4) → ((zav l / 16 + zav l) &&& zav (List.replicate l.length 15)) = zav (l.map zij)
  | [], _ => rfl
  | b :: l, h => by
    obtain ⟨h1, h2⟩ := h b List.mem_cons_self
    have hl := fun c hc => h c (List.mem_cons_of_mem b hc)
    have ih := zhD l hl
    have k := zhE l hl
    rw [List.length_cons, List.replicate_succ, zav, zav, List.map_cons, zav, ← ih]
    rw [show (b + 256 * zav l) / 16 + (b + 256 * zav l) = (b / 16 + 16 * (zav l % 16) + b) + 256 * (zav l / 16 + zav l) by omega, zcW _ _ _ _ (by omega) (by omega)]
    rw [show (15 : Nat) = 2 ^ 4 - 1 from rfl, Nat.and_two_pow_sub_one_eq_mod, zij]
    omega
theorem zfC : ∀ l : List Nat, (∀ b ∈ l, b < 256) → zav l < 256 ^ l.length
  | [], _ => by simp [zav]
  | b :: l, h => by
    have := zfC l (fun c hc => h c (List.mem_cons_of_mem _ hc))
    have hb := h b List.mem_cons_self
    rw [zav, List.length_cons, Nat.pow_succ]; omega
set_option maxRecDepth 10000 in
theorem zgT (m : Nat) : ∀ l : List Nat, (∀ b ∈ l, b ≤ m) → zav l * 255 + m ≤ m * 256 ^ l.length
  | [], _ => by simp [zav]
  | b :: l, h => by
    have := zgT m l (fun c hc => h c (List.mem_cons_of_mem _ hc))
    have hb := h b List.mem_cons_self
    rw [zav, List.length_cons, Nat.pow_succ, ← Nat.mul_assoc]
    generalize m * 256 ^ l.length = X at *
    omega
theorem zdh (a b : Nat) (h : a + b < 18446744073709551616) : IntKind.u64.wrap ((a : Int) + (b : Int)) = ((a + b : Nat) : Int) := by
  rw [za6 (by omega) (by omega)]; omega
theorem ziN {q0 q1 q2 r1 r2 r3 z : Nat} (g0 : q0 ≤ 8) (g1 : q1 ≤ 8) (g2 : q2 ≤ 8) (e0 : z = q0 + 256 * r1) (e1 : r1 = q1 + 256 * r2) (e2 : r2 = q2 + 256 * r3) : z / 256 = r1 ∧ (z + r1) / 65536 = r2 + r3 := by
  constructor <;> omega
theorem ziO {q0 q1 q2 q3 q4 q5 q6 q7 r1 r2 r3 r4 r5 r6 z : Nat} (g0 : q0 ≤ 8) (g1 : q1 ≤ 8) (g2 : q2 ≤ 8) (g3 : q3 ≤ 8) (g4 : q4 ≤ 8) (g5 : q5 ≤ 8) (g6 : q6 ≤ 8) (e0 : z = q0 + 256 * q1 + 65536 * q2 + 16777216 * q3 + 4294967296 * r4) (e1 : r1 = q1 + 256 * q2 + 65536 * q3 + 16777216 * q4 + 4294967296 * r5) (e2 : r2 = q2 + 256 * q3 + 65536 * q4 + 16777216 * q5 + 4294967296 * r6) (e3 : r3 = q3 + 256 * q4 + 65536 * q5 + 16777216 * q6 + 4294967296 * q7) :
    (z + r1 + (r2 + r3)) / 4294967296 = r4 + r5 + r6 + q7 := by
  generalize hx : q0 + 256 * q1 + 65536 * q2 + 16777216 * q3 = x at *
  have lx : x ≤ 134744072 := by omega
  generalize hy : q1 + 256 * q2 + 65536 * q3 + 16777216 * q4 = y at *
  have ly : y ≤ 134744072 := by omega
  generalize hu : q2 + 256 * q3 + 65536 * q4 + 16777216 * q5 = u at *
  have lu : u ≤ 134744072 := by omega
  generalize hv : q3 + 256 * q4 + 65536 * q5 + 16777216 * q6 = v at *
  have lv : v ≤ 134744072 := by omega
  clear hx hy hu hv g0 g1 g2 g3 g4 g5 g6
  omega
theorem zik (q0 q1 q2 q3 q4 q5 q6 q7 z z1 z2 z3 : Nat) (g0 : q0 ≤ 8) (g1 : q1 ≤ 8) (g2 : q2 ≤ 8) (g3 : q3 ≤ 8) (g4 : q4 ≤ 8) (g5 : q5 ≤ 8) (g6 : q6 ≤ 8) (g7 : q7 ≤ 8)
    (hz : z = q0 + 256 * (q1 + 256 * (q2 + 256 * (q3 + 256 * (q4 + 256 * (q5 + 256 * (q6 + 256 * q7))))))) (h1 : z1 = z + z / 256) (h2 : z2 = z1 + z1 / 65536) (h3 : z3 = z2 + z2 / 4294967296) :
    z3 % 128 = q0 + (q1 + (q2 + (q3 + (q4 + (q5 + (q6 + q7)))))) := by
  obtain ⟨r6, e6⟩ : ∃ r, r = q6 + 256 * q7 := ⟨_, rfl⟩
  obtain ⟨r5, e5⟩ : ∃ r, r = q5 + 256 * r6 := ⟨_, rfl⟩
  obtain ⟨r4, e4⟩ : ∃ r, r = q4 + 256 * r5 := ⟨_, rfl⟩
  obtain ⟨r3, e3⟩ : ∃ r, r = q3 + 256 * r4 := ⟨_, rfl⟩
  obtain ⟨r2, e2⟩ : ∃ r, r = q2 + 256 * r3 := ⟨_, rfl⟩
  obtain ⟨r1, e1⟩ : ∃ r, r = q1 + 256 * r2 := ⟨_, rfl⟩
  rw [← e6, ← e5, ← e4, ← e3, ← e2, ← e1] at hz
  obtain ⟨a1, a2⟩ := ziN g0 g1 g2 hz e1 e2
  rw [a1] at h1
  rw [h1, a2] at h2
  have a3 := ziO (z := z) (q7 := q7) (r1 := r1) (r2 := r2) (r3 := r3) (r4 := r4) (r5 := r5) (r6 := r6) g0 g1 g2 g3 g4 g5 g6 (by rw [hz, e1, e2, e3]; omega) (by rw [e1, e2, e3, e4]; omega) (by rw [e2, e3, e4, e5]; omega) (by rw [e3, e4, e5, e6]; omega)
  rw [h2, a3] at h3
  clear a1 a2 a3 h1 h2
  omega
set_option maxHeartbeats 1000000 in
theorem zdj (x : Nat) (hx : x < 18446744073709551616) : zaT.f (x : Int) = some ((zaQ 64 x : Nat) : Int) := by
  obtain ⟨b0, b1, b2, b3, b4, b5, b6, b7, h0, h1, h2, h3, h4, h5, h6, h7, e⟩ : ∃ b0 b1 b2 b3 b4 b5 b6 b7 : Nat, b0 < 256 ∧ b1 < 256 ∧ b2 < 256 ∧ b3 < 256 ∧ b4 < 256 ∧ b5 < 256 ∧ b6 < 256 ∧ b7 < 256 ∧ x = zav [b0, b1, b2, b3, b4, b5, b6, b7] :=
    ⟨x % 256, x / 256 % 256, x / 65536 % 256, x / 16777216 % 256, x / 4294967296 % 256, x / 1099511627776 % 256, x / 281474976710656 % 256, x / 72057594037927936, by omega, by omega, by omega, by omega, by omega, by omega, by omega, by omega, by simp only [zav]; omega⟩
  generalize hl : [b0, b1, b2, b3, b4, b5, b6, b7] = l at e
  have hlen : l.length = 8 := by rw [← hl]; rfl
  have hb : ∀ b ∈ l, b < 256 := by rw [← hl]; simp only [List.mem_cons, List.not_mem_nil, or_false]; rintro b (rfl | rfl | rfl | rfl | rfl | rfl | rfl | rfl) <;> assumption
  have q1 := zhB l hb
  have hb1 : ∀ b ∈ l.map zdk, b < 256 := fun b hm => by obtain ⟨c, hc, rfl⟩ := List.mem_map.1 hm; exact (zeI ⟨c, hb c hc⟩).1
  have q2 := zhC (l.map zdk) hb1
  have hb2 : ∀ b ∈ (l.map zdk).map zej, b % 16 ≤ 4 ∧ b / 16 ≤ 4 := fun b hm => by
    obtain ⟨c, hc, rfl⟩ := List.mem_map.1 hm
    obtain ⟨d, hd, rfl⟩ := List.mem_map.1 hc
    have := zeI ⟨d, hb d hd⟩
    exact ⟨this.2.2.1, this.2.2.2.1⟩
  have q3 := zhD ((l.map zdk).map zej) hb2
  have e4 : ((l.map zdk).map zej).map zij = l.map (zaQ 8) := by
    rw [List.map_map, List.map_map]
    refine List.map_congr_left (fun c hc => ?_)
    exact (zeI ⟨c, hb c hc⟩).2.2.2.2
  rw [e4] at q3
  rw [List.length_map] at q2
  rw [List.length_map, List.length_map] at q3
  rw [hlen] at q1 q2 q3
  have p8 : (256 : Nat) ^ 8 = 18446744073709551616 := by decide
  have l1 := zfC _ hb1
  rw [List.length_map, hlen, p8] at l1
  have l2 := zfC ((l.map zdk).map zej) (fun b hm => by have := hb2 b hm; omega)
  rw [List.length_map, List.length_map, hlen, p8] at l2
  have l2' := zgT 68 ((l.map zdk).map zej) (fun b hm => by have := hb2 b hm; omega)
  rw [List.length_map, List.length_map, hlen, p8] at l2'
  rw [show zav (List.replicate 8 85) = 6148914691236517205 from rfl, ← e] at q1
  rw [show zav (List.replicate 8 51) = 3689348814741910323 from rfl] at q2
  rw [show zav (List.replicate 8 15) = 1085102592571150095 from rfl] at q3
  generalize zav (l.map zdk) = y1 at *
  generalize zav ((l.map zdk).map zej) = y2 at *
  have hz : zav (l.map (zaQ 8)) = zaQ 8 b0 + 256 * (zaQ 8 b1 + 256 * (zaQ 8 b2 + 256 * (zaQ 8 b3 + 256 * (zaQ 8 b4 + 256 * (zaQ 8 b5 + 256 * (zaQ 8 b6 + 256 * zaQ 8 b7)))))) := by rw [← hl]; simp only [List.map, zav, Nat.mul_zero, Nat.add_zero]
  have hp : zaQ 64 x = zaQ 8 b0 + (zaQ 8 b1 + (zaQ 8 b2 + (zaQ 8 b3 + (zaQ 8 b4 + (zaQ 8 b5 + (zaQ 8 b6 + zaQ 8 b7)))))) := by
    rw [e, ← hl]
    simp only [zav, Nat.mul_zero, Nat.add_zero]
    rw [show (64 : Nat) = 8 + 56 from rfl, show (256 : Nat) = 2 ^ 8 from rfl, zb4 _ _ _ _ h0, show (56 : Nat) = 8 + 48 from rfl, zb4 _ _ _ _ h1, show (48 : Nat) = 8 + 40 from rfl, zb4 _ _ _ _ h2, show (40 : Nat) = 8 + 32 from rfl, zb4 _ _ _ _ h3, show (32 : Nat) = 8 + 24 from rfl, zb4 _ _ _ _ h4, show (24 : Nat) = 8 + 16 from rfl, zb4 _ _ _ _ h5, show (16 : Nat) = 8 + 8 from rfl, zb4 _ _ _ _ h6]
  have g0 := zb1 8 b0
  have g1 := zb1 8 b1
  have g2 := zb1 8 b2
  have g3 := zb1 8 b3
  have g4 := zb1 8 b4
  have g5 := zb1 8 b5
  have g6 := zb1 8 b6
  have g7 := zb1 8 b7
  generalize zav (l.map (zaQ 8)) = z at *
  have d2 : (x : Int) / 2 = ((x / 2 : Nat) : Int) := by omega
  have d4 : (y1 : Int) / 4 = ((y1 / 4 : Nat) : Int) := by omega
  have d16 : (y2 : Int) / 16 = ((y2 / 16 : Nat) : Int) := by omega
  have i1 : IntKind.u64.wrap (Go.bits .and .u64 ((x : Int) / 2) 6148914691236517205 + Go.bits .and .u64 (x : Int) 6148914691236517205) = (y1 : Int) := by
    have k1 : Go.bits .and .u64 ((x / 2 : Nat) : Int) 6148914691236517205 = ((x / 2 &&& 6148914691236517205 : Nat) : Int) := u64_and_nat (x / 2) 6148914691236517205 (by omega) (by omega)
    have k2 : Go.bits .and .u64 (x : Int) 6148914691236517205 = ((x &&& 6148914691236517205 : Nat) : Int) := u64_and_nat x 6148914691236517205 hx (by omega)
    rw [d2, k1, k2, zdh _ _ (by rw [q1]; exact l1), q1]
  have i2 : IntKind.u64.wrap (Go.bits .and .u64 ((y1 : Int) / 4) 3689348814741910323 + Go.bits .and .u64 (y1 : Int) 3689348814741910323) = (y2 : Int) := by
    have k1 : Go.bits .and .u64 ((y1 / 4 : Nat) : Int) 3689348814741910323 = ((y1 / 4 &&& 3689348814741910323 : Nat) : Int) := u64_and_nat (y1 / 4) 3689348814741910323 (by omega) (by omega)
    have k2 : Go.bits .and .u64 (y1 : Int) 3689348814741910323 = ((y1 &&& 3689348814741910323 : Nat) : Int) := u64_and_nat y1 3689348814741910323 l1 (by omega)
    rw [d4, k1, k2, zdh _ _ (by rw [q2]; exact l2), q2]
  have l3 : y2 / 16 + y2 < 18446744073709551616 := by omega
  have i3 : Go.bits .and .u64 (IntKind.u64.wrap ((y2 : Int) / 16 + (y2 : Int))) 1085102592571150095 = (z : Int) := by
    have k1 : Go.bits .and .u64 ((y2 / 16 + y2 : Nat) : Int) 1085102592571150095 = ((y2 / 16 + y2 &&& 1085102592571150095 : Nat) : Int) := u64_and_nat (y2 / 16 + y2) 1085102592571150095 l3 (by omega)
    rw [d16, zdh _ _ l3, k1, q3]
  unfold zaT.f
  rw [i1, i2, i3]
  have i4 : IntKind.u64.wrap ((z : Int) + (z : Int) / 256) = ((z + z / 256 : Nat) : Int) := by
    rw [show (z : Int) / 256 = ((z / 256 : Nat) : Int) by omega]; exact zdh _ _ (by omega)
  rw [i4]
  generalize hz1 : z + z / 256 = z1
  have i5 : IntKind.u64.wrap ((z1 : Int) + (z1 : Int) / 65536) = ((z1 + z1 / 65536 : Nat) : Int) := by
    rw [show (z1 : Int) / 65536 = ((z1 / 65536 : Nat) : Int) by omega]; exact zdh _ _ (by omega)
  rw [i5]
  generalize hz2 : z1 + z1 / 65536 = z2
  have i6 : IntKind.u64.wrap ((z2 : Int) + (z2 : Int) / 4294967296) = ((z2 + z2 / 4294967296 : Nat) : Int) := by
    rw [show (z2 : Int) / 4294967296 = ((z2 / 4294967296 : Nat) : Int) by omega]; exact zdh _ _ (by omega)
  rw [i6]
  generalize hz3 : z2 + z2 / 4294967296 = z3
  have l4 : z3 < 9223372036854775808 := by omega
  have i7 : Go.bits .and .i64 (wrap64 (z3 : Int)) 127 = ((z3 % 128 : Nat) : Int) := by
    rw [zaf (by omega) (by omega)]
    have := bits_mask .i64 63 (by decide) (fun n h0 h1 => by rw [IntKind.wrap_i64]; omega) 7 (by decide) (z3 : Int) (by omega) (by omega)
    rw [show ((2 : Int) ^ 7 - 1) = 127 from rfl] at this
    rw [this]; omega
  rw [i7, hp]
  have hq : z3 % 128 = zaQ 8 b0 + (zaQ 8 b1 + (zaQ 8 b2 + (zaQ 8 b3 + (zaQ 8 b4 + (zaQ 8 b5 + (zaQ 8 b6 + zaQ 8 b7)))))) := zik _ _ _ _ _ _ _ _ _ _ _ _ g0 g1 g2 g3 g4 g5 g6 g7 hz hz1.symm hz2.symm hz3.symm
  rw [hq]
end Go.Proofs.Ytlabjgcoopdbiaa.Px

namespace Go.Proofs.Ytlabjgcoopdbiaa.Px
open Go.RowKit Go.Proofs.YtlabjgcoopdbiaaW.PrintWords Go.Proofs.YtlabjgcoopdbiaaW.PrintLast Go.Proofs.YtlabjgcoopdbiaaW.PrintMore
attribute [local go_sem] zz zB zJ zK zu zv zA zC
set_option linter.unusedVariables false
set_option linter.unusedSimpArgs false
end Go.Proofs.Ytlabjgcoopdbiaa.Px

namespace Go.Proofs.Ytlabjgcoopdbiaa.Px
open Go.RowKit Go.Proofs.YtlabjgcoopdbiaaW.PrintWords Go.Proofs.YtlabjgcoopdbiaaW.PrintLast Go.Proofs.YtlabjgcoopdbiaaW.PrintMore
attribute [local go_sem] zz zB zJ zK zu zv zA zC
set_option linter.unusedVariables false
set_option linter.unusedSimpArgs false
end Go.Proofs.Ytlabjgcoopdbiaa.Px

namespace Go.Proofs.Ytlabjgcoopdbiaa.Px
open Go.RowKit Go.Proofs.YtlabjgcoopdbiaaW.PrintWords Go.Proofs.YtlabjgcoopdbiaaW.PrintLast Go.Proofs.YtlabjgcoopdbiaaW.PrintMore
attribute [local go_sem] zz zB zJ zK zu zv zA zC
set_option linter.unusedVariables false
set_option linter.unusedSimpArgs false
end Go.Proofs.Ytlabjgcoopdbiaa.Px

namespace Go.Proofs.Ytlabjgcoopdbiaa.Px
open Go.RowKit Go.Proofs.YtlabjgcoopdbiaaW.PrintWords Go.Proofs.YtlabjgcoopdbiaaW.PrintLast Go.Proofs.YtlabjgcoopdbiaaW.PrintMore
attribute [local go_sem] zz zB zJ zK zu zv zA zC
set_option linter.unusedVariables false
set_option linter.unusedSimpArgs false
end Go.Proofs.Ytlabjgcoopdbiaa.Px

namespace Go.Proofs.Ytlabjgcoopdbiaa.Px
open Go.RowKit Go.Proofs.YtlabjgcoopdbiaaW.PrintWords Go.Proofs.YtlabjgcoopdbiaaW.PrintLast Go.Proofs.YtlabjgcoopdbiaaW.PrintMore
attribute [local go_sem] zz zB zJ zK zu zv zA zC
set_option linter.unusedVariables false
set_option linter.unusedSimpArgs false
end Go.Proofs.Ytlabjgcoopdbiaa.Px

namespace Go.Proofs.Ytlabjgcoopdbiaa.Px
open Go.RowKit Go.Proofs.YtlabjgcoopdbiaaW.PrintWords Go.Proofs.YtlabjgcoopdbiaaW.PrintLast Go.Proofs.YtlabjgcoopdbiaaW.PrintMore
attribute [local go_sem] zz zB zJ zK zu zv zA zC
set_option linter.unusedVariables false
set_option linter.unusedSimpArgs false
theorem zgf (o q : Int) (l : List ByteArray) (hl : l.length < 4611686018427387904) (d : Nat) : ∀ j, j + d = l.length →
    Ev (fun k => zs.l0 k (j : Int) o q l) (!(l.drop j).any zbT) := by
  induction d with
  | zero =>
    intro j hj
    refine Ev.step (fun k => by rw [zs.l0]) ?_
    refine z6 (by omega) (zax (Ev.now _) ?_)
    rw [List.drop_eq_nil_of_le (by omega)]; rfl
  | succ d ih =>
    intro j hj
    have hjl : j < l.length := by omega
    refine Ev.step (fun k => by rw [zs.l0]) ?_
    refine zN (by omega) (zN (by omega) ?_)
    rw [zim l j hjl, List.drop_eq_getElem_cons hjl, zaf (by omega) (by omega), List.any_cons]
    by_cases h1 : (l[j].size : Int) < 1
    · refine zN h1 (zax (Ev.now _) ?_)
      have : l[j].size = 0 := by omega
      simp [zbT, this]
    · refine z6 h1 ?_
      by_cases h2 : (l[j].size : Int) > 48
      · refine zN h2 (zax (Ev.now _) ?_)
        have : 48 < l[j].size := by omega
        simp [zbT, this]
      · refine z6 h2 (zax (ih (j + 1) (by omega)) ?_)
        have e1 : zbT l[j] = false := by
          have : ¬ l[j].size = 0 := by omega
          have h3 : ¬ 48 < l[j].size := by omega
          simp [zbT, this, h3]
        rw [e1, Bool.false_or]
theorem zfn (o q : Int) (l : List ByteArray) (hl : l.length < 4611686018427387904) : Ev (fun k => zs.f k o q l) (zc0 o q l) := by
  have key : ∀ b : Bool, (b = true ↔ ¬ (1 ≤ o ∧ o ≤ 64 ∧ 1 ≤ q ∧ q ≤ 1073741824 ∧ 1 ≤ l.length ∧ l.length ≤ 4)) → Ev (fun k => zs.j0 k b o q l) (zc0 o q l) := by
    intro b hb
    refine Ev.step (fun k => by rw [zs.j0]) ?_
    by_cases h : 1 ≤ o ∧ o ≤ 64 ∧ 1 ≤ q ∧ q ≤ 1073741824 ∧ 1 ≤ l.length ∧ l.length ≤ 4
    · refine z6 (fun hh => hb.1 hh h) (zax (zgf o q l hl l.length 0 (by omega)) ?_)
      obtain ⟨h1, h2, h3, h4, h5, h6⟩ := h
      simp [zc0, h1, h2, h3, h4, h5, h6]
    · refine zN (hb.2 h) (zax (Ev.now _) ?_)
      symm
      rw [← Bool.not_eq_true, zc1]
      exact fun ⟨h1, h2, h3, h4, h5, h6, _⟩ => h ⟨h1, h2, h3, h4, h5, h6⟩
  by_cases h1 : o < 1
  · exact zN h1 (key true (by simp; omega))
  refine z6 h1 ?_
  by_cases h2 : o > 64
  · exact zN h2 (key true (by simp; omega))
  refine z6 h2 ?_
  by_cases h3 : q < 1
  · exact zN h3 (key true (by simp; omega))
  refine z6 h3 ?_
  by_cases h4 : q > 1073741824
  · exact zN h4 (key true (by simp; omega))
  refine z6 h4 ?_
  by_cases h5 : (l.length : Int) < 1
  · exact zN h5 (key true (by simp; omega))
  exact z6 h5 (key _ (by simp; omega))
end Go.Proofs.Ytlabjgcoopdbiaa.Px
