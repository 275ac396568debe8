/- Part 32 of 32 of the proof of the law CertChecks: what is proved is the statement at the end of the last part; its conditions are those of the given row. -/
import Derived.Test.YtlabjgcoopdbiaaRows
import Derived.Deep.Slices
import Derived.ChangeArms
import Derived.SizedLaws
import Derived.WideOpen
import Derived.ProofKit
import Derived.OpenShut
import Derived.ShutString
import Derived.ChangeOld
import Derived.JoinedCond
import Derived.Carry
import Derived.WideShapes
import Derived.Test.YtlabjgcoopdbiaaZCertCheckse
namespace Go.Proofs.Ytlabjgcoopdbiaa.Px
open Go.RowKit Go.Proofs.YtlabjgcoopdbiaaW.PrintWords Go.Proofs.YtlabjgcoopdbiaaW.PrintLast Go.Proofs.YtlabjgcoopdbiaaW.PrintMore
attribute [local go_sem] zC zE zK zL zw zx zD zF
set_option linter.unusedVariables false
set_option linter.unusedSimpArgs false
structure Rd (α : Type) where
  t : TypeId
  d : Kd α
  ok : α → Prop
  wt : α → Prop
  bk : α → Nat
structure zd0 {α : Type} (P : Program) (r : Rd α) : Prop where
  out : ∀ {H : Type} {enc : TypeId × Value → H} {w : World} {fuel : Nat} {cs : List Value} {x : DataW H × List MemPlace}, DataW.trod enc P w 0 (fun _ => true) true fuel r.t cs = some x →
    ∃ a, r.d.K w a cs ∧ r.ok a ∧ ((∀ n ∈ x.1.weights P r.t, n ≤ reachBytes) → r.wt a) ∧ r.bk a ≤ Rows.uptoBulk x.1
def zaL (t : TypeId) (k : IntKind) : Rd Int := ⟨t, Kd.int k, fun a => (Lit.int k a).wf = true, fun _ => True, fun _ => 1⟩
def zac (t : TypeId) : Rd ByteArray := ⟨t, Kd.string, fun a => a.size ≤ maxLen, fun a => a.size ≤ reachBytes, fun a => a.size + 1⟩
def zaj {α : Type} (t : TypeId) (B : Nat) (r : Rd α) : Rd (List α) :=
  ⟨t, Kd.slice r.t r.d, fun l => l.length ≤ maxLen ∧ ∀ a ∈ l, r.ok a, fun l => l.length * B ≤ reachBytes ∧ ∀ a ∈ l, r.wt a, fun l => (l.map r.bk).sum + 1⟩
section
variable {P : Program}
theorem zcx {t : TypeId} {k : IntKind} (h : P.underlying t = some (.int k)) : zd0 P (zaL t k) := by
  constructor
  intro H enc w fuel cs x hx
  obtain ⟨n, rfl, rfl, hw⟩ := DataW.trod_int h hx
  exact ⟨n, rfl, hw, fun _ => trivial, by simp [zaL, Rows.uptoBulk]⟩
theorem zda {t : TypeId} (h : P.underlying t = some .string) : zd0 P (zac t) := by
  constructor
  intro H enc w fuel cs x hx
  obtain ⟨s, rfl, rfl, hs⟩ := DataW.trod_string h hx
  have e : s.data.toList.length = s.size := by rw [Array.length_toList]; rfl
  refine ⟨s, rfl, hs, fun hn => ?_, by simp only [zac, Rows.uptoBulk, e]; exact Nat.le_refl _⟩
  have := hn s.data.toList.length (by simp [DataW.weights])
  rwa [e] at this
theorem zgv {H α : Type} (f : Nat → DataW H) (g : Nat → α) (bk : α → Nat) (n : Nat) (h : ∀ i, i < n → bk (g i) ≤ Rows.uptoBulk (f i)) : (((List.range n).map g).map bk).sum ≤ Rows.uptoBulkAll ((List.range n).map f) := by
  suffices k : ∀ l : List Nat, (∀ i ∈ l, i < n) → ((l.map g).map bk).sum ≤ Rows.uptoBulkAll (l.map f) from k _ (fun i hi => List.mem_range.1 hi)
  intro l
  induction l with
  | nil => intro _; simp
  | cons i l ih =>
    intro hl
    have h1 := h i (hl i List.mem_cons_self)
    have h2 := ih (fun j hj => hl j (List.mem_cons_of_mem _ hj))
    simp only [List.map_cons, List.sum_cons, Rows.uptoBulkAll]
    omega
theorem zdx {H : Type} {e : TypeId} : ∀ {l : List (DataW H)} {d : DataW H} {n : Nat}, d ∈ l → n ∈ d.weights P e → n ∈ DataW.weightsAll P e l
  | x :: l, d, n, hd, hn => by
    simp only [DataW.weightsAll, List.mem_append]
    rcases List.mem_cons.1 hd with rfl | hd
    · exact .inl hn
    · exact .inr (zdx hd hn)
theorem zdz {α : Type} [Inhabited α] {r : Rd α} (hr : zd0 P r) {t : TypeId} {B : Nat} (h : P.underlying t = some (.slice r.t)) (hc : P.cellsOf r.t = r.d.sz) (hB : P.bytesOf r.t = B) : zd0 P (zaj t B r) := by
  constructor
  intro H enc w fuel cs x hx
  rcases Deep.open_slice h hx with ⟨rfl, rfl⟩ | ⟨a, len, cap, m, n, D, Pl, rfl, _, hl, hm, hmm, rfl, hel⟩
  · exact ⟨[], ⟨none, 0, rfl, Nat.le_refl _, Kd.C_nil _ _⟩, ⟨Nat.zero_le _, by simp⟩, fun _ => ⟨by simp, by simp⟩, by simp [zaj, Rows.uptoBulk]⟩
  · simp only [if_true] at hmm
    subst hmm
    obtain ⟨f, hf⟩ := Deep.choose_lt (α := α) (n := len) (p := fun i v => ∃ c, w.cells? 0 (a.add (i * P.cellsOf r.t)) (P.cellsOf r.t) = some c ∧ r.d.K w v c ∧ r.ok v ∧ ((∀ q ∈ (D i).weights P r.t, q ≤ reachBytes) → r.wt v) ∧ r.bk v ≤ Rows.uptoBulk (D i)) (fun i hi => by
      obtain ⟨cs', h1, h2⟩ := hel i (by omega)
      obtain ⟨v, k1, k2, k3, k4⟩ := hr.out h2
      exact ⟨v, cs', h1, k1, k2, k3, k4⟩)
    have hlen : ((List.range len).map f).length = len := by simp
    refine ⟨(List.range len).map f, ⟨some a, m, by rw [hlen], by rw [hlen]; exact hl, ?_⟩, ⟨by rw [hlen]; omega, ?_⟩, fun hw => ⟨?_, ?_⟩, ?_⟩
    · rw [hlen]
      refine ⟨hlen, by unfold maxLen at hm; omega, fun _ => ⟨a, rfl, fun j p hj => ?_⟩⟩
      have hjl : j < len := by
        have := (List.getElem?_eq_some_iff.1 hj).1
        simpa using this
      obtain ⟨c, c1, c2, _⟩ := hf j hjl
      have hp : f j = p := by simpa [List.getElem?_map, List.getElem?_range hjl] using hj
      obtain ⟨_, l2, l3⟩ := World.cells?_some c1
      refine ⟨c, by rw [l2, hc], hp ▸ c2, fun i u hu => ?_⟩
      have hi : i < P.cellsOf r.t := by rw [← l2]; exact (List.getElem?_eq_some_iff.1 hu).1
      rw [← hc, ← Deep.add_add, l3 i hi]
      exact hu
    · intro v hv
      obtain ⟨i, hi, rfl⟩ := List.mem_map.1 hv
      obtain ⟨c, _, _, h3, _⟩ := hf i (List.mem_range.1 hi)
      exact h3
    · have := hw ((((List.range len).map D).length + ((List.range (m - len)).map fun j => D (len + j)).length) * P.bytesOf r.t) (by show _ ∈ DataW.weights P t _; simp only [DataW.weights, h]; exact List.mem_cons_self)
      rw [hlen]
      rw [hB] at this
      simp only [List.length_map, List.length_range] at this
      exact Nat.le_trans (Nat.mul_le_mul_right _ (by omega)) this
    · intro v hv
      obtain ⟨i, hi, rfl⟩ := List.mem_map.1 hv
      obtain ⟨c, _, _, _, h4, _⟩ := hf i (List.mem_range.1 hi)
      refine h4 (fun q hq => hw q ?_)
      show _ ∈ DataW.weights P t _
      simp only [DataW.weights, h]
      exact List.mem_cons_of_mem _ (List.mem_append_left _ (zdx (List.mem_map.2 ⟨i, hi, rfl⟩) hq))
    · simp only [zaj, Rows.uptoBulk]
      have := zgv D f r.bk len (fun i hi => (hf i hi).choose_spec.2.2.2.2)
      omega
structure zdy {β : Type} (P : Program) (fs : List Field) (o : Nat) (d : Kd β) (ok wt : β → Prop) (bk : β → Nat) : Prop where
  out : ∀ {H : Type} {enc : TypeId × Value → H} {w : World} {n : Nat} {cs : List Value} {xs : List (DataW H × List MemPlace)}, xs.length = fs.length → cs.length = o + d.sz →
    (∀ (i : Nat) (f : Field), fs[i]? = some f → DataW.trod enc P w 0 (fun _ => true) true n f.type ((cs.drop f.offset).take (P.cellsOf f.type)) = xs[i]?) →
    ∃ b, d.K w b (cs.drop o) ∧ ok b ∧ ((∀ q ∈ DataW.weightsEach P (fs.map (·.type)) (xs.map (·.1)), q ≤ reachBytes) → wt b) ∧ bk b ≤ Rows.uptoBulkAll (xs.map (·.1))
theorem zcg {α : Type} {r : Rd α} (hr : zd0 P r) {f : Field} (ht : f.type = r.t) {o : Nat} (ho : f.offset = o) (hc : P.cellsOf r.t = r.d.sz) : zdy P [f] o r.d r.ok r.wt r.bk := by
  constructor
  intro H enc w n cs xs hl hcs hx
  match xs, hl with
  | [x], _ =>
    have h := hx 0 f rfl
    rw [ho, ht, hc, List.take_of_length_le (by rw [List.length_drop]; omega)] at h
    obtain ⟨a, h1, h2, h3, h4⟩ := hr.out h
    refine ⟨a, h1, h2, fun hq => h3 (fun q hm => hq q ?_), by simp [Rows.uptoBulkAll]; omega⟩
    simp only [List.map_cons, List.map_nil, DataW.weightsEach, List.mem_append, ht]
    exact .inl hm
theorem za2 {α β : Type} {r : Rd α} (hr : zd0 P r) {f : Field} (ht : f.type = r.t) {fs : List Field} {o o' : Nat} (ho : f.offset = o) (hc : P.cellsOf r.t = r.d.sz) (ho' : o' = o + r.d.sz) {d : Kd β} {ok wt : β → Prop} {bk : β → Nat} (hfs : zdy P fs o' d ok wt bk) :
    zdy P (f :: fs) o (Kd.pair r.d d) (fun x => r.ok x.1 ∧ ok x.2) (fun x => r.wt x.1 ∧ wt x.2) (fun x => r.bk x.1 + bk x.2) := by
  constructor
  intro H enc w n cs xs hl hcs hx
  match xs, hl with
  | x :: xs, hl =>
    have h := hx 0 f rfl
    have hcs' : cs.length = o + (r.d.sz + d.sz) := hcs
    rw [ho, ht, hc] at h
    obtain ⟨a, h1, h2, h3, h4⟩ := hr.out h
    obtain ⟨b, k1, k2, k3, k4⟩ := hfs.out (enc := enc) (w := w) (n := n) (cs := cs) (xs := xs) (by simpa using hl) (by omega) (fun i g hg => hx (i + 1) g hg)
    refine ⟨(a, b), ⟨(cs.drop o).take r.d.sz, cs.drop o', ?_, h1, k1⟩, ⟨h2, k2⟩, fun hq => ⟨h3 (fun q hm => hq q ?_), k3 (fun q hm => hq q ?_)⟩, ?_⟩
    · rw [ho', ← List.drop_drop, List.take_append_drop]
    · simp only [List.map_cons, DataW.weightsEach, List.mem_append, ht]
      exact .inl hm
    · simp only [List.map_cons, DataW.weightsEach, List.mem_append]
      exact .inr hm
    · simp only [List.map_cons, Rows.uptoBulkAll]; omega
def zcB {α β : Type} (t : TypeId) (d : Kd β) (f : α → β) (ok wt : β → Prop) (bk : β → Nat) : Rd α := ⟨t, Kd.iso d f, fun a => ok (f a), fun a => wt (f a), fun a => bk (f a) + 1⟩
theorem zch {α β : Type} {t : TypeId} {fs : List Field} {d : Kd β} {ok wt : β → Prop} {bk : β → Nat} (hfs : zdy P fs 0 d ok wt bk) (h : P.underlying t = some (.struct fs.toArray)) (hc : P.cellsOf t = d.sz) (f : α → β) (g : β → α) (hfg : ∀ b, f (g b) = b) : zd0 P (zcB t d f ok wt bk) := by
  constructor
  intro H enc w fuel cs x hx
  obtain ⟨xs, n, rfl, rfl, hl, hn, hf⟩ := DataW.trod_struct h hx
  obtain ⟨b, k1, k2, k3, k4⟩ := hfs.out (enc := enc) (w := w) (n := n) (cs := cs) (xs := xs) (by simpa using hn) (by omega) (fun i g hg => hf i g (by simpa using hg))
  refine ⟨g b, ?_, ?_, fun hq => ?_, ?_⟩
  · show d.K w (f (g b)) cs
    rw [hfg]
    exact k1
  · show ok (f (g b))
    rw [hfg]
    exact k2
  · show wt (f (g b))
    rw [hfg]
    refine k3 (fun q hm => hq q ?_)
    show _ ∈ DataW.weights P t _
    simp only [DataW.weights, h]
    exact hm
  · show bk (f (g b)) + 1 ≤ _
    rw [hfg]
    simp only [Rows.uptoBulk]
    omega
end
theorem ziH {α H : Type} {P : Program} {r : Rd α} (hr : zd0 P r) {enc : TypeId × Value → H} {w : World} {v : Value} {d : DataW H} {ps : List MemPlace} (h : DataW.Trod enc P w 0 (fun _ => true) true r.t v d ps) :
    ∃ a, r.d.K w a v.cells.toList ∧ r.ok a ∧ ((∀ n ∈ d.weights P r.t, n ≤ reachBytes) → r.wt a) ∧ r.bk a ≤ Rows.uptoBulk d := by
  obtain ⟨fuel, hf⟩ := h
  exact hr.out hf
end Go.Proofs.Ytlabjgcoopdbiaa.Px

namespace Go.Proofs.Ytlabjgcoopdbiaa.Px
open Go.RowKit Go.Proofs.Ytlabjgcoopdbiaa.Px Go.Proofs.YtlabjgcoopdbiaaW.PrintWords Go.Proofs.YtlabjgcoopdbiaaW.PrintLast Go.Proofs.YtlabjgcoopdbiaaW.PrintMore
set_option linter.unusedVariables false
instance : Inhabited S58 := ⟨z58⟩
def zgF : Rd S58 := zcB 58 (Kd.pair (zaL 3 .i64).d (zac 9).d) (fun x : S58 => (x.f0, x.f1)) (fun y => (zaL 3 .i64).ok y.1 ∧ ((zac 9).ok y.2)) (fun y => (zaL 3 .i64).wt y.1 ∧ ((zac 9).wt y.2)) (fun y => (zaL 3 .i64).bk y.1 + ((zac 9).bk y.2))
theorem fit58 : zd0 Try.prog zgF :=
  zch (za2 (o := 0) (o' := 1) (ok := fun (y : ByteArray) => (zac 9).ok y) (wt := fun (y : ByteArray) => (zac 9).wt y) (bk := fun (y : ByteArray) => (zac 9).bk y) (zcx Try.underlying3) rfl rfl (by kernel_rfl) rfl (zcg (zda Try.underlying9) rfl rfl (by kernel_rfl))) Try.underlying58 (by kernel_rfl) (fun x : S58 => (x.f0, x.f1)) (fun y => ⟨y.1, y.2⟩) (fun _ => rfl)
instance : Inhabited S68 := ⟨z68⟩
def zfi : Rd S68 := zcB 68 (Kd.pair (zaL 3 .i64).d (Kd.pair (zaL 3 .i64).d (zaj 27 16 (zac 9)).d)) (fun x : S68 => (x.f0, x.f1, x.f2)) (fun y => (zaL 3 .i64).ok y.1 ∧ ((zaL 3 .i64).ok y.2.1 ∧ ((zaj 27 16 (zac 9)).ok y.2.2))) (fun y => (zaL 3 .i64).wt y.1 ∧ ((zaL 3 .i64).wt y.2.1 ∧ ((zaj 27 16 (zac 9)).wt y.2.2))) (fun y => (zaL 3 .i64).bk y.1 + ((zaL 3 .i64).bk y.2.1 + ((zaj 27 16 (zac 9)).bk y.2.2)))
theorem fit68 : zd0 Try.prog zfi :=
  zch (za2 (o := 0) (o' := 1) (ok := fun (y : Int × (List ByteArray)) => (zaL 3 .i64).ok y.1 ∧ ((zaj 27 16 (zac 9)).ok y.2)) (wt := fun (y : Int × (List ByteArray)) => (zaL 3 .i64).wt y.1 ∧ ((zaj 27 16 (zac 9)).wt y.2)) (bk := fun (y : Int × (List ByteArray)) => (zaL 3 .i64).bk y.1 + ((zaj 27 16 (zac 9)).bk y.2)) (zcx Try.underlying3) rfl rfl (by kernel_rfl) rfl (za2 (o := 1) (o' := 2) (ok := fun (y : (List ByteArray)) => (zaj 27 16 (zac 9)).ok y) (wt := fun (y : (List ByteArray)) => (zaj 27 16 (zac 9)).wt y) (bk := fun (y : (List ByteArray)) => (zaj 27 16 (zac 9)).bk y) (zcx Try.underlying3) rfl rfl (by kernel_rfl) rfl (zcg (zdz (zda Try.underlying9) Try.underlying27 (by kernel_rfl) (by kernel_rfl)) rfl rfl (by kernel_rfl)))) Try.underlying68 (by kernel_rfl) (fun x : S68 => (x.f0, x.f1, x.f2)) (fun y => ⟨y.1, y.2.1, y.2.2⟩) (fun _ => rfl)
instance : Inhabited S29 := ⟨z29⟩
def zdt : Rd S29 := zcB 29 (Kd.pair (zaL 3 .i64).d (zaL 3 .i64).d) (fun x : S29 => (x.f0, x.f1)) (fun y => (zaL 3 .i64).ok y.1 ∧ ((zaL 3 .i64).ok y.2)) (fun y => (zaL 3 .i64).wt y.1 ∧ ((zaL 3 .i64).wt y.2)) (fun y => (zaL 3 .i64).bk y.1 + ((zaL 3 .i64).bk y.2))
theorem fit29 : zd0 Try.prog zdt :=
  zch (za2 (o := 0) (o' := 1) (ok := fun (y : Int) => (zaL 3 .i64).ok y) (wt := fun (y : Int) => (zaL 3 .i64).wt y) (bk := fun (y : Int) => (zaL 3 .i64).bk y) (zcx Try.underlying3) rfl rfl (by kernel_rfl) rfl (zcg (zcx Try.underlying3) rfl rfl (by kernel_rfl))) Try.underlying29 (by kernel_rfl) (fun x : S29 => (x.f0, x.f1)) (fun y => ⟨y.1, y.2⟩) (fun _ => rfl)
instance : Inhabited S31 := ⟨z31⟩
def zio : Rd S31 := zcB 31 (Kd.pair (zaL 3 .i64).d (Kd.pair (zaL 3 .i64).d (Kd.pair (zaj 26 40 zfi).d (Kd.pair (zaj 27 16 (zac 9)).d zdt.d)))) (fun x : S31 => (x.f0, x.f1, x.f2, x.f3, x.f4)) (fun y => (zaL 3 .i64).ok y.1 ∧ ((zaL 3 .i64).ok y.2.1 ∧ ((zaj 26 40 zfi).ok y.2.2.1 ∧ ((zaj 27 16 (zac 9)).ok y.2.2.2.1 ∧ (zdt.ok y.2.2.2.2))))) (fun y => (zaL 3 .i64).wt y.1 ∧ ((zaL 3 .i64).wt y.2.1 ∧ ((zaj 26 40 zfi).wt y.2.2.1 ∧ ((zaj 27 16 (zac 9)).wt y.2.2.2.1 ∧ (zdt.wt y.2.2.2.2))))) (fun y => (zaL 3 .i64).bk y.1 + ((zaL 3 .i64).bk y.2.1 + ((zaj 26 40 zfi).bk y.2.2.1 + ((zaj 27 16 (zac 9)).bk y.2.2.2.1 + (zdt.bk y.2.2.2.2)))))
theorem fit31 : zd0 Try.prog zio :=
  zch (za2 (o := 0) (o' := 1) (ok := fun (y : Int × (List S68) × (List ByteArray) × S29) => (zaL 3 .i64).ok y.1 ∧ ((zaj 26 40 zfi).ok y.2.1 ∧ ((zaj 27 16 (zac 9)).ok y.2.2.1 ∧ (zdt.ok y.2.2.2)))) (wt := fun (y : Int × (List S68) × (List ByteArray) × S29) => (zaL 3 .i64).wt y.1 ∧ ((zaj 26 40 zfi).wt y.2.1 ∧ ((zaj 27 16 (zac 9)).wt y.2.2.1 ∧ (zdt.wt y.2.2.2)))) (bk := fun (y : Int × (List S68) × (List ByteArray) × S29) => (zaL 3 .i64).bk y.1 + ((zaj 26 40 zfi).bk y.2.1 + ((zaj 27 16 (zac 9)).bk y.2.2.1 + (zdt.bk y.2.2.2)))) (zcx Try.underlying3) rfl rfl (by kernel_rfl) rfl (za2 (o := 1) (o' := 2) (ok := fun (y : (List S68) × (List ByteArray) × S29) => (zaj 26 40 zfi).ok y.1 ∧ ((zaj 27 16 (zac 9)).ok y.2.1 ∧ (zdt.ok y.2.2))) (wt := fun (y : (List S68) × (List ByteArray) × S29) => (zaj 26 40 zfi).wt y.1 ∧ ((zaj 27 16 (zac 9)).wt y.2.1 ∧ (zdt.wt y.2.2))) (bk := fun (y : (List S68) × (List ByteArray) × S29) => (zaj 26 40 zfi).bk y.1 + ((zaj 27 16 (zac 9)).bk y.2.1 + (zdt.bk y.2.2))) (zcx Try.underlying3) rfl rfl (by kernel_rfl) rfl (za2 (o := 2) (o' := 3) (ok := fun (y : (List ByteArray) × S29) => (zaj 27 16 (zac 9)).ok y.1 ∧ (zdt.ok y.2)) (wt := fun (y : (List ByteArray) × S29) => (zaj 27 16 (zac 9)).wt y.1 ∧ (zdt.wt y.2)) (bk := fun (y : (List ByteArray) × S29) => (zaj 27 16 (zac 9)).bk y.1 + (zdt.bk y.2)) (zdz fit68 Try.underlying26 (by kernel_rfl) (by kernel_rfl)) rfl rfl (by kernel_rfl) rfl (za2 (o := 3) (o' := 4) (ok := fun (y : S29) => zdt.ok y) (wt := fun (y : S29) => zdt.wt y) (bk := fun (y : S29) => zdt.bk y) (zdz (zda Try.underlying9) Try.underlying27 (by kernel_rfl) (by kernel_rfl)) rfl rfl (by kernel_rfl) rfl (zcg fit29 rfl rfl (by kernel_rfl)))))) Try.underlying31 (by kernel_rfl) (fun x : S31 => (x.f0, x.f1, x.f2, x.f3, x.f4)) (fun y => ⟨y.1, y.2.1, y.2.2.1, y.2.2.2.1, y.2.2.2.2⟩) (fun _ => rfl)
instance : Inhabited S34 := ⟨z34⟩
def zfh : Rd S34 := zcB 34 (Kd.pair zio.d (zaL 32 .u64).d) (fun x : S34 => (x.f0, x.f1)) (fun y => zio.ok y.1 ∧ ((zaL 32 .u64).ok y.2)) (fun y => zio.wt y.1 ∧ ((zaL 32 .u64).wt y.2)) (fun y => zio.bk y.1 + ((zaL 32 .u64).bk y.2))
theorem fit34 : zd0 Try.prog zfh :=
  zch (za2 (o := 0) (o' := 6) (ok := fun (y : Int) => (zaL 32 .u64).ok y) (wt := fun (y : Int) => (zaL 32 .u64).wt y) (bk := fun (y : Int) => (zaL 32 .u64).bk y) fit31 rfl rfl (by kernel_rfl) rfl (zcg (zcx Try.underlying32) rfl rfl (by kernel_rfl))) Try.underlying34 (by kernel_rfl) (fun x : S34 => (x.f0, x.f1)) (fun y => ⟨y.1, y.2⟩) (fun _ => rfl)
instance : Inhabited S49 := ⟨z49⟩
def ziP : Rd S49 := zcB 49 (Kd.pair (zaL 3 .i64).d (Kd.pair (zaj 25 24 zgF).d (Kd.pair zfh.d (zac 9).d))) (fun x : S49 => (x.f0, x.f1, x.f2, x.f3)) (fun y => (zaL 3 .i64).ok y.1 ∧ ((zaj 25 24 zgF).ok y.2.1 ∧ (zfh.ok y.2.2.1 ∧ ((zac 9).ok y.2.2.2)))) (fun y => (zaL 3 .i64).wt y.1 ∧ ((zaj 25 24 zgF).wt y.2.1 ∧ (zfh.wt y.2.2.1 ∧ ((zac 9).wt y.2.2.2)))) (fun y => (zaL 3 .i64).bk y.1 + ((zaj 25 24 zgF).bk y.2.1 + (zfh.bk y.2.2.1 + ((zac 9).bk y.2.2.2))))
theorem fit49 : zd0 Try.prog ziP :=
  zch (za2 (o := 0) (o' := 1) (ok := fun (y : (List S58) × S34 × ByteArray) => (zaj 25 24 zgF).ok y.1 ∧ (zfh.ok y.2.1 ∧ ((zac 9).ok y.2.2))) (wt := fun (y : (List S58) × S34 × ByteArray) => (zaj 25 24 zgF).wt y.1 ∧ (zfh.wt y.2.1 ∧ ((zac 9).wt y.2.2))) (bk := fun (y : (List S58) × S34 × ByteArray) => (zaj 25 24 zgF).bk y.1 + (zfh.bk y.2.1 + ((zac 9).bk y.2.2))) (zcx Try.underlying3) rfl rfl (by kernel_rfl) rfl (za2 (o := 1) (o' := 2) (ok := fun (y : S34 × ByteArray) => zfh.ok y.1 ∧ ((zac 9).ok y.2)) (wt := fun (y : S34 × ByteArray) => zfh.wt y.1 ∧ ((zac 9).wt y.2)) (bk := fun (y : S34 × ByteArray) => zfh.bk y.1 + ((zac 9).bk y.2)) (zdz fit58 Try.underlying25 (by kernel_rfl) (by kernel_rfl)) rfl rfl (by kernel_rfl) rfl (za2 (o := 2) (o' := 9) (ok := fun (y : ByteArray) => (zac 9).ok y) (wt := fun (y : ByteArray) => (zac 9).wt y) (bk := fun (y : ByteArray) => (zac 9).bk y) fit34 rfl rfl (by kernel_rfl) rfl (zcg (zda Try.underlying9) rfl rfl (by kernel_rfl))))) Try.underlying49 (by kernel_rfl) (fun x : S49 => (x.f0, x.f1, x.f2, x.f3)) (fun y => ⟨y.1, y.2.1, y.2.2.1, y.2.2.2⟩) (fun _ => rfl)
def zck : Prop := ∀ (a0 : S49), ziP.ok a0 → ziP.wt a0 → ∃ k, zq.f k (a0.f0) (a0.f1) (a0.f2.f0.f0) (a0.f2.f0.f1) (a0.f2.f0.f2) (a0.f2.f0.f3) (a0.f2.f0.f4.f0) (a0.f2.f0.f4.f1) (a0.f2.f1) (a0.f3) = some true
end Go.Proofs.Ytlabjgcoopdbiaa.Px

namespace Go.Proofs.Ytlabjgcoopdbiaa.Px
open Go.RowKit Go.Proofs.YtlabjgcoopdbiaaW.PrintWords Go.Proofs.YtlabjgcoopdbiaaW.PrintLast Go.Proofs.YtlabjgcoopdbiaaW.PrintMore
attribute [local go_sem] zC zE zK zL zw zx zD zF
set_option linter.unusedVariables false
set_option linter.unusedSimpArgs false
theorem zeC : zbb 1 1 [] [] 0 0 4 = true := by
  rw [zcs]
  simp [zcz, zd6, zbP]
theorem zfF : zcU 1 1 [] [] 0 0 7 4 = 0 := by
  rw [zgZ]
  exact ⟨zeC, by decide +kernel, by decide +kernel⟩
theorem zfE : zcU 1 1 [] [] 0 0 3 4 = 2 := by
  unfold zcU
  rw [if_pos zeC, if_pos (by decide +kernel), if_pos (by decide +kernel)]
theorem zfG : za9 64 1 7 = [1, 2, 3] := by decide +kernel
theorem zgO (t : ByteArray) : zfz [(⟨1, t⟩ : S58), ⟨2, t⟩, ⟨3, t⟩] 7 t = true := by
  rw [zfz, zfG]
  simp [zbZ]
theorem zhi : Ev (fun k => zaS.f k) true := by
  unfold zaS.f
  refine Ev.bind (zbU 1 1 [] [] 0 0 4 (by decide) (by simp) (by decide) (by simp)) ?_
  have hz := zca 1 1 [] [] 0 0 4
  refine zN (by omega) ?_
  refine z8 rfl ?_
  refine Ev.bind (zcK 4 _ (by decide) 1 1 [] [] 0 0 7 (by decide)) ?_
  refine Ev.bind (zcK 4 _ (by decide) 1 1 [] [] 0 0 3 (by decide)) ?_
  refine z8 (show zav.f (zaY 1 1 [] [] 0 0 4).1 = some (zgR (zaY 1 1 [] [] 0 0 4).1) from if_pos (by omega)) ?_
  refine zN rfl ?_
  refine zN ?_ (zaF (Ev.now _) ?_)
  · rw [zgy]
    exact ⟨zfF, zgO _⟩
  · unfold zdS
    rw [zfE]; rfl
end Go.Proofs.Ytlabjgcoopdbiaa.Px

namespace Go.Proofs.Ytlabjgcoopdbiaa.Px
open Go.RowKit Go.Proofs.YtlabjgcoopdbiaaW.PrintWords Go.Proofs.YtlabjgcoopdbiaaW.PrintLast Go.Proofs.YtlabjgcoopdbiaaW.PrintMore
attribute [local go_sem] zC zE zK zL zw zx zD zF
set_option linter.unusedVariables false
set_option linter.unusedSimpArgs false
theorem zeb (o q : Int) (l : List ByteArray) (hl : l.length < 4611686018427387904) : Ev (fun k => zaO.f k o q l) (zc5 o q l) := by
  unfold zaO.f
  refine Ev.bind (zc2 o q l hl) ?_
  unfold zeZ zc5
  by_cases h : zcM o q l = true
  · have hs := zeu h
    rw [if_pos h, if_pos h]
    refine zN rfl (zN (by show 1 + (toB (zcf o q l)).size ≤ _; omega) ?_)
    refine z8 (zfT (s := (⟨#[98]⟩ : ByteArray) ++ toB (zcf o q l)) (by rw [zd8]; omega)) ?_
    exact Ev.now _
  · rw [if_neg h, if_neg h]
    exact zab (by simp) (Ev.now _)
end Go.Proofs.Ytlabjgcoopdbiaa.Px

namespace Go.Proofs.Ytlabjgcoopdbiaa.Px
open Go.RowKit Go.Proofs.YtlabjgcoopdbiaaW.PrintWords Go.Proofs.YtlabjgcoopdbiaaW.PrintLast Go.Proofs.YtlabjgcoopdbiaaW.PrintMore
attribute [local go_sem] zC zE zK zL zw zx zD zF
set_option linter.unusedVariables false
set_option linter.unusedSimpArgs false
end Go.Proofs.Ytlabjgcoopdbiaa.Px

namespace Go.Proofs.Ytlabjgcoopdbiaa.Px
open Go.RowKit Go.Proofs.YtlabjgcoopdbiaaW.PrintWords Go.Proofs.YtlabjgcoopdbiaaW.PrintLast Go.Proofs.YtlabjgcoopdbiaaW.PrintMore
attribute [local go_sem] zC zE zK zL zw zx zD zF
set_option linter.unusedVariables false
set_option linter.unusedSimpArgs false
theorem zhK (b : List S58) (hb : b.length < 4611686018427387904) (i : Int) (t : ByteArray) (d : Nat) : ∀ j : Nat, j + d = b.length → Ev (fun k => zW.l0 k b (j : Int) i t) (zbZ i t (b.drop j)) := by
  induction d with
  | zero =>
    intro j hj
    refine Ev.step (fun k => by rw [zW.l0]) ?_
    rw [List.drop_of_length_le (by omega)]
    exact zab (by omega) (Ev.now _)
  | succ d ih =>
    intro j hj
    refine Ev.step (fun k => by rw [zW.l0]) ?_
    have hlt : j < b.length := by omega
    rw [zdW b j hlt, List.drop_eq_getElem_cons hlt, zah (by omega) (by omega)]
    refine zN (by omega) (zN (by omega) ?_)
    rw [show zbZ i t (b[j] :: b.drop (j + 1)) = (decide (b[j].f0 = i ∧ b[j].f1 = t) || zbZ i t (b.drop (j + 1))) from rfl]
    by_cases h : b[j].f0 = i ∧ b[j].f1 = t
    · rw [decide_eq_true h]
      exact zN (by rw [h.1, h.2]; simp) (Ev.now _)
    · rw [decide_eq_false h, Bool.false_or]
      refine zab (fun hh => h ?_) (ih (j + 1) (by omega))
      rw [Bool.and_eq_true, beq_iff_eq, ze1, decide_eq_true_eq] at hh
      exact hh
theorem zen (b : List S58) (hb : b.length < 4611686018427387904) (i : Int) (t : ByteArray) : Ev (fun k => zW.f k b i t) (zbZ i t b) := by
  have := zhK b hb i t b.length 0 (by omega)
  rwa [List.drop_zero] at this
theorem zhJ (b : List S58) (hb : b.length < 4611686018427387904) (t : ByteArray) (l : List Int) (hl : l.length ≤ 64) (d : Nat) : ∀ j : Nat, j + d = l.length → Ev (fun k => zX.l0 k b t l (j : Int)) ((l.drop j).all fun id => zbZ id t b) := by
  induction d with
  | zero =>
    intro j hj
    refine Ev.step (fun k => by rw [zX.l0]) ?_
    rw [List.drop_of_length_le (by omega)]
    exact zab (by omega) (Ev.now _)
  | succ d ih =>
    intro j hj
    refine Ev.step (fun k => by rw [zX.l0]) ?_
    have hlt : j < l.length := by omega
    have er : rd l (j : Int) = l[j] := by rw [rd, Int.toNat_natCast, List.getD_eq_getElem?_getD, List.getElem?_eq_getElem hlt]; rfl
    rw [List.drop_eq_getElem_cons hlt, List.all_cons, er, zah (by omega) (by omega)]
    refine zN (by omega) (zN (by omega) (Ev.bind (zen b hb l[j] t) ?_))
    cases h : zbZ l[j] t b
    · exact zab (by simp) (zaF (Ev.now _) (by simp))
    · exact zN rfl (zaF (ih (j + 1) (by omega)) (by simp))
theorem zhI (b : List S58) (hb : b.length < 4611686018427387904) (s : Nat) (hs : s < 18446744073709551616) (t : ByteArray) : Ev (fun k => zX.f k b (s : Int) t) (zfz b s t) := by
  refine Ev.bind (zdX s hs) ?_
  have := zhJ b hb t (za9 64 1 s) (by rw [zcq]; exact zb7 64 s) (za9 64 1 s).length 0 (by omega)
  rwa [List.drop_zero] at this
end Go.Proofs.Ytlabjgcoopdbiaa.Px

namespace Go.Proofs.Ytlabjgcoopdbiaa.Px
open Go.RowKit Go.Proofs.YtlabjgcoopdbiaaW.PrintWords Go.Proofs.YtlabjgcoopdbiaaW.PrintLast Go.Proofs.YtlabjgcoopdbiaaW.PrintMore
attribute [local go_sem] zC zE zK zL zw zx zD zF
set_option linter.unusedVariables false
set_option linter.unusedSimpArgs false
def zht (x : S68) : S58 := ⟨x.f0, (⟨#[111]⟩ : ByteArray) ++ (zc5 x.f0 x.f1 x.f2).1⟩
def inB (b : List S58) (s : S58) : Bool := zbZ s.f0 s.f1 b
def zeW (b : List S58) (a r : Int) (bs : List S68) (ps : List ByteArray) (x y n : Int) : Int :=
  if zbb a r bs ps x y n = true then (if ((⟨a, (⟨#[104]⟩ : ByteArray) ++ (zaY a r bs ps x y n).1⟩ : S58) :: bs.map zht).all (inB b) = true then 0 else 10) else 1
theorem zet (o q : Int) (l : List ByteArray) : (zc5 o q l).1.size ≤ 32 := by
  unfold zc5
  split
  · exact Nat.le_of_eq (zfV _)
  · exact Nat.zero_le _
theorem zgx (b l : List S58) (hb : b.length < 4611686018427387904) : zbk.f b l = some (l.all (inB b)) := by
  rw [zbk.f, if_pos hb, List.all_eq_not_any_not]
  rfl
theorem ze3 (b : List S58) (hb : b.length < 4611686018427387904) (bs : List S68) (hl : bs.length ≤ 4) (d : Nat) : ∀ (j : Nat) (acc : List S58), j + d = bs.length → acc.length ≤ j + 1 →
    Ev (fun k => z9.l0 k b acc bs (bs.length : Int) (j : Int)) (if (acc ++ (bs.drop j).map zht).all (inB b) = true then 0 else 10) := by
  induction d with
  | zero =>
    intro j acc hj ha
    refine Ev.step (fun k => by rw [z9.l0]) ?_
    rw [List.drop_of_length_le (by omega), List.map_nil, List.append_nil]
    refine zab (by omega) (z8 (zgx b acc hb) ?_)
    exact zc8 (fun _ => Ev.now _) (fun _ => Ev.now _)
  | succ d ih =>
    intro j acc hj ha
    refine Ev.step (fun k => by rw [z9.l0]) ?_
    have hlt : j < bs.length := by omega
    rw [zcH bs j hlt, List.drop_eq_getElem_cons hlt, List.map_cons, zah (by omega) (by omega)]
    have hz := zet bs[j].f0 bs[j].f1 bs[j].f2
    refine zN (by omega) (zN (by omega) (zN (by omega) (z8 (zeH _ _ _) (z8 (show zaN.f (zc5 bs[j].f0 bs[j].f1 bs[j].f2).1 = some ((⟨#[111]⟩ : ByteArray) ++ (zc5 bs[j].f0 bs[j].f1 bs[j].f2).1) from if_pos (by omega)) (zN (by omega) ?_)))))
    have := ih (j + 1) (acc ++ [zht bs[j]]) (by omega) (by rw [List.length_append, List.length_cons, List.length_nil]; omega)
    rw [List.append_assoc, List.singleton_append] at this
    exact this
theorem ze2 (b : List S58) (hb : b.length < 4611686018427387904) (a r : Int) (bs : List S68) (ps : List ByteArray) (x y n : Int) : Ev (fun k => z9.f k n b a r bs ps x y) (zeW b a r bs ps x y n) := by
  unfold z9.f zeW
  refine z8 (zc4 ..) ?_
  by_cases h : zbb a r bs ps x y n = true
  · have hl := ((zcs ..).1 h).2.2.2.2.2.1
    have hz := zca a r bs ps x y n
    rw [if_pos h]
    refine zN (by unfold zaY; rw [if_pos h]) ?_
    refine z8 (show zaT.f (zaY a r bs ps x y n).1 = some ((⟨#[104]⟩ : ByteArray) ++ (zaY a r bs ps x y n).1) from if_pos (by omega)) ?_
    have := ze3 b hb bs (by omega) bs.length 0 [⟨a, (⟨#[104]⟩ : ByteArray) ++ (zaY a r bs ps x y n).1⟩] (by omega) (by simp)
    rw [List.drop_zero, List.singleton_append] at this
    exact this
  · rw [if_neg h]
    have e : (zaY a r bs ps x y n).2 = 1 := by unfold zaY; rw [if_neg h]
    rw [e]
    exact zab (by decide) (Ev.now _)
theorem zgi (b : List S58) (hb : b.length < 4611686018427387904) (a r : Int) (bs : List S68) (ps : List ByteArray) (x y : Int) (hl : bs.length ≤ 4) (hbs : ∀ b ∈ bs, b.f2.length < 4611686018427387904) (d : Nat) : ∀ (j : Nat) (h : Bool), j + d = bs.length →
    Ev (fun k => zH.l0 k b h (j : Int) a r bs ps x y) (if (h && ((bs.drop j).map zht).all (inB b)) = true then 0 else 10) := by
  induction d with
  | zero =>
    intro j h hj
    refine Ev.step (fun k => by rw [zH.l0]) ?_
    rw [List.drop_of_length_le (by omega), List.map_nil, List.all_nil, Bool.and_true]
    exact zab (by omega) (zc8 (fun _ => Ev.now _) (fun _ => Ev.now _))
  | succ d ih =>
    intro j h hj
    refine Ev.step (fun k => by rw [zH.l0]) ?_
    have hlt : j < bs.length := by omega
    rw [zcH bs j hlt, List.drop_eq_getElem_cons hlt, List.map_cons, List.all_cons, zah (by omega) (by omega)]
    have hz := zet bs[j].f0 bs[j].f1 bs[j].f2
    refine zN (by omega) (zN (by omega) (Ev.bind (zeb _ _ _ (hbs _ (List.getElem_mem hlt))) (zN (by omega) (Ev.bind (zen b hb _ _) ?_))))
    cases h
    · exact zab (by simp) (zaF (ih (j + 1) false (by omega)) (by simp))
    · refine zN rfl (zaF (ih (j + 1) _ (by omega)) ?_)
      rw [Bool.true_and]
      rfl
theorem zgh (b : List S58) (hb : b.length < 4611686018427387904) (a r : Int) (bs : List S68) (ps : List ByteArray) (x y n : Int) (k1 : bs.length < 4611686018427387904) (k2 : ∀ b ∈ bs, b.f2.length < 4611686018427387904) (k3 : ps.length < 4611686018427387904) (k4 : ∀ t ∈ ps, t.size < 4611686018427387904) :
    Ev (fun k => zH.f k n b a r bs ps x y) (zeW b a r bs ps x y n) := by
  unfold zH.f zeW
  refine Ev.bind (zbU a r bs ps x y n k1 k2 k3 k4) ?_
  by_cases h : zbb a r bs ps x y n = true
  · have hl := ((zcs ..).1 h).2.2.2.2.2.1
    have hz := zca a r bs ps x y n
    rw [if_pos h]
    refine zN (by unfold zaY; rw [if_pos h]) (zN (by omega) (Ev.bind (zen b hb _ _) ?_))
    have := zgi b hb a r bs ps x y (by omega) k2 bs.length 0 (zbZ a ((⟨#[104]⟩ : ByteArray) ++ (zaY a r bs ps x y n).1) b) (by omega)
    rw [List.drop_zero] at this
    exact this
  · rw [if_neg h]
    have e : (zaY a r bs ps x y n).2 = 1 := by unfold zaY; rw [if_neg h]
    rw [e]
    exact zab (by decide) (Ev.now _)
theorem zgH (n : Int) (b : List S58) (hb : b.length < 4611686018427387904) (a r : Int) (bs : List S68) (ps : List ByteArray) (x y : Int) (s : Nat) (hs : s < 18446744073709551616) (k1 : bs.length < 4611686018427387904) (k2 : ∀ b ∈ bs, b.f2.length < 4611686018427387904) (k3 : ps.length < 4611686018427387904) (k4 : ∀ t ∈ ps, t.size < 4611686018427387904) :
    Ev (fun k => zas.f k n b a r bs ps x y (s : Int)) (zdS n b a r bs ps x y s) := by
  unfold zas.f zdS
  refine Ev.bind (zg7 a r bs ps x y s hs n k1 k2 k3 k4) ?_
  refine zc8 (fun _ => ?_) (fun _ => Ev.now _)
  have hz := zca a r bs ps x y n
  refine Ev.bind (zbU a r bs ps x y n k1 k2 k3 k4) (zN (by omega) (Ev.bind (zhI b hb s hs _) ?_))
  exact zc8 (fun _ => Ev.now _) (fun _ => Ev.now _)
end Go.Proofs.Ytlabjgcoopdbiaa.Px

namespace Go.Proofs.Ytlabjgcoopdbiaa.Pure
open Go.RowKit Go.Proofs.Ytlabjgcoopdbiaa.Px Go.Proofs.YtlabjgcoopdbiaaW.PrintWords Go.Proofs.YtlabjgcoopdbiaaW.PrintLast Go.Proofs.YtlabjgcoopdbiaaW.PrintMore
theorem CertChecks : zck := by
  rintro ⟨n, b, ⟨⟨a, r, bs, ps, ⟨x, y⟩⟩, s⟩, g⟩ hok hwt
  obtain ⟨_, _, ⟨_, hs⟩, hg0⟩ := hok
  obtain ⟨_, ⟨b1, _⟩, ⟨⟨_, _, ⟨v1, v2⟩, ⟨p1, p2⟩, _⟩, _⟩, hg1⟩ := hwt
  have hg : 1 + g.size ≤ 9223372036854775807 := by
    have h : g.size ≤ 140737488351232 := by first | exact hg0 | exact hg1
    omega
  obtain ⟨s0, s1⟩ := u64_wf hs
  obtain ⟨s, rfl⟩ := Int.eq_ofNat_of_zero_le s0
  have hz : s < 18446744073709551616 := by have h : (s : Int) < 18446744073709551616 := s1; omega
  have hb : b.length < 4611686018427387904 := by
    have : b.length * 24 ≤ 140737488351232 := b1
    omega
  have k1 : bs.length < 4611686018427387904 := by have : bs.length * 40 ≤ 140737488351232 := v1; omega
  have k2 : ∀ b ∈ bs, b.f2.length < 4611686018427387904 := fun b hb => by
    obtain ⟨_, _, l1, _⟩ := v2 b hb
    have l1' : b.f2.length * 16 ≤ 140737488351232 := l1
    omega
  have k3 : ps.length < 4611686018427387904 := by have : ps.length * 16 ≤ 140737488351232 := p1; omega
  have k4 : ∀ t ∈ ps, t.size < 4611686018427387904 := fun t ht => by have t1 : t.size ≤ 140737488351232 := p2 t ht; omega
  refine Ev.rounds (Ev.bind zhi (z8 (show zaT.f g = some ((⟨#[104]⟩ : ByteArray) ++ g) from if_pos hg) (z8 (show zau.f g = some ((⟨#[104]⟩ : ByteArray) ++ g) from if_pos hg) (zN rfl (z8 (show zav.f g = some ((⟨#[121]⟩ : ByteArray) ++ g) from if_pos hg) (z8 (show zay.f g = some ((⟨#[121]⟩ : ByteArray) ++ g) from if_pos hg) (zN rfl (z8 (show zaN.f g = some ((⟨#[111]⟩ : ByteArray) ++ g) from if_pos hg) (z8 (show zaf.f g = some ((⟨#[111]⟩ : ByteArray) ++ g) from if_pos hg) (Ev.step (fun k => by rw [zq.j0]) ?_))))))))))
  refine zN rfl (zN (by simp) (Ev.bind (ze2 b hb a r bs ps x y n) (Ev.bind (zgh b hb a r bs ps x y n k1 k2 k3 k4) (zN rfl (Ev.bind (zcK n b hb a r bs ps x y s hz) (Ev.bind (zgH n b hb a r bs ps x y s hz k1 k2 k3 k4) (zaF (Ev.now _) (by simp))))))))
end Go.Proofs.Ytlabjgcoopdbiaa.Pure

namespace Go.Proofs.Ytlabjgcoopdbiaa.certChecks
open Go.ChangeShapes Go.WideShapes Go.ChangeAt Go.RowKit
open Go.ChangeMaps (open_string shut_string)
open Go.RowKit Go.Proofs.Ytlabjgcoopdbiaa.Px Go.Proofs.YtlabjgcoopdbiaaW.PrintWords Go.Proofs.YtlabjgcoopdbiaaW.PrintLast Go.Proofs.YtlabjgcoopdbiaaW.PrintMore
set_option linter.unusedVariables false
theorem own : ownKnob Try.prog.godebug = none := by kernel_rfl
theorem laidOut : laidOutB Try.prog = true := by kernel_rfl
set_option maxRecDepth 100000 in
theorem contract (H : Type) (enc : TypeId × Value → H) (W : World) (base : Nat) (args : Array Value) (ds gs : List (DataW H)) (before : List MemPlace)
    (hval0 : ∀ (j : Nat) t v, Try.f6.params[j]? = some t → args[j]? = some v → Value.okWide Try.prog W .any base t v)
    (hW : DataW.Whole enc Try.prog Try.f6.params.toList Rows.certChecksSpec.vars false W args.toList ds gs before)
    (hsz0 : (DataW.weightsEach Try.prog (Try.f6.params.toList ++ Rows.certChecksSpec.plain.varTypes Try.prog) (ds ++ gs)).all (· ≤ reachBytes) = true) :
    Calls Try.prog 6 args W fun e W' => ∃ v, e = .returned v ∧ Rows.certChecksSpec.post enc Try.prog Try.f6 false true false false W args v W' := by
  have hval : ∀ (j : Nat) t v, Try.f6.params[j]? = some t → args[j]? = some v → Value.okWide Try.prog W .any base t v := hval0
  have hW' := hW
  obtain ⟨p, q, hA0, hV, rfl, hfz, hnd⟩ := hW
  have hA : DataW.TrodAll enc Try.prog W 0 (fun _ => true) true Try.f6.params.toList args.toList ds p := hA0
  have hsz := hsz0
  rw [Try.params6] at hA hval hsz
  obtain ⟨v0, vs0, d0, ds0, p0, q0, hargs, rfl, rfl, h0, r0⟩ := trodAll_cons hA
  obtain ⟨rfl, rfl, rfl⟩ := trodAll_nil r0
  obtain rfl : args = #[v0] := by cases args; simp_all
  obtain ⟨rfl, rfl⟩ := trodVars_none hV
  have t0 := h0
  have lt0 : ∀ x ∈ p0, x.block < W.heap.size := by obtain ⟨m, hm⟩ := t0; exact DataW.trod_lt m _ _ _ hm
  obtain ⟨a0, K0, ok0, wt0, bk0⟩ := ziH fit49 h0
  have wq0 := wt0 (fun n hn => of_decide_eq_true (List.all_eq_true.1 hsz n (DataW.weights_mem_each (j := 0) (t := ziP.t) (d := d0) rfl rfl n hn)))
  obtain ⟨cs0, rfl, sz0⟩ := okWide_struct Try.underlying49 (hval 0 49 v0 rfl rfl)
  obtain ⟨A0_1, c0_1, A0_2_0_2, c0_2_0_2, A0_2_0_3, c0_2_0_3, e0, l0_1, g0_1, l0_2_0_2, g0_2_0_2, l0_2_0_3, g0_2_0_3⟩ := zid (show k49.K W a0 _ from K0)
  obtain rfl : cs0 = #[.int .i64 a0.f0, .slice A0_1 a0.f1.length c0_1, .int .i64 a0.f2.f0.f0, .int .i64 a0.f2.f0.f1, .slice A0_2_0_2 a0.f2.f0.f2.length c0_2_0_2, .slice A0_2_0_3 a0.f2.f0.f3.length c0_2_0_3, .int .i64 a0.f2.f0.f4.f0, .int .i64 a0.f2.f0.f4.f1, .int .u64 a0.f2.f1, .string a0.f3] := by have := congrArg List.toArray e0; simpa [Value.cells] using this
  obtain ⟨kk, hkk⟩ := Pure.CertChecks a0 ok0 wq0
  refine (zq.calls kk (a0.f0) A0_1 c0_1 (a0.f1) (a0.f2.f0.f0) (a0.f2.f0.f1) A0_2_0_2 c0_2_0_2 (a0.f2.f0.f2) A0_2_0_3 c0_2_0_3 (a0.f2.f0.f3) (a0.f2.f0.f4.f0) (a0.f2.f0.f4.f1) (a0.f2.f1) (a0.f3) true W g0_1 l0_1 g0_2_0_2 l0_2_0_2 g0_2_0_3 l0_2_0_3 hkk).mono fun e W' ⟨he, bel0⟩ => ?_
  have bel := bel0
  subst he
  exact ⟨_, rfl, _, _, _, [], _, [], hW', trodAll_mk1 (shut_bool Try.underlying4 _), (trodAll_cons_mk (Below.trod laidOut (by kernel_rfl) (of_decide_eq_true (by kernel_rfl)) t0 bel lt0) trodAll_mk0), rfl, bel.frame _, fun h => by cases h⟩
set_option maxRecDepth 100000 in
theorem lifted (os : Os) (started : os.Started) (H : Type) (enc : TypeId × Value → H) :
    ReturnsInHanded {} Try.checked os 6 .any (Rows.certChecksSpec.pre6 enc Try.prog Try.f6 Rows.certChecksRow.domain false) (Rows.certChecksSpec.post enc Try.prog Try.f6 false true false false) := by
  refine returnsInHanded_of_change_sized (C := Try.checked) own started (by kernel_rfl) Try.func6
    (ChangeSpec.witness6 (enc := enc) (C := Try.checked) false ⟨#[], #[.agg #[.int .i64 0, .slice none 0 0, .int .i64 0, .int .i64 0, .slice none 0 0, .slice none 0 0, .int .i64 0, .int .i64 0, .int .u64 0, .string ByteArray.empty]], []⟩ 8 (by kernel_rfl) (by kernel_rfl) (by kernel_rfl) (by kernel_rfl)) ?_
  intro W base args ds gs before hval hW _ hsz _
  exact contract H enc W base args ds gs before hval hW hsz
theorem proved : Rows.CertChecksSaid :=
  OpenClaim.holds_of_wide 6 Try.f6 rfl rfl rfl rfl rfl rfl rfl ⟨rfl, rfl, rfl, rfl, rfl⟩ rfl rfl rfl rfl rfl (by kernel_rfl) Try.func6 (by kernel_rfl)
    (of_decide_eq_true (by kernel_rfl)) (by unfold Func.isWrapper; first | (rw [if_pos (by decide +kernel)]; kernel_rfl) | (rw [if_neg (by decide +kernel)]; exact ⟨rfl, rfl⟩))
    (fun os started H enc _ => lifted os started H enc)
#print axioms proved
end Go.Proofs.Ytlabjgcoopdbiaa.certChecks
namespace Go.Proofs.Ytlabjgcoopdbiaa
theorem certChecks_holds : Rows.CertChecksSaid := certChecks.proved
end Go.Proofs.Ytlabjgcoopdbiaa
