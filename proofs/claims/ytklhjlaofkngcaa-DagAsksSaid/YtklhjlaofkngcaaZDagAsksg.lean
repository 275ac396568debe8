/- Part 33 of 33 of the proof of the law DagAsks: what is proved is the statement at the end of the last part; its conditions are those of the given row. -/
import Derived.Test.YtklhjlaofkngcaaRows
import Derived.Deep.Slices
import Derived.ChangeArms
import Derived.SizedLaws
import Derived.WideOpen
import Derived.ProofKit
import Derived.OpenShut
import Derived.ShutString
import Derived.ChangeOld
import Derived.JoinedCond
import Derived.Carry
import Derived.WideShapes
import Derived.Test.YtklhjlaofkngcaaZDagAsksf
namespace Go.Proofs.Ytklhjlaofkngcaa.Px
open Go.RowKit Go.Proofs.YtklhjlaofkngcaaW.PrintWords Go.Proofs.YtklhjlaofkngcaaW.PrintLast Go.Proofs.YtklhjlaofkngcaaW.PrintMore
attribute [local go_sem] zF zH zM zN zB zC zG zI
set_option linter.unusedVariables false
set_option linter.unusedSimpArgs false
structure Rd (α : Type) where
 t : TypeId
 d : Kd α
 ok : α → Prop
 wt : α → Prop
 bk : α → Nat
structure zeg {α : Type} (P : Program) (r : Rd α) : Prop where
 out : ∀ {H : Type} {enc : TypeId × Value → H} {w : World} {fuel : Nat} {cs : List Value} {x : DataW H × List MemPlace},DataW.trod enc P w 0 (fun _ => true) true fuel r.t cs = some x →
  ∃ a,r.d.K w a cs ∧ r.ok a ∧ ((∀ n ∈ x.1.weights P r.t,n ≤ reachBytes) → r.wt a) ∧ r.bk a ≤ Rows.uptoBulk x.1
def zak (t : TypeId) (k : IntKind) : Rd Int := ⟨t,Kd.int k,fun a => (Lit.int k a).wf = true,fun _ => True,fun _ => 1⟩
def zae (t : TypeId) : Rd ByteArray := ⟨t,Kd.string,fun a => a.size ≤ maxLen,fun a => a.size ≤ reachBytes,fun a => a.size + 1⟩
def zah {α : Type} (t : TypeId) (B : Nat) (r : Rd α) : Rd (List α) :=
 ⟨t,Kd.slice r.t r.d,fun l => l.length ≤ maxLen ∧ ∀ a ∈ l,r.ok a,fun l => l.length * B ≤ reachBytes ∧ ∀ a ∈ l,r.wt a,fun l => (l.map r.bk).sum + 1⟩
section
variable {P : Program}
theorem zcv {t : TypeId} {k : IntKind} (h : P.underlying t = some (.int k)) : zeg P (zak t k) := by
 constructor
 intro H enc w fuel cs x hx
 obtain ⟨n,rfl,rfl,hw⟩ := DataW.trod_int h hx
 exact ⟨n,rfl,hw,fun _ => trivial,by simp [zak,Rows.uptoBulk]⟩
theorem zdq {t : TypeId} (h : P.underlying t = some .string) : zeg P (zae t) := by
 constructor
 intro H enc w fuel cs x hx
 obtain ⟨s,rfl,rfl,hs⟩ := DataW.trod_string h hx
 have e : s.data.toList.length = s.size := by rw [Array.length_toList];rfl
 refine ⟨s,rfl,hs,fun hn => ?_,by simp only [zae,Rows.uptoBulk,e];exact Nat.le_refl _⟩
 have := hn s.data.toList.length (by simp [DataW.weights])
 rwa [e] at this
theorem zgY {H α : Type} (f : Nat → DataW H) (g : Nat → α) (bk : α → Nat) (n : Nat) (h : ∀ i,i < n → bk (g i) ≤ Rows.uptoBulk (f i)) : (((List.range n).map g).map bk).sum ≤ Rows.uptoBulkAll ((List.range n).map f) := by
 suffices k : ∀ l : List Nat,(∀ i ∈ l,i < n) → ((l.map g).map bk).sum ≤ Rows.uptoBulkAll (l.map f) from k _ (fun i hi => List.mem_range.1 hi)
 intro l
 induction l with
 | nil => intro _;simp
 | cons i l ih =>
  intro hl
  have h1 := h i (hl i List.mem_cons_self)
  have h2 := ih (fun j hj => hl j (List.mem_cons_of_mem _ hj))
  simp only [List.map_cons,List.sum_cons,Rows.uptoBulkAll]
  omega
theorem zdO {H : Type} {e : TypeId} : ∀ {l : List (DataW H)} {d : DataW H} {n : Nat},d ∈ l → n ∈ d.weights P e → n ∈ DataW.weightsAll P e l
 | x :: l,d,n,hd,hn => by
  simp only [DataW.weightsAll,List.mem_append]
  rcases List.mem_cons.1 hd with rfl | hd
  ·exact .inl hn
  ·exact .inr (zdO hd hn)
theorem zdQ {α : Type} [Inhabited α] {r : Rd α} (hr : zeg P r) {t : TypeId} {B : Nat} (h : P.underlying t = some (.slice r.t)) (hc : P.cellsOf r.t = r.d.sz) (hB : P.bytesOf r.t = B) : zeg P (zah t B r) := by
 constructor
 intro H enc w fuel cs x hx
 rcases Deep.open_slice h hx with ⟨rfl,rfl⟩ | ⟨a,len,cap,m,n,D,Pl,rfl,_,hl,hm,hmm,rfl,hel⟩
 ·exact ⟨[],⟨none,0,rfl,Nat.le_refl _,Kd.C_nil _ _⟩,⟨Nat.zero_le _,by simp⟩,fun _ => ⟨by simp,by simp⟩,by simp [zah,Rows.uptoBulk]⟩
 ·simp only [if_true] at hmm
  subst hmm
  obtain ⟨f,hf⟩ := Deep.choose_lt (α := α) (n := len) (p := fun i v => ∃ c,w.cells? 0 (a.add (i * P.cellsOf r.t)) (P.cellsOf r.t) = some c ∧ r.d.K w v c ∧ r.ok v ∧ ((∀ q ∈ (D i).weights P r.t,q ≤ reachBytes) → r.wt v) ∧ r.bk v ≤ Rows.uptoBulk (D i)) (fun i hi => by
   obtain ⟨cs',h1,h2⟩ := hel i (by omega)
   obtain ⟨v,k1,k2,k3,k4⟩ := hr.out h2
   exact ⟨v,cs',h1,k1,k2,k3,k4⟩)
  have hlen : ((List.range len).map f).length = len := by simp
  refine ⟨(List.range len).map f,⟨some a,m,by rw [hlen],by rw [hlen];exact hl,?_⟩,⟨by rw [hlen];omega,?_⟩,fun hw => ⟨?_,?_⟩,?_⟩
  ·rw [hlen]
   refine ⟨hlen,by unfold maxLen at hm;omega,fun _ => ⟨a,rfl,fun j p hj => ?_⟩⟩
   have hjl : j < len := by
    have := (List.getElem?_eq_some_iff.1 hj).1
    simpa using this
   obtain ⟨c,c1,c2,_⟩ := hf j hjl
   have hp : f j = p := by simpa [List.getElem?_map,List.getElem?_range hjl] using hj
   obtain ⟨_,l2,l3⟩ := World.cells?_some c1
   refine ⟨c,by rw [l2,hc],hp ▸ c2,fun i u hu => ?_⟩
   have hi : i < P.cellsOf r.t := by rw [← l2];exact (List.getElem?_eq_some_iff.1 hu).1
   rw [← hc,← Deep.add_add,l3 i hi]
   exact hu
  ·intro v hv
   obtain ⟨i,hi,rfl⟩ := List.mem_map.1 hv
   obtain ⟨c,_,_,h3,_⟩ := hf i (List.mem_range.1 hi)
   exact h3
  ·have := hw ((((List.range len).map D).length + ((List.range (m - len)).map fun j => D (len + j)).length) * P.bytesOf r.t) (by show _ ∈ DataW.weights P t _;simp only [DataW.weights,h];exact List.mem_cons_self)
   rw [hlen]
   rw [hB] at this
   simp only [List.length_map,List.length_range] at this
   exact Nat.le_trans (Nat.mul_le_mul_right _ (by omega)) this
  ·intro v hv
   obtain ⟨i,hi,rfl⟩ := List.mem_map.1 hv
   obtain ⟨c,_,_,_,h4,_⟩ := hf i (List.mem_range.1 hi)
   refine h4 (fun q hq => hw q ?_)
   show _ ∈ DataW.weights P t _
   simp only [DataW.weights,h]
   exact List.mem_cons_of_mem _ (List.mem_append_left _ (zdO (List.mem_map.2 ⟨i,hi,rfl⟩) hq))
  ·simp only [zah,Rows.uptoBulk]
   have := zgY D f r.bk len (fun i hi => (hf i hi).choose_spec.2.2.2.2)
   omega
structure zdP {β : Type} (P : Program) (fs : List Field) (o : Nat) (d : Kd β) (ok wt : β → Prop) (bk : β → Nat) : Prop where
 out : ∀ {H : Type} {enc : TypeId × Value → H} {w : World} {n : Nat} {cs : List Value} {xs : List (DataW H × List MemPlace)},xs.length = fs.length → cs.length = o + d.sz →
  (∀ (i : Nat) (f : Field),fs[i]? = some f → DataW.trod enc P w 0 (fun _ => true) true n f.type ((cs.drop f.offset).take (P.cellsOf f.type)) = xs[i]?) →
  ∃ b,d.K w b (cs.drop o) ∧ ok b ∧ ((∀ q ∈ DataW.weightsEach P (fs.map (·.type)) (xs.map (·.1)),q ≤ reachBytes) → wt b) ∧ bk b ≤ Rows.uptoBulkAll (xs.map (·.1))
theorem zco {α : Type} {r : Rd α} (hr : zeg P r) {f : Field} (ht : f.type = r.t) {o : Nat} (ho : f.offset = o) (hc : P.cellsOf r.t = r.d.sz) : zdP P [f] o r.d r.ok r.wt r.bk := by
 constructor
 intro H enc w n cs xs hl hcs hx
 match xs,hl with
 | [x],_ =>
  have h := hx 0 f rfl
  rw [ho,ht,hc,List.take_of_length_le (by rw [List.length_drop];omega)] at h
  obtain ⟨a,h1,h2,h3,h4⟩ := hr.out h
  refine ⟨a,h1,h2,fun hq => h3 (fun q hm => hq q ?_),by simp [Rows.uptoBulkAll];omega⟩
  simp only [List.map_cons,List.map_nil,DataW.weightsEach,List.mem_append,ht]
  exact .inl hm
theorem zaS {α β : Type} {r : Rd α} (hr : zeg P r) {f : Field} (ht : f.type = r.t) {fs : List Field} {o o' : Nat} (ho : f.offset = o) (hc : P.cellsOf r.t = r.d.sz) (ho' : o' = o + r.d.sz) {d : Kd β} {ok wt : β → Prop} {bk : β → Nat} (hfs : zdP P fs o' d ok wt bk) :
  zdP P (f :: fs) o (Kd.pair r.d d) (fun x => r.ok x.1 ∧ ok x.2) (fun x => r.wt x.1 ∧ wt x.2) (fun x => r.bk x.1 + bk x.2) := by
 constructor
 intro H enc w n cs xs hl hcs hx
 match xs,hl with
 | x :: xs,hl =>
  have h := hx 0 f rfl
  have hcs' : cs.length = o + (r.d.sz + d.sz) := hcs
  rw [ho,ht,hc] at h
  obtain ⟨a,h1,h2,h3,h4⟩ := hr.out h
  obtain ⟨b,k1,k2,k3,k4⟩ := hfs.out (enc := enc) (w := w) (n := n) (cs := cs) (xs := xs) (by simpa using hl) (by omega) (fun i g hg => hx (i + 1) g hg)
  refine ⟨(a,b),⟨(cs.drop o).take r.d.sz,cs.drop o',?_,h1,k1⟩,⟨h2,k2⟩,fun hq => ⟨h3 (fun q hm => hq q ?_),k3 (fun q hm => hq q ?_)⟩,?_⟩
  ·rw [ho',← List.drop_drop,List.take_append_drop]
  ·simp only [List.map_cons,DataW.weightsEach,List.mem_append,ht]
   exact .inl hm
  ·simp only [List.map_cons,DataW.weightsEach,List.mem_append]
   exact .inr hm
  ·simp only [List.map_cons,Rows.uptoBulkAll];omega
def zcR {α β : Type} (t : TypeId) (d : Kd β) (f : α → β) (ok wt : β → Prop) (bk : β → Nat) : Rd α := ⟨t,Kd.iso d f,fun a => ok (f a),fun a => wt (f a),fun a => bk (f a) + 1⟩
theorem zcp {α β : Type} {t : TypeId} {fs : List Field} {d : Kd β} {ok wt : β → Prop} {bk : β → Nat} (hfs : zdP P fs 0 d ok wt bk) (h : P.underlying t = some (.struct fs.toArray)) (hc : P.cellsOf t = d.sz) (f : α → β) (g : β → α) (hfg : ∀ b,f (g b) = b) : zeg P (zcR t d f ok wt bk) := by
 constructor
 intro H enc w fuel cs x hx
 obtain ⟨xs,n,rfl,rfl,hl,hn,hf⟩ := DataW.trod_struct h hx
 obtain ⟨b,k1,k2,k3,k4⟩ := hfs.out (enc := enc) (w := w) (n := n) (cs := cs) (xs := xs) (by simpa using hn) (by omega) (fun i g hg => hf i g (by simpa using hg))
 refine ⟨g b,?_,?_,fun hq => ?_,?_⟩
 ·show d.K w (f (g b)) cs
  rw [hfg]
  exact k1
 ·show ok (f (g b))
  rw [hfg]
  exact k2
 ·show wt (f (g b))
  rw [hfg]
  refine k3 (fun q hm => hq q ?_)
  show _ ∈ DataW.weights P t _
  simp only [DataW.weights,h]
  exact hm
 ·show bk (f (g b)) + 1 ≤ _
  rw [hfg]
  simp only [Rows.uptoBulk]
  omega
end
theorem fit_arg {α H : Type} {P : Program} {r : Rd α} (hr : zeg P r) {enc : TypeId × Value → H} {w : World} {v : Value} {d : DataW H} {ps : List MemPlace} (h : DataW.Trod enc P w 0 (fun _ => true) true r.t v d ps) :
  ∃ a,r.d.K w a v.cells.toList ∧ r.ok a ∧ ((∀ n ∈ d.weights P r.t,n ≤ reachBytes) → r.wt a) ∧ r.bk a ≤ Rows.uptoBulk d := by
 obtain ⟨fuel,hf⟩ := h
 exact hr.out hf
end Go.Proofs.Ytklhjlaofkngcaa.Px
namespace Go.Proofs.Ytklhjlaofkngcaa.Px
open Go.RowKit Go.Proofs.Ytklhjlaofkngcaa.Px Go.Proofs.YtklhjlaofkngcaaW.PrintWords Go.Proofs.YtklhjlaofkngcaaW.PrintLast Go.Proofs.YtklhjlaofkngcaaW.PrintMore
set_option linter.unusedVariables false
instance : Inhabited S72 := ⟨z72⟩
def zfH : Rd S72 := zcR 72 (Kd.pair (zak 3 .i64).d (Kd.pair (zak 3 .i64).d (zah 26 16 (zae 9)).d)) (fun x : S72 => (x.f0,x.f1,x.f2)) (fun y => (zak 3 .i64).ok y.1 ∧ ((zak 3 .i64).ok y.2.1 ∧ ((zah 26 16 (zae 9)).ok y.2.2))) (fun y => (zak 3 .i64).wt y.1 ∧ ((zak 3 .i64).wt y.2.1 ∧ ((zah 26 16 (zae 9)).wt y.2.2))) (fun y => (zak 3 .i64).bk y.1 + ((zak 3 .i64).bk y.2.1 + ((zah 26 16 (zae 9)).bk y.2.2)))
theorem fit72 : zeg Try.prog zfH :=
 zcp (zaS (o := 0) (o' := 1) (ok := fun (y : Int × (List ByteArray)) => (zak 3 .i64).ok y.1 ∧ ((zah 26 16 (zae 9)).ok y.2)) (wt := fun (y : Int × (List ByteArray)) => (zak 3 .i64).wt y.1 ∧ ((zah 26 16 (zae 9)).wt y.2)) (bk := fun (y : Int × (List ByteArray)) => (zak 3 .i64).bk y.1 + ((zah 26 16 (zae 9)).bk y.2)) (zcv Try.underlying3) rfl rfl (by kernel_rfl) rfl (zaS (o := 1) (o' := 2) (ok := fun (y : (List ByteArray)) => (zah 26 16 (zae 9)).ok y) (wt := fun (y : (List ByteArray)) => (zah 26 16 (zae 9)).wt y) (bk := fun (y : (List ByteArray)) => (zah 26 16 (zae 9)).bk y) (zcv Try.underlying3) rfl rfl (by kernel_rfl) rfl (zco (zdQ (zdq Try.underlying9) Try.underlying26 (by kernel_rfl) (by kernel_rfl)) rfl rfl (by kernel_rfl)))) Try.underlying72 (by kernel_rfl) (fun x : S72 => (x.f0,x.f1,x.f2)) (fun y => ⟨y.1,y.2.1,y.2.2⟩) (fun _ => rfl)
instance : Inhabited S28 := ⟨z28⟩
def zdK : Rd S28 := zcR 28 (Kd.pair (zak 3 .i64).d (zak 3 .i64).d) (fun x : S28 => (x.f0,x.f1)) (fun y => (zak 3 .i64).ok y.1 ∧ ((zak 3 .i64).ok y.2)) (fun y => (zak 3 .i64).wt y.1 ∧ ((zak 3 .i64).wt y.2)) (fun y => (zak 3 .i64).bk y.1 + ((zak 3 .i64).bk y.2))
theorem fit28 : zeg Try.prog zdK :=
 zcp (zaS (o := 0) (o' := 1) (ok := fun (y : Int) => (zak 3 .i64).ok y) (wt := fun (y : Int) => (zak 3 .i64).wt y) (bk := fun (y : Int) => (zak 3 .i64).bk y) (zcv Try.underlying3) rfl rfl (by kernel_rfl) rfl (zco (zcv Try.underlying3) rfl rfl (by kernel_rfl))) Try.underlying28 (by kernel_rfl) (fun x : S28 => (x.f0,x.f1)) (fun y => ⟨y.1,y.2⟩) (fun _ => rfl)
instance : Inhabited S30 := ⟨z30⟩
def zea : Rd S30 := zcR 30 (Kd.pair (zak 3 .i64).d (Kd.pair (zak 3 .i64).d (Kd.pair (zah 25 40 zfH).d (Kd.pair (zah 26 16 (zae 9)).d zdK.d)))) (fun x : S30 => (x.f0,x.f1,x.f2,x.f3,x.f4)) (fun y => (zak 3 .i64).ok y.1 ∧ ((zak 3 .i64).ok y.2.1 ∧ ((zah 25 40 zfH).ok y.2.2.1 ∧ ((zah 26 16 (zae 9)).ok y.2.2.2.1 ∧ (zdK.ok y.2.2.2.2))))) (fun y => (zak 3 .i64).wt y.1 ∧ ((zak 3 .i64).wt y.2.1 ∧ ((zah 25 40 zfH).wt y.2.2.1 ∧ ((zah 26 16 (zae 9)).wt y.2.2.2.1 ∧ (zdK.wt y.2.2.2.2))))) (fun y => (zak 3 .i64).bk y.1 + ((zak 3 .i64).bk y.2.1 + ((zah 25 40 zfH).bk y.2.2.1 + ((zah 26 16 (zae 9)).bk y.2.2.2.1 + (zdK.bk y.2.2.2.2)))))
theorem fit30 : zeg Try.prog zea :=
 zcp (zaS (o := 0) (o' := 1) (ok := fun (y : Int × (List S72) × (List ByteArray) × S28) => (zak 3 .i64).ok y.1 ∧ ((zah 25 40 zfH).ok y.2.1 ∧ ((zah 26 16 (zae 9)).ok y.2.2.1 ∧ (zdK.ok y.2.2.2)))) (wt := fun (y : Int × (List S72) × (List ByteArray) × S28) => (zak 3 .i64).wt y.1 ∧ ((zah 25 40 zfH).wt y.2.1 ∧ ((zah 26 16 (zae 9)).wt y.2.2.1 ∧ (zdK.wt y.2.2.2)))) (bk := fun (y : Int × (List S72) × (List ByteArray) × S28) => (zak 3 .i64).bk y.1 + ((zah 25 40 zfH).bk y.2.1 + ((zah 26 16 (zae 9)).bk y.2.2.1 + (zdK.bk y.2.2.2)))) (zcv Try.underlying3) rfl rfl (by kernel_rfl) rfl (zaS (o := 1) (o' := 2) (ok := fun (y : (List S72) × (List ByteArray) × S28) => (zah 25 40 zfH).ok y.1 ∧ ((zah 26 16 (zae 9)).ok y.2.1 ∧ (zdK.ok y.2.2))) (wt := fun (y : (List S72) × (List ByteArray) × S28) => (zah 25 40 zfH).wt y.1 ∧ ((zah 26 16 (zae 9)).wt y.2.1 ∧ (zdK.wt y.2.2))) (bk := fun (y : (List S72) × (List ByteArray) × S28) => (zah 25 40 zfH).bk y.1 + ((zah 26 16 (zae 9)).bk y.2.1 + (zdK.bk y.2.2))) (zcv Try.underlying3) rfl rfl (by kernel_rfl) rfl (zaS (o := 2) (o' := 3) (ok := fun (y : (List ByteArray) × S28) => (zah 26 16 (zae 9)).ok y.1 ∧ (zdK.ok y.2)) (wt := fun (y : (List ByteArray) × S28) => (zah 26 16 (zae 9)).wt y.1 ∧ (zdK.wt y.2)) (bk := fun (y : (List ByteArray) × S28) => (zah 26 16 (zae 9)).bk y.1 + (zdK.bk y.2)) (zdQ fit72 Try.underlying25 (by kernel_rfl) (by kernel_rfl)) rfl rfl (by kernel_rfl) rfl (zaS (o := 3) (o' := 4) (ok := fun (y : S28) => zdK.ok y) (wt := fun (y : S28) => zdK.wt y) (bk := fun (y : S28) => zdK.bk y) (zdQ (zdq Try.underlying9) Try.underlying26 (by kernel_rfl) (by kernel_rfl)) rfl rfl (by kernel_rfl) rfl (zco fit28 rfl rfl (by kernel_rfl)))))) Try.underlying30 (by kernel_rfl) (fun x : S30 => (x.f0,x.f1,x.f2,x.f3,x.f4)) (fun y => ⟨y.1,y.2.1,y.2.2.1,y.2.2.2.1,y.2.2.2.2⟩) (fun _ => rfl)
instance : Inhabited S36 := ⟨z36⟩
def zfG : Rd S36 := zcR 36 (Kd.pair (zae 9).d zea.d) (fun x : S36 => (x.f0,x.f1)) (fun y => (zae 9).ok y.1 ∧ (zea.ok y.2)) (fun y => (zae 9).wt y.1 ∧ (zea.wt y.2)) (fun y => (zae 9).bk y.1 + (zea.bk y.2))
theorem fit36 : zeg Try.prog zfG :=
 zcp (zaS (o := 0) (o' := 1) (ok := fun (y : S30) => zea.ok y) (wt := fun (y : S30) => zea.wt y) (bk := fun (y : S30) => zea.bk y) (zdq Try.underlying9) rfl rfl (by kernel_rfl) rfl (zco fit30 rfl rfl (by kernel_rfl))) Try.underlying36 (by kernel_rfl) (fun x : S36 => (x.f0,x.f1)) (fun y => ⟨y.1,y.2⟩) (fun _ => rfl)
instance : Inhabited S24 := ⟨z24⟩
def rd24 : Rd S24 := zcR 24 (Kd.pair (zak 3 .i64).d (Kd.pair (zak 3 .i64).d (zah 22 96 zfG).d)) (fun x : S24 => (x.f0,x.f1,x.f2)) (fun y => (zak 3 .i64).ok y.1 ∧ ((zak 3 .i64).ok y.2.1 ∧ ((zah 22 96 zfG).ok y.2.2))) (fun y => (zak 3 .i64).wt y.1 ∧ ((zak 3 .i64).wt y.2.1 ∧ ((zah 22 96 zfG).wt y.2.2))) (fun y => (zak 3 .i64).bk y.1 + ((zak 3 .i64).bk y.2.1 + ((zah 22 96 zfG).bk y.2.2)))
theorem fit24 : zeg Try.prog rd24 :=
 zcp (zaS (o := 0) (o' := 1) (ok := fun (y : Int × (List S36)) => (zak 3 .i64).ok y.1 ∧ ((zah 22 96 zfG).ok y.2)) (wt := fun (y : Int × (List S36)) => (zak 3 .i64).wt y.1 ∧ ((zah 22 96 zfG).wt y.2)) (bk := fun (y : Int × (List S36)) => (zak 3 .i64).bk y.1 + ((zah 22 96 zfG).bk y.2)) (zcv Try.underlying3) rfl rfl (by kernel_rfl) rfl (zaS (o := 1) (o' := 2) (ok := fun (y : (List S36)) => (zah 22 96 zfG).ok y) (wt := fun (y : (List S36)) => (zah 22 96 zfG).wt y) (bk := fun (y : (List S36)) => (zah 22 96 zfG).bk y) (zcv Try.underlying3) rfl rfl (by kernel_rfl) rfl (zco (zdQ fit36 Try.underlying22 (by kernel_rfl) (by kernel_rfl)) rfl rfl (by kernel_rfl)))) Try.underlying24 (by kernel_rfl) (fun x : S24 => (x.f0,x.f1,x.f2)) (fun y => ⟨y.1,y.2.1,y.2.2⟩) (fun _ => rfl)
instance : Inhabited S32 := ⟨z32⟩
def rd32 : Rd S32 := zcR 32 (Kd.pair rd24.d (Kd.pair zea.d (Kd.pair (zae 9).d (Kd.pair (zak 3 .i64).d (zak 3 .i64).d)))) (fun x : S32 => (x.f0,x.f1,x.f2,x.f3,x.f4)) (fun y => rd24.ok y.1 ∧ (zea.ok y.2.1 ∧ ((zae 9).ok y.2.2.1 ∧ ((zak 3 .i64).ok y.2.2.2.1 ∧ ((zak 3 .i64).ok y.2.2.2.2))))) (fun y => rd24.wt y.1 ∧ (zea.wt y.2.1 ∧ ((zae 9).wt y.2.2.1 ∧ ((zak 3 .i64).wt y.2.2.2.1 ∧ ((zak 3 .i64).wt y.2.2.2.2))))) (fun y => rd24.bk y.1 + (zea.bk y.2.1 + ((zae 9).bk y.2.2.1 + ((zak 3 .i64).bk y.2.2.2.1 + ((zak 3 .i64).bk y.2.2.2.2)))))
theorem fit32 : zeg Try.prog rd32 :=
 zcp (zaS (o := 0) (o' := 3) (ok := fun (y : S30 × ByteArray × Int × Int) => zea.ok y.1 ∧ ((zae 9).ok y.2.1 ∧ ((zak 3 .i64).ok y.2.2.1 ∧ ((zak 3 .i64).ok y.2.2.2)))) (wt := fun (y : S30 × ByteArray × Int × Int) => zea.wt y.1 ∧ ((zae 9).wt y.2.1 ∧ ((zak 3 .i64).wt y.2.2.1 ∧ ((zak 3 .i64).wt y.2.2.2)))) (bk := fun (y : S30 × ByteArray × Int × Int) => zea.bk y.1 + ((zae 9).bk y.2.1 + ((zak 3 .i64).bk y.2.2.1 + ((zak 3 .i64).bk y.2.2.2)))) fit24 rfl rfl (by kernel_rfl) rfl (zaS (o := 3) (o' := 9) (ok := fun (y : ByteArray × Int × Int) => (zae 9).ok y.1 ∧ ((zak 3 .i64).ok y.2.1 ∧ ((zak 3 .i64).ok y.2.2))) (wt := fun (y : ByteArray × Int × Int) => (zae 9).wt y.1 ∧ ((zak 3 .i64).wt y.2.1 ∧ ((zak 3 .i64).wt y.2.2))) (bk := fun (y : ByteArray × Int × Int) => (zae 9).bk y.1 + ((zak 3 .i64).bk y.2.1 + ((zak 3 .i64).bk y.2.2))) fit30 rfl rfl (by kernel_rfl) rfl (zaS (o := 9) (o' := 10) (ok := fun (y : Int × Int) => (zak 3 .i64).ok y.1 ∧ ((zak 3 .i64).ok y.2)) (wt := fun (y : Int × Int) => (zak 3 .i64).wt y.1 ∧ ((zak 3 .i64).wt y.2)) (bk := fun (y : Int × Int) => (zak 3 .i64).bk y.1 + ((zak 3 .i64).bk y.2)) (zdq Try.underlying9) rfl rfl (by kernel_rfl) rfl (zaS (o := 10) (o' := 11) (ok := fun (y : Int) => (zak 3 .i64).ok y) (wt := fun (y : Int) => (zak 3 .i64).wt y) (bk := fun (y : Int) => (zak 3 .i64).bk y) (zcv Try.underlying3) rfl rfl (by kernel_rfl) rfl (zco (zcv Try.underlying3) rfl rfl (by kernel_rfl)))))) Try.underlying32 (by kernel_rfl) (fun x : S32 => (x.f0,x.f1,x.f2,x.f3,x.f4)) (fun y => ⟨y.1,y.2.1,y.2.2.1,y.2.2.2.1,y.2.2.2.2⟩) (fun _ => rfl)
def zcK : Prop := ∀ (a0 : S32),rd32.ok a0 → rd32.wt a0 → zA.f (a0.f0.f0) (a0.f0.f1) (a0.f0.f2) (a0.f1.f0) (a0.f1.f1) (a0.f1.f2) (a0.f1.f3) (a0.f1.f4.f0) (a0.f1.f4.f1) (a0.f2) (a0.f3) (a0.f4) = some true
end Go.Proofs.Ytklhjlaofkngcaa.Px
namespace Go.Proofs.Ytklhjlaofkngcaa.Pure
open Go.RowKit Go.Proofs.Ytklhjlaofkngcaa.Px Go.Proofs.YtklhjlaofkngcaaW.PrintWords Go.Proofs.YtklhjlaofkngcaaW.PrintLast Go.Proofs.YtklhjlaofkngcaaW.PrintMore
theorem DagAsks : zcK := by
 rintro ⟨⟨n,lo,L⟩,⟨a,r,bs,ps,⟨x,y⟩⟩,g,au,rr⟩ _ ⟨⟨_,_,⟨l1,l2⟩⟩,⟨_,_,_,⟨pp1,_⟩,_⟩,_⟩
 have hL : L.length < 1466015503701 := by have : L.length * 96 ≤ 140737488351232 := l1;omega
 have hps : ps.length ≤ 8796093022208 := by have : ps.length * 16 ≤ 140737488351232 := pp1;omega
 have hs : ∀ x ∈ L,zgo x := fun x hx => by
  obtain ⟨_,_,_,⟨v1,v2⟩,⟨p1,p2⟩,_⟩ := l2 x hx
  have v1' : x.f1.f2.length * 40 ≤ 140737488351232 := v1
  have p1' : x.f1.f3.length * 16 ≤ 140737488351232 := p1
  refine ⟨by omega,fun b hb => ?_,by omega,fun t ht => ?_⟩
  ·obtain ⟨_,_,q1,_⟩ := v2 b hb
   have q1' : b.f2.length * 16 ≤ 140737488351232 := q1
   omega
  ·have t1 : t.size ≤ 140737488351232 := p2 t ht
   omega
 exact if_pos ⟨hL,List.all_eq_true.2 fun x hx => zg4.2 (hs x hx),hps⟩
end Go.Proofs.Ytklhjlaofkngcaa.Pure
namespace Go.Proofs.Ytklhjlaofkngcaa.dagAsks
open Go.ChangeShapes Go.WideShapes Go.ChangeAt Go.RowKit
open Go.ChangeMaps (open_string shut_string)
open Go.RowKit Go.Proofs.Ytklhjlaofkngcaa.Px Go.Proofs.YtklhjlaofkngcaaW.PrintWords Go.Proofs.YtklhjlaofkngcaaW.PrintLast Go.Proofs.YtklhjlaofkngcaaW.PrintMore
set_option linter.unusedVariables false
theorem own : ownKnob Try.prog.godebug = none := by kernel_rfl
theorem laidOut : laidOutB Try.prog = true := by kernel_rfl
set_option maxRecDepth 100000 in
theorem contract (H : Type) (enc : TypeId × Value → H) (W : World) (base : Nat) (args : Array Value) (ds gs : List (DataW H)) (before : List MemPlace)
  (hval0 : ∀ (j : Nat) t v,Try.f3.params[j]? = some t → args[j]? = some v → Value.okWide Try.prog W .any base t v)
  (hW : DataW.Whole enc Try.prog Try.f3.params.toList Rows.dagAsksSpec.vars false W args.toList ds gs before)
  (hsz0 : (DataW.weightsEach Try.prog (Try.f3.params.toList ++ Rows.dagAsksSpec.plain.varTypes Try.prog) (ds ++ gs)).all (· ≤ reachBytes) = true) :
  Calls Try.prog 3 args W fun e W' => ∃ v,e = .returned v ∧ Rows.dagAsksSpec.post enc Try.prog Try.f3 false true false false W args v W' := by
 have hval : ∀ (j : Nat) t v,Try.f3.params[j]? = some t → args[j]? = some v → Value.okWide Try.prog W .any base t v := hval0
 have hW' := hW
 obtain ⟨p,q,hA0,hV,rfl,hfz,hnd⟩ := hW
 have hA : DataW.TrodAll enc Try.prog W 0 (fun _ => true) true Try.f3.params.toList args.toList ds p := hA0
 have hsz := hsz0
 rw [Try.params3] at hA hval hsz
 obtain ⟨v0,vs0,d0,ds0,p0,q0,hargs,rfl,rfl,h0,r0⟩ := trodAll_cons hA
 obtain ⟨rfl,rfl,rfl⟩ := trodAll_nil r0
 obtain rfl : args = #[v0] := by cases args;simp_all
 obtain ⟨rfl,rfl⟩ := trodVars_none hV
 have t0 := h0
 have lt0 : ∀ x ∈ p0,x.block < W.heap.size := by obtain ⟨m,hm⟩ := t0;exact DataW.trod_lt m _ _ _ hm
 obtain ⟨a0,K0,ok0,wt0,bk0⟩ := fit_arg fit32 h0
 have wq0 := wt0 (fun n hn => of_decide_eq_true (List.all_eq_true.1 hsz n (DataW.weights_mem_each (j := 0) (t := rd32.t) (d := d0) rfl rfl n hn)))
 obtain ⟨cs0,rfl,sz0⟩ := okWide_struct Try.underlying32 (hval 0 32 v0 rfl rfl)
 obtain ⟨A0_0_2,c0_0_2,A0_1_2,c0_1_2,A0_1_3,c0_1_3,e0,l0_0_2,g0_0_2,l0_1_2,g0_1_2,l0_1_3,g0_1_3⟩ := k32_open (show k32.K W a0 _ from K0)
 obtain rfl : cs0 = #[.int .i64 a0.f0.f0,.int .i64 a0.f0.f1,.slice A0_0_2 a0.f0.f2.length c0_0_2,.int .i64 a0.f1.f0,.int .i64 a0.f1.f1,.slice A0_1_2 a0.f1.f2.length c0_1_2,.slice A0_1_3 a0.f1.f3.length c0_1_3,.int .i64 a0.f1.f4.f0,.int .i64 a0.f1.f4.f1,.string a0.f2,.int .i64 a0.f3,.int .i64 a0.f4] := by have := congrArg List.toArray e0;simpa [Value.cells] using this
 have hkk := Pure.DagAsks a0 ok0 wq0
 refine (zA.calls (a0.f0.f0) (a0.f0.f1) A0_0_2 c0_0_2 (a0.f0.f2) (a0.f1.f0) (a0.f1.f1) A0_1_2 c0_1_2 (a0.f1.f2) A0_1_3 c0_1_3 (a0.f1.f3) (a0.f1.f4.f0) (a0.f1.f4.f1) (a0.f2) (a0.f3) (a0.f4) true W g0_0_2 l0_0_2 g0_1_2 l0_1_2 g0_1_3 l0_1_3 hkk).mono fun e W' ⟨he,bel0⟩ => ?_
 have bel := bel0
 subst he
 exact ⟨_,rfl,_,_,_,[],_,[],hW',trodAll_mk1 (shut_bool Try.underlying4 _),(trodAll_cons_mk (Below.trod laidOut (by kernel_rfl) (of_decide_eq_true (by kernel_rfl)) t0 bel lt0) trodAll_mk0),rfl,bel.frame _,fun h => by cases h⟩
set_option maxRecDepth 100000 in
theorem lifted (os : Os) (started : os.Started) (H : Type) (enc : TypeId × Value → H) :
  ReturnsInHanded {} Try.checked os 3 .any (Rows.dagAsksSpec.pre6 enc Try.prog Try.f3 Rows.dagAsksRow.domain false) (Rows.dagAsksSpec.post enc Try.prog Try.f3 false true false false) := by
 refine returnsInHanded_of_change_sized (C := Try.checked) own started (by kernel_rfl) Try.func3
  (ChangeSpec.witness6 (enc := enc) (C := Try.checked) false ⟨#[],#[.agg #[.int .i64 0,.int .i64 0,.slice none 0 0,.int .i64 0,.int .i64 0,.slice none 0 0,.slice none 0 0,.int .i64 0,.int .i64 0,.string ByteArray.empty,.int .i64 0,.int .i64 0]],[]⟩ 8 (by kernel_rfl) (by kernel_rfl) (by kernel_rfl) (by kernel_rfl)) ?_
 intro W base args ds gs before hval hW _ hsz _
 exact contract H enc W base args ds gs before hval hW hsz
theorem proved : Rows.DagAsksSaid :=
 OpenClaim.holds_of_wide 3 Try.f3 rfl rfl rfl rfl rfl rfl rfl ⟨rfl,rfl,rfl,rfl,rfl⟩ rfl rfl rfl rfl rfl (by kernel_rfl) Try.func3 (by kernel_rfl)
  (of_decide_eq_true (by kernel_rfl)) (by unfold Func.isWrapper;first | (rw [if_pos (by decide +kernel)];kernel_rfl) | (rw [if_neg (by decide +kernel)];exact ⟨rfl,rfl⟩))
  (fun os started H enc _ => lifted os started H enc)
#print axioms proved
end Go.Proofs.Ytklhjlaofkngcaa.dagAsks
namespace Go.Proofs.Ytklhjlaofkngcaa
theorem dagAsks_holds : Rows.DagAsksSaid := dagAsks.proved
end Go.Proofs.Ytklhjlaofkngcaa