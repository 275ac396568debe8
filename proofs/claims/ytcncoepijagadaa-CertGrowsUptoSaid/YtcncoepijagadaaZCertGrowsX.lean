/- Part 24 of 24 of the proof of the law CertGrows: what is proved is the statement at the end of the last part; its conditions are those of the given row. -/
import Derived.Test.YtcncoepijagadaaRows
import Derived.Deep.Slices
import Derived.ChangeArms
import Derived.SizedLaws
import Derived.WideOpen
import Derived.ProofKit
import Derived.OpenShut
import Derived.ShutString
import Derived.ChangeOld
import Derived.JoinedCond
import Derived.Carry
import Derived.WideShapes
import Derived.Test.YtcncoepijagadaaZCertGrowsW
namespace Go.Proofs.Ytcncoepijagadaa.Px
open Go.RowKit Go.Proofs.YtcncoepijagadaaW.PrintWords Go.Proofs.YtcncoepijagadaaW.PrintLast Go.Proofs.YtcncoepijagadaaW.PrintMore
attribute [local go_sem] zp zr zy zz zl zm zq zs
set_option linter.unusedVariables false
set_option linter.unusedSimpArgs false
structure Rd (α : Type) where
 t : TypeId
 d : Kd α
 ok : α → Prop
 wt : α → Prop
 bk : α → Nat
structure zdS {α : Type} (P : Program) (r : Rd α) : Prop where
 out : ∀ {H : Type} {enc : TypeId × Value → H} {w : World} {fuel : Nat} {cs : List Value} {x : DataW H × List MemPlace},DataW.trod enc P w 0 (fun _ => true) true fuel r.t cs = some x →
  ∃ a,r.d.K w a cs ∧ r.ok a ∧ ((∀ n ∈ x.1.weights P r.t,n ≤ reachBytes) → r.wt a) ∧ r.bk a ≤ Rows.uptoBulk x.1
def zao (t : TypeId) (k : IntKind) : Rd Int := ⟨t,Kd.int k,fun a => (Lit.int k a).wf = true,fun _ => True,fun _ => 1⟩
def z8 (t : TypeId) : Rd ByteArray := ⟨t,Kd.string,fun a => a.size ≤ maxLen,fun a => a.size ≤ reachBytes,fun a => a.size + 1⟩
def zL {α : Type} (t : TypeId) (B : Nat) (r : Rd α) : Rd (List α) :=
 ⟨t,Kd.slice r.t r.d,fun l => l.length ≤ maxLen ∧ ∀ a ∈ l,r.ok a,fun l => l.length * B ≤ reachBytes ∧ ∀ a ∈ l,r.wt a,fun l => (l.map r.bk).sum + 1⟩
section
variable {P : Program}
theorem zcf {t : TypeId} {k : IntKind} (h : P.underlying t = some (.int k)) : zdS P (zao t k) := by
 constructor
 intro H enc w fuel cs x hx
 obtain ⟨n,rfl,rfl,hw⟩ := DataW.trod_int h hx
 exact ⟨n,rfl,hw,fun _ => trivial,by simp [zao,Rows.uptoBulk]⟩
theorem zdK {t : TypeId} (h : P.underlying t = some .string) : zdS P (z8 t) := by
 constructor
 intro H enc w fuel cs x hx
 obtain ⟨s,rfl,rfl,hs⟩ := DataW.trod_string h hx
 have e : s.data.toList.length = s.size := by rw [Array.length_toList];rfl
 refine ⟨s,rfl,hs,fun hn => ?_,by simp only [z8,Rows.uptoBulk,e];exact Nat.le_refl _⟩
 have := hn s.data.toList.length (by simp [DataW.weights])
 rwa [e] at this
theorem zgr {H α : Type} (f : Nat → DataW H) (g : Nat → α) (bk : α → Nat) (n : Nat) (h : ∀ i,i < n → bk (g i) ≤ Rows.uptoBulk (f i)) : (((List.range n).map g).map bk).sum ≤ Rows.uptoBulkAll ((List.range n).map f) := by
 suffices k : ∀ l : List Nat,(∀ i ∈ l,i < n) → ((l.map g).map bk).sum ≤ Rows.uptoBulkAll (l.map f) from k _ (fun i hi => List.mem_range.1 hi)
 intro l
 induction l with
 | nil => intro _;simp
 | cons i l ih =>
  intro hl
  have h1 := h i (hl i List.mem_cons_self)
  have h2 := ih (fun j hj => hl j (List.mem_cons_of_mem _ hj))
  simp only [List.map_cons,List.sum_cons,Rows.uptoBulkAll]
  omega
theorem zdm {H : Type} {e : TypeId} : ∀ {l : List (DataW H)} {d : DataW H} {n : Nat},d ∈ l → n ∈ d.weights P e → n ∈ DataW.weightsAll P e l
 | x :: l,d,n,hd,hn => by
  simp only [DataW.weightsAll,List.mem_append]
  rcases List.mem_cons.1 hd with rfl | hd
  ·exact .inl hn
  ·exact .inr (zdm hd hn)
theorem zcG {α : Type} [Inhabited α] {r : Rd α} (hr : zdS P r) {t : TypeId} {B : Nat} (h : P.underlying t = some (.slice r.t)) (hc : P.cellsOf r.t = r.d.sz) (hB : P.bytesOf r.t = B) : zdS P (zL t B r) := by
 constructor
 intro H enc w fuel cs x hx
 rcases Deep.open_slice h hx with ⟨rfl,rfl⟩ | ⟨a,len,cap,m,n,D,Pl,rfl,_,hl,hm,hmm,rfl,hel⟩
 ·exact ⟨[],⟨none,0,rfl,Nat.le_refl _,Kd.C_nil _ _⟩,⟨Nat.zero_le _,by simp⟩,fun _ => ⟨by simp,by simp⟩,by simp [zL,Rows.uptoBulk]⟩
 ·simp only [if_true] at hmm
  subst hmm
  obtain ⟨f,hf⟩ := Deep.choose_lt (α := α) (n := len) (p := fun i v => ∃ c,w.cells? 0 (a.add (i * P.cellsOf r.t)) (P.cellsOf r.t) = some c ∧ r.d.K w v c ∧ r.ok v ∧ ((∀ q ∈ (D i).weights P r.t,q ≤ reachBytes) → r.wt v) ∧ r.bk v ≤ Rows.uptoBulk (D i)) (fun i hi => by
   obtain ⟨cs',h1,h2⟩ := hel i (by omega)
   obtain ⟨v,k1,k2,k3,k4⟩ := hr.out h2
   exact ⟨v,cs',h1,k1,k2,k3,k4⟩)
  have hlen : ((List.range len).map f).length = len := by simp
  refine ⟨(List.range len).map f,⟨some a,m,by rw [hlen],by rw [hlen];exact hl,?_⟩,⟨by rw [hlen];omega,?_⟩,fun hw => ⟨?_,?_⟩,?_⟩
  ·rw [hlen]
   refine ⟨hlen,by unfold maxLen at hm;omega,fun _ => ⟨a,rfl,fun j p hj => ?_⟩⟩
   have hjl : j < len := by
    have := (List.getElem?_eq_some_iff.1 hj).1
    simpa using this
   obtain ⟨c,c1,c2,_⟩ := hf j hjl
   have hp : f j = p := by simpa [List.getElem?_map,List.getElem?_range hjl] using hj
   obtain ⟨_,l2,l3⟩ := World.cells?_some c1
   refine ⟨c,by rw [l2,hc],hp ▸ c2,fun i u hu => ?_⟩
   have hi : i < P.cellsOf r.t := by rw [← l2];exact (List.getElem?_eq_some_iff.1 hu).1
   rw [← hc,← Deep.add_add,l3 i hi]
   exact hu
  ·intro v hv
   obtain ⟨i,hi,rfl⟩ := List.mem_map.1 hv
   obtain ⟨c,_,_,h3,_⟩ := hf i (List.mem_range.1 hi)
   exact h3
  ·have := hw ((((List.range len).map D).length + ((List.range (m - len)).map fun j => D (len + j)).length) * P.bytesOf r.t) (by show _ ∈ DataW.weights P t _;simp only [DataW.weights,h];exact List.mem_cons_self)
   rw [hlen]
   rw [hB] at this
   simp only [List.length_map,List.length_range] at this
   exact Nat.le_trans (Nat.mul_le_mul_right _ (by omega)) this
  ·intro v hv
   obtain ⟨i,hi,rfl⟩ := List.mem_map.1 hv
   obtain ⟨c,_,_,_,h4,_⟩ := hf i (List.mem_range.1 hi)
   refine h4 (fun q hq => hw q ?_)
   show _ ∈ DataW.weights P t _
   simp only [DataW.weights,h]
   exact List.mem_cons_of_mem _ (List.mem_append_left _ (zdm (List.mem_map.2 ⟨i,hi,rfl⟩) hq))
  ·simp only [zL,Rows.uptoBulk]
   have := zgr D f r.bk len (fun i hi => (hf i hi).choose_spec.2.2.2.2)
   omega
structure zdn {β : Type} (P : Program) (fs : List Field) (o : Nat) (d : Kd β) (ok wt : β → Prop) (bk : β → Nat) : Prop where
 out : ∀ {H : Type} {enc : TypeId × Value → H} {w : World} {n : Nat} {cs : List Value} {xs : List (DataW H × List MemPlace)},xs.length = fs.length → cs.length = o + d.sz →
  (∀ (i : Nat) (f : Field),fs[i]? = some f → DataW.trod enc P w 0 (fun _ => true) true n f.type ((cs.drop f.offset).take (P.cellsOf f.type)) = xs[i]?) →
  ∃ b,d.K w b (cs.drop o) ∧ ok b ∧ ((∀ q ∈ DataW.weightsEach P (fs.map (·.type)) (xs.map (·.1)),q ≤ reachBytes) → wt b) ∧ bk b ≤ Rows.uptoBulkAll (xs.map (·.1))
theorem zb0 {α : Type} {r : Rd α} (hr : zdS P r) {f : Field} (ht : f.type = r.t) {o : Nat} (ho : f.offset = o) (hc : P.cellsOf r.t = r.d.sz) : zdn P [f] o r.d r.ok r.wt r.bk := by
 constructor
 intro H enc w n cs xs hl hcs hx
 match xs,hl with
 | [x],_ =>
  have h := hx 0 f rfl
  rw [ho,ht,hc,List.take_of_length_le (by rw [List.length_drop];omega)] at h
  obtain ⟨a,h1,h2,h3,h4⟩ := hr.out h
  refine ⟨a,h1,h2,fun hq => h3 (fun q hm => hq q ?_),by simp [Rows.uptoBulkAll];omega⟩
  simp only [List.map_cons,List.map_nil,DataW.weightsEach,List.mem_append,ht]
  exact .inl hm
theorem zaG {α β : Type} {r : Rd α} (hr : zdS P r) {f : Field} (ht : f.type = r.t) {fs : List Field} {o o' : Nat} (ho : f.offset = o) (hc : P.cellsOf r.t = r.d.sz) (ho' : o' = o + r.d.sz) {d : Kd β} {ok wt : β → Prop} {bk : β → Nat} (hfs : zdn P fs o' d ok wt bk) :
  zdn P (f :: fs) o (Kd.pair r.d d) (fun x => r.ok x.1 ∧ ok x.2) (fun x => r.wt x.1 ∧ wt x.2) (fun x => r.bk x.1 + bk x.2) := by
 constructor
 intro H enc w n cs xs hl hcs hx
 match xs,hl with
 | x :: xs,hl =>
  have h := hx 0 f rfl
  have hcs' : cs.length = o + (r.d.sz + d.sz) := hcs
  rw [ho,ht,hc] at h
  obtain ⟨a,h1,h2,h3,h4⟩ := hr.out h
  obtain ⟨b,k1,k2,k3,k4⟩ := hfs.out (enc := enc) (w := w) (n := n) (cs := cs) (xs := xs) (by simpa using hl) (by omega) (fun i g hg => hx (i + 1) g hg)
  refine ⟨(a,b),⟨(cs.drop o).take r.d.sz,cs.drop o',?_,h1,k1⟩,⟨h2,k2⟩,fun hq => ⟨h3 (fun q hm => hq q ?_),k3 (fun q hm => hq q ?_)⟩,?_⟩
  ·rw [ho',← List.drop_drop,List.take_append_drop]
  ·simp only [List.map_cons,DataW.weightsEach,List.mem_append,ht]
   exact .inl hm
  ·simp only [List.map_cons,DataW.weightsEach,List.mem_append]
   exact .inr hm
  ·simp only [List.map_cons,Rows.uptoBulkAll];omega
def zcp {α β : Type} (t : TypeId) (d : Kd β) (f : α → β) (ok wt : β → Prop) (bk : β → Nat) : Rd α := ⟨t,Kd.iso d f,fun a => ok (f a),fun a => wt (f a),fun a => bk (f a) + 1⟩
theorem zb1 {α β : Type} {t : TypeId} {fs : List Field} {d : Kd β} {ok wt : β → Prop} {bk : β → Nat} (hfs : zdn P fs 0 d ok wt bk) (h : P.underlying t = some (.struct fs.toArray)) (hc : P.cellsOf t = d.sz) (f : α → β) (g : β → α) (hfg : ∀ b,f (g b) = b) : zdS P (zcp t d f ok wt bk) := by
 constructor
 intro H enc w fuel cs x hx
 obtain ⟨xs,n,rfl,rfl,hl,hn,hf⟩ := DataW.trod_struct h hx
 obtain ⟨b,k1,k2,k3,k4⟩ := hfs.out (enc := enc) (w := w) (n := n) (cs := cs) (xs := xs) (by simpa using hn) (by omega) (fun i g hg => hf i g (by simpa using hg))
 refine ⟨g b,?_,?_,fun hq => ?_,?_⟩
 ·show d.K w (f (g b)) cs
  rw [hfg]
  exact k1
 ·show ok (f (g b))
  rw [hfg]
  exact k2
 ·show wt (f (g b))
  rw [hfg]
  refine k3 (fun q hm => hq q ?_)
  show _ ∈ DataW.weights P t _
  simp only [DataW.weights,h]
  exact hm
 ·show bk (f (g b)) + 1 ≤ _
  rw [hfg]
  simp only [Rows.uptoBulk]
  omega
end
theorem ziQ {α H : Type} {P : Program} {r : Rd α} (hr : zdS P r) {enc : TypeId × Value → H} {w : World} {v : Value} {d : DataW H} {ps : List MemPlace} (h : DataW.Trod enc P w 0 (fun _ => true) true r.t v d ps) :
  ∃ a,r.d.K w a v.cells.toList ∧ r.ok a ∧ ((∀ n ∈ d.weights P r.t,n ≤ reachBytes) → r.wt a) ∧ r.bk a ≤ Rows.uptoBulk d := by
 obtain ⟨fuel,hf⟩ := h
 exact hr.out hf
end Go.Proofs.Ytcncoepijagadaa.Px
namespace Go.Proofs.Ytcncoepijagadaa.Px
open Go.RowKit Go.Proofs.Ytcncoepijagadaa.Px Go.Proofs.YtcncoepijagadaaW.PrintWords Go.Proofs.YtcncoepijagadaaW.PrintLast Go.Proofs.YtcncoepijagadaaW.PrintMore
set_option linter.unusedVariables false
instance : Inhabited S40 := ⟨z40⟩
def zc6 : Rd S40 := zcp 40 (Kd.pair (zao 3 .i64).d (z8 9).d) (fun x : S40 => (x.f0,x.f1)) (fun y => (zao 3 .i64).ok y.1 ∧ ((z8 9).ok y.2)) (fun y => (zao 3 .i64).wt y.1 ∧ ((z8 9).wt y.2)) (fun y => (zao 3 .i64).bk y.1 + ((z8 9).bk y.2))
theorem fit40 : zdS Try.prog zc6 :=
 zb1 (zaG (o := 0) (o' := 1) (ok := fun (y : ByteArray) => (z8 9).ok y) (wt := fun (y : ByteArray) => (z8 9).wt y) (bk := fun (y : ByteArray) => (z8 9).bk y) (zcf Try.underlying3) rfl rfl (by kernel_rfl) rfl (zb0 (zdK Try.underlying9) rfl rfl (by kernel_rfl))) Try.underlying40 (by kernel_rfl) (fun x : S40 => (x.f0,x.f1)) (fun y => ⟨y.1,y.2⟩) (fun _ => rfl)
instance : Inhabited S50 := ⟨z50⟩
def ze9 : Rd S50 := zcp 50 (Kd.pair (zao 3 .i64).d (Kd.pair (zao 3 .i64).d (zL 24 16 (z8 9)).d)) (fun x : S50 => (x.f0,x.f1,x.f2)) (fun y => (zao 3 .i64).ok y.1 ∧ ((zao 3 .i64).ok y.2.1 ∧ ((zL 24 16 (z8 9)).ok y.2.2))) (fun y => (zao 3 .i64).wt y.1 ∧ ((zao 3 .i64).wt y.2.1 ∧ ((zL 24 16 (z8 9)).wt y.2.2))) (fun y => (zao 3 .i64).bk y.1 + ((zao 3 .i64).bk y.2.1 + ((zL 24 16 (z8 9)).bk y.2.2)))
theorem fit50 : zdS Try.prog ze9 :=
 zb1 (zaG (o := 0) (o' := 1) (ok := fun (y : Int × (List ByteArray)) => (zao 3 .i64).ok y.1 ∧ ((zL 24 16 (z8 9)).ok y.2)) (wt := fun (y : Int × (List ByteArray)) => (zao 3 .i64).wt y.1 ∧ ((zL 24 16 (z8 9)).wt y.2)) (bk := fun (y : Int × (List ByteArray)) => (zao 3 .i64).bk y.1 + ((zL 24 16 (z8 9)).bk y.2)) (zcf Try.underlying3) rfl rfl (by kernel_rfl) rfl (zaG (o := 1) (o' := 2) (ok := fun (y : (List ByteArray)) => (zL 24 16 (z8 9)).ok y) (wt := fun (y : (List ByteArray)) => (zL 24 16 (z8 9)).wt y) (bk := fun (y : (List ByteArray)) => (zL 24 16 (z8 9)).bk y) (zcf Try.underlying3) rfl rfl (by kernel_rfl) rfl (zb0 (zcG (zdK Try.underlying9) Try.underlying24 (by kernel_rfl) (by kernel_rfl)) rfl rfl (by kernel_rfl)))) Try.underlying50 (by kernel_rfl) (fun x : S50 => (x.f0,x.f1,x.f2)) (fun y => ⟨y.1,y.2.1,y.2.2⟩) (fun _ => rfl)
instance : Inhabited S26 := ⟨z26⟩
def zdi : Rd S26 := zcp 26 (Kd.pair (zao 3 .i64).d (zao 3 .i64).d) (fun x : S26 => (x.f0,x.f1)) (fun y => (zao 3 .i64).ok y.1 ∧ ((zao 3 .i64).ok y.2)) (fun y => (zao 3 .i64).wt y.1 ∧ ((zao 3 .i64).wt y.2)) (fun y => (zao 3 .i64).bk y.1 + ((zao 3 .i64).bk y.2))
theorem fit26 : zdS Try.prog zdi :=
 zb1 (zaG (o := 0) (o' := 1) (ok := fun (y : Int) => (zao 3 .i64).ok y) (wt := fun (y : Int) => (zao 3 .i64).wt y) (bk := fun (y : Int) => (zao 3 .i64).bk y) (zcf Try.underlying3) rfl rfl (by kernel_rfl) rfl (zb0 (zcf Try.underlying3) rfl rfl (by kernel_rfl))) Try.underlying26 (by kernel_rfl) (fun x : S26 => (x.f0,x.f1)) (fun y => ⟨y.1,y.2⟩) (fun _ => rfl)
instance : Inhabited S28 := ⟨z28⟩
def ziu : Rd S28 := zcp 28 (Kd.pair (zao 3 .i64).d (Kd.pair (zao 3 .i64).d (Kd.pair (zL 23 40 ze9).d (Kd.pair (zL 24 16 (z8 9)).d zdi.d)))) (fun x : S28 => (x.f0,x.f1,x.f2,x.f3,x.f4)) (fun y => (zao 3 .i64).ok y.1 ∧ ((zao 3 .i64).ok y.2.1 ∧ ((zL 23 40 ze9).ok y.2.2.1 ∧ ((zL 24 16 (z8 9)).ok y.2.2.2.1 ∧ (zdi.ok y.2.2.2.2))))) (fun y => (zao 3 .i64).wt y.1 ∧ ((zao 3 .i64).wt y.2.1 ∧ ((zL 23 40 ze9).wt y.2.2.1 ∧ ((zL 24 16 (z8 9)).wt y.2.2.2.1 ∧ (zdi.wt y.2.2.2.2))))) (fun y => (zao 3 .i64).bk y.1 + ((zao 3 .i64).bk y.2.1 + ((zL 23 40 ze9).bk y.2.2.1 + ((zL 24 16 (z8 9)).bk y.2.2.2.1 + (zdi.bk y.2.2.2.2)))))
theorem fit28 : zdS Try.prog ziu :=
 zb1 (zaG (o := 0) (o' := 1) (ok := fun (y : Int × (List S50) × (List ByteArray) × S26) => (zao 3 .i64).ok y.1 ∧ ((zL 23 40 ze9).ok y.2.1 ∧ ((zL 24 16 (z8 9)).ok y.2.2.1 ∧ (zdi.ok y.2.2.2)))) (wt := fun (y : Int × (List S50) × (List ByteArray) × S26) => (zao 3 .i64).wt y.1 ∧ ((zL 23 40 ze9).wt y.2.1 ∧ ((zL 24 16 (z8 9)).wt y.2.2.1 ∧ (zdi.wt y.2.2.2)))) (bk := fun (y : Int × (List S50) × (List ByteArray) × S26) => (zao 3 .i64).bk y.1 + ((zL 23 40 ze9).bk y.2.1 + ((zL 24 16 (z8 9)).bk y.2.2.1 + (zdi.bk y.2.2.2)))) (zcf Try.underlying3) rfl rfl (by kernel_rfl) rfl (zaG (o := 1) (o' := 2) (ok := fun (y : (List S50) × (List ByteArray) × S26) => (zL 23 40 ze9).ok y.1 ∧ ((zL 24 16 (z8 9)).ok y.2.1 ∧ (zdi.ok y.2.2))) (wt := fun (y : (List S50) × (List ByteArray) × S26) => (zL 23 40 ze9).wt y.1 ∧ ((zL 24 16 (z8 9)).wt y.2.1 ∧ (zdi.wt y.2.2))) (bk := fun (y : (List S50) × (List ByteArray) × S26) => (zL 23 40 ze9).bk y.1 + ((zL 24 16 (z8 9)).bk y.2.1 + (zdi.bk y.2.2))) (zcf Try.underlying3) rfl rfl (by kernel_rfl) rfl (zaG (o := 2) (o' := 3) (ok := fun (y : (List ByteArray) × S26) => (zL 24 16 (z8 9)).ok y.1 ∧ (zdi.ok y.2)) (wt := fun (y : (List ByteArray) × S26) => (zL 24 16 (z8 9)).wt y.1 ∧ (zdi.wt y.2)) (bk := fun (y : (List ByteArray) × S26) => (zL 24 16 (z8 9)).bk y.1 + (zdi.bk y.2)) (zcG fit50 Try.underlying23 (by kernel_rfl) (by kernel_rfl)) rfl rfl (by kernel_rfl) rfl (zaG (o := 3) (o' := 4) (ok := fun (y : S26) => zdi.ok y) (wt := fun (y : S26) => zdi.wt y) (bk := fun (y : S26) => zdi.bk y) (zcG (zdK Try.underlying9) Try.underlying24 (by kernel_rfl) (by kernel_rfl)) rfl rfl (by kernel_rfl) rfl (zb0 fit26 rfl rfl (by kernel_rfl)))))) Try.underlying28 (by kernel_rfl) (fun x : S28 => (x.f0,x.f1,x.f2,x.f3,x.f4)) (fun y => ⟨y.1,y.2.1,y.2.2.1,y.2.2.2.1,y.2.2.2.2⟩) (fun _ => rfl)
instance : Inhabited S31 := ⟨z31⟩
def zdN : Rd S31 := zcp 31 (Kd.pair ziu.d (zao 29 .u64).d) (fun x : S31 => (x.f0,x.f1)) (fun y => ziu.ok y.1 ∧ ((zao 29 .u64).ok y.2)) (fun y => ziu.wt y.1 ∧ ((zao 29 .u64).wt y.2)) (fun y => ziu.bk y.1 + ((zao 29 .u64).bk y.2))
theorem fit31 : zdS Try.prog zdN :=
 zb1 (zaG (o := 0) (o' := 6) (ok := fun (y : Int) => (zao 29 .u64).ok y) (wt := fun (y : Int) => (zao 29 .u64).wt y) (bk := fun (y : Int) => (zao 29 .u64).bk y) fit28 rfl rfl (by kernel_rfl) rfl (zb0 (zcf Try.underlying29) rfl rfl (by kernel_rfl))) Try.underlying31 (by kernel_rfl) (fun x : S31 => (x.f0,x.f1)) (fun y => ⟨y.1,y.2⟩) (fun _ => rfl)
instance : Inhabited S33 := ⟨z33⟩
def rd33 : Rd S33 := zcp 33 (Kd.pair (zao 3 .i64).d (Kd.pair (zL 22 24 zc6).d (Kd.pair (zL 22 24 zc6).d zdN.d))) (fun x : S33 => (x.f0,x.f1,x.f2,x.f3)) (fun y => (zao 3 .i64).ok y.1 ∧ ((zL 22 24 zc6).ok y.2.1 ∧ ((zL 22 24 zc6).ok y.2.2.1 ∧ (zdN.ok y.2.2.2)))) (fun y => (zao 3 .i64).wt y.1 ∧ ((zL 22 24 zc6).wt y.2.1 ∧ ((zL 22 24 zc6).wt y.2.2.1 ∧ (zdN.wt y.2.2.2)))) (fun y => (zao 3 .i64).bk y.1 + ((zL 22 24 zc6).bk y.2.1 + ((zL 22 24 zc6).bk y.2.2.1 + (zdN.bk y.2.2.2))))
theorem fit33 : zdS Try.prog rd33 :=
 zb1 (zaG (o := 0) (o' := 1) (ok := fun (y : (List S40) × (List S40) × S31) => (zL 22 24 zc6).ok y.1 ∧ ((zL 22 24 zc6).ok y.2.1 ∧ (zdN.ok y.2.2))) (wt := fun (y : (List S40) × (List S40) × S31) => (zL 22 24 zc6).wt y.1 ∧ ((zL 22 24 zc6).wt y.2.1 ∧ (zdN.wt y.2.2))) (bk := fun (y : (List S40) × (List S40) × S31) => (zL 22 24 zc6).bk y.1 + ((zL 22 24 zc6).bk y.2.1 + (zdN.bk y.2.2))) (zcf Try.underlying3) rfl rfl (by kernel_rfl) rfl (zaG (o := 1) (o' := 2) (ok := fun (y : (List S40) × S31) => (zL 22 24 zc6).ok y.1 ∧ (zdN.ok y.2)) (wt := fun (y : (List S40) × S31) => (zL 22 24 zc6).wt y.1 ∧ (zdN.wt y.2)) (bk := fun (y : (List S40) × S31) => (zL 22 24 zc6).bk y.1 + (zdN.bk y.2)) (zcG fit40 Try.underlying22 (by kernel_rfl) (by kernel_rfl)) rfl rfl (by kernel_rfl) rfl (zaG (o := 2) (o' := 3) (ok := fun (y : S31) => zdN.ok y) (wt := fun (y : S31) => zdN.wt y) (bk := fun (y : S31) => zdN.bk y) (zcG fit40 Try.underlying22 (by kernel_rfl) (by kernel_rfl)) rfl rfl (by kernel_rfl) rfl (zb0 fit31 rfl rfl (by kernel_rfl))))) Try.underlying33 (by kernel_rfl) (fun x : S33 => (x.f0,x.f1,x.f2,x.f3)) (fun y => ⟨y.1,y.2.1,y.2.2.1,y.2.2.2⟩) (fun _ => rfl)
def zca : Prop := ∀ (a0 : S33),rd33.ok a0 → rd33.bk a0 ≤ 1048576 → zai.f (a0.f0) (a0.f1) (a0.f2) (a0.f3.f0.f0) (a0.f3.f0.f1) (a0.f3.f0.f2) (a0.f3.f0.f3) (a0.f3.f0.f4.f0) (a0.f3.f0.f4.f1) (a0.f3.f1) = some true
end Go.Proofs.Ytcncoepijagadaa.Px
namespace Go.Proofs.Ytcncoepijagadaa.Pure
open Go.RowKit Go.Proofs.Ytcncoepijagadaa.Px Go.Proofs.YtcncoepijagadaaW.PrintWords Go.Proofs.YtcncoepijagadaaW.PrintLast Go.Proofs.YtcncoepijagadaaW.PrintMore
theorem zea (g : S40 → Nat) (hg : ∀ s,s.f1.size + 1 ≤ g s) : ∀ l : List S40,l.length ≤ (l.map g).sum ∧ ∀ s ∈ l,s.f1.size ≤ (l.map g).sum
 | [] => ⟨Nat.le_refl _,fun _ h => absurd h List.not_mem_nil⟩
 | s :: l => by
  obtain ⟨h1,h2⟩ := zea g hg l
  have h0 := hg s
  rw [List.map_cons,List.sum_cons,List.length_cons]
  refine ⟨by omega,fun q hq => ?_⟩
  rcases List.mem_cons.1 hq with rfl | hq
  ·omega
  ·have := h2 q hq
   omega
theorem CertGrows : zca := by
 rintro ⟨n,B,L,⟨⟨a,r,bs,ps,⟨x,y⟩⟩,z⟩⟩ ⟨_,_,_,⟨_,hz⟩⟩ hb
 obtain ⟨z0,z1⟩ := u64_wf hz
 have z1' : z < 18446744073709551616 := z1
 have z0' : 0 ≤ z := z0
 have hb' : (1 + (((B.map fun s => (1 + (s.f1.size + 1)) + 1).sum + 1) + (((L.map fun s => (1 + (s.f1.size + 1)) + 1).sum + 1) + zdN.bk ⟨⟨a,r,bs,ps,⟨x,y⟩⟩,z⟩))) + 1 ≤ 1048576 := hb
 obtain ⟨p1,_⟩ := zea (fun s => (1 + (s.f1.size + 1)) + 1) (fun s => by omega) B
 obtain ⟨q1,q2⟩ := zea (fun s => (1 + (s.f1.size + 1)) + 1) (fun s => by omega) L
 refine if_pos ?_
 unfold fitG
 simp only [Bool.and_eq_true,decide_eq_true_eq,List.all_eq_true]
 exact ⟨⟨⟨⟨by omega,by omega⟩,fun s hs => by have := q2 s hs;omega⟩,z0'⟩,z1'⟩
end Go.Proofs.Ytcncoepijagadaa.Pure
namespace Go.Proofs.Ytcncoepijagadaa.certGrowsUpto
open Go.ChangeShapes Go.WideShapes Go.ChangeAt Go.RowKit
open Go.ChangeMaps (open_string shut_string)
open Go.RowKit Go.Proofs.Ytcncoepijagadaa.Px Go.Proofs.YtcncoepijagadaaW.PrintWords Go.Proofs.YtcncoepijagadaaW.PrintLast Go.Proofs.YtcncoepijagadaaW.PrintMore
set_option linter.unusedVariables false
theorem own : ownKnob Try.prog.godebug = none := by kernel_rfl
theorem laidOut : laidOutB Try.prog = true := by kernel_rfl
set_option maxRecDepth 100000 in
theorem contract (H : Type) (enc : TypeId × Value → H) (W : World) (base : Nat) (args : Array Value) (ds gs : List (DataW H)) (before : List MemPlace)
  (hval0 : ∀ (j : Nat) t v,Try.f3.params[j]? = some t → args[j]? = some v → Value.okWide Try.prog W .any base t v)
  (hW : DataW.Whole enc Try.prog Try.f3.params.toList Rows.certGrowsSpec.vars false W args.toList ds gs before)
  (hk0 : Rows.uptoSmall H (ds ++ gs) = true) :
  Calls Try.prog 3 args W fun e W' => ∃ v,e = .returned v ∧ Rows.certGrowsSpec.post enc Try.prog Try.f3 false true false false W args v W' := by
 have hval : ∀ (j : Nat) t v,Try.f3.params[j]? = some t → args[j]? = some v → Value.okWide Try.prog W .any base t v := hval0
 have hW' := hW
 obtain ⟨p,q,hA0,hV,rfl,hfz,hnd⟩ := hW
 have hA : DataW.TrodAll enc Try.prog W 0 (fun _ => true) true Try.f3.params.toList args.toList ds p := hA0
 rw [Try.params3] at hA hval
 obtain ⟨v0,vs0,d0,ds0,p0,q0,hargs,rfl,rfl,h0,r0⟩ := trodAll_cons hA
 obtain ⟨rfl,rfl,rfl⟩ := trodAll_nil r0
 obtain rfl : args = #[v0] := by cases args;simp_all
 obtain ⟨rfl,rfl⟩ := trodVars_none hV
 have t0 := h0
 have lt0 : ∀ x ∈ p0,x.block < W.heap.size := by obtain ⟨m,hm⟩ := t0;exact DataW.trod_lt m _ _ _ hm
 have hk : Rows.uptoBulkAll ([d0] : List (DataW H)) ≤ 1048576 := of_decide_eq_true hk0
 simp only [Rows.uptoBulkAll] at hk
 obtain ⟨a0,K0,ok0,wt0,bk0⟩ := ziQ fit33 h0
 have bl0 : rd33.bk a0 ≤ Rows.uptoBulk d0 := bk0
 obtain ⟨cs0,rfl,sz0⟩ := okWide_struct Try.underlying33 (hval 0 33 v0 rfl rfl)
 obtain ⟨A0_1,c0_1,A0_2,c0_2,A0_3_0_2,c0_3_0_2,A0_3_0_3,c0_3_0_3,e0,l0_1,g0_1,l0_2,g0_2,l0_3_0_2,g0_3_0_2,l0_3_0_3,g0_3_0_3⟩ := zih (show k33.K W a0 _ from K0)
 obtain rfl : cs0 = #[.int .i64 a0.f0,.slice A0_1 a0.f1.length c0_1,.slice A0_2 a0.f2.length c0_2,.int .i64 a0.f3.f0.f0,.int .i64 a0.f3.f0.f1,.slice A0_3_0_2 a0.f3.f0.f2.length c0_3_0_2,.slice A0_3_0_3 a0.f3.f0.f3.length c0_3_0_3,.int .i64 a0.f3.f0.f4.f0,.int .i64 a0.f3.f0.f4.f1,.int .u64 a0.f3.f1] := by have := congrArg List.toArray e0;simpa [Value.cells] using this
 have hkk := Pure.CertGrows a0 ok0 (by omega)
 refine (zai.calls (a0.f0) A0_1 c0_1 (a0.f1) A0_2 c0_2 (a0.f2) (a0.f3.f0.f0) (a0.f3.f0.f1) A0_3_0_2 c0_3_0_2 (a0.f3.f0.f2) A0_3_0_3 c0_3_0_3 (a0.f3.f0.f3) (a0.f3.f0.f4.f0) (a0.f3.f0.f4.f1) (a0.f3.f1) true W g0_1 l0_1 g0_2 l0_2 g0_3_0_2 l0_3_0_2 g0_3_0_3 l0_3_0_3 hkk).mono fun e W' ⟨he,bel0⟩ => ?_
 have bel := bel0
 subst he
 exact ⟨_,rfl,_,_,_,[],_,[],hW',trodAll_mk1 (shut_bool Try.underlying4 _),(trodAll_cons_mk (Below.trod laidOut (by kernel_rfl) (of_decide_eq_true (by kernel_rfl)) t0 bel lt0) trodAll_mk0),rfl,bel.frame _,fun h => by cases h⟩
set_option maxRecDepth 100000 in
theorem lifted (os : Os) (started : os.Started) (H : Type) (enc : TypeId × Value → H) (F : Stop.Interp) :
  ReturnsInHanded {} Try.checked os 3 .any ((Rows.OpenSpec.upto Rows.certGrowsSpec).pre6 enc Try.prog Try.f3 Rows.certGrowsUptoRow.domain false) (((Rows.OpenSpec.upto Rows.certGrowsSpec).at F).post enc Try.prog Try.f3 false true false false) := by
 refine returnsInHanded_of_cond (C := Try.checked) (s := Rows.OpenSpec.upto Rows.certGrowsSpec) (k := Rows.uptoSmall) rfl own started (by kernel_rfl) Try.func3
  (OpenSpec.witness (enc := enc) (C := Try.checked) (s := Rows.OpenSpec.upto Rows.certGrowsSpec) (k := Rows.uptoSmall) rfl false ⟨#[],#[.agg #[.int .i64 0,.slice none 0 0,.slice none 0 0,.int .i64 0,.int .i64 0,.slice none 0 0,.slice none 0 0,.int .i64 0,.int .i64 0,.int .u64 0]],[]⟩ 8 (by kernel_rfl) (by kernel_rfl) (by kernel_rfl)
   (x := ([.agg [.lit (.int .i64 0),.nil,.nil,.agg [.agg [.lit (.int .i64 0),.lit (.int .i64 0),.nil,.nil,.agg [.lit (.int .i64 0),.lit (.int .i64 0)]],.lit (.int .u64 0)]]],[],[])) (by kernel_rfl) rfl (by kernel_rfl)) ?_
 intro W base args ds gs before hval hW _ hk _
 exact contract H enc W base args ds gs before hval hW hk
theorem proved : Rows.CertGrowsUptoSaid :=
 OpenClaim.holds_of_cond 3 Try.f3 rfl rfl rfl rfl rfl rfl rfl ⟨rfl,rfl,rfl,rfl,rfl⟩ rfl rfl rfl rfl rfl (by kernel_rfl) Try.func3 (by kernel_rfl)
  (of_decide_eq_true (by kernel_rfl)) (by unfold Func.isWrapper;first | (rw [if_pos (by decide +kernel)];kernel_rfl) | (rw [if_neg (by decide +kernel)];exact ⟨rfl,rfl⟩))
  (fun os started H enc _ F => lifted os started H enc F)
#print axioms proved
end Go.Proofs.Ytcncoepijagadaa.certGrowsUpto
namespace Go.Proofs.Ytcncoepijagadaa
theorem certGrowsUpto_holds : Rows.CertGrowsUptoSaid := certGrowsUpto.proved
end Go.Proofs.Ytcncoepijagadaa