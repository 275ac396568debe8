/- Part 24 of 24 of the proof of the law DagDrops: what is proved is the statement at the end of the last part; its conditions are those of the given row. -/
import Derived.Test.YtklhjlaofkngcaaRows
import Derived.Deep.Slices
import Derived.ChangeArms
import Derived.SizedLaws
import Derived.WideOpen
import Derived.ProofKit
import Derived.OpenShut
import Derived.ShutString
import Derived.ChangeOld
import Derived.JoinedCond
import Derived.Carry
import Derived.WideShapes
import Derived.Test.YtklhjlaofkngcaaZDagDropsW
namespace Go.Proofs.Ytklhjlaofkngcaa.Px
open Go.RowKit Go.Proofs.YtklhjlaofkngcaaW.PrintWords Go.Proofs.YtklhjlaofkngcaaW.PrintLast Go.Proofs.YtklhjlaofkngcaaW.PrintMore
attribute [local go_sem] zx zz zC zD zq zr zy zA
set_option linter.unusedVariables false
set_option linter.unusedSimpArgs false
structure Rd (α : Type) where
 t : TypeId
 d : Kd α
 ok : α → Prop
 wt : α → Prop
 bk : α → Nat
structure zdk {α : Type} (P : Program) (r : Rd α) : Prop where
 out : ∀ {H : Type} {enc : TypeId × Value → H} {w : World} {fuel : Nat} {cs : List Value} {x : DataW H × List MemPlace},DataW.trod enc P w 0 (fun _ => true) true fuel r.t cs = some x →
  ∃ a,r.d.K w a cs ∧ r.ok a ∧ ((∀ n ∈ x.1.weights P r.t,n ≤ reachBytes) → r.wt a) ∧ r.bk a ≤ Rows.uptoBulk x.1
def zaa (t : TypeId) (k : IntKind) : Rd Int := ⟨t,Kd.int k,fun a => (Lit.int k a).wf = true,fun _ => True,fun _ => 1⟩
def zhR (t : TypeId) : Rd Bool := ⟨t,Kd.bool,fun _ => True,fun _ => True,fun _ => 1⟩
def zW (t : TypeId) : Rd ByteArray := ⟨t,Kd.string,fun a => a.size ≤ maxLen,fun a => a.size ≤ reachBytes,fun a => a.size + 1⟩
def zL {α : Type} (t : TypeId) (B : Nat) (r : Rd α) : Rd (List α) :=
 ⟨t,Kd.slice r.t r.d,fun l => l.length ≤ maxLen ∧ ∀ a ∈ l,r.ok a,fun l => l.length * B ≤ reachBytes ∧ ∀ a ∈ l,r.wt a,fun l => (l.map r.bk).sum + 1⟩
section
variable {P : Program}
theorem zbG {t : TypeId} {k : IntKind} (h : P.underlying t = some (.int k)) : zdk P (zaa t k) := by
 constructor
 intro H enc w fuel cs x hx
 obtain ⟨n,rfl,rfl,hw⟩ := DataW.trod_int h hx
 exact ⟨n,rfl,hw,fun _ => trivial,by simp [zaa,Rows.uptoBulk]⟩
theorem zc5 {t : TypeId} (h : P.underlying t = some .string) : zdk P (zW t) := by
 constructor
 intro H enc w fuel cs x hx
 obtain ⟨s,rfl,rfl,hs⟩ := DataW.trod_string h hx
 have e : s.data.toList.length = s.size := by rw [Array.length_toList];rfl
 refine ⟨s,rfl,hs,fun hn => ?_,by simp only [zW,Rows.uptoBulk,e];exact Nat.le_refl _⟩
 have := hn s.data.toList.length (by simp [DataW.weights])
 rwa [e] at this
theorem zfx {H α : Type} (f : Nat → DataW H) (g : Nat → α) (bk : α → Nat) (n : Nat) (h : ∀ i,i < n → bk (g i) ≤ Rows.uptoBulk (f i)) : (((List.range n).map g).map bk).sum ≤ Rows.uptoBulkAll ((List.range n).map f) := by
 suffices k : ∀ l : List Nat,(∀ i ∈ l,i < n) → ((l.map g).map bk).sum ≤ Rows.uptoBulkAll (l.map f) from k _ (fun i hi => List.mem_range.1 hi)
 intro l
 induction l with
 | nil => intro _;simp
 | cons i l ih =>
  intro hl
  have h1 := h i (hl i List.mem_cons_self)
  have h2 := ih (fun j hj => hl j (List.mem_cons_of_mem _ hj))
  simp only [List.map_cons,List.sum_cons,Rows.uptoBulkAll]
  omega
theorem zcJ {H : Type} {e : TypeId} : ∀ {l : List (DataW H)} {d : DataW H} {n : Nat},d ∈ l → n ∈ d.weights P e → n ∈ DataW.weightsAll P e l
 | x :: l,d,n,hd,hn => by
  simp only [DataW.weightsAll,List.mem_append]
  rcases List.mem_cons.1 hd with rfl | hd
  ·exact .inl hn
  ·exact .inr (zcJ hd hn)
theorem zcM {α : Type} [Inhabited α] {r : Rd α} (hr : zdk P r) {t : TypeId} {B : Nat} (h : P.underlying t = some (.slice r.t)) (hc : P.cellsOf r.t = r.d.sz) (hB : P.bytesOf r.t = B) : zdk P (zL t B r) := by
 constructor
 intro H enc w fuel cs x hx
 rcases Deep.open_slice h hx with ⟨rfl,rfl⟩ | ⟨a,len,cap,m,n,D,Pl,rfl,_,hl,hm,hmm,rfl,hel⟩
 ·exact ⟨[],⟨none,0,rfl,Nat.le_refl _,Kd.C_nil _ _⟩,⟨Nat.zero_le _,by simp⟩,fun _ => ⟨by simp,by simp⟩,by simp [zL,Rows.uptoBulk]⟩
 ·simp only [if_true] at hmm
  subst hmm
  obtain ⟨f,hf⟩ := Deep.choose_lt (α := α) (n := len) (p := fun i v => ∃ c,w.cells? 0 (a.add (i * P.cellsOf r.t)) (P.cellsOf r.t) = some c ∧ r.d.K w v c ∧ r.ok v ∧ ((∀ q ∈ (D i).weights P r.t,q ≤ reachBytes) → r.wt v) ∧ r.bk v ≤ Rows.uptoBulk (D i)) (fun i hi => by
   obtain ⟨cs',h1,h2⟩ := hel i (by omega)
   obtain ⟨v,k1,k2,k3,k4⟩ := hr.out h2
   exact ⟨v,cs',h1,k1,k2,k3,k4⟩)
  have hlen : ((List.range len).map f).length = len := by simp
  refine ⟨(List.range len).map f,⟨some a,m,by rw [hlen],by rw [hlen];exact hl,?_⟩,⟨by rw [hlen];omega,?_⟩,fun hw => ⟨?_,?_⟩,?_⟩
  ·rw [hlen]
   refine ⟨hlen,by unfold maxLen at hm;omega,fun _ => ⟨a,rfl,fun j p hj => ?_⟩⟩
   have hjl : j < len := by
    have := (List.getElem?_eq_some_iff.1 hj).1
    simpa using this
   obtain ⟨c,c1,c2,_⟩ := hf j hjl
   have hp : f j = p := by simpa [List.getElem?_map,List.getElem?_range hjl] using hj
   obtain ⟨_,l2,l3⟩ := World.cells?_some c1
   refine ⟨c,by rw [l2,hc],hp ▸ c2,fun i u hu => ?_⟩
   have hi : i < P.cellsOf r.t := by rw [← l2];exact (List.getElem?_eq_some_iff.1 hu).1
   rw [← hc,← Deep.add_add,l3 i hi]
   exact hu
  ·intro v hv
   obtain ⟨i,hi,rfl⟩ := List.mem_map.1 hv
   obtain ⟨c,_,_,h3,_⟩ := hf i (List.mem_range.1 hi)
   exact h3
  ·have := hw ((((List.range len).map D).length + ((List.range (m - len)).map fun j => D (len + j)).length) * P.bytesOf r.t) (by show _ ∈ DataW.weights P t _;simp only [DataW.weights,h];exact List.mem_cons_self)
   rw [hlen]
   rw [hB] at this
   simp only [List.length_map,List.length_range] at this
   exact Nat.le_trans (Nat.mul_le_mul_right _ (by omega)) this
  ·intro v hv
   obtain ⟨i,hi,rfl⟩ := List.mem_map.1 hv
   obtain ⟨c,_,_,_,h4,_⟩ := hf i (List.mem_range.1 hi)
   refine h4 (fun q hq => hw q ?_)
   show _ ∈ DataW.weights P t _
   simp only [DataW.weights,h]
   exact List.mem_cons_of_mem _ (List.mem_append_left _ (zcJ (List.mem_map.2 ⟨i,hi,rfl⟩) hq))
  ·simp only [zL,Rows.uptoBulk]
   have := zfx D f r.bk len (fun i hi => (hf i hi).choose_spec.2.2.2.2)
   omega
structure zcK {β : Type} (P : Program) (fs : List Field) (o : Nat) (d : Kd β) (ok wt : β → Prop) (bk : β → Nat) : Prop where
 out : ∀ {H : Type} {enc : TypeId × Value → H} {w : World} {n : Nat} {cs : List Value} {xs : List (DataW H × List MemPlace)},xs.length = fs.length → cs.length = o + d.sz →
  (∀ (i : Nat) (f : Field),fs[i]? = some f → DataW.trod enc P w 0 (fun _ => true) true n f.type ((cs.drop f.offset).take (P.cellsOf f.type)) = xs[i]?) →
  ∃ b,d.K w b (cs.drop o) ∧ ok b ∧ ((∀ q ∈ DataW.weightsEach P (fs.map (·.type)) (xs.map (·.1)),q ≤ reachBytes) → wt b) ∧ bk b ≤ Rows.uptoBulkAll (xs.map (·.1))
theorem zb0 {α : Type} {r : Rd α} (hr : zdk P r) {f : Field} (ht : f.type = r.t) {o : Nat} (ho : f.offset = o) (hc : P.cellsOf r.t = r.d.sz) : zcK P [f] o r.d r.ok r.wt r.bk := by
 constructor
 intro H enc w n cs xs hl hcs hx
 match xs,hl with
 | [x],_ =>
  have h := hx 0 f rfl
  rw [ho,ht,hc,List.take_of_length_le (by rw [List.length_drop];omega)] at h
  obtain ⟨a,h1,h2,h3,h4⟩ := hr.out h
  refine ⟨a,h1,h2,fun hq => h3 (fun q hm => hq q ?_),by simp [Rows.uptoBulkAll];omega⟩
  simp only [List.map_cons,List.map_nil,DataW.weightsEach,List.mem_append,ht]
  exact .inl hm
theorem zaE {α β : Type} {r : Rd α} (hr : zdk P r) {f : Field} (ht : f.type = r.t) {fs : List Field} {o o' : Nat} (ho : f.offset = o) (hc : P.cellsOf r.t = r.d.sz) (ho' : o' = o + r.d.sz) {d : Kd β} {ok wt : β → Prop} {bk : β → Nat} (hfs : zcK P fs o' d ok wt bk) :
  zcK P (f :: fs) o (Kd.pair r.d d) (fun x => r.ok x.1 ∧ ok x.2) (fun x => r.wt x.1 ∧ wt x.2) (fun x => r.bk x.1 + bk x.2) := by
 constructor
 intro H enc w n cs xs hl hcs hx
 match xs,hl with
 | x :: xs,hl =>
  have h := hx 0 f rfl
  have hcs' : cs.length = o + (r.d.sz + d.sz) := hcs
  rw [ho,ht,hc] at h
  obtain ⟨a,h1,h2,h3,h4⟩ := hr.out h
  obtain ⟨b,k1,k2,k3,k4⟩ := hfs.out (enc := enc) (w := w) (n := n) (cs := cs) (xs := xs) (by simpa using hl) (by omega) (fun i g hg => hx (i + 1) g hg)
  refine ⟨(a,b),⟨(cs.drop o).take r.d.sz,cs.drop o',?_,h1,k1⟩,⟨h2,k2⟩,fun hq => ⟨h3 (fun q hm => hq q ?_),k3 (fun q hm => hq q ?_)⟩,?_⟩
  ·rw [ho',← List.drop_drop,List.take_append_drop]
  ·simp only [List.map_cons,DataW.weightsEach,List.mem_append,ht]
   exact .inl hm
  ·simp only [List.map_cons,DataW.weightsEach,List.mem_append]
   exact .inr hm
  ·simp only [List.map_cons,Rows.uptoBulkAll];omega
def zco {α β : Type} (t : TypeId) (d : Kd β) (f : α → β) (ok wt : β → Prop) (bk : β → Nat) : Rd α := ⟨t,Kd.iso d f,fun a => ok (f a),fun a => wt (f a),fun a => bk (f a) + 1⟩
theorem zb1 {α β : Type} {t : TypeId} {fs : List Field} {d : Kd β} {ok wt : β → Prop} {bk : β → Nat} (hfs : zcK P fs 0 d ok wt bk) (h : P.underlying t = some (.struct fs.toArray)) (hc : P.cellsOf t = d.sz) (f : α → β) (g : β → α) (hfg : ∀ b,f (g b) = b) : zdk P (zco t d f ok wt bk) := by
 constructor
 intro H enc w fuel cs x hx
 obtain ⟨xs,n,rfl,rfl,hl,hn,hf⟩ := DataW.trod_struct h hx
 obtain ⟨b,k1,k2,k3,k4⟩ := hfs.out (enc := enc) (w := w) (n := n) (cs := cs) (xs := xs) (by simpa using hn) (by omega) (fun i g hg => hf i g (by simpa using hg))
 refine ⟨g b,?_,?_,fun hq => ?_,?_⟩
 ·show d.K w (f (g b)) cs
  rw [hfg]
  exact k1
 ·show ok (f (g b))
  rw [hfg]
  exact k2
 ·show wt (f (g b))
  rw [hfg]
  refine k3 (fun q hm => hq q ?_)
  show _ ∈ DataW.weights P t _
  simp only [DataW.weights,h]
  exact hm
 ·show bk (f (g b)) + 1 ≤ _
  rw [hfg]
  simp only [Rows.uptoBulk]
  omega
end
theorem zfa {α H : Type} {P : Program} {r : Rd α} (hr : zdk P r) {enc : TypeId × Value → H} {w : World} {v : Value} {d : DataW H} {ps : List MemPlace} (h : DataW.Trod enc P w 0 (fun _ => true) true r.t v d ps) :
  ∃ a,r.d.K w a v.cells.toList ∧ r.ok a ∧ ((∀ n ∈ d.weights P r.t,n ≤ reachBytes) → r.wt a) ∧ r.bk a ≤ Rows.uptoBulk d := by
 obtain ⟨fuel,hf⟩ := h
 exact hr.out hf
end Go.Proofs.Ytklhjlaofkngcaa.Px
namespace Go.Proofs.Ytklhjlaofkngcaa.Px
open Go.RowKit Go.Proofs.Ytklhjlaofkngcaa.Px Go.Proofs.YtklhjlaofkngcaaW.PrintWords Go.Proofs.YtklhjlaofkngcaaW.PrintLast Go.Proofs.YtklhjlaofkngcaaW.PrintMore
set_option linter.unusedVariables false
instance : Inhabited S72 := ⟨z72⟩
def zek : Rd S72 := zco 72 (Kd.pair (zaa 3 .i64).d (Kd.pair (zaa 3 .i64).d (zL 26 16 (zW 9)).d)) (fun x : S72 => (x.f0,x.f1,x.f2)) (fun y => (zaa 3 .i64).ok y.1 ∧ ((zaa 3 .i64).ok y.2.1 ∧ ((zL 26 16 (zW 9)).ok y.2.2))) (fun y => (zaa 3 .i64).wt y.1 ∧ ((zaa 3 .i64).wt y.2.1 ∧ ((zL 26 16 (zW 9)).wt y.2.2))) (fun y => (zaa 3 .i64).bk y.1 + ((zaa 3 .i64).bk y.2.1 + ((zL 26 16 (zW 9)).bk y.2.2)))
theorem fit72 : zdk Try.prog zek :=
 zb1 (zaE (o := 0) (o' := 1) (ok := fun (y : Int × (List ByteArray)) => (zaa 3 .i64).ok y.1 ∧ ((zL 26 16 (zW 9)).ok y.2)) (wt := fun (y : Int × (List ByteArray)) => (zaa 3 .i64).wt y.1 ∧ ((zL 26 16 (zW 9)).wt y.2)) (bk := fun (y : Int × (List ByteArray)) => (zaa 3 .i64).bk y.1 + ((zL 26 16 (zW 9)).bk y.2)) (zbG Try.underlying3) rfl rfl (by kernel_rfl) rfl (zaE (o := 1) (o' := 2) (ok := fun (y : (List ByteArray)) => (zL 26 16 (zW 9)).ok y) (wt := fun (y : (List ByteArray)) => (zL 26 16 (zW 9)).wt y) (bk := fun (y : (List ByteArray)) => (zL 26 16 (zW 9)).bk y) (zbG Try.underlying3) rfl rfl (by kernel_rfl) rfl (zb0 (zcM (zc5 Try.underlying9) Try.underlying26 (by kernel_rfl) (by kernel_rfl)) rfl rfl (by kernel_rfl)))) Try.underlying72 (by kernel_rfl) (fun x : S72 => (x.f0,x.f1,x.f2)) (fun y => ⟨y.1,y.2.1,y.2.2⟩) (fun _ => rfl)
instance : Inhabited S28 := ⟨z28⟩
def zcG : Rd S28 := zco 28 (Kd.pair (zaa 3 .i64).d (zaa 3 .i64).d) (fun x : S28 => (x.f0,x.f1)) (fun y => (zaa 3 .i64).ok y.1 ∧ ((zaa 3 .i64).ok y.2)) (fun y => (zaa 3 .i64).wt y.1 ∧ ((zaa 3 .i64).wt y.2)) (fun y => (zaa 3 .i64).bk y.1 + ((zaa 3 .i64).bk y.2))
theorem fit28 : zdk Try.prog zcG :=
 zb1 (zaE (o := 0) (o' := 1) (ok := fun (y : Int) => (zaa 3 .i64).ok y) (wt := fun (y : Int) => (zaa 3 .i64).wt y) (bk := fun (y : Int) => (zaa 3 .i64).bk y) (zbG Try.underlying3) rfl rfl (by kernel_rfl) rfl (zb0 (zbG Try.underlying3) rfl rfl (by kernel_rfl))) Try.underlying28 (by kernel_rfl) (fun x : S28 => (x.f0,x.f1)) (fun y => ⟨y.1,y.2⟩) (fun _ => rfl)
instance : Inhabited S30 := ⟨z30⟩
def zfM : Rd S30 := zco 30 (Kd.pair (zaa 3 .i64).d (Kd.pair (zaa 3 .i64).d (Kd.pair (zL 25 40 zek).d (Kd.pair (zL 26 16 (zW 9)).d zcG.d)))) (fun x : S30 => (x.f0,x.f1,x.f2,x.f3,x.f4)) (fun y => (zaa 3 .i64).ok y.1 ∧ ((zaa 3 .i64).ok y.2.1 ∧ ((zL 25 40 zek).ok y.2.2.1 ∧ ((zL 26 16 (zW 9)).ok y.2.2.2.1 ∧ (zcG.ok y.2.2.2.2))))) (fun y => (zaa 3 .i64).wt y.1 ∧ ((zaa 3 .i64).wt y.2.1 ∧ ((zL 25 40 zek).wt y.2.2.1 ∧ ((zL 26 16 (zW 9)).wt y.2.2.2.1 ∧ (zcG.wt y.2.2.2.2))))) (fun y => (zaa 3 .i64).bk y.1 + ((zaa 3 .i64).bk y.2.1 + ((zL 25 40 zek).bk y.2.2.1 + ((zL 26 16 (zW 9)).bk y.2.2.2.1 + (zcG.bk y.2.2.2.2)))))
theorem fit30 : zdk Try.prog zfM :=
 zb1 (zaE (o := 0) (o' := 1) (ok := fun (y : Int × (List S72) × (List ByteArray) × S28) => (zaa 3 .i64).ok y.1 ∧ ((zL 25 40 zek).ok y.2.1 ∧ ((zL 26 16 (zW 9)).ok y.2.2.1 ∧ (zcG.ok y.2.2.2)))) (wt := fun (y : Int × (List S72) × (List ByteArray) × S28) => (zaa 3 .i64).wt y.1 ∧ ((zL 25 40 zek).wt y.2.1 ∧ ((zL 26 16 (zW 9)).wt y.2.2.1 ∧ (zcG.wt y.2.2.2)))) (bk := fun (y : Int × (List S72) × (List ByteArray) × S28) => (zaa 3 .i64).bk y.1 + ((zL 25 40 zek).bk y.2.1 + ((zL 26 16 (zW 9)).bk y.2.2.1 + (zcG.bk y.2.2.2)))) (zbG Try.underlying3) rfl rfl (by kernel_rfl) rfl (zaE (o := 1) (o' := 2) (ok := fun (y : (List S72) × (List ByteArray) × S28) => (zL 25 40 zek).ok y.1 ∧ ((zL 26 16 (zW 9)).ok y.2.1 ∧ (zcG.ok y.2.2))) (wt := fun (y : (List S72) × (List ByteArray) × S28) => (zL 25 40 zek).wt y.1 ∧ ((zL 26 16 (zW 9)).wt y.2.1 ∧ (zcG.wt y.2.2))) (bk := fun (y : (List S72) × (List ByteArray) × S28) => (zL 25 40 zek).bk y.1 + ((zL 26 16 (zW 9)).bk y.2.1 + (zcG.bk y.2.2))) (zbG Try.underlying3) rfl rfl (by kernel_rfl) rfl (zaE (o := 2) (o' := 3) (ok := fun (y : (List ByteArray) × S28) => (zL 26 16 (zW 9)).ok y.1 ∧ (zcG.ok y.2)) (wt := fun (y : (List ByteArray) × S28) => (zL 26 16 (zW 9)).wt y.1 ∧ (zcG.wt y.2)) (bk := fun (y : (List ByteArray) × S28) => (zL 26 16 (zW 9)).bk y.1 + (zcG.bk y.2)) (zcM fit72 Try.underlying25 (by kernel_rfl) (by kernel_rfl)) rfl rfl (by kernel_rfl) rfl (zaE (o := 3) (o' := 4) (ok := fun (y : S28) => zcG.ok y) (wt := fun (y : S28) => zcG.wt y) (bk := fun (y : S28) => zcG.bk y) (zcM (zc5 Try.underlying9) Try.underlying26 (by kernel_rfl) (by kernel_rfl)) rfl rfl (by kernel_rfl) rfl (zb0 fit28 rfl rfl (by kernel_rfl)))))) Try.underlying30 (by kernel_rfl) (fun x : S30 => (x.f0,x.f1,x.f2,x.f3,x.f4)) (fun y => ⟨y.1,y.2.1,y.2.2.1,y.2.2.2.1,y.2.2.2.2⟩) (fun _ => rfl)
instance : Inhabited S36 := ⟨z36⟩
def zej : Rd S36 := zco 36 (Kd.pair (zW 9).d zfM.d) (fun x : S36 => (x.f0,x.f1)) (fun y => (zW 9).ok y.1 ∧ (zfM.ok y.2)) (fun y => (zW 9).wt y.1 ∧ (zfM.wt y.2)) (fun y => (zW 9).bk y.1 + (zfM.bk y.2))
theorem fit36 : zdk Try.prog zej :=
 zb1 (zaE (o := 0) (o' := 1) (ok := fun (y : S30) => zfM.ok y) (wt := fun (y : S30) => zfM.wt y) (bk := fun (y : S30) => zfM.bk y) (zc5 Try.underlying9) rfl rfl (by kernel_rfl) rfl (zb0 fit30 rfl rfl (by kernel_rfl))) Try.underlying36 (by kernel_rfl) (fun x : S36 => (x.f0,x.f1)) (fun y => ⟨y.1,y.2⟩) (fun _ => rfl)
instance : Inhabited S24 := ⟨z24⟩
def zis : Rd S24 := zco 24 (Kd.pair (zaa 3 .i64).d (Kd.pair (zaa 3 .i64).d (zL 22 96 zej).d)) (fun x : S24 => (x.f0,x.f1,x.f2)) (fun y => (zaa 3 .i64).ok y.1 ∧ ((zaa 3 .i64).ok y.2.1 ∧ ((zL 22 96 zej).ok y.2.2))) (fun y => (zaa 3 .i64).wt y.1 ∧ ((zaa 3 .i64).wt y.2.1 ∧ ((zL 22 96 zej).wt y.2.2))) (fun y => (zaa 3 .i64).bk y.1 + ((zaa 3 .i64).bk y.2.1 + ((zL 22 96 zej).bk y.2.2)))
theorem fit24 : zdk Try.prog zis :=
 zb1 (zaE (o := 0) (o' := 1) (ok := fun (y : Int × (List S36)) => (zaa 3 .i64).ok y.1 ∧ ((zL 22 96 zej).ok y.2)) (wt := fun (y : Int × (List S36)) => (zaa 3 .i64).wt y.1 ∧ ((zL 22 96 zej).wt y.2)) (bk := fun (y : Int × (List S36)) => (zaa 3 .i64).bk y.1 + ((zL 22 96 zej).bk y.2)) (zbG Try.underlying3) rfl rfl (by kernel_rfl) rfl (zaE (o := 1) (o' := 2) (ok := fun (y : (List S36)) => (zL 22 96 zej).ok y) (wt := fun (y : (List S36)) => (zL 22 96 zej).wt y) (bk := fun (y : (List S36)) => (zL 22 96 zej).bk y) (zbG Try.underlying3) rfl rfl (by kernel_rfl) rfl (zb0 (zcM fit36 Try.underlying22 (by kernel_rfl) (by kernel_rfl)) rfl rfl (by kernel_rfl)))) Try.underlying24 (by kernel_rfl) (fun x : S24 => (x.f0,x.f1,x.f2)) (fun y => ⟨y.1,y.2.1,y.2.2⟩) (fun _ => rfl)
def zbR : Prop := ∀ (a0 : S24) (a1 : Int) (a2 : Int),zis.ok a0 → (zaa 3 .i64).ok a1 → (zaa 3 .i64).ok a2 → zis.wt a0 → (zaa 3 .i64).wt a1 → (zaa 3 .i64).wt a2 → ∃ k,zf.f k (a0.f0) (a0.f1) (a0.f2) a1 a2 = some true
end Go.Proofs.Ytklhjlaofkngcaa.Px
namespace Go.Proofs.Ytklhjlaofkngcaa.Px
open Go.RowKit Go.Proofs.YtklhjlaofkngcaaW.PrintWords Go.Proofs.YtklhjlaofkngcaaW.PrintLast Go.Proofs.YtklhjlaofkngcaaW.PrintMore
attribute [local go_sem] zx zz zC zD zq zr zy zA
set_option linter.unusedVariables false
set_option linter.unusedSimpArgs false
def ahd (x y : Ent) : Prop := zaJ x.f1.f0 x.f1.f1 y.f1.f0 y.f1.f1 = true
theorem zb9 {x y : Ent} : ahd x y ↔ x.f1.f1 < y.f1.f1 ∨ x.f1.f1 = y.f1.f1 ∧ x.f1.f0 < y.f1.f0 := decide_eq_true_iff
def zeK (L : List Ent) : Prop := L.Pairwise ahd
theorem zcn {x y : Ent} : ∀ {L : List Ent},y ∈ zds L x ↔ y = x ∨ y ∈ L
 | [] => by simp [zds]
 | z :: L => by
  rw [zds]
  split
  ·simp
  ·rw [List.mem_cons,zcn,List.mem_cons]
   constructor
   ·rintro (h | h | h)
    ·exact .inr (.inl h)
    ·exact .inl h
    ·exact .inr (.inr h)
   ·rintro (h | h | h)
    ·exact .inr (.inl h)
    ·exact .inl h
    ·exact .inr (.inr h)
theorem zei {x : Ent} : ∀ {L : List Ent},zeK L → (∀ y ∈ L,¬ (y.f1.f0 = x.f1.f0 ∧ y.f1.f1 = x.f1.f1)) → zeK (zds L x)
 | [],_,_ => List.pairwise_singleton _ _
 | z :: L,h,hn => by
  rw [zds]
  have hz := hn z (List.mem_cons_self ..)
  rw [zeK,List.pairwise_cons] at h
  split
  ·next hx =>
   have hx' := (zb9 (x := x) (y := z)).1 hx
   rw [zeK,List.pairwise_cons]
   refine ⟨fun y hy => ?_,List.pairwise_cons.2 h⟩
   rcases List.mem_cons.1 hy with rfl | hy
   ·exact hx
   ·have := (zb9).1 (h.1 y hy)
    exact zb9.2 (by omega)
  ·next hx =>
   have hx' : ¬ (x.f1.f1 < z.f1.f1 ∨ x.f1.f1 = z.f1.f1 ∧ x.f1.f0 < z.f1.f0) := fun hc => hx ((zb9 (x := x) (y := z)).2 hc)
   rw [zeK,List.pairwise_cons]
   refine ⟨fun y hy => ?_,zei h.2 fun y hy => hn y (List.mem_cons_of_mem _ hy)⟩
   rcases zcn.1 hy with rfl | hy
   ·exact zb9.2 (by omega)
   ·exact h.1 y hy
theorem zgH : ∀ {L M : List Ent},zeK L → zeK M → (∀ x,x ∈ L ↔ x ∈ M) → L = M
 | [],[],_,_,_ => rfl
 | [],y :: M,_,_,h => absurd ((h y).2 (List.mem_cons_self ..)) List.not_mem_nil
 | x :: L,[],_,_,h => absurd ((h x).1 (List.mem_cons_self ..)) List.not_mem_nil
 | x :: L,y :: M,h1,h2,h => by
  rw [zeK,List.pairwise_cons] at h1 h2
  have irr : ∀ z : Ent,¬ ahd z z := fun z hz => by have := zb9.1 hz;omega
  have asym : ∀ a b : Ent,ahd a b → ¬ ahd b a := fun a b p q => by have := zb9.1 p;have := zb9.1 q;omega
  have hxy : x = y := by
   rcases List.mem_cons.1 ((h x).1 (List.mem_cons_self ..)) with e | e
   ·exact e
   ·rcases List.mem_cons.1 ((h y).2 (List.mem_cons_self ..)) with e2 | e2
    ·exact e2.symm
    ·exact absurd (h1.1 y e2) (asym _ _ (h2.1 x e))
  subst hxy
  rw [zgH h1.2 h2.2 fun z => ⟨fun hz => ?_,fun hz => ?_⟩]
  ·rcases List.mem_cons.1 ((h z).1 (List.mem_cons_of_mem _ hz)) with e | e
   ·subst e;exact absurd (h1.1 z hz) (irr z)
   ·exact e
  ·rcases List.mem_cons.1 ((h z).2 (List.mem_cons_of_mem _ hz)) with e | e
   ·subst e;exact absurd (h2.1 z hz) (irr z)
   ·exact e
def zdo (n : Int) (v : Vtx) : Ent := ⟨(zP v.f0 v.f1 v.f2 v.f3 v.f4.f0 v.f4.f1 n).1,v⟩
def zhe (n low : Int) (L : List Ent) (v : Vtx) : Int := zdN n low L v.f0 v.f1 v.f2 v.f3 v.f4.f0 v.f4.f1
def zgM (n low : Int) (L : List Ent) (v : Vtx) : List Ent := zgL n low L v.f0 v.f1 v.f2 v.f3 v.f4.f0 v.f4.f1
theorem zct {n low : Int} {L : List Ent} {v : Vtx} : zhe n low L v = 0 ↔ (zP v.f0 v.f1 v.f2 v.f3 v.f4.f0 v.f4.f1 n).2 = 0 ∧ low < v.f1 ∧ (∀ x ∈ L,x.f0 ≠ (zdo n v).f0) ∧ (∀ x ∈ L,¬ (x.f1.f0 = v.f0 ∧ x.f1.f1 = v.f1)) ∧ (zbp L low v.f1 v.f3).length = 0 := by
 unfold zhe zdN
 by_cases h1 : (zP v.f0 v.f1 v.f2 v.f3 v.f4.f0 v.f4.f1 n).2 = 0
 ·rw [if_neg (by simp [h1])]
  by_cases h2 : v.f1 ≤ low
  ·rw [if_pos h2];exact ⟨fun h => absurd h (by decide),fun h => absurd h.2.1 (by omega)⟩
  rw [if_neg h2]
  by_cases h3 : (zcW L (zP v.f0 v.f1 v.f2 v.f3 v.f4.f0 v.f4.f1 n).1).isSome = true
  ·rw [if_pos h3]
   refine ⟨fun h => absurd h (by decide),fun h => ?_⟩
   rw [zcW,List.find?_isSome] at h3
   obtain ⟨x,hx,h3⟩ := h3
   exact absurd (of_decide_eq_true h3) (h.2.2.1 x hx)
  rw [if_neg h3]
  by_cases h4 : (byE L v.f0 v.f1).isSome = true
  ·rw [if_pos h4]
   refine ⟨fun h => absurd h (by decide),fun h => ?_⟩
   rw [byE,List.find?_isSome] at h4
   obtain ⟨x,hx,h4⟩ := h4
   exact absurd (of_decide_eq_true h4) (h.2.2.2.1 x hx)
  rw [if_neg h4]
  by_cases h5 : 0 < (zbp L low v.f1 v.f3).length
  ·rw [if_pos h5];exact ⟨fun h => absurd h (by decide),fun h => absurd h.2.2.2.2 (by omega)⟩
  rw [if_neg h5]
  refine ⟨fun _ => ⟨h1,by omega,fun x hx he => h3 ?_,fun x hx he => h4 ?_,by omega⟩,fun _ => rfl⟩
  ·rw [zcW,List.find?_isSome];exact ⟨x,hx,decide_eq_true he⟩
  ·rw [byE,List.find?_isSome];exact ⟨x,hx,decide_eq_true he⟩
 ·rw [if_pos (by simp [h1])]
  exact ⟨fun h => absurd h h1,fun h => absurd h.1 h1⟩
theorem zdZ {n low : Int} {L : List Ent} {v : Vtx} (h : zhe n low L v = 0) : zgM n low L v = zds L (zdo n v) := if_pos h
theorem zid {n low : Int} {L : List Ent} {v : Vtx} (h : zhe n low L v ≠ 0) : zgM n low L v = L := if_neg h
theorem zgW {L M : List Ent} {low r : Int} {ps : List ByteArray} (h : (zbp L low r ps).length = 0) (hs : ∀ x ∈ L,x ∈ M) : (zbp M low r ps).length = 0 := by
 unfold zbp at h ⊢
 split
 ·rfl
 ·next hl =>
  rw [if_neg hl,List.length_eq_zero_iff,List.filter_eq_nil_iff] at h
  rw [List.length_eq_zero_iff,List.filter_eq_nil_iff]
  intro p hp
  have := h p hp
  simp only [Bool.not_eq_true',Bool.not_eq_false,List.any_eq_true] at this ⊢
  obtain ⟨x,hx,h2⟩ := this
  exact ⟨x,hs x hx,h2⟩
structure zcc (n : Int) (l : List Vtx) (A : Nat → List Ent) : Prop where
 zero : A 0 = []
 why : ∀ i (h : i < l.length),zhe n 0 (A i) l[i] = 0
 next : ∀ i (h : i < l.length),A (i + 1) = zgM n 0 (A i) l[i]
theorem zcc.mem {n : Int} {l : List Vtx} {A : Nat → List Ent} (h : zcc n l A) : ∀ i,i ≤ l.length → ∀ x,x ∈ A i ↔ ∃ (j : Nat) (hj : j < l.length),j < i ∧ x = zdo n l[j]
 | 0,_,x => by
  rw [h.zero]
  exact ⟨fun hx => absurd hx List.not_mem_nil,fun ⟨_,_,hj,_⟩ => absurd hj (Nat.not_lt_zero _)⟩
 | i + 1,hi,x => by
  rw [h.next i hi,zdZ (h.why i hi),zcn,h.mem i (by omega) x]
  constructor
  ·rintro (rfl | ⟨j,hj,h1,h2⟩)
   ·exact ⟨i,hi,by omega,rfl⟩
   ·exact ⟨j,hj,by omega,h2⟩
  ·rintro ⟨j,hj,h1,h2⟩
   rcases Nat.lt_succ_iff_lt_or_eq.1 h1 with h1 | h1
   ·exact .inr ⟨j,hj,h1,h2⟩
   ·subst h1;exact .inl h2
theorem zcc.srt {n : Int} {l : List Vtx} {A : Nat → List Ent} (h : zcc n l A) : ∀ i,i ≤ l.length → zeK (A i)
 | 0,_ => by rw [h.zero];exact List.Pairwise.nil
 | i + 1,hi => by
  rw [h.next i hi,zdZ (h.why i hi)]
  exact zei (h.srt i (by omega)) (zct.1 (h.why i hi)).2.2.2.1
theorem zcc.apart {n : Int} {l : List Vtx} {A : Nat → List Ent} (h : zcc n l A) (i j : Nat) (hi : i < l.length) (hj : j < i) : (zdo n l[j]).f0 ≠ (zdo n l[i]).f0 ∧ ¬ (l[j].f0 = l[i].f0 ∧ l[j].f1 = l[i].f1) := by
 obtain ⟨_,_,h3,h4,_⟩ := zct.1 (h.why i hi)
 have hm := (h.mem i (by omega) (zdo n l[j])).2 ⟨j,by omega,hj,rfl⟩
 exact ⟨h3 _ hm,h4 _ hm⟩
theorem zcc.one {n : Int} {l : List Vtx} {A : Nat → List Ent} (h : zcc n l A) (i j : Nat) (hi : i < l.length) (hj : j < l.length) (he : (zdo n l[j]).f0 = (zdo n l[i]).f0 ∨ (l[j].f0 = l[i].f0 ∧ l[j].f1 = l[i].f1)) : i = j := by
 rcases Nat.lt_trichotomy i j with hl | hl | hl
 ·have := h.apart j i hj hl
  rcases he with he | he
  ·exact absurd he.symm this.1
  ·exact absurd ⟨he.1.symm,he.2.symm⟩ this.2
 ·exact hl
 ·have := h.apart i j hi hl
  rcases he with he | he
  ·exact absurd he this.1
  ·exact absurd he this.2
structure zfw (n : Int) (l : List Vtx) (B : List Ent) : Prop where
 srt : zeK B
 mem : ∀ x ∈ B,∃ (j : Nat) (hj : j < l.length),x = zdo n l[j]
theorem zfw.step {n : Int} {l : List Vtx} {A : Nat → List Ent} {B : List Ent} (h : zcc n l A) (hB : zfw n l B) (i : Nat) (hi : i < l.length) : zfw n l (zgM n 0 B l[i]) ∧ (∀ x ∈ B,x ∈ zgM n 0 B l[i]) ∧ ((∀ (j : Nat) (hj : j < l.length),j < i → zdo n l[j] ∈ B) → zdo n l[i] ∈ zgM n 0 B l[i]) := by
 by_cases hw : zhe n 0 B l[i] = 0
 ·rw [zdZ hw]
  refine ⟨⟨zei hB.srt (zct.1 hw).2.2.2.1,fun x hx => ?_⟩,fun x hx => zcn.2 (.inr hx),fun _ => zcn.2 (.inl rfl)⟩
  rcases zcn.1 hx with rfl | hx
  ·exact ⟨i,hi,rfl⟩
  ·exact hB.mem x hx
 ·rw [zid hw]
  refine ⟨hB,fun x hx => hx,fun hj => ?_⟩
  by_cases hin : zdo n l[i] ∈ B
  ·exact hin
  ·exfalso
   refine hw (zct.2 ?_)
   obtain ⟨h1,h2,_,_,h5⟩ := zct.1 (h.why i hi)
   refine ⟨h1,h2,fun x hx he => ?_,fun x hx he => ?_,zgW h5 fun x hx => ?_⟩
   ·obtain ⟨j,hj',rfl⟩ := hB.mem x hx
    have := h.one i j hi hj' (.inl he)
    subst this
    exact hin hx
   ·obtain ⟨j,hj',rfl⟩ := hB.mem x hx
    have := h.one i j hi hj' (.inr he)
    subst this
    exact hin hx
   ·obtain ⟨j,hj',hji,rfl⟩ := (h.mem i (by omega) x).1 hx
    exact hj j hj' hji
theorem zfw.all {n : Int} {l : List Vtx} {A : Nat → List Ent} {B : List Ent} (h : zcc n l A) (hB : zfw n l B) (hm : ∀ (j : Nat) (hj : j < l.length),zdo n l[j] ∈ B) : A l.length = B :=
 zgH (h.srt _ (Nat.le_refl _)) hB.srt fun x => ⟨fun hx => by obtain ⟨j,hj,_,rfl⟩ := (h.mem _ (Nat.le_refl _) x).1 hx;exact hm j hj,fun hx => by obtain ⟨j,hj,rfl⟩ := hB.mem x hx;exact (h.mem _ (Nat.le_refl _) _).2 ⟨j,hj,hj,rfl⟩⟩
theorem zf5 (L : List Ent) (a b : Int) : zaQ (zaQ L a) b = zaQ L (if a < b then b else a) := by
 unfold zaQ
 rw [List.filter_filter]
 refine List.filter_congr fun x _ => ?_
 split <;> · rw [Bool.eq_iff_iff];simp only [Bool.and_eq_true,decide_eq_true_eq];omega
def selvedgeref11_Right.B12 : List Nat := [0,1,3,7,15,7,39,127,255,511,7,1031,4095,8191,16383]
theorem zdt (l : List Ent) (j : Nat) (h : j < l.length) : ze l (j : Int) = l[j] := by
 rw [ze,Int.toNat_natCast,List.getD_eq_getElem?_getD,List.getElem?_eq_getElem h];rfl
structure zh7 (x : Ent) : Prop where
 bs : x.f1.f2.length < 4611686018427387904
 tx : ∀ b ∈ x.f1.f2,b.f2.length < 4611686018427387904
 ps : x.f1.f3.length ≤ 8796093022208
 t : ∀ t ∈ x.f1.f3,t.size < 4611686018427387904
instance decEnt : DecidableEq Ent := fun a b => decidable_of_iff (a.f0 = b.f0 ∧ zcr a.f1.f0 a.f1.f1 a.f1.f2 a.f1.f3 a.f1.f4.f0 a.f1.f4.f1 b.f1.f0 b.f1.f1 b.f1.f2 b.f1.f3 b.f1.f4.f0 b.f1.f4.f1 = true) ⟨fun ⟨h0,h1⟩ => by
  rw [zbX] at h1
  obtain ⟨a0,⟨a1,a2,a3,a4,⟨a5,a6⟩⟩⟩ := a;obtain ⟨b0,⟨b1,b2,b3,b4,⟨b5,b6⟩⟩⟩ := b
  simp only at h0 h1
  obtain ⟨rfl,rfl,rfl,rfl,rfl,rfl⟩ := h1
  rw [h0],fun h => by rw [h,zbX];exact ⟨rfl,rfl,rfl,rfl,rfl,rfl,rfl⟩⟩
theorem zdH (a b : List Ent) (hl : a.length = b.length) (ha : a.length < 4611686018427387904) (hs : ∀ x ∈ a,zh7 x) (d : Nat) : ∀ j,j + d = a.length →
  Ev (fun k => zh.l0 k a b (j : Int)) (decide (a.drop j = b.drop j)) := by
 induction d with
 | zero =>
  intro j hj
  refine Ev.step (fun k => by rw [zh.l0]) ?_
  refine zao (by omega) (zax (Ev.now _) ?_)
  rw [List.drop_eq_nil_of_le (by omega),List.drop_eq_nil_of_le (by omega)];rfl
 | succ d ih =>
  intro j hj
  refine Ev.step (fun k => by rw [zh.l0]) ?_
  have h1 : j < a.length := by omega
  have h2 : j < b.length := by omega
  refine zU (by omega) (zU (by omega) (zU (by omega) ?_))
  have hf := hs _ (List.getElem_mem h1)
  have hps := hf.ps
  rw [zdt a j h1,zdt b j h2,List.drop_eq_getElem_cons h1,List.drop_eq_getElem_cons h2,zaB (by omega) (by omega)]
  refine Ev.bind (zdv _ _ _ _ _ _ _ _ _ _ _ _ hf.bs hf.tx (by omega)) ?_
  by_cases h : a[j] = b[j]
  ·refine zU (by rw [h,zbX];exact ⟨rfl,rfl,rfl,rfl,rfl,rfl⟩) (zU (by rw [h]) (zax (ih (j + 1) (by omega)) ?_))
   rw [h];exact decide_eq_decide.2 ⟨fun h => by rw [h],fun h => (List.cons.inj h).2⟩
  ·have hno : decide (a[j] :: a.drop (j + 1) = b[j] :: b.drop (j + 1)) = false := decide_eq_false (fun e => h (List.cons.inj e).1)
   rw [hno]
   by_cases hv : zcr a[j].f1.f0 a[j].f1.f1 a[j].f1.f2 a[j].f1.f3 a[j].f1.f4.f0 a[j].f1.f4.f1 b[j].f1.f0 b[j].f1.f1 b[j].f1.f2 b[j].f1.f3 b[j].f1.f4.f0 b[j].f1.f4.f1 = true
   ·refine zU hv (zao (fun e => h ?_) (Ev.now _))
    rw [zcf] at e
    rw [zbX] at hv
    generalize a[j] = p at *
    generalize b[j] = q at *
    obtain ⟨a0,⟨a1,a2,a3,a4,⟨a5,a6⟩⟩⟩ := p;obtain ⟨b0,⟨b1,b2,b3,b4,⟨b5,b6⟩⟩⟩ := q
    simp only at e hv
    obtain ⟨rfl,rfl,rfl,rfl,rfl,rfl⟩ := hv
    rw [e]
   ·exact zao hv (Ev.now _)
theorem zeH (a b : List Ent) (ha : a.length < 4611686018427387904) (hs : ∀ x ∈ a,zh7 x) : Ev (fun k => zh.f k a b) (decide (a = b)) := by
 by_cases h : a.length = b.length
 ·exact zU (by omega) (zdH a b h ha hs a.length 0 (by omega))
 ·refine zao (by omega) (zax (Ev.now _) ?_)
  have : ¬ a = b := fun e => h (by rw [e])
  simp [this]
theorem zeG (n lo : Int) (L : List Ent) (n' lo' : Int) (M : List Ent) (ha : L.length < 4611686018427387904) (hs : ∀ x ∈ L,zh7 x) : Ev (fun k => zaj.f k n lo L n' lo' M) (decide (L = M ∧ n = n' ∧ lo = lo')) := by
 refine Ev.bind (zeH L M ha hs) ?_
 by_cases h1 : L = M
 ·refine zU (decide_eq_true h1) ?_
  by_cases h2 : n = n'
  ·refine zU h2 (zax (Ev.now _) ?_)
   by_cases h3 : lo = lo' <;> simp [h1,h2,h3]
  ·exact zao h2 (zax (Ev.now _) (by simp [h2]))
 ·exact zao (by simp [h1]) (zax (Ev.now _) (by simp [h1]))
def zfh (n lo : Int) (L : List Ent) : Nat → Nat → Bool
 | 0,_ => true
 | d + 1,j => okE n lo L j (L.getD j z36) && zfh n lo L d (j + 1)
theorem zeg (n lo : Int) (L : List Ent) : ∀ d j : Nat,zfh n lo L d j = (List.range' j d).all fun i => okE n lo L i (L.getD i z36)
 | 0,_ => rfl
 | d + 1,j => by rw [zfh,zeg n lo L d (j + 1),List.range'_succ,List.all_cons]
theorem zfO (n lo : Int) (L : List Ent) : zbt n lo L = (zc6 n && decide (0 ≤ lo) && zfh n lo L L.length 0) := by
 rw [zbt,zeg,List.range_eq_range']
theorem zcI : (zP 2 1 [] [] 0 0 4).2 = 0 := by
 rw [zP,if_pos]
 rw [zcE]
 simp [zck,zed,zbq]
theorem zfr {a r : Int} {bs : List S72} {ps : List ByteArray} {x y n : Int} (h : (zP a r bs ps x y n).2 = 0) : (zP a r bs ps x y n).1.size = 32 := by
 unfold zP at h ⊢
 split
 ·exact zg7 _
 ·next hm => rw [if_neg hm] at h;cases h
theorem zgp : zak.f = some true := by
 have hz := zfr zcI
 have hv := zcI
 have w1 : wrap64 (1 - 1) ≤ 0 := by rw [zaB (by decide) (by decide)];decide
 have l1 : ∀ L : List Ent,zbp L 0 1 [] = [] := fun L => if_pos w1
 have y1 : zdN 4 0 [] 2 1 [] [] 0 0 = 0 := by
  unfold zdN
  rw [if_neg (by simp [hv]),if_neg (by decide),if_neg (by simp [zcW]),if_neg (by simp [byE]),l1,if_neg (by simp)]
 have a1 : z9.f 4 0 ([] : List Ent) 2 1 [] [] 0 0 = some (4,0,[⟨(zP 2 1 [] [] 0 0 4).1,⟨2,1,[],[],⟨0,0⟩⟩⟩],0) := by
  unfold z9.f
  rw [if_pos (by simp),y1,zgL,if_pos y1];rfl
 have y2 : zdN 4 0 [⟨(zP 2 1 [] [] 0 0 4).1,⟨2,1,[],[],⟨0,0⟩⟩⟩] 2 1 [] [] 0 0 = 8 := by
  unfold zdN
  rw [if_neg (by simp [hv]),if_neg (by decide),if_pos (by simp [zcW])]
 have a2 : z9.f 4 0 [⟨(zP 2 1 [] [] 0 0 4).1,⟨2,1,[],[],⟨0,0⟩⟩⟩] 2 1 [] [] 0 0 = some (4,0,[⟨(zP 2 1 [] [] 0 0 4).1,⟨2,1,[],[],⟨0,0⟩⟩⟩],8) := by
  unfold z9.f
  rw [if_pos (by simp),y2,zgL,if_neg (by rw [y2];decide)]
 have r1 : zbt 4 0 [⟨(zP 2 1 [] [] 0 0 4).1,⟨2,1,[],[],⟨0,0⟩⟩⟩] = true := by
  rw [zfO]
  show (zc6 4 && decide ((0 : Int) ≤ 0) && (okE 4 0 _ 0 _ && true)) = true
  unfold okE
  simp [hv,l1,zck,List.getD]
 unfold zak.f
 rw [a1]
 simp only [Option.bind_some]
 rw [a2]
 simp only [Option.bind_some,if_true,List.length_cons,List.length_nil]
 have e0 : ze [(⟨(zP 2 1 [] [] 0 0 4).1,⟨2,1,[],[],⟨0,0⟩⟩⟩ : Ent)] 0 = ⟨(zP 2 1 [] [] 0 0 4).1,⟨2,1,[],[],⟨0,0⟩⟩⟩ := rfl
 rw [e0]
 rw [if_pos (by decide),if_pos (by decide),if_pos (by show ((zP 2 1 [] [] 0 0 4).1.size : Int) = 32;omega)]
 unfold zah.f
 rw [if_pos (by simp),r1];rfl
end Go.Proofs.Ytklhjlaofkngcaa.Px
namespace Go.Proofs.Ytklhjlaofkngcaa.Pure
open Go.RowKit Go.Proofs.Ytklhjlaofkngcaa.Px Go.Proofs.YtklhjlaofkngcaaW.PrintWords Go.Proofs.YtklhjlaofkngcaaW.PrintLast Go.Proofs.YtklhjlaofkngcaaW.PrintMore
def zcT (n lo : Int) (L : List Ent) (x : Int) : Int × Int × List Ent := if x ≤ lo then (n,lo,L) else (n,x,zaQ L x)
theorem zf6 {n lo : Int} {L : List Ent} (hL : L.length < 1466015503701) (x : Int) : zG.f n lo L x = some (zcT n lo L x) := if_pos hL
theorem zfC (n lo : Int) (L : List Ent) (x : Int) : (zcT n lo L x).2.2.length ≤ L.length := by
 unfold zcT;split
 ·exact Nat.le_refl _
 ·exact List.length_filter_le _ _
theorem zhn {n lo : Int} {L : List Ent} {x : Int} {e : Ent} (h : e ∈ (zcT n lo L x).2.2) : e ∈ L := by
 unfold zcT at h;split at h
 ·exact h
 ·exact (List.mem_filter.1 h).1
theorem zho (n lo : Int) (L : List Ent) (a b : Int) : zcT (zcT n lo L a).1 (zcT n lo L a).2.1 (zcT n lo L a).2.2 b = zcT n lo L (if b > a then b else a) := by
 by_cases h1 : a ≤ lo
 ·rw [show zcT n lo L a = (n,lo,L) from if_pos h1]
  by_cases h2 : b > a
  ·rw [if_pos h2]
  ·rw [if_neg h2,show zcT n lo L a = (n,lo,L) from if_pos h1]
   exact if_pos (by show b ≤ lo;omega)
 ·rw [show zcT n lo L a = (n,a,zaQ L a) from if_neg h1]
  by_cases h2 : b > a
  ·rw [if_pos h2,show zcT n lo L b = (n,b,zaQ L b) from if_neg (by omega)]
   refine (if_neg (by show ¬ b ≤ a;omega)).trans ?_
   rw [show zaQ L b = zaQ (zaQ L a) b from by rw [zf5,if_pos (by omega)]]
  ·rw [if_neg h2,show zcT n lo L a = (n,a,zaQ L a) from if_neg h1]
   exact if_pos (by show b ≤ a;omega)
theorem zeA (m n lo : Int) (L : List Ent) (hL : L.length < 1466015503701) (kn kl : Int) (KL : List Ent) (d : Nat) : ∀ j cnt : Nat,j + d = L.length → cnt ≤ j →
  Ev (fun k => zf.l0 k m true (cnt : Int) (j : Int) n lo L kn kl KL) (decide (m ≤ lo) || decide (KL.length = cnt + (zaQ (L.drop j) kl).length)) := by
 induction d with
 | zero =>
  intro j cnt hj hc
  refine Ev.step (fun k => by rw [zf.l0]) ?_
  refine zao (by omega) (zU rfl ?_)
  rw [List.drop_eq_nil_of_le (by omega)]
  by_cases h : m ≤ lo
  ·exact zU h (zax (Ev.now _) (by simp [h]))
  ·refine zao h (zax (Ev.now _) ?_)
   by_cases h2 : KL.length = cnt
   ·simp [zaQ,h2]
   ·rw [beq_eq_false_iff_ne.2 (by omega)]
    simp [zaQ,h,h2]
 | succ d ih =>
  intro j cnt hj hc
  refine Ev.step (fun k => by rw [zf.l0]) ?_
  have h1 : j < L.length := by omega
  refine zU (by omega) (zU (by omega) ?_)
  rw [zdt L j h1,zaB (x := (j : Int) + 1) (by omega) (by omega),zaB (x := (cnt : Int) + 1) (by omega) (by omega),List.drop_eq_getElem_cons h1,zaQ,List.filter_cons]
  by_cases h : L[j].f1.f1 > kl
  ·refine zU h (zax (ih (j + 1) (cnt + 1) (by omega) (by omega)) ?_)
   rw [if_pos (decide_eq_true (show kl < L[j].f1.f1 from h)),List.length_cons,zaQ]
   congr 1
   exact decide_eq_decide.2 (by omega)
  ·refine zao h (zax (ih (j + 1) cnt (by omega) (by omega)) ?_)
   rw [if_neg (by simpa using h),zaQ]
theorem DagDrops : zbR := by
 rintro ⟨n,lo,L⟩ a b _ _ _ ⟨_,_,⟨l1,l2⟩⟩ _ _
 have hL : L.length < 1466015503701 := by have : L.length * 96 ≤ 140737488351232 := l1;omega
 have hs : ∀ x ∈ L,zh7 x := fun x hx => by
  obtain ⟨_,_,_,⟨v1,v2⟩,⟨p1,p2⟩,_⟩ := l2 x hx
  have v1' : x.f1.f2.length * 40 ≤ 140737488351232 := v1
  have p1' : x.f1.f3.length * 16 ≤ 140737488351232 := p1
  refine ⟨by omega,fun b hb => ?_,by omega,fun t ht => ?_⟩
  ·obtain ⟨_,_,q1,_⟩ := v2 b hb
   have q1' : b.f2.length * 16 ≤ 140737488351232 := q1
   omega
  ·have t1 : t.size ≤ 140737488351232 := p2 t ht
   omega
 have key : ∀ m,m = (if b > a then b else a) → Ev (fun k => zf.j1 k a b m n lo L) true := by
  intro m hm
  refine Ev.step (fun k => by rw [zf.j1]) ?_
  refine za0 (zf6 hL m) (za0 (zf6 hL a) (za0 (zf6 (Nat.lt_of_le_of_lt (zfC n lo L a) hL) b) ?_))
  rw [zho,← hm]
  refine Ev.bind (zeG _ _ _ _ _ _ (by have := zfC n lo L m;omega) (fun x hx => hs x (zhn hx))) ?_
  rw [decide_eq_true ⟨rfl,rfl,rfl⟩]
  refine zax (zeA m n lo L hL _ _ _ L.length 0 0 (by omega) (by omega)) ?_
  rw [List.drop_zero]
  by_cases h : m ≤ lo
  ·simp [h]
  ·rw [show zcT n lo L m = (n,m,zaQ L m) from if_neg h]
   simp
 refine Ev.rounds (za0 zgp (za0 rfl (zU rfl ?_)))
 refine Ev.step (fun k => by rw [zf.j0]) ?_
 by_cases hf : (L.length : Int) ≤ 60
 ·refine zao (by simp [hf]) ?_
  by_cases h : b > a
  ·exact zU h (key b (if_pos h).symm)
  ·exact zao h (key a (if_neg h).symm)
 ·exact zU (by simp [hf]) (Ev.now _)
end Go.Proofs.Ytklhjlaofkngcaa.Pure
namespace Go.Proofs.Ytklhjlaofkngcaa.dagDrops
open Go.ChangeShapes Go.WideShapes Go.ChangeAt Go.RowKit
open Go.ChangeMaps (open_string shut_string)
open Go.RowKit Go.Proofs.Ytklhjlaofkngcaa.Px Go.Proofs.YtklhjlaofkngcaaW.PrintWords Go.Proofs.YtklhjlaofkngcaaW.PrintLast Go.Proofs.YtklhjlaofkngcaaW.PrintMore
set_option linter.unusedVariables false
theorem own : ownKnob Try.prog.godebug = none := by kernel_rfl
theorem laidOut : laidOutB Try.prog = true := by kernel_rfl
set_option maxRecDepth 100000 in
theorem contract (H : Type) (enc : TypeId × Value → H) (W : World) (base : Nat) (args : Array Value) (ds gs : List (DataW H)) (before : List MemPlace)
  (hval0 : ∀ (j : Nat) t v,Try.f7.params[j]? = some t → args[j]? = some v → Value.okWide Try.prog W .any base t v)
  (hW : DataW.Whole enc Try.prog Try.f7.params.toList Rows.dagDropsSpec.vars false W args.toList ds gs before)
  (hsz0 : (DataW.weightsEach Try.prog (Try.f7.params.toList ++ Rows.dagDropsSpec.plain.varTypes Try.prog) (ds ++ gs)).all (· ≤ reachBytes) = true) :
  Calls Try.prog 7 args W fun e W' => ∃ v,e = .returned v ∧ Rows.dagDropsSpec.post enc Try.prog Try.f7 false true false false W args v W' := by
 have hval : ∀ (j : Nat) t v,Try.f7.params[j]? = some t → args[j]? = some v → Value.okWide Try.prog W .any base t v := hval0
 have hW' := hW
 obtain ⟨p,q,hA0,hV,rfl,hfz,hnd⟩ := hW
 have hA : DataW.TrodAll enc Try.prog W 0 (fun _ => true) true Try.f7.params.toList args.toList ds p := hA0
 have hsz := hsz0
 rw [Try.params7] at hA hval hsz
 obtain ⟨v0,vs0,d0,ds0,p0,q0,hargs,rfl,rfl,h0,r0⟩ := trodAll_cons hA
 obtain ⟨v1,vs1,d1,ds1,p1,q1,rfl,rfl,rfl,h1,r1⟩ := trodAll_cons r0
 obtain ⟨v2,vs2,d2,ds2,p2,q2,rfl,rfl,rfl,h2,r2⟩ := trodAll_cons r1
 obtain ⟨rfl,rfl,rfl⟩ := trodAll_nil r2
 obtain rfl : args = #[v0,v1,v2] := by cases args;simp_all
 obtain ⟨rfl,rfl⟩ := trodVars_none hV
 have t0 := h0
 have lt0 : ∀ x ∈ p0,x.block < W.heap.size := by obtain ⟨m,hm⟩ := t0;exact DataW.trod_lt m _ _ _ hm
 have t1 := h1
 have lt1 : ∀ x ∈ p1,x.block < W.heap.size := by obtain ⟨m,hm⟩ := t1;exact DataW.trod_lt m _ _ _ hm
 have t2 := h2
 have lt2 : ∀ x ∈ p2,x.block < W.heap.size := by obtain ⟨m,hm⟩ := t2;exact DataW.trod_lt m _ _ _ hm
 obtain ⟨a0,K0,ok0,wt0,bk0⟩ := zfa fit24 h0
 have wq0 := wt0 (fun n hn => of_decide_eq_true (List.all_eq_true.1 hsz n (DataW.weights_mem_each (j := 0) (t := zis.t) (d := d0) rfl rfl n hn)))
 obtain ⟨cs0,rfl,sz0⟩ := okWide_struct Try.underlying24 (hval 0 24 v0 rfl rfl)
 obtain ⟨A0_2,c0_2,e0,l0_2,g0_2⟩ := zhz (show k24.K W a0 _ from K0)
 obtain rfl : cs0 = #[.int .i64 a0.f0,.int .i64 a0.f1,.slice A0_2 a0.f2.length c0_2] := by have := congrArg List.toArray e0;simpa [Value.cells] using this
 obtain ⟨a1,K1,ok1,wt1,bk1⟩ := zfa (zbG Try.underlying3) h1
 have wq1 := wt1 (fun n hn => of_decide_eq_true (List.all_eq_true.1 hsz n (DataW.weights_mem_each (j := 1) (t := (zaa 3 .i64).t) (d := d1) rfl rfl n hn)))
 obtain ⟨a1',rfl,rfl,rfl,y1⟩ := open_int Try.underlying3 (hval 1 3 v1 rfl rfl) h1
 have e1 : a1' = a1 := by have := K1;simpa [zaa,zhR,zW,Kd.int,Kd.bool,Kd.string,Kd.scalar,Value.cells] using this
 subst e1
 obtain ⟨a2,K2,ok2,wt2,bk2⟩ := zfa (zbG Try.underlying3) h2
 have wq2 := wt2 (fun n hn => of_decide_eq_true (List.all_eq_true.1 hsz n (DataW.weights_mem_each (j := 2) (t := (zaa 3 .i64).t) (d := d2) rfl rfl n hn)))
 obtain ⟨a2',rfl,rfl,rfl,y2⟩ := open_int Try.underlying3 (hval 2 3 v2 rfl rfl) h2
 have e2 : a2' = a2 := by have := K2;simpa [zaa,zhR,zW,Kd.int,Kd.bool,Kd.string,Kd.scalar,Value.cells] using this
 subst e2
 obtain ⟨kk,hkk⟩ := Pure.DagDrops a0 a1' a2' ok0 ok1 ok2 wq0 wq1 wq2
 refine (zf.calls kk (a0.f0) (a0.f1) A0_2 c0_2 (a0.f2) a1' a2' true W g0_2 l0_2 hkk).mono fun e W' ⟨he,bel0⟩ => ?_
 have bel := bel0
 subst he
 exact ⟨_,rfl,_,_,_,[],_,[],hW',trodAll_mk1 (shut_bool Try.underlying4 _),(trodAll_cons_mk (Below.trod laidOut (by kernel_rfl) (of_decide_eq_true (by kernel_rfl)) t0 bel lt0) (trodAll_cons_mk (Below.trod laidOut (by kernel_rfl) (of_decide_eq_true (by kernel_rfl)) t1 bel lt1) (trodAll_cons_mk (Below.trod laidOut (by kernel_rfl) (of_decide_eq_true (by kernel_rfl)) t2 bel lt2) trodAll_mk0))),rfl,bel.frame _,fun h => by cases h⟩
set_option maxRecDepth 100000 in
theorem lifted (os : Os) (started : os.Started) (H : Type) (enc : TypeId × Value → H) :
  ReturnsInHanded {} Try.checked os 7 .any (Rows.dagDropsSpec.pre6 enc Try.prog Try.f7 Rows.dagDropsRow.domain false) (Rows.dagDropsSpec.post enc Try.prog Try.f7 false true false false) := by
 refine returnsInHanded_of_change_sized (C := Try.checked) own started (by kernel_rfl) Try.func7
  (ChangeSpec.witness6 (enc := enc) (C := Try.checked) false ⟨#[],#[.agg #[.int .i64 0,.int .i64 0,.slice none 0 0],.int .i64 0,.int .i64 0],[]⟩ 8 (by kernel_rfl) (by kernel_rfl) (by kernel_rfl) (by kernel_rfl)) ?_
 intro W base args ds gs before hval hW _ hsz _
 exact contract H enc W base args ds gs before hval hW hsz
theorem proved : Rows.DagDropsSaid :=
 OpenClaim.holds_of_wide 7 Try.f7 rfl rfl rfl rfl rfl rfl rfl ⟨rfl,rfl,rfl,rfl,rfl⟩ rfl rfl rfl rfl rfl (by kernel_rfl) Try.func7 (by kernel_rfl)
  (of_decide_eq_true (by kernel_rfl)) (by unfold Func.isWrapper;first | (rw [if_pos (by decide +kernel)];kernel_rfl) | (rw [if_neg (by decide +kernel)];exact ⟨rfl,rfl⟩))
  (fun os started H enc _ => lifted os started H enc)
#print axioms proved
end Go.Proofs.Ytklhjlaofkngcaa.dagDrops
namespace Go.Proofs.Ytklhjlaofkngcaa
theorem dagDrops_holds : Rows.DagDropsSaid := dagDrops.proved
end Go.Proofs.Ytklhjlaofkngcaa