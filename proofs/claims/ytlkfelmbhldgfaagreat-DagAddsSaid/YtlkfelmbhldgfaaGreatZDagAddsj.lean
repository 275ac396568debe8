/- Part 36 of 36 of the proof of the law DagAdds: what is proved is the statement at the end of the last part; its conditions are those of the given row. -/
import Derived.Test.YtlkfelmbhldgfaaGreatRows
import Derived.Deep.Slices
import Derived.ChangeArms
import Derived.SizedLaws
import Derived.WideOpen
import Derived.ProofKit
import Derived.OpenShut
import Derived.ShutString
import Derived.ChangeOld
import Derived.JoinedCond
import Derived.Carry
import Derived.WideShapes
import Derived.Test.YtlkfelmbhldgfaaGreatZDagAddsi
namespace Go.Proofs.YtlkfelmbhldgfaaGreat.Px
open Go.RowKit Go.Proofs.YtlkfelmbhldgfaaGreatW.PrintWords Go.Proofs.YtlkfelmbhldgfaaGreatW.PrintLast Go.Proofs.YtlkfelmbhldgfaaGreatW.PrintMore
attribute [local go_sem] zA zC zH zI zv zw zB zD
set_option linter.unusedVariables false
set_option linter.unusedSimpArgs false
structure Rd (α : Type) where
 t : TypeId
 d : Kd α
 ok : α → Prop
 wt : α → Prop
 bk : α → Nat
structure zeQ {α : Type} (P : Program) (r : Rd α) : Prop where
 out : ∀ {H : Type} {enc : TypeId × Value → H} {w : World} {fuel : Nat} {cs : List Value} {x : DataW H × List MemPlace},DataW.trod enc P w 0 (fun _ => true) true fuel r.t cs = some x →
  ∃ a,r.d.K w a cs ∧ r.ok a ∧ ((∀ n ∈ x.1.weights P r.t,n ≤ reachBytes) → r.wt a) ∧ r.bk a ≤ Rows.uptoBulk x.1
def zaK (t : TypeId) (k : IntKind) : Rd Int := ⟨t,Kd.int k,fun a => (Lit.int k a).wf = true,fun _ => True,fun _ => 1⟩
def rdBool (t : TypeId) : Rd Bool := ⟨t,Kd.bool,fun _ => True,fun _ => True,fun _ => 1⟩
def zav (t : TypeId) : Rd ByteArray := ⟨t,Kd.string,fun a => a.size ≤ maxLen,fun a => a.size ≤ reachBytes,fun a => a.size + 1⟩
def zag {α : Type} (t : TypeId) (B : Nat) (r : Rd α) : Rd (List α) :=
 ⟨t,Kd.slice r.t r.d,fun l => l.length ≤ maxLen ∧ ∀ a ∈ l,r.ok a,fun l => l.length * B ≤ reachBytes ∧ ∀ a ∈ l,r.wt a,fun l => (l.map r.bk).sum + 1⟩
section
variable {P : Program}
theorem zcM {t : TypeId} {k : IntKind} (h : P.underlying t = some (.int k)) : zeQ P (zaK t k) := by
 constructor
 intro H enc w fuel cs x hx
 obtain ⟨n,rfl,rfl,hw⟩ := DataW.trod_int h hx
 exact ⟨n,rfl,hw,fun _ => trivial,by simp [zaK,Rows.uptoBulk]⟩
theorem zem {t : TypeId} (h : P.underlying t = some .string) : zeQ P (zav t) := by
 constructor
 intro H enc w fuel cs x hx
 obtain ⟨s,rfl,rfl,hs⟩ := DataW.trod_string h hx
 have e : s.data.toList.length = s.size := by rw [Array.length_toList];rfl
 refine ⟨s,rfl,hs,fun hn => ?_,by simp only [zav,Rows.uptoBulk,e];exact Nat.le_refl _⟩
 have := hn s.data.toList.length (by simp [DataW.weights])
 rwa [e] at this
theorem zhn {H α : Type} (f : Nat → DataW H) (g : Nat → α) (bk : α → Nat) (n : Nat) (h : ∀ i,i < n → bk (g i) ≤ Rows.uptoBulk (f i)) : (((List.range n).map g).map bk).sum ≤ Rows.uptoBulkAll ((List.range n).map f) := by
 suffices k : ∀ l : List Nat,(∀ i ∈ l,i < n) → ((l.map g).map bk).sum ≤ Rows.uptoBulkAll (l.map f) from k _ (fun i hi => List.mem_range.1 hi)
 intro l
 induction l with
 | nil => intro _;simp
 | cons i l ih =>
  intro hl
  have h1 := h i (hl i List.mem_cons_self)
  have h2 := ih (fun j hj => hl j (List.mem_cons_of_mem _ hj))
  simp only [List.map_cons,List.sum_cons,Rows.uptoBulkAll]
  omega
theorem zdX {H : Type} {e : TypeId} : ∀ {l : List (DataW H)} {d : DataW H} {n : Nat},d ∈ l → n ∈ d.weights P e → n ∈ DataW.weightsAll P e l
 | x :: l,d,n,hd,hn => by
  simp only [DataW.weightsAll,List.mem_append]
  rcases List.mem_cons.1 hd with rfl | hd
  ·exact .inl hn
  ·exact .inr (zdX hd hn)
theorem zd0 {α : Type} [Inhabited α] {r : Rd α} (hr : zeQ P r) {t : TypeId} {B : Nat} (h : P.underlying t = some (.slice r.t)) (hc : P.cellsOf r.t = r.d.sz) (hB : P.bytesOf r.t = B) : zeQ P (zag t B r) := by
 constructor
 intro H enc w fuel cs x hx
 rcases Deep.open_slice h hx with ⟨rfl,rfl⟩ | ⟨a,len,cap,m,n,D,Pl,rfl,_,hl,hm,hmm,rfl,hel⟩
 ·exact ⟨[],⟨none,0,rfl,Nat.le_refl _,Kd.C_nil _ _⟩,⟨Nat.zero_le _,by simp⟩,fun _ => ⟨by simp,by simp⟩,by simp [zag,Rows.uptoBulk]⟩
 ·simp only [if_true] at hmm
  subst hmm
  obtain ⟨f,hf⟩ := Deep.choose_lt (α := α) (n := len) (p := fun i v => ∃ c,w.cells? 0 (a.add (i * P.cellsOf r.t)) (P.cellsOf r.t) = some c ∧ r.d.K w v c ∧ r.ok v ∧ ((∀ q ∈ (D i).weights P r.t,q ≤ reachBytes) → r.wt v) ∧ r.bk v ≤ Rows.uptoBulk (D i)) (fun i hi => by
   obtain ⟨cs',h1,h2⟩ := hel i (by omega)
   obtain ⟨v,k1,k2,k3,k4⟩ := hr.out h2
   exact ⟨v,cs',h1,k1,k2,k3,k4⟩)
  have hlen : ((List.range len).map f).length = len := by simp
  refine ⟨(List.range len).map f,⟨some a,m,by rw [hlen],by rw [hlen];exact hl,?_⟩,⟨by rw [hlen];omega,?_⟩,fun hw => ⟨?_,?_⟩,?_⟩
  ·rw [hlen]
   refine ⟨hlen,by unfold maxLen at hm;omega,fun _ => ⟨a,rfl,fun j p hj => ?_⟩⟩
   have hjl : j < len := by
    have := (List.getElem?_eq_some_iff.1 hj).1
    simpa using this
   obtain ⟨c,c1,c2,_⟩ := hf j hjl
   have hp : f j = p := by simpa [List.getElem?_map,List.getElem?_range hjl] using hj
   obtain ⟨_,l2,l3⟩ := World.cells?_some c1
   refine ⟨c,by rw [l2,hc],hp ▸ c2,fun i u hu => ?_⟩
   have hi : i < P.cellsOf r.t := by rw [← l2];exact (List.getElem?_eq_some_iff.1 hu).1
   rw [← hc,← Deep.add_add,l3 i hi]
   exact hu
  ·intro v hv
   obtain ⟨i,hi,rfl⟩ := List.mem_map.1 hv
   obtain ⟨c,_,_,h3,_⟩ := hf i (List.mem_range.1 hi)
   exact h3
  ·have := hw ((((List.range len).map D).length + ((List.range (m - len)).map fun j => D (len + j)).length) * P.bytesOf r.t) (by show _ ∈ DataW.weights P t _;simp only [DataW.weights,h];exact List.mem_cons_self)
   rw [hlen]
   rw [hB] at this
   simp only [List.length_map,List.length_range] at this
   exact Nat.le_trans (Nat.mul_le_mul_right _ (by omega)) this
  ·intro v hv
   obtain ⟨i,hi,rfl⟩ := List.mem_map.1 hv
   obtain ⟨c,_,_,_,h4,_⟩ := hf i (List.mem_range.1 hi)
   refine h4 (fun q hq => hw q ?_)
   show _ ∈ DataW.weights P t _
   simp only [DataW.weights,h]
   exact List.mem_cons_of_mem _ (List.mem_append_left _ (zdX (List.mem_map.2 ⟨i,hi,rfl⟩) hq))
  ·simp only [zag,Rows.uptoBulk]
   have := zhn D f r.bk len (fun i hi => (hf i hi).choose_spec.2.2.2.2)
   omega
structure zdY {β : Type} (P : Program) (fs : List Field) (o : Nat) (d : Kd β) (ok wt : β → Prop) (bk : β → Nat) : Prop where
 out : ∀ {H : Type} {enc : TypeId × Value → H} {w : World} {n : Nat} {cs : List Value} {xs : List (DataW H × List MemPlace)},xs.length = fs.length → cs.length = o + d.sz →
  (∀ (i : Nat) (f : Field),fs[i]? = some f → DataW.trod enc P w 0 (fun _ => true) true n f.type ((cs.drop f.offset).take (P.cellsOf f.type)) = xs[i]?) →
  ∃ b,d.K w b (cs.drop o) ∧ ok b ∧ ((∀ q ∈ DataW.weightsEach P (fs.map (·.type)) (xs.map (·.1)),q ≤ reachBytes) → wt b) ∧ bk b ≤ Rows.uptoBulkAll (xs.map (·.1))
theorem zcS {α : Type} {r : Rd α} (hr : zeQ P r) {f : Field} (ht : f.type = r.t) {o : Nat} (ho : f.offset = o) (hc : P.cellsOf r.t = r.d.sz) : zdY P [f] o r.d r.ok r.wt r.bk := by
 constructor
 intro H enc w n cs xs hl hcs hx
 match xs,hl with
 | [x],_ =>
  have h := hx 0 f rfl
  rw [ho,ht,hc,List.take_of_length_le (by rw [List.length_drop];omega)] at h
  obtain ⟨a,h1,h2,h3,h4⟩ := hr.out h
  refine ⟨a,h1,h2,fun hq => h3 (fun q hm => hq q ?_),by simp [Rows.uptoBulkAll];omega⟩
  simp only [List.map_cons,List.map_nil,DataW.weightsEach,List.mem_append,ht]
  exact .inl hm
theorem zbt {α β : Type} {r : Rd α} (hr : zeQ P r) {f : Field} (ht : f.type = r.t) {fs : List Field} {o o' : Nat} (ho : f.offset = o) (hc : P.cellsOf r.t = r.d.sz) (ho' : o' = o + r.d.sz) {d : Kd β} {ok wt : β → Prop} {bk : β → Nat} (hfs : zdY P fs o' d ok wt bk) :
  zdY P (f :: fs) o (Kd.pair r.d d) (fun x => r.ok x.1 ∧ ok x.2) (fun x => r.wt x.1 ∧ wt x.2) (fun x => r.bk x.1 + bk x.2) := by
 constructor
 intro H enc w n cs xs hl hcs hx
 match xs,hl with
 | x :: xs,hl =>
  have h := hx 0 f rfl
  have hcs' : cs.length = o + (r.d.sz + d.sz) := hcs
  rw [ho,ht,hc] at h
  obtain ⟨a,h1,h2,h3,h4⟩ := hr.out h
  obtain ⟨b,k1,k2,k3,k4⟩ := hfs.out (enc := enc) (w := w) (n := n) (cs := cs) (xs := xs) (by simpa using hl) (by omega) (fun i g hg => hx (i + 1) g hg)
  refine ⟨(a,b),⟨(cs.drop o).take r.d.sz,cs.drop o',?_,h1,k1⟩,⟨h2,k2⟩,fun hq => ⟨h3 (fun q hm => hq q ?_),k3 (fun q hm => hq q ?_)⟩,?_⟩
  ·rw [ho',← List.drop_drop,List.take_append_drop]
  ·simp only [List.map_cons,DataW.weightsEach,List.mem_append,ht]
   exact .inl hm
  ·simp only [List.map_cons,DataW.weightsEach,List.mem_append]
   exact .inr hm
  ·simp only [List.map_cons,Rows.uptoBulkAll];omega
def zdr {α β : Type} (t : TypeId) (d : Kd β) (f : α → β) (ok wt : β → Prop) (bk : β → Nat) : Rd α := ⟨t,Kd.iso d f,fun a => ok (f a),fun a => wt (f a),fun a => bk (f a) + 1⟩
theorem zcT {α β : Type} {t : TypeId} {fs : List Field} {d : Kd β} {ok wt : β → Prop} {bk : β → Nat} (hfs : zdY P fs 0 d ok wt bk) (h : P.underlying t = some (.struct fs.toArray)) (hc : P.cellsOf t = d.sz) (f : α → β) (g : β → α) (hfg : ∀ b,f (g b) = b) : zeQ P (zdr t d f ok wt bk) := by
 constructor
 intro H enc w fuel cs x hx
 obtain ⟨xs,n,rfl,rfl,hl,hn,hf⟩ := DataW.trod_struct h hx
 obtain ⟨b,k1,k2,k3,k4⟩ := hfs.out (enc := enc) (w := w) (n := n) (cs := cs) (xs := xs) (by simpa using hn) (by omega) (fun i g hg => hf i g (by simpa using hg))
 refine ⟨g b,?_,?_,fun hq => ?_,?_⟩
 ·show d.K w (f (g b)) cs
  rw [hfg]
  exact k1
 ·show ok (f (g b))
  rw [hfg]
  exact k2
 ·show wt (f (g b))
  rw [hfg]
  refine k3 (fun q hm => hq q ?_)
  show _ ∈ DataW.weights P t _
  simp only [DataW.weights,h]
  exact hm
 ·show bk (f (g b)) + 1 ≤ _
  rw [hfg]
  simp only [Rows.uptoBulk]
  omega
end
theorem zgU {α H : Type} {P : Program} {r : Rd α} (hr : zeQ P r) {enc : TypeId × Value → H} {w : World} {v : Value} {d : DataW H} {ps : List MemPlace} (h : DataW.Trod enc P w 0 (fun _ => true) true r.t v d ps) :
  ∃ a,r.d.K w a v.cells.toList ∧ r.ok a ∧ ((∀ n ∈ d.weights P r.t,n ≤ reachBytes) → r.wt a) ∧ r.bk a ≤ Rows.uptoBulk d := by
 obtain ⟨fuel,hf⟩ := h
 exact hr.out hf
end Go.Proofs.YtlkfelmbhldgfaaGreat.Px
namespace Go.Proofs.YtlkfelmbhldgfaaGreat.Px
open Go.RowKit Go.Proofs.YtlkfelmbhldgfaaGreat.Px Go.Proofs.YtlkfelmbhldgfaaGreatW.PrintWords Go.Proofs.YtlkfelmbhldgfaaGreatW.PrintLast Go.Proofs.YtlkfelmbhldgfaaGreatW.PrintMore
set_option linter.unusedVariables false
instance : Inhabited S67 := ⟨z67⟩
def zfY : Rd S67 := zdr 67 (Kd.pair (zaK 3 .i64).d (Kd.pair (zaK 3 .i64).d (zag 26 16 (zav 9)).d)) (fun x : S67 => (x.f0,x.f1,x.f2)) (fun y => (zaK 3 .i64).ok y.1 ∧ ((zaK 3 .i64).ok y.2.1 ∧ ((zag 26 16 (zav 9)).ok y.2.2))) (fun y => (zaK 3 .i64).wt y.1 ∧ ((zaK 3 .i64).wt y.2.1 ∧ ((zag 26 16 (zav 9)).wt y.2.2))) (fun y => (zaK 3 .i64).bk y.1 + ((zaK 3 .i64).bk y.2.1 + ((zag 26 16 (zav 9)).bk y.2.2)))
theorem fit67 : zeQ Tryz.prog zfY :=
 zcT (zbt (o := 0) (o' := 1) (ok := fun (y : Int × (List ByteArray)) => (zaK 3 .i64).ok y.1 ∧ ((zag 26 16 (zav 9)).ok y.2)) (wt := fun (y : Int × (List ByteArray)) => (zaK 3 .i64).wt y.1 ∧ ((zag 26 16 (zav 9)).wt y.2)) (bk := fun (y : Int × (List ByteArray)) => (zaK 3 .i64).bk y.1 + ((zag 26 16 (zav 9)).bk y.2)) (zcM Tryz.underlying3) rfl rfl (by kernel_rfl) rfl (zbt (o := 1) (o' := 2) (ok := fun (y : (List ByteArray)) => (zag 26 16 (zav 9)).ok y) (wt := fun (y : (List ByteArray)) => (zag 26 16 (zav 9)).wt y) (bk := fun (y : (List ByteArray)) => (zag 26 16 (zav 9)).bk y) (zcM Tryz.underlying3) rfl rfl (by kernel_rfl) rfl (zcS (zd0 (zem Tryz.underlying9) Tryz.underlying26 (by kernel_rfl) (by kernel_rfl)) rfl rfl (by kernel_rfl)))) Tryz.underlying67 (by kernel_rfl) (fun x : S67 => (x.f0,x.f1,x.f2)) (fun y => ⟨y.1,y.2.1,y.2.2⟩) (fun _ => rfl)
instance : Inhabited S28 := ⟨z28⟩
def zdS : Rd S28 := zdr 28 (Kd.pair (zaK 3 .i64).d (zaK 3 .i64).d) (fun x : S28 => (x.f0,x.f1)) (fun y => (zaK 3 .i64).ok y.1 ∧ ((zaK 3 .i64).ok y.2)) (fun y => (zaK 3 .i64).wt y.1 ∧ ((zaK 3 .i64).wt y.2)) (fun y => (zaK 3 .i64).bk y.1 + ((zaK 3 .i64).bk y.2))
theorem fit28 : zeQ Tryz.prog zdS :=
 zcT (zbt (o := 0) (o' := 1) (ok := fun (y : Int) => (zaK 3 .i64).ok y) (wt := fun (y : Int) => (zaK 3 .i64).wt y) (bk := fun (y : Int) => (zaK 3 .i64).bk y) (zcM Tryz.underlying3) rfl rfl (by kernel_rfl) rfl (zcS (zcM Tryz.underlying3) rfl rfl (by kernel_rfl))) Tryz.underlying28 (by kernel_rfl) (fun x : S28 => (x.f0,x.f1)) (fun y => ⟨y.1,y.2⟩) (fun _ => rfl)
instance : Inhabited S30 := ⟨z30⟩
def zfW : Rd S30 := zdr 30 (Kd.pair (zaK 3 .i64).d (Kd.pair (zaK 3 .i64).d (Kd.pair (zag 25 40 zfY).d (Kd.pair (zag 26 16 (zav 9)).d zdS.d)))) (fun x : S30 => (x.f0,x.f1,x.f2,x.f3,x.f4)) (fun y => (zaK 3 .i64).ok y.1 ∧ ((zaK 3 .i64).ok y.2.1 ∧ ((zag 25 40 zfY).ok y.2.2.1 ∧ ((zag 26 16 (zav 9)).ok y.2.2.2.1 ∧ (zdS.ok y.2.2.2.2))))) (fun y => (zaK 3 .i64).wt y.1 ∧ ((zaK 3 .i64).wt y.2.1 ∧ ((zag 25 40 zfY).wt y.2.2.1 ∧ ((zag 26 16 (zav 9)).wt y.2.2.2.1 ∧ (zdS.wt y.2.2.2.2))))) (fun y => (zaK 3 .i64).bk y.1 + ((zaK 3 .i64).bk y.2.1 + ((zag 25 40 zfY).bk y.2.2.1 + ((zag 26 16 (zav 9)).bk y.2.2.2.1 + (zdS.bk y.2.2.2.2)))))
theorem fit30 : zeQ Tryz.prog zfW :=
 zcT (zbt (o := 0) (o' := 1) (ok := fun (y : Int × (List S67) × (List ByteArray) × S28) => (zaK 3 .i64).ok y.1 ∧ ((zag 25 40 zfY).ok y.2.1 ∧ ((zag 26 16 (zav 9)).ok y.2.2.1 ∧ (zdS.ok y.2.2.2)))) (wt := fun (y : Int × (List S67) × (List ByteArray) × S28) => (zaK 3 .i64).wt y.1 ∧ ((zag 25 40 zfY).wt y.2.1 ∧ ((zag 26 16 (zav 9)).wt y.2.2.1 ∧ (zdS.wt y.2.2.2)))) (bk := fun (y : Int × (List S67) × (List ByteArray) × S28) => (zaK 3 .i64).bk y.1 + ((zag 25 40 zfY).bk y.2.1 + ((zag 26 16 (zav 9)).bk y.2.2.1 + (zdS.bk y.2.2.2)))) (zcM Tryz.underlying3) rfl rfl (by kernel_rfl) rfl (zbt (o := 1) (o' := 2) (ok := fun (y : (List S67) × (List ByteArray) × S28) => (zag 25 40 zfY).ok y.1 ∧ ((zag 26 16 (zav 9)).ok y.2.1 ∧ (zdS.ok y.2.2))) (wt := fun (y : (List S67) × (List ByteArray) × S28) => (zag 25 40 zfY).wt y.1 ∧ ((zag 26 16 (zav 9)).wt y.2.1 ∧ (zdS.wt y.2.2))) (bk := fun (y : (List S67) × (List ByteArray) × S28) => (zag 25 40 zfY).bk y.1 + ((zag 26 16 (zav 9)).bk y.2.1 + (zdS.bk y.2.2))) (zcM Tryz.underlying3) rfl rfl (by kernel_rfl) rfl (zbt (o := 2) (o' := 3) (ok := fun (y : (List ByteArray) × S28) => (zag 26 16 (zav 9)).ok y.1 ∧ (zdS.ok y.2)) (wt := fun (y : (List ByteArray) × S28) => (zag 26 16 (zav 9)).wt y.1 ∧ (zdS.wt y.2)) (bk := fun (y : (List ByteArray) × S28) => (zag 26 16 (zav 9)).bk y.1 + (zdS.bk y.2)) (zd0 fit67 Tryz.underlying25 (by kernel_rfl) (by kernel_rfl)) rfl rfl (by kernel_rfl) rfl (zbt (o := 3) (o' := 4) (ok := fun (y : S28) => zdS.ok y) (wt := fun (y : S28) => zdS.wt y) (bk := fun (y : S28) => zdS.bk y) (zd0 (zem Tryz.underlying9) Tryz.underlying26 (by kernel_rfl) (by kernel_rfl)) rfl rfl (by kernel_rfl) rfl (zcS fit28 rfl rfl (by kernel_rfl)))))) Tryz.underlying30 (by kernel_rfl) (fun x : S30 => (x.f0,x.f1,x.f2,x.f3,x.f4)) (fun y => ⟨y.1,y.2.1,y.2.2.1,y.2.2.2.1,y.2.2.2.2⟩) (fun _ => rfl)
instance : Inhabited S42 := ⟨z42⟩
def zfX : Rd S42 := zdr 42 (Kd.pair (zav 9).d zfW.d) (fun x : S42 => (x.f0,x.f1)) (fun y => (zav 9).ok y.1 ∧ (zfW.ok y.2)) (fun y => (zav 9).wt y.1 ∧ (zfW.wt y.2)) (fun y => (zav 9).bk y.1 + (zfW.bk y.2))
theorem fit42 : zeQ Tryz.prog zfX :=
 zcT (zbt (o := 0) (o' := 1) (ok := fun (y : S30) => zfW.ok y) (wt := fun (y : S30) => zfW.wt y) (bk := fun (y : S30) => zfW.bk y) (zem Tryz.underlying9) rfl rfl (by kernel_rfl) rfl (zcS fit30 rfl rfl (by kernel_rfl))) Tryz.underlying42 (by kernel_rfl) (fun x : S42 => (x.f0,x.f1)) (fun y => ⟨y.1,y.2⟩) (fun _ => rfl)
instance : Inhabited S24 := ⟨z24⟩
def rd24 : Rd S24 := zdr 24 (Kd.pair (zaK 3 .i64).d (Kd.pair (zaK 3 .i64).d (zag 22 96 zfX).d)) (fun x : S24 => (x.f0,x.f1,x.f2)) (fun y => (zaK 3 .i64).ok y.1 ∧ ((zaK 3 .i64).ok y.2.1 ∧ ((zag 22 96 zfX).ok y.2.2))) (fun y => (zaK 3 .i64).wt y.1 ∧ ((zaK 3 .i64).wt y.2.1 ∧ ((zag 22 96 zfX).wt y.2.2))) (fun y => (zaK 3 .i64).bk y.1 + ((zaK 3 .i64).bk y.2.1 + ((zag 22 96 zfX).bk y.2.2)))
theorem fit24 : zeQ Tryz.prog rd24 :=
 zcT (zbt (o := 0) (o' := 1) (ok := fun (y : Int × (List S42)) => (zaK 3 .i64).ok y.1 ∧ ((zag 22 96 zfX).ok y.2)) (wt := fun (y : Int × (List S42)) => (zaK 3 .i64).wt y.1 ∧ ((zag 22 96 zfX).wt y.2)) (bk := fun (y : Int × (List S42)) => (zaK 3 .i64).bk y.1 + ((zag 22 96 zfX).bk y.2)) (zcM Tryz.underlying3) rfl rfl (by kernel_rfl) rfl (zbt (o := 1) (o' := 2) (ok := fun (y : (List S42)) => (zag 22 96 zfX).ok y) (wt := fun (y : (List S42)) => (zag 22 96 zfX).wt y) (bk := fun (y : (List S42)) => (zag 22 96 zfX).bk y) (zcM Tryz.underlying3) rfl rfl (by kernel_rfl) rfl (zcS (zd0 fit42 Tryz.underlying22 (by kernel_rfl) (by kernel_rfl)) rfl rfl (by kernel_rfl)))) Tryz.underlying24 (by kernel_rfl) (fun x : S24 => (x.f0,x.f1,x.f2)) (fun y => ⟨y.1,y.2.1,y.2.2⟩) (fun _ => rfl)
def zcO : Prop := ∀ (a0 : S24) (a1 : S30) (a2 : Int),rd24.ok a0 → zfW.ok a1 → (zaK 3 .i64).ok a2 → rd24.wt a0 → zfW.wt a1 → (zaK 3 .i64).wt a2 → ∃ k,zx.f k (a0.f0) (a0.f1) (a0.f2) (a1.f0) (a1.f1) (a1.f2) (a1.f3) (a1.f4.f0) (a1.f4.f1) a2 = some true
end Go.Proofs.YtlkfelmbhldgfaaGreat.Px
namespace Go.Proofs.YtlkfelmbhldgfaaGreat.Pure
open Go.RowKit Go.Proofs.YtlkfelmbhldgfaaGreat.Px Go.Proofs.YtlkfelmbhldgfaaGreatW.PrintWords Go.Proofs.YtlkfelmbhldgfaaGreatW.PrintLast Go.Proofs.YtlkfelmbhldgfaaGreatW.PrintMore
theorem zg7 (n lo x : Int) (L : List Ent) (hL : L.length < 1466015503701) (n' lo' : Int) (d : Nat) : ∀ (j : Nat) (acc : List Ent),j + d = L.length → acc.length ≤ j →
  Ev (fun k => zE.l0 k x (j : Int) n lo L n' lo' acc) (n',lo',acc ++ zcA (L.drop j) x) := by
 induction d with
 | zero =>
  intro j acc hj _
  refine Ev.step (fun k => by rw [zE.l0]) ?_
  refine zT (by omega) (zac (Ev.now _) ?_)
  rw [List.drop_eq_nil_of_le (by omega)];simp [zcA]
 | succ d ih =>
  intro j acc hj ha
  refine Ev.step (fun k => by rw [zE.l0]) ?_
  have h1 : j < L.length := by omega
  refine zF (by omega) (zF (by omega) ?_)
  rw [zct L j h1,zaf (by omega) (by omega),List.drop_eq_getElem_cons h1]
  by_cases h : L[j].f1.f1 > x
  ·refine zF h (zF (by omega) (zac (ih (j + 1) _ (by omega) (by simp;omega)) ?_))
   rw [zcA,zcA,show (L[j] :: L.drop (j + 1)).filter (fun e => decide (x < e.f1.f1)) = L[j] :: (L.drop (j + 1)).filter (fun e => decide (x < e.f1.f1)) from List.filter_cons_of_pos (by simpa using h),List.append_assoc];rfl
  ·refine zT h (zac (ih (j + 1) _ (by omega) (by omega)) ?_)
   rw [zcA,zcA,List.filter_cons_of_neg (by simpa using h)]
theorem zic (n lo x : Int) (L : List Ent) (hL : L.length < 1466015503701) : Ev (fun k => zE.f k n lo L x) (if x ≤ lo then (n,lo,L) else (n,x,zcA L x)) := by
 by_cases h : x ≤ lo
 ·rw [if_pos h];exact zF h (Ev.now _)
 ·rw [if_neg h]
  exact zT h (zac (zg7 n lo x L hL n x L.length 0 [] (by omega) (by simp)) (by simp))
theorem DagAdds : zcO := by
 rintro ⟨n,lo,L⟩ ⟨a,r,bs,ps,⟨x,y⟩⟩ low _ _ _ ⟨_,_,⟨l1,l2⟩⟩ ⟨_,_,⟨b1,b2⟩,⟨pp1,pp2⟩,_⟩ _
 show ∃ k,zx.f k n lo L a r bs ps x y low = some true
 have hL : L.length < 1466015503701 := by have : L.length * 96 ≤ 140737488351232 := l1;omega
 have hs : ∀ x ∈ L,zhR x := fun x hx => by
  obtain ⟨_,_,_,⟨v1,v2⟩,⟨p1,p2⟩,_⟩ := l2 x hx
  have v1' : x.f1.f2.length * 40 ≤ 140737488351232 := v1
  have p1' : x.f1.f3.length * 16 ≤ 140737488351232 := p1
  refine ⟨by omega,fun b hb => ?_,by omega,fun t ht => ?_⟩
  ·obtain ⟨_,_,q1,_⟩ := v2 b hb
   have q1' : b.f2.length * 16 ≤ 140737488351232 := q1
   omega
  ·have t1 : t.size ≤ 140737488351232 := p2 t ht
   omega
 have hbl : bs.length < 4611686018427387904 := by have : bs.length * 40 ≤ 140737488351232 := b1;omega
 have hbt : ∀ b ∈ bs,b.f2.length < 4611686018427387904 := fun b hb => by
  obtain ⟨_,_,q1,_⟩ := b2 b hb
  have q1' : b.f2.length * 16 ≤ 140737488351232 := q1
  omega
 have hps : ps.length ≤ 8796093022208 := by have : ps.length * 16 ≤ 140737488351232 := pp1;omega
 have hpt : ∀ t ∈ ps,t.size < 4611686018427387904 := fun t ht => by
  have t1 : t.size ≤ 140737488351232 := pp2 t ht
  omega
 have hv : zhR (zev n ⟨a,r,bs,ps,⟨x,y⟩⟩) := ⟨hbl,hbt,hps,hpt⟩
 have hadd : ∀ e ∈ zes n lo L a r bs ps x y,zhR e := fun e he => by
  unfold zes at he
  split at he
  ·rcases zcW.1 he with h | h
   ·rw [h];exact hv
   ·exact hs e h
  ·exact hs e he
 have hlen : (zes n lo L a r bs ps x y).length ≤ L.length + 1 := by
  unfold zes
  split
  ·rw [zfc];exact Nat.le_refl _
  ·exact Nat.le_succ _
 refine Ev.rounds (zaC zis (zaC rfl (zF rfl ?_)))
 refine Ev.step (fun k => by rw [zx.j0]) ?_
 by_cases hf : (L.length : Int) ≤ 60
 ·refine zT (by simp [hf]) (zaC (show zas.f n lo L a r bs ps x y = some _ from if_pos hL) (zaC (show zP.f n lo L a r bs ps x y = some _ from if_pos ⟨hL,zhu.2 ⟨hbl,hbt,hps,hpt⟩⟩) ?_))
  refine Ev.bind (zed _ _ _ _ _ _ (show (zes n lo L a r bs ps x y).length < 4611686018427387904 by omega) hadd) (zaC (show zU.f n lo L low = some _ from if_pos hL) (Ev.bind (zic n lo low L hL) ?_))
  have hd : ∀ e ∈ (if low ≤ lo then (n,lo,L) else (n,low,zcA L low)).2.2,zhR e := fun e he => by
   split at he
   ·exact hs e he
   ·exact hs e (List.mem_filter.1 he).1
  have hdl : (if low ≤ lo then (n,lo,L) else (n,low,zcA L low)).2.2.length ≤ L.length := by
   split
   ·exact Nat.le_refl _
   ·exact List.length_filter_le _ _
  refine Ev.bind (zed _ _ _ _ _ _ (Nat.lt_of_le_of_lt hdl (by omega)) hd) ?_
  exact zF (decide_eq_true ⟨rfl,rfl,rfl⟩) (zF (decide_eq_true ⟨rfl,rfl,rfl⟩) (zac (Ev.now _) (by simp)))
 ·exact zF (by simp [hf]) (Ev.now _)
end Go.Proofs.YtlkfelmbhldgfaaGreat.Pure
namespace Go.Proofs.YtlkfelmbhldgfaaGreat.dagAdds
open Go.ChangeShapes Go.WideShapes Go.ChangeAt Go.RowKit
open Go.ChangeMaps (open_string shut_string)
open Go.RowKit Go.Proofs.YtlkfelmbhldgfaaGreat.Px Go.Proofs.YtlkfelmbhldgfaaGreatW.PrintWords Go.Proofs.YtlkfelmbhldgfaaGreatW.PrintLast Go.Proofs.YtlkfelmbhldgfaaGreatW.PrintMore
set_option linter.unusedVariables false
theorem own : ownKnob Tryz.prog.godebug = none := by kernel_rfl
theorem laidOut : laidOutB Tryz.prog = true := by kernel_rfl
set_option maxRecDepth 100000 in
theorem contract (H : Type) (enc : TypeId × Value → H) (W : World) (base : Nat) (args : Array Value) (ds gs : List (DataW H)) (before : List MemPlace)
  (hval0 : ∀ (j : Nat) t v,Tryz.f3.params[j]? = some t → args[j]? = some v → Value.okWide Tryz.prog W .any base t v)
  (hW : DataW.Whole enc Tryz.prog Tryz.f3.params.toList Rows.dagAddsSpec.vars false W args.toList ds gs before)
  (hsz0 : (DataW.weightsEach Tryz.prog (Tryz.f3.params.toList ++ Rows.dagAddsSpec.plain.varTypes Tryz.prog) (ds ++ gs)).all (· ≤ reachBytes) = true) :
  Calls Tryz.prog 3 args W fun e W' => ∃ v,e = .returned v ∧ Rows.dagAddsSpec.post enc Tryz.prog Tryz.f3 false true false false W args v W' := by
 have hval : ∀ (j : Nat) t v,Tryz.f3.params[j]? = some t → args[j]? = some v → Value.okWide Tryz.prog W .any base t v := hval0
 have hW' := hW
 obtain ⟨p,q,hA0,hV,rfl,hfz,hnd⟩ := hW
 have hA : DataW.TrodAll enc Tryz.prog W 0 (fun _ => true) true Tryz.f3.params.toList args.toList ds p := hA0
 have hsz := hsz0
 rw [Tryz.params3] at hA hval hsz
 obtain ⟨v0,vs0,d0,ds0,p0,q0,hargs,rfl,rfl,h0,r0⟩ := trodAll_cons hA
 obtain ⟨v1,vs1,d1,ds1,p1,q1,rfl,rfl,rfl,h1,r1⟩ := trodAll_cons r0
 obtain ⟨v2,vs2,d2,ds2,p2,q2,rfl,rfl,rfl,h2,r2⟩ := trodAll_cons r1
 obtain ⟨rfl,rfl,rfl⟩ := trodAll_nil r2
 obtain rfl : args = #[v0,v1,v2] := by cases args;simp_all
 obtain ⟨rfl,rfl⟩ := trodVars_none hV
 have t0 := h0
 have lt0 : ∀ x ∈ p0,x.block < W.heap.size := by obtain ⟨m,hm⟩ := t0;exact DataW.trod_lt m _ _ _ hm
 have t1 := h1
 have lt1 : ∀ x ∈ p1,x.block < W.heap.size := by obtain ⟨m,hm⟩ := t1;exact DataW.trod_lt m _ _ _ hm
 have t2 := h2
 have lt2 : ∀ x ∈ p2,x.block < W.heap.size := by obtain ⟨m,hm⟩ := t2;exact DataW.trod_lt m _ _ _ hm
 obtain ⟨a0,K0,ok0,wt0,bk0⟩ := zgU fit24 h0
 have wq0 := wt0 (fun n hn => of_decide_eq_true (List.all_eq_true.1 hsz n (DataW.weights_mem_each (j := 0) (t := rd24.t) (d := d0) rfl rfl n hn)))
 obtain ⟨cs0,rfl,sz0⟩ := okWide_struct Tryz.underlying24 (hval 0 24 v0 rfl rfl)
 obtain ⟨A0_2,c0_2,e0,l0_2,g0_2⟩ := k24_open (show k24.K W a0 _ from K0)
 obtain rfl : cs0 = #[.int .i64 a0.f0,.int .i64 a0.f1,.slice A0_2 a0.f2.length c0_2] := by have := congrArg List.toArray e0;simpa [Value.cells] using this
 obtain ⟨a1,K1,ok1,wt1,bk1⟩ := zgU fit30 h1
 have wq1 := wt1 (fun n hn => of_decide_eq_true (List.all_eq_true.1 hsz n (DataW.weights_mem_each (j := 1) (t := zfW.t) (d := d1) rfl rfl n hn)))
 obtain ⟨cs1,rfl,sz1⟩ := okWide_struct Tryz.underlying30 (hval 1 30 v1 rfl rfl)
 obtain ⟨A1_2,c1_2,A1_3,c1_3,e1,l1_2,g1_2,l1_3,g1_3⟩ := zhx (show k30.K W a1 _ from K1)
 obtain rfl : cs1 = #[.int .i64 a1.f0,.int .i64 a1.f1,.slice A1_2 a1.f2.length c1_2,.slice A1_3 a1.f3.length c1_3,.int .i64 a1.f4.f0,.int .i64 a1.f4.f1] := by have := congrArg List.toArray e1;simpa [Value.cells] using this
 obtain ⟨a2,K2,ok2,wt2,bk2⟩ := zgU (zcM Tryz.underlying3) h2
 have wq2 := wt2 (fun n hn => of_decide_eq_true (List.all_eq_true.1 hsz n (DataW.weights_mem_each (j := 2) (t := (zaK 3 .i64).t) (d := d2) rfl rfl n hn)))
 obtain ⟨a2',rfl,rfl,rfl,y2⟩ := open_int Tryz.underlying3 (hval 2 3 v2 rfl rfl) h2
 have e2 : a2' = a2 := by have := K2;simpa [zaK,rdBool,zav,Kd.int,Kd.bool,Kd.string,Kd.scalar,Value.cells] using this
 subst e2
 obtain ⟨kk,hkk⟩ := Pure.DagAdds a0 a1 a2' ok0 ok1 ok2 wq0 wq1 wq2
 refine (zx.calls kk (a0.f0) (a0.f1) A0_2 c0_2 (a0.f2) (a1.f0) (a1.f1) A1_2 c1_2 (a1.f2) A1_3 c1_3 (a1.f3) (a1.f4.f0) (a1.f4.f1) a2' true W g0_2 l0_2 g1_2 l1_2 g1_3 l1_3 hkk).mono fun e W' ⟨he,bel0⟩ => ?_
 have bel := bel0
 subst he
 exact ⟨_,rfl,_,_,_,[],_,[],hW',trodAll_mk1 (shut_bool Tryz.underlying4 _),(trodAll_cons_mk (Below.trod laidOut (by kernel_rfl) (of_decide_eq_true (by kernel_rfl)) t0 bel lt0) (trodAll_cons_mk (Below.trod laidOut (by kernel_rfl) (of_decide_eq_true (by kernel_rfl)) t1 bel lt1) (trodAll_cons_mk (Below.trod laidOut (by kernel_rfl) (of_decide_eq_true (by kernel_rfl)) t2 bel lt2) trodAll_mk0))),rfl,bel.frame _,fun h => by cases h⟩
set_option maxRecDepth 100000 in
theorem lifted (os : Os) (started : os.Started) (H : Type) (enc : TypeId × Value → H) :
  ReturnsInHanded {} Tryz.checked os 3 .any (Rows.dagAddsSpec.pre6 enc Tryz.prog Tryz.f3 Rows.dagAddsRow.domain false) (Rows.dagAddsSpec.post enc Tryz.prog Tryz.f3 false true false false) := by
 refine returnsInHanded_of_change_sized (C := Tryz.checked) own started (by kernel_rfl) Tryz.func3
  (ChangeSpec.witness6 (enc := enc) (C := Tryz.checked) false ⟨#[],#[.agg #[.int .i64 0,.int .i64 0,.slice none 0 0],.agg #[.int .i64 0,.int .i64 0,.slice none 0 0,.slice none 0 0,.int .i64 0,.int .i64 0],.int .i64 0],[]⟩ 8 (by kernel_rfl) (by kernel_rfl) (by kernel_rfl) (by kernel_rfl)) ?_
 intro W base args ds gs before hval hW _ hsz _
 exact contract H enc W base args ds gs before hval hW hsz
theorem proved : Rows.DagAddsSaid :=
 OpenClaim.holds_of_wide 3 Tryz.f3 rfl rfl rfl rfl rfl rfl rfl ⟨rfl,rfl,rfl,rfl,rfl⟩ rfl rfl rfl rfl rfl (by kernel_rfl) Tryz.func3 (by kernel_rfl)
  (of_decide_eq_true (by kernel_rfl)) (by unfold Func.isWrapper;first | (rw [if_pos (by decide +kernel)];kernel_rfl) | (rw [if_neg (by decide +kernel)];exact ⟨rfl,rfl⟩))
  (fun os started H enc _ => lifted os started H enc)
#print axioms proved
end Go.Proofs.YtlkfelmbhldgfaaGreat.dagAdds
namespace Go.Proofs.YtlkfelmbhldgfaaGreat
theorem dagAdds_holds : Rows.DagAddsSaid := dagAdds.proved
end Go.Proofs.YtlkfelmbhldgfaaGreat