/- Part 24 of 25 of the proof of the law DagOrder: what is proved is the statement at the end of the last part; its conditions are those of the given row. -/
import Derived.Test.YtklhjlaofkngcaaRows
import Derived.Deep.Slices
import Derived.ChangeArms
import Derived.SizedLaws
import Derived.WideOpen
import Derived.Test.YtklhjlaofkngcaaZDagOrderW
namespace Go.Proofs.Ytklhjlaofkngcaa.Px
open Go.RowKit Go.Proofs.YtklhjlaofkngcaaW.PrintWords Go.Proofs.YtklhjlaofkngcaaW.PrintLast Go.Proofs.YtklhjlaofkngcaaW.PrintMore
attribute [local go_sem] zx zz zE zF zr zt zy zA
set_option linter.unusedVariables false
set_option linter.unusedSimpArgs false
structure Rd (α : Type) where
 t : TypeId
 d : Kd α
 ok : α → Prop
 wt : α → Prop
 bk : α → Nat
structure zdR {α : Type} (P : Program) (r : Rd α) : Prop where
 out : ∀ {H : Type} {enc : TypeId × Value → H} {w : World} {fuel : Nat} {cs : List Value} {x : DataW H × List MemPlace},DataW.trod enc P w 0 (fun _ => true) true fuel r.t cs = some x →
  ∃ a,r.d.K w a cs ∧ r.ok a ∧ ((∀ n ∈ x.1.weights P r.t,n ≤ reachBytes) → r.wt a) ∧ r.bk a ≤ Rows.uptoBulk x.1
def zao (t : TypeId) (k : IntKind) : Rd Int := ⟨t,Kd.int k,fun a => (Lit.int k a).wf = true,fun _ => True,fun _ => 1⟩
def zhA (t : TypeId) : Rd Bool := ⟨t,Kd.bool,fun _ => True,fun _ => True,fun _ => 1⟩
def zad (t : TypeId) : Rd ByteArray := ⟨t,Kd.string,fun a => a.size ≤ maxLen,fun a => a.size ≤ reachBytes,fun a => a.size + 1⟩
def zW {α : Type} (t : TypeId) (B : Nat) (r : Rd α) : Rd (List α) :=
 ⟨t,Kd.slice r.t r.d,fun l => l.length ≤ maxLen ∧ ∀ a ∈ l,r.ok a,fun l => l.length * B ≤ reachBytes ∧ ∀ a ∈ l,r.wt a,fun l => (l.map r.bk).sum + 1⟩
section
variable {P : Program}
theorem zb3 {t : TypeId} {k : IntKind} (h : P.underlying t = some (.int k)) : zdR P (zao t k) := by
 constructor
 intro H enc w fuel cs x hx
 obtain ⟨n,rfl,rfl,hw⟩ := DataW.trod_int h hx
 exact ⟨n,rfl,hw,fun _ => trivial,by simp [zao,Rows.uptoBulk]⟩
theorem zd1 {t : TypeId} (h : P.underlying t = some .string) : zdR P (zad t) := by
 constructor
 intro H enc w fuel cs x hx
 obtain ⟨s,rfl,rfl,hs⟩ := DataW.trod_string h hx
 have e : s.data.toList.length = s.size := by rw [Array.length_toList];rfl
 refine ⟨s,rfl,hs,fun hn => ?_,by simp only [zad,Rows.uptoBulk,e];exact Nat.le_refl _⟩
 have := hn s.data.toList.length (by simp [DataW.weights])
 rwa [e] at this
theorem zfr {H α : Type} (f : Nat → DataW H) (g : Nat → α) (bk : α → Nat) (n : Nat) (h : ∀ i,i < n → bk (g i) ≤ Rows.uptoBulk (f i)) : (((List.range n).map g).map bk).sum ≤ Rows.uptoBulkAll ((List.range n).map f) := by
 suffices k : ∀ l : List Nat,(∀ i ∈ l,i < n) → ((l.map g).map bk).sum ≤ Rows.uptoBulkAll (l.map f) from k _ (fun i hi => List.mem_range.1 hi)
 intro l
 induction l with
 | nil => intro _;simp
 | cons i l ih =>
  intro hl
  have h1 := h i (hl i List.mem_cons_self)
  have h2 := ih (fun j hj => hl j (List.mem_cons_of_mem _ hj))
  simp only [List.map_cons,List.sum_cons,Rows.uptoBulkAll]
  omega
theorem zcG {H : Type} {e : TypeId} : ∀ {l : List (DataW H)} {d : DataW H} {n : Nat},d ∈ l → n ∈ d.weights P e → n ∈ DataW.weightsAll P e l
 | x :: l,d,n,hd,hn => by
  simp only [DataW.weightsAll,List.mem_append]
  rcases List.mem_cons.1 hd with rfl | hd
  ·exact .inl hn
  ·exact .inr (zcG hd hn)
theorem zcI {α : Type} [Inhabited α] {r : Rd α} (hr : zdR P r) {t : TypeId} {B : Nat} (h : P.underlying t = some (.slice r.t)) (hc : P.cellsOf r.t = r.d.sz) (hB : P.bytesOf r.t = B) : zdR P (zW t B r) := by
 constructor
 intro H enc w fuel cs x hx
 rcases Deep.open_slice h hx with ⟨rfl,rfl⟩ | ⟨a,len,cap,m,n,D,Pl,rfl,_,hl,hm,hmm,rfl,hel⟩
 ·exact ⟨[],⟨none,0,rfl,Nat.le_refl _,Kd.C_nil _ _⟩,⟨Nat.zero_le _,by simp⟩,fun _ => ⟨by simp,by simp⟩,by simp [zW,Rows.uptoBulk]⟩
 ·simp only [if_true] at hmm
  subst hmm
  obtain ⟨f,hf⟩ := Deep.choose_lt (α := α) (n := len) (p := fun i v => ∃ c,w.cells? 0 (a.add (i * P.cellsOf r.t)) (P.cellsOf r.t) = some c ∧ r.d.K w v c ∧ r.ok v ∧ ((∀ q ∈ (D i).weights P r.t,q ≤ reachBytes) → r.wt v) ∧ r.bk v ≤ Rows.uptoBulk (D i)) (fun i hi => by
   obtain ⟨cs',h1,h2⟩ := hel i (by omega)
   obtain ⟨v,k1,k2,k3,k4⟩ := hr.out h2
   exact ⟨v,cs',h1,k1,k2,k3,k4⟩)
  have hlen : ((List.range len).map f).length = len := by simp
  refine ⟨(List.range len).map f,⟨some a,m,by rw [hlen],by rw [hlen];exact hl,?_⟩,⟨by rw [hlen];omega,?_⟩,fun hw => ⟨?_,?_⟩,?_⟩
  ·rw [hlen]
   refine ⟨hlen,by unfold maxLen at hm;omega,fun _ => ⟨a,rfl,fun j p hj => ?_⟩⟩
   have hjl : j < len := by
    have := (List.getElem?_eq_some_iff.1 hj).1
    simpa using this
   obtain ⟨c,c1,c2,_⟩ := hf j hjl
   have hp : f j = p := by simpa [List.getElem?_map,List.getElem?_range hjl] using hj
   obtain ⟨_,l2,l3⟩ := World.cells?_some c1
   refine ⟨c,by rw [l2,hc],hp ▸ c2,fun i u hu => ?_⟩
   have hi : i < P.cellsOf r.t := by rw [← l2];exact (List.getElem?_eq_some_iff.1 hu).1
   rw [← hc,← Deep.add_add,l3 i hi]
   exact hu
  ·intro v hv
   obtain ⟨i,hi,rfl⟩ := List.mem_map.1 hv
   obtain ⟨c,_,_,h3,_⟩ := hf i (List.mem_range.1 hi)
   exact h3
  ·have := hw ((((List.range len).map D).length + ((List.range (m - len)).map fun j => D (len + j)).length) * P.bytesOf r.t) (by show _ ∈ DataW.weights P t _;simp only [DataW.weights,h];exact List.mem_cons_self)
   rw [hlen]
   rw [hB] at this
   simp only [List.length_map,List.length_range] at this
   exact Nat.le_trans (Nat.mul_le_mul_right _ (by omega)) this
  ·intro v hv
   obtain ⟨i,hi,rfl⟩ := List.mem_map.1 hv
   obtain ⟨c,_,_,_,h4,_⟩ := hf i (List.mem_range.1 hi)
   refine h4 (fun q hq => hw q ?_)
   show _ ∈ DataW.weights P t _
   simp only [DataW.weights,h]
   exact List.mem_cons_of_mem _ (List.mem_append_left _ (zcG (List.mem_map.2 ⟨i,hi,rfl⟩) hq))
  ·simp only [zW,Rows.uptoBulk]
   have := zfr D f r.bk len (fun i hi => (hf i hi).choose_spec.2.2.2.2)
   omega
structure zcH {β : Type} (P : Program) (fs : List Field) (o : Nat) (d : Kd β) (ok wt : β → Prop) (bk : β → Nat) : Prop where
 out : ∀ {H : Type} {enc : TypeId × Value → H} {w : World} {n : Nat} {cs : List Value} {xs : List (DataW H × List MemPlace)},xs.length = fs.length → cs.length = o + d.sz →
  (∀ (i : Nat) (f : Field),fs[i]? = some f → DataW.trod enc P w 0 (fun _ => true) true n f.type ((cs.drop f.offset).take (P.cellsOf f.type)) = xs[i]?) →
  ∃ b,d.K w b (cs.drop o) ∧ ok b ∧ ((∀ q ∈ DataW.weightsEach P (fs.map (·.type)) (xs.map (·.1)),q ≤ reachBytes) → wt b) ∧ bk b ≤ Rows.uptoBulkAll (xs.map (·.1))
theorem zcX {α : Type} {r : Rd α} (hr : zdR P r) {f : Field} (ht : f.type = r.t) {o : Nat} (ho : f.offset = o) (hc : P.cellsOf r.t = r.d.sz) : zcH P [f] o r.d r.ok r.wt r.bk := by
 constructor
 intro H enc w n cs xs hl hcs hx
 match xs,hl with
 | [x],_ =>
  have h := hx 0 f rfl
  rw [ho,ht,hc,List.take_of_length_le (by rw [List.length_drop];omega)] at h
  obtain ⟨a,h1,h2,h3,h4⟩ := hr.out h
  refine ⟨a,h1,h2,fun hq => h3 (fun q hm => hq q ?_),by simp [Rows.uptoBulkAll];omega⟩
  simp only [List.map_cons,List.map_nil,DataW.weightsEach,List.mem_append,ht]
  exact .inl hm
theorem za2 {α β : Type} {r : Rd α} (hr : zdR P r) {f : Field} (ht : f.type = r.t) {fs : List Field} {o o' : Nat} (ho : f.offset = o) (hc : P.cellsOf r.t = r.d.sz) (ho' : o' = o + r.d.sz) {d : Kd β} {ok wt : β → Prop} {bk : β → Nat} (hfs : zcH P fs o' d ok wt bk) :
  zcH P (f :: fs) o (Kd.pair r.d d) (fun x => r.ok x.1 ∧ ok x.2) (fun x => r.wt x.1 ∧ wt x.2) (fun x => r.bk x.1 + bk x.2) := by
 constructor
 intro H enc w n cs xs hl hcs hx
 match xs,hl with
 | x :: xs,hl =>
  have h := hx 0 f rfl
  have hcs' : cs.length = o + (r.d.sz + d.sz) := hcs
  rw [ho,ht,hc] at h
  obtain ⟨a,h1,h2,h3,h4⟩ := hr.out h
  obtain ⟨b,k1,k2,k3,k4⟩ := hfs.out (enc := enc) (w := w) (n := n) (cs := cs) (xs := xs) (by simpa using hl) (by omega) (fun i g hg => hx (i + 1) g hg)
  refine ⟨(a,b),⟨(cs.drop o).take r.d.sz,cs.drop o',?_,h1,k1⟩,⟨h2,k2⟩,fun hq => ⟨h3 (fun q hm => hq q ?_),k3 (fun q hm => hq q ?_)⟩,?_⟩
  ·rw [ho',← List.drop_drop,List.take_append_drop]
  ·simp only [List.map_cons,DataW.weightsEach,List.mem_append,ht]
   exact .inl hm
  ·simp only [List.map_cons,DataW.weightsEach,List.mem_append]
   exact .inr hm
  ·simp only [List.map_cons,Rows.uptoBulkAll];omega
def zda {α β : Type} (t : TypeId) (d : Kd β) (f : α → β) (ok wt : β → Prop) (bk : β → Nat) : Rd α := ⟨t,Kd.iso d f,fun a => ok (f a),fun a => wt (f a),fun a => bk (f a) + 1⟩
theorem zcY {α β : Type} {t : TypeId} {fs : List Field} {d : Kd β} {ok wt : β → Prop} {bk : β → Nat} (hfs : zcH P fs 0 d ok wt bk) (h : P.underlying t = some (.struct fs.toArray)) (hc : P.cellsOf t = d.sz) (f : α → β) (g : β → α) (hfg : ∀ b,f (g b) = b) : zdR P (zda t d f ok wt bk) := by
 constructor
 intro H enc w fuel cs x hx
 obtain ⟨xs,n,rfl,rfl,hl,hn,hf⟩ := DataW.trod_struct h hx
 obtain ⟨b,k1,k2,k3,k4⟩ := hfs.out (enc := enc) (w := w) (n := n) (cs := cs) (xs := xs) (by simpa using hn) (by omega) (fun i g hg => hf i g (by simpa using hg))
 refine ⟨g b,?_,?_,fun hq => ?_,?_⟩
 ·show d.K w (f (g b)) cs
  rw [hfg]
  exact k1
 ·show ok (f (g b))
  rw [hfg]
  exact k2
 ·show wt (f (g b))
  rw [hfg]
  refine k3 (fun q hm => hq q ?_)
  show _ ∈ DataW.weights P t _
  simp only [DataW.weights,h]
  exact hm
 ·show bk (f (g b)) + 1 ≤ _
  rw [hfg]
  simp only [Rows.uptoBulk]
  omega
end
theorem ze5 {α H : Type} {P : Program} {r : Rd α} (hr : zdR P r) {enc : TypeId × Value → H} {w : World} {v : Value} {d : DataW H} {ps : List MemPlace} (h : DataW.Trod enc P w 0 (fun _ => true) true r.t v d ps) :
  ∃ a,r.d.K w a v.cells.toList ∧ r.ok a ∧ ((∀ n ∈ d.weights P r.t,n ≤ reachBytes) → r.wt a) ∧ r.bk a ≤ Rows.uptoBulk d := by
 obtain ⟨fuel,hf⟩ := h
 exact hr.out hf
end Go.Proofs.Ytklhjlaofkngcaa.Px
namespace Go.Proofs.Ytklhjlaofkngcaa.Px
open Go.RowKit Go.Proofs.Ytklhjlaofkngcaa.Px Go.Proofs.YtklhjlaofkngcaaW.PrintWords Go.Proofs.YtklhjlaofkngcaaW.PrintLast Go.Proofs.YtklhjlaofkngcaaW.PrintMore
set_option linter.unusedVariables false
instance : Inhabited S72 := ⟨z72⟩
def zed : Rd S72 := zda 72 (Kd.pair (zao 3 .i64).d (Kd.pair (zao 3 .i64).d (zW 26 16 (zad 9)).d)) (fun x : S72 => (x.f0,x.f1,x.f2)) (fun y => (zao 3 .i64).ok y.1 ∧ ((zao 3 .i64).ok y.2.1 ∧ ((zW 26 16 (zad 9)).ok y.2.2))) (fun y => (zao 3 .i64).wt y.1 ∧ ((zao 3 .i64).wt y.2.1 ∧ ((zW 26 16 (zad 9)).wt y.2.2))) (fun y => (zao 3 .i64).bk y.1 + ((zao 3 .i64).bk y.2.1 + ((zW 26 16 (zad 9)).bk y.2.2)))
theorem ziS : zdR Try.prog zed :=
 zcY (za2 (o := 0) (o' := 1) (ok := fun (y : Int × (List ByteArray)) => (zao 3 .i64).ok y.1 ∧ ((zW 26 16 (zad 9)).ok y.2)) (wt := fun (y : Int × (List ByteArray)) => (zao 3 .i64).wt y.1 ∧ ((zW 26 16 (zad 9)).wt y.2)) (bk := fun (y : Int × (List ByteArray)) => (zao 3 .i64).bk y.1 + ((zW 26 16 (zad 9)).bk y.2)) (zb3 Try.underlying3) rfl rfl (by kernel_rfl) rfl (za2 (o := 1) (o' := 2) (ok := fun (y : (List ByteArray)) => (zW 26 16 (zad 9)).ok y) (wt := fun (y : (List ByteArray)) => (zW 26 16 (zad 9)).wt y) (bk := fun (y : (List ByteArray)) => (zW 26 16 (zad 9)).bk y) (zb3 Try.underlying3) rfl rfl (by kernel_rfl) rfl (zcX (zcI (zd1 Try.underlying9) Try.underlying26 (by kernel_rfl) (by kernel_rfl)) rfl rfl (by kernel_rfl)))) Try.underlying72 (by kernel_rfl) (fun x : S72 => (x.f0,x.f1,x.f2)) (fun y => ⟨y.1,y.2.1,y.2.2⟩) (fun _ => rfl)
instance : Inhabited S28 := ⟨z28⟩
def zcE : Rd S28 := zda 28 (Kd.pair (zao 3 .i64).d (zao 3 .i64).d) (fun x : S28 => (x.f0,x.f1)) (fun y => (zao 3 .i64).ok y.1 ∧ ((zao 3 .i64).ok y.2)) (fun y => (zao 3 .i64).wt y.1 ∧ ((zao 3 .i64).wt y.2)) (fun y => (zao 3 .i64).bk y.1 + ((zao 3 .i64).bk y.2))
theorem ziQ : zdR Try.prog zcE :=
 zcY (za2 (o := 0) (o' := 1) (ok := fun (y : Int) => (zao 3 .i64).ok y) (wt := fun (y : Int) => (zao 3 .i64).wt y) (bk := fun (y : Int) => (zao 3 .i64).bk y) (zb3 Try.underlying3) rfl rfl (by kernel_rfl) rfl (zcX (zb3 Try.underlying3) rfl rfl (by kernel_rfl))) Try.underlying28 (by kernel_rfl) (fun x : S28 => (x.f0,x.f1)) (fun y => ⟨y.1,y.2⟩) (fun _ => rfl)
instance : Inhabited S30 := ⟨z30⟩
def zib : Rd S30 := zda 30 (Kd.pair (zao 3 .i64).d (Kd.pair (zao 3 .i64).d (Kd.pair (zW 25 40 zed).d (Kd.pair (zW 26 16 (zad 9)).d zcE.d)))) (fun x : S30 => (x.f0,x.f1,x.f2,x.f3,x.f4)) (fun y => (zao 3 .i64).ok y.1 ∧ ((zao 3 .i64).ok y.2.1 ∧ ((zW 25 40 zed).ok y.2.2.1 ∧ ((zW 26 16 (zad 9)).ok y.2.2.2.1 ∧ (zcE.ok y.2.2.2.2))))) (fun y => (zao 3 .i64).wt y.1 ∧ ((zao 3 .i64).wt y.2.1 ∧ ((zW 25 40 zed).wt y.2.2.1 ∧ ((zW 26 16 (zad 9)).wt y.2.2.2.1 ∧ (zcE.wt y.2.2.2.2))))) (fun y => (zao 3 .i64).bk y.1 + ((zao 3 .i64).bk y.2.1 + ((zW 25 40 zed).bk y.2.2.1 + ((zW 26 16 (zad 9)).bk y.2.2.2.1 + (zcE.bk y.2.2.2.2)))))
theorem ziR : zdR Try.prog zib :=
 zcY (za2 (o := 0) (o' := 1) (ok := fun (y : Int × (List S72) × (List ByteArray) × S28) => (zao 3 .i64).ok y.1 ∧ ((zW 25 40 zed).ok y.2.1 ∧ ((zW 26 16 (zad 9)).ok y.2.2.1 ∧ (zcE.ok y.2.2.2)))) (wt := fun (y : Int × (List S72) × (List ByteArray) × S28) => (zao 3 .i64).wt y.1 ∧ ((zW 25 40 zed).wt y.2.1 ∧ ((zW 26 16 (zad 9)).wt y.2.2.1 ∧ (zcE.wt y.2.2.2)))) (bk := fun (y : Int × (List S72) × (List ByteArray) × S28) => (zao 3 .i64).bk y.1 + ((zW 25 40 zed).bk y.2.1 + ((zW 26 16 (zad 9)).bk y.2.2.1 + (zcE.bk y.2.2.2)))) (zb3 Try.underlying3) rfl rfl (by kernel_rfl) rfl (za2 (o := 1) (o' := 2) (ok := fun (y : (List S72) × (List ByteArray) × S28) => (zW 25 40 zed).ok y.1 ∧ ((zW 26 16 (zad 9)).ok y.2.1 ∧ (zcE.ok y.2.2))) (wt := fun (y : (List S72) × (List ByteArray) × S28) => (zW 25 40 zed).wt y.1 ∧ ((zW 26 16 (zad 9)).wt y.2.1 ∧ (zcE.wt y.2.2))) (bk := fun (y : (List S72) × (List ByteArray) × S28) => (zW 25 40 zed).bk y.1 + ((zW 26 16 (zad 9)).bk y.2.1 + (zcE.bk y.2.2))) (zb3 Try.underlying3) rfl rfl (by kernel_rfl) rfl (za2 (o := 2) (o' := 3) (ok := fun (y : (List ByteArray) × S28) => (zW 26 16 (zad 9)).ok y.1 ∧ (zcE.ok y.2)) (wt := fun (y : (List ByteArray) × S28) => (zW 26 16 (zad 9)).wt y.1 ∧ (zcE.wt y.2)) (bk := fun (y : (List ByteArray) × S28) => (zW 26 16 (zad 9)).bk y.1 + (zcE.bk y.2)) (zcI ziS Try.underlying25 (by kernel_rfl) (by kernel_rfl)) rfl rfl (by kernel_rfl) rfl (za2 (o := 3) (o' := 4) (ok := fun (y : S28) => zcE.ok y) (wt := fun (y : S28) => zcE.wt y) (bk := fun (y : S28) => zcE.bk y) (zcI (zd1 Try.underlying9) Try.underlying26 (by kernel_rfl) (by kernel_rfl)) rfl rfl (by kernel_rfl) rfl (zcX ziQ rfl rfl (by kernel_rfl)))))) Try.underlying30 (by kernel_rfl) (fun x : S30 => (x.f0,x.f1,x.f2,x.f3,x.f4)) (fun y => ⟨y.1,y.2.1,y.2.2.1,y.2.2.2.1,y.2.2.2.2⟩) (fun _ => rfl)
def zbN : Prop := ∀ (a0 : Int) (a1 : List S30) (a2 : Int),(zao 3 .i64).ok a0 → (zW 45 80 zib).ok a1 → (zao 3 .i64).ok a2 → (zao 3 .i64).wt a0 → (zW 45 80 zib).wt a1 → (zao 3 .i64).wt a2 → ∃ k,zd.f k a0 a1 a2 = some true
end Go.Proofs.Ytklhjlaofkngcaa.Px
namespace Go.Proofs.Ytklhjlaofkngcaa.Px
open Go.RowKit Go.Proofs.YtklhjlaofkngcaaW.PrintWords Go.Proofs.YtklhjlaofkngcaaW.PrintLast Go.Proofs.YtklhjlaofkngcaaW.PrintMore
attribute [local go_sem] zx zz zE zF zr zt zy zA
set_option linter.unusedVariables false
set_option linter.unusedSimpArgs false
def ahd (x y : Ent) : Prop := zaJ x.f1.f0 x.f1.f1 y.f1.f0 y.f1.f1 = true
theorem zb2 {x y : Ent} : ahd x y ↔ x.f1.f1 < y.f1.f1 ∨ x.f1.f1 = y.f1.f1 ∧ x.f1.f0 < y.f1.f0 := decide_eq_true_iff
def zeD (L : List Ent) : Prop := L.Pairwise ahd
theorem zcm {x y : Ent} : ∀ {L : List Ent},y ∈ zc1 L x ↔ y = x ∨ y ∈ L
 | [] => by simp [zc1]
 | z :: L => by
  rw [zc1]
  split
  ·simp
  ·rw [List.mem_cons,zcm,List.mem_cons]
   constructor
   ·rintro (h | h | h)
    ·exact .inr (.inl h)
    ·exact .inl h
    ·exact .inr (.inr h)
   ·rintro (h | h | h)
    ·exact .inr (.inl h)
    ·exact .inl h
    ·exact .inr (.inr h)
theorem zdv {x : Ent} : ∀ {L : List Ent},(zc1 L x).length = L.length + 1
 | [] => rfl
 | z :: L => by
  rw [zc1]
  split
  ·rfl
  ·rw [List.length_cons,zdv,List.length_cons]
theorem zec {x : Ent} : ∀ {L : List Ent},zeD L → (∀ y ∈ L,¬ (y.f1.f0 = x.f1.f0 ∧ y.f1.f1 = x.f1.f1)) → zeD (zc1 L x)
 | [],_,_ => List.pairwise_singleton _ _
 | z :: L,h,hn => by
  rw [zc1]
  have hz := hn z (List.mem_cons_self ..)
  rw [zeD,List.pairwise_cons] at h
  split
  ·next hx =>
   have hx' := (zb2 (x := x) (y := z)).1 hx
   rw [zeD,List.pairwise_cons]
   refine ⟨fun y hy => ?_,List.pairwise_cons.2 h⟩
   rcases List.mem_cons.1 hy with rfl | hy
   ·exact hx
   ·have := (zb2).1 (h.1 y hy)
    exact zb2.2 (by omega)
  ·next hx =>
   have hx' : ¬ (x.f1.f1 < z.f1.f1 ∨ x.f1.f1 = z.f1.f1 ∧ x.f1.f0 < z.f1.f0) := fun hc => hx ((zb2 (x := x) (y := z)).2 hc)
   rw [zeD,List.pairwise_cons]
   refine ⟨fun y hy => ?_,zec h.2 fun y hy => hn y (List.mem_cons_of_mem _ hy)⟩
   rcases zcm.1 hy with rfl | hy
   ·exact zb2.2 (by omega)
   ·exact h.1 y hy
theorem zgw : ∀ {L M : List Ent},zeD L → zeD M → (∀ x,x ∈ L ↔ x ∈ M) → L = M
 | [],[],_,_,_ => rfl
 | [],y :: M,_,_,h => absurd ((h y).2 (List.mem_cons_self ..)) List.not_mem_nil
 | x :: L,[],_,_,h => absurd ((h x).1 (List.mem_cons_self ..)) List.not_mem_nil
 | x :: L,y :: M,h1,h2,h => by
  rw [zeD,List.pairwise_cons] at h1 h2
  have irr : ∀ z : Ent,¬ ahd z z := fun z hz => by have := zb2.1 hz;omega
  have asym : ∀ a b : Ent,ahd a b → ¬ ahd b a := fun a b p q => by have := zb2.1 p;have := zb2.1 q;omega
  have hxy : x = y := by
   rcases List.mem_cons.1 ((h x).1 (List.mem_cons_self ..)) with e | e
   ·exact e
   ·rcases List.mem_cons.1 ((h y).2 (List.mem_cons_self ..)) with e2 | e2
    ·exact e2.symm
    ·exact absurd (h1.1 y e2) (asym _ _ (h2.1 x e))
  subst hxy
  rw [zgw h1.2 h2.2 fun z => ⟨fun hz => ?_,fun hz => ?_⟩]
  ·rcases List.mem_cons.1 ((h z).1 (List.mem_cons_of_mem _ hz)) with e | e
   ·subst e;exact absurd (h1.1 z hz) (irr z)
   ·exact e
  ·rcases List.mem_cons.1 ((h z).2 (List.mem_cons_of_mem _ hz)) with e | e
   ·subst e;exact absurd (h2.1 z hz) (irr z)
   ·exact e
def zb7 (n : Int) (v : Vtx) : Ent := ⟨(zR v.f0 v.f1 v.f2 v.f3 v.f4.f0 v.f4.f1 n).1,v⟩
def zeE (n low : Int) (L : List Ent) (v : Vtx) : Int := zdJ n low L v.f0 v.f1 v.f2 v.f3 v.f4.f0 v.f4.f1
def zet (n low : Int) (L : List Ent) (v : Vtx) : List Ent := zgB n low L v.f0 v.f1 v.f2 v.f3 v.f4.f0 v.f4.f1
theorem zcr {n low : Int} {L : List Ent} {v : Vtx} : zeE n low L v = 0 ↔ (zR v.f0 v.f1 v.f2 v.f3 v.f4.f0 v.f4.f1 n).2 = 0 ∧ low < v.f1 ∧ (∀ x ∈ L,x.f0 ≠ (zb7 n v).f0) ∧ (∀ x ∈ L,¬ (x.f1.f0 = v.f0 ∧ x.f1.f1 = v.f1)) ∧ (zbn L low v.f1 v.f3).length = 0 := by
 unfold zeE zdJ
 by_cases h1 : (zR v.f0 v.f1 v.f2 v.f3 v.f4.f0 v.f4.f1 n).2 = 0
 ·rw [if_neg (by simp [h1])]
  by_cases h2 : v.f1 ≤ low
  ·rw [if_pos h2];exact ⟨fun h => absurd h (by decide),fun h => absurd h.2.1 (by omega)⟩
  rw [if_neg h2]
  by_cases h3 : (zcQ L (zR v.f0 v.f1 v.f2 v.f3 v.f4.f0 v.f4.f1 n).1).isSome = true
  ·rw [if_pos h3]
   refine ⟨fun h => absurd h (by decide),fun h => ?_⟩
   rw [zcQ,List.find?_isSome] at h3
   obtain ⟨x,hx,h3⟩ := h3
   exact absurd (of_decide_eq_true h3) (h.2.2.1 x hx)
  rw [if_neg h3]
  by_cases h4 : (byE L v.f0 v.f1).isSome = true
  ·rw [if_pos h4]
   refine ⟨fun h => absurd h (by decide),fun h => ?_⟩
   rw [byE,List.find?_isSome] at h4
   obtain ⟨x,hx,h4⟩ := h4
   exact absurd (of_decide_eq_true h4) (h.2.2.2.1 x hx)
  rw [if_neg h4]
  by_cases h5 : 0 < (zbn L low v.f1 v.f3).length
  ·rw [if_pos h5];exact ⟨fun h => absurd h (by decide),fun h => absurd h.2.2.2.2 (by omega)⟩
  rw [if_neg h5]
  refine ⟨fun _ => ⟨h1,by omega,fun x hx he => h3 ?_,fun x hx he => h4 ?_,by omega⟩,fun _ => rfl⟩
  ·rw [zcQ,List.find?_isSome];exact ⟨x,hx,decide_eq_true he⟩
  ·rw [byE,List.find?_isSome];exact ⟨x,hx,decide_eq_true he⟩
 ·rw [if_pos (by simp [h1])]
  exact ⟨fun h => absurd h h1,fun h => absurd h.1 h1⟩
theorem zc3 {n low : Int} {L : List Ent} {v : Vtx} (h : zeE n low L v = 0) : zet n low L v = zc1 L (zb7 n v) := if_pos h
theorem zgi {n low : Int} {L : List Ent} {v : Vtx} (h : zeE n low L v ≠ 0) : zet n low L v = L := if_neg h
theorem zgJ {L M : List Ent} {low r : Int} {ps : List ByteArray} (h : (zbn L low r ps).length = 0) (hs : ∀ x ∈ L,x ∈ M) : (zbn M low r ps).length = 0 := by
 unfold zbn at h ⊢
 split
 ·rfl
 ·next hl =>
  rw [if_neg hl,List.length_eq_zero_iff,List.filter_eq_nil_iff] at h
  rw [List.length_eq_zero_iff,List.filter_eq_nil_iff]
  intro p hp
  have := h p hp
  simp only [Bool.not_eq_true',Bool.not_eq_false,List.any_eq_true] at this ⊢
  obtain ⟨x,hx,h2⟩ := this
  exact ⟨x,hs x hx,h2⟩
structure zbx (n : Int) (l : List Vtx) (A : Nat → List Ent) : Prop where
 zero : A 0 = []
 why : ∀ i (h : i < l.length),zeE n 0 (A i) l[i] = 0
 next : ∀ i (h : i < l.length),A (i + 1) = zet n 0 (A i) l[i]
theorem zbx.mem {n : Int} {l : List Vtx} {A : Nat → List Ent} (h : zbx n l A) : ∀ i,i ≤ l.length → ∀ x,x ∈ A i ↔ ∃ (j : Nat) (hj : j < l.length),j < i ∧ x = zb7 n l[j]
 | 0,_,x => by
  rw [h.zero]
  exact ⟨fun hx => absurd hx List.not_mem_nil,fun ⟨_,_,hj,_⟩ => absurd hj (Nat.not_lt_zero _)⟩
 | i + 1,hi,x => by
  rw [h.next i hi,zc3 (h.why i hi),zcm,h.mem i (by omega) x]
  constructor
  ·rintro (rfl | ⟨j,hj,h1,h2⟩)
   ·exact ⟨i,hi,by omega,rfl⟩
   ·exact ⟨j,hj,by omega,h2⟩
  ·rintro ⟨j,hj,h1,h2⟩
   rcases Nat.lt_succ_iff_lt_or_eq.1 h1 with h1 | h1
   ·exact .inr ⟨j,hj,h1,h2⟩
   ·subst h1;exact .inl h2
theorem zbx.srt {n : Int} {l : List Vtx} {A : Nat → List Ent} (h : zbx n l A) : ∀ i,i ≤ l.length → zeD (A i)
 | 0,_ => by rw [h.zero];exact List.Pairwise.nil
 | i + 1,hi => by
  rw [h.next i hi,zc3 (h.why i hi)]
  exact zec (h.srt i (by omega)) (zcr.1 (h.why i hi)).2.2.2.1
theorem zbx.apart {n : Int} {l : List Vtx} {A : Nat → List Ent} (h : zbx n l A) (i j : Nat) (hi : i < l.length) (hj : j < i) : (zb7 n l[j]).f0 ≠ (zb7 n l[i]).f0 ∧ ¬ (l[j].f0 = l[i].f0 ∧ l[j].f1 = l[i].f1) := by
 obtain ⟨_,_,h3,h4,_⟩ := zcr.1 (h.why i hi)
 have hm := (h.mem i (by omega) (zb7 n l[j])).2 ⟨j,by omega,hj,rfl⟩
 exact ⟨h3 _ hm,h4 _ hm⟩
theorem zbx.one {n : Int} {l : List Vtx} {A : Nat → List Ent} (h : zbx n l A) (i j : Nat) (hi : i < l.length) (hj : j < l.length) (he : (zb7 n l[j]).f0 = (zb7 n l[i]).f0 ∨ (l[j].f0 = l[i].f0 ∧ l[j].f1 = l[i].f1)) : i = j := by
 rcases Nat.lt_trichotomy i j with hl | hl | hl
 ·have := h.apart j i hj hl
  rcases he with he | he
  ·exact absurd he.symm this.1
  ·exact absurd ⟨he.1.symm,he.2.symm⟩ this.2
 ·exact hl
 ·have := h.apart i j hi hl
  rcases he with he | he
  ·exact absurd he this.1
  ·exact absurd he this.2
structure zdp (n : Int) (l : List Vtx) (B : List Ent) : Prop where
 srt : zeD B
 mem : ∀ x ∈ B,∃ (j : Nat) (hj : j < l.length),x = zb7 n l[j]
theorem zdp.step {n : Int} {l : List Vtx} {A : Nat → List Ent} {B : List Ent} (h : zbx n l A) (hB : zdp n l B) (i : Nat) (hi : i < l.length) : zdp n l (zet n 0 B l[i]) ∧ (∀ x ∈ B,x ∈ zet n 0 B l[i]) ∧ ((∀ (j : Nat) (hj : j < l.length),j < i → zb7 n l[j] ∈ B) → zb7 n l[i] ∈ zet n 0 B l[i]) := by
 by_cases hw : zeE n 0 B l[i] = 0
 ·rw [zc3 hw]
  refine ⟨⟨zec hB.srt (zcr.1 hw).2.2.2.1,fun x hx => ?_⟩,fun x hx => zcm.2 (.inr hx),fun _ => zcm.2 (.inl rfl)⟩
  rcases zcm.1 hx with rfl | hx
  ·exact ⟨i,hi,rfl⟩
  ·exact hB.mem x hx
 ·rw [zgi hw]
  refine ⟨hB,fun x hx => hx,fun hj => ?_⟩
  by_cases hin : zb7 n l[i] ∈ B
  ·exact hin
  ·exfalso
   refine hw (zcr.2 ?_)
   obtain ⟨h1,h2,_,_,h5⟩ := zcr.1 (h.why i hi)
   refine ⟨h1,h2,fun x hx he => ?_,fun x hx he => ?_,zgJ h5 fun x hx => ?_⟩
   ·obtain ⟨j,hj',rfl⟩ := hB.mem x hx
    have := h.one i j hi hj' (.inl he)
    subst this
    exact hin hx
   ·obtain ⟨j,hj',rfl⟩ := hB.mem x hx
    have := h.one i j hi hj' (.inr he)
    subst this
    exact hin hx
   ·obtain ⟨j,hj',hji,rfl⟩ := (h.mem i (by omega) x).1 hx
    exact hj j hj' hji
theorem zdp.all {n : Int} {l : List Vtx} {A : Nat → List Ent} {B : List Ent} (h : zbx n l A) (hB : zdp n l B) (hm : ∀ (j : Nat) (hj : j < l.length),zb7 n l[j] ∈ B) : A l.length = B :=
 zgw (h.srt _ (Nat.le_refl _)) hB.srt fun x => ⟨fun hx => by obtain ⟨j,hj,_,rfl⟩ := (h.mem _ (Nat.le_refl _) x).1 hx;exact hm j hj,fun hx => by obtain ⟨j,hj,rfl⟩ := hB.mem x hx;exact (h.mem _ (Nat.le_refl _) _).2 ⟨j,hj,hj,rfl⟩⟩
def selvedgeref11_Right.B12 : List Nat := [0,1,3,7,15,7,39,127,255,511,7,1031,4095,8191,16383]
theorem zeQ (l : List Ent) (j : Nat) (h : j < l.length) : zg l (j : Int) = l[j] := by
 rw [zg,Int.toNat_natCast,List.getD_eq_getElem?_getD,List.getElem?_eq_getElem h];rfl
structure zgy (x : Ent) : Prop where
 bs : x.f1.f2.length < 4611686018427387904
 tx : ∀ b ∈ x.f1.f2,b.f2.length < 4611686018427387904
 ps : x.f1.f3.length ≤ 8796093022208
 t : ∀ t ∈ x.f1.f3,t.size < 4611686018427387904
instance decEnt : DecidableEq Ent := fun a b => decidable_of_iff (a.f0 = b.f0 ∧ zcp a.f1.f0 a.f1.f1 a.f1.f2 a.f1.f3 a.f1.f4.f0 a.f1.f4.f1 b.f1.f0 b.f1.f1 b.f1.f2 b.f1.f3 b.f1.f4.f0 b.f1.f4.f1 = true) ⟨fun ⟨h0,h1⟩ => by
  rw [zbT] at h1
  obtain ⟨a0,⟨a1,a2,a3,a4,⟨a5,a6⟩⟩⟩ := a;obtain ⟨b0,⟨b1,b2,b3,b4,⟨b5,b6⟩⟩⟩ := b
  simp only at h0 h1
  obtain ⟨rfl,rfl,rfl,rfl,rfl,rfl⟩ := h1
  rw [h0],fun h => by rw [h,zbT];exact ⟨rfl,rfl,rfl,rfl,rfl,rfl,rfl⟩⟩
theorem zdD (a b : List Ent) (hl : a.length = b.length) (ha : a.length < 4611686018427387904) (hs : ∀ x ∈ a,zgy x) (d : Nat) : ∀ j,j + d = a.length →
  Ev (fun k => zi.l0 k a b (j : Int)) (decide (a.drop j = b.drop j)) := by
 induction d with
 | zero =>
  intro j hj
  refine Ev.step (fun k => by rw [zi.l0]) ?_
  refine zak (by omega) (zaC (Ev.now _) ?_)
  rw [List.drop_eq_nil_of_le (by omega),List.drop_eq_nil_of_le (by omega)];rfl
 | succ d ih =>
  intro j hj
  refine Ev.step (fun k => by rw [zi.l0]) ?_
  have h1 : j < a.length := by omega
  have h2 : j < b.length := by omega
  refine zS (by omega) (zS (by omega) (zS (by omega) ?_))
  have hf := hs _ (List.getElem_mem h1)
  have hps := hf.ps
  rw [zeQ a j h1,zeQ b j h2,List.drop_eq_getElem_cons h1,List.drop_eq_getElem_cons h2,zav (by omega) (by omega)]
  refine Ev.bind (zdo _ _ _ _ _ _ _ _ _ _ _ _ hf.bs hf.tx (by omega)) ?_
  by_cases h : a[j] = b[j]
  ·refine zS (by rw [h,zbT];exact ⟨rfl,rfl,rfl,rfl,rfl,rfl⟩) (zS (by rw [h]) (zaC (ih (j + 1) (by omega)) ?_))
   rw [h];exact decide_eq_decide.2 ⟨fun h => by rw [h],fun h => (List.cons.inj h).2⟩
  ·have hno : decide (a[j] :: a.drop (j + 1) = b[j] :: b.drop (j + 1)) = false := decide_eq_false (fun e => h (List.cons.inj e).1)
   rw [hno]
   by_cases hv : zcp a[j].f1.f0 a[j].f1.f1 a[j].f1.f2 a[j].f1.f3 a[j].f1.f4.f0 a[j].f1.f4.f1 b[j].f1.f0 b[j].f1.f1 b[j].f1.f2 b[j].f1.f3 b[j].f1.f4.f0 b[j].f1.f4.f1 = true
   ·refine zS hv (zak (fun e => h ?_) (Ev.now _))
    rw [zb9] at e
    rw [zbT] at hv
    generalize a[j] = p at *
    generalize b[j] = q at *
    obtain ⟨a0,⟨a1,a2,a3,a4,⟨a5,a6⟩⟩⟩ := p;obtain ⟨b0,⟨b1,b2,b3,b4,⟨b5,b6⟩⟩⟩ := q
    simp only at e hv
    obtain ⟨rfl,rfl,rfl,rfl,rfl,rfl⟩ := hv
    rw [e]
   ·exact zak hv (Ev.now _)
theorem zeA (a b : List Ent) (ha : a.length < 4611686018427387904) (hs : ∀ x ∈ a,zgy x) : Ev (fun k => zi.f k a b) (decide (a = b)) := by
 by_cases h : a.length = b.length
 ·exact zS (by omega) (zdD a b h ha hs a.length 0 (by omega))
 ·refine zak (by omega) (zaC (Ev.now _) ?_)
  have : ¬ a = b := fun e => h (by rw [e])
  simp [this]
theorem zez (n lo : Int) (L : List Ent) (n' lo' : Int) (M : List Ent) (ha : L.length < 4611686018427387904) (hs : ∀ x ∈ L,zgy x) : Ev (fun k => zaF.f k n lo L n' lo' M) (decide (L = M ∧ n = n' ∧ lo = lo')) := by
 refine Ev.bind (zeA L M ha hs) ?_
 by_cases h1 : L = M
 ·refine zS (decide_eq_true h1) ?_
  by_cases h2 : n = n'
  ·refine zS h2 (zaC (Ev.now _) ?_)
   by_cases h3 : lo = lo' <;> simp [h1,h2,h3]
  ·exact zak h2 (zaC (Ev.now _) (by simp [h2]))
 ·exact zak (by simp [h1]) (zaC (Ev.now _) (by simp [h1]))
def zfc (n lo : Int) (L : List Ent) : Nat → Nat → Bool
 | 0,_ => true
 | d + 1,j => okE n lo L j (L.getD j z36) && zfc n lo L d (j + 1)
theorem zd9 (n lo : Int) (L : List Ent) : ∀ d j : Nat,zfc n lo L d j = (List.range' j d).all fun i => okE n lo L i (L.getD i z36)
 | 0,_ => rfl
 | d + 1,j => by rw [zfc,zd9 n lo L d (j + 1),List.range'_succ,List.all_cons]
theorem zfG (n lo : Int) (L : List Ent) : zbr n lo L = (zcZ n && decide (0 ≤ lo) && zfc n lo L L.length 0) := by
 rw [zbr,zd9,List.range_eq_range']
theorem zcF : (zR 2 1 [] [] 0 0 4).2 = 0 := by
 rw [zR,if_pos]
 rw [zcC]
 simp [zci,zd6,zbo]
theorem zfl {a r : Int} {bs : List S72} {ps : List ByteArray} {x y n : Int} (h : (zR a r bs ps x y n).2 = 0) : (zR a r bs ps x y n).1.size = 32 := by
 unfold zR at h ⊢
 split
 ·exact zgV _
 ·next hm => rw [if_neg hm] at h;cases h
theorem zge : zal.f = some true := by
 have hz := zfl zcF
 have hv := zcF
 have w1 : wrap64 (1 - 1) ≤ 0 := by rw [zav (by decide) (by decide)];decide
 have l1 : ∀ L : List Ent,zbn L 0 1 [] = [] := fun L => if_pos w1
 have y1 : zdJ 4 0 [] 2 1 [] [] 0 0 = 0 := by
  unfold zdJ
  rw [if_neg (by simp [hv]),if_neg (by decide),if_neg (by simp [zcQ]),if_neg (by simp [byE]),l1,if_neg (by simp)]
 have a1 : zU.f 4 0 ([] : List Ent) 2 1 [] [] 0 0 = some (4,0,[⟨(zR 2 1 [] [] 0 0 4).1,⟨2,1,[],[],⟨0,0⟩⟩⟩],0) := by
  unfold zU.f
  rw [if_pos (by simp),y1,zgB,if_pos y1];rfl
 have y2 : zdJ 4 0 [⟨(zR 2 1 [] [] 0 0 4).1,⟨2,1,[],[],⟨0,0⟩⟩⟩] 2 1 [] [] 0 0 = 8 := by
  unfold zdJ
  rw [if_neg (by simp [hv]),if_neg (by decide),if_pos (by simp [zcQ])]
 have a2 : zU.f 4 0 [⟨(zR 2 1 [] [] 0 0 4).1,⟨2,1,[],[],⟨0,0⟩⟩⟩] 2 1 [] [] 0 0 = some (4,0,[⟨(zR 2 1 [] [] 0 0 4).1,⟨2,1,[],[],⟨0,0⟩⟩⟩],8) := by
  unfold zU.f
  rw [if_pos (by simp),y2,zgB,if_neg (by rw [y2];decide)]
 have r1 : zbr 4 0 [⟨(zR 2 1 [] [] 0 0 4).1,⟨2,1,[],[],⟨0,0⟩⟩⟩] = true := by
  rw [zfG]
  show (zcZ 4 && decide ((0 : Int) ≤ 0) && (okE 4 0 _ 0 _ && true)) = true
  unfold okE
  simp [hv,l1,zci,List.getD]
 unfold zal.f
 rw [a1]
 simp only [Option.bind_some]
 rw [a2]
 simp only [Option.bind_some,if_true,List.length_cons,List.length_nil]
 have e0 : zg [(⟨(zR 2 1 [] [] 0 0 4).1,⟨2,1,[],[],⟨0,0⟩⟩⟩ : Ent)] 0 = ⟨(zR 2 1 [] [] 0 0 4).1,⟨2,1,[],[],⟨0,0⟩⟩⟩ := rfl
 rw [e0]
 rw [if_pos (by decide),if_pos (by decide),if_pos (by show ((zR 2 1 [] [] 0 0 4).1.size : Int) = 32;omega)]
 unfold zai.f
 rw [if_pos (by simp),r1];rfl
end Go.Proofs.Ytklhjlaofkngcaa.Px
namespace Go.Proofs.Ytklhjlaofkngcaa.Pure
open Go.RowKit Go.Proofs.Ytklhjlaofkngcaa.Px Go.Proofs.YtklhjlaofkngcaaW.PrintWords Go.Proofs.YtklhjlaofkngcaaW.PrintLast Go.Proofs.YtklhjlaofkngcaaW.PrintMore
theorem zeR (l : List Vtx) (j : Nat) (h : j < l.length) : zB l (j : Int) = l[j] := by
 rw [zB,Int.toNat_natCast,List.getD_eq_getElem?_getD,List.getElem?_eq_getElem h];rfl
def zdA (n : Int) (l : List Vtx) : Nat → List Ent
 | 0 => []
 | i + 1 => zet n 0 (zdA n l i) (l.getD i z30)
theorem ziT (l : List Vtx) (i : Nat) (h : i < l.length) : l.getD i z30 = l[i] := by
 rw [List.getD_eq_getElem?_getD,List.getElem?_eq_getElem h];rfl
theorem zfq (n lo : Int) (L : List Ent) (v : Vtx) : (zet n lo L v).length ≤ L.length + 1 := by
 by_cases h : zeE n lo L v = 0
 ·rw [zc3 h,zdv];exact Nat.le_refl _
 ·rw [zgi h];exact Nat.le_succ _
theorem zea (n : Int) (l : List Vtx) : ∀ i,(zdA n l i).length ≤ i
 | 0 => Nat.le_refl _
 | i + 1 => Nat.le_trans (zfq ..) (Nat.succ_le_succ (zea n l i))
theorem zg7 (n : Int) (L : List Ent) (hL : L.length < 1466015503701) (v : Vtx) : zU.f n 0 L v.f0 v.f1 v.f2 v.f3 v.f4.f0 v.f4.f1 = some (n,0,zet n 0 L v,zeE n 0 L v) := if_pos hL
theorem zfo (n : Int) (l : List Vtx) (hl : l.length ≤ 40) (fr : Nat) (hfr : fr < l.length) (p : Nat) (hp : p < l.length) (A : List Ent) (hT : zbx n l (zdA n l))
  (hN : ∀ B : List Ent,zdp n l B → B.length ≤ (p + 1) * 40 → (∀ (j : Nat) (hj : j < l.length),j < p + 1 → zb7 n l[j] ∈ B) → Ev (fun k => zd.l1 k l (fr : Int) ((p + 1 : Nat) : Int) n 0 A n 0 B) true) (d : Nat) :
  ∀ (i : Nat) (B : List Ent),i + d = l.length → zdp n l B → B.length ≤ p * 40 + i → (∀ (j : Nat) (hj : j < l.length),j < p → zb7 n l[j] ∈ B) → ((∃ q,q < i ∧ (q + fr) % l.length = p) → zb7 n l[p] ∈ B) →
  Ev (fun k => zd.l2 k l (fr : Int) (p : Int) (i : Int) n 0 A n 0 B) true := by
 induction d with
 | zero =>
  intro i B hi hB hb hm hv
  refine Ev.step (fun k => by rw [zd.l2]) ?_
  refine zak (by omega) ?_
  rw [zav (by omega) (by omega)]
  have hin : zb7 n l[p] ∈ B := hv (by
   by_cases h : fr ≤ p
   ·exact ⟨p - fr,by omega,by rw [show p - fr + fr = p by omega];exact Nat.mod_eq_of_lt hp⟩
   ·exact ⟨p + l.length - fr,by omega,by rw [show p + l.length - fr + fr = p + l.length by omega,Nat.add_mod_right];exact Nat.mod_eq_of_lt hp⟩)
  refine hN B hB (by omega) (fun j hj hjp => ?_)
  rcases Nat.lt_succ_iff_lt_or_eq.1 hjp with h | h
  ·exact hm j hj h
  ·subst h;exact hin
 | succ d ih =>
  intro i B hi hB hb hm hv
  refine Ev.step (fun k => by rw [zd.l2]) ?_
  have hq : (i + fr) % l.length < l.length := Nat.mod_lt _ (by omega)
  have e : Int.tmod (wrap64 ((i : Int) + fr)) (l.length : Int) = (((i + fr) % l.length : Nat) : Int) := by
   rw [zav (by omega) (by omega),Int.tmod_eq_emod_of_nonneg (by omega),Int.natCast_emod,Int.natCast_add]
  rw [e,zav (by omega) (by omega)]
  refine zS (by omega) (zak (by omega) (zS (by omega) (zS (by omega) ?_)))
  have hx := zeR l _ hq
  generalize hqq : (i + fr) % l.length = q at *
  rw [hx]
  have hp40 : p ≤ 40 := by omega
  have hbb : p * 40 ≤ 1600 := by omega
  refine zbD (zg7 n B (by omega) l[q]) ?_
  obtain ⟨s1,s2,s3⟩ := hB.step hT q hq
  refine ih (i + 1) (zet n 0 B l[q]) (by omega) s1 (by have := zfq n 0 B l[q];omega) (fun j hj hjp => s2 _ (hm j hj hjp)) ?_
  rintro ⟨q',hq',hqp⟩
  rcases Nat.lt_succ_iff_lt_or_eq.1 hq' with h | h
  ·exact s2 _ (hv ⟨q',h,hqp⟩)
  ·subst h
   have hqp' : q = p := hqq.symm.trans hqp
   subst hqp'
   exact s3 (fun j hj hjp => hm j hj hjp)
theorem zeW (n : Int) (l : List Vtx) (hl : l.length ≤ 40) (fr : Nat) (hfr : fr < l.length) (hT : zbx n l (zdA n l)) (hs : ∀ v ∈ l,zgy (zb7 n v)) (d : Nat) :
  ∀ (p : Nat) (B : List Ent),p + d = l.length → zdp n l B → B.length ≤ p * 40 → (∀ (j : Nat) (hj : j < l.length),j < p → zb7 n l[j] ∈ B) →
  Ev (fun k => zd.l1 k l (fr : Int) (p : Int) n 0 (zdA n l l.length) n 0 B) true := by
 induction d with
 | zero =>
  intro p B hp hB hb hm
  refine Ev.step (fun k => by rw [zd.l1]) ?_
  have he := hB.all hT (fun j hj => hm j hj (by omega))
  have hlen := zea n l l.length
  refine zak (by omega) (Ev.bind (zez _ _ _ _ _ _ (by omega) (fun x hx => ?_)) (zaC (Ev.now _) ?_))
  ·rw [he] at hx
   obtain ⟨j,hj,rfl⟩ := hB.mem x hx
   exact hs _ (List.getElem_mem hj)
  ·exact decide_eq_true ⟨he,rfl,rfl⟩
 | succ d ih =>
  intro p B hp hB hb hm
  refine Ev.step (fun k => by rw [zd.l1]) ?_
  refine zS (by omega) ?_
  exact zfo n l hl fr hfr p (by omega) _ hT (fun B' h1 h2 h3 => ih (p + 1) B' (by omega) h1 h2 h3) l.length 0 B (by omega) hB (by omega) hm (fun ⟨q,hq,_⟩ => absurd hq (Nat.not_lt_zero _))
theorem zes (n : Int) (l : List Vtx) (hl : l.length ≤ 40) (h0 : 0 < l.length) (turn : Int) (hs : ∀ v ∈ l,zgy (zb7 n v)) (d : Nat) :
  ∀ i : Nat,i + d = l.length → (∀ (j : Nat) (hj : j < l.length),j < i → zeE n 0 (zdA n l j) l[j] = 0) →
  Ev (fun k => zd.l0 k l turn (i : Int) n 0 (zdA n l i) n 0) true := by
 induction d with
 | zero =>
  intro i hi hw
  obtain rfl : i = l.length := by omega
  refine Ev.step (fun k => by rw [zd.l0]) ?_
  have hT : zbx n l (zdA n l) := ⟨rfl,fun i h => hw i h h,fun i h => by rw [zdA,ziT l i h]⟩
  have J2 : ∀ f : Int,0 ≤ f → f < l.length → Ev (fun k => zd.j2 k l f n 0 (zdA n l l.length) n 0) true := by
   intro f f0 f1
   obtain ⟨fr,rfl⟩ := Int.eq_ofNat_of_zero_le f0
   refine Ev.step (fun k => by rw [zd.j2]) ?_
   exact zeW n l hl fr (by omega) hT hs l.length 0 [] (by omega) ⟨List.Pairwise.nil,fun x hx => absurd hx List.not_mem_nil⟩ (Nat.zero_le _) (fun j _ hj => absurd hj (Nat.not_lt_zero _))
  refine zak (by omega) (zak (by omega) ?_)
  by_cases h : Int.tmod turn (l.length : Int) < 0
  ·exact zS h (J2 0 (by omega) (by omega))
  ·exact zak h (J2 _ (by omega) (by have := Int.tmod_lt_of_pos turn (show (0 : Int) < l.length by omega);exact this))
 | succ d ih =>
  intro i hi hw
  refine Ev.step (fun k => by rw [zd.l0]) ?_
  have h1 : i < l.length := by omega
  have hlen := zea n l i
  rw [zeR l i h1,zav (by omega) (by omega)]
  refine zS (by omega) (zS (by omega) (zbD (zg7 n _ (by omega) l[i]) ?_))
  by_cases h : zeE n 0 (zdA n l i) l[i] = 0
  ·refine zS h ?_
   have := ih (i + 1) (by omega) (fun j hj hji => by
    rcases Nat.lt_succ_iff_lt_or_eq.1 hji with h2 | h2
    ·exact hw j hj h2
    ·subst h2;exact h)
   rw [zdA,ziT l i h1] at this
   exact this
  ·exact zak h (Ev.now _)
theorem DagOrder : zbN := by
 rintro n l turn _ _ _ _ ⟨_,l2⟩ _
 show ∃ k,zd.f k n l turn = some true
 have hs : ∀ v ∈ l,zgy (zb7 n v) := fun x hx => by
  obtain ⟨_,_,⟨v1,v2⟩,⟨p1,p2⟩,_⟩ := l2 x hx
  have v1' : x.f2.length * 40 ≤ 140737488351232 := v1
  have p1' : x.f3.length * 16 ≤ 140737488351232 := p1
  refine ⟨by show x.f2.length < _;omega,fun b hb => ?_,by show x.f3.length ≤ _;omega,fun t ht => ?_⟩
  ·obtain ⟨_,_,q1,_⟩ := v2 b hb
   have q1' : b.f2.length * 16 ≤ 140737488351232 := q1
   omega
  ·have t1 : t.size ≤ 140737488351232 := p2 t ht
   omega
 refine Ev.rounds (zbD zge (zS rfl ?_))
 by_cases hf : (l.length : Int) > 40
 ·refine zS hf (Ev.step (fun k => by rw [zd.j0]) ?_)
  exact zS rfl (Ev.now _)
 ·refine zak hf (Ev.step (fun k => by rw [zd.j0]) ?_)
  by_cases h0 : l.length = 0
  ·exact zS (by rw [h0];rfl) (Ev.now _)
  ·refine zak (by simp [h0]) ?_
   exact zes n l (by omega) (by omega) turn hs l.length 0 (by omega) (fun j _ hj => absurd hj (Nat.not_lt_zero _))
end Go.Proofs.Ytklhjlaofkngcaa.Pure