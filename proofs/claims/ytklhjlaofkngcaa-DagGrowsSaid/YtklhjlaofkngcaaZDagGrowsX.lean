/- Part 24 of 25 of the proof of the law DagGrows: what is proved is the statement at the end of the last part; its conditions are those of the given row. -/
import Derived.Test.YtklhjlaofkngcaaRows
import Derived.Deep.Slices
import Derived.ChangeArms
import Derived.SizedLaws
import Derived.WideOpen
import Derived.Test.YtklhjlaofkngcaaZDagGrowsW
namespace Go.Proofs.Ytklhjlaofkngcaa.Px
open Go.RowKit Go.Proofs.YtklhjlaofkngcaaW.PrintWords Go.Proofs.YtklhjlaofkngcaaW.PrintLast Go.Proofs.YtklhjlaofkngcaaW.PrintMore
attribute [local go_sem] zw zy zC zD zr zt zx zz
set_option linter.unusedVariables false
set_option linter.unusedSimpArgs false
structure Rd (α : Type) where
 t : TypeId
 d : Kd α
 ok : α → Prop
 wt : α → Prop
 bk : α → Nat
structure zde {α : Type} (P : Program) (r : Rd α) : Prop where
 out : ∀ {H : Type} {enc : TypeId × Value → H} {w : World} {fuel : Nat} {cs : List Value} {x : DataW H × List MemPlace},DataW.trod enc P w 0 (fun _ => true) true fuel r.t cs = some x →
  ∃ a,r.d.K w a cs ∧ r.ok a ∧ ((∀ n ∈ x.1.weights P r.t,n ≤ reachBytes) → r.wt a) ∧ r.bk a ≤ Rows.uptoBulk x.1
def zal (t : TypeId) (k : IntKind) : Rd Int := ⟨t,Kd.int k,fun a => (Lit.int k a).wf = true,fun _ => True,fun _ => 1⟩
def z4 (t : TypeId) : Rd ByteArray := ⟨t,Kd.string,fun a => a.size ≤ maxLen,fun a => a.size ≤ reachBytes,fun a => a.size + 1⟩
def zL {α : Type} (t : TypeId) (B : Nat) (r : Rd α) : Rd (List α) :=
 ⟨t,Kd.slice r.t r.d,fun l => l.length ≤ maxLen ∧ ∀ a ∈ l,r.ok a,fun l => l.length * B ≤ reachBytes ∧ ∀ a ∈ l,r.wt a,fun l => (l.map r.bk).sum + 1⟩
section
variable {P : Program}
theorem zb8 {t : TypeId} {k : IntKind} (h : P.underlying t = some (.int k)) : zde P (zal t k) := by
 constructor
 intro H enc w fuel cs x hx
 obtain ⟨n,rfl,rfl,hw⟩ := DataW.trod_int h hx
 exact ⟨n,rfl,hw,fun _ => trivial,by simp [zal,Rows.uptoBulk]⟩
theorem zc0 {t : TypeId} (h : P.underlying t = some .string) : zde P (z4 t) := by
 constructor
 intro H enc w fuel cs x hx
 obtain ⟨s,rfl,rfl,hs⟩ := DataW.trod_string h hx
 have e : s.data.toList.length = s.size := by rw [Array.length_toList];rfl
 refine ⟨s,rfl,hs,fun hn => ?_,by simp only [z4,Rows.uptoBulk,e];exact Nat.le_refl _⟩
 have := hn s.data.toList.length (by simp [DataW.weights])
 rwa [e] at this
theorem zfq {H α : Type} (f : Nat → DataW H) (g : Nat → α) (bk : α → Nat) (n : Nat) (h : ∀ i,i < n → bk (g i) ≤ Rows.uptoBulk (f i)) : (((List.range n).map g).map bk).sum ≤ Rows.uptoBulkAll ((List.range n).map f) := by
 suffices k : ∀ l : List Nat,(∀ i ∈ l,i < n) → ((l.map g).map bk).sum ≤ Rows.uptoBulkAll (l.map f) from k _ (fun i hi => List.mem_range.1 hi)
 intro l
 induction l with
 | nil => intro _;simp
 | cons i l ih =>
  intro hl
  have h1 := h i (hl i List.mem_cons_self)
  have h2 := ih (fun j hj => hl j (List.mem_cons_of_mem _ hj))
  simp only [List.map_cons,List.sum_cons,Rows.uptoBulkAll]
  omega
theorem zcJ {H : Type} {e : TypeId} : ∀ {l : List (DataW H)} {d : DataW H} {n : Nat},d ∈ l → n ∈ d.weights P e → n ∈ DataW.weightsAll P e l
 | x :: l,d,n,hd,hn => by
  simp only [DataW.weightsAll,List.mem_append]
  rcases List.mem_cons.1 hd with rfl | hd
  ·exact .inl hn
  ·exact .inr (zcJ hd hn)
theorem zcL {α : Type} [Inhabited α] {r : Rd α} (hr : zde P r) {t : TypeId} {B : Nat} (h : P.underlying t = some (.slice r.t)) (hc : P.cellsOf r.t = r.d.sz) (hB : P.bytesOf r.t = B) : zde P (zL t B r) := by
 constructor
 intro H enc w fuel cs x hx
 rcases Deep.open_slice h hx with ⟨rfl,rfl⟩ | ⟨a,len,cap,m,n,D,Pl,rfl,_,hl,hm,hmm,rfl,hel⟩
 ·exact ⟨[],⟨none,0,rfl,Nat.le_refl _,Kd.C_nil _ _⟩,⟨Nat.zero_le _,by simp⟩,fun _ => ⟨by simp,by simp⟩,by simp [zL,Rows.uptoBulk]⟩
 ·simp only [if_true] at hmm
  subst hmm
  obtain ⟨f,hf⟩ := Deep.choose_lt (α := α) (n := len) (p := fun i v => ∃ c,w.cells? 0 (a.add (i * P.cellsOf r.t)) (P.cellsOf r.t) = some c ∧ r.d.K w v c ∧ r.ok v ∧ ((∀ q ∈ (D i).weights P r.t,q ≤ reachBytes) → r.wt v) ∧ r.bk v ≤ Rows.uptoBulk (D i)) (fun i hi => by
   obtain ⟨cs',h1,h2⟩ := hel i (by omega)
   obtain ⟨v,k1,k2,k3,k4⟩ := hr.out h2
   exact ⟨v,cs',h1,k1,k2,k3,k4⟩)
  have hlen : ((List.range len).map f).length = len := by simp
  refine ⟨(List.range len).map f,⟨some a,m,by rw [hlen],by rw [hlen];exact hl,?_⟩,⟨by rw [hlen];omega,?_⟩,fun hw => ⟨?_,?_⟩,?_⟩
  ·rw [hlen]
   refine ⟨hlen,by unfold maxLen at hm;omega,fun _ => ⟨a,rfl,fun j p hj => ?_⟩⟩
   have hjl : j < len := by
    have := (List.getElem?_eq_some_iff.1 hj).1
    simpa using this
   obtain ⟨c,c1,c2,_⟩ := hf j hjl
   have hp : f j = p := by simpa [List.getElem?_map,List.getElem?_range hjl] using hj
   obtain ⟨_,l2,l3⟩ := World.cells?_some c1
   refine ⟨c,by rw [l2,hc],hp ▸ c2,fun i u hu => ?_⟩
   have hi : i < P.cellsOf r.t := by rw [← l2];exact (List.getElem?_eq_some_iff.1 hu).1
   rw [← hc,← Deep.add_add,l3 i hi]
   exact hu
  ·intro v hv
   obtain ⟨i,hi,rfl⟩ := List.mem_map.1 hv
   obtain ⟨c,_,_,h3,_⟩ := hf i (List.mem_range.1 hi)
   exact h3
  ·have := hw ((((List.range len).map D).length + ((List.range (m - len)).map fun j => D (len + j)).length) * P.bytesOf r.t) (by show _ ∈ DataW.weights P t _;simp only [DataW.weights,h];exact List.mem_cons_self)
   rw [hlen]
   rw [hB] at this
   simp only [List.length_map,List.length_range] at this
   exact Nat.le_trans (Nat.mul_le_mul_right _ (by omega)) this
  ·intro v hv
   obtain ⟨i,hi,rfl⟩ := List.mem_map.1 hv
   obtain ⟨c,_,_,_,h4,_⟩ := hf i (List.mem_range.1 hi)
   refine h4 (fun q hq => hw q ?_)
   show _ ∈ DataW.weights P t _
   simp only [DataW.weights,h]
   exact List.mem_cons_of_mem _ (List.mem_append_left _ (zcJ (List.mem_map.2 ⟨i,hi,rfl⟩) hq))
  ·simp only [zL,Rows.uptoBulk]
   have := zfq D f r.bk len (fun i hi => (hf i hi).choose_spec.2.2.2.2)
   omega
structure zcK {β : Type} (P : Program) (fs : List Field) (o : Nat) (d : Kd β) (ok wt : β → Prop) (bk : β → Nat) : Prop where
 out : ∀ {H : Type} {enc : TypeId × Value → H} {w : World} {n : Nat} {cs : List Value} {xs : List (DataW H × List MemPlace)},xs.length = fs.length → cs.length = o + d.sz →
  (∀ (i : Nat) (f : Field),fs[i]? = some f → DataW.trod enc P w 0 (fun _ => true) true n f.type ((cs.drop f.offset).take (P.cellsOf f.type)) = xs[i]?) →
  ∃ b,d.K w b (cs.drop o) ∧ ok b ∧ ((∀ q ∈ DataW.weightsEach P (fs.map (·.type)) (xs.map (·.1)),q ≤ reachBytes) → wt b) ∧ bk b ≤ Rows.uptoBulkAll (xs.map (·.1))
theorem zbV {α : Type} {r : Rd α} (hr : zde P r) {f : Field} (ht : f.type = r.t) {o : Nat} (ho : f.offset = o) (hc : P.cellsOf r.t = r.d.sz) : zcK P [f] o r.d r.ok r.wt r.bk := by
 constructor
 intro H enc w n cs xs hl hcs hx
 match xs,hl with
 | [x],_ =>
  have h := hx 0 f rfl
  rw [ho,ht,hc,List.take_of_length_le (by rw [List.length_drop];omega)] at h
  obtain ⟨a,h1,h2,h3,h4⟩ := hr.out h
  refine ⟨a,h1,h2,fun hq => h3 (fun q hm => hq q ?_),by simp [Rows.uptoBulkAll];omega⟩
  simp only [List.map_cons,List.map_nil,DataW.weightsEach,List.mem_append,ht]
  exact .inl hm
theorem zaF {α β : Type} {r : Rd α} (hr : zde P r) {f : Field} (ht : f.type = r.t) {fs : List Field} {o o' : Nat} (ho : f.offset = o) (hc : P.cellsOf r.t = r.d.sz) (ho' : o' = o + r.d.sz) {d : Kd β} {ok wt : β → Prop} {bk : β → Nat} (hfs : zcK P fs o' d ok wt bk) :
  zcK P (f :: fs) o (Kd.pair r.d d) (fun x => r.ok x.1 ∧ ok x.2) (fun x => r.wt x.1 ∧ wt x.2) (fun x => r.bk x.1 + bk x.2) := by
 constructor
 intro H enc w n cs xs hl hcs hx
 match xs,hl with
 | x :: xs,hl =>
  have h := hx 0 f rfl
  have hcs' : cs.length = o + (r.d.sz + d.sz) := hcs
  rw [ho,ht,hc] at h
  obtain ⟨a,h1,h2,h3,h4⟩ := hr.out h
  obtain ⟨b,k1,k2,k3,k4⟩ := hfs.out (enc := enc) (w := w) (n := n) (cs := cs) (xs := xs) (by simpa using hl) (by omega) (fun i g hg => hx (i + 1) g hg)
  refine ⟨(a,b),⟨(cs.drop o).take r.d.sz,cs.drop o',?_,h1,k1⟩,⟨h2,k2⟩,fun hq => ⟨h3 (fun q hm => hq q ?_),k3 (fun q hm => hq q ?_)⟩,?_⟩
  ·rw [ho',← List.drop_drop,List.take_append_drop]
  ·simp only [List.map_cons,DataW.weightsEach,List.mem_append,ht]
   exact .inl hm
  ·simp only [List.map_cons,DataW.weightsEach,List.mem_append]
   exact .inr hm
  ·simp only [List.map_cons,Rows.uptoBulkAll];omega
def zcq {α β : Type} (t : TypeId) (d : Kd β) (f : α → β) (ok wt : β → Prop) (bk : β → Nat) : Rd α := ⟨t,Kd.iso d f,fun a => ok (f a),fun a => wt (f a),fun a => bk (f a) + 1⟩
theorem zbW {α β : Type} {t : TypeId} {fs : List Field} {d : Kd β} {ok wt : β → Prop} {bk : β → Nat} (hfs : zcK P fs 0 d ok wt bk) (h : P.underlying t = some (.struct fs.toArray)) (hc : P.cellsOf t = d.sz) (f : α → β) (g : β → α) (hfg : ∀ b,f (g b) = b) : zde P (zcq t d f ok wt bk) := by
 constructor
 intro H enc w fuel cs x hx
 obtain ⟨xs,n,rfl,rfl,hl,hn,hf⟩ := DataW.trod_struct h hx
 obtain ⟨b,k1,k2,k3,k4⟩ := hfs.out (enc := enc) (w := w) (n := n) (cs := cs) (xs := xs) (by simpa using hn) (by omega) (fun i g hg => hf i g (by simpa using hg))
 refine ⟨g b,?_,?_,fun hq => ?_,?_⟩
 ·show d.K w (f (g b)) cs
  rw [hfg]
  exact k1
 ·show ok (f (g b))
  rw [hfg]
  exact k2
 ·show wt (f (g b))
  rw [hfg]
  refine k3 (fun q hm => hq q ?_)
  show _ ∈ DataW.weights P t _
  simp only [DataW.weights,h]
  exact hm
 ·show bk (f (g b)) + 1 ≤ _
  rw [hfg]
  simp only [Rows.uptoBulk]
  omega
end
theorem zgm {α H : Type} {P : Program} {r : Rd α} (hr : zde P r) {enc : TypeId × Value → H} {w : World} {v : Value} {d : DataW H} {ps : List MemPlace} (h : DataW.Trod enc P w 0 (fun _ => true) true r.t v d ps) :
  ∃ a,r.d.K w a v.cells.toList ∧ r.ok a ∧ ((∀ n ∈ d.weights P r.t,n ≤ reachBytes) → r.wt a) ∧ r.bk a ≤ Rows.uptoBulk d := by
 obtain ⟨fuel,hf⟩ := h
 exact hr.out hf
end Go.Proofs.Ytklhjlaofkngcaa.Px
namespace Go.Proofs.Ytklhjlaofkngcaa.Px
open Go.RowKit Go.Proofs.Ytklhjlaofkngcaa.Px Go.Proofs.YtklhjlaofkngcaaW.PrintWords Go.Proofs.YtklhjlaofkngcaaW.PrintLast Go.Proofs.YtklhjlaofkngcaaW.PrintMore
set_option linter.unusedVariables false
instance : Inhabited S72 := ⟨z72⟩
def zec : Rd S72 := zcq 72 (Kd.pair (zal 3 .i64).d (Kd.pair (zal 3 .i64).d (zL 26 16 (z4 9)).d)) (fun x : S72 => (x.f0,x.f1,x.f2)) (fun y => (zal 3 .i64).ok y.1 ∧ ((zal 3 .i64).ok y.2.1 ∧ ((zL 26 16 (z4 9)).ok y.2.2))) (fun y => (zal 3 .i64).wt y.1 ∧ ((zal 3 .i64).wt y.2.1 ∧ ((zL 26 16 (z4 9)).wt y.2.2))) (fun y => (zal 3 .i64).bk y.1 + ((zal 3 .i64).bk y.2.1 + ((zL 26 16 (z4 9)).bk y.2.2)))
theorem ziS : zde Try.prog zec :=
 zbW (zaF (o := 0) (o' := 1) (ok := fun (y : Int × (List ByteArray)) => (zal 3 .i64).ok y.1 ∧ ((zL 26 16 (z4 9)).ok y.2)) (wt := fun (y : Int × (List ByteArray)) => (zal 3 .i64).wt y.1 ∧ ((zL 26 16 (z4 9)).wt y.2)) (bk := fun (y : Int × (List ByteArray)) => (zal 3 .i64).bk y.1 + ((zL 26 16 (z4 9)).bk y.2)) (zb8 Try.underlying3) rfl rfl (by kernel_rfl) rfl (zaF (o := 1) (o' := 2) (ok := fun (y : (List ByteArray)) => (zL 26 16 (z4 9)).ok y) (wt := fun (y : (List ByteArray)) => (zL 26 16 (z4 9)).wt y) (bk := fun (y : (List ByteArray)) => (zL 26 16 (z4 9)).bk y) (zb8 Try.underlying3) rfl rfl (by kernel_rfl) rfl (zbV (zcL (zc0 Try.underlying9) Try.underlying26 (by kernel_rfl) (by kernel_rfl)) rfl rfl (by kernel_rfl)))) Try.underlying72 (by kernel_rfl) (fun x : S72 => (x.f0,x.f1,x.f2)) (fun y => ⟨y.1,y.2.1,y.2.2⟩) (fun _ => rfl)
instance : Inhabited S28 := ⟨z28⟩
def zcH : Rd S28 := zcq 28 (Kd.pair (zal 3 .i64).d (zal 3 .i64).d) (fun x : S28 => (x.f0,x.f1)) (fun y => (zal 3 .i64).ok y.1 ∧ ((zal 3 .i64).ok y.2)) (fun y => (zal 3 .i64).wt y.1 ∧ ((zal 3 .i64).wt y.2)) (fun y => (zal 3 .i64).bk y.1 + ((zal 3 .i64).bk y.2))
theorem ziQ : zde Try.prog zcH :=
 zbW (zaF (o := 0) (o' := 1) (ok := fun (y : Int) => (zal 3 .i64).ok y) (wt := fun (y : Int) => (zal 3 .i64).wt y) (bk := fun (y : Int) => (zal 3 .i64).bk y) (zb8 Try.underlying3) rfl rfl (by kernel_rfl) rfl (zbV (zb8 Try.underlying3) rfl rfl (by kernel_rfl))) Try.underlying28 (by kernel_rfl) (fun x : S28 => (x.f0,x.f1)) (fun y => ⟨y.1,y.2⟩) (fun _ => rfl)
instance : Inhabited S30 := ⟨z30⟩
def zea : Rd S30 := zcq 30 (Kd.pair (zal 3 .i64).d (Kd.pair (zal 3 .i64).d (Kd.pair (zL 25 40 zec).d (Kd.pair (zL 26 16 (z4 9)).d zcH.d)))) (fun x : S30 => (x.f0,x.f1,x.f2,x.f3,x.f4)) (fun y => (zal 3 .i64).ok y.1 ∧ ((zal 3 .i64).ok y.2.1 ∧ ((zL 25 40 zec).ok y.2.2.1 ∧ ((zL 26 16 (z4 9)).ok y.2.2.2.1 ∧ (zcH.ok y.2.2.2.2))))) (fun y => (zal 3 .i64).wt y.1 ∧ ((zal 3 .i64).wt y.2.1 ∧ ((zL 25 40 zec).wt y.2.2.1 ∧ ((zL 26 16 (z4 9)).wt y.2.2.2.1 ∧ (zcH.wt y.2.2.2.2))))) (fun y => (zal 3 .i64).bk y.1 + ((zal 3 .i64).bk y.2.1 + ((zL 25 40 zec).bk y.2.2.1 + ((zL 26 16 (z4 9)).bk y.2.2.2.1 + (zcH.bk y.2.2.2.2)))))
theorem zig : zde Try.prog zea :=
 zbW (zaF (o := 0) (o' := 1) (ok := fun (y : Int × (List S72) × (List ByteArray) × S28) => (zal 3 .i64).ok y.1 ∧ ((zL 25 40 zec).ok y.2.1 ∧ ((zL 26 16 (z4 9)).ok y.2.2.1 ∧ (zcH.ok y.2.2.2)))) (wt := fun (y : Int × (List S72) × (List ByteArray) × S28) => (zal 3 .i64).wt y.1 ∧ ((zL 25 40 zec).wt y.2.1 ∧ ((zL 26 16 (z4 9)).wt y.2.2.1 ∧ (zcH.wt y.2.2.2)))) (bk := fun (y : Int × (List S72) × (List ByteArray) × S28) => (zal 3 .i64).bk y.1 + ((zL 25 40 zec).bk y.2.1 + ((zL 26 16 (z4 9)).bk y.2.2.1 + (zcH.bk y.2.2.2)))) (zb8 Try.underlying3) rfl rfl (by kernel_rfl) rfl (zaF (o := 1) (o' := 2) (ok := fun (y : (List S72) × (List ByteArray) × S28) => (zL 25 40 zec).ok y.1 ∧ ((zL 26 16 (z4 9)).ok y.2.1 ∧ (zcH.ok y.2.2))) (wt := fun (y : (List S72) × (List ByteArray) × S28) => (zL 25 40 zec).wt y.1 ∧ ((zL 26 16 (z4 9)).wt y.2.1 ∧ (zcH.wt y.2.2))) (bk := fun (y : (List S72) × (List ByteArray) × S28) => (zL 25 40 zec).bk y.1 + ((zL 26 16 (z4 9)).bk y.2.1 + (zcH.bk y.2.2))) (zb8 Try.underlying3) rfl rfl (by kernel_rfl) rfl (zaF (o := 2) (o' := 3) (ok := fun (y : (List ByteArray) × S28) => (zL 26 16 (z4 9)).ok y.1 ∧ (zcH.ok y.2)) (wt := fun (y : (List ByteArray) × S28) => (zL 26 16 (z4 9)).wt y.1 ∧ (zcH.wt y.2)) (bk := fun (y : (List ByteArray) × S28) => (zL 26 16 (z4 9)).bk y.1 + (zcH.bk y.2)) (zcL ziS Try.underlying25 (by kernel_rfl) (by kernel_rfl)) rfl rfl (by kernel_rfl) rfl (zaF (o := 3) (o' := 4) (ok := fun (y : S28) => zcH.ok y) (wt := fun (y : S28) => zcH.wt y) (bk := fun (y : S28) => zcH.bk y) (zcL (zc0 Try.underlying9) Try.underlying26 (by kernel_rfl) (by kernel_rfl)) rfl rfl (by kernel_rfl) rfl (zbV ziQ rfl rfl (by kernel_rfl)))))) Try.underlying30 (by kernel_rfl) (fun x : S30 => (x.f0,x.f1,x.f2,x.f3,x.f4)) (fun y => ⟨y.1,y.2.1,y.2.2.1,y.2.2.2.1,y.2.2.2.2⟩) (fun _ => rfl)
instance : Inhabited S36 := ⟨z36⟩
def zeb : Rd S36 := zcq 36 (Kd.pair (z4 9).d zea.d) (fun x : S36 => (x.f0,x.f1)) (fun y => (z4 9).ok y.1 ∧ (zea.ok y.2)) (fun y => (z4 9).wt y.1 ∧ (zea.wt y.2)) (fun y => (z4 9).bk y.1 + (zea.bk y.2))
theorem ziR : zde Try.prog zeb :=
 zbW (zaF (o := 0) (o' := 1) (ok := fun (y : S30) => zea.ok y) (wt := fun (y : S30) => zea.wt y) (bk := fun (y : S30) => zea.bk y) (zc0 Try.underlying9) rfl rfl (by kernel_rfl) rfl (zbV zig rfl rfl (by kernel_rfl))) Try.underlying36 (by kernel_rfl) (fun x : S36 => (x.f0,x.f1)) (fun y => ⟨y.1,y.2⟩) (fun _ => rfl)
instance : Inhabited S24 := ⟨z24⟩
def zib : Rd S24 := zcq 24 (Kd.pair (zal 3 .i64).d (Kd.pair (zal 3 .i64).d (zL 22 96 zeb).d)) (fun x : S24 => (x.f0,x.f1,x.f2)) (fun y => (zal 3 .i64).ok y.1 ∧ ((zal 3 .i64).ok y.2.1 ∧ ((zL 22 96 zeb).ok y.2.2))) (fun y => (zal 3 .i64).wt y.1 ∧ ((zal 3 .i64).wt y.2.1 ∧ ((zL 22 96 zeb).wt y.2.2))) (fun y => (zal 3 .i64).bk y.1 + ((zal 3 .i64).bk y.2.1 + ((zL 22 96 zeb).bk y.2.2)))
theorem ziP : zde Try.prog zib :=
 zbW (zaF (o := 0) (o' := 1) (ok := fun (y : Int × (List S36)) => (zal 3 .i64).ok y.1 ∧ ((zL 22 96 zeb).ok y.2)) (wt := fun (y : Int × (List S36)) => (zal 3 .i64).wt y.1 ∧ ((zL 22 96 zeb).wt y.2)) (bk := fun (y : Int × (List S36)) => (zal 3 .i64).bk y.1 + ((zL 22 96 zeb).bk y.2)) (zb8 Try.underlying3) rfl rfl (by kernel_rfl) rfl (zaF (o := 1) (o' := 2) (ok := fun (y : (List S36)) => (zL 22 96 zeb).ok y) (wt := fun (y : (List S36)) => (zL 22 96 zeb).wt y) (bk := fun (y : (List S36)) => (zL 22 96 zeb).bk y) (zb8 Try.underlying3) rfl rfl (by kernel_rfl) rfl (zbV (zcL ziR Try.underlying22 (by kernel_rfl) (by kernel_rfl)) rfl rfl (by kernel_rfl)))) Try.underlying24 (by kernel_rfl) (fun x : S24 => (x.f0,x.f1,x.f2)) (fun y => ⟨y.1,y.2.1,y.2.2⟩) (fun _ => rfl)
def zbN : Prop := ∀ (a0 : S24) (a1 : S30),zib.ok a0 → zea.ok a1 → zib.wt a0 → zea.wt a1 → ∃ k,ze.f k (a0.f0) (a0.f1) (a0.f2) (a1.f0) (a1.f1) (a1.f2) (a1.f3) (a1.f4.f0) (a1.f4.f1) = some true
end Go.Proofs.Ytklhjlaofkngcaa.Px
namespace Go.Proofs.Ytklhjlaofkngcaa.Px
open Go.RowKit Go.Proofs.YtklhjlaofkngcaaW.PrintWords Go.Proofs.YtklhjlaofkngcaaW.PrintLast Go.Proofs.YtklhjlaofkngcaaW.PrintMore
attribute [local go_sem] zw zy zC zD zr zt zx zz
set_option linter.unusedVariables false
set_option linter.unusedSimpArgs false
def ahd (x y : Ent) : Prop := zaK x.f1.f0 x.f1.f1 y.f1.f0 y.f1.f1 = true
theorem zb7 {x y : Ent} : ahd x y ↔ x.f1.f1 < y.f1.f1 ∨ x.f1.f1 = y.f1.f1 ∧ x.f1.f0 < y.f1.f0 := decide_eq_true_iff
def zeC (L : List Ent) : Prop := L.Pairwise ahd
theorem zb1 {x y : Ent} : ∀ {L : List Ent},y ∈ zbm L x ↔ y = x ∨ y ∈ L
 | [] => by simp [zbm]
 | z :: L => by
  rw [zbm]
  split
  ·simp
  ·rw [List.mem_cons,zb1,List.mem_cons]
   constructor
   ·rintro (h | h | h)
    ·exact .inr (.inl h)
    ·exact .inl h
    ·exact .inr (.inr h)
   ·rintro (h | h | h)
    ·exact .inr (.inl h)
    ·exact .inl h
    ·exact .inr (.inr h)
theorem zdv {x : Ent} : ∀ {L : List Ent},(zbm L x).length = L.length + 1
 | [] => rfl
 | z :: L => by
  rw [zbm]
  split
  ·rfl
  ·rw [List.length_cons,zdv,List.length_cons]
theorem zd9 {x : Ent} : ∀ {L : List Ent},zeC L → (∀ y ∈ L,¬ (y.f1.f0 = x.f1.f0 ∧ y.f1.f1 = x.f1.f1)) → zeC (zbm L x)
 | [],_,_ => List.pairwise_singleton _ _
 | z :: L,h,hn => by
  rw [zbm]
  have hz := hn z (List.mem_cons_self ..)
  rw [zeC,List.pairwise_cons] at h
  split
  ·next hx =>
   have hx' := (zb7 (x := x) (y := z)).1 hx
   rw [zeC,List.pairwise_cons]
   refine ⟨fun y hy => ?_,List.pairwise_cons.2 h⟩
   rcases List.mem_cons.1 hy with rfl | hy
   ·exact hx
   ·have := (zb7).1 (h.1 y hy)
    exact zb7.2 (by omega)
  ·next hx =>
   have hx' : ¬ (x.f1.f1 < z.f1.f1 ∨ x.f1.f1 = z.f1.f1 ∧ x.f1.f0 < z.f1.f0) := fun hc => hx ((zb7 (x := x) (y := z)).2 hc)
   rw [zeC,List.pairwise_cons]
   refine ⟨fun y hy => ?_,zd9 h.2 fun y hy => hn y (List.mem_cons_of_mem _ hy)⟩
   rcases zb1.1 hy with rfl | hy
   ·exact zb7.2 (by omega)
   ·exact h.1 y hy
theorem zgy : ∀ {L M : List Ent},zeC L → zeC M → (∀ x,x ∈ L ↔ x ∈ M) → L = M
 | [],[],_,_,_ => rfl
 | [],y :: M,_,_,h => absurd ((h y).2 (List.mem_cons_self ..)) List.not_mem_nil
 | x :: L,[],_,_,h => absurd ((h x).1 (List.mem_cons_self ..)) List.not_mem_nil
 | x :: L,y :: M,h1,h2,h => by
  rw [zeC,List.pairwise_cons] at h1 h2
  have irr : ∀ z : Ent,¬ ahd z z := fun z hz => by have := zb7.1 hz;omega
  have asym : ∀ a b : Ent,ahd a b → ¬ ahd b a := fun a b p q => by have := zb7.1 p;have := zb7.1 q;omega
  have hxy : x = y := by
   rcases List.mem_cons.1 ((h x).1 (List.mem_cons_self ..)) with e | e
   ·exact e
   ·rcases List.mem_cons.1 ((h y).2 (List.mem_cons_self ..)) with e2 | e2
    ·exact e2.symm
    ·exact absurd (h1.1 y e2) (asym _ _ (h2.1 x e))
  subst hxy
  rw [zgy h1.2 h2.2 fun z => ⟨fun hz => ?_,fun hz => ?_⟩]
  ·rcases List.mem_cons.1 ((h z).1 (List.mem_cons_of_mem _ hz)) with e | e
   ·subst e;exact absurd (h1.1 z hz) (irr z)
   ·exact e
  ·rcases List.mem_cons.1 ((h z).2 (List.mem_cons_of_mem _ hz)) with e | e
   ·subst e;exact absurd (h2.1 z hz) (irr z)
   ·exact e
def zc5 (n : Int) (v : Vtx) : Ent := ⟨(zO v.f0 v.f1 v.f2 v.f3 v.f4.f0 v.f4.f1 n).1,v⟩
def zgi (n low : Int) (L : List Ent) (v : Vtx) : Int := zdq n low L v.f0 v.f1 v.f2 v.f3 v.f4.f0 v.f4.f1
def zfU (n low : Int) (L : List Ent) (v : Vtx) : List Ent := zfp n low L v.f0 v.f1 v.f2 v.f3 v.f4.f0 v.f4.f1
theorem zbU {n low : Int} {L : List Ent} {v : Vtx} : zgi n low L v = 0 ↔ (zO v.f0 v.f1 v.f2 v.f3 v.f4.f0 v.f4.f1 n).2 = 0 ∧ low < v.f1 ∧ (∀ x ∈ L,x.f0 ≠ (zc5 n v).f0) ∧ (∀ x ∈ L,¬ (x.f1.f0 = v.f0 ∧ x.f1.f1 = v.f1)) ∧ (za5 L low v.f1 v.f3).length = 0 := by
 unfold zgi zdq
 by_cases h1 : (zO v.f0 v.f1 v.f2 v.f3 v.f4.f0 v.f4.f1 n).2 = 0
 ·rw [if_neg (by simp [h1])]
  by_cases h2 : v.f1 ≤ low
  ·rw [if_pos h2];exact ⟨fun h => absurd h (by decide),fun h => absurd h.2.1 (by omega)⟩
  rw [if_neg h2]
  by_cases h3 : (zcD L (zO v.f0 v.f1 v.f2 v.f3 v.f4.f0 v.f4.f1 n).1).isSome = true
  ·rw [if_pos h3]
   refine ⟨fun h => absurd h (by decide),fun h => ?_⟩
   rw [zcD,List.find?_isSome] at h3
   obtain ⟨x,hx,h3⟩ := h3
   exact absurd (of_decide_eq_true h3) (h.2.2.1 x hx)
  rw [if_neg h3]
  by_cases h4 : (byE L v.f0 v.f1).isSome = true
  ·rw [if_pos h4]
   refine ⟨fun h => absurd h (by decide),fun h => ?_⟩
   rw [byE,List.find?_isSome] at h4
   obtain ⟨x,hx,h4⟩ := h4
   exact absurd (of_decide_eq_true h4) (h.2.2.2.1 x hx)
  rw [if_neg h4]
  by_cases h5 : 0 < (za5 L low v.f1 v.f3).length
  ·rw [if_pos h5];exact ⟨fun h => absurd h (by decide),fun h => absurd h.2.2.2.2 (by omega)⟩
  rw [if_neg h5]
  refine ⟨fun _ => ⟨h1,by omega,fun x hx he => h3 ?_,fun x hx he => h4 ?_,by omega⟩,fun _ => rfl⟩
  ·rw [zcD,List.find?_isSome];exact ⟨x,hx,decide_eq_true he⟩
  ·rw [byE,List.find?_isSome];exact ⟨x,hx,decide_eq_true he⟩
 ·rw [if_pos (by simp [h1])]
  exact ⟨fun h => absurd h h1,fun h => absurd h.1 h1⟩
theorem zc4 {n low : Int} {L : List Ent} {v : Vtx} (h : zgi n low L v = 0) : zfU n low L v = zbm L (zc5 n v) := if_pos h
theorem zhV {n low : Int} {L : List Ent} {v : Vtx} (h : zgi n low L v ≠ 0) : zfU n low L v = L := if_neg h
theorem zeL {L M : List Ent} {low r : Int} {ps : List ByteArray} (h : (za5 L low r ps).length = 0) (hs : ∀ x ∈ L,x ∈ M) : (za5 M low r ps).length = 0 := by
 unfold za5 at h ⊢
 split
 ·rfl
 ·next hl =>
  rw [if_neg hl,List.length_eq_zero_iff,List.filter_eq_nil_iff] at h
  rw [List.length_eq_zero_iff,List.filter_eq_nil_iff]
  intro p hp
  have := h p hp
  simp only [Bool.not_eq_true',Bool.not_eq_false,List.any_eq_true] at this ⊢
  obtain ⟨x,hx,h2⟩ := this
  exact ⟨x,hs x hx,h2⟩
structure zcb (n : Int) (l : List Vtx) (A : Nat → List Ent) : Prop where
 zero : A 0 = []
 why : ∀ i (h : i < l.length),zgi n 0 (A i) l[i] = 0
 next : ∀ i (h : i < l.length),A (i + 1) = zfU n 0 (A i) l[i]
theorem zcb.mem {n : Int} {l : List Vtx} {A : Nat → List Ent} (h : zcb n l A) : ∀ i,i ≤ l.length → ∀ x,x ∈ A i ↔ ∃ (j : Nat) (hj : j < l.length),j < i ∧ x = zc5 n l[j]
 | 0,_,x => by
  rw [h.zero]
  exact ⟨fun hx => absurd hx List.not_mem_nil,fun ⟨_,_,hj,_⟩ => absurd hj (Nat.not_lt_zero _)⟩
 | i + 1,hi,x => by
  rw [h.next i hi,zc4 (h.why i hi),zb1,h.mem i (by omega) x]
  constructor
  ·rintro (rfl | ⟨j,hj,h1,h2⟩)
   ·exact ⟨i,hi,by omega,rfl⟩
   ·exact ⟨j,hj,by omega,h2⟩
  ·rintro ⟨j,hj,h1,h2⟩
   rcases Nat.lt_succ_iff_lt_or_eq.1 h1 with h1 | h1
   ·exact .inr ⟨j,hj,h1,h2⟩
   ·subst h1;exact .inl h2
theorem zcb.srt {n : Int} {l : List Vtx} {A : Nat → List Ent} (h : zcb n l A) : ∀ i,i ≤ l.length → zeC (A i)
 | 0,_ => by rw [h.zero];exact List.Pairwise.nil
 | i + 1,hi => by
  rw [h.next i hi,zc4 (h.why i hi)]
  exact zd9 (h.srt i (by omega)) (zbU.1 (h.why i hi)).2.2.2.1
theorem zcb.apart {n : Int} {l : List Vtx} {A : Nat → List Ent} (h : zcb n l A) (i j : Nat) (hi : i < l.length) (hj : j < i) : (zc5 n l[j]).f0 ≠ (zc5 n l[i]).f0 ∧ ¬ (l[j].f0 = l[i].f0 ∧ l[j].f1 = l[i].f1) := by
 obtain ⟨_,_,h3,h4,_⟩ := zbU.1 (h.why i hi)
 have hm := (h.mem i (by omega) (zc5 n l[j])).2 ⟨j,by omega,hj,rfl⟩
 exact ⟨h3 _ hm,h4 _ hm⟩
theorem zcb.one {n : Int} {l : List Vtx} {A : Nat → List Ent} (h : zcb n l A) (i j : Nat) (hi : i < l.length) (hj : j < l.length) (he : (zc5 n l[j]).f0 = (zc5 n l[i]).f0 ∨ (l[j].f0 = l[i].f0 ∧ l[j].f1 = l[i].f1)) : i = j := by
 rcases Nat.lt_trichotomy i j with hl | hl | hl
 ·have := h.apart j i hj hl
  rcases he with he | he
  ·exact absurd he.symm this.1
  ·exact absurd ⟨he.1.symm,he.2.symm⟩ this.2
 ·exact hl
 ·have := h.apart i j hi hl
  rcases he with he | he
  ·exact absurd he this.1
  ·exact absurd he this.2
structure zfo (n : Int) (l : List Vtx) (B : List Ent) : Prop where
 srt : zeC B
 mem : ∀ x ∈ B,∃ (j : Nat) (hj : j < l.length),x = zc5 n l[j]
theorem zfo.step {n : Int} {l : List Vtx} {A : Nat → List Ent} {B : List Ent} (h : zcb n l A) (hB : zfo n l B) (i : Nat) (hi : i < l.length) : zfo n l (zfU n 0 B l[i]) ∧ (∀ x ∈ B,x ∈ zfU n 0 B l[i]) ∧ ((∀ (j : Nat) (hj : j < l.length),j < i → zc5 n l[j] ∈ B) → zc5 n l[i] ∈ zfU n 0 B l[i]) := by
 by_cases hw : zgi n 0 B l[i] = 0
 ·rw [zc4 hw]
  refine ⟨⟨zd9 hB.srt (zbU.1 hw).2.2.2.1,fun x hx => ?_⟩,fun x hx => zb1.2 (.inr hx),fun _ => zb1.2 (.inl rfl)⟩
  rcases zb1.1 hx with rfl | hx
  ·exact ⟨i,hi,rfl⟩
  ·exact hB.mem x hx
 ·rw [zhV hw]
  refine ⟨hB,fun x hx => hx,fun hj => ?_⟩
  by_cases hin : zc5 n l[i] ∈ B
  ·exact hin
  ·exfalso
   refine hw (zbU.2 ?_)
   obtain ⟨h1,h2,_,_,h5⟩ := zbU.1 (h.why i hi)
   refine ⟨h1,h2,fun x hx he => ?_,fun x hx he => ?_,zeL h5 fun x hx => ?_⟩
   ·obtain ⟨j,hj',rfl⟩ := hB.mem x hx
    have := h.one i j hi hj' (.inl he)
    subst this
    exact hin hx
   ·obtain ⟨j,hj',rfl⟩ := hB.mem x hx
    have := h.one i j hi hj' (.inr he)
    subst this
    exact hin hx
   ·obtain ⟨j,hj',hji,rfl⟩ := (h.mem i (by omega) x).1 hx
    exact hj j hj' hji
theorem zfo.all {n : Int} {l : List Vtx} {A : Nat → List Ent} {B : List Ent} (h : zcb n l A) (hB : zfo n l B) (hm : ∀ (j : Nat) (hj : j < l.length),zc5 n l[j] ∈ B) : A l.length = B :=
 zgy (h.srt _ (Nat.le_refl _)) hB.srt fun x => ⟨fun hx => by obtain ⟨j,hj,_,rfl⟩ := (h.mem _ (Nat.le_refl _) x).1 hx;exact hm j hj,fun hx => by obtain ⟨j,hj,rfl⟩ := hB.mem x hx;exact (h.mem _ (Nat.le_refl _) _).2 ⟨j,hj,hj,rfl⟩⟩
theorem zff (x : Ent) : ∀ L : List Ent,∃ p,p ≤ L.length ∧ zbm L x = L.take p ++ x :: L.drop p
 | [] => ⟨0,Nat.le_refl _,rfl⟩
 | z :: L => by
  rw [zbm]
  split
  ·exact ⟨0,Nat.zero_le _,rfl⟩
  ·obtain ⟨p,hp,h⟩ := zff x L
   exact ⟨p + 1,by simpa using hp,by rw [h];rfl⟩
theorem zfv {x : Ent} {q : Ent → Bool} {L : List Ent} (h : ∀ y ∈ L,q y = false) (hx : q x = true) : (zbm L x).find? q = some x := by
 obtain ⟨p,_,he⟩ := zff x L
 rw [he,List.find?_append]
 have h0 : (L.take p).find? q = none := List.find?_eq_none.2 fun y hy => by rw [h y (List.mem_of_mem_take hy)];simp
 rw [h0,Option.none_or,List.find?_cons_of_pos hx]
def zd4 (L : List Ent) : List Ent → Nat → Nat
 | [],at_ => at_
 | y :: M,at_ => zd4 L M (if at_ < L.length ∧ y.f0 = (L.getD at_ z36).f0 then at_ + 1 else at_)
theorem zeN {L : List Ent} : ∀ (d at_ : Nat),at_ + d = L.length → zd4 L (L.drop at_) at_ = L.length
 | 0,at_,h => by rw [List.drop_eq_nil_of_le (by omega),zd4];omega
 | d + 1,at_,h => by
  have hl : at_ < L.length := by omega
  rw [List.drop_eq_getElem_cons hl,zd4,if_pos ⟨hl,by rw [List.getD_eq_getElem?_getD,List.getElem?_eq_getElem hl];rfl⟩]
  exact zeN d (at_ + 1) (by omega)
theorem zfC {L : List Ent} {x : Ent} (hx : ∀ y ∈ L,y.f0 ≠ x.f0) (p : Nat) (hp : p ≤ L.length) : ∀ (d at_ : Nat),at_ + d = p → zd4 L ((L.take p).drop at_ ++ x :: L.drop p) at_ = L.length
 | 0,at_,h => by
  rw [List.drop_eq_nil_of_le (by simp;omega),List.nil_append,zd4,if_neg]
  ·have : at_ = p := by omega
   subst this
   exact zeN (L.length - at_) at_ (by omega)
  ·rintro ⟨h1,h2⟩
   rw [List.getD_eq_getElem?_getD,List.getElem?_eq_getElem h1] at h2
   exact hx _ (List.getElem_mem h1) h2.symm
 | d + 1,at_,h => by
  have hl : at_ < L.length := by omega
  have hl2 : at_ < (L.take p).length := by simp;omega
  rw [List.drop_eq_getElem_cons hl2,List.cons_append,zd4,if_pos ⟨hl,by rw [List.getD_eq_getElem?_getD,List.getElem?_eq_getElem hl,List.getElem_take];rfl⟩]
  exact zfC hx p hp d (at_ + 1) (by omega)
theorem zgL {L : List Ent} {x : Ent} (hx : ∀ y ∈ L,y.f0 ≠ x.f0) : zd4 L (zbm L x) 0 = L.length := by
 obtain ⟨p,hp,he⟩ := zff x L
 rw [he]
 exact zfC hx p hp p 0 (by omega)
def selvedgeref11_Right.B12 : List Nat := [0,1,3,7,15,7,39,127,255,511,7,1031,4095,8191,16383]
theorem zcP (l : List Ent) (j : Nat) (h : j < l.length) : zf l (j : Int) = l[j] := by
 rw [zf,Int.toNat_natCast,List.getD_eq_getElem?_getD,List.getElem?_eq_getElem h];rfl
structure zhP (x : Ent) : Prop where
 bs : x.f1.f2.length < 4611686018427387904
 tx : ∀ b ∈ x.f1.f2,b.f2.length < 4611686018427387904
 ps : x.f1.f3.length ≤ 8796093022208
 t : ∀ t ∈ x.f1.f3,t.size < 4611686018427387904
instance decEnt : DecidableEq Ent := fun a b => decidable_of_iff (a.f0 = b.f0 ∧ zct a.f1.f0 a.f1.f1 a.f1.f2 a.f1.f3 a.f1.f4.f0 a.f1.f4.f1 b.f1.f0 b.f1.f1 b.f1.f2 b.f1.f3 b.f1.f4.f0 b.f1.f4.f1 = true) ⟨fun ⟨h0,h1⟩ => by
  rw [zbS] at h1
  obtain ⟨a0,⟨a1,a2,a3,a4,⟨a5,a6⟩⟩⟩ := a;obtain ⟨b0,⟨b1,b2,b3,b4,⟨b5,b6⟩⟩⟩ := b
  simp only at h0 h1
  obtain ⟨rfl,rfl,rfl,rfl,rfl,rfl⟩ := h1
  rw [h0],fun h => by rw [h,zbS];exact ⟨rfl,rfl,rfl,rfl,rfl,rfl,rfl⟩⟩
theorem zdC (a b : List Ent) (hl : a.length = b.length) (ha : a.length < 4611686018427387904) (hs : ∀ x ∈ a,zhP x) (d : Nat) : ∀ j,j + d = a.length →
  Ev (fun k => zk.l0 k a b (j : Int)) (decide (a.drop j = b.drop j)) := by
 induction d with
 | zero =>
  intro j hj
  refine Ev.step (fun k => by rw [zk.l0]) ?_
  refine zam (by omega) (zaA (Ev.now _) ?_)
  rw [List.drop_eq_nil_of_le (by omega),List.drop_eq_nil_of_le (by omega)];rfl
 | succ d ih =>
  intro j hj
  refine Ev.step (fun k => by rw [zk.l0]) ?_
  have h1 : j < a.length := by omega
  have h2 : j < b.length := by omega
  refine zT (by omega) (zT (by omega) (zT (by omega) ?_))
  have hf := hs _ (List.getElem_mem h1)
  have hps := hf.ps
  rw [zcP a j h1,zcP b j h2,List.drop_eq_getElem_cons h1,List.drop_eq_getElem_cons h2,zaz (by omega) (by omega)]
  refine Ev.bind (zdo _ _ _ _ _ _ _ _ _ _ _ _ hf.bs hf.tx (by omega)) ?_
  by_cases h : a[j] = b[j]
  ·refine zT (by rw [h,zbS];exact ⟨rfl,rfl,rfl,rfl,rfl,rfl⟩) (zT (by rw [h]) (zaA (ih (j + 1) (by omega)) ?_))
   rw [h];exact decide_eq_decide.2 ⟨fun h => by rw [h],fun h => (List.cons.inj h).2⟩
  ·have hno : decide (a[j] :: a.drop (j + 1) = b[j] :: b.drop (j + 1)) = false := decide_eq_false (fun e => h (List.cons.inj e).1)
   rw [hno]
   by_cases hv : zct a[j].f1.f0 a[j].f1.f1 a[j].f1.f2 a[j].f1.f3 a[j].f1.f4.f0 a[j].f1.f4.f1 b[j].f1.f0 b[j].f1.f1 b[j].f1.f2 b[j].f1.f3 b[j].f1.f4.f0 b[j].f1.f4.f1 = true
   ·refine zT hv (zam (fun e => h ?_) (Ev.now _))
    rw [za6] at e
    rw [zbS] at hv
    generalize a[j] = p at *
    generalize b[j] = q at *
    obtain ⟨a0,⟨a1,a2,a3,a4,⟨a5,a6⟩⟩⟩ := p;obtain ⟨b0,⟨b1,b2,b3,b4,⟨b5,b6⟩⟩⟩ := q
    simp only at e hv
    obtain ⟨rfl,rfl,rfl,rfl,rfl,rfl⟩ := hv
    rw [e]
   ·exact zam hv (Ev.now _)
theorem zez (a b : List Ent) (ha : a.length < 4611686018427387904) (hs : ∀ x ∈ a,zhP x) : Ev (fun k => zk.f k a b) (decide (a = b)) := by
 by_cases h : a.length = b.length
 ·exact zT (by omega) (zdC a b h ha hs a.length 0 (by omega))
 ·refine zam (by omega) (zaA (Ev.now _) ?_)
  have : ¬ a = b := fun e => h (by rw [e])
  simp [this]
theorem zey (n lo : Int) (L : List Ent) (n' lo' : Int) (M : List Ent) (ha : L.length < 4611686018427387904) (hs : ∀ x ∈ L,zhP x) : Ev (fun k => zad.f k n lo L n' lo' M) (decide (L = M ∧ n = n' ∧ lo = lo')) := by
 refine Ev.bind (zez L M ha hs) ?_
 by_cases h1 : L = M
 ·refine zT (decide_eq_true h1) ?_
  by_cases h2 : n = n'
  ·refine zT h2 (zaA (Ev.now _) ?_)
   by_cases h3 : lo = lo' <;> simp [h1,h2,h3]
  ·exact zam h2 (zaA (Ev.now _) (by simp [h2]))
 ·exact zam (by simp [h1]) (zaA (Ev.now _) (by simp [h1]))
def ze9 (n lo : Int) (L : List Ent) : Nat → Nat → Bool
 | 0,_ => true
 | d + 1,j => okE n lo L j (L.getD j z36) && ze9 n lo L d (j + 1)
theorem zd7 (n lo : Int) (L : List Ent) : ∀ d j : Nat,ze9 n lo L d j = (List.range' j d).all fun i => okE n lo L i (L.getD i z36)
 | 0,_ => rfl
 | d + 1,j => by rw [ze9,zd7 n lo L d (j + 1),List.range'_succ,List.all_cons]
theorem zfH (n lo : Int) (L : List Ent) : zbo n lo L = (zc1 n && decide (0 ≤ lo) && ze9 n lo L L.length 0) := by
 rw [zbo,zd7,List.range_eq_range']
theorem zcI : (zO 2 1 [] [] 0 0 4).2 = 0 := by
 rw [zO,if_pos]
 rw [zcF]
 simp [zcm,zd3,zbk]
theorem zfk {a r : Int} {bs : List S72} {ps : List ByteArray} {x y n : Int} (h : (zO a r bs ps x y n).2 = 0) : (zO a r bs ps x y n).1.size = 32 := by
 unfold zO at h ⊢
 split
 ·exact zgV _
 ·next hm => rw [if_neg hm] at h;cases h
theorem zgf : zac.f = some true := by
 have hz := zfk zcI
 have hv := zcI
 have w1 : wrap64 (1 - 1) ≤ 0 := by rw [zaz (by decide) (by decide)];decide
 have l1 : ∀ L : List Ent,za5 L 0 1 [] = [] := fun L => if_pos w1
 have y1 : zdq 4 0 [] 2 1 [] [] 0 0 = 0 := by
  unfold zdq
  rw [if_neg (by simp [hv]),if_neg (by decide),if_neg (by simp [zcD]),if_neg (by simp [byE]),l1,if_neg (by simp)]
 have a1 : zQ.f 4 0 ([] : List Ent) 2 1 [] [] 0 0 = some (4,0,[⟨(zO 2 1 [] [] 0 0 4).1,⟨2,1,[],[],⟨0,0⟩⟩⟩],0) := by
  unfold zQ.f
  rw [if_pos (by simp),y1,zfp,if_pos y1];rfl
 have y2 : zdq 4 0 [⟨(zO 2 1 [] [] 0 0 4).1,⟨2,1,[],[],⟨0,0⟩⟩⟩] 2 1 [] [] 0 0 = 8 := by
  unfold zdq
  rw [if_neg (by simp [hv]),if_neg (by decide),if_pos (by simp [zcD])]
 have a2 : zQ.f 4 0 [⟨(zO 2 1 [] [] 0 0 4).1,⟨2,1,[],[],⟨0,0⟩⟩⟩] 2 1 [] [] 0 0 = some (4,0,[⟨(zO 2 1 [] [] 0 0 4).1,⟨2,1,[],[],⟨0,0⟩⟩⟩],8) := by
  unfold zQ.f
  rw [if_pos (by simp),y2,zfp,if_neg (by rw [y2];decide)]
 have r1 : zbo 4 0 [⟨(zO 2 1 [] [] 0 0 4).1,⟨2,1,[],[],⟨0,0⟩⟩⟩] = true := by
  rw [zfH]
  show (zc1 4 && decide ((0 : Int) ≤ 0) && (okE 4 0 _ 0 _ && true)) = true
  unfold okE
  simp [hv,l1,zcm,List.getD]
 unfold zac.f
 rw [a1]
 simp only [Option.bind_some]
 rw [a2]
 simp only [Option.bind_some,if_true,List.length_cons,List.length_nil]
 have e0 : zf [(⟨(zO 2 1 [] [] 0 0 4).1,⟨2,1,[],[],⟨0,0⟩⟩⟩ : Ent)] 0 = ⟨(zO 2 1 [] [] 0 0 4).1,⟨2,1,[],[],⟨0,0⟩⟩⟩ := rfl
 rw [e0]
 rw [if_pos (by decide),if_pos (by decide),if_pos (by show ((zO 2 1 [] [] 0 0 4).1.size : Int) = 32;omega)]
 unfold zaj.f
 rw [if_pos (by simp),r1];rfl
end Go.Proofs.Ytklhjlaofkngcaa.Px
namespace Go.Proofs.Ytklhjlaofkngcaa.Pure
open Go.RowKit Go.Proofs.Ytklhjlaofkngcaa.Px Go.Proofs.YtklhjlaofkngcaaW.PrintWords Go.Proofs.YtklhjlaofkngcaaW.PrintLast Go.Proofs.YtklhjlaofkngcaaW.PrintMore
theorem zes (n lo : Int) (L : List Ent) (hL : L.length < 1466015503701) (kn kl : Int) (M : List Ent) (hM : M.length < 1466015503702) (d : Nat) : ∀ j at_ : Nat,j + d = M.length → at_ ≤ j →
  Ev (fun k => ze.l0 k (at_ : Int) (j : Int) n lo L kn kl M) (decide (zd4 L (M.drop j) at_ = L.length)) := by
 induction d with
 | zero =>
  intro j at_ hj ha
  refine Ev.step (fun k => by rw [ze.l0]) ?_
  refine zam (by omega) (zaA (Ev.now _) ?_)
  rw [List.drop_eq_nil_of_le (by omega),zd4]
  by_cases h : at_ = L.length
  ·simp [h]
  ·rw [beq_eq_false_iff_ne.2 (by omega)];simp [h]
 | succ d ih =>
  intro j at_ hj ha
  refine Ev.step (fun k => by rw [ze.l0]) ?_
  have h1 : j < M.length := by omega
  refine zT (by omega) ?_
  rw [zaz (x := (j : Int) + 1) (by omega) (by omega),List.drop_eq_getElem_cons h1,zd4]
  by_cases h2 : at_ < L.length
  ·refine zT (by omega) (zT (by omega) (zT (by omega) ?_))
   rw [zcP M j h1,zcP L at_ h2,zaz (x := (at_ : Int) + 1) (by omega) (by omega)]
   have hg : L.getD at_ z36 = L[at_] := by rw [List.getD_eq_getElem?_getD,List.getElem?_eq_getElem h2];rfl
   rw [hg]
   by_cases h3 : M[j].f0 = L[at_].f0
   ·rw [if_pos ⟨h2,h3⟩]
    exact zT ((za6 _ _).2 h3) (ih (j + 1) (at_ + 1) (by omega) (by omega))
   ·rw [if_neg (fun h => h3 h.2)]
    exact zam (fun e => h3 ((za6 _ _).1 e)) (ih (j + 1) at_ (by omega) (by omega))
  ·rw [if_neg (fun h => h2 h.1)]
   exact zam (by omega) (ih (j + 1) at_ (by omega) (by omega))
theorem DagGrows : zbN := by
 rintro ⟨n,lo,L⟩ ⟨a,r,bs,ps,⟨x,y⟩⟩ _ _ ⟨_,_,⟨l1,l2⟩⟩ ⟨_,_,⟨_,_⟩,⟨pp1,_⟩,_⟩
 have hL : L.length < 1466015503701 := by have : L.length * 96 ≤ 140737488351232 := l1;omega
 have hps : ps.length ≤ 8796093022208 := by have : ps.length * 16 ≤ 140737488351232 := pp1;omega
 have hs : ∀ x ∈ L,zhP x := fun x hx => by
  obtain ⟨_,_,_,⟨v1,v2⟩,⟨p1,p2⟩,_⟩ := l2 x hx
  have v1' : x.f1.f2.length * 40 ≤ 140737488351232 := v1
  have p1' : x.f1.f3.length * 16 ≤ 140737488351232 := p1
  refine ⟨by omega,fun b hb => ?_,by omega,fun t ht => ?_⟩
  ·obtain ⟨_,_,q1,_⟩ := v2 b hb
   have q1' : b.f2.length * 16 ≤ 140737488351232 := q1
   omega
  ·have t1 : t.size ≤ 140737488351232 := p2 t ht
   omega
 show ∃ k,ze.f k n lo L a r bs ps x y = some true
 refine Ev.rounds (zaM zgf (zaM rfl (zT rfl ?_)))
 refine Ev.step (fun k => by rw [ze.j0]) ?_
 by_cases hf : (L.length : Int) ≤ 60
 ·refine zam (by simp [hf]) (zaM (show zQ.f n lo L a r bs ps x y = some _ from if_pos hL) ?_)
  by_cases hw : zdq n lo L a r bs ps x y = 0
  ·refine zT hw ?_
   have hv : zgi n lo L ⟨a,r,bs,ps,⟨x,y⟩⟩ = 0 := hw
   obtain ⟨_,_,h3,h4,h5⟩ := zbU.1 hv
   have hA := zc4 hv
   rw [show zfp n lo L a r bs ps x y = zfU n lo L ⟨a,r,bs,ps,⟨x,y⟩⟩ from rfl,hA]
   clear hA
   generalize hE : zc5 n ⟨a,r,bs,ps,⟨x,y⟩⟩ = E at *
   have hE1 : E.f1 = ⟨a,r,bs,ps,⟨x,y⟩⟩ := by rw [← hE];rfl
   have hlen : (zbm L E).length = L.length + 1 := zdv
   have e1 : byE (zbm L E) a r = some E := zfv (fun z hz => decide_eq_false (h4 z hz)) (decide_eq_true (by rw [hE1];exact ⟨rfl,rfl⟩))
   have e2 : zcD (zbm L E) E.f0 = some E := zfv (fun z hz => decide_eq_false (h3 z hz)) (decide_eq_true rfl)
   have e3 : (za5 (zbm L E) lo r ps).length = 0 := zeL h5 (fun z hz => zb1.2 (.inr hz))
   refine zaM (show zat.f n lo (zbm L E) a r = some (zhI E) from by unfold zat.f;rw [e1];rfl) ?_
   refine zaM (show zX.f n lo (zbm L E) E.f0 = some (zhI E) from by unfold zX.f;rw [e2];rfl) ?_
   refine zaM (show zJ.f n lo (zbm L E) a r bs ps x y = some (za5 (zbm L E) lo r ps) from if_pos ⟨by omega,hps⟩) ?_
   refine zT rfl (zT rfl (zam (by omega) (zT (show E.f1.f1 = r from by rw [hE1]) ?_)))
   refine Ev.step (fun k => by rw [ze.j1]) ?_
   refine zam ?_ (zaA (zes n lo L hL n lo (zbm L E) (by omega) (zbm L E).length 0 0 (by omega) (by omega)) ?_)
   ·rw [zaz (by omega) (by omega),hlen];simp
   ·rw [List.drop_zero,zgL h3];simp
  ·refine zam hw (Ev.bind (zey _ _ _ _ _ _ (by omega) hs) (zaA (Ev.now _) ?_))
   rw [show zfp n lo L a r bs ps x y = L from if_neg hw];simp
 ·exact zT (by simp [hf]) (Ev.now _)
end Go.Proofs.Ytklhjlaofkngcaa.Pure