/- Part 29 of 30 of the proof of the law DagPasts: what is proved is the statement at the end of the last part; its conditions are those of the given row. -/
import Derived.Test.YtndjfdakflaggaaRows
import Derived.Deep.Slices
import Derived.ChangeArms
import Derived.SizedLaws
import Derived.WideOpen
import Derived.Test.YtndjfdakflaggaaZDagPastsb
namespace Go.Proofs.Ytndjfdakflaggaa.Px
open Go.RowKit Go.Proofs.YtndjfdakflaggaaW.PrintWords Go.Proofs.YtndjfdakflaggaaW.PrintLast Go.Proofs.YtndjfdakflaggaaW.PrintMore
attribute [local go_sem] zt zv zA zB zq zr zu zw
set_option linter.unusedVariables false
set_option linter.unusedSimpArgs false
structure Rd (α : Type) where
 t : TypeId
 d : Kd α
 ok : α → Prop
 wt : α → Prop
 bk : α → Nat
structure zdZ {α : Type} (P : Program) (r : Rd α) : Prop where
 out : ∀ {H : Type} {enc : TypeId × Value → H} {w : World} {fuel : Nat} {cs : List Value} {x : DataW H × List MemPlace},DataW.trod enc P w 0 (fun _ => true) true fuel r.t cs = some x →
  ∃ a,r.d.K w a cs ∧ r.ok a ∧ ((∀ n ∈ x.1.weights P r.t,n ≤ reachBytes) → r.wt a) ∧ r.bk a ≤ Rows.uptoBulk x.1
def zae (t : TypeId) (k : IntKind) : Rd Int := ⟨t,Kd.int k,fun a => (Lit.int k a).wf = true,fun _ => True,fun _ => 1⟩
def zP (t : TypeId) : Rd ByteArray := ⟨t,Kd.string,fun a => a.size ≤ maxLen,fun a => a.size ≤ reachBytes,fun a => a.size + 1⟩
def zR {α : Type} (t : TypeId) (B : Nat) (r : Rd α) : Rd (List α) :=
 ⟨t,Kd.slice r.t r.d,fun l => l.length ≤ maxLen ∧ ∀ a ∈ l,r.ok a,fun l => l.length * B ≤ reachBytes ∧ ∀ a ∈ l,r.wt a,fun l => (l.map r.bk).sum + 1⟩
section
variable {P : Program}
theorem zct {t : TypeId} {k : IntKind} (h : P.underlying t = some (.int k)) : zdZ P (zae t k) := by
 constructor
 intro H enc w fuel cs x hx
 obtain ⟨n,rfl,rfl,hw⟩ := DataW.trod_int h hx
 exact ⟨n,rfl,hw,fun _ => trivial,by simp [zae,Rows.uptoBulk]⟩
theorem zcx {t : TypeId} (h : P.underlying t = some .string) : zdZ P (zP t) := by
 constructor
 intro H enc w fuel cs x hx
 obtain ⟨s,rfl,rfl,hs⟩ := DataW.trod_string h hx
 have e : s.data.toList.length = s.size := by rw [Array.length_toList];rfl
 refine ⟨s,rfl,hs,fun hn => ?_,by simp only [zP,Rows.uptoBulk,e];exact Nat.le_refl _⟩
 have := hn s.data.toList.length (by simp [DataW.weights])
 rwa [e] at this
theorem zgV {H α : Type} (f : Nat → DataW H) (g : Nat → α) (bk : α → Nat) (n : Nat) (h : ∀ i,i < n → bk (g i) ≤ Rows.uptoBulk (f i)) : (((List.range n).map g).map bk).sum ≤ Rows.uptoBulkAll ((List.range n).map f) := by
 suffices k : ∀ l : List Nat,(∀ i ∈ l,i < n) → ((l.map g).map bk).sum ≤ Rows.uptoBulkAll (l.map f) from k _ (fun i hi => List.mem_range.1 hi)
 intro l
 induction l with
 | nil => intro _;simp
 | cons i l ih =>
  intro hl
  have h1 := h i (hl i List.mem_cons_self)
  have h2 := ih (fun j hj => hl j (List.mem_cons_of_mem _ hj))
  simp only [List.map_cons,List.sum_cons,Rows.uptoBulkAll]
  omega
theorem zdt {H : Type} {e : TypeId} : ∀ {l : List (DataW H)} {d : DataW H} {n : Nat},d ∈ l → n ∈ d.weights P e → n ∈ DataW.weightsAll P e l
 | x :: l,d,n,hd,hn => by
  simp only [DataW.weightsAll,List.mem_append]
  rcases List.mem_cons.1 hd with rfl | hd
  ·exact .inl hn
  ·exact .inr (zdt hd hn)
theorem zdw {α : Type} [Inhabited α] {r : Rd α} (hr : zdZ P r) {t : TypeId} {B : Nat} (h : P.underlying t = some (.slice r.t)) (hc : P.cellsOf r.t = r.d.sz) (hB : P.bytesOf r.t = B) : zdZ P (zR t B r) := by
 constructor
 intro H enc w fuel cs x hx
 rcases Deep.open_slice h hx with ⟨rfl,rfl⟩ | ⟨a,len,cap,m,n,D,Pl,rfl,_,hl,hm,hmm,rfl,hel⟩
 ·exact ⟨[],⟨none,0,rfl,Nat.le_refl _,Kd.C_nil _ _⟩,⟨Nat.zero_le _,by simp⟩,fun _ => ⟨by simp,by simp⟩,by simp [zR,Rows.uptoBulk]⟩
 ·simp only [if_true] at hmm
  subst hmm
  obtain ⟨f,hf⟩ := Deep.choose_lt (α := α) (n := len) (p := fun i v => ∃ c,w.cells? 0 (a.add (i * P.cellsOf r.t)) (P.cellsOf r.t) = some c ∧ r.d.K w v c ∧ r.ok v ∧ ((∀ q ∈ (D i).weights P r.t,q ≤ reachBytes) → r.wt v) ∧ r.bk v ≤ Rows.uptoBulk (D i)) (fun i hi => by
   obtain ⟨cs',h1,h2⟩ := hel i (by omega)
   obtain ⟨v,k1,k2,k3,k4⟩ := hr.out h2
   exact ⟨v,cs',h1,k1,k2,k3,k4⟩)
  have hlen : ((List.range len).map f).length = len := by simp
  refine ⟨(List.range len).map f,⟨some a,m,by rw [hlen],by rw [hlen];exact hl,?_⟩,⟨by rw [hlen];omega,?_⟩,fun hw => ⟨?_,?_⟩,?_⟩
  ·rw [hlen]
   refine ⟨hlen,by unfold maxLen at hm;omega,fun _ => ⟨a,rfl,fun j p hj => ?_⟩⟩
   have hjl : j < len := by
    have := (List.getElem?_eq_some_iff.1 hj).1
    simpa using this
   obtain ⟨c,c1,c2,_⟩ := hf j hjl
   have hp : f j = p := by simpa [List.getElem?_map,List.getElem?_range hjl] using hj
   obtain ⟨_,l2,l3⟩ := World.cells?_some c1
   refine ⟨c,by rw [l2,hc],hp ▸ c2,fun i u hu => ?_⟩
   have hi : i < P.cellsOf r.t := by rw [← l2];exact (List.getElem?_eq_some_iff.1 hu).1
   rw [← hc,← Deep.add_add,l3 i hi]
   exact hu
  ·intro v hv
   obtain ⟨i,hi,rfl⟩ := List.mem_map.1 hv
   obtain ⟨c,_,_,h3,_⟩ := hf i (List.mem_range.1 hi)
   exact h3
  ·have := hw ((((List.range len).map D).length + ((List.range (m - len)).map fun j => D (len + j)).length) * P.bytesOf r.t) (by show _ ∈ DataW.weights P t _;simp only [DataW.weights,h];exact List.mem_cons_self)
   rw [hlen]
   rw [hB] at this
   simp only [List.length_map,List.length_range] at this
   exact Nat.le_trans (Nat.mul_le_mul_right _ (by omega)) this
  ·intro v hv
   obtain ⟨i,hi,rfl⟩ := List.mem_map.1 hv
   obtain ⟨c,_,_,_,h4,_⟩ := hf i (List.mem_range.1 hi)
   refine h4 (fun q hq => hw q ?_)
   show _ ∈ DataW.weights P t _
   simp only [DataW.weights,h]
   exact List.mem_cons_of_mem _ (List.mem_append_left _ (zdt (List.mem_map.2 ⟨i,hi,rfl⟩) hq))
  ·simp only [zR,Rows.uptoBulk]
   have := zgV D f r.bk len (fun i hi => (hf i hi).choose_spec.2.2.2.2)
   omega
structure zdu {β : Type} (P : Program) (fs : List Field) (o : Nat) (d : Kd β) (ok wt : β → Prop) (bk : β → Nat) : Prop where
 out : ∀ {H : Type} {enc : TypeId × Value → H} {w : World} {n : Nat} {cs : List Value} {xs : List (DataW H × List MemPlace)},xs.length = fs.length → cs.length = o + d.sz →
  (∀ (i : Nat) (f : Field),fs[i]? = some f → DataW.trod enc P w 0 (fun _ => true) true n f.type ((cs.drop f.offset).take (P.cellsOf f.type)) = xs[i]?) →
  ∃ b,d.K w b (cs.drop o) ∧ ok b ∧ ((∀ q ∈ DataW.weightsEach P (fs.map (·.type)) (xs.map (·.1)),q ≤ reachBytes) → wt b) ∧ bk b ≤ Rows.uptoBulkAll (xs.map (·.1))
theorem zcb {α : Type} {r : Rd α} (hr : zdZ P r) {f : Field} (ht : f.type = r.t) {o : Nat} (ho : f.offset = o) (hc : P.cellsOf r.t = r.d.sz) : zdu P [f] o r.d r.ok r.wt r.bk := by
 constructor
 intro H enc w n cs xs hl hcs hx
 match xs,hl with
 | [x],_ =>
  have h := hx 0 f rfl
  rw [ho,ht,hc,List.take_of_length_le (by rw [List.length_drop];omega)] at h
  obtain ⟨a,h1,h2,h3,h4⟩ := hr.out h
  refine ⟨a,h1,h2,fun hq => h3 (fun q hm => hq q ?_),by simp [Rows.uptoBulkAll];omega⟩
  simp only [List.map_cons,List.map_nil,DataW.weightsEach,List.mem_append,ht]
  exact .inl hm
theorem zaD {α β : Type} {r : Rd α} (hr : zdZ P r) {f : Field} (ht : f.type = r.t) {fs : List Field} {o o' : Nat} (ho : f.offset = o) (hc : P.cellsOf r.t = r.d.sz) (ho' : o' = o + r.d.sz) {d : Kd β} {ok wt : β → Prop} {bk : β → Nat} (hfs : zdu P fs o' d ok wt bk) :
  zdu P (f :: fs) o (Kd.pair r.d d) (fun x => r.ok x.1 ∧ ok x.2) (fun x => r.wt x.1 ∧ wt x.2) (fun x => r.bk x.1 + bk x.2) := by
 constructor
 intro H enc w n cs xs hl hcs hx
 match xs,hl with
 | x :: xs,hl =>
  have h := hx 0 f rfl
  have hcs' : cs.length = o + (r.d.sz + d.sz) := hcs
  rw [ho,ht,hc] at h
  obtain ⟨a,h1,h2,h3,h4⟩ := hr.out h
  obtain ⟨b,k1,k2,k3,k4⟩ := hfs.out (enc := enc) (w := w) (n := n) (cs := cs) (xs := xs) (by simpa using hl) (by omega) (fun i g hg => hx (i + 1) g hg)
  refine ⟨(a,b),⟨(cs.drop o).take r.d.sz,cs.drop o',?_,h1,k1⟩,⟨h2,k2⟩,fun hq => ⟨h3 (fun q hm => hq q ?_),k3 (fun q hm => hq q ?_)⟩,?_⟩
  ·rw [ho',← List.drop_drop,List.take_append_drop]
  ·simp only [List.map_cons,DataW.weightsEach,List.mem_append,ht]
   exact .inl hm
  ·simp only [List.map_cons,DataW.weightsEach,List.mem_append]
   exact .inr hm
  ·simp only [List.map_cons,Rows.uptoBulkAll];omega
def zcE {α β : Type} (t : TypeId) (d : Kd β) (f : α → β) (ok wt : β → Prop) (bk : β → Nat) : Rd α := ⟨t,Kd.iso d f,fun a => ok (f a),fun a => wt (f a),fun a => bk (f a) + 1⟩
theorem zcc {α β : Type} {t : TypeId} {fs : List Field} {d : Kd β} {ok wt : β → Prop} {bk : β → Nat} (hfs : zdu P fs 0 d ok wt bk) (h : P.underlying t = some (.struct fs.toArray)) (hc : P.cellsOf t = d.sz) (f : α → β) (g : β → α) (hfg : ∀ b,f (g b) = b) : zdZ P (zcE t d f ok wt bk) := by
 constructor
 intro H enc w fuel cs x hx
 obtain ⟨xs,n,rfl,rfl,hl,hn,hf⟩ := DataW.trod_struct h hx
 obtain ⟨b,k1,k2,k3,k4⟩ := hfs.out (enc := enc) (w := w) (n := n) (cs := cs) (xs := xs) (by simpa using hn) (by omega) (fun i g hg => hf i g (by simpa using hg))
 refine ⟨g b,?_,?_,fun hq => ?_,?_⟩
 ·show d.K w (f (g b)) cs
  rw [hfg]
  exact k1
 ·show ok (f (g b))
  rw [hfg]
  exact k2
 ·show wt (f (g b))
  rw [hfg]
  refine k3 (fun q hm => hq q ?_)
  show _ ∈ DataW.weights P t _
  simp only [DataW.weights,h]
  exact hm
 ·show bk (f (g b)) + 1 ≤ _
  rw [hfg]
  simp only [Rows.uptoBulk]
  omega
end
theorem fit_arg {α H : Type} {P : Program} {r : Rd α} (hr : zdZ P r) {enc : TypeId × Value → H} {w : World} {v : Value} {d : DataW H} {ps : List MemPlace} (h : DataW.Trod enc P w 0 (fun _ => true) true r.t v d ps) :
  ∃ a,r.d.K w a v.cells.toList ∧ r.ok a ∧ ((∀ n ∈ d.weights P r.t,n ≤ reachBytes) → r.wt a) ∧ r.bk a ≤ Rows.uptoBulk d := by
 obtain ⟨fuel,hf⟩ := h
 exact hr.out hf
end Go.Proofs.Ytndjfdakflaggaa.Px
namespace Go.Proofs.Ytndjfdakflaggaa.Px
open Go.RowKit Go.Proofs.Ytndjfdakflaggaa.Px Go.Proofs.YtndjfdakflaggaaW.PrintWords Go.Proofs.YtndjfdakflaggaaW.PrintLast Go.Proofs.YtndjfdakflaggaaW.PrintMore
set_option linter.unusedVariables false
instance : Inhabited S78 := ⟨z78⟩
def zfz : Rd S78 := zcE 78 (Kd.pair (zae 3 .i64).d (Kd.pair (zae 3 .i64).d (zR 28 16 (zP 9)).d)) (fun x : S78 => (x.f0,x.f1,x.f2)) (fun y => (zae 3 .i64).ok y.1 ∧ ((zae 3 .i64).ok y.2.1 ∧ ((zR 28 16 (zP 9)).ok y.2.2))) (fun y => (zae 3 .i64).wt y.1 ∧ ((zae 3 .i64).wt y.2.1 ∧ ((zR 28 16 (zP 9)).wt y.2.2))) (fun y => (zae 3 .i64).bk y.1 + ((zae 3 .i64).bk y.2.1 + ((zR 28 16 (zP 9)).bk y.2.2)))
theorem fit78 : zdZ Try.prog zfz :=
 zcc (zaD (o := 0) (o' := 1) (ok := fun (y : Int × (List ByteArray)) => (zae 3 .i64).ok y.1 ∧ ((zR 28 16 (zP 9)).ok y.2)) (wt := fun (y : Int × (List ByteArray)) => (zae 3 .i64).wt y.1 ∧ ((zR 28 16 (zP 9)).wt y.2)) (bk := fun (y : Int × (List ByteArray)) => (zae 3 .i64).bk y.1 + ((zR 28 16 (zP 9)).bk y.2)) (zct Try.underlying3) rfl rfl (by kernel_rfl) rfl (zaD (o := 1) (o' := 2) (ok := fun (y : (List ByteArray)) => (zR 28 16 (zP 9)).ok y) (wt := fun (y : (List ByteArray)) => (zR 28 16 (zP 9)).wt y) (bk := fun (y : (List ByteArray)) => (zR 28 16 (zP 9)).bk y) (zct Try.underlying3) rfl rfl (by kernel_rfl) rfl (zcb (zdw (zcx Try.underlying9) Try.underlying28 (by kernel_rfl) (by kernel_rfl)) rfl rfl (by kernel_rfl)))) Try.underlying78 (by kernel_rfl) (fun x : S78 => (x.f0,x.f1,x.f2)) (fun y => ⟨y.1,y.2.1,y.2.2⟩) (fun _ => rfl)
instance : Inhabited S30 := ⟨z30⟩
def zdq : Rd S30 := zcE 30 (Kd.pair (zae 3 .i64).d (zae 3 .i64).d) (fun x : S30 => (x.f0,x.f1)) (fun y => (zae 3 .i64).ok y.1 ∧ ((zae 3 .i64).ok y.2)) (fun y => (zae 3 .i64).wt y.1 ∧ ((zae 3 .i64).wt y.2)) (fun y => (zae 3 .i64).bk y.1 + ((zae 3 .i64).bk y.2))
theorem fit30 : zdZ Try.prog zdq :=
 zcc (zaD (o := 0) (o' := 1) (ok := fun (y : Int) => (zae 3 .i64).ok y) (wt := fun (y : Int) => (zae 3 .i64).wt y) (bk := fun (y : Int) => (zae 3 .i64).bk y) (zct Try.underlying3) rfl rfl (by kernel_rfl) rfl (zcb (zct Try.underlying3) rfl rfl (by kernel_rfl))) Try.underlying30 (by kernel_rfl) (fun x : S30 => (x.f0,x.f1)) (fun y => ⟨y.1,y.2⟩) (fun _ => rfl)
instance : Inhabited S32 := ⟨z32⟩
def zhj : Rd S32 := zcE 32 (Kd.pair (zae 3 .i64).d (Kd.pair (zae 3 .i64).d (Kd.pair (zR 27 40 zfz).d (Kd.pair (zR 28 16 (zP 9)).d zdq.d)))) (fun x : S32 => (x.f0,x.f1,x.f2,x.f3,x.f4)) (fun y => (zae 3 .i64).ok y.1 ∧ ((zae 3 .i64).ok y.2.1 ∧ ((zR 27 40 zfz).ok y.2.2.1 ∧ ((zR 28 16 (zP 9)).ok y.2.2.2.1 ∧ (zdq.ok y.2.2.2.2))))) (fun y => (zae 3 .i64).wt y.1 ∧ ((zae 3 .i64).wt y.2.1 ∧ ((zR 27 40 zfz).wt y.2.2.1 ∧ ((zR 28 16 (zP 9)).wt y.2.2.2.1 ∧ (zdq.wt y.2.2.2.2))))) (fun y => (zae 3 .i64).bk y.1 + ((zae 3 .i64).bk y.2.1 + ((zR 27 40 zfz).bk y.2.2.1 + ((zR 28 16 (zP 9)).bk y.2.2.2.1 + (zdq.bk y.2.2.2.2)))))
theorem fit32 : zdZ Try.prog zhj :=
 zcc (zaD (o := 0) (o' := 1) (ok := fun (y : Int × (List S78) × (List ByteArray) × S30) => (zae 3 .i64).ok y.1 ∧ ((zR 27 40 zfz).ok y.2.1 ∧ ((zR 28 16 (zP 9)).ok y.2.2.1 ∧ (zdq.ok y.2.2.2)))) (wt := fun (y : Int × (List S78) × (List ByteArray) × S30) => (zae 3 .i64).wt y.1 ∧ ((zR 27 40 zfz).wt y.2.1 ∧ ((zR 28 16 (zP 9)).wt y.2.2.1 ∧ (zdq.wt y.2.2.2)))) (bk := fun (y : Int × (List S78) × (List ByteArray) × S30) => (zae 3 .i64).bk y.1 + ((zR 27 40 zfz).bk y.2.1 + ((zR 28 16 (zP 9)).bk y.2.2.1 + (zdq.bk y.2.2.2)))) (zct Try.underlying3) rfl rfl (by kernel_rfl) rfl (zaD (o := 1) (o' := 2) (ok := fun (y : (List S78) × (List ByteArray) × S30) => (zR 27 40 zfz).ok y.1 ∧ ((zR 28 16 (zP 9)).ok y.2.1 ∧ (zdq.ok y.2.2))) (wt := fun (y : (List S78) × (List ByteArray) × S30) => (zR 27 40 zfz).wt y.1 ∧ ((zR 28 16 (zP 9)).wt y.2.1 ∧ (zdq.wt y.2.2))) (bk := fun (y : (List S78) × (List ByteArray) × S30) => (zR 27 40 zfz).bk y.1 + ((zR 28 16 (zP 9)).bk y.2.1 + (zdq.bk y.2.2))) (zct Try.underlying3) rfl rfl (by kernel_rfl) rfl (zaD (o := 2) (o' := 3) (ok := fun (y : (List ByteArray) × S30) => (zR 28 16 (zP 9)).ok y.1 ∧ (zdq.ok y.2)) (wt := fun (y : (List ByteArray) × S30) => (zR 28 16 (zP 9)).wt y.1 ∧ (zdq.wt y.2)) (bk := fun (y : (List ByteArray) × S30) => (zR 28 16 (zP 9)).bk y.1 + (zdq.bk y.2)) (zdw fit78 Try.underlying27 (by kernel_rfl) (by kernel_rfl)) rfl rfl (by kernel_rfl) rfl (zaD (o := 3) (o' := 4) (ok := fun (y : S30) => zdq.ok y) (wt := fun (y : S30) => zdq.wt y) (bk := fun (y : S30) => zdq.bk y) (zdw (zcx Try.underlying9) Try.underlying28 (by kernel_rfl) (by kernel_rfl)) rfl rfl (by kernel_rfl) rfl (zcb fit30 rfl rfl (by kernel_rfl)))))) Try.underlying32 (by kernel_rfl) (fun x : S32 => (x.f0,x.f1,x.f2,x.f3,x.f4)) (fun y => ⟨y.1,y.2.1,y.2.2.1,y.2.2.2.1,y.2.2.2.2⟩) (fun _ => rfl)
instance : Inhabited S34 := ⟨z34⟩
def zfy : Rd S34 := zcE 34 (Kd.pair (zP 9).d zhj.d) (fun x : S34 => (x.f0,x.f1)) (fun y => (zP 9).ok y.1 ∧ (zhj.ok y.2)) (fun y => (zP 9).wt y.1 ∧ (zhj.wt y.2)) (fun y => (zP 9).bk y.1 + (zhj.bk y.2))
theorem fit34 : zdZ Try.prog zfy :=
 zcc (zaD (o := 0) (o' := 1) (ok := fun (y : S32) => zhj.ok y) (wt := fun (y : S32) => zhj.wt y) (bk := fun (y : S32) => zhj.bk y) (zcx Try.underlying9) rfl rfl (by kernel_rfl) rfl (zcb fit32 rfl rfl (by kernel_rfl))) Try.underlying34 (by kernel_rfl) (fun x : S34 => (x.f0,x.f1)) (fun y => ⟨y.1,y.2⟩) (fun _ => rfl)
instance : Inhabited S24 := ⟨z24⟩
def zcS : Rd S24 := zcE 24 (Kd.pair (zae 3 .i64).d (Kd.pair (zae 3 .i64).d (zR 22 96 zfy).d)) (fun x : S24 => (x.f0,x.f1,x.f2)) (fun y => (zae 3 .i64).ok y.1 ∧ ((zae 3 .i64).ok y.2.1 ∧ ((zR 22 96 zfy).ok y.2.2))) (fun y => (zae 3 .i64).wt y.1 ∧ ((zae 3 .i64).wt y.2.1 ∧ ((zR 22 96 zfy).wt y.2.2))) (fun y => (zae 3 .i64).bk y.1 + ((zae 3 .i64).bk y.2.1 + ((zR 22 96 zfy).bk y.2.2)))
theorem fit24 : zdZ Try.prog zcS :=
 zcc (zaD (o := 0) (o' := 1) (ok := fun (y : Int × (List S34)) => (zae 3 .i64).ok y.1 ∧ ((zR 22 96 zfy).ok y.2)) (wt := fun (y : Int × (List S34)) => (zae 3 .i64).wt y.1 ∧ ((zR 22 96 zfy).wt y.2)) (bk := fun (y : Int × (List S34)) => (zae 3 .i64).bk y.1 + ((zR 22 96 zfy).bk y.2)) (zct Try.underlying3) rfl rfl (by kernel_rfl) rfl (zaD (o := 1) (o' := 2) (ok := fun (y : (List S34)) => (zR 22 96 zfy).ok y) (wt := fun (y : (List S34)) => (zR 22 96 zfy).wt y) (bk := fun (y : (List S34)) => (zR 22 96 zfy).bk y) (zct Try.underlying3) rfl rfl (by kernel_rfl) rfl (zcb (zdw fit34 Try.underlying22 (by kernel_rfl) (by kernel_rfl)) rfl rfl (by kernel_rfl)))) Try.underlying24 (by kernel_rfl) (fun x : S24 => (x.f0,x.f1,x.f2)) (fun y => ⟨y.1,y.2.1,y.2.2⟩) (fun _ => rfl)
instance : Inhabited S42 := ⟨z42⟩
def rd42 : Rd S42 := zcE 42 (Kd.pair zcS.d (Kd.pair (zP 9).d (Kd.pair (zP 9).d (Kd.pair (zae 3 .i64).d zcS.d)))) (fun x : S42 => (x.f0,x.f1,x.f2,x.f3,x.f4)) (fun y => zcS.ok y.1 ∧ ((zP 9).ok y.2.1 ∧ ((zP 9).ok y.2.2.1 ∧ ((zae 3 .i64).ok y.2.2.2.1 ∧ (zcS.ok y.2.2.2.2))))) (fun y => zcS.wt y.1 ∧ ((zP 9).wt y.2.1 ∧ ((zP 9).wt y.2.2.1 ∧ ((zae 3 .i64).wt y.2.2.2.1 ∧ (zcS.wt y.2.2.2.2))))) (fun y => zcS.bk y.1 + ((zP 9).bk y.2.1 + ((zP 9).bk y.2.2.1 + ((zae 3 .i64).bk y.2.2.2.1 + (zcS.bk y.2.2.2.2)))))
theorem fit42 : zdZ Try.prog rd42 :=
 zcc (zaD (o := 0) (o' := 3) (ok := fun (y : ByteArray × ByteArray × Int × S24) => (zP 9).ok y.1 ∧ ((zP 9).ok y.2.1 ∧ ((zae 3 .i64).ok y.2.2.1 ∧ (zcS.ok y.2.2.2)))) (wt := fun (y : ByteArray × ByteArray × Int × S24) => (zP 9).wt y.1 ∧ ((zP 9).wt y.2.1 ∧ ((zae 3 .i64).wt y.2.2.1 ∧ (zcS.wt y.2.2.2)))) (bk := fun (y : ByteArray × ByteArray × Int × S24) => (zP 9).bk y.1 + ((zP 9).bk y.2.1 + ((zae 3 .i64).bk y.2.2.1 + (zcS.bk y.2.2.2)))) fit24 rfl rfl (by kernel_rfl) rfl (zaD (o := 3) (o' := 4) (ok := fun (y : ByteArray × Int × S24) => (zP 9).ok y.1 ∧ ((zae 3 .i64).ok y.2.1 ∧ (zcS.ok y.2.2))) (wt := fun (y : ByteArray × Int × S24) => (zP 9).wt y.1 ∧ ((zae 3 .i64).wt y.2.1 ∧ (zcS.wt y.2.2))) (bk := fun (y : ByteArray × Int × S24) => (zP 9).bk y.1 + ((zae 3 .i64).bk y.2.1 + (zcS.bk y.2.2))) (zcx Try.underlying9) rfl rfl (by kernel_rfl) rfl (zaD (o := 4) (o' := 5) (ok := fun (y : Int × S24) => (zae 3 .i64).ok y.1 ∧ (zcS.ok y.2)) (wt := fun (y : Int × S24) => (zae 3 .i64).wt y.1 ∧ (zcS.wt y.2)) (bk := fun (y : Int × S24) => (zae 3 .i64).bk y.1 + (zcS.bk y.2)) (zcx Try.underlying9) rfl rfl (by kernel_rfl) rfl (zaD (o := 5) (o' := 6) (ok := fun (y : S24) => zcS.ok y) (wt := fun (y : S24) => zcS.wt y) (bk := fun (y : S24) => zcS.bk y) (zct Try.underlying3) rfl rfl (by kernel_rfl) rfl (zcb fit24 rfl rfl (by kernel_rfl)))))) Try.underlying42 (by kernel_rfl) (fun x : S42 => (x.f0,x.f1,x.f2,x.f3,x.f4)) (fun y => ⟨y.1,y.2.1,y.2.2.1,y.2.2.2.1,y.2.2.2.2⟩) (fun _ => rfl)
def zcq : Prop := ∀ (a0 : S42),rd42.ok a0 → rd42.wt a0 → ∃ k,zg.f k (a0.f0.f0) (a0.f0.f1) (a0.f0.f2) (a0.f1) (a0.f2) (a0.f3) (a0.f4.f0) (a0.f4.f1) (a0.f4.f2) = some true
end Go.Proofs.Ytndjfdakflaggaa.Px
namespace Go.Proofs.Ytndjfdakflaggaa.Px
open Go.RowKit Go.Proofs.YtndjfdakflaggaaW.PrintWords Go.Proofs.YtndjfdakflaggaaW.PrintLast Go.Proofs.YtndjfdakflaggaaW.PrintMore
attribute [local go_sem] zt zv zA zB zq zr zu zw
set_option linter.unusedVariables false
set_option linter.unusedSimpArgs false
def zcO (L : List Ent) : Prop := L.Pairwise fun x y => x.f0 ≠ y.f0
theorem zej : ∀ {L : List Ent},zcO L → ∀ {i j : Nat} {x y : Ent},L[i]? = some x → L[j]? = some y → x.f0 = y.f0 → i = j
 | [],_,i,j,x,y,hx,_,_ => by simp at hx
 | a :: L,h,i,j,x,y,hx,hy,he => by
  have h1 := List.pairwise_cons.1 h
  rcases i with _ | i <;> rcases j with _ | j
  ·rfl
  ·rw [List.getElem?_cons_zero] at hx
   rw [List.getElem?_cons_succ] at hy
   injection hx with hx;subst hx
   exact absurd he (h1.1 y (List.mem_of_getElem? hy))
  ·rw [List.getElem?_cons_succ] at hx
   rw [List.getElem?_cons_zero] at hy
   injection hy with hy;subst hy
   exact absurd he.symm (h1.1 x (List.mem_of_getElem? hx))
  ·rw [List.getElem?_cons_succ] at hx hy
   rw [zej h1.2 hx hy he]
theorem zgU {L : List Ent} (h : zcO L) {x y : Ent} (hx : x ∈ L) (hy : y ∈ L) (he : x.f0 = y.f0) : x = y := by
 obtain ⟨i,hi⟩ := List.mem_iff_getElem?.1 hx
 obtain ⟨j,hj⟩ := List.mem_iff_getElem?.1 hy
 have := zej h hi hj he
 subst this
 rw [hi] at hj
 exact Option.some.inj hj
theorem zcz {L : List Ent} {r : Int} {k : Nat} {x : Ent} : x ∈ zbs L r k ↔ x ∈ L ∧ x.f1.f1 = zbA r k := by
 unfold zbs zbz
 rw [List.mem_filter,decide_eq_true_eq]
theorem zf8 {L : List Ent} (h : zcO L) (r : Int) (k : Nat) : zcO (zbs L r k) := List.Pairwise.filter _ h
theorem okPt_cut (r0 : Int) (g : ByteArray) (r : Int) (W : ByteArray → Bool) (x z : Ent) (h : z.f0 ≠ x.f0) : zcA r0 g r (fun y => if y = x.f0 then false else W y) z = zcA r0 g r W z := by
 unfold zcA
 dsimp only
 rw [if_neg h]
theorem zfl (r0 : Int) (g : ByteArray) (r : Int) : ∀ (l : List Ent) (s : StP × (ByteArray → Bool)),zcO l →
  (∀ y,(∃ x ∈ l,x.f0 = y ∧ zcA r0 g r s.1.2 x = true) → (l.foldl (za1 r0 g r) s).1.1 y = some r) ∧
  (∀ y,(¬ ∃ x ∈ l,x.f0 = y ∧ zcA r0 g r s.1.2 x = true) → (l.foldl (za1 r0 g r) s).1.1 y = s.1.1 y) ∧
  (∀ y,(l.foldl (za1 r0 g r) s).2 y = true ↔ s.2 y = true ∨ ∃ x ∈ l,zcA r0 g r s.1.2 x = true ∧ y ∈ x.f1.f3)
 | [],s,_ => ⟨fun y ⟨x,hx,_⟩ => (by cases hx),fun y _ => rfl,fun y => ⟨.inl,fun h => h.elim id (fun ⟨x,hx,_⟩ => (by cases hx))⟩⟩
 | a :: l,s,h => by
  have h1 := List.pairwise_cons.1 h
  rw [List.foldl_cons]
  obtain ⟨i1,i2,i3⟩ := zfl r0 g r l (za1 r0 g r s a) h1.2
  by_cases ha : zcA r0 g r s.1.2 a = true
  ·have e : za1 r0 g r s a = ((fun y => if y = a.f0 then some r else s.1.1 y,fun y => if y = a.f0 then false else s.1.2 y),fun y => s.2 y || a.f1.f3.any fun p => decide (p = y)) := if_pos ha
   have e2 : ∀ z ∈ l,zcA r0 g r (za1 r0 g r s a).1.2 z = zcA r0 g r s.1.2 z := fun z hz => by rw [e];exact okPt_cut _ _ _ _ _ _ (fun hc => h1.1 z hz hc.symm)
   refine ⟨fun y hy => ?_,fun y hy => ?_,fun y => ?_⟩
   ·obtain ⟨x,hx,hxy,hxo⟩ := hy
    rcases List.mem_cons.1 hx with rfl | hx
    ·rw [i2 y (fun ⟨z,hz,hzy,_⟩ => h1.1 z hz (hxy.trans hzy.symm)),e]
     exact if_pos hxy.symm
    ·exact i1 y ⟨x,hx,hxy,by rw [e2 x hx];exact hxo⟩
   ·rw [i2 y (fun ⟨z,hz,hzy,hzo⟩ => hy ⟨z,List.mem_cons_of_mem _ hz,hzy,by rw [← e2 z hz];exact hzo⟩),e]
    exact if_neg (fun hc => hy ⟨a,List.mem_cons_self,hc.symm,ha⟩)
   ·rw [i3 y,e]
    simp only [Bool.or_eq_true,List.any_eq_true,decide_eq_true_eq]
    constructor
    ·rintro ((hs | ⟨p,hp,rfl⟩) | ⟨x,hx,hxo,hxy⟩)
     ·exact .inl hs
     ·exact .inr ⟨a,List.mem_cons_self,ha,hp⟩
     ·exact .inr ⟨x,List.mem_cons_of_mem _ hx,by rw [← e2 x hx,e];exact hxo,hxy⟩
    ·rintro (hs | ⟨x,hx,hxo,hxy⟩)
     ·exact .inl (.inl hs)
     ·rcases List.mem_cons.1 hx with rfl | hx
      ·exact .inl (.inr ⟨y,hxy,rfl⟩)
      ·exact .inr ⟨x,hx,by rw [← e2 x hx,e] at hxo;exact hxo,hxy⟩
  ·have e : za1 r0 g r s a = s := if_neg ha
   rw [e] at i1 i2 i3 ⊢
   refine ⟨fun y hy => ?_,fun y hy => ?_,fun y => ?_⟩
   ·obtain ⟨x,hx,hxy,hxo⟩ := hy
    rcases List.mem_cons.1 hx with rfl | hx
    ·exact absurd hxo ha
    ·exact i1 y ⟨x,hx,hxy,hxo⟩
   ·exact i2 y (fun ⟨z,hz,hh⟩ => hy ⟨z,List.mem_cons_of_mem _ hz,hh⟩)
   ·rw [i3 y]
    constructor
    ·rintro (hs | ⟨x,hx,hh⟩)
     ·exact .inl hs
     ·exact .inr ⟨x,List.mem_cons_of_mem _ hx,hh⟩
    ·rintro (hs | ⟨x,hx,hxo,hxy⟩)
     ·exact .inl hs
     ·rcases List.mem_cons.1 hx with rfl | hx
      ·exact absurd hxo ha
      ·exact .inr ⟨x,hx,hxo,hxy⟩
def Rch (L : List Ent) (t : Ent) : Nat → Ent → Prop
 | 0,x => x ∈ L ∧ x.f1.f1 = t.f1.f1 ∧ x.f0 = t.f0
 | k + 1,x => x ∈ L ∧ x.f1.f1 = zbA t.f1.f1 (k + 1) ∧ ∃ z,Rch L t k z ∧ x.f0 ∈ z.f1.f3
theorem Rch.mem {L : List Ent} {t x : Ent} : ∀ {k : Nat},Rch L t k x → x ∈ L ∧ x.f1.f1 = zbA t.f1.f1 k
 | 0,h => ⟨h.1,h.2.1⟩
 | _ + 1,h => ⟨h.1,h.2.1⟩
theorem Rch.low {L : List Ent} {t x : Ent} : ∀ {k : Nat},Rch L t k x → ∀ j,j ≤ k → zbs L t.f1.f1 j ≠ []
 | 0,h,j,hj => by
  obtain rfl : j = 0 := by omega
  exact List.ne_nil_of_mem (zcz.2 h.mem)
 | k + 1,h,j,hj => by
  by_cases he : j = k + 1
  ·subst he
   exact List.ne_nil_of_mem (zcz.2 h.mem)
  ·obtain ⟨_,_,z,hz,_⟩ := h
   exact hz.low j (by omega)
theorem Rch.lt {L : List Ent} {t x : Ent} {k : Nat} (h : Rch L t k x) (hL : L.length < 1466015503701) : k < zcI L t.f1.f1 := by
 have h2 := (zdF L t.f1.f1 hL).2
 rcases Nat.lt_or_ge k (zcI L t.f1.f1) with h3 | h3
 ·exact h3
 ·exact absurd h2 (h.low _ h3)
theorem topK_few {L : List Ent} {t : Ent} (hL : L.length < 1466015503701) : zcI L t.f1.f1 ≤ L.length := zg6 L t.f1.f1 _ (by
 have : zcI L t.f1.f1 ≤ L.length + 1 := by
  unfold zcI
  have key : ∀ d k,zg7 L t.f1.f1 d k ≤ k + d := by
   intro d
   induction d with
   | zero => intro k;exact Nat.le_refl _
   | succ d ih =>
    intro k
    unfold zg7
    split
    ·omega
    ·have := ih (k + 1);omega
  have := key (L.length + 1) 0
  omega
 omega) (zdF L t.f1.f1 hL).1
theorem zie {L : List Ent} {t : Ent} (hL : L.length < 1466015503701) {k : Nat} (hk : k < zcI L t.f1.f1) {x : Ent} : zcA t.f1.f1 t.f0 (zbA t.f1.f1 k) (zaV L t.f1.f1 t.f0 k).2 x = (zaV L t.f1.f1 t.f0 k).2 x.f0 := by
 unfold zcA
 rcases k with _ | k
 ·show (decide (x.f0 = t.f0) && !(decide (t.f1.f1 = t.f1.f1) && decide (x.f0 ≠ t.f0))) = decide (x.f0 = t.f0)
  by_cases h : x.f0 = t.f0 <;> simp [h]
 ·have := topK_few (t := t) hL
  have hne : ¬ zbA t.f1.f1 (k + 1) = t.f1.f1 := fun e => zif t.f1.f1 (i := 0) (j := k + 1) (by omega) (by omega) e.symm
  rw [decide_eq_false hne,Bool.false_and,Bool.not_false,Bool.and_true]
theorem zgP {L : List Ent} {t : Ent} (hu : zcO L) (hL : L.length < 1466015503701) : ∀ {k : Nat},k < zcI L t.f1.f1 → ∀ x ∈ zbs L t.f1.f1 k,((zaV L t.f1.f1 t.f0 k).2 x.f0 = true ↔ Rch L t k x)
 | 0,_,x,hx => by
  have hm := zcz.1 hx
  show decide (x.f0 = t.f0) = true ↔ _
  rw [decide_eq_true_eq]
  exact ⟨fun h => ⟨hm.1,hm.2,h⟩,fun h => h.2.2⟩
 | k + 1,hk,x,hx => by
  have hm := zcz.1 hx
  have hf := (zfl t.f1.f1 t.f0 (zbA t.f1.f1 k) (zbs L t.f1.f1 k) (zaV L t.f1.f1 t.f0 k,fun _ => false) (zf8 hu _ _)).2.2 x.f0
  have ih := zgP hu hL (t := t) (k := k) (by omega)
  show ((zbs L t.f1.f1 k).foldl (za1 t.f1.f1 t.f0 (zbA t.f1.f1 k)) (zaV L t.f1.f1 t.f0 k,fun _ => false)).2 x.f0 = true ↔ _
  rw [hf]
  constructor
  ·rintro (h | ⟨z,hz,hzo,hzp⟩)
   ·cases h
   ·rw [show zcA t.f1.f1 t.f0 (zbA t.f1.f1 k) (zaV L t.f1.f1 t.f0 k,fun _ => false).1.2 z = _ from zie hL (by omega)] at hzo
    exact ⟨hm.1,hm.2,z,(ih z hz).1 hzo,hzp⟩
  ·rintro ⟨_,_,z,hz,hzp⟩
   have hzl := zcz.2 hz.mem
   exact .inr ⟨z,hzl,by rw [show zcA t.f1.f1 t.f0 (zbA t.f1.f1 k) (zaV L t.f1.f1 t.f0 k,fun _ => false).1.2 z = _ from zie hL (by omega)];exact (ih z hzl).2 hz,hzp⟩
theorem in_step {L : List Ent} {t : Ent} (hu : zcO L) (hL : L.length < 1466015503701) {k : Nat} (hk : k < zcI L t.f1.f1) (y : ByteArray) :
  ((∃ x,Rch L t k x ∧ x.f0 = y) → (zaV L t.f1.f1 t.f0 (k + 1)).1 y = some (zbA t.f1.f1 k)) ∧ ((¬ ∃ x,Rch L t k x ∧ x.f0 = y) → (zaV L t.f1.f1 t.f0 (k + 1)).1 y = (zaV L t.f1.f1 t.f0 k).1 y) := by
 obtain ⟨h1,h2,_⟩ := zfl t.f1.f1 t.f0 (zbA t.f1.f1 k) (zbs L t.f1.f1 k) (zaV L t.f1.f1 t.f0 k,fun _ => false) (zf8 hu _ _)
 refine ⟨fun ⟨x,hx,hy⟩ => h1 y ⟨x,zcz.2 hx.mem,hy,?_⟩,fun h => h2 y (fun ⟨x,hx,hy,ho⟩ => h ⟨x,?_,hy⟩)⟩
 ·rw [show zcA t.f1.f1 t.f0 (zbA t.f1.f1 k) (zaV L t.f1.f1 t.f0 k,fun _ => false).1.2 x = _ from zie hL hk]
  exact (zgP hu hL hk x (zcz.2 hx.mem)).2 hx
 ·rw [show zcA t.f1.f1 t.f0 (zbA t.f1.f1 k) (zaV L t.f1.f1 t.f0 k,fun _ => false).1.2 x = _ from zie hL hk] at ho
  exact (zgP hu hL hk x hx).1 ho
theorem zh9 {L : List Ent} {t : Ent} (hu : zcO L) (hL : L.length < 1466015503701) (y : ByteArray) (q : Int) : ∀ m,m ≤ zcI L t.f1.f1 → ((zaV L t.f1.f1 t.f0 m).1 y = some q ↔ ∃ k x,k < m ∧ Rch L t k x ∧ x.f0 = y ∧ q = x.f1.f1)
 | 0,_ => ⟨fun h => (by cases h),fun ⟨k,_,hk,_⟩ => (by omega)⟩
 | m + 1,hm => by
  have ih := zh9 hu hL (t := t) y q m (by omega)
  obtain ⟨s1,s2⟩ := in_step hu hL (t := t) (k := m) (by omega) y
  by_cases hx : ∃ x,Rch L t m x ∧ x.f0 = y
  ·rw [s1 hx]
   obtain ⟨x,hr,hy⟩ := hx
   constructor
   ·intro h
    injection h with h
    exact ⟨m,x,by omega,hr,hy,by rw [← h,hr.mem.2]⟩
   ·rintro ⟨k,z,hk,hz,hzy,rfl⟩
    have e := zgU hu hz.mem.1 hr.mem.1 (hzy.trans hy.symm)
    rw [e,hr.mem.2]
  ·rw [s2 hx,ih]
   constructor
   ·rintro ⟨k,z,hk,h⟩
    exact ⟨k,z,by omega,h⟩
   ·rintro ⟨k,z,hk,hz,hzy,hq⟩
    have : k ≠ m := fun e => by subst e;exact hx ⟨z,hz,hzy⟩
    exact ⟨k,z,by omega,hz,hzy,hq⟩
theorem ze0 {L : List Ent} {t : Ent} (hu : zcO L) (hL : L.length < 1466015503701) (y : ByteArray) (q : Int) : inP L t y = some q ↔ ∃ k x,Rch L t k x ∧ x.f0 = y ∧ q = x.f1.f1 := by
 unfold inP
 rw [zh9 hu hL y q _ (Nat.le_refl _)]
 constructor
 ·rintro ⟨k,x,_,h⟩;exact ⟨k,x,h⟩
 ·rintro ⟨k,x,h,h2⟩;exact ⟨k,x,h.lt hL,h,h2⟩
theorem outB_iff {L : List Ent} {t : Ent} (hu : zcO L) (hL : L.length < 1466015503701) {lo : Int} {x : Ent} (hx : x ∈ L) : zd7 (inP L t) lo x = true ↔ (∃ k,Rch L t k x) ∧ lo < x.f1.f1 := by
 unfold zd7
 constructor
 ·intro h
  rcases hq : inP L t x.f0 with _ | q
  ·rw [hq] at h;cases h
  ·rw [hq] at h
   obtain ⟨k,z,hz,hzy,rfl⟩ := (ze0 hu hL _ _).1 hq
   have e := zgU hu hz.mem.1 hx hzy
   subst e
   simp only [Bool.and_eq_true,decide_eq_true_eq] at h
   exact ⟨⟨k,hz⟩,h.2⟩
 ·rintro ⟨⟨k,hk⟩,hlo⟩
  rw [(ze0 hu hL x.f0 x.f1.f1).2 ⟨k,x,hk,rfl,rfl⟩]
  simp [hlo]
theorem path_iff {L : List Ent} {t : Ent} (hu : zcO L) (hL : L.length < 1466015503701) (y : ByteArray) : (inP L t y).isSome = true ↔ ∃ k x,Rch L t k x ∧ x.f0 = y := by
 rw [Option.isSome_iff_exists]
 constructor
 ·rintro ⟨q,hq⟩
  obtain ⟨k,x,h1,h2,_⟩ := (ze0 hu hL y q).1 hq
  exact ⟨k,x,h1,h2⟩
 ·rintro ⟨k,x,h1,h2⟩
  exact ⟨_,(ze0 hu hL y _).2 ⟨k,x,h1,h2,rfl⟩⟩
end Go.Proofs.Ytndjfdakflaggaa.Px