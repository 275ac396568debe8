/- Part 28 of 30 of the proof of the law CertBack: what is proved is the statement at the end of the last part; its conditions are those of the given row. -/
import Derived.Test.YtgdpiegkoeikiaaRows
import Derived.Deep.Slices
import Derived.ChangeArms
import Derived.SizedLaws
import Derived.WideOpen
import Derived.Test.YtgdpiegkoeikiaaZCertBacka
namespace Go.Proofs.Ytgdpiegkoeikiaa.Px
open Go.RowKit Go.Proofs.YtgdpiegkoeikiaaW.PrintWords Go.Proofs.YtgdpiegkoeikiaaW.PrintLast Go.Proofs.YtgdpiegkoeikiaaW.PrintMore
attribute [local go_sem] zx zz zJ zK zn zo zy zA
set_option linter.unusedVariables false
set_option linter.unusedSimpArgs false
structure Rd (α : Type) where
 t : TypeId
 d : Kd α
 ok : α → Prop
 wt : α → Prop
 bk : α → Nat
structure zfo {α : Type} (P : Program) (r : Rd α) : Prop where
 out : ∀ {H : Type} {enc : TypeId × Value → H} {w : World} {fuel : Nat} {cs : List Value} {x : DataW H × List MemPlace},DataW.trod enc P w 0 (fun _ => true) true fuel r.t cs = some x →
  ∃ a,r.d.K w a cs ∧ r.ok a ∧ ((∀ n ∈ x.1.weights P r.t,n ≤ reachBytes) → r.wt a) ∧ r.bk a ≤ Rows.uptoBulk x.1
def zaN (t : TypeId) (k : IntKind) : Rd Int := ⟨t,Kd.int k,fun a => (Lit.int k a).wf = true,fun _ => True,fun _ => 1⟩
def rdBool (t : TypeId) : Rd Bool := ⟨t,Kd.bool,fun _ => True,fun _ => True,fun _ => 1⟩
def zaH (t : TypeId) : Rd ByteArray := ⟨t,Kd.string,fun a => a.size ≤ maxLen,fun a => a.size ≤ reachBytes,fun a => a.size + 1⟩
def zaz {α : Type} (t : TypeId) (B : Nat) (r : Rd α) : Rd (List α) :=
 ⟨t,Kd.slice r.t r.d,fun l => l.length ≤ maxLen ∧ ∀ a ∈ l,r.ok a,fun l => l.length * B ≤ reachBytes ∧ ∀ a ∈ l,r.wt a,fun l => (l.map r.bk).sum + 1⟩
section
variable {P : Program}
theorem zcY {t : TypeId} {k : IntKind} (h : P.underlying t = some (.int k)) : zfo P (zaN t k) := by
 constructor
 intro H enc w fuel cs x hx
 obtain ⟨n,rfl,rfl,hw⟩ := DataW.trod_int h hx
 exact ⟨n,rfl,hw,fun _ => trivial,by simp [zaN,Rows.uptoBulk]⟩
theorem zfU {t : TypeId} (h : P.underlying t = some .string) : zfo P (zaH t) := by
 constructor
 intro H enc w fuel cs x hx
 obtain ⟨s,rfl,rfl,hs⟩ := DataW.trod_string h hx
 have e : s.data.toList.length = s.size := by rw [Array.length_toList];rfl
 refine ⟨s,rfl,hs,fun hn => ?_,by simp only [zaH,Rows.uptoBulk,e];exact Nat.le_refl _⟩
 have := hn s.data.toList.length (by simp [DataW.weights])
 rwa [e] at this
theorem zhA {H α : Type} (f : Nat → DataW H) (g : Nat → α) (bk : α → Nat) (n : Nat) (h : ∀ i,i < n → bk (g i) ≤ Rows.uptoBulk (f i)) : (((List.range n).map g).map bk).sum ≤ Rows.uptoBulkAll ((List.range n).map f) := by
 suffices k : ∀ l : List Nat,(∀ i ∈ l,i < n) → ((l.map g).map bk).sum ≤ Rows.uptoBulkAll (l.map f) from k _ (fun i hi => List.mem_range.1 hi)
 intro l
 induction l with
 | nil => intro _;simp
 | cons i l ih =>
  intro hl
  have h1 := h i (hl i List.mem_cons_self)
  have h2 := ih (fun j hj => hl j (List.mem_cons_of_mem _ hj))
  simp only [List.map_cons,List.sum_cons,Rows.uptoBulkAll]
  omega
theorem zd3 {H : Type} {e : TypeId} : ∀ {l : List (DataW H)} {d : DataW H} {n : Nat},d ∈ l → n ∈ d.weights P e → n ∈ DataW.weightsAll P e l
 | x :: l,d,n,hd,hn => by
  simp only [DataW.weightsAll,List.mem_append]
  rcases List.mem_cons.1 hd with rfl | hd
  ·exact .inl hn
  ·exact .inr (zd3 hd hn)
theorem zeS {α : Type} [Inhabited α] {r : Rd α} (hr : zfo P r) {t : TypeId} {B : Nat} (h : P.underlying t = some (.slice r.t)) (hc : P.cellsOf r.t = r.d.sz) (hB : P.bytesOf r.t = B) : zfo P (zaz t B r) := by
 constructor
 intro H enc w fuel cs x hx
 rcases Deep.open_slice h hx with ⟨rfl,rfl⟩ | ⟨a,len,cap,m,n,D,Pl,rfl,_,hl,hm,hmm,rfl,hel⟩
 ·exact ⟨[],⟨none,0,rfl,Nat.le_refl _,Kd.C_nil _ _⟩,⟨Nat.zero_le _,by simp⟩,fun _ => ⟨by simp,by simp⟩,by simp [zaz,Rows.uptoBulk]⟩
 ·simp only [if_true] at hmm
  subst hmm
  obtain ⟨f,hf⟩ := Deep.choose_lt (α := α) (n := len) (p := fun i v => ∃ c,w.cells? 0 (a.add (i * P.cellsOf r.t)) (P.cellsOf r.t) = some c ∧ r.d.K w v c ∧ r.ok v ∧ ((∀ q ∈ (D i).weights P r.t,q ≤ reachBytes) → r.wt v) ∧ r.bk v ≤ Rows.uptoBulk (D i)) (fun i hi => by
   obtain ⟨cs',h1,h2⟩ := hel i (by omega)
   obtain ⟨v,k1,k2,k3,k4⟩ := hr.out h2
   exact ⟨v,cs',h1,k1,k2,k3,k4⟩)
  have hlen : ((List.range len).map f).length = len := by simp
  refine ⟨(List.range len).map f,⟨some a,m,by rw [hlen],by rw [hlen];exact hl,?_⟩,⟨by rw [hlen];omega,?_⟩,fun hw => ⟨?_,?_⟩,?_⟩
  ·rw [hlen]
   refine ⟨hlen,by unfold maxLen at hm;omega,fun _ => ⟨a,rfl,fun j p hj => ?_⟩⟩
   have hjl : j < len := by
    have := (List.getElem?_eq_some_iff.1 hj).1
    simpa using this
   obtain ⟨c,c1,c2,_⟩ := hf j hjl
   have hp : f j = p := by simpa [List.getElem?_map,List.getElem?_range hjl] using hj
   obtain ⟨_,l2,l3⟩ := World.cells?_some c1
   refine ⟨c,by rw [l2,hc],hp ▸ c2,fun i u hu => ?_⟩
   have hi : i < P.cellsOf r.t := by rw [← l2];exact (List.getElem?_eq_some_iff.1 hu).1
   rw [← hc,← Deep.add_add,l3 i hi]
   exact hu
  ·intro v hv
   obtain ⟨i,hi,rfl⟩ := List.mem_map.1 hv
   obtain ⟨c,_,_,h3,_⟩ := hf i (List.mem_range.1 hi)
   exact h3
  ·have := hw ((((List.range len).map D).length + ((List.range (m - len)).map fun j => D (len + j)).length) * P.bytesOf r.t) (by show _ ∈ DataW.weights P t _;simp only [DataW.weights,h];exact List.mem_cons_self)
   rw [hlen]
   rw [hB] at this
   simp only [List.length_map,List.length_range] at this
   exact Nat.le_trans (Nat.mul_le_mul_right _ (by omega)) this
  ·intro v hv
   obtain ⟨i,hi,rfl⟩ := List.mem_map.1 hv
   obtain ⟨c,_,_,_,h4,_⟩ := hf i (List.mem_range.1 hi)
   refine h4 (fun q hq => hw q ?_)
   show _ ∈ DataW.weights P t _
   simp only [DataW.weights,h]
   exact List.mem_cons_of_mem _ (List.mem_append_left _ (zd3 (List.mem_map.2 ⟨i,hi,rfl⟩) hq))
  ·simp only [zaz,Rows.uptoBulk]
   have := zhA D f r.bk len (fun i hi => (hf i hi).choose_spec.2.2.2.2)
   omega
structure zd4 {β : Type} (P : Program) (fs : List Field) (o : Nat) (d : Kd β) (ok wt : β → Prop) (bk : β → Nat) : Prop where
 out : ∀ {H : Type} {enc : TypeId × Value → H} {w : World} {n : Nat} {cs : List Value} {xs : List (DataW H × List MemPlace)},xs.length = fs.length → cs.length = o + d.sz →
  (∀ (i : Nat) (f : Field),fs[i]? = some f → DataW.trod enc P w 0 (fun _ => true) true n f.type ((cs.drop f.offset).take (P.cellsOf f.type)) = xs[i]?) →
  ∃ b,d.K w b (cs.drop o) ∧ ok b ∧ ((∀ q ∈ DataW.weightsEach P (fs.map (·.type)) (xs.map (·.1)),q ≤ reachBytes) → wt b) ∧ bk b ≤ Rows.uptoBulkAll (xs.map (·.1))
theorem zdr {α : Type} {r : Rd α} (hr : zfo P r) {f : Field} (ht : f.type = r.t) {o : Nat} (ho : f.offset = o) (hc : P.cellsOf r.t = r.d.sz) : zd4 P [f] o r.d r.ok r.wt r.bk := by
 constructor
 intro H enc w n cs xs hl hcs hx
 match xs,hl with
 | [x],_ =>
  have h := hx 0 f rfl
  rw [ho,ht,hc,List.take_of_length_le (by rw [List.length_drop];omega)] at h
  obtain ⟨a,h1,h2,h3,h4⟩ := hr.out h
  refine ⟨a,h1,h2,fun hq => h3 (fun q hm => hq q ?_),by simp [Rows.uptoBulkAll];omega⟩
  simp only [List.map_cons,List.map_nil,DataW.weightsEach,List.mem_append,ht]
  exact .inl hm
theorem zbJ {α β : Type} {r : Rd α} (hr : zfo P r) {f : Field} (ht : f.type = r.t) {fs : List Field} {o o' : Nat} (ho : f.offset = o) (hc : P.cellsOf r.t = r.d.sz) (ho' : o' = o + r.d.sz) {d : Kd β} {ok wt : β → Prop} {bk : β → Nat} (hfs : zd4 P fs o' d ok wt bk) :
  zd4 P (f :: fs) o (Kd.pair r.d d) (fun x => r.ok x.1 ∧ ok x.2) (fun x => r.wt x.1 ∧ wt x.2) (fun x => r.bk x.1 + bk x.2) := by
 constructor
 intro H enc w n cs xs hl hcs hx
 match xs,hl with
 | x :: xs,hl =>
  have h := hx 0 f rfl
  have hcs' : cs.length = o + (r.d.sz + d.sz) := hcs
  rw [ho,ht,hc] at h
  obtain ⟨a,h1,h2,h3,h4⟩ := hr.out h
  obtain ⟨b,k1,k2,k3,k4⟩ := hfs.out (enc := enc) (w := w) (n := n) (cs := cs) (xs := xs) (by simpa using hl) (by omega) (fun i g hg => hx (i + 1) g hg)
  refine ⟨(a,b),⟨(cs.drop o).take r.d.sz,cs.drop o',?_,h1,k1⟩,⟨h2,k2⟩,fun hq => ⟨h3 (fun q hm => hq q ?_),k3 (fun q hm => hq q ?_)⟩,?_⟩
  ·rw [ho',← List.drop_drop,List.take_append_drop]
  ·simp only [List.map_cons,DataW.weightsEach,List.mem_append,ht]
   exact .inl hm
  ·simp only [List.map_cons,DataW.weightsEach,List.mem_append]
   exact .inr hm
  ·simp only [List.map_cons,Rows.uptoBulkAll];omega
def zdV {α β : Type} (t : TypeId) (d : Kd β) (f : α → β) (ok wt : β → Prop) (bk : β → Nat) : Rd α := ⟨t,Kd.iso d f,fun a => ok (f a),fun a => wt (f a),fun a => bk (f a) + 1⟩
theorem zdt {α β : Type} {t : TypeId} {fs : List Field} {d : Kd β} {ok wt : β → Prop} {bk : β → Nat} (hfs : zd4 P fs 0 d ok wt bk) (h : P.underlying t = some (.struct fs.toArray)) (hc : P.cellsOf t = d.sz) (f : α → β) (g : β → α) (hfg : ∀ b,f (g b) = b) : zfo P (zdV t d f ok wt bk) := by
 constructor
 intro H enc w fuel cs x hx
 obtain ⟨xs,n,rfl,rfl,hl,hn,hf⟩ := DataW.trod_struct h hx
 obtain ⟨b,k1,k2,k3,k4⟩ := hfs.out (enc := enc) (w := w) (n := n) (cs := cs) (xs := xs) (by simpa using hn) (by omega) (fun i g hg => hf i g (by simpa using hg))
 refine ⟨g b,?_,?_,fun hq => ?_,?_⟩
 ·show d.K w (f (g b)) cs
  rw [hfg]
  exact k1
 ·show ok (f (g b))
  rw [hfg]
  exact k2
 ·show wt (f (g b))
  rw [hfg]
  refine k3 (fun q hm => hq q ?_)
  show _ ∈ DataW.weights P t _
  simp only [DataW.weights,h]
  exact hm
 ·show bk (f (g b)) + 1 ≤ _
  rw [hfg]
  simp only [Rows.uptoBulk]
  omega
end
theorem zg8 {α H : Type} {P : Program} {r : Rd α} (hr : zfo P r) {enc : TypeId × Value → H} {w : World} {v : Value} {d : DataW H} {ps : List MemPlace} (h : DataW.Trod enc P w 0 (fun _ => true) true r.t v d ps) :
  ∃ a,r.d.K w a v.cells.toList ∧ r.ok a ∧ ((∀ n ∈ d.weights P r.t,n ≤ reachBytes) → r.wt a) ∧ r.bk a ≤ Rows.uptoBulk d := by
 obtain ⟨fuel,hf⟩ := h
 exact hr.out hf
end Go.Proofs.Ytgdpiegkoeikiaa.Px
namespace Go.Proofs.Ytgdpiegkoeikiaa.Px
open Go.RowKit Go.Proofs.Ytgdpiegkoeikiaa.Px Go.Proofs.YtgdpiegkoeikiaaW.PrintWords Go.Proofs.YtgdpiegkoeikiaaW.PrintLast Go.Proofs.YtgdpiegkoeikiaaW.PrintMore
set_option linter.unusedVariables false
instance : Inhabited zW := ⟨z107⟩
def zdT : Rd zW := zdV 107 (Kd.pair (zaN 3 .i64).d (Kd.pair (zaN 3 .i64).d (zaz 24 16 (zaH 9)).d)) (fun x : zW => (x.f0,x.f1,x.f2)) (fun y => (zaN 3 .i64).ok y.1 ∧ ((zaN 3 .i64).ok y.2.1 ∧ ((zaz 24 16 (zaH 9)).ok y.2.2))) (fun y => (zaN 3 .i64).wt y.1 ∧ ((zaN 3 .i64).wt y.2.1 ∧ ((zaz 24 16 (zaH 9)).wt y.2.2))) (fun y => (zaN 3 .i64).bk y.1 + ((zaN 3 .i64).bk y.2.1 + ((zaz 24 16 (zaH 9)).bk y.2.2)))
theorem fit107 : zfo Try.prog zdT :=
 zdt (zbJ (o := 0) (o' := 1) (ok := fun (y : Int × (List ByteArray)) => (zaN 3 .i64).ok y.1 ∧ ((zaz 24 16 (zaH 9)).ok y.2)) (wt := fun (y : Int × (List ByteArray)) => (zaN 3 .i64).wt y.1 ∧ ((zaz 24 16 (zaH 9)).wt y.2)) (bk := fun (y : Int × (List ByteArray)) => (zaN 3 .i64).bk y.1 + ((zaz 24 16 (zaH 9)).bk y.2)) (zcY Try.underlying3) rfl rfl (by kernel_rfl) rfl (zbJ (o := 1) (o' := 2) (ok := fun (y : (List ByteArray)) => (zaz 24 16 (zaH 9)).ok y) (wt := fun (y : (List ByteArray)) => (zaz 24 16 (zaH 9)).wt y) (bk := fun (y : (List ByteArray)) => (zaz 24 16 (zaH 9)).bk y) (zcY Try.underlying3) rfl rfl (by kernel_rfl) rfl (zdr (zeS (zfU Try.underlying9) Try.underlying24 (by kernel_rfl) (by kernel_rfl)) rfl rfl (by kernel_rfl)))) Try.underlying107 (by kernel_rfl) (fun x : zW => (x.f0,x.f1,x.f2)) (fun y => ⟨y.1,y.2.1,y.2.2⟩) (fun _ => rfl)
instance : Inhabited S26 := ⟨z26⟩
def zdU : Rd S26 := zdV 26 (Kd.pair (zaN 3 .i64).d (zaN 3 .i64).d) (fun x : S26 => (x.f0,x.f1)) (fun y => (zaN 3 .i64).ok y.1 ∧ ((zaN 3 .i64).ok y.2)) (fun y => (zaN 3 .i64).wt y.1 ∧ ((zaN 3 .i64).wt y.2)) (fun y => (zaN 3 .i64).bk y.1 + ((zaN 3 .i64).bk y.2))
theorem fit26 : zfo Try.prog zdU :=
 zdt (zbJ (o := 0) (o' := 1) (ok := fun (y : Int) => (zaN 3 .i64).ok y) (wt := fun (y : Int) => (zaN 3 .i64).wt y) (bk := fun (y : Int) => (zaN 3 .i64).bk y) (zcY Try.underlying3) rfl rfl (by kernel_rfl) rfl (zdr (zcY Try.underlying3) rfl rfl (by kernel_rfl))) Try.underlying26 (by kernel_rfl) (fun x : S26 => (x.f0,x.f1)) (fun y => ⟨y.1,y.2⟩) (fun _ => rfl)
instance : Inhabited S28 := ⟨z28⟩
def rd28 : Rd S28 := zdV 28 (Kd.pair (zaN 3 .i64).d (Kd.pair (zaN 3 .i64).d (Kd.pair (zaz 23 40 zdT).d (Kd.pair (zaz 24 16 (zaH 9)).d zdU.d)))) (fun x : S28 => (x.f0,x.f1,x.f2,x.f3,x.f4)) (fun y => (zaN 3 .i64).ok y.1 ∧ ((zaN 3 .i64).ok y.2.1 ∧ ((zaz 23 40 zdT).ok y.2.2.1 ∧ ((zaz 24 16 (zaH 9)).ok y.2.2.2.1 ∧ (zdU.ok y.2.2.2.2))))) (fun y => (zaN 3 .i64).wt y.1 ∧ ((zaN 3 .i64).wt y.2.1 ∧ ((zaz 23 40 zdT).wt y.2.2.1 ∧ ((zaz 24 16 (zaH 9)).wt y.2.2.2.1 ∧ (zdU.wt y.2.2.2.2))))) (fun y => (zaN 3 .i64).bk y.1 + ((zaN 3 .i64).bk y.2.1 + ((zaz 23 40 zdT).bk y.2.2.1 + ((zaz 24 16 (zaH 9)).bk y.2.2.2.1 + (zdU.bk y.2.2.2.2)))))
theorem fit28 : zfo Try.prog rd28 :=
 zdt (zbJ (o := 0) (o' := 1) (ok := fun (y : Int × (List zW) × (List ByteArray) × S26) => (zaN 3 .i64).ok y.1 ∧ ((zaz 23 40 zdT).ok y.2.1 ∧ ((zaz 24 16 (zaH 9)).ok y.2.2.1 ∧ (zdU.ok y.2.2.2)))) (wt := fun (y : Int × (List zW) × (List ByteArray) × S26) => (zaN 3 .i64).wt y.1 ∧ ((zaz 23 40 zdT).wt y.2.1 ∧ ((zaz 24 16 (zaH 9)).wt y.2.2.1 ∧ (zdU.wt y.2.2.2)))) (bk := fun (y : Int × (List zW) × (List ByteArray) × S26) => (zaN 3 .i64).bk y.1 + ((zaz 23 40 zdT).bk y.2.1 + ((zaz 24 16 (zaH 9)).bk y.2.2.1 + (zdU.bk y.2.2.2)))) (zcY Try.underlying3) rfl rfl (by kernel_rfl) rfl (zbJ (o := 1) (o' := 2) (ok := fun (y : (List zW) × (List ByteArray) × S26) => (zaz 23 40 zdT).ok y.1 ∧ ((zaz 24 16 (zaH 9)).ok y.2.1 ∧ (zdU.ok y.2.2))) (wt := fun (y : (List zW) × (List ByteArray) × S26) => (zaz 23 40 zdT).wt y.1 ∧ ((zaz 24 16 (zaH 9)).wt y.2.1 ∧ (zdU.wt y.2.2))) (bk := fun (y : (List zW) × (List ByteArray) × S26) => (zaz 23 40 zdT).bk y.1 + ((zaz 24 16 (zaH 9)).bk y.2.1 + (zdU.bk y.2.2))) (zcY Try.underlying3) rfl rfl (by kernel_rfl) rfl (zbJ (o := 2) (o' := 3) (ok := fun (y : (List ByteArray) × S26) => (zaz 24 16 (zaH 9)).ok y.1 ∧ (zdU.ok y.2)) (wt := fun (y : (List ByteArray) × S26) => (zaz 24 16 (zaH 9)).wt y.1 ∧ (zdU.wt y.2)) (bk := fun (y : (List ByteArray) × S26) => (zaz 24 16 (zaH 9)).bk y.1 + (zdU.bk y.2)) (zeS fit107 Try.underlying23 (by kernel_rfl) (by kernel_rfl)) rfl rfl (by kernel_rfl) rfl (zbJ (o := 3) (o' := 4) (ok := fun (y : S26) => zdU.ok y) (wt := fun (y : S26) => zdU.wt y) (bk := fun (y : S26) => zdU.bk y) (zeS (zfU Try.underlying9) Try.underlying24 (by kernel_rfl) (by kernel_rfl)) rfl rfl (by kernel_rfl) rfl (zdr fit26 rfl rfl (by kernel_rfl)))))) Try.underlying28 (by kernel_rfl) (fun x : S28 => (x.f0,x.f1,x.f2,x.f3,x.f4)) (fun y => ⟨y.1,y.2.1,y.2.2.1,y.2.2.2.1,y.2.2.2.2⟩) (fun _ => rfl)
instance : Inhabited S36 := ⟨z36⟩
def rd36 : Rd S36 := zdV 36 (Kd.pair rd28.d (zaN 34 .u64).d) (fun x : S36 => (x.f0,x.f1)) (fun y => rd28.ok y.1 ∧ ((zaN 34 .u64).ok y.2)) (fun y => rd28.wt y.1 ∧ ((zaN 34 .u64).wt y.2)) (fun y => rd28.bk y.1 + ((zaN 34 .u64).bk y.2))
theorem fit36 : zfo Try.prog rd36 :=
 zdt (zbJ (o := 0) (o' := 6) (ok := fun (y : Int) => (zaN 34 .u64).ok y) (wt := fun (y : Int) => (zaN 34 .u64).wt y) (bk := fun (y : Int) => (zaN 34 .u64).bk y) fit28 rfl rfl (by kernel_rfl) rfl (zdr (zcY Try.underlying34) rfl rfl (by kernel_rfl))) Try.underlying36 (by kernel_rfl) (fun x : S36 => (x.f0,x.f1)) (fun y => ⟨y.1,y.2⟩) (fun _ => rfl)
def zcT : Prop := ∀ (a0 : S36) (a1 : Int) (a2 : Int),rd36.ok a0 → (zaN 3 .i64).ok a1 → (zaN 3 .i64).ok a2 → rd36.wt a0 → (zaN 3 .i64).wt a1 → (zaN 3 .i64).wt a2 → ∃ k,zu.f k (a0.f0.f0) (a0.f0.f1) (a0.f0.f2) (a0.f0.f3) (a0.f0.f4.f0) (a0.f0.f4.f1) (a0.f1) a1 a2 = some true
end Go.Proofs.Ytgdpiegkoeikiaa.Px
namespace Go.Proofs.Ytgdpiegkoeikiaa.Px
open Go.RowKit Go.Proofs.YtgdpiegkoeikiaaW.PrintWords Go.Proofs.YtgdpiegkoeikiaaW.PrintLast Go.Proofs.YtgdpiegkoeikiaaW.PrintMore
attribute [local go_sem] zx zz zJ zK zn zo zy zA
set_option linter.unusedVariables false
set_option linter.unusedSimpArgs false
def zaC (a r : Int) (bs : List zW) (ps : List ByteArray) (x y : Int) : Bs :=
 zbx a.toNat ++ zbx r.toNat ++ zbq (bs.map bB) ++ zbq ps ++ zbx x.toNat ++ zbx y.toNat
theorem zbX (a r : Int) (bs : List zW) (ps : List ByteArray) (x y n : Int) : za6 a r bs ps x y n = true ↔ zdP n = true ∧ 1 ≤ a ∧ a ≤ n ∧ 1 ≤ r ∧ r ≤ 1048576 ∧ bs.length ≤ 4 ∧ bs.any (zcZ n) = false ∧ zfq x y = true ∧ (zdh r = true ∨ x = 0 ∧ y = 0) ∧ zb9 ps r n = true := by
 unfold za6
 simp [and_assoc]
theorem zhZ (l : List ByteArray) (d : Nat) : ∀ j,zbj l d j = true → ∀ i,j ≤ i → i < j + d → (l.getD i ByteArray.empty).size = 32 := by
 induction d with
 | zero => intro j _ i h1 h2;omega
 | succ d ih =>
  intro j h i h1 h2
  rw [zbj,Bool.and_eq_true] at h
  rcases Nat.lt_or_ge j i with h3 | h3
  ·exact ih (j + 1) h.2 i (by omega) (by omega)
  ·obtain rfl : i = j := by omega
   have := h.1
   rw [zgA,Bool.and_eq_true] at this
   exact of_decide_eq_true this.1
theorem za7 {l : List ByteArray} {r n : Int} (hn : zdP n = true) (h : zb9 l r n = true) : l.length ≤ 64 ∧ ∀ t ∈ l,t.size = 32 := by
 unfold zb9 at h
 split at h
 ·have h0 := of_decide_eq_true h
  obtain rfl := List.eq_nil_of_length_eq_zero h0
  simp
 ·obtain ⟨_,h2,_⟩ := (zbQ n).1 hn
  rw [Bool.and_eq_true,Bool.and_eq_true] at h
  have h3 := of_decide_eq_true h.2
  refine ⟨by omega,fun t ht => ?_⟩
  obtain ⟨i,hi,rfl⟩ := List.mem_iff_getElem.1 ht
  have := zhZ l l.length 0 h.1.1 i (by omega) (by omega)
  rwa [List.getD_eq_getElem?_getD,List.getElem?_eq_getElem hi] at this
theorem zfD (b : zW) : (bB b).size ≤ 400 := by
 unfold bB
 split
 ·rename_i h
  obtain ⟨h1,h2,h3,h4,h5,h6,h7⟩ := (zcN _ _ _).1 h
  have r1 := zc5 b.f2 48 (by omega) (fun t ht => (h7 t ht).2)
  have r2 := zam (v := b.f2.length) (by omega)
  have r4 := zam (v := b.f0.toNat) (by omega)
  have r5 := zam (v := b.f1.toNat) (by omega)
  rw [zX,zce,List.length_append,List.length_append,zbq,List.length_append];omega
 ·show 0 ≤ 400;omega
theorem zfJ {bs : List zW} (h : bs.length ≤ 4) : (zbq (bs.map bB)).length ≤ 1700 := by
 have r1 := zc5 (bs.map bB) 400 (by omega) (fun t ht => by obtain ⟨b,_,rfl⟩ := List.mem_map.1 ht;exact zfD b)
 rw [List.length_map] at r1
 have r2 := zam (v := (bs.map bB).length) (by rw [List.length_map];omega)
 rw [zbq,List.length_append];omega
theorem zfK {ps : List ByteArray} (h : ps.length ≤ 64 ∧ ∀ t ∈ ps,t.size = 32) : (zbq ps).length ≤ 2700 := by
 have r1 := zc5 ps 32 (by omega) (fun t ht => by have := h.2 t ht;omega)
 have r2 := zam (v := ps.length) (by have := h.1;omega)
 rw [zbq,List.length_append];have := h.1;omega
theorem zfC {n : Int} {bs : List zW} (h : bs.any (zcZ n) = false) : ∀ b ∈ bs,zcB b.f0 b.f1 b.f2 = true ∧ b.f0 ≤ n := by
 intro b hb
 rw [List.any_eq_false] at h
 have := h b hb
 rw [zcZ] at this
 simp at this
 exact ⟨this.1,by omega⟩
theorem rd_four (a b c d : ByteArray) : zH ByteArray.empty [a,b,c,d] 0 = a ∧ zH ByteArray.empty [a,b,c,d] 1 = b ∧ zH ByteArray.empty [a,b,c,d] 2 = c ∧ zH ByteArray.empty [a,b,c,d] 3 = d := ⟨rfl,rfl,rfl,rfl⟩
theorem zdG (a r : Int) (bs : List zW) (ps : List ByteArray) (x y n : Int) :
  zar.f a r bs ps x y n = some (if za6 a r bs ps x y n = true then (toB (zaC a r bs ps x y),0) else ((⟨#[]⟩ : ByteArray),1)) := by
 unfold zar.f
 rw [show zaj.f a r bs ps x y n = some (za6 a r bs ps x y n) from rfl]
 simp only [Option.bind_some]
 by_cases h : za6 a r bs ps x y n = true
 ·rw [if_pos h,if_pos h]
  obtain ⟨h0,h1,h2,h3,h4,h5,h6,h7,h8,h9⟩ := (zbX ..).1 h
  obtain ⟨k1,k2,k3⟩ := (zbQ n).1 h0
  obtain ⟨x1,x2,y1,y2⟩ := (zcq x y).1 h7
  have e1 : zaL.f bs = some (bs.map bB) := if_pos h5
  have e2 : zay.f [a,r,x,y] = some [zbt a.toNat,zbt r.toNat,zbt x.toNat,zbt y.toNat] := by
   rw [zay.f,if_pos]
   ·rfl
   ·refine ⟨Nat.le_refl 4,fun k hk => ?_⟩
    simp only [List.mem_cons,List.not_mem_nil,or_false] at hk
    rcases hk with rfl | rfl | rfl | rfl <;> omega
  have s0 := zaX (v := a.toNat) (by omega)
  have s1 := zaX (v := r.toNat) (by omega)
  have s2 := zaX (v := x.toNat) (by omega)
  have s3 := zaX (v := y.toNat) (by omega)
  have r1 := zfJ h5
  have r2 := zfK (za7 h0 h9)
  have d1 : zaa.f (bs.map bB) = some (toB (zbq (bs.map bB))) := if_pos (by omega)
  have d2 : zaa.f ps = some (toB (zbq ps)) := if_pos (by omega)
  rw [e1,e2]
  simp only [Option.bind_some,d1,d2]
  obtain ⟨q0,q1,q2,q3⟩ := rd_four (zbt a.toNat) (zbt r.toNat) (zbt x.toNat) (zbt y.toNat)
  rw [q0,q1,q2,q3]
  simp only [ByteArray.size_append,zX]
  rw [if_pos (by simp),if_pos (by simp),if_pos (by omega),if_pos (by omega),if_pos (by omega),if_pos (by simp),if_pos (by omega),if_pos (by simp),if_pos (by omega)]
  simp only [zaC,zbt,za9]
 ·rw [if_neg h,if_neg h]
theorem bB_inj : ∀ {n m : Int} {bs cs : List zW},bs.any (zcZ n) = false → cs.any (zcZ m) = false → bs.map bB = cs.map bB → bs = cs := by
 intro n m bs
 induction bs with
 | nil => intro cs _ _ h;exact (List.map_eq_nil_iff.1 h.symm).symm
 | cons b bs ih =>
  intro cs hb hc h
  rcases cs with _ | ⟨c,cs⟩
  ·simp at h
  ·rw [List.map_cons,List.map_cons] at h
   injection h with h1 h2
   have hb1 := (zfC hb b List.mem_cons_self).1
   have hc1 := (zfC hc c List.mem_cons_self).1
   rw [bB,if_pos hb1,bB,if_pos hc1] at h1
   obtain ⟨e1,e2,e3,_⟩ := zgn hb1 hc1 (r := []) (t := []) (by rw [toB_inj h1])
   have e : b = c := by obtain ⟨b0,b1,b2⟩ := b;obtain ⟨c0,c1,c2⟩ := c;simp only at e1 e2 e3;rw [e1,e2,e3]
   rw [List.any_cons,Bool.or_eq_false_iff] at hb hc
   rw [e,ih hb.2 hc.2 h2]
theorem zgi {a r : Int} {bs : List zW} {ps : List ByteArray} {x y n a' r' : Int} {bs' : List zW} {ps' : List ByteArray} {x' y' n' : Int} (h : za6 a r bs ps x y n = true) (h' : za6 a' r' bs' ps' x' y' n' = true) {s t : Bs} (e : zaC a r bs ps x y ++ s = zaC a' r' bs' ps' x' y' ++ t) :
  a = a' ∧ r = r' ∧ bs = bs' ∧ ps = ps' ∧ x = x' ∧ y = y' ∧ s = t := by
 obtain ⟨h0,h1,h2,h3,h4,h5,h6,h7,h8,h9⟩ := (zbX ..).1 h
 obtain ⟨k1,k2,k3⟩ := (zbQ n).1 h0
 obtain ⟨x1,x2,y1,y2⟩ := (zcq x y).1 h7
 have hp := za7 h0 h9
 obtain ⟨h0',h1',h2',h3',h4',h5',h6',h7',h8',h9'⟩ := (zbX ..).1 h'
 obtain ⟨k1',k2',k3'⟩ := (zbQ n').1 h0'
 obtain ⟨x1',x2',y1',y2'⟩ := (zcq x' y').1 h7'
 have hp' := za7 h0' h9'
 rw [zaC,zaC] at e
 simp only [List.append_assoc] at e
 obtain ⟨e1,e⟩ := zbv (by omega) (by omega) e
 obtain ⟨e2,e⟩ := zbv (by omega) (by omega) e
 have hs : ∀ {cs : List zW},∀ t ∈ cs.map bB,t.size < 18446744073709551616 := fun t ht => by
  obtain ⟨b,_,rfl⟩ := List.mem_map.1 ht
  have := zfD b;omega
 obtain ⟨e3,e⟩ := zdX (by rw [List.length_map];omega) (by rw [List.length_map];omega) hs hs e
 obtain ⟨e4,e⟩ := zdX (by have := hp.1;omega) (by have := hp'.1;omega) (fun t ht => by have := hp.2 t ht;omega) (fun t ht => by have := hp'.2 t ht;omega) e
 obtain ⟨e5,e⟩ := zbv (by omega) (by omega) e
 obtain ⟨e6,e⟩ := zbv (by omega) (by omega) e
 exact ⟨by omega,by omega,bB_inj h6 h6' e3,e4,by omega,by omega,e⟩
instance decBatch : DecidableEq zW := fun a b => decidable_of_iff (a.f0 = b.f0 ∧ a.f1 = b.f1 ∧ a.f2 = b.f2) ⟨fun ⟨h0,h1,h2⟩ => by obtain ⟨a0,a1,a2⟩ := a;obtain ⟨b0,b1,b2⟩ := b;simp only at h0 h1 h2;rw [h0,h1,h2],fun h => by rw [h];exact ⟨rfl,rfl,rfl⟩⟩
theorem zda (l : List zW) (j : Nat) (h : j < l.length) : zL l (j : Int) = l[j] := by
 rw [zL,Int.toNat_natCast,List.getD_eq_getElem?_getD,List.getElem?_eq_getElem h];rfl
theorem zfw (a b : List zW) (hl : a.length = b.length) (hb : a.length < 4611686018427387904) (hs : ∀ x ∈ a,x.f2.length < 4611686018427387904) (d : Nat) : ∀ j,j + d = a.length →
  Ev (fun k => zE.l0 k a b (j : Int)) (decide (a.drop j = b.drop j)) := by
 induction d with
 | zero =>
  intro j hj
  refine Ev.step (fun k => by rw [zE.l0]) ?_
  refine zU (by omega) (zap (Ev.now _) ?_)
  rw [List.drop_eq_nil_of_le (by omega),List.drop_eq_nil_of_le (by omega)];rfl
 | succ d ih =>
  intro j hj
  have ha : j < a.length := by omega
  have hb' : j < b.length := by omega
  refine Ev.step (fun k => by rw [zE.l0]) ?_
  refine zF (by omega) (zF (by omega) (zF (by omega) ?_))
  rw [zda a j ha,zda b j hb']
  refine Ev.bind (zfu _ _ _ _ _ _ (hs _ (List.getElem_mem ha))) ?_
  rw [zak (by omega) (by omega),List.drop_eq_getElem_cons ha,List.drop_eq_getElem_cons hb']
  by_cases e : a[j] = b[j]
  ·refine zF (by rw [e];simp [zgZ]) (zap (ih (j + 1) (by omega)) ?_)
   rw [e];exact decide_eq_decide.2 ⟨fun h => by rw [h],fun h => (List.cons.inj h).2⟩
  ·refine zU ?_ (zap (Ev.now _) ?_)
   ·intro hh
    apply e
    obtain ⟨h0,h1,h2⟩ := of_decide_eq_true hh
    generalize a[j] = p at *
    generalize b[j] = q at *
    obtain ⟨p0,p1,p2⟩ := p;obtain ⟨q0,q1,q2⟩ := q
    simp only at h0 h1 h2;rw [h0,h1,h2]
   ·exact (decide_eq_false (fun h => e (List.cons.inj h).1)).symm
theorem zgu (a b : List zW) (hb : a.length < 4611686018427387904) (hs : ∀ x ∈ a,x.f2.length < 4611686018427387904) : Ev (fun k => zE.f k a b) (decide (a = b)) := by
 by_cases h : a.length = b.length
 ·exact zF (by omega) (zfw a b h hb hs a.length 0 (by omega))
 ·refine zU (by omega) (zap (Ev.now _) ?_)
  have : ¬ a = b := fun e => h (by rw [e])
  simp [this]
def zd1 (a r : Int) (bs : List zW) (ps : List ByteArray) (x y a' r' : Int) (bs' : List zW) (ps' : List ByteArray) (x' y' : Int) : Bool := decide (a = a' ∧ r = r' ∧ bs = bs' ∧ ps = ps' ∧ x = x' ∧ y = y')
theorem zeY (a r : Int) (bs : List zW) (ps : List ByteArray) (x y a' r' : Int) (bs' : List zW) (ps' : List ByteArray) (x' y' : Int) (hb : bs.length < 4611686018427387904) (hs : ∀ b ∈ bs,b.f2.length < 4611686018427387904) (hp : ps.length < 4611686018427387904) :
  Ev (fun k => za2.f k a r bs ps x y a' r' bs' ps' x' y') (zd1 a r bs ps x y a' r' bs' ps' x' y') := by
 refine Ev.bind (zf7 _ _ hp) (Ev.bind (zgu _ _ hb hs) ?_)
 unfold zd1
 by_cases h1 : ps = ps'
 ·refine zF (by simp [h1]) ?_
  by_cases h2 : bs = bs'
  ·refine zF (by simp [h2]) ?_
   by_cases h3 : a = a'
   ·refine zF h3 ?_
    by_cases h4 : r = r'
    ·refine zF h4 (zap (Ev.now _) ?_)
     by_cases h5 : x = x' <;> by_cases h6 : y = y' <;> simp [h1,h2,h3,h4,h5,h6]
    ·exact zU h4 (zap (Ev.now _) (by simp [h4]))
   ·exact zU h3 (zap (Ev.now _) (by simp [h3]))
  ·exact zU (by simp [h2]) (zap (Ev.now _) (by simp [h2]))
 ·exact zU (by simp [h1]) (zap (Ev.now _) (by simp [h1]))
theorem zh9 {a r : Int} {bs : List zW} {ps : List ByteArray} {x y n : Int} (h : za6 a r bs ps x y n = true) : bs.length < 4611686018427387904 ∧ (∀ b ∈ bs,b.f2.length < 4611686018427387904) ∧ ps.length < 4611686018427387904 := by
 obtain ⟨h0,_,_,_,_,h5,h6,_,_,h9⟩ := (zbX ..).1 h
 refine ⟨by omega,fun b hb => ?_,by have := (za7 h0 h9).1;omega⟩
 obtain ⟨_,_,_,_,_,k,_⟩ := (zcN _ _ _).1 (zfC h6 b hb).1
 omega
def zeJ (s : ByteArray) (many most : Int) : List ByteArray × ByteArray × Int := ((zaq (ofB s) many most).1,toB (zaq (ofB s) many most).2.1,(zaq (ofB s) many most).2.2)
theorem zcn (s : ByteArray) (many most : Int) (h1 : (Lit.int .i64 many).wf = true) (h2 : (Lit.int .i64 most).wf = true) (h3 : s.size < 4611686018427387904) (h4 : s.size ≤ 8796093022207 ∨ many ≤ 8796093022207) : zT.f s many most = some (zeJ s many most) := by
 unfold zT.f
 rw [if_pos ⟨h1,h2,h3,h4⟩];rfl
theorem zdZ {t : ByteArray} {most : Int} (h0 : (t.size : Int) ≤ most) (h1 : t.size < 18446744073709551616) (r : Bs) : zaB (zbV (ofB t) ++ r) most = (ofB t,r,0) := by
 rw [zaB,zbV,List.append_assoc,zbA (by rw [zab];exact h1),zcH,if_pos rfl,zbF,if_neg (by rw [zab];omega)]
 simp only
 rw [if_neg (by rw [List.length_append];omega),List.take_left,List.drop_left]
theorem zeK {s t r : Bs} {most : Int} (h : zaB s most = (t,r,0)) : s = zbV t ++ r ∧ (t.length : Int) ≤ most ∧ t.length < 18446744073709551616 := by
 unfold zaB zcH at h
 split at h
 ·rename_i h0
  rcases hq : zR s with ⟨v,q,e⟩
  rw [hq] at h h0
  simp only at h0 h
  subst h0
  obtain ⟨rfl,hv⟩ := zbK hq
  unfold zbF at h
  split at h
  ·cases h
  ·rename_i h1
   split at h
   ·cases h
   ·rename_i h2
    simp only [Prod.mk.injEq,and_true] at h
    obtain ⟨rfl,rfl⟩ := h
    have hl : (List.take v q).length = v := by rw [List.length_take];omega
    refine ⟨?_,by rw [hl];omega,by rw [hl];exact hv⟩
    rw [zbV,hl,List.append_assoc,List.take_append_drop]
 ·rename_i h0
  simp only [Prod.mk.injEq] at h
  exact absurd h.2.2 h0
theorem zem (most : Int) : ∀ (l : List ByteArray) (r : Bs) (acc : List ByteArray),(∀ t ∈ l,(t.size : Int) ≤ most ∧ t.size < 18446744073709551616) → zbd most l.length (zaV l ++ r) acc = (acc ++ l,r,0)
 | [],r,acc,_ => by simp [zbd,zaV]
 | t :: l,r,acc,h => by
  have e : zaV (t :: l) ++ r = zbV (ofB t) ++ (zaV l ++ r) := by rw [← List.append_assoc];rfl
  obtain ⟨h1,h2⟩ := h t List.mem_cons_self
  rw [List.length_cons,zbd,e,zdZ h1 h2,if_pos rfl,zem most l r _ (fun x hx => h x (List.mem_cons_of_mem _ hx)),zct]
  simp
theorem zeL (most : Int) : ∀ (n : Nat) (s : Bs) (acc l : List ByteArray) (r : Bs),zbd most n s acc = (l,r,0) → ∃ l',l = acc ++ l' ∧ l'.length = n ∧ s = zaV l' ++ r ∧ ∀ t ∈ l',(t.size : Int) ≤ most ∧ t.size < 18446744073709551616
 | 0,s,acc,l,r,h => by
  simp only [zbd,Prod.mk.injEq,and_true] at h
  obtain ⟨rfl,rfl⟩ := h
  exact ⟨[],by simp,rfl,by simp [zaV],by simp⟩
 | n + 1,s,acc,l,r,h => by
  rw [zbd] at h
  split at h
  ·rename_i h0
   obtain ⟨l',rfl,h2,h3,h4⟩ := zeL most n _ _ _ _ h
   rcases hq : zaB s most with ⟨t,q,e⟩
   rw [hq] at h0 h3
   simp only at h0 h3
   subst h0
   obtain ⟨h5,h6,h7⟩ := zeK hq
   refine ⟨toB t :: l',by simp,by simp [h2],?_,?_⟩
   ·rw [h5,h3]
    have e : zaV (toB t :: l') = zbV (ofB (toB t)) ++ zaV l' := rfl
    rw [e,zat,List.append_assoc]
   ·intro x hx
    rcases List.mem_cons.1 hx with rfl | hx
    ·rw [zX];exact ⟨h6,h7⟩
    ·exact h4 x hx
  ·rename_i h0
   simp only [Prod.mk.injEq] at h
   exact absurd h.2.2 h0
theorem zdy {l : List ByteArray} {many most : Int} (hm : (l.length : Int) ≤ many) (hl : l.length < 18446744073709551616) (h : ∀ t ∈ l,(t.size : Int) ≤ most ∧ t.size < 18446744073709551616) (r : Bs) : zaq (zbq l ++ r) many most = (l,r,0) := by
 rw [zaq,zbq,List.append_assoc,zbA hl,zcG,if_pos rfl,if_neg (by simp only;omega)]
 simp only
 rw [zem most l r [] h,List.nil_append]
theorem zdd {s r : Bs} {l : List ByteArray} {many most : Int} (h : zaq s many most = (l,r,0)) : s = zbq l ++ r ∧ (l.length : Int) ≤ many ∧ l.length < 18446744073709551616 ∧ ∀ t ∈ l,(t.size : Int) ≤ most ∧ t.size < 18446744073709551616 := by
 unfold zaq zcG at h
 split at h
 ·rename_i h0
  rcases hq : zR s with ⟨v,q,e⟩
  rw [hq] at h h0
  simp only at h0 h
  subst h0
  obtain ⟨rfl,hv⟩ := zbK hq
  split at h
  ·cases h
  ·rename_i h1
   obtain ⟨l',hl',h2,h3,h4⟩ := zeL most v q [] l r h
   rw [List.nil_append] at hl'
   subst hl'
   refine ⟨?_,by omega,by omega,h4⟩
   rw [zbq,h2,h3,List.append_assoc]
 ·rename_i h0
  simp only [Prod.mk.injEq] at h
  exact absurd h.2.2 h0
def zcQ (o q : Int) (e : Bool) (s : Bs) : Int × Int × List ByteArray × Int :=
 if e = true ∧ o ≤ 64 ∧ q ≤ 1073741824 ∧ (zaq s 4 48).2.2 = 0 ∧ (zaq s 4 48).2.1 = [] ∧ zcB o q (zaq s 4 48).1 = true then (o,q,(zaq s 4 48).1,0) else (0,0,[],3)
theorem zdD {o q : Int} {e : Bool} {s : Bs} (h : e = true ∧ o ≤ 64 ∧ q ≤ 1073741824 ∧ (zaq s 4 48).2.2 = 0 ∧ (zaq s 4 48).2.1 = [] ∧ zcB o q (zaq s 4 48).1 = true) : zcQ o q e s = (o,q,(zaq s 4 48).1,0) := if_pos h
theorem zcc {o q : Int} {e : Bool} {s : Bs} (h : ¬ (e = true ∧ o ≤ 64 ∧ q ≤ 1073741824 ∧ (zaq s 4 48).2.2 = 0 ∧ (zaq s 4 48).2.1 = [] ∧ zcB o q (zaq s 4 48).1 = true)) : zcQ o q e s = (0,0,[],3) := if_neg h
def zbn (s : Bs) : Int × Int × List ByteArray × Int :=
 zcQ (zR s).1 (zR (zR s).2.1).1 (decide ((zR s).2.2 = 0 ∧ (zR (zR s).2.1).2.2 = 0)) (zR (zR s).2.1).2.1
theorem zgh (s : ByteArray) : s.toList = ([] : List UInt8) ↔ ofB s = [] := by rw [zbo]
theorem zg2 (s : Bs) (o q : Nat) (e b : Bool) (hs : s.length < 4611686018427387904) (ho : o < 18446744073709551616) (hq : q < 18446744073709551616) (hb : b = true ↔ ¬ (e = true ∧ (o : Int) ≤ 64 ∧ (q : Int) ≤ 1073741824)) :
  Ev (fun k => zao.j0 k (toB s) (o : Int) (q : Int) b) (zcQ o q e s) := by
 refine Ev.step (fun k => by rw [zao.j0]) ?_
 by_cases h : e = true ∧ (o : Int) ≤ 64 ∧ (q : Int) ≤ 1073741824
 ·obtain ⟨h1,h2,h3⟩ := h
  refine zU (fun hh => hb.1 hh ⟨h1,h2,h3⟩) (zac (zcn (toB s) 4 48 (by decide) (by decide) (by rw [zX];exact hs) (.inr (by omega))) ?_)
  simp only [zeJ,zat]
  rw [zak (by omega) (by omega),zak (by omega) (by omega)]
  by_cases h4 : (zaq s 4 48).2.2 = 0
  ·refine zF h4 ?_
   by_cases h5 : (zaq s 4 48).2.1 = []
   ·refine zF (by rw [zgh,zat];exact h5) (zac rfl ?_)
    by_cases h6 : zcB o q (zaq s 4 48).1 = true
    ·rw [zdD ⟨h1,h2,h3,h4,h5,h6⟩]
     exact zF h6 (Ev.now _)
    ·rw [zcc (fun hh => h6 hh.2.2.2.2.2)]
     exact zU h6 (Ev.now _)
   ·rw [zcc (fun hh => h5 hh.2.2.2.2.1)]
    exact zU (by rw [zgh,zat];exact h5) (Ev.now _)
  ·rw [zcc (fun hh => h4 hh.2.2.2.1)]
   exact zU h4 (Ev.now _)
 ·rw [zcc (fun hh => h ⟨hh.1,hh.2.1,hh.2.2.1⟩)]
  exact zF (hb.2 h) (Ev.now _)
theorem zg1 (s : ByteArray) (hs : s.size < 4611686018427387904) : Ev (fun k => zao.f k s) (zbn (ofB s)) := by
 have h1 := zb1 (ofB s)
 have h2 := zb1 (zR (ofB s)).2.1
 have h3 := zb2 (ofB s)
 have h4 := zb2 (zR (ofB s)).2.1
 rw [zab] at h1
 have t2 := zcF (zca s).2.1 (by simp only [zca,zX];omega)
 refine Ev.bind (zcF s hs) (Ev.bind t2 ?_)
 simp only [zca,zat]
 have key := fun b => zg2 (zR (zR (ofB s)).2.1).2.1 (zR (ofB s)).1 (zR (zR (ofB s)).2.1).1 (decide ((zR (ofB s)).2.2 = 0 ∧ (zR (zR (ofB s)).2.1).2.2 = 0)) b (by omega) h3 h4
 by_cases e1 : (zR (ofB s)).2.2 = 0
 ·refine zF e1 ?_
  by_cases e2 : (zR (zR (ofB s)).2.1).2.2 = 0
  ·refine zF e2 ?_
   by_cases e3 : ((zR (ofB s)).1 : Int) > 64
   ·exact zF e3 (key true (by simp [e1,e2];omega))
   ·exact zU e3 (key _ (by simp [e1,e2];omega))
  ·exact zU e2 (key true (by simp [e2]))
 ·exact zU e1 (key true (by simp [e1]))
theorem zhP (o q : Int) (l : List ByteArray) (hl : l.length < 4611686018427387904) (d : Nat) : ∀ j,j + d = l.length →
  Ev (fun k => zt.l0 k (j : Int) o q l) (!(l.drop j).any zcz) := by
 induction d with
 | zero =>
  intro j hj
  refine Ev.step (fun k => by rw [zt.l0]) ?_
  refine zU (by omega) (zap (Ev.now _) ?_)
  rw [List.drop_eq_nil_of_le (by omega)];rfl
 | succ d ih =>
  intro j hj
  have hjl : j < l.length := by omega
  refine Ev.step (fun k => by rw [zt.l0]) ?_
  refine zF (by omega) (zF (by omega) ?_)
  rw [zfH l j hjl,List.drop_eq_getElem_cons hjl,zak (by omega) (by omega),List.any_cons]
  by_cases h1 : (l[j].size : Int) < 1
  ·refine zF h1 (zap (Ev.now _) ?_)
   have : l[j].size = 0 := by omega
   simp [zcz,this]
  ·refine zU h1 ?_
   by_cases h2 : (l[j].size : Int) > 48
   ·refine zF h2 (zap (Ev.now _) ?_)
    have : 48 < l[j].size := by omega
    simp [zcz,this]
   ·refine zU h2 (zap (ih (j + 1) (by omega)) ?_)
    have e1 : zcz l[j] = false := by
     have : ¬ l[j].size = 0 := by omega
     have h3 : ¬ 48 < l[j].size := by omega
     simp [zcz,this,h3]
    rw [e1,Bool.false_or]
theorem zgP (o q : Int) (l : List ByteArray) (hl : l.length < 4611686018427387904) : Ev (fun k => zt.f k o q l) (zcB o q l) := by
 have key : ∀ b : Bool,(b = true ↔ ¬ (1 ≤ o ∧ o ≤ 64 ∧ 1 ≤ q ∧ q ≤ 1073741824 ∧ 1 ≤ l.length ∧ l.length ≤ 4)) → Ev (fun k => zt.j0 k b o q l) (zcB o q l) := by
  intro b hb
  refine Ev.step (fun k => by rw [zt.j0]) ?_
  by_cases h : 1 ≤ o ∧ o ≤ 64 ∧ 1 ≤ q ∧ q ≤ 1073741824 ∧ 1 ≤ l.length ∧ l.length ≤ 4
  ·refine zU (fun hh => hb.1 hh h) (zap (zhP o q l hl l.length 0 (by omega)) ?_)
   obtain ⟨h1,h2,h3,h4,h5,h6⟩ := h
   simp [zcB,h1,h2,h3,h4,h5,h6]
  ·refine zF (hb.2 h) (zap (Ev.now _) ?_)
   symm
   rw [← Bool.not_eq_true,zcN]
   exact fun ⟨h1,h2,h3,h4,h5,h6,_⟩ => h ⟨h1,h2,h3,h4,h5,h6⟩
 by_cases h1 : o < 1
 ·exact zF h1 (key true (by simp;omega))
 refine zU h1 ?_
 by_cases h2 : o > 64
 ·exact zF h2 (key true (by simp;omega))
 refine zU h2 ?_
 by_cases h3 : q < 1
 ·exact zF h3 (key true (by simp;omega))
 refine zU h3 ?_
 by_cases h4 : q > 1073741824
 ·exact zF h4 (key true (by simp;omega))
 refine zU h4 ?_
 by_cases h5 : (l.length : Int) < 1
 ·exact zF h5 (key true (by simp;omega))
 exact zU h5 (key _ (by simp;omega))
theorem zgy {s : Bs} {o q : Int} {l : List ByteArray} (h : zbn s = (o,q,l,0)) : s = zce o q l ∧ zcB o q l = true := by
 unfold zbn zcQ at h
 split at h
 ·rename_i hc
  obtain ⟨h1,h2,h3,h4,h5,h6⟩ := hc
  obtain ⟨h7,h8⟩ := of_decide_eq_true h1
  simp only [Prod.mk.injEq,and_true] at h
  obtain ⟨rfl,rfl,rfl⟩ := h
  refine ⟨?_,h6⟩
  rcases hq : zR s with ⟨v,r,e⟩
  rw [hq] at h4 h5 h7 h8
  simp only at h4 h5 h7 h8 ⊢
  subst h7
  obtain ⟨rfl,_⟩ := zbK hq
  rcases hq2 : zR r with ⟨v2,r2,e2⟩
  rw [hq2] at h4 h5 h8
  simp only at h4 h5 h8 ⊢
  subst h8
  obtain ⟨rfl,_⟩ := zbK hq2
  rcases hq3 : zaq r2 4 48 with ⟨l,r3,e3⟩
  rw [hq3] at h4 h5
  simp only at h4 h5 ⊢
  subst h4 h5
  obtain ⟨h9,_⟩ := zdd hq3
  rw [List.append_nil] at h9
  rw [zce,← h9,Int.toNat_natCast,Int.toNat_natCast,List.append_assoc]
 ·simp at h
theorem ze4 {o q : Int} {l : List ByteArray} (h : zcB o q l = true) : zbn (zce o q l) = (o,q,l,0) := by
 obtain ⟨h1,h2,h3,h4,h5,h6,h7⟩ := (zcN o q l).1 h
 obtain ⟨a,rfl⟩ := Int.eq_ofNat_of_zero_le (show 0 ≤ o by omega)
 obtain ⟨b,rfl⟩ := Int.eq_ofNat_of_zero_le (show 0 ≤ q by omega)
 have e1 : zR (zce a b l) = (a,zbx b ++ zbq l,0) := by
  rw [zce,Int.toNat_natCast,Int.toNat_natCast,List.append_assoc]
  exact zbA (by omega) _
 have e2 : zR (zbx b ++ zbq l) = (b,zbq l,0) := zbA (by omega) _
 have e3 : zaq (zbq l) 4 48 = (l,[],0) := by
  have := zdy (l := l) (many := 4) (most := 48) (by omega) (by omega) (fun t ht => by have := h7 t ht;omega) []
  rwa [List.append_nil] at this
 rw [zbn,e1]
 simp only
 rw [e2]
 simp only
 rw [zdD (by rw [e3];exact ⟨by simp,h2,h4,rfl,rfl,h⟩),e3]
end Go.Proofs.Ytgdpiegkoeikiaa.Px