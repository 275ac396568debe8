/- Part 3 of 24 of the proof of the law CertGrows: what is proved is the statement at the end of the last part; its conditions are those of the given row. -/
import Derived.Laws.StructEq
import Derived.Test.YtcncoepijagadaaZCertGrowsB
namespace Go.Proofs.YtcncoepijagadaaW.PrintWords
open Go.RowKit
namespace Kd
def zdb (sz : Nat) (n : Nat) (inner : List Value) : List (List Value) := (List.range n).map fun j => (inner.drop (j * sz)).take sz
theorem za1 (sz n : Nat) (inner : List Value) : (zdb sz n inner).length = n := by simp [zdb]
theorem zhC {sz n : Nat} {inner : List Value} {j : Nat} (hj : j < n) : (zdb sz n inner)[j]? = some ((inner.drop (j * sz)).take sz) := by simp [zdb,hj]
theorem zcS {sz n : Nat} {inner : List Value} {j : Nat} {c : List Value} (h : (zdb sz n inner)[j]? = some c) : c = (inner.drop (j * sz)).take sz := by
 have hj : j < n := by have := (List.getElem?_eq_some_iff.1 h).1;rwa [za1] at this
 rw [zhC hj] at h
 injection h with h
 exact h.symm
theorem ziw {α : Type} {Rr : α → List Value → Prop} {sz : Nat} {xs : List α} {inner : List Value} (h : zah Rr sz xs inner) (hR : ∀ x c,Rr x c → c.length = sz ∧ ∀ u ∈ c,u.oneCell' = true) : zah (fun x cs => cs = x ∧ cs.length = sz ∧ ∀ u ∈ cs,u.oneCell' = true) sz (zdb sz xs.length inner) inner := by
 refine ⟨by rw [za1];exact h.1,fun j p hj => ?_⟩
 have hjl : j < xs.length := by have := (List.getElem?_eq_some_iff.1 hj).1;rwa [za1] at this
 have hp := zcS hj
 exact ⟨hp.symm,hR _ _ (h.2 j _ (List.getElem?_eq_getElem hjl))⟩
section
variable {α : Type} {d : Kd α} {e base n cc g : Nat} {ok ok' okp S : Nat → Prop} {w w1 W W1 : World} {A : Option Addr} {u v v1 : Value} {xs : List α} {x : α} {c : List Value}
theorem F_get (h : F d W ok A n xs) (z : α) (i : Int) (h0 : 0 ≤ i) (h1 : i < n) :
  ∃ ad c,A = some ad ∧ c.length = d.sz ∧ FK d W ok (xs.getD i.toNat z) c ∧ (∀ j u,c[j]? = some u → W.cell? (ad.add (i.toNat * d.sz + j)) = some u) ∧ (0 < d.sz → ok ad.block) := by
 obtain ⟨ad,c,rfl,hcl,hK,hcc⟩ := C_get (zhX h) z i h0 h1
 have hin : 0 < d.sz → ok ad.block := by
  intro hs
  by_cases hk : ok ad.block
  ·exact hk
  ·obtain ⟨W',h2,h3⟩ := ziP W ad.block
   obtain ⟨ad',c',he,hcl',_,hcc'⟩ := C_get (h W' (fun k hk' _ => h2 k (fun e => hk (e ▸ hk')))) z i h0 h1
   injection he with he
   subst he
   have h4 := hcc' 0 _ (List.getElem?_eq_getElem (by omega))
   rw [h3 _ (zd7 _ _)] at h4
   cases h4
 refine ⟨ad,c,rfl,hcl,fun W' hW => ?_,hcc,hin⟩
 obtain ⟨ad',c',he,hcl',hK',hcc'⟩ := C_get (h W' hW) z i h0 h1
 injection he with he
 subst he
 have hc : c = c' := by
  apply List.ext_getElem?
  intro j
  by_cases hj : j < d.sz
  ·have hb : W'.heap[ad.block]? = W.heap[ad.block]? := by
    have h5 := hcc j _ (List.getElem?_eq_getElem (by omega))
    have h6 := World.block_lt_of_cell? W _ h5
    rw [zd7] at h6
    exact hW _ (hin (by omega)) h6
   have h5 := hcc j _ (List.getElem?_eq_getElem (by omega))
   have h6 := hcc' j _ (List.getElem?_eq_getElem (by omega))
   have h7 : W'.cell? (ad.add (i.toNat * d.sz + j)) = W.cell? (ad.add (i.toNat * d.sz + j)) := by simp [World.cell?,zd7,hb]
   rw [h7,h5] at h6
   rw [List.getElem?_eq_getElem (by omega),List.getElem?_eq_getElem (by omega)]
   exact h6
  ·rw [List.getElem?_eq_none (by omega),List.getElem?_eq_none (by omega)]
 rw [hc]
 exact hK'
theorem F_rows (h : F d W ok A n xs) : zaH (fun x c => FK d W ok x c) d.sz W A n xs := by
 obtain ⟨hl,hm,hn⟩ := zhX h
 refine ⟨hl,hm,fun hp => ?_⟩
 obtain ⟨ad,rfl,_⟩ := hn hp
 refine ⟨ad,rfl,fun j p hj => ?_⟩
 obtain ⟨hjl,hjp⟩ := List.getElem?_eq_some_iff.1 hj
 obtain ⟨ad',c,he,hcl,hK,hcc,_⟩ := F_get h p (j : Int) (by omega) (by omega)
 injection he with he
 subst he
 simp only [Int.toNat_natCast] at hK hcc
 rw [List.getD_eq_getElem?_getD,hj] at hK
 exact ⟨c,hcl,hK,hcc⟩
def N {α : Type} (d : Kd α) (e : Nat) (w : World) (base : Nat) (ok : Nat → Prop) (v : Value) (xs : List α) : Prop :=
 (∀ k,v.ownBlock = some k → ok k) ∧ ∃ rows : List (List Value),rows.length = xs.length ∧ (raw d.sz).R e w base (fun k => some k = v.ownBlock) v rows ∧ ∀ (j : Nat) (x : α) (c : List Value),xs[j]? = some x → rows[j]? = some c → FK d w (fun k => ok k ∧ some k ≠ v.ownBlock) x c
theorem zhJ {sz : Nat} {rows : List (List Value)} (h : (raw sz).R e w base ok v rows) : (raw sz).R e w base (fun k => some k = v.ownBlock) v rows := ziG rfl h
theorem zhw {sz : Nat} {rows : List (List Value)} (h : (raw sz).R e w base ok v rows) : (raw sz).R e w base (fun _ => True) v rows := R_mono h (fun _ _ => trivial)
theorem R_N (h : d.R e w base ok v xs) : N d e w base ok v xs := by
 obtain ⟨h0,inner,ho,hr⟩ := h
 refine ⟨h0,zdb d.sz xs.length inner,za1 _ _ _,⟨fun k hk => hk.symm,inner,by rw [za1];exact ho,ziw hr (fun x c hp => ⟨d.K_len (d.K_of_M hp),d.K_one (d.K_of_M hp)⟩)⟩,fun j x c hx hc => ?_⟩
 rw [zcS hc]
 exact ziF (hr.2 j x hx)
theorem N_nil (d : Kd α) (e : Nat) (w : World) (base : Nat) (ok : Nat → Prop) : N d e w base ok (.slice none 0 0) [] := R_N (R_nil _ _ _ _ _)
theorem N_base (h : N d e w base ok v xs) : ∀ k,v.ownBlock = some k → base ≤ k := by
 obtain ⟨_,rows,_,hR,_⟩ := h
 exact R_base hR
theorem N_step (h : N d e w base ok v xs) (hm : ∀ k,ok k → k < w.heap.size → w1.heap[k]? = w.heap[k]?) : N d e w1 base ok v xs := by
 obtain ⟨h0,rows,hl,hR,hf⟩ := h
 exact ⟨h0,rows,hl,zgN hR (fun k hk hlt => hm k (h0 k hk.symm) hlt),fun j x c hx hc => zhk (hf j x c hx hc) (fun k hk hlt => hm k hk.1 hlt)⟩
theorem N_slice (h : N d e w base ok v xs) : ∃ A c,v = .slice A xs.length c := by
 obtain ⟨_,rows,hl,hR,_⟩ := h
 obtain ⟨A,c,he⟩ := R_slice hR
 exact ⟨A,c,by rw [he,hl]⟩
theorem zgm {n c : Nat} (h : N d e w base ok (.slice A n c) xs) : n = xs.length ∧ n ≤ c ∧ d.C w A xs.length xs := by
 obtain ⟨_,rows,hl,hR,hf⟩ := h
 obtain ⟨hn,hc,hC⟩ := R_reads' hR
 refine ⟨by omega,hc,?_⟩
 rw [hl] at hC
 refine ⟨rfl,hC.2.1,fun hp => ?_⟩
 obtain ⟨ad,he,hcell⟩ := hC.2.2 hp
 refine ⟨ad,he,fun j p hj => ?_⟩
 have hjl : j < rows.length := by have := (List.getElem?_eq_some_iff.1 hj).1;omega
 obtain ⟨c',hcl,hK,hcc⟩ := hcell j _ (List.getElem?_eq_getElem hjl)
 have hk := zeO (hf j p _ hj (List.getElem?_eq_getElem hjl))
 refine ⟨c',hcl,?_,hcc⟩
 rw [show c' = rows[j] from hK.1]
 exact hk
theorem N_F {n : Nat} (h : N d e w base ok (.slice A n cc) xs) : F d w ok A n xs := fun W' hW => by
 have h2 := zgm (N_step h hW)
 rw [h2.1]
 exact h2.2.2
end
end Kd
end Go.Proofs.YtcncoepijagadaaW.PrintWords
namespace Go.Proofs.YtcncoepijagadaaW.PrintWords
open Go.RowKit
section
variable {P : Program} {d : Nat} {xs ys : Array Value} {f : Field} {fs : List Field} {a b : Value} {r s : Bool} {w : World}
theorem zh6 (hn : (f.name == "_") = false) (ha : (part f.type xs f.offset).run P w = .ok a w) (hb : (part f.type ys f.offset).run P w = .ok b w) (he : (Op.equalIn d f.type a b).run P w = .ok r w) : (Op.eqFields d xs ys [f]).run P w = .ok r w := by
 have hn' : f.name ≠ "_" := by simpa using hn
 simp only [Op.eqFields,if_pos hn',Sem.run_bind,ha,hb,he,Result.andThen_ok]
 cases r <;> simp
theorem zh5 (hn : (f.name == "_") = false) (ha : (part f.type xs f.offset).run P w = .ok a w) (hb : (part f.type ys f.offset).run P w = .ok b w) (he : (Op.equalIn d f.type a b).run P w = .ok r w) (hr : (Op.eqFields d xs ys fs).run P w = .ok s w) : (Op.eqFields d xs ys (f :: fs)).run P w = .ok (r && s) w := by
 have hn' : f.name ≠ "_" := by simpa using hn
 rw [Op.eqFields]
 simp only [if_pos hn',Sem.run_bind,ha,hb,he,Result.andThen_ok]
 cases r
 ·simp
 ·simpa using hr
theorem eqA_of {t : TypeId} {fs : Array Field} (hu : P.underlying t = some (.struct fs)) (hp : P.stoodInHeld t = false) (h : (Op.eqFields d xs ys fs.toList).run P w = .ok r w) : (Op.equalIn (d + 1) t (.agg xs) (.agg ys)).run P w = .ok r w := by
 have hf : P.fieldsOf t = fs := by simp [Program.fieldsOf,hu]
 rw [run_equalIn_struct (P := P) w d t xs ys (by rw [hf];exact hu) hp,hf]
 exact h
end
end Go.Proofs.YtcncoepijagadaaW.PrintWords
namespace Go.Proofs.YtcncoepijagadaaW.PrintWords
theorem zah.one {α : Type} {R : α → List Value → Prop} {ps : List α} {cs : List Value} {p : α} {v : Value} (hp : R p [v]) (h : zah R 1 ps cs) : zah R 1 (p :: ps) (v :: cs) := by
 refine ⟨by simp [h.1],fun j q hq => ?_⟩
 cases j with
 | zero =>
  simp only [List.getElem?_cons_zero,Option.some.injEq] at hq
  subst hq
  simpa using hp
 | succ j =>
  simp only [List.getElem?_cons_succ] at hq
  have h1 := h.2 j q hq
  simpa [Nat.mul_one] using h1
theorem zah.front {α : Type} {R : α → List Value → Prop} {size : Nat} {ps : List α} {cs c all : List Value} {p : α} (hp : R p c) (hc : c.length = size) (h : zah R size ps cs) (ha : c ++ cs = all) : zah R size (p :: ps) all := by
 subst ha
 refine ⟨by rw [List.length_append,hc,h.1,List.length_cons,Nat.succ_mul,Nat.add_comm],fun j q hq => ?_⟩
 cases j with
 | zero =>
  simp only [List.getElem?_cons_zero,Option.some.injEq] at hq
  subst hq
  rw [Nat.zero_mul,List.drop_zero,List.take_append_of_le_length (by omega),List.take_of_length_le (by omega)]
  exact hp
 | succ j =>
  simp only [List.getElem?_cons_succ] at hq
  have h1 := h.2 j q hq
  rw [Nat.succ_mul,List.drop_append,List.drop_of_length_le (by rw [hc];exact Nat.le_add_left _ _),List.nil_append,hc,Nat.add_sub_cancel]
  exact h1
theorem zah.c2 {α : Type} {R : α → List Value → Prop} {ps : List α} {cs : List Value} {p : α} {va vb : Value} (hp : R p [va,vb]) (h : zah R 2 ps cs) : zah R 2 (p :: ps) (va :: vb :: cs) := zah.front hp rfl h rfl
theorem zah.c3 {α : Type} {R : α → List Value → Prop} {ps : List α} {cs : List Value} {p : α} {va vb vc : Value} (hp : R p [va,vb,vc]) (h : zah R 3 ps cs) : zah R 3 (p :: ps) (va :: vb :: vc :: cs) := zah.front hp rfl h rfl
theorem zah.c4 {α : Type} {R : α → List Value → Prop} {ps : List α} {cs : List Value} {p : α} {va vb vc vd : Value} (hp : R p [va,vb,vc,vd]) (h : zah R 4 ps cs) : zah R 4 (p :: ps) (va :: vb :: vc :: vd :: cs) := zah.front hp rfl h rfl
theorem zah.c5 {α : Type} {R : α → List Value → Prop} {ps : List α} {cs : List Value} {p : α} {va vb vc vd ve : Value} (hp : R p [va,vb,vc,vd,ve]) (h : zah R 5 ps cs) : zah R 5 (p :: ps) (va :: vb :: vc :: vd :: ve :: cs) := zah.front hp rfl h rfl
theorem zah.c6 {α : Type} {R : α → List Value → Prop} {ps : List α} {cs : List Value} {p : α} {va vb vc vd ve vf : Value} (hp : R p [va,vb,vc,vd,ve,vf]) (h : zah R 6 ps cs) : zah R 6 (p :: ps) (va :: vb :: vc :: vd :: ve :: vf :: cs) := zah.front hp rfl h rfl
theorem zah.c7 {α : Type} {R : α → List Value → Prop} {ps : List α} {cs : List Value} {p : α} {va vb vc vd ve vf vg : Value} (hp : R p [va,vb,vc,vd,ve,vf,vg]) (h : zah R 7 ps cs) : zah R 7 (p :: ps) (va :: vb :: vc :: vd :: ve :: vf :: vg :: cs) := zah.front hp rfl h rfl
theorem zah.c8 {α : Type} {R : α → List Value → Prop} {ps : List α} {cs : List Value} {p : α} {va vb vc vd ve vf vg vh : Value} (hp : R p [va,vb,vc,vd,ve,vf,vg,vh]) (h : zah R 8 ps cs) : zah R 8 (p :: ps) (va :: vb :: vc :: vd :: ve :: vf :: vg :: vh :: cs) := zah.front hp rfl h rfl
theorem zah.c9 {α : Type} {R : α → List Value → Prop} {ps : List α} {cs : List Value} {p : α} {va vb vc vd ve vf vg vh vi : Value} (hp : R p [va,vb,vc,vd,ve,vf,vg,vh,vi]) (h : zah R 9 ps cs) : zah R 9 (p :: ps) (va :: vb :: vc :: vd :: ve :: vf :: vg :: vh :: vi :: cs) := zah.front hp rfl h rfl
theorem zah.c10 {α : Type} {R : α → List Value → Prop} {ps : List α} {cs : List Value} {p : α} {va vb vc vd ve vf vg vh vi vj : Value} (hp : R p [va,vb,vc,vd,ve,vf,vg,vh,vi,vj]) (h : zah R 10 ps cs) : zah R 10 (p :: ps) (va :: vb :: vc :: vd :: ve :: vf :: vg :: vh :: vi :: vj :: cs) := zah.front hp rfl h rfl
end Go.Proofs.YtcncoepijagadaaW.PrintWords
namespace Go.Proofs.YtcncoepijagadaaW.PrintWords
open Go.RowKit
section
variable {P : Program} {ops : Array Oper} {rest : List Oper} {o : Oper} {a : Act} {Q : Exit → Act → World → Prop} {W : World}
theorem zcU (hw : Region.wanted o (yielded ops a.tmps) = true) (h : wpList P ops Q ({ o with guard := none } :: rest) a W) : wpList P ops Q (o :: rest) a W := by
 have h1 : Region.wanted { o with guard := none } (yielded ops a.tmps) = true := rfl
 unfold wpList at h ⊢
 rw [if_pos h1] at h
 rw [if_pos hw]
 exact h
end
end Go.Proofs.YtcncoepijagadaaW.PrintWords
namespace Go.Proofs.YtcncoepijagadaaW.PrintWords
open Go.RowKit
namespace Kd
section
variable {α : Type} {d : Kd α} {e base n cap g : Nat} {ok ok' okp : Nat → Prop} {w w1 W : World} {v v1 : Value} {xs ys : List α}
theorem zeP {rows news : List (List Value)} (h0 : ∀ k,v.ownBlock = some k → ok k) (hl : rows.length = xs.length) (hf : ∀ (j : Nat) (x : α) (c : List Value),xs[j]? = some x → rows[j]? = some c → FK d W (fun k => ok k ∧ some k ≠ v.ownBlock) x c)
  (hl2 : news.length = ys.length) (hf2 : ∀ (j : Nat) (x : α) (c : List Value),ys[j]? = some x → news[j]? = some c → FK d W okp x c) (hokp : ∀ k,okp k → ok k ∧ some k ≠ v.ownBlock) (hfresh : ∀ k,W.heap.size ≤ k → ok k)
  (hR : (raw d.sz).R e w1 base (fun _ => True) v1 (rows ++ news)) (hg : W.grownBy w1 v.ownBlock) (hat : v1.ownBlock = v.ownBlock ∨ ∃ b,v1.ownBlock = some b ∧ W.heap.size ≤ b) : N d e w1 base ok v1 (xs ++ ys) := by
 have hne : ∀ k,some k ≠ v.ownBlock → k < W.heap.size → some k ≠ v1.ownBlock := by
  intro k hk hlt
  rcases hat with hat | ⟨b,hb,hle⟩
  ·rw [hat];exact hk
  ·rw [hb]
   intro he
   injection he with he
   omega
 have step : ∀ {x : α} {c : List Value} {o : Nat → Prop},FK d W o x c → (∀ k,o k → ok k ∧ some k ≠ v.ownBlock) → FK d w1 (fun k => ok k ∧ some k ≠ v1.ownBlock) x c := by
  intro x c o hq ho
  exact ziE (zhk (zhW hq) (fun k hk hlt => hg.block k hlt (ho k hk.1).2)) (fun k hk => ⟨(ho k hk.1).1,hne k (ho k hk.1).2 hk.2⟩)
 refine ⟨fun k hk => ?_,rows ++ news,by rw [List.length_append,List.length_append,hl,hl2],zhJ hR,fun j x c hx hc => ?_⟩
 ·rcases hat with hat | ⟨b,hb,hle⟩
  ·exact h0 k (hat ▸ hk)
  ·rw [hb] at hk
   injection hk with hk
   exact hfresh k (by omega)
 ·rcases Nat.lt_or_ge j xs.length with hlt | hge
  ·rw [List.getElem?_append_left hlt] at hx
   rw [List.getElem?_append_left (by omega)] at hc
   exact step (hf j x c hx hc) (fun _ hk => hk)
  ·rw [List.getElem?_append_right hge] at hx
   rw [List.getElem?_append_right (by omega),hl] at hc
   exact step (hf2 _ x c hx hc) hokp
theorem FK_raw {x : α} {c : List Value} (h : FK d W ok x c) : c = c ∧ c.length = d.sz ∧ ∀ u ∈ c,u.oneCell' = true := ⟨rfl,d.K_len (zeO h),d.K_one (zeO h)⟩
theorem zhK {Rr : α → List Value → Prop} {sz m : Nat} {A : Option Addr} (h : zaH Rr sz W A m ys) (hR : ∀ x c,Rr x c → c.length = sz ∧ ∀ u ∈ c,u.oneCell' = true) :
  ∃ news : List (List Value),news.length = ys.length ∧ zaH (fun x cs => cs = x ∧ cs.length = sz ∧ ∀ u ∈ cs,u.oneCell' = true) sz W A m news ∧ ∀ (j : Nat) (x : α) (c : List Value),ys[j]? = some x → news[j]? = some c → Rr x c := by
 rcases Nat.eq_zero_or_pos m with h0 | hp
 ·have hy : ys = [] := List.eq_nil_of_length_eq_zero (h.1.trans h0)
  subst hy
  exact ⟨[],rfl,⟨h0 ▸ rfl,h.2.1,fun hp => by omega⟩,fun j x c hx => by simp at hx⟩
 ·obtain ⟨ad,rfl,_⟩ := h.2.2 hp
  obtain ⟨inner,hr,hc⟩ := zaH.inner_ h
  refine ⟨zdb sz ys.length inner,za1 _ _ _,⟨by rw [za1];exact h.1,h.2.1,fun _ => ⟨ad,rfl,fun j p hj => ?_⟩⟩,fun j x c hx hcc => ?_⟩
  ·have hjl : j < ys.length := by have := (List.getElem?_eq_some_iff.1 hj).1;rwa [za1] at this
   have hpe := zcS hj
   have hq := hR _ _ (hr.2 j _ (List.getElem?_eq_getElem hjl))
   rw [← hpe] at hq
   refine ⟨p,hq.1,⟨rfl,hq⟩,fun i u hu => ?_⟩
   have hu2 : inner[j * sz + i]? = some u := by
    rw [hpe,List.getElem?_take] at hu
    split at hu
    ·rw [List.getElem?_drop] at hu
     exact hu
    ·cases hu
   exact hc _ u hu2
  ·rw [zcS hcc]
   exact hr.2 j x hx
end
section
variable {P : Program} {ops : Array Oper} {rest : List Oper} {o : Oper} {a : Act} {Q : Exit → Act → World → Prop} {Kc : Act → World → Prop} {α : Type}
theorem N_append (d : Kd α) {w0 W : World} (base : Nat) (hgd : o.guard = none) (s x : Operand) (t e : TypeId) (z : Value) (bytes : Nat)
  (ho : o.op = .call { callee := .builtin .append,args := #[s,x],argTypes := #[t,t] })
  (ht : P.underlying t = some (.slice e)) (hinfo : (P.info? e).map (fun i => (i.zero,i.size,i.bytes)) = some (some z,d.sz,bytes)) (hz : z.cells.size = d.sz) (hs0 : 0 < d.sz) (hb0 : 0 < bytes)
  (v : Value) (xs : List α) (p : α) (cs : List Value) (ok okp : Nat → Prop) (hs : a.eval s = v) (hx : a.eval x = .slice (some ⟨W.heap.size,0,none⟩) 1 1) (hp : FK d W okp p cs) (hokp : ∀ k,okp k → ok k ∧ some k ≠ v.ownBlock) (hfresh : ∀ k,W.heap.size ≤ k → ok k)
  (HO : N d e W base ok v xs) (HB : Below base w0 W) (hbase : base ≤ W.heap.size) (hl : (xs.length + 1) * bytes ≤ 140737488355328)
  (h : ∀ v1 w1,N d e w1 base ok v1 (xs ++ [p]) → Below base w0 w1 → W.grownBy w1 v.ownBlock → (v1.ownBlock = v.ownBlock ∨ ∃ b,v1.ownBlock = some b ∧ W.heap.size ≤ b) → wpList P ops Q rest (a.put o.dst v1) w1) :
  wpList P ops Q (o :: rest) a (W.alloc (.cells cs.toArray e)) := by
 obtain ⟨h0,rows,hlr,hR,hf⟩ := HO
 refine R_append (raw d.sz) base hgd s x t e z bytes ho ht hinfo hz hs0 hb0 v rows cs cs (fun _ => True) (fun _ => False) hs hx (FK_raw hp) (fun _ hk => hk.elim) (fun _ _ => trivial) (zhw hR) HB hbase (by rw [hlr];exact hl) ?_
 intro v1 w1 hr hb hg hat
 exact h v1 w1 (zeP h0 hlr hf (ys := [p]) (news := [cs]) rfl (fun j y c hy hc => by
  rcases j with _ | j
  ·simp only [List.getElem?_cons_zero,Option.some.injEq] at hy hc
   rw [← hy,← hc];exact hp
  ·simp at hy) hokp hfresh hr hg hat) hb hg hat
theorem N_append_rows (d : Kd α) {w0 W : World} (base : Nat) (hgd : o.guard = none) (s x : Operand) (t e : TypeId) (z : Value) (bytes : Nat)
  (ho : o.op = .call { callee := .builtin .append,args := #[s,x],argTypes := #[t,t] })
  (ht : P.underlying t = some (.slice e)) (hinfo : (P.info? e).map (fun i => (i.zero,i.size,i.bytes)) = some (some z,d.sz,bytes)) (hz : z.cells.size = d.sz) (hs0 : 0 < d.sz) (hb0 : 0 < bytes)
  (v : Value) (xs ys : List α) (A : Option Addr) (m c : Nat) (ok okp : Nat → Prop) (hs : a.eval s = v) (hx : a.eval x = .slice A m c)
  (HO : N d e W base ok v xs) (HR : F d W okp A m ys) (hokp : ∀ k,okp k → ok k ∧ some k ≠ v.ownBlock) (hfresh : ∀ k,W.heap.size ≤ k → ok k)
  (HB : Below base w0 W) (hbase : base ≤ W.heap.size) (hl : (xs.length + m) * bytes ≤ 140737488355328)
  (h : ∀ v1 w1,N d e w1 base ok v1 (xs ++ ys) → Below base w0 w1 → W.grownBy w1 v.ownBlock → (v1.ownBlock = v.ownBlock ∨ ∃ b,v1.ownBlock = some b ∧ W.heap.size ≤ b) → wpList P ops Q rest (a.put o.dst v1) w1) :
  wpList P ops Q (o :: rest) a W := by
 obtain ⟨h0,rows,hlr,hR,hf⟩ := HO
 obtain ⟨news,hnl,hnr,hnf⟩ := zhK (F_rows HR) (fun y c hk => ⟨d.K_len (zeO hk),d.K_one (zeO hk)⟩)
 refine zfq (raw d.sz) base hgd s x t e z bytes ho ht hinfo hz hs0 hb0 v rows news A m c (fun _ => True) (fun _ => False) hs hx (zhw hR) hnr (fun _ _ hk => hk) (fun _ hk => hk.elim) (fun _ _ => trivial) HB hbase (by rw [hlr];exact hl) ?_
 intro v1 w1 hr hb hg hat
 exact h v1 w1 (zeP h0 hlr hf hnl hnf hokp hfresh hr hg hat) hb hg hat
end
end Kd
end Go.Proofs.YtcncoepijagadaaW.PrintWords
namespace Go.Proofs.YtcncoepijagadaaW.PrintMore
open Go.RowKit Go.Proofs.YtcncoepijagadaaW.PrintWords
namespace Kd
open Go.Proofs.YtcncoepijagadaaW.PrintWords.Kd
end Kd
namespace Kd
open Go.Proofs.YtcncoepijagadaaW.PrintWords.Kd
section
variable {α : Type} {d : Kd α} {e base g N : Nat} {ok : Nat → Prop} {W w1 : World} {u v : Value} {xs : List α}
end
end Kd
theorem zp (k k' : IntKind) (x y : Int) : Builtin.max2 (.int k x) (.int k' y) = pure (.int k (if x < y then y else x)) := by simp only [Builtin.max2,gt_iff_lt]
theorem zr (k k' : IntKind) (x y : Int) : Builtin.min2 (.int k x) (.int k' y) = pure (.int k (if y < x then y else x)) := by simp only [Builtin.min2]
theorem zy (ats : Array TypeId) (ty : TypeId) (a b : Value) : Builtin.max_ ats ty #[a,b] = (Builtin.max2 a b >>= fun s => pure s) := by simp only [Builtin.max_,List.foldlM_cons,List.foldlM_nil]
theorem zz (ats : Array TypeId) (ty : TypeId) (a b : Value) : Builtin.min_ ats ty #[a,b] = (Builtin.min2 a b >>= fun s => pure s) := by simp only [Builtin.min_,List.foldlM_cons,List.foldlM_nil]
theorem zl (ats : Array TypeId) (ty : TypeId) (a b c : Value) : Builtin.max_ ats ty #[a,b,c] = (Builtin.max2 a b >>= fun s => Builtin.max2 s c >>= fun s => pure s) := by simp only [Builtin.max_,List.foldlM_cons,List.foldlM_nil]
theorem zm (ats : Array TypeId) (ty : TypeId) (a b c : Value) : Builtin.min_ ats ty #[a,b,c] = (Builtin.min2 a b >>= fun s => Builtin.min2 s c >>= fun s => pure s) := by simp only [Builtin.min_,List.foldlM_cons,List.foldlM_nil]
theorem zq (ats : Array TypeId) (ty : TypeId) (a b c d : Value) : Builtin.max_ ats ty #[a,b,c,d] = (Builtin.max2 a b >>= fun s => Builtin.max2 s c >>= fun s => Builtin.max2 s d >>= fun s => pure s) := by simp only [Builtin.max_,List.foldlM_cons,List.foldlM_nil]
theorem zs (ats : Array TypeId) (ty : TypeId) (a b c d : Value) : Builtin.min_ ats ty #[a,b,c,d] = (Builtin.min2 a b >>= fun s => Builtin.min2 s c >>= fun s => Builtin.min2 s d >>= fun s => pure s) := by simp only [Builtin.min_,List.foldlM_cons,List.foldlM_nil]
end Go.Proofs.YtcncoepijagadaaW.PrintMore
namespace Go.Proofs.YtcncoepijagadaaW.PrintWords
open Go.RowKit
section
variable {P : Program} {ops : Array Oper} {rest : List Oper} {o : Oper} {a : Act} {Q : Exit → Act → World → Prop} {W : World}
theorem zv {f : FuncId} {as : Array Operand} {ts : Array TypeId} (_ho : o.op = .call { callee := .value (.func f),args := as,argTypes := ts }) (h : wpList P ops Q (o :: rest) a W) : wpList P ops Q (o :: rest) a W := h
theorem zbj {b : Builtin} {xs : Array Operand} {ts : Array TypeId} (_ho : o.op = .call { callee := .builtin b,args := xs,argTypes := ts }) (h : wpList P ops Q (o :: rest) a W) : wpList P ops Q (o :: rest) a W := h
end
def mx (a b : Int) : Int := if a < b then b else a
def shl (k : IntKind) (x y : Int) : Int := k.wrap (x * 2 ^ min y.toNat k.bits)
def shr (k : IntKind) (x y : Int) : Int := x / 2 ^ min y.toNat k.bits
theorem zfP {k : IntKind} {x y j : Int} (h : shl k x y = j) (hy : y ≤ k.bits) : k.wrap (x * 2 ^ y.toNat) = j := by rw [← h];unfold shl;rw [Nat.min_eq_left (by omega)]
theorem zfQ {k : IntKind} {x y j : Int} (h : shr k x y = j) (hy : y ≤ k.bits) : x / 2 ^ y.toNat = j := by rw [← h];unfold shr;rw [Nat.min_eq_left (by omega)]
namespace Kd
section
variable {α : Type} {d : Kd α} {e base : Nat} {ok : Nat → Prop} {W w1 : World} {v : Value} {xs : List α}
end
section
variable {α : Type} {d : Kd α} {e base g n cap : Nat} {ok oki okp : Nat → Prop} {W : World} {xs : List α} {i : Int} {c : List Value}
end
section
variable {α : Type} {d : Kd α} {e base b b' g N : Nat} {ok ok1 : Nat → Prop} {W W2 w1 : World} {u v : Value} {xs ys : List α} {S : Nat → Prop}
end
end Kd
end Go.Proofs.YtcncoepijagadaaW.PrintWords
namespace Go.Proofs.YtcncoepijagadaaW.PrintWords
open Go.RowKit
namespace Kd
def V {α : Type} (d : Kd α) (_e : Nat) (W : World) (_base : Nat) (ok : Nat → Prop) (v : Value) (xs : List α) : Prop := ∃ A c,v = .slice A xs.length c ∧ xs.length ≤ c ∧ F d W ok A xs.length xs
section
variable {α β : Type} {d : Kd α} {e base base' n m c g N' lo hi : Nat} {ok ok' S : Nat → Prop} {w W w1 : World} {A : Option Addr} {ad : Addr} {u v v1 : Value} {xs : List α}
theorem V_at (h : V d e W base ok (.slice A n c) xs) : n = xs.length ∧ n ≤ c ∧ F d W ok A xs.length xs := by
 obtain ⟨A',c',hv,hl,hf⟩ := h
 injection hv with ha hn hc
 subst ha;subst hc
 exact ⟨hn,by rw [hn];exact hl,hf⟩
theorem V_reads' (h : V d e W base ok (.slice A n c) xs) : n = xs.length ∧ n ≤ c ∧ d.C W A xs.length xs := ⟨(V_at h).1,(V_at h).2.1,zhX (V_at h).2.2⟩
theorem V_nil (d : Kd α) (e : Nat) (W : World) (base : Nat) (ok : Nat → Prop) : V d e W base ok (.slice none 0 0) [] := ⟨none,0,rfl,Nat.le_refl _,F_nil d W ok⟩
theorem N_V (h : N d e W base ok v xs) : V d e W base' ok v xs := by
 obtain ⟨A,c,rfl⟩ := N_slice h
 exact ⟨A,c,rfl,(zgm h).2.1,N_F h⟩
theorem F_take (h : F d W ok A xs.length xs) (hm : m ≤ xs.length) : F d W ok A (xs.take m).length (xs.take m) := F_imp h (fun _ hC => C_take hC hm)
theorem F_cut (h : F d W ok A xs.length xs) (hm : m ≤ xs.length) (hc : xs.length ≤ c) : F d W ok (if c = m then A else A.map (·.add (m * d.sz))) (xs.drop m).length (xs.drop m) := F_imp h (fun _ hC => C_drop hC hm hc)
end
end Kd
end Go.Proofs.YtcncoepijagadaaW.PrintWords