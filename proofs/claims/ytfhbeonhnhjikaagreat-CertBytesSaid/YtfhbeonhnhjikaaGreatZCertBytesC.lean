/- Part 3 of 35 of the proof of the law CertBytes: what is proved is the statement at the end of the last part; its conditions are those of the given row. -/
import Derived.Laws.StructEq
import Derived.Test.YtfhbeonhnhjikaaGreatZCertBytesB
namespace Go.Proofs.YtfhbeonhnhjikaaGreatW.PrintWords
open Go.RowKit
namespace Kd
def zeV (sz : Nat) (n : Nat) (inner : List Value) : List (List Value) := (List.range n).map fun j => (inner.drop (j * sz)).take sz
theorem zct (sz n : Nat) (inner : List Value) : (zeV sz n inner).length = n := by simp [zeV]
theorem chunks_at {sz n : Nat} {inner : List Value} {j : Nat} (hj : j < n) : (zeV sz n inner)[j]? = some ((inner.drop (j * sz)).take sz) := by simp [zeV,hj]
theorem zgs {sz n : Nat} {inner : List Value} {j : Nat} {c : List Value} (h : (zeV sz n inner)[j]? = some c) : c = (inner.drop (j * sz)).take sz := by
 have hj : j < n := by have := (List.getElem?_eq_some_iff.1 h).1;rwa [zct] at this
 rw [chunks_at hj] at h
 injection h with h
 exact h.symm
theorem reps_raw {α : Type} {Rr : α → List Value → Prop} {sz : Nat} {xs : List α} {inner : List Value} (h : za2 Rr sz xs inner) (hR : ∀ x c,Rr x c → c.length = sz ∧ ∀ u ∈ c,u.oneCell' = true) : za2 (fun x cs => cs = x ∧ cs.length = sz ∧ ∀ u ∈ cs,u.oneCell' = true) sz (zeV sz xs.length inner) inner := by
 refine ⟨by rw [zct];exact h.1,fun j p hj => ?_⟩
 have hjl : j < xs.length := by have := (List.getElem?_eq_some_iff.1 hj).1;rwa [zct] at this
 have hp := zgs hj
 exact ⟨hp.symm,hR _ _ (h.2 j _ (List.getElem?_eq_getElem hjl))⟩
section
variable {α : Type} {d : Kd α} {e base n cc g : Nat} {ok ok' okp S : Nat → Prop} {w w1 W W1 : World} {A : Option Addr} {u v v1 : Value} {xs : List α} {x : α} {c : List Value}
def N {α : Type} (d : Kd α) (e : Nat) (w : World) (base : Nat) (ok : Nat → Prop) (v : Value) (xs : List α) : Prop :=
 (∀ k,v.ownBlock = some k → ok k) ∧ ∃ rows : List (List Value),rows.length = xs.length ∧ (raw d.sz).R e w base (fun k => some k = v.ownBlock) v rows ∧ ∀ (j : Nat) (x : α) (c : List Value),xs[j]? = some x → rows[j]? = some c → FK d w (fun k => ok k ∧ some k ≠ v.ownBlock) x c
theorem R_N (h : d.R e w base ok v xs) : N d e w base ok v xs := by
 obtain ⟨h0,inner,ho,hr⟩ := h
 refine ⟨h0,zeV d.sz xs.length inner,zct _ _ _,⟨fun k hk => hk.symm,inner,by rw [zct];exact ho,reps_raw hr (fun x c hp => ⟨d.K_len (d.K_of_M hp),d.K_one (d.K_of_M hp)⟩)⟩,fun j x c hx hc => ?_⟩
 rw [zgs hc]
 exact FK_of_M (hr.2 j x hx)
theorem N_nil (d : Kd α) (e : Nat) (w : World) (base : Nat) (ok : Nat → Prop) : N d e w base ok (.slice none 0 0) [] := R_N (R_nil _ _ _ _ _)
end
end Kd
end Go.Proofs.YtfhbeonhnhjikaaGreatW.PrintWords
namespace Go.Proofs.YtfhbeonhnhjikaaGreatW.PrintWords
open Go.RowKit
section
variable {P : Program} {d : Nat} {xs ys : Array Value} {f : Field} {fs : List Field} {a b : Value} {r s : Bool} {w : World}
theorem eqf_last (hn : (f.name == "_") = false) (ha : (part f.type xs f.offset).run P w = .ok a w) (hb : (part f.type ys f.offset).run P w = .ok b w) (he : (Op.equalIn d f.type a b).run P w = .ok r w) : (Op.eqFields d xs ys [f]).run P w = .ok r w := by
 have hn' : f.name ≠ "_" := by simpa using hn
 simp only [Op.eqFields,if_pos hn',Sem.run_bind,ha,hb,he,Result.andThen_ok]
 cases r <;> simp
theorem eqf_cons (hn : (f.name == "_") = false) (ha : (part f.type xs f.offset).run P w = .ok a w) (hb : (part f.type ys f.offset).run P w = .ok b w) (he : (Op.equalIn d f.type a b).run P w = .ok r w) (hr : (Op.eqFields d xs ys fs).run P w = .ok s w) : (Op.eqFields d xs ys (f :: fs)).run P w = .ok (r && s) w := by
 have hn' : f.name ≠ "_" := by simpa using hn
 rw [Op.eqFields]
 simp only [if_pos hn',Sem.run_bind,ha,hb,he,Result.andThen_ok]
 cases r
 ·simp
 ·simpa using hr
theorem eqA_of {t : TypeId} {fs : Array Field} (hu : P.underlying t = some (.struct fs)) (hp : P.stoodInHeld t = false) (h : (Op.eqFields d xs ys fs.toList).run P w = .ok r w) : (Op.equalIn (d + 1) t (.agg xs) (.agg ys)).run P w = .ok r w := by
 have hf : P.fieldsOf t = fs := by simp [Program.fieldsOf,hu]
 rw [run_equalIn_struct (P := P) w d t xs ys (by rw [hf];exact hu) hp,hf]
 exact h
end
end Go.Proofs.YtfhbeonhnhjikaaGreatW.PrintWords
namespace Go.Proofs.YtfhbeonhnhjikaaGreatW.PrintWords
theorem za2.one {α : Type} {R : α → List Value → Prop} {ps : List α} {cs : List Value} {p : α} {v : Value} (hp : R p [v]) (h : za2 R 1 ps cs) : za2 R 1 (p :: ps) (v :: cs) := by
 refine ⟨by simp [h.1],fun j q hq => ?_⟩
 cases j with
 | zero =>
  simp only [List.getElem?_cons_zero,Option.some.injEq] at hq
  subst hq
  simpa using hp
 | succ j =>
  simp only [List.getElem?_cons_succ] at hq
  have h1 := h.2 j q hq
  simpa [Nat.mul_one] using h1
theorem za2.front {α : Type} {R : α → List Value → Prop} {size : Nat} {ps : List α} {cs c all : List Value} {p : α} (hp : R p c) (hc : c.length = size) (h : za2 R size ps cs) (ha : c ++ cs = all) : za2 R size (p :: ps) all := by
 subst ha
 refine ⟨by rw [List.length_append,hc,h.1,List.length_cons,Nat.succ_mul,Nat.add_comm],fun j q hq => ?_⟩
 cases j with
 | zero =>
  simp only [List.getElem?_cons_zero,Option.some.injEq] at hq
  subst hq
  rw [Nat.zero_mul,List.drop_zero,List.take_append_of_le_length (by omega),List.take_of_length_le (by omega)]
  exact hp
 | succ j =>
  simp only [List.getElem?_cons_succ] at hq
  have h1 := h.2 j q hq
  rw [Nat.succ_mul,List.drop_append,List.drop_of_length_le (by rw [hc];exact Nat.le_add_left _ _),List.nil_append,hc,Nat.add_sub_cancel]
  exact h1
theorem za2.c2 {α : Type} {R : α → List Value → Prop} {ps : List α} {cs : List Value} {p : α} {va vb : Value} (hp : R p [va,vb]) (h : za2 R 2 ps cs) : za2 R 2 (p :: ps) (va :: vb :: cs) := za2.front hp rfl h rfl
theorem za2.c3 {α : Type} {R : α → List Value → Prop} {ps : List α} {cs : List Value} {p : α} {va vb vc : Value} (hp : R p [va,vb,vc]) (h : za2 R 3 ps cs) : za2 R 3 (p :: ps) (va :: vb :: vc :: cs) := za2.front hp rfl h rfl
theorem za2.c4 {α : Type} {R : α → List Value → Prop} {ps : List α} {cs : List Value} {p : α} {va vb vc vd : Value} (hp : R p [va,vb,vc,vd]) (h : za2 R 4 ps cs) : za2 R 4 (p :: ps) (va :: vb :: vc :: vd :: cs) := za2.front hp rfl h rfl
theorem za2.c5 {α : Type} {R : α → List Value → Prop} {ps : List α} {cs : List Value} {p : α} {va vb vc vd ve : Value} (hp : R p [va,vb,vc,vd,ve]) (h : za2 R 5 ps cs) : za2 R 5 (p :: ps) (va :: vb :: vc :: vd :: ve :: cs) := za2.front hp rfl h rfl
theorem za2.c6 {α : Type} {R : α → List Value → Prop} {ps : List α} {cs : List Value} {p : α} {va vb vc vd ve vf : Value} (hp : R p [va,vb,vc,vd,ve,vf]) (h : za2 R 6 ps cs) : za2 R 6 (p :: ps) (va :: vb :: vc :: vd :: ve :: vf :: cs) := za2.front hp rfl h rfl
theorem za2.c7 {α : Type} {R : α → List Value → Prop} {ps : List α} {cs : List Value} {p : α} {va vb vc vd ve vf vg : Value} (hp : R p [va,vb,vc,vd,ve,vf,vg]) (h : za2 R 7 ps cs) : za2 R 7 (p :: ps) (va :: vb :: vc :: vd :: ve :: vf :: vg :: cs) := za2.front hp rfl h rfl
theorem za2.c8 {α : Type} {R : α → List Value → Prop} {ps : List α} {cs : List Value} {p : α} {va vb vc vd ve vf vg vh : Value} (hp : R p [va,vb,vc,vd,ve,vf,vg,vh]) (h : za2 R 8 ps cs) : za2 R 8 (p :: ps) (va :: vb :: vc :: vd :: ve :: vf :: vg :: vh :: cs) := za2.front hp rfl h rfl
theorem za2.c9 {α : Type} {R : α → List Value → Prop} {ps : List α} {cs : List Value} {p : α} {va vb vc vd ve vf vg vh vi : Value} (hp : R p [va,vb,vc,vd,ve,vf,vg,vh,vi]) (h : za2 R 9 ps cs) : za2 R 9 (p :: ps) (va :: vb :: vc :: vd :: ve :: vf :: vg :: vh :: vi :: cs) := za2.front hp rfl h rfl
theorem za2.c10 {α : Type} {R : α → List Value → Prop} {ps : List α} {cs : List Value} {p : α} {va vb vc vd ve vf vg vh vi vj : Value} (hp : R p [va,vb,vc,vd,ve,vf,vg,vh,vi,vj]) (h : za2 R 10 ps cs) : za2 R 10 (p :: ps) (va :: vb :: vc :: vd :: ve :: vf :: vg :: vh :: vi :: vj :: cs) := za2.front hp rfl h rfl
end Go.Proofs.YtfhbeonhnhjikaaGreatW.PrintWords
namespace Go.Proofs.YtfhbeonhnhjikaaGreatW.PrintWords
open Go.RowKit
section
variable {P : Program} {ops : Array Oper} {rest : List Oper} {o : Oper} {a : Act} {Q : Exit → Act → World → Prop} {W : World}
theorem zba (hw : Region.wanted o (yielded ops a.tmps) = true) (h : wpList P ops Q ({ o with guard := none } :: rest) a W) : wpList P ops Q (o :: rest) a W := by
 have h1 : Region.wanted { o with guard := none } (yielded ops a.tmps) = true := rfl
 unfold wpList at h ⊢
 rw [if_pos h1] at h
 rw [if_pos hw]
 exact h
end
end Go.Proofs.YtfhbeonhnhjikaaGreatW.PrintWords
namespace Go.Proofs.YtfhbeonhnhjikaaGreatW.PrintMore
open Go.RowKit Go.Proofs.YtfhbeonhnhjikaaGreatW.PrintWords
namespace Kd
open Go.Proofs.YtfhbeonhnhjikaaGreatW.PrintWords.Kd
end Kd
namespace Kd
open Go.Proofs.YtfhbeonhnhjikaaGreatW.PrintWords.Kd
section
variable {α : Type} {d : Kd α} {e base g N : Nat} {ok : Nat → Prop} {W w1 : World} {u v : Value} {xs : List α}
end
end Kd
theorem zz (k k' : IntKind) (x y : Int) : Builtin.max2 (.int k x) (.int k' y) = pure (.int k (if x < y then y else x)) := by simp only [Builtin.max2,gt_iff_lt]
theorem zB (k k' : IntKind) (x y : Int) : Builtin.min2 (.int k x) (.int k' y) = pure (.int k (if y < x then y else x)) := by simp only [Builtin.min2]
theorem zI (ats : Array TypeId) (ty : TypeId) (a b : Value) : Builtin.max_ ats ty #[a,b] = (Builtin.max2 a b >>= fun s => pure s) := by simp only [Builtin.max_,List.foldlM_cons,List.foldlM_nil]
theorem zJ (ats : Array TypeId) (ty : TypeId) (a b : Value) : Builtin.min_ ats ty #[a,b] = (Builtin.min2 a b >>= fun s => pure s) := by simp only [Builtin.min_,List.foldlM_cons,List.foldlM_nil]
theorem zp (ats : Array TypeId) (ty : TypeId) (a b c : Value) : Builtin.max_ ats ty #[a,b,c] = (Builtin.max2 a b >>= fun s => Builtin.max2 s c >>= fun s => pure s) := by simp only [Builtin.max_,List.foldlM_cons,List.foldlM_nil]
theorem zq (ats : Array TypeId) (ty : TypeId) (a b c : Value) : Builtin.min_ ats ty #[a,b,c] = (Builtin.min2 a b >>= fun s => Builtin.min2 s c >>= fun s => pure s) := by simp only [Builtin.min_,List.foldlM_cons,List.foldlM_nil]
theorem zA (ats : Array TypeId) (ty : TypeId) (a b c d : Value) : Builtin.max_ ats ty #[a,b,c,d] = (Builtin.max2 a b >>= fun s => Builtin.max2 s c >>= fun s => Builtin.max2 s d >>= fun s => pure s) := by simp only [Builtin.max_,List.foldlM_cons,List.foldlM_nil]
theorem zC (ats : Array TypeId) (ty : TypeId) (a b c d : Value) : Builtin.min_ ats ty #[a,b,c,d] = (Builtin.min2 a b >>= fun s => Builtin.min2 s c >>= fun s => Builtin.min2 s d >>= fun s => pure s) := by simp only [Builtin.min_,List.foldlM_cons,List.foldlM_nil]
end Go.Proofs.YtfhbeonhnhjikaaGreatW.PrintMore
namespace Go.Proofs.YtfhbeonhnhjikaaGreatW.PrintWords
open Go.RowKit
section
variable {P : Program} {ops : Array Oper} {rest : List Oper} {o : Oper} {a : Act} {Q : Exit → Act → World → Prop} {W : World}
theorem zj {f : FuncId} {as : Array Operand} {ts : Array TypeId} (_ho : o.op = .call { callee := .value (.func f),args := as,argTypes := ts }) (h : wpList P ops Q (o :: rest) a W) : wpList P ops Q (o :: rest) a W := h
theorem zcN {b : Builtin} {xs : Array Operand} {ts : Array TypeId} (_ho : o.op = .call { callee := .builtin b,args := xs,argTypes := ts }) (h : wpList P ops Q (o :: rest) a W) : wpList P ops Q (o :: rest) a W := h
end
def mx (a b : Int) : Int := if a < b then b else a
def shl (k : IntKind) (x y : Int) : Int := k.wrap (x * 2 ^ min y.toNat k.bits)
def shr (k : IntKind) (x y : Int) : Int := x / 2 ^ min y.toNat k.bits
theorem zhz {k : IntKind} {x y j : Int} (h : shl k x y = j) (hy : y ≤ k.bits) : k.wrap (x * 2 ^ y.toNat) = j := by rw [← h];unfold shl;rw [Nat.min_eq_left (by omega)]
theorem zhA {k : IntKind} {x y j : Int} (h : shr k x y = j) (hy : y ≤ k.bits) : x / 2 ^ y.toNat = j := by rw [← h];unfold shr;rw [Nat.min_eq_left (by omega)]
theorem zeW (w : World) (n : Nat) : w.drewN n = w.drewN n := rfl
namespace Kd
section
variable {α : Type} {d : Kd α} {e base : Nat} {ok : Nat → Prop} {W w1 : World} {v : Value} {xs : List α}
end
section
variable {α : Type} {d : Kd α} {e base g n cap : Nat} {ok oki okp : Nat → Prop} {W : World} {xs : List α} {i : Int} {c : List Value}
end
section
variable {α : Type} {d : Kd α} {e base b b' g N : Nat} {ok ok1 : Nat → Prop} {W W2 w1 : World} {u v : Value} {xs ys : List α} {S : Nat → Prop}
end
end Kd
end Go.Proofs.YtfhbeonhnhjikaaGreatW.PrintWords
namespace Go.Proofs.YtfhbeonhnhjikaaGreatW.PrintWords
open Go.RowKit
namespace Kd
def V {α : Type} (d : Kd α) (_e : Nat) (W : World) (_base : Nat) (ok : Nat → Prop) (v : Value) (xs : List α) : Prop := ∃ A c,v = .slice A xs.length c ∧ xs.length ≤ c ∧ F d W ok A xs.length xs
section
variable {α β : Type} {d : Kd α} {e base base' n m c g N' lo hi : Nat} {ok ok' S : Nat → Prop} {w W w1 : World} {A : Option Addr} {ad : Addr} {u v v1 : Value} {xs : List α}
theorem V_nil (d : Kd α) (e : Nat) (W : World) (base : Nat) (ok : Nat → Prop) : V d e W base ok (.slice none 0 0) [] := ⟨none,0,rfl,Nat.le_refl _,F_nil d W ok⟩
end
end Kd
end Go.Proofs.YtfhbeonhnhjikaaGreatW.PrintWords