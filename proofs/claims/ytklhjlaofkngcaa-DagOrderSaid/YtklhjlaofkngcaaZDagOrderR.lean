/- Part 18 of 25 of the proof of the law DagOrder: what is proved is the statement at the end of the last part; its conditions are those of the given row. -/
import Derived.Test.YtklhjlaofkngcaaZDagOrderD
namespace Go.Proofs.Ytklhjlaofkngcaa.Px
open Go.RowKit Go.Proofs.YtklhjlaofkngcaaW.PrintWords Go.Proofs.YtklhjlaofkngcaaW.PrintLast Go.Proofs.YtklhjlaofkngcaaW.PrintMore
attribute [local go_sem] zx zz zE zF zr zt zy zA
set_option linter.unusedVariables false
set_option linter.unusedSimpArgs false
def z8 (n k : Nat) : Array Bool := (List.replicate k true ++ List.replicate (n - k) false).toArray
def zbC (a : Act) : List (Nat × Tmp) → Act
 | [] => a
 | p :: is => zbC (a.put (some p.2) undef) is
def zgs (T : Bool × List (List Nat × List Nat)) (l' : List Bool) : List Bool → List (Nat × Tmp) → Bool
 | l,[] => l == l'
 | l,p :: is => T.1 && zeK T.2 l p.1 && zbR T.2 l p.1 && zgs T l' (l.set p.1 true) is
def zf5 (ops : Array Oper) : Act → List (Nat × Tmp) → Bool
 | _,[] => true
 | a,p :: is => (match ops[p.1]? with | some o => (o.dst == some p.2) && !Region.wanted o (yielded ops a.tmps) | none => false) && zf5 ops (a.put (some p.2) undef) is
theorem zcD {P : Program} {ops : Array Oper} {Q : Exit → Act → World → Prop} {S : World → Prop} {ds : List Nat} {T : Bool × List (List Nat × List Nat)} {w : World} (hQ : ∀ c a d v w,Q (.panic c) (Act.put a (some d) v) w → Q (.panic c) a w) (hT : zbj .any ops = T) : ∀ (is : List (Nat × Tmp)) (fuel : Nat) {n : Nat} (_ : fuel + is.length = n) {l : Array Bool} (l' : Array Bool) {a : Act} (_ : zgs T l'.toList l.toList is = true) (_ : zf5 ops a is = true) {a' : Act} (_ : zbC a is = a') (_ : zM P .any ops Q S ds fuel l' a' w),zM P .any ops Q S ds n l a w := by
 intro is
 induction is with
 | nil =>
  intro fuel n hn l l' a hc _ a' ha h
  subst hn;subst ha
  simp only [zgs,beq_iff_eq] at hc
  have : l = l' := by rw [← Array.toArray_toList (xs := l),hc]
  subst this
  exact h
 | cons p is ih =>
  intro fuel n hn l l' a hc ho a' ha h
  subst hn
  simp only [zgs,Bool.and_eq_true] at hc
  obtain ⟨⟨⟨h1,h2⟩,h3⟩,h4⟩ := hc
  simp only [zf5,Bool.and_eq_true] at ho
  obtain ⟨ho,h5⟩ := ho
  rcases hi : ops[p.1]? with _ | o
  ·rw [hi] at ho;cases ho
  ·rw [hi] at ho
   simp only [Bool.and_eq_true,beq_iff_eq,Bool.not_eq_true'] at ho
   refine zv (fuel := fuel + is.length) (l.setIfInBounds p.1 true) hi ho.1 (zj hT ?_) (fun c a w => by rw [ho.1];exact hQ c a _ _ w) (Or.inr ⟨ho.2,rfl⟩) rfl (ih fuel rfl l' ?_ h5 ha h)
   ·simp only [zip,h1,h2,h3,Bool.true_and]
    simp
   ·rw [Array.toList_setIfInBounds];exact h4
end Go.Proofs.Ytklhjlaofkngcaa.Px