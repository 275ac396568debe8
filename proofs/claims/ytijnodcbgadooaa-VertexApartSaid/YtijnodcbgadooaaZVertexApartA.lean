/- part 1 of the law VertexApart: the texts of its proof, merged by this session's bundle.py. What is proved: the statement at the end of the last of these texts; its conditions are those of the given row. -/
import Derived.Test.YtijnodcbgadooaaProg
import Derived.Below
import Derived.Deep.Draws
import Derived.Deep.AppendLies
import Derived.Maps.AppendAt
import Derived.OwnWalk
import Derived.Laws.BytesArg
import Derived.Laws.MakeOwn
import Derived.Laws.OwnMore
import Derived.Deep.OwnRows
import Derived.Tactics
import Derived.Lib.ConvBytes
import Derived.Laws.Slices
import Derived.WalkKit
import Derived.KernelRfl
import Derived.RowKit3
import Derived.Deep.LoopGhost
import Derived.Deep.QuietTactic
import Derived.BigQuiet
import Derived.WideLaws
import Derived.Deep.DeepCutAuto
import Derived.Deep.CutBlock
import Derived.Deep.RegionHeld3
import Derived.Laws.Rows
import Derived.Lib.AppendStr
import Derived.ArgAppend
import Derived.Laws.IdiomCopy
import Derived.OrdersHeld
import Derived.Laws.BitsLemmas
import Derived.RowKit
import Derived.WalkLawsBesides
import Derived.Test.YtijnodcbgadooaaWWords
import Derived.Test.YtijnodcbgadooaaWLast
import Derived.Test.YtijnodcbgadooaaWTab
import Derived.Test.YtijnodcbgadooaaWFour
import Derived.Test.YtijnodcbgadooaaWQPut
import Derived.Test.YtijnodcbgadooaaWApart
import Derived.Test.YtijnodcbgadooaaWArr
import Derived.Test.YtijnodcbgadooaaWZeros
import Derived.Test.YtijnodcbgadooaaWFoot
import Derived.Test.YtijnodcbgadooaaWKept
import Derived.Test.YtijnodcbgadooaaWShare
import Derived.Test.YtijnodcbgadooaaWN
import Derived.Test.YtijnodcbgadooaaWFootNe
import Derived.Test.YtijnodcbgadooaaWAt
import Derived.Test.YtijnodcbgadooaaWEqStruct
import Derived.Test.YtijnodcbgadooaaWRepsOne
import Derived.Test.YtijnodcbgadooaaWInv
import Derived.Test.YtijnodcbgadooaaWInvWords
import Derived.Test.YtijnodcbgadooaaWGuard
import Derived.Test.YtijnodcbgadooaaWNEv
import Derived.Test.YtijnodcbgadooaaWMore
import Derived.ScopeJumps
import Derived.WalkMore
-- printed by this session's pprint.py (the kit's print, with this session's plugs) out of the translation; Lean checks it
namespace Go.Proofs.Ytijnodcbgadooaa.Px
open Go.RowKit Go.Proofs.YtijnodcbgadooaaW.PrintWords Go.Proofs.YtijnodcbgadooaaW.PrintLast Go.Proofs.YtijnodcbgadooaaW.PrintMore
attribute [local go_sem] max2_int min2_int max_two min_two max_three min_three max_four min_four   -- for this text's walks alone
set_option linter.unusedVariables false
set_option linter.unusedSimpArgs false



def errW : Option Int → Value
  | none => .nilIface
  | some c => .iface 0 (.int .i64 c)
theorem errW_none : errW none = .nilIface := rfl
theorem errW_some (c : Int) : errW (some c) = .iface 0 (.int .i64 c) := rfl

theorem info3 : (Try.prog.info? 3).map (fun i => (i.zero, i.size, i.bytes)) = some (some (.int .i64 0), 1, 8) := by kernel_rfl
theorem info5 : (Try.prog.info? 5).map (fun i => (i.zero, i.size, i.bytes)) = some (some (.int .u8 0), 1, 1) := by kernel_rfl
theorem info9 : (Try.prog.info? 9).map (fun i => (i.zero, i.size, i.bytes)) = some (some (.string ⟨#[]⟩), 1, 16) := by kernel_rfl
theorem info43 : (Try.prog.info? 43).map (fun i => (i.zero, i.size, i.bytes)) = some (some (.agg #[(.int .i64 0), (.int .i64 0), (.slice none 0 0)]), 3, 40) := by kernel_rfl
-- the values' own types
def rd_L3 (xs : List (List ByteArray)) (i : Int) : (List ByteArray) := xs.getD i.toNat ([] : List ByteArray)
theorem at_L3 {w : World} {A : Option Addr} {n : Nat} {xs : List (List ByteArray)} (h : Kd.C (Kd.slice 9 Kd.string) w A n xs) (i : Int) (h0 : 0 ≤ i) (h1 : i < n) : ∃ ad A0 c0, A = some ad ∧ w.cell? (ad.add i.toNat) = some (.slice A0 (rd_L3 xs i).length c0) ∧ (rd_L3 xs i).length ≤ c0 ∧ Kd.string.C w A0 (rd_L3 xs i).length (rd_L3 xs i) := by
  obtain ⟨ad, c, e, _, hK, hc0⟩ := Kd.C_get h ([] : List ByteArray) i h0 h1
  have hc : ∀ j u, c[j]? = some u → w.cell? (ad.add (i.toNat * 1 + j)) = some u := hc0
  obtain ⟨A0, c0, rfl, l0, g0⟩ := hK
  exact ⟨ad, A0, c0, e, by have hq := hc 0 _ rfl; rwa [Nat.mul_one, Nat.add_zero] at hq, l0, g0⟩

/-! #### struct type 43 -/
structure S43 where
  f0 : Int
  f1 : Int
  f2 : (List ByteArray)
def z43 : S43 := ⟨(0 : Int), (0 : Int), ([] : List ByteArray)⟩
def k43 : Kd S43 := Kd.iso (Kd.pair (Kd.int .i64) (Kd.pair (Kd.int .i64) (Kd.slice 9 Kd.string))) (fun x : S43 => (x.f0, x.f1, x.f2))
theorem k43_open {w : World} {x : S43} {cs : List Value} (h : k43.K w x cs) : ∃ A2 c2, cs = [.int .i64 x.f0, .int .i64 x.f1, .slice A2 x.f2.length c2] ∧ x.f2.length ≤ c2 ∧ Kd.string.C w A2 x.f2.length x.f2 := by
  obtain ⟨_, _, rfl, rfl, ⟨_, _, rfl, rfl, ⟨A2, c2, rfl, l2, g2⟩⟩⟩ := h
  exact ⟨A2, c2, rfl, l2, g2⟩
theorem k43_openM {w : World} {base : Nat} {ok : Nat → Prop} {x : S43} {cs : List Value} (h : k43.M w base ok x cs) : ∃ v2, cs = [.int .i64 x.f0, .int .i64 x.f1, v2] ∧ Kd.string.R 9 w base ok v2 x.f2 := by
  obtain ⟨_, _, rfl, rfl, ⟨_, _, rfl, rfl, ⟨v2, rfl, g2⟩⟩⟩ := h
  exact ⟨v2, rfl, g2⟩
theorem k43_mk (w : World) (x : S43) {A2 : Option Addr} {c2 : Nat} (l2 : x.f2.length ≤ c2) (g2 : Kd.string.C w A2 x.f2.length x.f2) : k43.K w x [.int .i64 x.f0, .int .i64 x.f1, .slice A2 x.f2.length c2] := ⟨[.int .i64 x.f0], [.int .i64 x.f1, .slice A2 x.f2.length c2], rfl, rfl, ⟨[.int .i64 x.f1], [.slice A2 x.f2.length c2], rfl, rfl, ⟨A2, c2, rfl, l2, g2⟩⟩⟩
theorem k43_mkM (w : World) (base : Nat) (ok : Nat → Prop) (x : S43) {v2 : Value} (g2 : Kd.string.R 9 w base ok v2 x.f2) : k43.M w base ok x [.int .i64 x.f0, .int .i64 x.f1, v2] := ⟨[.int .i64 x.f0], [.int .i64 x.f1, v2], rfl, rfl, ⟨[.int .i64 x.f1], [v2], rfl, rfl, ⟨v2, rfl, g2⟩⟩⟩
def rd_T43 (xs : List S43) (i : Int) : S43 := xs.getD i.toNat z43
theorem at_T43 {w : World} {A : Option Addr} {n : Nat} {xs : List S43} (h : Kd.C k43 w A n xs) (i : Int) (h0 : 0 ≤ i) (h1 : i < n) : ∃ ad A2 c2, A = some ad ∧ w.cell? (ad.add (i.toNat * 3)) = some (.int .i64 (rd_T43 xs i).f0) ∧ w.cell? ⟨(ad.add (i.toNat * 3)).block, (ad.add (i.toNat * 3)).off + 1, none⟩ = some (.int .i64 (rd_T43 xs i).f1) ∧ w.cell? ⟨(ad.add (i.toNat * 3)).block, (ad.add (i.toNat * 3)).off + 2, none⟩ = some (.slice A2 (rd_T43 xs i).f2.length c2) ∧ (rd_T43 xs i).f2.length ≤ c2 ∧ Kd.string.C w A2 (rd_T43 xs i).f2.length (rd_T43 xs i).f2 := by
  obtain ⟨ad, c, e, _, hK, hc0⟩ := Kd.C_get h z43 i h0 h1
  have hc : ∀ j u, c[j]? = some u → w.cell? (ad.add (i.toNat * 3 + j)) = some u := hc0
  obtain ⟨A2, c2, rfl, l2, g2⟩ := k43_open hK
  exact ⟨ad, A2, c2, e, hc 0 _ rfl, by rw [← add_field _ _ 1 (by omega)]; exact hc 1 _ rfl, by rw [← add_field _ _ 2 (by omega)]; exact hc 2 _ rfl, l2, g2⟩

def rd_L7 (xs : List (List S43)) (i : Int) : (List S43) := xs.getD i.toNat ([] : List S43)
theorem at_L7 {w : World} {A : Option Addr} {n : Nat} {xs : List (List S43)} (h : Kd.C (Kd.slice 43 k43) w A n xs) (i : Int) (h0 : 0 ≤ i) (h1 : i < n) : ∃ ad A0 c0, A = some ad ∧ w.cell? (ad.add i.toNat) = some (.slice A0 (rd_L7 xs i).length c0) ∧ (rd_L7 xs i).length ≤ c0 ∧ k43.C w A0 (rd_L7 xs i).length (rd_L7 xs i) := by
  obtain ⟨ad, c, e, _, hK, hc0⟩ := Kd.C_get h ([] : List S43) i h0 h1
  have hc : ∀ j u, c[j]? = some u → w.cell? (ad.add (i.toNat * 1 + j)) = some u := hc0
  obtain ⟨A0, c0, rfl, l0, g0⟩ := hK
  exact ⟨ad, A0, c0, e, by have hq := hc 0 _ rfl; rwa [Nat.mul_one, Nat.add_zero] at hq, l0, g0⟩

/-! #### struct type 73 -/
structure S73 where
  f0 : Int
  f1 : Int
def z73 : S73 := ⟨(0 : Int), (0 : Int)⟩
def k73 : Kd S73 := Kd.iso (Kd.pair (Kd.int .i64) (Kd.int .i64)) (fun x : S73 => (x.f0, x.f1))
theorem k73_open {w : World} {x : S73} {cs : List Value} (h : k73.K w x cs) : cs = [.int .i64 x.f0, .int .i64 x.f1] := by
  obtain ⟨_, _, rfl, rfl, rfl⟩ := h
  exact rfl
theorem k73_openM {w : World} {base : Nat} {ok : Nat → Prop} {x : S73} {cs : List Value} (h : k73.M w base ok x cs) : cs = [.int .i64 x.f0, .int .i64 x.f1] := by
  obtain ⟨_, _, rfl, rfl, rfl⟩ := h
  exact rfl
theorem k73_mk (w : World) (x : S73)  : k73.K w x [.int .i64 x.f0, .int .i64 x.f1] := ⟨[.int .i64 x.f0], [.int .i64 x.f1], rfl, rfl, rfl⟩
theorem k73_mkM (w : World) (base : Nat) (ok : Nat → Prop) (x : S73)  : k73.M w base ok x [.int .i64 x.f0, .int .i64 x.f1] := ⟨[.int .i64 x.f0], [.int .i64 x.f1], rfl, rfl, rfl⟩
def rd_T73 (xs : List S73) (i : Int) : S73 := xs.getD i.toNat z73
theorem at_T73 {w : World} {A : Option Addr} {n : Nat} {xs : List S73} (h : Kd.C k73 w A n xs) (i : Int) (h0 : 0 ≤ i) (h1 : i < n) : ∃ ad , A = some ad ∧ w.cell? (ad.add (i.toNat * 2)) = some (.int .i64 (rd_T73 xs i).f0) ∧ w.cell? ⟨(ad.add (i.toNat * 2)).block, (ad.add (i.toNat * 2)).off + 1, none⟩ = some (.int .i64 (rd_T73 xs i).f1) := by
  obtain ⟨ad, c, e, _, hK, hc0⟩ := Kd.C_get h z73 i h0 h1
  have hc : ∀ j u, c[j]? = some u → w.cell? (ad.add (i.toNat * 2 + j)) = some u := hc0
  obtain rfl := k73_open hK
  exact ⟨ad, e, hc 0 _ rfl, by rw [← add_field _ _ 1 (by omega)]; exact hc 1 _ rfl⟩

/-! #### struct type 75 -/
structure S75 where
  f0 : Int
  f1 : Int
  f2 : (List S43)
  f3 : (List ByteArray)
  f4 : S73
def z75 : S75 := ⟨(0 : Int), (0 : Int), ([] : List S43), ([] : List ByteArray), z73⟩
def k75 : Kd S75 := Kd.iso (Kd.pair (Kd.int .i64) (Kd.pair (Kd.int .i64) (Kd.pair (Kd.slice 43 k43) (Kd.pair (Kd.slice 9 Kd.string) k73)))) (fun x : S75 => (x.f0, x.f1, x.f2, x.f3, x.f4))
theorem k75_open {w : World} {x : S75} {cs : List Value} (h : k75.K w x cs) : ∃ A2 c2 A3 c3, cs = [.int .i64 x.f0, .int .i64 x.f1, .slice A2 x.f2.length c2, .slice A3 x.f3.length c3, .int .i64 x.f4.f0, .int .i64 x.f4.f1] ∧ x.f2.length ≤ c2 ∧ k43.C w A2 x.f2.length x.f2 ∧ x.f3.length ≤ c3 ∧ Kd.string.C w A3 x.f3.length x.f3 := by
  obtain ⟨_, _, rfl, rfl, ⟨_, _, rfl, rfl, ⟨_, _, rfl, ⟨A2, c2, rfl, l2, g2⟩, ⟨_, _, rfl, ⟨A3, c3, rfl, l3, g3⟩, s4⟩⟩⟩⟩ := h
  obtain rfl := k73_open s4
  exact ⟨A2, c2, A3, c3, rfl, l2, g2, l3, g3⟩
theorem k75_openM {w : World} {base : Nat} {ok : Nat → Prop} {x : S75} {cs : List Value} (h : k75.M w base ok x cs) : ∃ v2 v3, cs = [.int .i64 x.f0, .int .i64 x.f1, v2, v3, .int .i64 x.f4.f0, .int .i64 x.f4.f1] ∧ k43.R 43 w base ok v2 x.f2 ∧ Kd.string.R 9 w base ok v3 x.f3 := by
  obtain ⟨_, _, rfl, rfl, ⟨_, _, rfl, rfl, ⟨_, _, rfl, ⟨v2, rfl, g2⟩, ⟨_, _, rfl, ⟨v3, rfl, g3⟩, s4⟩⟩⟩⟩ := h
  obtain rfl := k73_openM s4
  exact ⟨v2, v3, rfl, g2, g3⟩
theorem k75_mk (w : World) (x : S75) {A2 : Option Addr} {c2 : Nat} (l2 : x.f2.length ≤ c2) (g2 : k43.C w A2 x.f2.length x.f2) {A3 : Option Addr} {c3 : Nat} (l3 : x.f3.length ≤ c3) (g3 : Kd.string.C w A3 x.f3.length x.f3) : k75.K w x [.int .i64 x.f0, .int .i64 x.f1, .slice A2 x.f2.length c2, .slice A3 x.f3.length c3, .int .i64 x.f4.f0, .int .i64 x.f4.f1] := ⟨[.int .i64 x.f0], [.int .i64 x.f1, .slice A2 x.f2.length c2, .slice A3 x.f3.length c3, .int .i64 x.f4.f0, .int .i64 x.f4.f1], rfl, rfl, ⟨[.int .i64 x.f1], [.slice A2 x.f2.length c2, .slice A3 x.f3.length c3, .int .i64 x.f4.f0, .int .i64 x.f4.f1], rfl, rfl, ⟨[.slice A2 x.f2.length c2], [.slice A3 x.f3.length c3, .int .i64 x.f4.f0, .int .i64 x.f4.f1], rfl, ⟨A2, c2, rfl, l2, g2⟩, ⟨[.slice A3 x.f3.length c3], [.int .i64 x.f4.f0, .int .i64 x.f4.f1], rfl, ⟨A3, c3, rfl, l3, g3⟩, (k73_mk w x.f4 )⟩⟩⟩⟩
theorem k75_mkM (w : World) (base : Nat) (ok : Nat → Prop) (x : S75) {v2 : Value} (g2 : k43.R 43 w base ok v2 x.f2) {v3 : Value} (g3 : Kd.string.R 9 w base ok v3 x.f3) : k75.M w base ok x [.int .i64 x.f0, .int .i64 x.f1, v2, v3, .int .i64 x.f4.f0, .int .i64 x.f4.f1] := ⟨[.int .i64 x.f0], [.int .i64 x.f1, v2, v3, .int .i64 x.f4.f0, .int .i64 x.f4.f1], rfl, rfl, ⟨[.int .i64 x.f1], [v2, v3, .int .i64 x.f4.f0, .int .i64 x.f4.f1], rfl, rfl, ⟨[v2], [v3, .int .i64 x.f4.f0, .int .i64 x.f4.f1], rfl, ⟨v2, rfl, g2⟩, ⟨[v3], [.int .i64 x.f4.f0, .int .i64 x.f4.f1], rfl, ⟨v3, rfl, g3⟩, (k73_mkM w base ok x.f4 )⟩⟩⟩⟩
def rd_T75 (xs : List S75) (i : Int) : S75 := xs.getD i.toNat z75
theorem at_T75 {w : World} {A : Option Addr} {n : Nat} {xs : List S75} (h : Kd.C k75 w A n xs) (i : Int) (h0 : 0 ≤ i) (h1 : i < n) : ∃ ad A2 c2 A3 c3, A = some ad ∧ w.cell? (ad.add (i.toNat * 6)) = some (.int .i64 (rd_T75 xs i).f0) ∧ w.cell? ⟨(ad.add (i.toNat * 6)).block, (ad.add (i.toNat * 6)).off + 1, none⟩ = some (.int .i64 (rd_T75 xs i).f1) ∧ w.cell? ⟨(ad.add (i.toNat * 6)).block, (ad.add (i.toNat * 6)).off + 2, none⟩ = some (.slice A2 (rd_T75 xs i).f2.length c2) ∧ w.cell? ⟨(ad.add (i.toNat * 6)).block, (ad.add (i.toNat * 6)).off + 3, none⟩ = some (.slice A3 (rd_T75 xs i).f3.length c3) ∧ w.cell? ⟨(ad.add (i.toNat * 6)).block, (ad.add (i.toNat * 6)).off + 4, none⟩ = some (.int .i64 (rd_T75 xs i).f4.f0) ∧ w.cell? ⟨(ad.add (i.toNat * 6)).block, (ad.add (i.toNat * 6)).off + 5, none⟩ = some (.int .i64 (rd_T75 xs i).f4.f1) ∧ (rd_T75 xs i).f2.length ≤ c2 ∧ k43.C w A2 (rd_T75 xs i).f2.length (rd_T75 xs i).f2 ∧ (rd_T75 xs i).f3.length ≤ c3 ∧ Kd.string.C w A3 (rd_T75 xs i).f3.length (rd_T75 xs i).f3 := by
  obtain ⟨ad, c, e, _, hK, hc0⟩ := Kd.C_get h z75 i h0 h1
  have hc : ∀ j u, c[j]? = some u → w.cell? (ad.add (i.toNat * 6 + j)) = some u := hc0
  obtain ⟨A2, c2, A3, c3, rfl, l2, g2, l3, g3⟩ := k75_open hK
  exact ⟨ad, A2, c2, A3, c3, e, hc 0 _ rfl, by rw [← add_field _ _ 1 (by omega)]; exact hc 1 _ rfl, by rw [← add_field _ _ 2 (by omega)]; exact hc 2 _ rfl, by rw [← add_field _ _ 3 (by omega)]; exact hc 3 _ rfl, by rw [← add_field _ _ 4 (by omega)]; exact hc 4 _ rfl, by rw [← add_field _ _ 5 (by omega)]; exact hc 5 _ rfl, l2, g2, l3, g3⟩

def rd_L10 (xs : List (List Int)) (i : Int) : (List Int) := xs.getD i.toNat ([] : List Int)
theorem at_L10 {w : World} {A : Option Addr} {n : Nat} {xs : List (List Int)} (h : Kd.C (Kd.slice 3 (Kd.int .i64)) w A n xs) (i : Int) (h0 : 0 ≤ i) (h1 : i < n) : ∃ ad A0 c0, A = some ad ∧ w.cell? (ad.add i.toNat) = some (.slice A0 (rd_L10 xs i).length c0) ∧ (rd_L10 xs i).length ≤ c0 ∧ (Kd.int .i64).C w A0 (rd_L10 xs i).length (rd_L10 xs i) := by
  obtain ⟨ad, c, e, _, hK, hc0⟩ := Kd.C_get h ([] : List Int) i h0 h1
  have hc : ∀ j u, c[j]? = some u → w.cell? (ad.add (i.toNat * 1 + j)) = some u := hc0
  obtain ⟨A0, c0, rfl, l0, g0⟩ := hK
  exact ⟨ad, A0, c0, e, by have hq := hc 0 _ rfl; rwa [Nat.mul_one, Nat.add_zero] at hq, l0, g0⟩

/-! #### struct type 48 -/
structure S48 where
  f0 : (List ByteArray)
  f1 : ByteArray
  f2 : Int
  f3 : Int
def z48 : S48 := ⟨([] : List ByteArray), (⟨#[]⟩ : ByteArray), (0 : Int), (0 : Int)⟩
def k48 : Kd S48 := Kd.iso (Kd.pair (Kd.slice 9 Kd.string) (Kd.pair Kd.string (Kd.pair (Kd.int .i64) (Kd.int .i64)))) (fun x : S48 => (x.f0, x.f1, x.f2, x.f3))
theorem k48_open {w : World} {x : S48} {cs : List Value} (h : k48.K w x cs) : ∃ A0 c0, cs = [.slice A0 x.f0.length c0, .string x.f1, .int .i64 x.f2, .int .i64 x.f3] ∧ x.f0.length ≤ c0 ∧ Kd.string.C w A0 x.f0.length x.f0 := by
  obtain ⟨_, _, rfl, ⟨A0, c0, rfl, l0, g0⟩, ⟨_, _, rfl, rfl, ⟨_, _, rfl, rfl, rfl⟩⟩⟩ := h
  exact ⟨A0, c0, rfl, l0, g0⟩
theorem k48_openM {w : World} {base : Nat} {ok : Nat → Prop} {x : S48} {cs : List Value} (h : k48.M w base ok x cs) : ∃ v0, cs = [v0, .string x.f1, .int .i64 x.f2, .int .i64 x.f3] ∧ Kd.string.R 9 w base ok v0 x.f0 := by
  obtain ⟨_, _, rfl, ⟨v0, rfl, g0⟩, ⟨_, _, rfl, rfl, ⟨_, _, rfl, rfl, rfl⟩⟩⟩ := h
  exact ⟨v0, rfl, g0⟩
theorem k48_mk (w : World) (x : S48) {A0 : Option Addr} {c0 : Nat} (l0 : x.f0.length ≤ c0) (g0 : Kd.string.C w A0 x.f0.length x.f0) : k48.K w x [.slice A0 x.f0.length c0, .string x.f1, .int .i64 x.f2, .int .i64 x.f3] := ⟨[.slice A0 x.f0.length c0], [.string x.f1, .int .i64 x.f2, .int .i64 x.f3], rfl, ⟨A0, c0, rfl, l0, g0⟩, ⟨[.string x.f1], [.int .i64 x.f2, .int .i64 x.f3], rfl, rfl, ⟨[.int .i64 x.f2], [.int .i64 x.f3], rfl, rfl, rfl⟩⟩⟩
theorem k48_mkM (w : World) (base : Nat) (ok : Nat → Prop) (x : S48) {v0 : Value} (g0 : Kd.string.R 9 w base ok v0 x.f0) : k48.M w base ok x [v0, .string x.f1, .int .i64 x.f2, .int .i64 x.f3] := ⟨[v0], [.string x.f1, .int .i64 x.f2, .int .i64 x.f3], rfl, ⟨v0, rfl, g0⟩, ⟨[.string x.f1], [.int .i64 x.f2, .int .i64 x.f3], rfl, rfl, ⟨[.int .i64 x.f2], [.int .i64 x.f3], rfl, rfl, rfl⟩⟩⟩
def rd_T48 (xs : List S48) (i : Int) : S48 := xs.getD i.toNat z48
theorem at_T48 {w : World} {A : Option Addr} {n : Nat} {xs : List S48} (h : Kd.C k48 w A n xs) (i : Int) (h0 : 0 ≤ i) (h1 : i < n) : ∃ ad A0 c0, A = some ad ∧ w.cell? (ad.add (i.toNat * 4)) = some (.slice A0 (rd_T48 xs i).f0.length c0) ∧ w.cell? ⟨(ad.add (i.toNat * 4)).block, (ad.add (i.toNat * 4)).off + 1, none⟩ = some (.string (rd_T48 xs i).f1) ∧ w.cell? ⟨(ad.add (i.toNat * 4)).block, (ad.add (i.toNat * 4)).off + 2, none⟩ = some (.int .i64 (rd_T48 xs i).f2) ∧ w.cell? ⟨(ad.add (i.toNat * 4)).block, (ad.add (i.toNat * 4)).off + 3, none⟩ = some (.int .i64 (rd_T48 xs i).f3) ∧ (rd_T48 xs i).f0.length ≤ c0 ∧ Kd.string.C w A0 (rd_T48 xs i).f0.length (rd_T48 xs i).f0 := by
  obtain ⟨ad, c, e, _, hK, hc0⟩ := Kd.C_get h z48 i h0 h1
  have hc : ∀ j u, c[j]? = some u → w.cell? (ad.add (i.toNat * 4 + j)) = some u := hc0
  obtain ⟨A0, c0, rfl, l0, g0⟩ := k48_open hK
  exact ⟨ad, A0, c0, e, hc 0 _ rfl, by rw [← add_field _ _ 1 (by omega)]; exact hc 1 _ rfl, by rw [← add_field _ _ 2 (by omega)]; exact hc 2 _ rfl, by rw [← add_field _ _ 3 (by omega)]; exact hc 3 _ rfl, l0, g0⟩

/-! #### struct type 57 -/
structure S57 where
  f0 : Int
  f1 : (List ByteArray)
  f2 : ByteArray
  f3 : ByteArray
def z57 : S57 := ⟨(0 : Int), ([] : List ByteArray), (⟨#[]⟩ : ByteArray), (⟨#[]⟩ : ByteArray)⟩
def k57 : Kd S57 := Kd.iso (Kd.pair (Kd.int .u64) (Kd.pair (Kd.slice 9 Kd.string) (Kd.pair Kd.string Kd.string))) (fun x : S57 => (x.f0, x.f1, x.f2, x.f3))
theorem k57_open {w : World} {x : S57} {cs : List Value} (h : k57.K w x cs) : ∃ A1 c1, cs = [.int .u64 x.f0, .slice A1 x.f1.length c1, .string x.f2, .string x.f3] ∧ x.f1.length ≤ c1 ∧ Kd.string.C w A1 x.f1.length x.f1 := by
  obtain ⟨_, _, rfl, rfl, ⟨_, _, rfl, ⟨A1, c1, rfl, l1, g1⟩, ⟨_, _, rfl, rfl, rfl⟩⟩⟩ := h
  exact ⟨A1, c1, rfl, l1, g1⟩
theorem k57_openM {w : World} {base : Nat} {ok : Nat → Prop} {x : S57} {cs : List Value} (h : k57.M w base ok x cs) : ∃ v1, cs = [.int .u64 x.f0, v1, .string x.f2, .string x.f3] ∧ Kd.string.R 9 w base ok v1 x.f1 := by
  obtain ⟨_, _, rfl, rfl, ⟨_, _, rfl, ⟨v1, rfl, g1⟩, ⟨_, _, rfl, rfl, rfl⟩⟩⟩ := h
  exact ⟨v1, rfl, g1⟩
theorem k57_mk (w : World) (x : S57) {A1 : Option Addr} {c1 : Nat} (l1 : x.f1.length ≤ c1) (g1 : Kd.string.C w A1 x.f1.length x.f1) : k57.K w x [.int .u64 x.f0, .slice A1 x.f1.length c1, .string x.f2, .string x.f3] := ⟨[.int .u64 x.f0], [.slice A1 x.f1.length c1, .string x.f2, .string x.f3], rfl, rfl, ⟨[.slice A1 x.f1.length c1], [.string x.f2, .string x.f3], rfl, ⟨A1, c1, rfl, l1, g1⟩, ⟨[.string x.f2], [.string x.f3], rfl, rfl, rfl⟩⟩⟩
theorem k57_mkM (w : World) (base : Nat) (ok : Nat → Prop) (x : S57) {v1 : Value} (g1 : Kd.string.R 9 w base ok v1 x.f1) : k57.M w base ok x [.int .u64 x.f0, v1, .string x.f2, .string x.f3] := ⟨[.int .u64 x.f0], [v1, .string x.f2, .string x.f3], rfl, rfl, ⟨[v1], [.string x.f2, .string x.f3], rfl, ⟨v1, rfl, g1⟩, ⟨[.string x.f2], [.string x.f3], rfl, rfl, rfl⟩⟩⟩
def rd_T57 (xs : List S57) (i : Int) : S57 := xs.getD i.toNat z57
theorem at_T57 {w : World} {A : Option Addr} {n : Nat} {xs : List S57} (h : Kd.C k57 w A n xs) (i : Int) (h0 : 0 ≤ i) (h1 : i < n) : ∃ ad A1 c1, A = some ad ∧ w.cell? (ad.add (i.toNat * 4)) = some (.int .u64 (rd_T57 xs i).f0) ∧ w.cell? ⟨(ad.add (i.toNat * 4)).block, (ad.add (i.toNat * 4)).off + 1, none⟩ = some (.slice A1 (rd_T57 xs i).f1.length c1) ∧ w.cell? ⟨(ad.add (i.toNat * 4)).block, (ad.add (i.toNat * 4)).off + 2, none⟩ = some (.string (rd_T57 xs i).f2) ∧ w.cell? ⟨(ad.add (i.toNat * 4)).block, (ad.add (i.toNat * 4)).off + 3, none⟩ = some (.string (rd_T57 xs i).f3) ∧ (rd_T57 xs i).f1.length ≤ c1 ∧ Kd.string.C w A1 (rd_T57 xs i).f1.length (rd_T57 xs i).f1 := by
  obtain ⟨ad, c, e, _, hK, hc0⟩ := Kd.C_get h z57 i h0 h1
  have hc : ∀ j u, c[j]? = some u → w.cell? (ad.add (i.toNat * 4 + j)) = some u := hc0
  obtain ⟨A1, c1, rfl, l1, g1⟩ := k57_open hK
  exact ⟨ad, A1, c1, e, hc 0 _ rfl, by rw [← add_field _ _ 1 (by omega)]; exact hc 1 _ rfl, by rw [← add_field _ _ 2 (by omega)]; exact hc 2 _ rfl, by rw [← add_field _ _ 3 (by omega)]; exact hc 3 _ rfl, l1, g1⟩

end Go.Proofs.Ytijnodcbgadooaa.Px

-- printed by this session's pprint.py (the kit's print, with this session's plugs) out of the translation; Lean checks it
namespace Go.Proofs.Ytijnodcbgadooaa.Px
open Go.RowKit Go.Proofs.YtijnodcbgadooaaW.PrintWords Go.Proofs.YtijnodcbgadooaaW.PrintLast Go.Proofs.YtijnodcbgadooaaW.PrintMore
attribute [local go_sem] max2_int min2_int max_two min_two max_three min_three max_four min_four   -- for this text's walks alone
set_option linter.unusedVariables false
set_option linter.unusedSimpArgs false

/-! ### words: w01_be.tpl -/

/-! bytes as lists -/
abbrev Bs := List UInt8
def toB (l : Bs) : ByteArray := ⟨l.toArray⟩
def ofB (s : ByteArray) : Bs := s.data.toList
theorem ofB_toB (l : Bs) : ofB (toB l) = l := by simp [ofB, toB]
theorem toB_ofB (s : ByteArray) : toB (ofB s) = s := by simp [ofB, toB]
theorem ofB_inj {a b : ByteArray} (h : ofB a = ofB b) : a = b := by rw [← toB_ofB a, ← toB_ofB b, h]
theorem ofB_length (s : ByteArray) : (ofB s).length = s.size := by rw [ofB, Array.length_toList]; rfl
theorem toB_size (l : Bs) : (toB l).size = l.length := by rw [← ofB_length, ofB_toB]
theorem ofB_append (a b : ByteArray) : ofB (a ++ b) = ofB a ++ ofB b := by simp [ofB]
theorem toB_append (a b : Bs) : toB (a ++ b) = toB a ++ toB b := ofB_inj (by rw [ofB_append, ofB_toB, ofB_toB, ofB_toB])
theorem toList_ofB (s : ByteArray) : s.toList = ofB s := ByteArray.toList_eq s
theorem ofB_extract (s : ByteArray) (i j : Nat) : ofB (s.extract i j) = ((ofB s).drop i).take (j - i) := by
  simp only [ofB, ByteArray.data_extract, Array.toList_extract, List.extract]
theorem toB_inj {a b : Bs} (h : toB a = toB b) : a = b := by rw [← ofB_toB a, ← ofB_toB b, h]
theorem ofB_empty : ofB (⟨#[]⟩ : ByteArray) = [] := rfl
theorem toB_nil : toB [] = (⟨#[]⟩ : ByteArray) := rfl
theorem bt_ofB (s : ByteArray) (i : Nat) : bt s (i : Int) = (((ofB s).getD i 0).toNat : Int) := by
  unfold bt ofB
  split
  · rename_i h
    have h' : i < s.data.toList.length := by rw [data_length]; simpa using h
    simp [List.getD_eq_getElem?_getD, List.getElem?_eq_getElem h']
    rfl
  · rename_i h
    have h' : s.data.toList.length ≤ i := by rw [data_length]; simp at h; omega
    simp [List.getD_eq_getElem?_getD, List.getElem?_eq_none h']
theorem strOfNums_toB (xs : List Int) : strOfNums xs = toB (xs.map fun n => UInt8.ofNat n.toNat) := rfl

/-! numbers -/
/-- the bytes of a number, the highest first -/
def be (v : Nat) : Bs := if v = 0 then [] else be (v / 256) ++ [UInt8.ofNat (v % 256)]
termination_by v
decreasing_by omega
theorem be_zero : be 0 = [] := by rw [be]; simp
theorem be_pos {v : Nat} (h : 0 < v) : be v = be (v / 256) ++ [UInt8.ofNat (v % 256)] := by rw [be, if_neg (by omega)]
/-- the number of bytes -/
def val (l : Bs) : Nat := l.foldl (fun a c => a * 256 + c.toNat) 0
theorem val_snoc (l : Bs) (c : UInt8) : val (l ++ [c]) = val l * 256 + c.toNat := by simp [val]
theorem val_nil : val [] = 0 := rfl
theorem val_be (v : Nat) : val (be v) = v := by
  induction v using Nat.strongRecOn with
  | _ v ih =>
    rcases Nat.eq_zero_or_pos v with h | h
    · subst h; rw [be_zero]; rfl
    · rw [be_pos h, val_snoc, ih _ (by omega)]
      have : (UInt8.ofNat (v % 256)).toNat = v % 256 := by simp
      omega
theorem be_length (n : Nat) : ∀ v : Nat, (be v).length ≤ n ↔ v < 256 ^ n := by
  induction n with
  | zero =>
    intro v
    rcases Nat.eq_zero_or_pos v with h | h
    · subst h; simp [be_zero]
    · rw [be_pos h]; simp; omega
  | succ n ih =>
    intro v
    rcases Nat.eq_zero_or_pos v with h | h
    · subst h; simp [be_zero, Nat.pow_pos]
    · rw [be_pos h, List.length_append, List.length_singleton, Nat.succ_le_succ_iff, ih, Nat.pow_succ, Nat.mul_comm, Nat.div_lt_iff_lt_mul (by omega), Nat.mul_comm]
theorem be_len8 {v : Nat} (h : v < 18446744073709551616) : (be v).length ≤ 8 := by
  have : (256 : Nat) ^ 8 = 18446744073709551616 := by decide
  exact (be_length 8 v).2 (by rw [this]; exact h)
theorem be_head (v : Nat) (h : 0 < v) : ∃ c t, be v = c :: t ∧ c ≠ 0 := by
  induction v using Nat.strongRecOn with
  | _ v ih =>
    rw [be_pos h]
    rcases Nat.eq_zero_or_pos (v / 256) with h0 | h0
    · rw [h0, be_zero]
      refine ⟨_, _, rfl, ?_⟩
      have e : v % 256 = v := Nat.mod_eq_of_lt (by omega)
      intro hz
      have := congrArg UInt8.toNat hz
      simp at this
      omega
    · obtain ⟨c, t, e, hc⟩ := ih (v / 256) (by omega) h0
      exact ⟨c, t ++ [_], by rw [e]; rfl, hc⟩
theorem val_lt (l : Bs) : val l < 256 ^ l.length := by
  suffices h : ∀ (r : Bs), val r.reverse < 256 ^ r.length by
    have := h l.reverse; rwa [List.reverse_reverse, List.length_reverse] at this
  intro r
  induction r with
  | nil => simp [val]
  | cons c r ih =>
    rw [List.reverse_cons, val_snoc, List.length_cons, Nat.pow_succ]
    have := c.toNat_lt
    omega
theorem be_val (l : Bs) (h : ∀ c t, l = c :: t → c ≠ 0) : be (val l) = l := by
  suffices k : ∀ (n : Nat) (l : Bs), l.length = n → (∀ c t, l = c :: t → c ≠ 0) → be (val l) = l ∧ (l ≠ [] → 0 < val l) from (k _ l rfl h).1
  intro n
  induction n with
  | zero => intro l hl _; obtain rfl := List.eq_nil_of_length_eq_zero hl; exact ⟨be_zero, fun h => absurd rfl h⟩
  | succ n ih =>
    intro l hl hh
    obtain ⟨r, x, rfl⟩ : ∃ r x, l = r ++ [x] := ⟨l.dropLast, l.getLast (by intro e; subst e; simp at hl), (List.dropLast_concat_getLast _).symm⟩
    have hr : r.length = n := by simpa using hl
    have hrh : ∀ c t, r = c :: t → c ≠ 0 := fun c t e => hh c (t ++ [x]) (by rw [e]; rfl)
    obtain ⟨h1, h2⟩ := ih r hr hrh
    have hx := x.toNat_lt
    have hp : 0 < val (r ++ [x]) := by
      rw [val_snoc]
      rcases r with _ | ⟨c, t⟩
      · have := hh x [] rfl
        have h0 : x.toNat ≠ 0 := fun e => this (UInt8.toNat_inj.1 (by simpa using e))
        simp [val]; omega
      · have := h2 (by simp); omega
    refine ⟨?_, fun _ => hp⟩
    rw [be_pos hp, val_snoc]
    have e1 : (val r * 256 + x.toNat) / 256 = val r := by omega
    have e2 : (val r * 256 + x.toNat) % 256 = x.toNat := by omega
    rw [e1, e2, h1]; simp
/-- a number's bytes -/
def numL (v : Nat) : Bs := UInt8.ofNat (be v).length :: be v
def numB (v : Nat) : ByteArray := toB (numL v)

/-! taking a number: (its value, what is behind it, the error) -/
def takeNumL : Bs → Nat × Bs × Int
  | [] => (0, [], 2)
  | c :: t => if 8 < c.toNat then (0, [], 3) else if t.length < c.toNat then (0, [], 2) else if 0 < c.toNat ∧ t.getD 0 0 = 0 then (0, [], 3) else (val (t.take c.toNat), t.drop c.toNat, 0)
theorem takeNumL_num {v : Nat} (hv : v < 18446744073709551616) (r : Bs) : takeNumL (numL v ++ r) = (v, r, 0) := by
  have hl := be_len8 hv
  have hc : (UInt8.ofNat (be v).length).toNat = (be v).length := by simp; omega
  rw [show numL v ++ r = UInt8.ofNat (be v).length :: (be v ++ r) from rfl, takeNumL]
  rw [hc, if_neg (by omega), if_neg (by rw [List.length_append]; omega), if_neg ?_]
  · rw [List.take_left, List.drop_left, val_be]
  · rintro ⟨h1, h2⟩
    have hv0 : 0 < v := by
      rcases Nat.eq_zero_or_pos v with h | h
      · subst h; simp [be_zero] at h1
      · exact h
    obtain ⟨c, t, e, hc⟩ := be_head v hv0
    rw [e] at h2
    exact hc h2
theorem takeNumL_ok {s r : Bs} {v : Nat} (h : takeNumL s = (v, r, 0)) : s = numL v ++ r ∧ v < 18446744073709551616 := by
  match s, h with
  | [], h => simp [takeNumL] at h
  | c :: t, h =>
    simp only [takeNumL] at h
    split at h
    · simp at h
    · rename_i h8
      split at h
      · simp at h
      · rename_i hlen
        split at h
        · simp at h
        · rename_i hz
          simp only [Prod.mk.injEq, and_true] at h
          obtain ⟨rfl, rfl⟩ := h
          have hb : be (val (t.take c.toNat)) = t.take c.toNat := be_val _ (by
            intro x y e hx
            apply hz
            rcases Nat.eq_zero_or_pos c.toNat with h0 | h0
            · rw [h0] at e; simp at e
            · refine ⟨h0, ?_⟩
              rcases t with _ | ⟨z, t⟩
              · simp at e
              · obtain ⟨m, hm⟩ : ∃ m, c.toNat = m + 1 := ⟨c.toNat - 1, by omega⟩
                rw [hm, List.take_succ_cons] at e
                injection e with e1 _
                simp [e1, hx])
          have hn : (be (val (t.take c.toNat))).length = c.toNat := by rw [hb, List.length_take]; omega
          refine ⟨?_, ?_⟩
          · rw [numL, hn, hb, List.cons_append, List.take_append_drop]; simp
          · have := val_lt (t.take c.toNat)
            rw [List.length_take, Nat.min_eq_left (by omega)] at this
            have h2 : 256 ^ c.toNat ≤ 256 ^ 8 := Nat.pow_le_pow_right (by omega) (by omega)
            have : (256 : Nat) ^ 8 = 18446744073709551616 := by decide
            omega
theorem takeNumL_err {s r : Bs} {v : Nat} {e : Int} (h : takeNumL s = (v, r, e)) : e = 0 ∨ (v = 0 ∧ r = [] ∧ (e = 2 ∨ e = 3)) := by
  match s, h with
  | [], h => simp [takeNumL] at h; obtain ⟨rfl, rfl, rfl⟩ := h; simp
  | c :: t, h =>
    simp only [takeNumL] at h
    (repeat' split at h) <;> (simp only [Prod.mk.injEq] at h; obtain ⟨rfl, rfl, rfl⟩ := h; simp)
/-! a text's bytes -/
def textL (t : Bs) : Bs := numL t.length ++ t
def textB (t : ByteArray) : ByteArray := numB t.size ++ t
theorem textB_eq (t : ByteArray) : textB t = toB (textL (ofB t)) := by rw [textL, toB_append, toB_ofB, ofB_length]; rfl
theorem numL_length {v : Nat} (h : v < 18446744073709551616) : (numL v).length ≤ 9 := by
  have := be_len8 h
  simp only [numL, List.length_cons]; omega
theorem numB_size {v : Nat} (h : v < 18446744073709551616) : (numB v).size ≤ 9 := by rw [numB, toB_size]; exact numL_length h
theorem numB_strOfNums (v : Nat) (L : List Int) (h : L.map (fun n => UInt8.ofNat n.toNat) = be v) : strOfNums ((L.length : Int) :: L) = numB v := by
  rw [strOfNums_toB, List.map_cons, h, numB, numL]
  have : L.length = (be v).length := by rw [← h, List.length_map]
  rw [this, Int.toNat_natCast]


end Go.Proofs.Ytijnodcbgadooaa.Px

-- printed by this session's pprint.py (the kit's print, with this session's plugs) out of the translation; Lean checks it
namespace Go.Proofs.Ytijnodcbgadooaa.Px
open Go.RowKit Go.Proofs.YtijnodcbgadooaaW.PrintWords Go.Proofs.YtijnodcbgadooaaW.PrintLast Go.Proofs.YtijnodcbgadooaaW.PrintMore
attribute [local go_sem] max2_int min2_int max_two min_two max_three min_three max_four min_four   -- for this text's walks alone
set_option linter.unusedVariables false
set_option linter.unusedSimpArgs false

/-! ### digits_Num: function 19 (a plug) -/

/-- the bytes of a number as whole numbers -/
def beL (v : Nat) : List Int := if v = 0 then [] else beL (v / 256) ++ [((v % 256 : Nat) : Int)]
termination_by v
decreasing_by omega
theorem beL_zero : beL 0 = [] := by rw [beL]; simp
theorem beL_pos {v : Nat} (h : 0 < v) : beL v = beL (v / 256) ++ [((v % 256 : Nat) : Int)] := by rw [beL, if_neg (by omega)]
theorem beL_be (v : Nat) : (beL v).map (fun n => UInt8.ofNat n.toNat) = be v := by
  induction v using Nat.strongRecOn with
  | _ v ih =>
    rcases Nat.eq_zero_or_pos v with h | h
    · subst h; rw [beL_zero, be_zero]; rfl
    · rw [beL_pos h, be_pos h, List.map_append, ih _ (by omega)]; rfl
theorem numB_beL (v : Nat) : numB v = strOfNums (((beL v).length : Int) :: beL v) := (numB_strOfNums v _ (beL_be v)).symm

def num_intOf : Value → Int | .int _ q => q | _ => 0
/-- nine cells, the last of which are L -/
def Nine (cs : Array Value) (p : Nat) (L : List Int) : Prop := cs.size = 9 ∧ p + L.length = 9 ∧ ∀ i, i < L.length → cs[p + i]? = some (.int .u8 (L.getD i 0))
theorem Nine.cell {cs : Array Value} {p : Nat} {L : List Int} (h : Nine cs p L) (i : Nat) (hi : i < 9) : ∃ v, cs[i]? = some v :=
  ⟨cs[i]'(by rw [h.1]; exact hi), Array.getElem?_eq_getElem _⟩
theorem Nine.set {cs : Array Value} {q : Nat} {L : List Int} (h : Nine cs (q + 1) L) (x : Int) : Nine (cs.setIfInBounds q (.int .u8 x)) q (x :: L) := by
  refine ⟨by simp [h.1], by have := h.2.1; simp only [List.length_cons]; omega, fun i hi => ?_⟩
  rcases i with _ | i
  · rw [Nat.add_zero, Array.getElem?_setIfInBounds_self_of_lt (by rw [h.1]; have := h.2.1; omega)]; rfl
  · have h2 := h.2.2 i (by simpa using hi)
    rw [Array.getElem?_setIfInBounds_ne (by omega), ← Nat.add_assoc, Nat.add_right_comm, h2]; simp
theorem pow_step {v q : Nat} (h : v < 256 ^ (q + 1)) : v / 256 < 256 ^ q := by
  rw [Nat.pow_succ] at h
  exact Nat.div_lt_of_lt_mul (by rw [Nat.mul_comm]; exact h)

set_option maxHeartbeats 1000000 in
set_option maxRecDepth 100000 in
theorem digits_Num.walk (a0 : Nat) (w : World) (h1 : a0 < 18446744073709551616) :
    Calls Try.prog 19 #[.int .u64 a0] w fun e w' => e = .returned (.string (numB a0)) ∧ Below w.heap.size w w' := by
  go_enter Try.func19, Try.ntmps19
  go_wp2
  refine wp_scope_jumps 0 (fun a' w' => ∃ (v p n : Nat) (L : List Int) (cs : Array Value) (u6 u7 u8 u9 u10 u11 u12 u13 u14 u15 u16 u17 : Value),
      Nine cs p L ∧ v < 256 ^ (p - 1) ∧ 1 ≤ p ∧ L.length = n ∧ beL a0 = beL v ++ L ∧
      w' = w.alloc (.cells cs 85) ∧
      a' = { tmps := #[.int .u64 v, undef, .string ⟨#[]⟩, .pointer (some ⟨w.heap.size, 0, none⟩), .int .i64 p, .int .u8 n, u6, u7, u8, u9, u10, u11, u12, u13, u14, u15, u16, u17, undef, undef, undef, undef, undef, undef, undef, undef], defers := [] })
      (fun a' _ => (num_intOf (a'.tmps.getD 4 undef)).toNat) rfl ?_ ?_
  · rcases Nat.eq_zero_or_pos a0 with h0 | h0
    · subst h0
      have hcv := fun W => run_convert_bytes_arg (P := Try.prog) (w.alloc W) 87 5 Try.underlying87 Try.underlying5 w.heap.size 8 1 1 [0] rfl
      go_wp2
      go_step3
      go_wp2
      simp only [Exit.jump]
      go_ret
      exact ⟨by rw [numB_beL, beL_zero]; rfl, (Below.refl _ _).alloc (Nat.le_refl _) _⟩
    · go_wp2
      go_step3
      go_wp2
      go_step3
      refine ⟨rfl, a0 / 256, 8, 1, [(a0 % 256 : Nat)], _, _, _, _, _, _, _, _, _, _, _, _, _, ?_, ?_, ?_, rfl, beL_pos h0, rfl, rfl⟩
      · refine ⟨rfl, rfl, fun i hi => ?_⟩
        obtain rfl : i = 0 := by simpa using hi
        rfl
      · have : (256:Nat) ^ (8 - 1) = 72057594037927936 := by decide
        omega
      · omega
  · rintro a' w' ⟨v, p, n, L, cs, u6, u7, u8, u9, u10, u11, u12, u13, u14, u15, u16, u17, hN, hv, hp, hn, hb, rfl, rfl⟩
    obtain ⟨q, rfl⟩ : ∃ q, p = q + 1 := ⟨p - 1, by omega⟩
    have hq : q < 9 := by have := hN.2.1; omega
    have hnq : n + q = 8 := by have := hN.2.1; omega
    have hnn : n ≤ 8 := by omega
    have hvb : v < 18446744073709551616 := by
      have : 256 ^ (q + 1 - 1) ≤ 256 ^ 8 := Nat.pow_le_pow_right (by omega) (by omega)
      have : (256:Nat) ^ 8 = 18446744073709551616 := by decide
      omega
    obtain ⟨v0, hc⟩ := hN.cell q hq
    have HN := Aside0.mk hN
    have HB := Aside0.mk hb
    have HV := Aside0.mk hv
    have HL := Aside0.mk hn
    have HQ := Aside0.mk hnq
    clear hN hb hv hn hnq h1
    rcases Nat.eq_zero_or_pos v with h0 | h0
    · subst h0
      have hq9 : q ≤ 9 := by omega
      have hsl : ∀ W : World, (Instr.sliceAt 85 (.pointer (some ⟨w.heap.size, 0, none⟩)) (some (.int .i64 (q : Int))) none none).run Try.prog W = .ok (.slice (some ⟨w.heap.size, q, none⟩) (9 - q) (9 - q)) W := by
        intro W
        rw [run_sliceAt_array_l W 85 _ (by kernel_rfl) .i64 q (by omega) (by show (q : Int) ≤ 9; omega)]
        have e1 : (sizeOf (Try.prog.elem 85)).run Try.prog W = .ok 1 W := by kernel_rfl
        have e2 : Try.prog.arrayLen 85 = 9 := by kernel_rfl
        rw [e1, e2]
        simp only [Result.andThen, slicedAt, Int.toNat_natCast, Nat.mul_one]
        rw [if_neg (by omega), add_plain]
      have hS := HN.out.set n
      have hcv := run_convert_bytes_arg (P := Try.prog) (w.alloc (.cells (cs.setIfInBounds q (.int .u8 (n : Int))) 85)) 87 5 Try.underlying87 Try.underlying5 w.heap.size q (9 - q) (9 - q) ((n : Int) :: L) (by rw [List.length_cons, HL.out]; have := HQ.out; omega)
        (fun i hi => by
          have h2 := hS.2.2 i (by have := hS.2.1; omega)
          rw [World.cell?_alloc_new]; exact h2) 9 Try.underlying9
      clear hS
      go_wp2
      simp only [Exit.jump]
      go_ret
      exact ⟨by rw [numB_beL, HB.out, beL_zero, List.nil_append, HL.out]; rfl, (Below.refl _ _).alloc (Nat.le_refl _) _⟩
    · obtain ⟨q', rfl⟩ : ∃ q', q = q' + 1 := ⟨q - 1, by
        rcases Nat.eq_zero_or_pos q with hz | hz
        · have := HV.out; subst hz; simp at this; omega
        · omega⟩
      go_wp2
      go_step3
      refine ⟨rfl, ⟨v / 256, q' + 1, n + 1, ((v % 256 : Nat) : Int) :: L, _, _, _, _, _, _, _, _, _, _, _, _, _, HN.out.set _, pow_step HV.out, by omega, by rw [List.length_cons, HL.out], ?_, rfl, rfl⟩, ?_⟩
      · rw [HB.out, beL_pos h0]; simp
      · simp [num_intOf]; omega

def digits_Num.f (a0 : Int) : Option (ByteArray) := if 0 ≤ a0 then (if a0 < 18446744073709551616 then (some (numB a0.toNat)) else (none)) else (none)
theorem digits_Num.calls (a0 : Int) (r : ByteArray) (w : World) (h : digits_Num.f a0 = some r) :
    Calls Try.prog 19 #[.int .u64 a0] w fun e w' => e = .returned (.string r) ∧ Below w.heap.size w w' := by
  unfold digits_Num.f at h
  split at h
  · rename_i h0
    split at h
    · rename_i h1
      obtain ⟨n, rfl⟩ := Int.eq_ofNat_of_zero_le h0
      obtain rfl := Option.some.inj h
      rw [Int.toNat_natCast]
      exact digits_Num.walk n w (by omega)
    · cases h
  · cases h


end Go.Proofs.Ytijnodcbgadooaa.Px

-- printed by this session's pprint.py (the kit's print, with this session's plugs) out of the translation; Lean checks it
namespace Go.Proofs.Ytijnodcbgadooaa.Px
open Go.RowKit Go.Proofs.YtijnodcbgadooaaW.PrintWords Go.Proofs.YtijnodcbgadooaaW.PrintLast Go.Proofs.YtijnodcbgadooaaW.PrintMore
attribute [local go_sem] max2_int min2_int max_two min_two max_three min_three max_four min_four   -- for this text's walks alone
set_option linter.unusedVariables false
set_option linter.unusedSimpArgs false

/-! ### digits_Text: function 21 (a plug) -/

def digits_Text.f (a0 : ByteArray) : Option (ByteArray) := if a0.size ≤ 1152921504606846976 then (some (textB a0)) else (none)
theorem digits_Text.calls (a0 : ByteArray) (r : ByteArray) (w : World) (h : digits_Text.f a0 = some r) :
    Calls Try.prog 21 #[.string a0] w fun e w' => e = .returned (.string r) ∧ Below w.heap.size w w' := by
  unfold digits_Text.f at h
  split at h
  · rename_i h0
    obtain rfl := Option.some.inj h
    clear h
    have hn : (numB a0.size).size ≤ 9 := numB_size (by omega)
    have hn2 : (numB a0.size).size + a0.size ≤ 9223372036854775807 := by omega
    have HN := Aside0.mk (show digits_Num.f (a0.size : Int) = some (numB a0.size) by unfold digits_Num.f; rw [if_pos (by omega), if_pos (by omega), Int.toNat_natCast])
    go_enter Try.func21, Try.ntmps21
    go_wp2_with (go_at_call 19; (with_reducible refine (digits_Num.calls _ _ _ HN.out).mono ?_); rintro e w1 ⟨rfl, hb⟩)
    go_ret
    exact ⟨rfl, by assumption⟩
  · cases h


end Go.Proofs.Ytijnodcbgadooaa.Px

-- printed by this session's pprint.py (the kit's print, with this session's plugs) out of the translation; Lean checks it
namespace Go.Proofs.Ytijnodcbgadooaa.Px
open Go.RowKit Go.Proofs.YtijnodcbgadooaaW.PrintWords Go.Proofs.YtijnodcbgadooaaW.PrintLast Go.Proofs.YtijnodcbgadooaaW.PrintMore
attribute [local go_sem] max2_int min2_int max_two min_two max_three min_three max_four min_four   -- for this text's walks alone
set_option linter.unusedVariables false
set_option linter.unusedSimpArgs false

/-! ### digits_TakeNum: function 23 -/
mutual
def digits_TakeNum.j0 : Nat → ByteArray → Int → Option (Int × ByteArray × Int)
  | 0, _, _ => none
  | k + 1, x0, x5 => digits_TakeNum.l0 k x0 x5 0 1
def digits_TakeNum.l0 : Nat → ByteArray → Int → Int → Int → Option (Int × ByteArray × Int)
  | 0, _, _, _, _ => none
  | k + 1, x0, x5, x6, x7 => if x7 ≤ x5 then (if 0 ≤ x7 then (if x7 < (x0.size : Int) then (digits_TakeNum.l0 k x0 x5 (Go.bits .or .u64 (IntKind.u64.wrap (x6 * 256)) (IntKind.u64.wrap (bt x0 x7))) (wrap64 (x7 + 1))) else (none)) else (none)) else (if 0 ≤ (wrap64 (x5 + 1)) then (if (wrap64 (x5 + 1)) ≤ (x0.size : Int) then (some (x6, x0.extract ((wrap64 (x5 + 1)) : Int).toNat x0.size, 0)) else (none)) else (none))
end
def digits_TakeNum.f (k : Nat) (a0 : ByteArray) : Option (Int × ByteArray × Int) := if a0.toList = ([] : List UInt8) then (some (0, (⟨#[]⟩ : ByteArray), 2)) else (if 0 < (a0.size : Int) then (if (wrap64 (bt a0 0)) > 8 then (some (0, (⟨#[]⟩ : ByteArray), 3)) else (if (a0.size : Int) ≤ (wrap64 (bt a0 0)) then (some (0, (⟨#[]⟩ : ByteArray), 2)) else (if (wrap64 (bt a0 0)) > 0 then (if 1 < (a0.size : Int) then (if (bt a0 1) = 0 then (some (0, (⟨#[]⟩ : ByteArray), 3)) else (digits_TakeNum.j0 k a0 (wrap64 (bt a0 0)))) else (none)) else (digits_TakeNum.j0 k a0 (wrap64 (bt a0 0)))))) else (none))
theorem digits_TakeNum.mono_l : ∀ k, (∀ y0 y1, LeO (digits_TakeNum.j0 k y0 y1) (digits_TakeNum.j0 (k + 1) y0 y1)) ∧ (∀ y0 y1 y2 y3, LeO (digits_TakeNum.l0 k y0 y1 y2 y3) (digits_TakeNum.l0 (k + 1) y0 y1 y2 y3))
  | 0 => ⟨fun _ _ r h => by simp [digits_TakeNum.j0] at h, fun _ _ _ _ r h => by simp [digits_TakeNum.l0] at h⟩
  | k + 1 => by
    obtain ⟨ih0, ih1⟩ := digits_TakeNum.mono_l k
    refine ⟨?_, ?_⟩
    · intro y0 y1
      unfold digits_TakeNum.j0
      repeat' first
      | (with_reducible exact ih0 _ _)
      | (with_reducible exact ih1 _ _ _ _)
      | (with_reducible exact LeO.refl _)
      | (with_reducible exact LeO.none _)
      | (with_reducible refine LeO.ite ?_ ?_)
      | (with_reducible refine LeO.bind ?_ (fun _ => ?_))
      | exact ih0 _ _
      | exact ih1 _ _ _ _
      | exact LeO.none _
      | refine LeO.ite ?_ ?_
      | refine LeO.bind ?_ (fun _ => ?_)
    · intro y0 y1 y2 y3
      unfold digits_TakeNum.l0
      repeat' first
      | (with_reducible exact ih0 _ _)
      | (with_reducible exact ih1 _ _ _ _)
      | (with_reducible exact LeO.refl _)
      | (with_reducible exact LeO.none _)
      | (with_reducible refine LeO.ite ?_ ?_)
      | (with_reducible refine LeO.bind ?_ (fun _ => ?_))
      | exact ih0 _ _
      | exact ih1 _ _ _ _
      | exact LeO.none _
      | refine LeO.ite ?_ ?_
      | refine LeO.bind ?_ (fun _ => ?_)
theorem digits_TakeNum.mono : ∀ a0 k, LeO (digits_TakeNum.f k a0) (digits_TakeNum.f (k + 1) a0) := by
  intro a0 k
  obtain ⟨ih0, ih1⟩ := digits_TakeNum.mono_l k
  unfold digits_TakeNum.f
  repeat' first
      | (with_reducible exact ih0 _ _)
      | (with_reducible exact ih1 _ _ _ _)
      | (with_reducible exact LeO.refl _)
      | (with_reducible exact LeO.none _)
      | (with_reducible refine LeO.ite ?_ ?_)
      | (with_reducible refine LeO.bind ?_ (fun _ => ?_))
      | exact ih0 _ _
      | exact ih1 _ _ _ _
      | exact LeO.none _
      | refine LeO.ite ?_ ?_
      | refine LeO.bind ?_ (fun _ => ?_)
set_option maxHeartbeats 8000000 in
set_option maxRecDepth 100000 in
theorem digits_TakeNum.calls (k : Nat) (a0 : ByteArray) (r1 : Int) (r2 : ByteArray) (r3 : Int) (w : World) (h : digits_TakeNum.f k a0 = some (r1, r2, r3)) :
    Calls Try.prog 23 #[.string a0] w fun e w' => e = .returned (.tuple #[.int .u64 r1, .string r2, .int .i64 r3]) ∧ Drawn0 w w' := by
  have H : (if a0.toList = ([] : List UInt8) then (some (0, (⟨#[]⟩ : ByteArray), 2)) else (if 0 < (a0.size : Int) then (if (wrap64 (bt a0 0)) > 8 then (some (0, (⟨#[]⟩ : ByteArray), 3)) else (if (a0.size : Int) ≤ (wrap64 (bt a0 0)) then (some (0, (⟨#[]⟩ : ByteArray), 2)) else (if (wrap64 (bt a0 0)) > 0 then (if 1 < (a0.size : Int) then (if (bt a0 1) = 0 then (some (0, (⟨#[]⟩ : ByteArray), 3)) else (digits_TakeNum.j0 k a0 (wrap64 (bt a0 0)))) else (none)) else (digits_TakeNum.j0 k a0 (wrap64 (bt a0 0)))))) else (none))) = some (r1, r2, r3) := h
  clear h
  by_cases c2 : a0.toList = ([] : List UInt8)
  · rw [if_pos c2] at H
    have c2b0 : (a0.toList == ([] : List UInt8)) = true := beq_iff_eq.mpr c2
    have c2b1 : (a0.toList != ([] : List UInt8)) = false := bne_eq_false_iff_eq.mpr c2
    clear c2
    simp only [Option.some.injEq, Prod.mk.injEq] at H
    obtain ⟨rfl, rfl, rfl⟩ := H
    go_enter Try.func23, Try.ntmps23
    go_wp2
    repeat (go_quiet (fail); try go_wp2)
    go_ret3
    exact ⟨by first | rfl | (simp; done) | (simp [*]; done), by repeat (first | exact Drawn0.refl _ | apply Drawn0.step)⟩
  · rw [if_neg c2] at H
    have c2b0 : (a0.toList == ([] : List UInt8)) = false := beq_eq_false_iff_ne.mpr c2
    have c2b1 : (a0.toList != ([] : List UInt8)) = true := bne_iff_ne.mpr c2
    by_cases c3 : 0 < (a0.size : Int)
    · rw [if_pos c3] at H
      have c3b0 : decide (0 < (a0.size : Int)) = true := decide_eq_true c3
      have c3b1 : decide (0 < a0.size) = true := decide_eq_true (by omega)
      clear c3
      have HC5 := Aside0.mk H
      clear H
      have p4 : 0 ≤ (0 : Int) := (by omega)
      have q4 : 0 < a0.size := (by have : (0 : Int) < (a0.size : Int) := of_decide_eq_true (by first | (with_reducible assumption) | assumption); omega)
      have hx4 : ∀ h : 0 < a0.size, ((a0[0]'h).toNat : Int) = bt a0 0 := bt_at a0 0
      clear p4
      have qi4 : (0 < (a0.size : Int)) = True := eq_true (of_decide_eq_true (by first | (with_reducible assumption) | assumption))
      replace q4 := eq_true q4
      go_enter Try.func23, Try.ntmps23
      go_upto_block 0 with (fail)
      repeat (go_quiet (fail); go_upto_block 0 with (fail))
      go_cut [] (fun wc => ∃ (kq : Nat), Aside0 (digits_TakeNum.j0 kq a0 (wrap64 (bt a0 0)) = some (r1, r2, r3)) ∧ Aside0 (kq ≤ k) ∧ Drawn0 w wc)
      case first =>
        have H := HC5.out
        clear HC5
        by_cases c6 : (wrap64 (bt a0 0)) > 8
        · rw [if_pos c6] at H
          have c6b0 : decide (8 < (wrap64 (bt a0 0))) = true := decide_eq_true c6
          clear c6
          (first | rw [c6b0] | (simp only [i64_w, i32_w]; rw [c6b0]) | skip)
          simp only [Option.some.injEq, Prod.mk.injEq] at H
          obtain ⟨rfl, rfl, rfl⟩ := H
          go_wp2
          repeat (go_quiet (fail); try go_wp2)
          go_ret3
          exact ⟨by first | rfl | (simp; done) | (simp [*]; done), by repeat (first | exact Drawn0.refl _ | apply Drawn0.step)⟩
        · rw [if_neg c6] at H
          have c6b0 : decide (8 < (wrap64 (bt a0 0))) = false := decide_eq_false c6
          clear c6
          (first | rw [c6b0] | (simp only [i64_w, i32_w]; rw [c6b0]) | skip)
          by_cases c7 : (a0.size : Int) ≤ (wrap64 (bt a0 0))
          · rw [if_pos c7] at H
            have c7b0 : decide ((a0.size : Int) ≤ (wrap64 (bt a0 0))) = true := decide_eq_true c7
            clear c7
            simp only [Option.some.injEq, Prod.mk.injEq] at H
            obtain ⟨rfl, rfl, rfl⟩ := H
            go_wp2
            repeat (go_quiet (fail); try go_wp2)
            go_ret3
            exact ⟨by first | rfl | (simp; done) | (simp [*]; done), by repeat (first | exact Drawn0.refl _ | apply Drawn0.step)⟩
          · rw [if_neg c7] at H
            have c7b0 : decide ((a0.size : Int) ≤ (wrap64 (bt a0 0))) = false := decide_eq_false c7
            clear c7
            by_cases c8 : (wrap64 (bt a0 0)) > 0
            · rw [if_pos c8] at H
              have c8b0 : decide (0 < (wrap64 (bt a0 0))) = true := decide_eq_true c8
              clear c8
              by_cases c9 : 1 < (a0.size : Int)
              · rw [if_pos c9] at H
                have c9b0 : decide (1 < (a0.size : Int)) = true := decide_eq_true c9
                have c9b1 : decide (1 < a0.size) = true := decide_eq_true (by omega)
                clear c9
                by_cases c11 : (bt a0 1) = 0
                · rw [if_pos c11] at H
                  have c11b0 : ((bt a0 1) == 0) = true := beq_iff_eq.mpr c11
                  have c11b1 : ((bt a0 1) != 0) = false := bne_eq_false_iff_eq.mpr c11
                  clear c11
                  simp only [Option.some.injEq, Prod.mk.injEq] at H
                  obtain ⟨rfl, rfl, rfl⟩ := H
                  have p10 : 0 ≤ (1 : Int) := (by omega)
                  have q10 : 1 < a0.size := (by have : (1 : Int) < (a0.size : Int) := of_decide_eq_true (by first | (with_reducible assumption) | assumption); omega)
                  have hx10 : ∀ h : 1 < a0.size, ((a0[1]'h).toNat : Int) = bt a0 1 := bt_at a0 1
                  clear p10
                  have qi10 : (1 < (a0.size : Int)) = True := eq_true (of_decide_eq_true (by first | (with_reducible assumption) | assumption))
                  replace q10 := eq_true q10
                  go_wp2
                  repeat (go_quiet (fail); try go_wp2)
                  go_ret3
                  exact ⟨by first | rfl | (simp; done) | (simp [*]; done), by repeat (first | exact Drawn0.refl _ | apply Drawn0.step)⟩
                · rw [if_neg c11] at H
                  have c11b0 : ((bt a0 1) == 0) = false := beq_eq_false_iff_ne.mpr c11
                  have c11b1 : ((bt a0 1) != 0) = true := bne_iff_ne.mpr c11
                  have H' := Aside0.mk H
                  clear H
                  have p10 : 0 ≤ (1 : Int) := (by omega)
                  have q10 : 1 < a0.size := (by have : (1 : Int) < (a0.size : Int) := of_decide_eq_true (by first | (with_reducible assumption) | assumption); omega)
                  have hx10 : ∀ h : 1 < a0.size, ((a0[1]'h).toNat : Int) = bt a0 1 := bt_at a0 1
                  clear p10
                  have qi10 : (1 < (a0.size : Int)) = True := eq_true (of_decide_eq_true (by first | (with_reducible assumption) | assumption))
                  replace q10 := eq_true q10
                  go_wp2
                  repeat (go_quiet (fail); try go_wp2)
                  go_meet
                  case rel => exact ⟨_, H', ⟨by first | omega | exact Nat.le_refl _⟩, by repeat (first | exact Drawn0.refl _ | apply Drawn0.step)⟩
              · rw [if_neg c9] at H
                exact absurd H (by simp)
            · rw [if_neg c8] at H
              have c8b0 : decide (0 < (wrap64 (bt a0 0))) = false := decide_eq_false c8
              clear c8
              have H' := Aside0.mk H
              clear H
              go_wp2
              repeat (go_quiet (fail); try go_wp2)
              go_meet
              case rel => exact ⟨_, H', ⟨by first | omega | exact Nat.le_refl _⟩, by repeat (first | exact Drawn0.refl _ | apply Drawn0.step)⟩
      case rest =>
        clear HC5
        try clear c1
        try clear p1
        try clear q1
        try clear hx1
        try clear qi1
        try clear c2
        try clear c2b0
        try clear c2b1
        try clear p2
        try clear c3
        try clear c3b0
        try clear c3b1
        try clear p4
        try clear q4
        try clear hx4
        try clear qi4
        try clear c6
        try clear c6b0
        try clear p6
        try clear c7
        try clear c7b0
        try clear c8
        try clear c8b0
        try clear c9
        try clear c9b0
        try clear c9b1
        try clear p10
        try clear q10
        try clear hx10
        try clear qi10
        try clear c11
        try clear c11b0
        try clear c11b1
        try clear p10
        try clear p4
        try clear q10
        try clear q4
        obtain ⟨kq, HA, HJ4, ⟨mc4, rfl⟩⟩ := hcut
        cases kq with
        | zero => exact absurd HA.out (by simp [digits_TakeNum.j0])
        | succ kj4 =>
          have H := HA.out
          clear HA
          simp only [digits_TakeNum.j0] at H
          have H' := Aside0.mk H
          clear H
          go_wp2
          repeat (go_quiet (fail); try go_wp2)
          go_loopg [6, 7] kj4 (fun kq v6 v7 w' => ∃ (x6_2 : Int) (x7_2 : Int), v6 = .int .u64 x6_2 ∧ v7 = .int .i64 x7_2 ∧ Aside0 (digits_TakeNum.l0 kq a0 (wrap64 (bt a0 0)) x6_2 x7_2 = some (r1, r2, r3)) ∧ Aside0 (kq ≤ kj4) ∧ Drawn0 w w')
          case atStart => exact ⟨(0), (1), (by first | rfl | (simp; done) | (simp [*]; done)), (by first | rfl | (simp; done) | (simp [*]; done)), H', ⟨Nat.le_refl _⟩, by repeat (first | exact Drawn0.refl _ | apply Drawn0.step)⟩
          case round =>
            clear H'
            try clear c1
            try clear p1
            try clear q1
            try clear hx1
            try clear qi1
            try clear c2
            try clear c2b0
            try clear c2b1
            try clear p2
            try clear c3
            try clear c3b0
            try clear c3b1
            try clear c4
            try clear p4
            try clear q4
            try clear hx4
            try clear qi4
            try clear c6
            try clear c6b0
            try clear p6
            try clear c7
            try clear c7b0
            try clear c8
            try clear c8b0
            try clear c9
            try clear c9b0
            try clear c9b1
            try clear p10
            try clear q10
            try clear hx10
            try clear qi10
            try clear c11
            try clear c11b0
            try clear c11b1
            try clear p1
            try clear p10
            try clear p2
            try clear p4
            try clear p6
            try clear q1
            try clear q10
            try clear q4
            obtain ⟨x6_2, x7_2, rfl, rfl, HA, HK2, ⟨m2, rfl⟩⟩ := hrel
            cases gk with
            | zero => exact absurd HA.out (by simp [digits_TakeNum.l0])
            | succ k2 =>
              have H := HA.out
              clear HA
              simp only [digits_TakeNum.l0] at H
              by_cases c12 : x7_2 ≤ (wrap64 (bt a0 0))
              · rw [if_pos c12] at H
                have c12b0 : decide (x7_2 ≤ (wrap64 (bt a0 0))) = true := decide_eq_true c12
                clear c12
                by_cases c13 : 0 ≤ x7_2
                · rw [if_pos c13] at H
                  have c13b0 : decide (0 ≤ x7_2) = true := decide_eq_true c13
                  clear c13
                  by_cases c14 : x7_2 < (a0.size : Int)
                  · rw [if_pos c14] at H
                    have c14b0 : decide (x7_2 < (a0.size : Int)) = true := decide_eq_true c14
                    clear c14
                    have H' := Aside0.mk H
                    clear H
                    have p15 : 0 ≤ (x7_2 : Int) := of_decide_eq_true (by first | (with_reducible assumption) | assumption)
                    have q15 : x7_2 < (a0.size : Int) := of_decide_eq_true (by first | (with_reducible assumption) | assumption)
                    have hx15 := bt_at a0 x7_2
                    replace p15 := eq_true p15
                    replace q15 := eq_true q15
                    go_wp2
                    repeat (go_quiet (fail); try go_wp2)
                    go_roundg k2
                    case measure => have := HJ4.out; have := HK2.out; omega
                    case rel => exact ⟨(Go.bits .or .u64 (IntKind.u64.wrap (x6_2 * 256)) (IntKind.u64.wrap (bt a0 x7_2))), (wrap64 (x7_2 + 1)), (by first | rfl | (simp; done) | (simp [*]; done)), (by first | rfl | (simp; done) | (simp [*]; done)), H', ⟨by have := HJ4.out; have := HK2.out; omega⟩, by repeat (first | exact Drawn0.refl _ | apply Drawn0.step)⟩
                  · rw [if_neg c14] at H
                    exact absurd H (by simp)
                · rw [if_neg c13] at H
                  exact absurd H (by simp)
              · rw [if_neg c12] at H
                have c12b0 : decide (x7_2 ≤ (wrap64 (bt a0 0))) = false := decide_eq_false c12
                clear c12
                obtain ⟨ji16, hji16⟩ : ∃ j_ : Int, (wrap64 ((wrap64 (bt a0 0)) + 1)) = j_ := ⟨_, rfl⟩
                replace H : (if 0 ≤ (ji16) then (if (ji16) ≤ (a0.size : Int) then (some (x6_2, a0.extract ((ji16) : Int).toNat a0.size, 0)) else (none)) else (none)) = some (r1, r2, r3) := by first | (rw [hji16] at H; exact H) | (simp only [hji16] at H ⊢; exact H)
                have hji16w : (IntKind.i64.wrap ((wrap64 (bt a0 0)) + 1)) = ji16 := (i64_w _).trans hji16
                by_cases c17 : 0 ≤ (ji16)
                · rw [if_pos c17] at H
                  have c17b0 := eq_true c17
                  have c17b1 : decide (0 ≤ (ji16)) = true := decide_eq_true c17
                  clear c17
                  by_cases c18 : (ji16) ≤ (a0.size : Int)
                  · rw [if_pos c18] at H
                    have c18b0 := eq_true c18
                    have c18b1 : decide ((ji16) ≤ (a0.size : Int)) = true := decide_eq_true c18
                    clear c18
                    simp only [Option.some.injEq, Prod.mk.injEq] at H
                    obtain ⟨rfl, rfl, rfl⟩ := H
                    go_wp2
                    repeat (go_quiet (fail); try go_wp2)
                    go_ret3
                    exact ⟨by first | rfl | (simp; done) | (simp only [← hji16] <;> (first | rfl | simp)) | (simp [*]; done), by repeat (first | exact Drawn0.refl _ | apply Drawn0.step)⟩
                  · rw [if_neg c18] at H
                    exact absurd H (by simp)
                · rw [if_neg c17] at H
                  exact absurd H (by simp)
    · rw [if_neg c3] at H
      exact absurd H (by simp)

end Go.Proofs.Ytijnodcbgadooaa.Px

-- printed by this session's pprint.py (the kit's print, with this session's plugs) out of the translation; Lean checks it
namespace Go.Proofs.Ytijnodcbgadooaa.Px
open Go.RowKit Go.Proofs.YtijnodcbgadooaaW.PrintWords Go.Proofs.YtijnodcbgadooaaW.PrintLast Go.Proofs.YtijnodcbgadooaaW.PrintMore
attribute [local go_sem] max2_int min2_int max_two min_two max_three min_three max_four min_four   -- for this text's walks alone
set_option linter.unusedVariables false
set_option linter.unusedSimpArgs false

/-! ### selvedgeref01_TakeNum: function 24 -/
mutual
def selvedgeref01_TakeNum.j0 : Nat → ByteArray → Int → Bool → Option (Int × ByteArray × Int)
  | 0, _, _, _ => none
  | k + 1, x0, x5, x27 => if x27 = true then (some (0, (⟨#[]⟩ : ByteArray), 3)) else (selvedgeref01_TakeNum.l0 k x0 x5 0 1)
def selvedgeref01_TakeNum.l0 : Nat → ByteArray → Int → Int → Int → Option (Int × ByteArray × Int)
  | 0, _, _, _, _ => none
  | k + 1, x0, x5, x6, x7 => if x7 ≤ x5 then (if 0 ≤ x7 then (if x7 < (x0.size : Int) then (selvedgeref01_TakeNum.l0 k x0 x5 (IntKind.u64.wrap ((IntKind.u64.wrap (x6 * 256)) + (IntKind.u64.wrap (bt x0 x7)))) (wrap64 (x7 + 1))) else (none)) else (none)) else (if 0 ≤ (wrap64 (1 + x5)) then (if (wrap64 (1 + x5)) ≤ (x0.size : Int) then (some (x6, x0.extract ((wrap64 (1 + x5)) : Int).toNat x0.size, 0)) else (none)) else (none))
end
def selvedgeref01_TakeNum.f (k : Nat) (a0 : ByteArray) : Option (Int × ByteArray × Int) := if (a0.size : Int) = 0 then (some (0, (⟨#[]⟩ : ByteArray), 2)) else (if 0 < (a0.size : Int) then (if (wrap64 (bt a0 0)) > 8 then (some (0, (⟨#[]⟩ : ByteArray), 3)) else (if (a0.size : Int) < (wrap64 (1 + (wrap64 (bt a0 0)))) then (some (0, (⟨#[]⟩ : ByteArray), 2)) else (if (wrap64 (bt a0 0)) > 0 then (if 1 < (a0.size : Int) then (selvedgeref01_TakeNum.j0 k a0 (wrap64 (bt a0 0)) ((bt a0 1) == 0)) else (none)) else (selvedgeref01_TakeNum.j0 k a0 (wrap64 (bt a0 0)) false)))) else (none))
theorem selvedgeref01_TakeNum.mono_l : ∀ k, (∀ y0 y1 y2, LeO (selvedgeref01_TakeNum.j0 k y0 y1 y2) (selvedgeref01_TakeNum.j0 (k + 1) y0 y1 y2)) ∧ (∀ y0 y1 y2 y3, LeO (selvedgeref01_TakeNum.l0 k y0 y1 y2 y3) (selvedgeref01_TakeNum.l0 (k + 1) y0 y1 y2 y3))
  | 0 => ⟨fun _ _ _ r h => by simp [selvedgeref01_TakeNum.j0] at h, fun _ _ _ _ r h => by simp [selvedgeref01_TakeNum.l0] at h⟩
  | k + 1 => by
    obtain ⟨ih0, ih1⟩ := selvedgeref01_TakeNum.mono_l k
    refine ⟨?_, ?_⟩
    · intro y0 y1 y2
      unfold selvedgeref01_TakeNum.j0
      repeat' first
      | (with_reducible exact ih0 _ _ _)
      | (with_reducible exact ih1 _ _ _ _)
      | (with_reducible exact LeO.refl _)
      | (with_reducible exact LeO.none _)
      | (with_reducible refine LeO.ite ?_ ?_)
      | (with_reducible refine LeO.bind ?_ (fun _ => ?_))
      | exact ih0 _ _ _
      | exact ih1 _ _ _ _
      | exact LeO.none _
      | refine LeO.ite ?_ ?_
      | refine LeO.bind ?_ (fun _ => ?_)
    · intro y0 y1 y2 y3
      unfold selvedgeref01_TakeNum.l0
      repeat' first
      | (with_reducible exact ih0 _ _ _)
      | (with_reducible exact ih1 _ _ _ _)
      | (with_reducible exact LeO.refl _)
      | (with_reducible exact LeO.none _)
      | (with_reducible refine LeO.ite ?_ ?_)
      | (with_reducible refine LeO.bind ?_ (fun _ => ?_))
      | exact ih0 _ _ _
      | exact ih1 _ _ _ _
      | exact LeO.none _
      | refine LeO.ite ?_ ?_
      | refine LeO.bind ?_ (fun _ => ?_)
theorem selvedgeref01_TakeNum.mono : ∀ a0 k, LeO (selvedgeref01_TakeNum.f k a0) (selvedgeref01_TakeNum.f (k + 1) a0) := by
  intro a0 k
  obtain ⟨ih0, ih1⟩ := selvedgeref01_TakeNum.mono_l k
  unfold selvedgeref01_TakeNum.f
  repeat' first
      | (with_reducible exact ih0 _ _ _)
      | (with_reducible exact ih1 _ _ _ _)
      | (with_reducible exact LeO.refl _)
      | (with_reducible exact LeO.none _)
      | (with_reducible refine LeO.ite ?_ ?_)
      | (with_reducible refine LeO.bind ?_ (fun _ => ?_))
      | exact ih0 _ _ _
      | exact ih1 _ _ _ _
      | exact LeO.none _
      | refine LeO.ite ?_ ?_
      | refine LeO.bind ?_ (fun _ => ?_)
set_option maxHeartbeats 8000000 in
set_option maxRecDepth 100000 in
theorem selvedgeref01_TakeNum.calls (k : Nat) (a0 : ByteArray) (r1 : Int) (r2 : ByteArray) (r3 : Int) (w : World) (h : selvedgeref01_TakeNum.f k a0 = some (r1, r2, r3)) :
    Calls Try.prog 24 #[.string a0] w fun e w' => e = .returned (.tuple #[.int .u64 r1, .string r2, .int .i64 r3]) ∧ Drawn0 w w' := by
  have H : (if (a0.size : Int) = 0 then (some (0, (⟨#[]⟩ : ByteArray), 2)) else (if 0 < (a0.size : Int) then (if (wrap64 (bt a0 0)) > 8 then (some (0, (⟨#[]⟩ : ByteArray), 3)) else (if (a0.size : Int) < (wrap64 (1 + (wrap64 (bt a0 0)))) then (some (0, (⟨#[]⟩ : ByteArray), 2)) else (if (wrap64 (bt a0 0)) > 0 then (if 1 < (a0.size : Int) then (selvedgeref01_TakeNum.j0 k a0 (wrap64 (bt a0 0)) ((bt a0 1) == 0)) else (none)) else (selvedgeref01_TakeNum.j0 k a0 (wrap64 (bt a0 0)) false)))) else (none))) = some (r1, r2, r3) := h
  clear h
  by_cases c2 : (a0.size : Int) = 0
  · rw [if_pos c2] at H
    have c2b0 : ((a0.size : Int) == 0) = true := beq_iff_eq.mpr c2
    have c2b1 : ((a0.size : Int) != 0) = false := bne_eq_false_iff_eq.mpr c2
    clear c2
    simp only [Option.some.injEq, Prod.mk.injEq] at H
    obtain ⟨rfl, rfl, rfl⟩ := H
    go_enter Try.func24, Try.ntmps24
    go_wp2
    repeat (go_quiet (fail); try go_wp2)
    go_ret3
    exact ⟨by first | rfl | (simp; done) | (simp [*]; done), by repeat (first | exact Drawn0.refl _ | apply Drawn0.step)⟩
  · rw [if_neg c2] at H
    have c2b0 : ((a0.size : Int) == 0) = false := beq_eq_false_iff_ne.mpr c2
    have c2b1 : ((a0.size : Int) != 0) = true := bne_iff_ne.mpr c2
    by_cases c3 : 0 < (a0.size : Int)
    · rw [if_pos c3] at H
      have c3b0 : decide (0 < (a0.size : Int)) = true := decide_eq_true c3
      have c3b1 : decide (0 < a0.size) = true := decide_eq_true (by omega)
      clear c3
      by_cases c5 : (wrap64 (bt a0 0)) > 8
      · rw [if_pos c5] at H
        have c5b0 : decide (8 < (wrap64 (bt a0 0))) = true := decide_eq_true c5
        clear c5
        simp only [Option.some.injEq, Prod.mk.injEq] at H
        obtain ⟨rfl, rfl, rfl⟩ := H
        have p4 : 0 ≤ (0 : Int) := (by omega)
        have q4 : 0 < a0.size := (by have : (0 : Int) < (a0.size : Int) := of_decide_eq_true (by first | (with_reducible assumption) | assumption); omega)
        have hx4 : ∀ h : 0 < a0.size, ((a0[0]'h).toNat : Int) = bt a0 0 := bt_at a0 0
        clear p4
        have qi4 : (0 < (a0.size : Int)) = True := eq_true (of_decide_eq_true (by first | (with_reducible assumption) | assumption))
        replace q4 := eq_true q4
        go_enter Try.func24, Try.ntmps24
        go_wp2
        repeat (go_quiet (fail); try go_wp2)
        go_ret3
        exact ⟨by first | rfl | (simp; done) | (simp [*]; done), by repeat (first | exact Drawn0.refl _ | apply Drawn0.step)⟩
      · rw [if_neg c5] at H
        have c5b0 : decide (8 < (wrap64 (bt a0 0))) = false := decide_eq_false c5
        clear c5
        by_cases c6 : (a0.size : Int) < (wrap64 (1 + (wrap64 (bt a0 0))))
        · rw [if_pos c6] at H
          have c6b0 : decide ((a0.size : Int) < (wrap64 (1 + (wrap64 (bt a0 0))))) = true := decide_eq_true c6
          clear c6
          simp only [Option.some.injEq, Prod.mk.injEq] at H
          obtain ⟨rfl, rfl, rfl⟩ := H
          have p4 : 0 ≤ (0 : Int) := (by omega)
          have q4 : 0 < a0.size := (by have : (0 : Int) < (a0.size : Int) := of_decide_eq_true (by first | (with_reducible assumption) | assumption); omega)
          have hx4 : ∀ h : 0 < a0.size, ((a0[0]'h).toNat : Int) = bt a0 0 := bt_at a0 0
          clear p4
          have qi4 : (0 < (a0.size : Int)) = True := eq_true (of_decide_eq_true (by first | (with_reducible assumption) | assumption))
          replace q4 := eq_true q4
          go_enter Try.func24, Try.ntmps24
          go_wp2
          repeat (go_quiet (fail); try go_wp2)
          go_ret3
          exact ⟨by first | rfl | (simp; done) | (simp [*]; done), by repeat (first | exact Drawn0.refl _ | apply Drawn0.step)⟩
        · rw [if_neg c6] at H
          have c6b0 : decide ((a0.size : Int) < (wrap64 (1 + (wrap64 (bt a0 0))))) = false := decide_eq_false c6
          clear c6
          have HC7 := Aside0.mk H
          clear H
          have p4 : 0 ≤ (0 : Int) := (by omega)
          have q4 : 0 < a0.size := (by have : (0 : Int) < (a0.size : Int) := of_decide_eq_true (by first | (with_reducible assumption) | assumption); omega)
          have hx4 : ∀ h : 0 < a0.size, ((a0[0]'h).toNat : Int) = bt a0 0 := bt_at a0 0
          clear p4
          have qi4 : (0 < (a0.size : Int)) = True := eq_true (of_decide_eq_true (by first | (with_reducible assumption) | assumption))
          replace q4 := eq_true q4
          go_enter Try.func24, Try.ntmps24
          go_upto_region 8 with (fail)
          repeat (go_quiet (fail); go_upto_region 8 with (fail))
          go_cut [27] (fun v27 wc => ∃ (kq : Nat) (x27_6 : Bool), v27 = .bool x27_6 ∧ Aside0 (selvedgeref01_TakeNum.j0 kq a0 (wrap64 (bt a0 0)) x27_6 = some (r1, r2, r3)) ∧ Aside0 (kq ≤ k) ∧ Drawn0 w wc)
          case first =>
            have H := HC7.out
            clear HC7
            by_cases c8 : (wrap64 (bt a0 0)) > 0
            · rw [if_pos c8] at H
              have c8b0 : decide (0 < (wrap64 (bt a0 0))) = true := decide_eq_true c8
              clear c8
              (first | rw [c8b0] | (simp only [i64_w, i32_w]; rw [c8b0]) | skip)
              by_cases c9 : 1 < (a0.size : Int)
              · rw [if_pos c9] at H
                have c9b0 : decide (1 < (a0.size : Int)) = true := decide_eq_true c9
                have c9b1 : decide (1 < a0.size) = true := decide_eq_true (by omega)
                clear c9
                have H' := Aside0.mk H
                clear H
                have p10 : 0 ≤ (1 : Int) := (by omega)
                have q10 : 1 < a0.size := (by have : (1 : Int) < (a0.size : Int) := of_decide_eq_true (by first | (with_reducible assumption) | assumption); omega)
                have hx10 : ∀ h : 1 < a0.size, ((a0[1]'h).toNat : Int) = bt a0 1 := bt_at a0 1
                clear p10
                have qi10 : (1 < (a0.size : Int)) = True := eq_true (of_decide_eq_true (by first | (with_reducible assumption) | assumption))
                replace q10 := eq_true q10
                go_wp2
                repeat (go_quiet (fail); try go_wp2)
                go_meet
                case rel => exact ⟨_, (((bt a0 1) == 0)), (by first | rfl | (simp; done) | (simp [*]; done)), H', ⟨by first | omega | exact Nat.le_refl _⟩, by repeat (first | exact Drawn0.refl _ | apply Drawn0.step)⟩
              · rw [if_neg c9] at H
                exact absurd H (by simp)
            · rw [if_neg c8] at H
              have c8b0 : decide (0 < (wrap64 (bt a0 0))) = false := decide_eq_false c8
              clear c8
              (first | rw [c8b0] | (simp only [i64_w, i32_w]; rw [c8b0]) | skip)
              have H' := Aside0.mk H
              clear H
              go_wp2
              repeat (go_quiet (fail); try go_wp2)
              go_meet
              case rel => exact ⟨_, (false), (by first | rfl | (simp; done) | (simp [*]; done)), H', ⟨by first | omega | exact Nat.le_refl _⟩, by repeat (first | exact Drawn0.refl _ | apply Drawn0.step)⟩
          case rest =>
            clear HC7
            try clear p1
            try clear q1
            try clear hx1
            try clear qi1
            try clear c2
            try clear c2b0
            try clear c2b1
            try clear p2
            try clear c3
            try clear c3b0
            try clear c3b1
            try clear p4
            try clear q4
            try clear hx4
            try clear qi4
            try clear c5
            try clear c5b0
            try clear c6
            try clear c6b0
            try clear p6
            try clear c8
            try clear c8b0
            try clear c9
            try clear c9b0
            try clear c9b1
            try clear p10
            try clear q10
            try clear hx10
            try clear qi10
            try clear p10
            try clear p4
            try clear q10
            try clear q4
            obtain ⟨kq, x27_6, rfl, HA, HJ6, ⟨mc6, rfl⟩⟩ := hcut
            cases kq with
            | zero => exact absurd HA.out (by simp [selvedgeref01_TakeNum.j0])
            | succ kj6 =>
              have H := HA.out
              clear HA
              simp only [selvedgeref01_TakeNum.j0] at H
              by_cases c11 : x27_6 = true
              · subst c11
                have H1 : (some (0, (⟨#[]⟩ : ByteArray), 3)) = some (r1, r2, r3) := by rw [if_pos rfl] at H; exact H
                clear H
                have H := H1
                clear H1
                simp only [Option.some.injEq, Prod.mk.injEq] at H
                obtain ⟨rfl, rfl, rfl⟩ := H
                go_wp2
                repeat (go_quiet (fail); try go_wp2)
                go_ret3
                exact ⟨by first | rfl | (simp; done) | (simp [*]; done), by repeat (first | exact Drawn0.refl _ | apply Drawn0.step)⟩
              · replace c11 := Bool.eq_false_iff.mpr c11
                subst c11
                have H1 : (selvedgeref01_TakeNum.l0 kj6 a0 (wrap64 (bt a0 0)) 0 1) = some (r1, r2, r3) := by rw [if_neg (show ¬ (false = true) by decide)] at H; exact H
                clear H
                have H := H1
                clear H1
                have H' := Aside0.mk H
                clear H
                go_wp2
                repeat (go_quiet (fail); try go_wp2)
                go_loopg [6, 7] kj6 (fun kq v6 v7 w' => ∃ (x6_2 : Int) (x7_2 : Int), v6 = .int .u64 x6_2 ∧ v7 = .int .i64 x7_2 ∧ Aside0 (selvedgeref01_TakeNum.l0 kq a0 (wrap64 (bt a0 0)) x6_2 x7_2 = some (r1, r2, r3)) ∧ Aside0 (kq ≤ kj6) ∧ Drawn0 w w')
                case atStart => exact ⟨(0), (1), (by first | rfl | (simp; done) | (simp [*]; done)), (by first | rfl | (simp; done) | (simp [*]; done)), H', ⟨Nat.le_refl _⟩, by repeat (first | exact Drawn0.refl _ | apply Drawn0.step)⟩
                case round =>
                  clear H'
                  try clear c1
                  try clear p1
                  try clear q1
                  try clear hx1
                  try clear qi1
                  try clear c2
                  try clear c2b0
                  try clear c2b1
                  try clear p2
                  try clear c3
                  try clear c3b0
                  try clear c3b1
                  try clear p4
                  try clear q4
                  try clear hx4
                  try clear qi4
                  try clear c5
                  try clear c5b0
                  try clear c6
                  try clear c6b0
                  try clear p6
                  try clear c8
                  try clear c8b0
                  try clear c9
                  try clear c9b0
                  try clear c9b1
                  try clear p10
                  try clear q10
                  try clear hx10
                  try clear qi10
                  try clear c11
                  try clear p1
                  try clear p10
                  try clear p2
                  try clear p4
                  try clear p6
                  try clear q1
                  try clear q10
                  try clear q4
                  obtain ⟨x6_2, x7_2, rfl, rfl, HA, HK2, ⟨m2, rfl⟩⟩ := hrel
                  cases gk with
                  | zero => exact absurd HA.out (by simp [selvedgeref01_TakeNum.l0])
                  | succ k2 =>
                    have H := HA.out
                    clear HA
                    simp only [selvedgeref01_TakeNum.l0] at H
                    by_cases c12 : x7_2 ≤ (wrap64 (bt a0 0))
                    · rw [if_pos c12] at H
                      have c12b0 : decide (x7_2 ≤ (wrap64 (bt a0 0))) = true := decide_eq_true c12
                      clear c12
                      by_cases c13 : 0 ≤ x7_2
                      · rw [if_pos c13] at H
                        have c13b0 : decide (0 ≤ x7_2) = true := decide_eq_true c13
                        clear c13
                        by_cases c14 : x7_2 < (a0.size : Int)
                        · rw [if_pos c14] at H
                          have c14b0 : decide (x7_2 < (a0.size : Int)) = true := decide_eq_true c14
                          clear c14
                          have H' := Aside0.mk H
                          clear H
                          have p15 : 0 ≤ (x7_2 : Int) := of_decide_eq_true (by first | (with_reducible assumption) | assumption)
                          have q15 : x7_2 < (a0.size : Int) := of_decide_eq_true (by first | (with_reducible assumption) | assumption)
                          have hx15 := bt_at a0 x7_2
                          replace p15 := eq_true p15
                          replace q15 := eq_true q15
                          go_wp2
                          repeat (go_quiet (fail); try go_wp2)
                          go_roundg k2
                          case measure => have := HJ6.out; have := HK2.out; omega
                          case rel => exact ⟨(IntKind.u64.wrap ((IntKind.u64.wrap (x6_2 * 256)) + (IntKind.u64.wrap (bt a0 x7_2)))), (wrap64 (x7_2 + 1)), (by first | rfl | (simp; done) | (simp [*]; done)), (by first | rfl | (simp; done) | (simp [*]; done)), H', ⟨by have := HJ6.out; have := HK2.out; omega⟩, by repeat (first | exact Drawn0.refl _ | apply Drawn0.step)⟩
                        · rw [if_neg c14] at H
                          exact absurd H (by simp)
                      · rw [if_neg c13] at H
                        exact absurd H (by simp)
                    · rw [if_neg c12] at H
                      have c12b0 : decide (x7_2 ≤ (wrap64 (bt a0 0))) = false := decide_eq_false c12
                      clear c12
                      obtain ⟨ji16, hji16⟩ : ∃ j_ : Int, (wrap64 (1 + (wrap64 (bt a0 0)))) = j_ := ⟨_, rfl⟩
                      replace H : (if 0 ≤ (ji16) then (if (ji16) ≤ (a0.size : Int) then (some (x6_2, a0.extract ((ji16) : Int).toNat a0.size, 0)) else (none)) else (none)) = some (r1, r2, r3) := by first | (rw [hji16] at H; exact H) | (simp only [hji16] at H ⊢; exact H)
                      (try rw [hji16] at c6b0)
                      have hji16w : (IntKind.i64.wrap (1 + (wrap64 (bt a0 0)))) = ji16 := (i64_w _).trans hji16
                      by_cases c17 : 0 ≤ (ji16)
                      · rw [if_pos c17] at H
                        have c17b0 := eq_true c17
                        have c17b1 : decide (0 ≤ (ji16)) = true := decide_eq_true c17
                        clear c17
                        by_cases c18 : (ji16) ≤ (a0.size : Int)
                        · rw [if_pos c18] at H
                          have c18b0 := eq_true c18
                          have c18b1 : decide ((ji16) ≤ (a0.size : Int)) = true := decide_eq_true c18
                          clear c18
                          simp only [Option.some.injEq, Prod.mk.injEq] at H
                          obtain ⟨rfl, rfl, rfl⟩ := H
                          go_wp2
                          repeat (go_quiet (fail); try go_wp2)
                          go_ret3
                          exact ⟨by first | rfl | (simp; done) | (simp only [← hji16] <;> (first | rfl | simp)) | (simp [*]; done), by repeat (first | exact Drawn0.refl _ | apply Drawn0.step)⟩
                        · rw [if_neg c18] at H
                          exact absurd H (by simp)
                      · rw [if_neg c17] at H
                        exact absurd H (by simp)
    · rw [if_neg c3] at H
      exact absurd H (by simp)

end Go.Proofs.Ytijnodcbgadooaa.Px

-- printed by this session's pprint.py (the kit's print, with this session's plugs) out of the translation; Lean checks it
namespace Go.Proofs.Ytijnodcbgadooaa.Px
open Go.RowKit Go.Proofs.YtijnodcbgadooaaW.PrintWords Go.Proofs.YtijnodcbgadooaaW.PrintLast Go.Proofs.YtijnodcbgadooaaW.PrintMore
attribute [local go_sem] max2_int min2_int max_two min_two max_three min_three max_four min_four   -- for this text's walks alone
set_option linter.unusedVariables false
set_option linter.unusedSimpArgs false

/-! ### selvedgeref01_Num: function 20 -/
def selvedgeref01_Num.l0 : Nat → Int → ByteArray → Option (ByteArray)
  | 0, _, _ => none
  | k + 1, x0, x3 => if x0 > 0 then ((some (([(Int.tmod x0 256) % 256] : List Int) : List Int)).bind fun y110 => (if (strOfNums y110).size + x3.size ≤ 9223372036854775807 then (selvedgeref01_Num.l0 k (IntKind.u64.wrap (Int.tdiv x0 256)) ((strOfNums y110) ++ x3)) else (none))) else ((some (([((x3.size : Int)) % 256] : List Int) : List Int)).bind fun y113 => (if (strOfNums y113).size + x3.size ≤ 9223372036854775807 then (some ((strOfNums y113) ++ x3)) else (none)))
def selvedgeref01_Num.f (k : Nat) (a0 : Int) : Option (ByteArray) := selvedgeref01_Num.l0 k a0 (⟨#[]⟩ : ByteArray)
theorem selvedgeref01_Num.mono_l : ∀ k, (∀ y0 y1, LeO (selvedgeref01_Num.l0 k y0 y1) (selvedgeref01_Num.l0 (k + 1) y0 y1))
  | 0 => fun _ _ r h => by simp [selvedgeref01_Num.l0] at h
  | k + 1 => by
    have ih0 := selvedgeref01_Num.mono_l k
    · intro y0 y1
      unfold selvedgeref01_Num.l0
      repeat' first
      | (with_reducible exact ih0 _ _)
      | (with_reducible exact LeO.refl _)
      | (with_reducible exact LeO.none _)
      | (with_reducible refine LeO.ite ?_ ?_)
      | (with_reducible refine LeO.bind ?_ (fun _ => ?_))
      | exact ih0 _ _
      | exact LeO.none _
      | refine LeO.ite ?_ ?_
      | refine LeO.bind ?_ (fun _ => ?_)
theorem selvedgeref01_Num.mono : ∀ a0 k, LeO (selvedgeref01_Num.f k a0) (selvedgeref01_Num.f (k + 1) a0) := by
  intro a0 k
  have ih0 := selvedgeref01_Num.mono_l k
  unfold selvedgeref01_Num.f
  repeat' first
      | (with_reducible exact ih0 _ _)
      | (with_reducible exact LeO.refl _)
      | (with_reducible exact LeO.none _)
      | (with_reducible refine LeO.ite ?_ ?_)
      | (with_reducible refine LeO.bind ?_ (fun _ => ?_))
      | exact ih0 _ _
      | exact LeO.none _
      | refine LeO.ite ?_ ?_
      | refine LeO.bind ?_ (fun _ => ?_)
set_option maxHeartbeats 8000000 in
set_option maxRecDepth 100000 in
theorem selvedgeref01_Num.calls (k : Nat) (a0 : Int) (r : ByteArray) (w : World) (h : selvedgeref01_Num.f k a0 = some r) :
    Calls Try.prog 20 #[.int .u64 a0] w fun e w' => e = .returned (.string r) ∧ Below w.heap.size w w' := by
  have HB := Aside0.mk (Below.refl w.heap.size w)
  have H : (selvedgeref01_Num.l0 k a0 (⟨#[]⟩ : ByteArray)) = some r := h
  clear h
  have H' := Aside0.mk H
  clear H
  go_enter Try.func20, Try.ntmps20
  go_wp2
  go_loopg [0, 3] k (fun kq v0 v3 w' => ∃ (x0_1 : Int) (x3_1 : ByteArray), v0 = .int .u64 x0_1 ∧ v3 = .string x3_1 ∧ Aside0 (selvedgeref01_Num.l0 kq x0_1 x3_1 = some r) ∧ Aside0 (kq ≤ k) ∧ Aside0 (Below w.heap.size w w'))
  case atStart => exact ⟨(a0), ((⟨#[]⟩ : ByteArray)), (by first | rfl | (simp; done) | (simp [*]; done)), (by first | rfl | (simp; done) | (simp [*]; done)), H', ⟨Nat.le_refl _⟩, ⟨by repeat (first | (with_reducible first | exact HB.out | apply below_alloc | apply pw_below_drewN | apply below_drew1) | exact HB.out)⟩⟩
  case round =>
    clear H'
    obtain ⟨x0_1, x3_1, rfl, rfl, HA, HK1, HB⟩ := hrel
    cases gk with
    | zero => exact absurd HA.out (by simp [selvedgeref01_Num.l0])
    | succ k1 =>
      have H := HA.out
      clear HA
      simp only [selvedgeref01_Num.l0] at H
      by_cases c2 : x0_1 > 0
      · rw [if_pos c2] at H
        have c2b0 : decide (0 < x0_1) = true := decide_eq_true c2
        clear c2
        obtain ⟨y110, hy110⟩ : ∃ y_ : List Int, y_ = (([(Int.tmod x0_1 256) % 256] : List Int)) := ⟨_, rfl⟩
        replace H : (if (strOfNums y110).size + x3_1.size ≤ 9223372036854775807 then (selvedgeref01_Num.l0 k1 (IntKind.u64.wrap (Int.tdiv x0_1 256)) ((strOfNums y110) ++ x3_1)) else (none)) = some r := by first | (rw [hy110]; with_reducible exact H) | (have H2_ := (Option.bind_some _ _).symm.trans H; rw [hy110]; with_reducible exact H2_) | (have H2_ := (Option.bind_some _ _).symm.trans H; with_reducible exact H2_) | with_reducible exact H | (rw [hy110]; exact H) | exact H
        have Ny110 := Aside0.mk hy110
        clear hy110
        by_cases c3 : (strOfNums y110).size + x3_1.size ≤ 9223372036854775807
        · rw [if_pos c3] at H
          have c3b0 := eq_true c3
          have c3b1 : decide ((strOfNums y110).size + x3_1.size ≤ 9223372036854775807) = true := decide_eq_true c3
          try have c3b2 : (9223372036854775807 < (strOfNums y110).size + x3_1.size) = False := eq_false (Nat.not_lt.2 c3)
          have H' := Aside0.mk H
          clear H
          go_wp2_with (first | ((with_reducible refine gate_dst (N := 9) rfl ?_); refine Kd.R_lit (Kd.int .u8) _ 5 ?hg (N := 9) ?hd (xs := ([(Int.tmod x0_1 256) % 256] : List Int)) (inner := [.int .u8 ((Int.tmod x0_1 256) % 256)]) (ok := fun _ => True) (okp := fun _ => True) ?hr ?hp (fun _ hk => hk) trivial (Below.refl _ _) (Nat.le_refl _) (by simp) ?_; (case hd => rfl); (case hg => rfl); (case hr => first | (go_simp; done) | (go_simp; rfl)); (case hp => exact (Reps.one (show Kd.M (Kd.int .u8) _ _ _ ((Int.tmod x0_1 256) % 256) [.int .u8 ((Int.tmod x0_1 256) % 256)] from rfl) (Reps.none _ _))); intro v111 w4 ho5 hb hg_ hnew_; clear hg_ hnew_; (first | rw [← Ny110.out] at ho5 | (simp only [Int.reduceToNat] at ho5; rw [← Ny110.out] at ho5)); have n0_ := Aside0.mk (Kd.R_lower ho5 (below_size (by repeat (first | (with_reducible first | exact HB.out | apply below_alloc | apply pw_below_drewN | apply below_drew1) | exact HB.out)))); have n1_ := Aside0.mk (below_step (by repeat (first | (with_reducible first | exact HB.out | apply below_alloc | apply pw_below_drewN | apply below_drew1) | exact HB.out)) hb); clear HB; have HO112 := n0_; have HB := n1_; clear n0_ n1_; clear hb ho5; have hcv6 := own_string (P := Try.prog) Try.underlying87 Try.underlying5 Try.underlying9 (Kd.own_of_R HO112.out)))
          go_roundg k1
          case measure => have := HK1.out; omega
          case rel => exact ⟨(IntKind.u64.wrap (Int.tdiv x0_1 256)), ((strOfNums y110) ++ x3_1), (by first | rfl | (simp; done) | (simp [*]; done)), (by first | rfl | (simp; done) | (simp [*]; done)), H', ⟨by have := HK1.out; omega⟩, ⟨by repeat (first | (with_reducible first | exact HB.out | apply below_alloc | apply pw_below_drewN | apply below_drew1) | exact HB.out)⟩⟩
        · rw [if_neg c3] at H
          exact absurd H (by simp)
      · rw [if_neg c2] at H
        have c2b0 : decide (0 < x0_1) = false := decide_eq_false c2
        clear c2
        obtain ⟨y113, hy113⟩ : ∃ y_ : List Int, y_ = (([((x3_1.size : Int)) % 256] : List Int)) := ⟨_, rfl⟩
        replace H : (if (strOfNums y113).size + x3_1.size ≤ 9223372036854775807 then (some ((strOfNums y113) ++ x3_1)) else (none)) = some r := by first | (rw [hy113]; with_reducible exact H) | (have H2_ := (Option.bind_some _ _).symm.trans H; rw [hy113]; with_reducible exact H2_) | (have H2_ := (Option.bind_some _ _).symm.trans H; with_reducible exact H2_) | with_reducible exact H | (rw [hy113]; exact H) | exact H
        have Ny113 := Aside0.mk hy113
        clear hy113
        by_cases c7 : (strOfNums y113).size + x3_1.size ≤ 9223372036854775807
        · rw [if_pos c7] at H
          have c7b0 := eq_true c7
          have c7b1 : decide ((strOfNums y113).size + x3_1.size ≤ 9223372036854775807) = true := decide_eq_true c7
          try have c7b2 : (9223372036854775807 < (strOfNums y113).size + x3_1.size) = False := eq_false (Nat.not_lt.2 c7)
          obtain rfl := Option.some.inj H
          go_wp2_with (first | ((with_reducible refine gate_dst (N := 18) rfl ?_); refine Kd.R_lit (Kd.int .u8) _ 5 ?hg (N := 18) ?hd (xs := ([((x3_1.size : Int)) % 256] : List Int)) (inner := [.int .u8 (((x3_1.size : Int)) % 256)]) (ok := fun _ => True) (okp := fun _ => True) ?hr ?hp (fun _ hk => hk) trivial (Below.refl _ _) (Nat.le_refl _) (by simp) ?_; (case hd => rfl); (case hg => rfl); (case hr => first | (go_simp; done) | (go_simp; rfl)); (case hp => exact (Reps.one (show Kd.M (Kd.int .u8) _ _ _ (((x3_1.size : Int)) % 256) [.int .u8 (((x3_1.size : Int)) % 256)] from rfl) (Reps.none _ _))); intro v114 w8 ho9 hb hg_ hnew_; clear hg_ hnew_; (first | rw [← Ny113.out] at ho9 | (simp only [Int.reduceToNat] at ho9; rw [← Ny113.out] at ho9)); have n0_ := Aside0.mk (Kd.R_lower ho9 (below_size (by repeat (first | (with_reducible first | exact HB.out | apply below_alloc | apply pw_below_drewN | apply below_drew1) | exact HB.out)))); have n1_ := Aside0.mk (below_step (by repeat (first | (with_reducible first | exact HB.out | apply below_alloc | apply pw_below_drewN | apply below_drew1) | exact HB.out)) hb); clear HB; have HO115 := n0_; have HB := n1_; clear n0_ n1_; clear hb ho9; have hcv10 := own_string (P := Try.prog) Try.underlying87 Try.underlying5 Try.underlying9 (Kd.own_of_R HO115.out)))
          go_ret
          exact ⟨by first | rfl | (simp [errW_none, errW_some] <;> rfl) | (simp [*, errW_none, errW_some] <;> rfl), by repeat (first | (with_reducible first | exact HB.out | apply below_alloc | apply pw_below_drewN | apply below_drew1) | exact HB.out)⟩
        · rw [if_neg c7] at H
          exact absurd H (by simp)

end Go.Proofs.Ytijnodcbgadooaa.Px

-- printed by this session's pprint.py (the kit's print, with this session's plugs) out of the translation; Lean checks it
namespace Go.Proofs.Ytijnodcbgadooaa.Px
open Go.RowKit Go.Proofs.YtijnodcbgadooaaW.PrintWords Go.Proofs.YtijnodcbgadooaaW.PrintLast Go.Proofs.YtijnodcbgadooaaW.PrintMore
attribute [local go_sem] max2_int min2_int max_two min_two max_three min_three max_four min_four   -- for this text's walks alone
set_option linter.unusedVariables false
set_option linter.unusedSimpArgs false

/-! ### words: w00_ev.tpl -/

/-! from some number of rounds on: tests decided -/
theorem ev_pos {α : Type} {c : Prop} [Decidable c] {f g : Nat → Option α} {r : α} (h : c) (e : Ev f r) : Ev (fun k => if c then f k else g k) r := by
  simp only [if_pos h]
  exact e
theorem ev_neg {α : Type} {c : Prop} [Decidable c] {f g : Nat → Option α} {r : α} (h : ¬ c) (e : Ev g r) : Ev (fun k => if c then f k else g k) r := by
  simp only [if_neg h]
  exact e
theorem ev_ite {α : Type} {c : Prop} [Decidable c] {f g : Nat → Option α} {a b : α} (h : c → Ev f a) (h' : ¬ c → Ev g b) : Ev (fun k => if c then f k else g k) (if c then a else b) := by
  by_cases hc : c
  · rw [if_pos hc]; exact ev_pos hc (h hc)
  · rw [if_neg hc]; exact ev_neg hc (h' hc)
theorem ev_eq {α : Type} {f : Nat → Option α} {a b : α} (h : Ev f a) (e : a = b) : Ev f b := e ▸ h
theorem ev_const {α : Type} {o : Option α} {r : α} (h : o = some r) : Ev (fun _ => o) r := ⟨0, fun _ _ => h⟩
theorem ev_bind_const {α β : Type} {o : Option α} {f : Nat → α → Option β} {a : α} {r : β} (h : o = some a) (k : Ev (fun n => f n a) r) : Ev (fun n => o.bind (f n)) r := by
  subst h
  exact k
theorem u64_wrap_of {x : Int} (h0 : 0 ≤ x) (h1 : x < 18446744073709551616) : IntKind.u64.wrap x = x := by
  show x % 18446744073709551616 = x
  omega
theorem wrap64_of {x : Int} (h0 : -9223372036854775808 ≤ x) (h1 : x < 9223372036854775808) : wrap64 x = x := by
  unfold wrap64
  omega
theorem u64_wf {x : Int} (h : (Lit.int .u64 x).wf = true) : 0 ≤ x ∧ x < 18446744073709551616 := by
  simp [Lit.wf, IntKind.min, IntKind.max, IntKind.signed, IntKind.bits] at h
  omega
theorem i64_wf {x : Int} (h : (Lit.int .i64 x).wf = true) : -9223372036854775808 ≤ x ∧ x ≤ 9223372036854775807 := by
  simp [Lit.wf, IntKind.min, IntKind.max, IntKind.signed, IntKind.bits] at h
  omega
theorem u8_wf {x : Int} (h : (Lit.int .u8 x).wf = true) : 0 ≤ x ∧ x ≤ 255 := by
  simp [Lit.wf, IntKind.min, IntKind.max, IntKind.signed, IntKind.bits] at h
  omega


end Go.Proofs.Ytijnodcbgadooaa.Px

-- printed by this session's pprint.py (the kit's print, with this session's plugs) out of the translation; Lean checks it
namespace Go.Proofs.Ytijnodcbgadooaa.Px
open Go.RowKit Go.Proofs.YtijnodcbgadooaaW.PrintWords Go.Proofs.YtijnodcbgadooaaW.PrintLast Go.Proofs.YtijnodcbgadooaaW.PrintMore
attribute [local go_sem] max2_int min2_int max_two min_two max_three min_three max_four min_four   -- for this text's walks alone
set_option linter.unusedVariables false
set_option linter.unusedSimpArgs false

/-! ### words: w02_refnum.tpl -/

theorem refNum_end (acc : Bs) (hl : acc.length ≤ 200) : Ev (fun k => selvedgeref01_Num.l0 k ((0 : Nat) : Int) (toB acc)) (toB (UInt8.ofNat acc.length :: acc)) := by
  refine Ev.step (fun k => by rw [selvedgeref01_Num.l0]) ?_
  refine ev_neg (by simp) ?_
  simp only [Option.bind_some, strOfNums_toB, List.map_cons, List.map_nil, toB_size, List.length_cons, List.length_nil]
  refine ev_pos (by omega) ?_
  have e : ((acc.length : Int) % 256).toNat = acc.length := by omega
  rw [e]
  exact ev_eq (Ev.now _) (by rw [← toB_append]; rfl)
theorem refNum_loop (n : Nat) : ∀ (v : Nat) (acc : Bs), v < 256 ^ n → n + acc.length ≤ 200 → v < 18446744073709551616 →
    Ev (fun k => selvedgeref01_Num.l0 k (v : Int) (toB acc)) (toB (UInt8.ofNat (be v ++ acc).length :: (be v ++ acc))) := by
  induction n with
  | zero =>
    intro v acc hv hl _
    obtain rfl : v = 0 := by simpa using hv
    rw [be_zero, List.nil_append]
    exact refNum_end acc (by omega)
  | succ n ih =>
    intro v acc hv hl hm
    rcases Nat.eq_zero_or_pos v with h | h
    · subst h
      rw [be_zero, List.nil_append]
      exact refNum_end acc (by omega)
    · refine Ev.step (fun k => by rw [selvedgeref01_Num.l0]) ?_
      refine ev_pos (by omega) ?_
      simp only [Option.bind_some, strOfNums_toB, List.map_cons, List.map_nil, toB_size, List.length_cons, List.length_nil]
      refine ev_pos (by omega) ?_
      have e1 : IntKind.u64.wrap (Int.tdiv (v : Int) 256) = ((v / 256 : Nat) : Int) := by
        rw [Int.tdiv_eq_ediv_of_nonneg (by omega), u64_wrap_of (by omega) (by omega)]; omega
      have e2 : (Int.tmod (v : Int) 256 % 256).toNat = v % 256 := by
        rw [Int.tmod_eq_emod_of_nonneg (by omega)]; omega
      rw [e1, e2]
      have := ih (v / 256) ([UInt8.ofNat (v % 256)] ++ acc) (by rw [Nat.pow_succ] at hv; omega) (by simp; omega) (by omega)
      rw [be_pos h, List.append_assoc]
      rw [toB_append [UInt8.ofNat (v % 256)] acc] at this
      exact this
theorem refNum_ev (v : Nat) (hv : v < 18446744073709551616) : Ev (fun k => selvedgeref01_Num.f k (v : Int)) (numB v) := by
  have e8 : (256 : Nat) ^ 8 = 18446744073709551616 := by decide
  have h := refNum_loop 8 v [] (by omega) (by simp) hv
  rw [List.append_nil] at h
  exact h


end Go.Proofs.Ytijnodcbgadooaa.Px

-- printed by this session's pprint.py (the kit's print, with this session's plugs) out of the translation; Lean checks it
namespace Go.Proofs.Ytijnodcbgadooaa.Px
open Go.RowKit Go.Proofs.YtijnodcbgadooaaW.PrintWords Go.Proofs.YtijnodcbgadooaaW.PrintLast Go.Proofs.YtijnodcbgadooaaW.PrintMore
attribute [local go_sem] max2_int min2_int max_two min_two max_three min_three max_four min_four   -- for this text's walks alone
set_option linter.unusedVariables false
set_option linter.unusedSimpArgs false

/-! ### selvedgeref01_Text: function 22 (a plug) -/

def selvedgeref01_Text.f (a0 : ByteArray) : Option (ByteArray) := if a0.size ≤ 1152921504606846976 then (some (textB a0)) else (none)
theorem selvedgeref01_Text.calls (a0 : ByteArray) (r : ByteArray) (w : World) (h : selvedgeref01_Text.f a0 = some r) :
    Calls Try.prog 22 #[.string a0] w fun e w' => e = .returned (.string r) ∧ Below w.heap.size w w' := by
  unfold selvedgeref01_Text.f at h
  split at h
  · rename_i h0
    obtain rfl := Option.some.inj h
    clear h
    have hn : (numB a0.size).size ≤ 9 := numB_size (by omega)
    have hn2 : (numB a0.size).size + a0.size ≤ 9223372036854775807 := by omega
    obtain ⟨k, hk⟩ := (refNum_ev a0.size (by omega)).rounds
    have HN := Aside0.mk hk
    clear hk
    go_enter Try.func22, Try.ntmps22
    go_wp2_with (go_at_call 20; (with_reducible refine (selvedgeref01_Num.calls _ _ _ _ HN.out).mono ?_); rintro e w1 ⟨rfl, hb⟩)
    go_ret
    exact ⟨rfl, by assumption⟩
  · cases h


end Go.Proofs.Ytijnodcbgadooaa.Px

-- printed by this session's pprint.py (the kit's print, with this session's plugs) out of the translation; Lean checks it
namespace Go.Proofs.Ytijnodcbgadooaa.Px
open Go.RowKit Go.Proofs.YtijnodcbgadooaaW.PrintWords Go.Proofs.YtijnodcbgadooaaW.PrintLast Go.Proofs.YtijnodcbgadooaaW.PrintMore
attribute [local go_sem] max2_int min2_int max_two min_two max_three min_three max_four min_four   -- for this text's walks alone
set_option linter.unusedVariables false
set_option linter.unusedSimpArgs false

/-! ### words: w03_takenum.tpl -/

theorem or_byte (v : Nat) (c : UInt8) (hv : v < 72057594037927936) : Go.bits .or .u64 (IntKind.u64.wrap ((v : Int) * 256)) (IntKind.u64.wrap (c.toNat : Int)) = ((v * 256 + c.toNat : Nat) : Int) := by
  have hc := c.toNat_lt
  rw [u64_wrap_of (by omega) (by omega), u64_wrap_of (by omega) (by omega), show (v : Int) * 256 = ((v * 256 : Nat) : Int) by omega, u64_or_nat _ _ (by omega) (by omega)]
  have := Nat.two_pow_add_eq_or_of_lt (i := 8) (b := c.toNat) (by omega) v
  rw [Nat.mul_comm v 256, show (256 : Nat) = 2 ^ 8 from rfl, this]
theorem add_byte (v : Nat) (c : UInt8) (hv : v < 72057594037927936) : IntKind.u64.wrap (IntKind.u64.wrap ((v : Int) * 256) + IntKind.u64.wrap (c.toNat : Int)) = ((v * 256 + c.toNat : Nat) : Int) := by
  have hc := c.toNat_lt
  rw [u64_wrap_of (x := (v : Int) * 256) (by omega) (by omega), u64_wrap_of (x := (c.toNat : Int)) (by omega) (by omega), u64_wrap_of (by omega) (by omega)]
  omega
theorem val_take_succ (t : Bs) (j : Nat) (h : j < t.length) : val (t.take (j + 1)) = val (t.take j) * 256 + (t.getD j 0).toNat := by
  rw [List.take_succ_eq_append_getElem h, val_snoc, List.getD_eq_getElem?_getD, List.getElem?_eq_getElem h]; rfl
theorem val_take_lt (t : Bs) (j : Nat) (h : j < 8) : val (t.take j) < 72057594037927936 := by
  have h1 := val_lt (t.take j)
  have h2 : 256 ^ (t.take j).length ≤ 256 ^ 7 := Nat.pow_le_pow_right (by omega) (by rw [List.length_take]; omega)
  have : (256 : Nat) ^ 7 = 72057594037927936 := by decide
  omega
/-- what a number's taking comes to -/
def takeNumB (s : ByteArray) : Int × ByteArray × Int := (((takeNumL (ofB s)).1 : Int), toB (takeNumL (ofB s)).2.1, (takeNumL (ofB s)).2.2)
theorem takeNumB_toB (l : Bs) : takeNumB (toB l) = (((takeNumL l).1 : Int), toB (takeNumL l).2.1, (takeNumL l).2.2) := by rw [takeNumB, ofB_toB]
theorem bt_toB_succ (c : UInt8) (t : Bs) (j : Nat) : bt (toB (c :: t)) ((j + 1 : Nat) : Int) = ((t.getD j 0).toNat : Int) := by
  rw [bt_ofB, ofB_toB]; rfl
theorem drop_toB (c : UInt8) (t : Bs) (n : Nat) : (toB (c :: t)).extract (n + 1) (toB (c :: t)).size = toB (t.drop n) := by
  apply ofB_inj
  rw [ofB_extract, ofB_toB, ofB_toB, toB_size, List.drop_succ_cons, List.take_of_length_le (by simp)]
theorem takeNum_loop (c : UInt8) (t : Bs) (hc : c.toNat ≤ 8) (hl : c.toNat ≤ t.length) (hs : t.length < 4611686018427387904) (d : Nat) : ∀ j, j + d = c.toNat →
    Ev (fun k => digits_TakeNum.l0 k (toB (c :: t)) (c.toNat : Int) (val (t.take j) : Int) ((j + 1 : Nat) : Int)) ((val (t.take c.toNat) : Int), toB (t.drop c.toNat), 0) := by
  induction d with
  | zero =>
    intro j hj
    refine Ev.step (fun k => by rw [digits_TakeNum.l0]) ?_
    rw [wrap64_of (x := (c.toNat : Int) + 1) (by omega) (by omega)]
    refine ev_neg (by omega) (ev_pos (by omega) (ev_pos (by rw [toB_size, List.length_cons]; omega) ?_))
    rw [show ((c.toNat : Int) + 1).toNat = c.toNat + 1 by omega, drop_toB]
    obtain rfl : j = c.toNat := by omega
    exact Ev.now _
  | succ d ih =>
    intro j hj
    refine Ev.step (fun k => by rw [digits_TakeNum.l0]) ?_
    refine ev_pos (by omega) (ev_pos (by omega) (ev_pos (by rw [toB_size, List.length_cons]; omega) ?_))
    rw [bt_toB_succ, or_byte _ _ (val_take_lt t j (by omega)), ← val_take_succ t j (by omega), wrap64_of (by omega) (by omega)]
    exact ih (j + 1) (by omega)
theorem takeNum_ev (s : ByteArray) (hs : s.size < 4611686018427387904) : Ev (fun k => digits_TakeNum.f k s) (takeNumB s) := by
  obtain ⟨l, rfl⟩ : ∃ l, s = toB l := ⟨_, (toB_ofB s).symm⟩
  rw [toB_size] at hs
  rw [takeNumB_toB]
  rcases l with _ | ⟨c, t⟩
  · exact ev_pos (by rw [toList_ofB, ofB_toB]) (Ev.now _)
  · have hc := c.toNat_lt
    rw [List.length_cons] at hs
    have e0 : bt (toB (c :: t)) 0 = (c.toNat : Int) := by rw [show (0 : Int) = ((0 : Nat) : Int) from rfl, bt_ofB, ofB_toB]; rfl
    have e1 : bt (toB (c :: t)) 1 = ((t.getD 0 0).toNat : Int) := bt_toB_succ c t 0
    refine ev_neg (by rw [toList_ofB, ofB_toB]; simp) (ev_pos (by rw [toB_size, List.length_cons]; omega) ?_)
    rw [e0, e1, wrap64_of (by omega) (by omega), toB_size, List.length_cons]
    have hj : c.toNat ≤ 8 → c.toNat ≤ t.length → Ev (fun k => digits_TakeNum.j0 k (toB (c :: t)) (c.toNat : Int)) ((val (t.take c.toNat) : Int), toB (t.drop c.toNat), 0) := fun h8 hl => by
      refine Ev.step (fun k => by rw [digits_TakeNum.j0]) ?_
      exact takeNum_loop c t h8 hl (by omega) c.toNat 0 (by omega)
    by_cases h8 : 8 < c.toNat
    · refine ev_pos (by omega) ?_
      simp only [takeNumL, if_pos h8]
      exact Ev.now _
    refine ev_neg (by omega) ?_
    by_cases hl : t.length < c.toNat
    · refine ev_pos (by omega) ?_
      simp only [takeNumL, if_neg h8, if_pos hl]
      exact Ev.now _
    refine ev_neg (by omega) ?_
    by_cases h0 : 0 < c.toNat
    · refine ev_pos (by omega) (ev_pos (by omega) ?_)
      by_cases hz : t.getD 0 0 = 0
      · refine ev_pos (by rw [hz]; rfl) ?_
        simp only [takeNumL, if_neg h8, if_neg hl, if_pos (And.intro h0 hz)]
        exact Ev.now _
      · refine ev_neg (fun h => hz (UInt8.toNat_inj.1 (by show _ = 0; omega))) ?_
        simp only [takeNumL, if_neg h8, if_neg hl, if_neg (fun h : _ ∧ _ => hz h.2)]
        exact hj (by omega) (by omega)
    · refine ev_neg (by omega) ?_
      simp only [takeNumL, if_neg h8, if_neg hl, if_neg (fun h : _ ∧ _ => h0 h.1)]
      exact hj (by omega) (by omega)

theorem refTakeNum_loop (c : UInt8) (t : Bs) (hc : c.toNat ≤ 8) (hl : c.toNat ≤ t.length) (hs : t.length < 4611686018427387904) (d : Nat) : ∀ j, j + d = c.toNat →
    Ev (fun k => selvedgeref01_TakeNum.l0 k (toB (c :: t)) (c.toNat : Int) (val (t.take j) : Int) ((j + 1 : Nat) : Int)) ((val (t.take c.toNat) : Int), toB (t.drop c.toNat), 0) := by
  induction d with
  | zero =>
    intro j hj
    refine Ev.step (fun k => by rw [selvedgeref01_TakeNum.l0]) ?_
    rw [wrap64_of (x := 1 + (c.toNat : Int)) (by omega) (by omega)]
    refine ev_neg (by omega) (ev_pos (by omega) (ev_pos (by rw [toB_size, List.length_cons]; omega) ?_))
    rw [show (1 + (c.toNat : Int)).toNat = c.toNat + 1 by omega, drop_toB]
    obtain rfl : j = c.toNat := by omega
    exact Ev.now _
  | succ d ih =>
    intro j hj
    refine Ev.step (fun k => by rw [selvedgeref01_TakeNum.l0]) ?_
    refine ev_pos (by omega) (ev_pos (by omega) (ev_pos (by rw [toB_size, List.length_cons]; omega) ?_))
    rw [bt_toB_succ, add_byte _ _ (val_take_lt t j (by omega)), ← val_take_succ t j (by omega), wrap64_of (by omega) (by omega)]
    exact ih (j + 1) (by omega)
theorem refTakeNum_ev (s : ByteArray) (hs : s.size < 4611686018427387904) : Ev (fun k => selvedgeref01_TakeNum.f k s) (takeNumB s) := by
  obtain ⟨l, rfl⟩ : ∃ l, s = toB l := ⟨_, (toB_ofB s).symm⟩
  rw [toB_size] at hs
  rw [takeNumB_toB]
  rcases l with _ | ⟨c, t⟩
  · exact ev_pos (by rw [toB_size]; rfl) (Ev.now _)
  · have hc := c.toNat_lt
    rw [List.length_cons] at hs
    have e0 : bt (toB (c :: t)) 0 = (c.toNat : Int) := by rw [show (0 : Int) = ((0 : Nat) : Int) from rfl, bt_ofB, ofB_toB]; rfl
    have e1 : bt (toB (c :: t)) 1 = ((t.getD 0 0).toNat : Int) := bt_toB_succ c t 0
    have eb : ((c.toNat : Int) < 0) = False := eq_false (by omega)
    refine ev_neg (by rw [toB_size, List.length_cons]; omega) (ev_pos (by rw [toB_size, List.length_cons]; omega) ?_)
    rw [e0, e1, wrap64_of (x := (c.toNat : Int)) (by omega) (by omega), wrap64_of (x := 1 + (c.toNat : Int)) (by omega) (by omega), toB_size, List.length_cons]
    have hj : c.toNat ≤ 8 → c.toNat ≤ t.length → Ev (fun k => selvedgeref01_TakeNum.j0 k (toB (c :: t)) (c.toNat : Int) false) ((val (t.take c.toNat) : Int), toB (t.drop c.toNat), 0) := fun h8 hl => by
      refine Ev.step (fun k => by rw [selvedgeref01_TakeNum.j0]) ?_
      exact ev_neg (by simp) (refTakeNum_loop c t h8 hl (by omega) c.toNat 0 (by omega))
    by_cases h8 : 8 < c.toNat
    · refine ev_pos (by omega) ?_
      simp only [takeNumL, if_pos h8]
      exact Ev.now _
    refine ev_neg (by omega) ?_
    by_cases hl : t.length < c.toNat
    · refine ev_pos (by omega) ?_
      simp only [takeNumL, if_neg h8, if_pos hl]
      exact Ev.now _
    refine ev_neg (by omega) ?_
    by_cases h0 : 0 < c.toNat
    · refine ev_pos (by omega) (ev_pos (by omega) ?_)
      by_cases hz : t.getD 0 0 = 0
      · rw [hz]
        simp only [takeNumL, if_neg h8, if_neg hl, if_pos (And.intro h0 hz)]
        refine Ev.step (fun k => by rw [selvedgeref01_TakeNum.j0]) ?_
        exact ev_pos rfl (Ev.now _)
      · have hz' : (((t.getD 0 0).toNat : Int) == 0) = false := beq_eq_false_iff_ne.2 (fun h => hz (UInt8.toNat_inj.1 (by show _ = 0; omega)))
        rw [hz']
        simp only [takeNumL, if_neg h8, if_neg hl, if_neg (fun h : _ ∧ _ => hz h.2)]
        exact hj (by omega) (by omega)
    · refine ev_neg (by omega) ?_
      simp only [takeNumL, if_neg h8, if_neg hl, if_neg (fun h : _ ∧ _ => h0 h.1)]
      exact hj (by omega) (by omega)

/-! the examples that stand at the head of the statements -/
theorem digits_Num_of (v : Nat) (hv : v < 18446744073709551616) : digits_Num.f (v : Int) = some (numB v) := by
  unfold digits_Num.f
  rw [if_pos (by omega), if_pos (by omega), Int.toNat_natCast]
theorem digits_Text_of (t : ByteArray) (h : t.size ≤ 1152921504606846976) : digits_Text.f t = some (textB t) := by unfold digits_Text.f; rw [if_pos h]
theorem selvedgeref01_Text_of (t : ByteArray) (h : t.size ≤ 1152921504606846976) : selvedgeref01_Text.f t = some (textB t) := by unfold selvedgeref01_Text.f; rw [if_pos h]
theorem be_256 : be 256 = [1, 0] := by
  rw [be_pos (by omega), be_pos (by omega)]
  simp [be_zero]
theorem be_2 : be 2 = [2] := by
  rw [be_pos (by omega)]
  simp [be_zero]


end Go.Proofs.Ytijnodcbgadooaa.Px
