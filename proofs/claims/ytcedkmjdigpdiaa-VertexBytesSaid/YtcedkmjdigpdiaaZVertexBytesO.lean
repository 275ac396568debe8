/- Part 15 of 22 of the proof of the law VertexBytes: what is proved is the statement at the end of the last part; its conditions are those of the given row. -/
import Derived.Laws.BitsAllLaws
import Derived.Test.YtcedkmjdigpdiaaZVertexBytesD
namespace Go.Proofs.Ytcedkmjdigpdiaa.Px
open Go.RowKit Go.Proofs.YtcedkmjdigpdiaaW.PrintWords Go.Proofs.YtcedkmjdigpdiaaW.PrintLast Go.Proofs.YtcedkmjdigpdiaaW.PrintMore
attribute [local go_sem] zK zM zQ zR zC zD zL zN
set_option linter.unusedVariables false
set_option linter.unusedSimpArgs false
def z6.l0 : Nat → Int → Int → Int → Option (Int)
  | 0, _, _, _ => none
  | k + 1, x0, x1, x5 => if x5 < x1 then (z6.l0 k ((Int.tdiv x0 2) % 4294967296) x1 (wrap64 (x5 + 1))) else (some x0)
def z6.f (k : Nat) (a0 : Int) (a1 : Int) : Option (Int) := z6.l0 k a0 a1 0
set_option maxHeartbeats 8000000 in
set_option maxRecDepth 100000 in
theorem z6.calls (k : Nat) (a0 : Int) (a1 : Int) (r : Int) (w : World) (h : z6.f k a0 a1 = some r) :
    Calls Try.prog 62 #[.int .u32 a0, .int .i64 a1] w fun e w' => e = .returned (.int .u32 r) ∧ zH w w' := by
  have H : (z6.l0 k a0 a1 0) = some r := h
  clear h
  have H' := zc.mk H
  clear H
  go_enter Try.func62, Try.ntmps62
  go_wp2
  go_loopg [0, 5] k (fun kq v0 v5 w' => ∃ (x0_1 : Int) (x5_1 : Int), v0 = .int .u32 x0_1 ∧ v5 = .int .i64 x5_1 ∧ zc (z6.l0 kq x0_1 a1 x5_1 = some r) ∧ zc (kq ≤ k) ∧ zH w w')
  case atStart => exact ⟨(a0), (0), (by first | rfl | (simp; done) | (simp [*]; done)), (by first | rfl | (simp; done) | (simp [*]; done)), H', ⟨Nat.le_refl _⟩, by repeat (first | exact zH.refl _ | apply zH.step)⟩
  case round =>
    clear H'
    try clear p2
    obtain ⟨x0_1, x5_1, rfl, rfl, HA, HK1, ⟨m1, rfl⟩⟩ := hrel
    cases gk with
    | zero => exact absurd HA.out (by simp [z6.l0])
    | succ k1 =>
      have H := HA.out
      clear HA
      simp only [z6.l0] at H
      by_cases c3 : x5_1 < a1
      · rw [if_pos c3] at H
        have c3b0 : decide (x5_1 < a1) = true := decide_eq_true c3
        clear c3
        have H' := zc.mk H
        clear H
        go_wp2
        go_roundg k1
        case measure => have := HK1.out; omega
        case rel => exact ⟨((Int.tdiv x0_1 2) % 4294967296), (wrap64 (x5_1 + 1)), (by first | rfl | (simp; done) | (simp [*]; done)), (by first | rfl | (simp; done) | (simp [*]; done)), H', ⟨by have := HK1.out; omega⟩, by repeat (first | exact zH.refl _ | apply zH.step)⟩
      · rw [if_neg c3] at H
        have c3b0 : decide (x5_1 < a1) = false := decide_eq_false c3
        clear c3
        obtain rfl := Option.some.inj H
        go_wp2
        go_ret
        exact ⟨by first | rfl | (simp; done) | (simp [*]; done), by repeat (first | exact zH.refl _ | apply zH.step)⟩
end Go.Proofs.Ytcedkmjdigpdiaa.Px

namespace Go.Proofs.Ytcedkmjdigpdiaa.Px
open Go.RowKit Go.Proofs.YtcedkmjdigpdiaaW.PrintWords Go.Proofs.YtcedkmjdigpdiaaW.PrintLast Go.Proofs.YtcedkmjdigpdiaaW.PrintMore
attribute [local go_sem] zK zM zQ zR zC zD zL zN
set_option linter.unusedVariables false
set_option linter.unusedSimpArgs false
mutual
def zJ.l0 : Nat → Int → Int → Int → Int → Option (Int)
  | 0, _, _, _, _ => none
  | k + 1, x0, x1, x5, x6 => if x6 < x1 then (zJ.l0 k x0 x1 ((x5 * 2) % 4294967296) (wrap64 (x6 + 1))) else (if x5 = 0 then (none) else (zJ.l1 k x0 x1 x5 (Int.tmod x0 x5) 0))
def zJ.l1 : Nat → Int → Int → Int → Int → Int → Option (Int)
  | 0, _, _, _, _, _ => none
  | k + 1, x0, x1, x5, x7, x8 => if x8 < (wrap64 (32 - x1)) then (zJ.l1 k x0 x1 x5 ((x7 * 2) % 4294967296) (wrap64 (x8 + 1))) else (if x5 = 0 then (none) else (some ((((Int.tdiv x0 x5) % 4294967296) + x7) % 4294967296)))
end
def zJ.f (k : Nat) (a0 : Int) (a1 : Int) : Option (Int) := zJ.l0 k a0 a1 1 0
set_option maxHeartbeats 8000000 in
set_option maxRecDepth 100000 in
theorem zJ.calls (k : Nat) (a0 : Int) (a1 : Int) (r : Int) (w : World) (h : zJ.f k a0 a1 = some r) :
    Calls Try.prog 61 #[.int .u32 a0, .int .i64 a1] w fun e w' => e = .returned (.int .u32 r) ∧ zH w w' := by
  have H : (zJ.l0 k a0 a1 1 0) = some r := h
  clear h
  have H' := zc.mk H
  clear H
  go_enter Try.func61, Try.ntmps61
  go_wp2
  go_loopg [5, 6] k (fun kq v5 v6 w' => ∃ (x5_1 : Int) (x6_1 : Int), v5 = .int .u32 x5_1 ∧ v6 = .int .i64 x6_1 ∧ zc (zJ.l0 kq a0 a1 x5_1 x6_1 = some r) ∧ zc (kq ≤ k) ∧ zH w w')
  case atStart => exact ⟨(1), (0), (by first | rfl | (simp; done) | (simp [*]; done)), (by first | rfl | (simp; done) | (simp [*]; done)), H', ⟨Nat.le_refl _⟩, by repeat (first | exact zH.refl _ | apply zH.step)⟩
  case round =>
    clear H'
    try clear p2
    obtain ⟨x5_1, x6_1, rfl, rfl, HA, HK1, ⟨m1, rfl⟩⟩ := hrel
    cases gk with
    | zero => exact absurd HA.out (by simp [zJ.l0])
    | succ k1 =>
      have H := HA.out
      clear HA
      simp only [zJ.l0] at H
      by_cases c3 : x6_1 < a1
      · rw [if_pos c3] at H
        have c3b0 : decide (x6_1 < a1) = true := decide_eq_true c3
        clear c3
        have H' := zc.mk H
        clear H
        go_wp2
        go_roundg k1
        case measure => have := HK1.out; omega
        case rel => exact ⟨((x5_1 * 2) % 4294967296), (wrap64 (x6_1 + 1)), (by first | rfl | (simp; done) | (simp [*]; done)), (by first | rfl | (simp; done) | (simp [*]; done)), H', ⟨by have := HK1.out; omega⟩, by repeat (first | exact zH.refl _ | apply zH.step)⟩
      · rw [if_neg c3] at H
        have c3b0 : decide (x6_1 < a1) = false := decide_eq_false c3
        clear c3
        by_cases c4 : x5_1 = 0
        · rw [if_pos c4] at H
          exact absurd H (by simp)
        · rw [if_neg c4] at H
          have c4b0 : (x5_1 == 0) = false := beq_eq_false_iff_ne.mpr c4
          have c4b1 : (x5_1 != 0) = true := bne_iff_ne.mpr c4
          have H' := zc.mk H
          clear H
          go_wp2
          go_loopg [7, 8] k1 (fun kq v7 v8 w' => ∃ (x7_2 : Int) (x8_2 : Int), v7 = .int .u32 x7_2 ∧ v8 = .int .i64 x8_2 ∧ zc (zJ.l1 kq a0 a1 x5_1 x7_2 x8_2 = some r) ∧ zc (kq ≤ k1) ∧ zH w w')
          case atStart => exact ⟨(Int.tmod a0 x5_1), (0), (by first | rfl | (simp; done) | (simp [*]; done)), (by first | rfl | (simp; done) | (simp [*]; done)), H', ⟨Nat.le_refl _⟩, by repeat (first | exact zH.refl _ | apply zH.step)⟩
          case round =>
            clear H'
            try clear p2
            try clear c3
            try clear c3b0
            try clear c4
            try clear c4b0
            try clear c4b1
            try clear p2
            obtain ⟨x7_2, x8_2, rfl, rfl, HA, HK2, ⟨m2, rfl⟩⟩ := hrel
            cases gk with
            | zero => exact absurd HA.out (by simp [zJ.l1])
            | succ k2 =>
              have H := HA.out
              clear HA
              simp only [zJ.l1] at H
              by_cases c5 : x8_2 < (wrap64 (32 - a1))
              · rw [if_pos c5] at H
                have c5b0 : decide (x8_2 < (wrap64 (32 - a1))) = true := decide_eq_true c5
                clear c5
                have H' := zc.mk H
                clear H
                go_wp2
                go_roundg k2
                case measure => have := HK1.out; have := HK2.out; omega
                case rel => exact ⟨((x7_2 * 2) % 4294967296), (wrap64 (x8_2 + 1)), (by first | rfl | (simp; done) | (simp [*]; done)), (by first | rfl | (simp; done) | (simp [*]; done)), H', ⟨by have := HK1.out; have := HK2.out; omega⟩, by repeat (first | exact zH.refl _ | apply zH.step)⟩
              · rw [if_neg c5] at H
                have c5b0 : decide (x8_2 < (wrap64 (32 - a1))) = false := decide_eq_false c5
                clear c5
                by_cases c6 : x5_1 = 0
                · rw [if_pos c6] at H
                  exact absurd H (by simp)
                · rw [if_neg c6] at H
                  have c6b0 : (x5_1 == 0) = false := beq_eq_false_iff_ne.mpr c6
                  have c6b1 : (x5_1 != 0) = true := bne_iff_ne.mpr c6
                  obtain rfl := Option.some.inj H
                  go_wp2
                  go_ret
                  exact ⟨by first | rfl | (simp; done) | (simp [*]; done), by repeat (first | exact zH.refl _ | apply zH.step)⟩
end Go.Proofs.Ytcedkmjdigpdiaa.Px

namespace Go.Proofs.Ytcedkmjdigpdiaa.Px
open Go.RowKit Go.Proofs.YtcedkmjdigpdiaaW.PrintWords Go.Proofs.YtcedkmjdigpdiaaW.PrintLast Go.Proofs.YtcedkmjdigpdiaaW.PrintMore
attribute [local go_sem] zK zM zQ zR zC zD zL zN
set_option linter.unusedVariables false
set_option linter.unusedSimpArgs false
def zbm.f (a0 : Int) (a1 : Int) : Option (Int) := if 0 ≤ (Go.bits .and .u64 (IntKind.u64.wrap (a1)) 31) then (if 0 ≤ (IntKind.u64.wrap (32 - (Go.bits .and .u64 (IntKind.u64.wrap (a1)) 31))) then (some (Go.bits .or .u32 (shl .u32 a0 (Go.bits .and .u64 (IntKind.u64.wrap (a1)) 31)) (shr .u32 a0 (IntKind.u64.wrap (32 - (Go.bits .and .u64 (IntKind.u64.wrap (a1)) 31)))))) else (none)) else (none)
end Go.Proofs.Ytcedkmjdigpdiaa.Px

namespace Go.Proofs.Ytcedkmjdigpdiaa.Px
open Go.RowKit Go.Proofs.YtcedkmjdigpdiaaW.PrintWords Go.Proofs.YtcedkmjdigpdiaaW.PrintLast Go.Proofs.YtcedkmjdigpdiaaW.PrintMore
attribute [local go_sem] zK zM zQ zR zC zD zL zN
set_option linter.unusedVariables false
set_option linter.unusedSimpArgs false
def zd5.f (a0 : Int) (a1 : Int) : Option (Int) := (zbm.f a0 (wrap64 (-a1))).bind fun t125 => (some t125)
end Go.Proofs.Ytcedkmjdigpdiaa.Px

namespace Go.Proofs.Ytcedkmjdigpdiaa.Px
open Go.RowKit Go.Proofs.YtcedkmjdigpdiaaW.PrintWords Go.Proofs.YtcedkmjdigpdiaaW.PrintLast Go.Proofs.YtcedkmjdigpdiaaW.PrintMore
attribute [local go_sem] zK zM zQ zR zC zD zL zN
set_option linter.unusedVariables false
set_option linter.unusedSimpArgs false
def zaO (x : Int) : Prop := 0 ≤ x ∧ x < 4294967296
def zbw (x : Int) : Int := IntKind.u32.wrap x
theorem za7 (x : Int) : zbw x = x % 4294967296 := IntKind.wrap_u32 x
theorem zdH (x : Int) : zaO (zbw x) := by rw [za7]; unfold zaO; omega
def zae (n : Nat) (x : Int) : Int := x / 2 ^ n + x % 2 ^ n * 2 ^ (32 - n)
def zbl (a b : Int) : Int := Go.bits .xor .u32 a b
def zck (a b : Int) : Int := Go.bits .and .u32 a b
def zde (L : List Int) (k w : Int) : List Int :=
  let t := zbw (zbw (zbw (zbw (L.getD 7 0 + zbl (zbl (zae 6 (L.getD 4 0)) (zae 11 (L.getD 4 0))) (zae 25 (L.getD 4 0))) + zbl (zck (L.getD 4 0) (L.getD 5 0)) (zck (4294967295 - L.getD 4 0) (L.getD 6 0))) + k) + w)
  let u := zbw (zbl (zbl (zae 2 (L.getD 0 0)) (zae 13 (L.getD 0 0))) (zae 22 (L.getD 0 0)) + zbl (zbl (zck (L.getD 0 0) (L.getD 1 0)) (zck (L.getD 0 0) (L.getD 2 0))) (zck (L.getD 1 0) (L.getD 2 0)))
  [zbw (t + u), L.getD 0 0, L.getD 1 0, L.getD 2 0, zbw (L.getD 3 0 + t), L.getD 4 0, L.getD 5 0, L.getD 6 0]
def okL (L : List Int) : Prop := ∀ i, zaO (L.getD i 0)
theorem zeF : okL [] := fun i => by simp [zaO]
theorem zaL {x : Int} {L : List Int} (hx : zaO x) (hL : okL L) : okL (x :: L) := fun i => by
  rcases i with _ | i
  · exact hx
  · exact hL i
theorem ze4 {x : Int} {L : List Int} (hL : okL L) (hx : zaO x) : okL (L ++ [x]) := fun i => by
  rw [List.getD_eq_getElem?_getD]
  rcases Nat.lt_trichotomy i L.length with h | h | h
  · rw [List.getElem?_append_left h, ← List.getD_eq_getElem?_getD]; exact hL i
  · subst h; simp; exact hx
  · rw [List.getElem?_eq_none (by rw [List.length_append]; simp; omega)]; simp [zaO]
theorem zfZ {L : List Int} (h : okL L) (k w : Int) : okL (zde L k w) :=
  zaL (zdH _) (zaL (h 0) (zaL (h 1) (zaL (h 2) (zaL (zdH _) (zaL (h 4) (zaL (h 5) (zaL (h 6) zeF)))))))
def zd7 (b : ByteArray) (i : Nat) : Int := bt b ((4 * i : Nat) : Int) * 16777216 + bt b ((4 * i + 1 : Nat) : Int) * 65536 + bt b ((4 * i + 2 : Nat) : Int) * 256 + bt b ((4 * i + 3 : Nat) : Int)
theorem zgA (b : ByteArray) (i : Nat) : zaO (zd7 b i) := by
  have h0 := za0 b ((4 * i : Nat) : Int)
  have h1 := za0 b ((4 * i + 1 : Nat) : Int)
  have h2 := za0 b ((4 * i + 2 : Nat) : Int)
  have h3 := za0 b ((4 * i + 3 : Nat) : Int)
  unfold zaO zd7; omega
def zbD (b : ByteArray) : Nat → List Int
  | 0 => []
  | n + 1 => zbD b n ++ [zd7 b n]
theorem zbk (b : ByteArray) : ∀ n, (zbD b n).length = n
  | 0 => rfl
  | n + 1 => by rw [zbD, List.length_append, zbk b n]; rfl
theorem zeZ (b : ByteArray) : ∀ n, okL (zbD b n)
  | 0 => zeF
  | n + 1 => ze4 (zeZ b n) (zgA b n)
def zcj (W : List Int) (i : Nat) : Int :=
  zbw (zbw (zbw (W.getD (i - 16) 0 + zbl (zbl (zae 7 (W.getD (i - 15) 0)) (zae 18 (W.getD (i - 15) 0))) (W.getD (i - 15) 0 / 8)) + W.getD (i - 7) 0) + zbl (zbl (zae 17 (W.getD (i - 2) 0)) (zae 19 (W.getD (i - 2) 0))) (W.getD (i - 2) 0 / 1024))
def zF (b : ByteArray) : Nat → List Int
  | 0 => zbD b 16
  | n + 1 => zF b n ++ [zcj (zF b n) (16 + n)]
theorem zaE (b : ByteArray) : ∀ n, (zF b n).length = 16 + n
  | 0 => zbk b 16
  | n + 1 => by rw [zF, List.length_append, zaE b n]; rfl
theorem zdf (b : ByteArray) : ∀ n, okL (zF b n)
  | 0 => zeZ b 16
  | n + 1 => ze4 (zdf b n) (zdH _)
def zaC (S K W : List Int) : Nat → List Int
  | 0 => S
  | n + 1 => zde (zaC S K W n) (K.getD n 0) (W.getD n 0)
theorem zci {S : List Int} (h : okL S) (K W : List Int) : ∀ n, okL (zaC S K W n)
  | 0 => h
  | n + 1 => zfZ (zci h K W n) _ _
theorem zcz {S : List Int} (h : S.length = 8) (K W : List Int) : ∀ n, (zaC S K W n).length = 8
  | 0 => h
  | _ + 1 => rfl
def zbK (S H : List Int) (k : Nat) : List Int := (List.range 8).map fun j => if j < k then zbw (S.getD j 0 + H.getD j 0) else S.getD j 0
theorem zbz (S H : List Int) (k : Nat) : (zbK S H k).length = 8 := by simp [zbK]
theorem zbN (S H : List Int) (k j : Nat) (hj : j < 8) : (zbK S H k).getD j 0 = if j < k then zbw (S.getD j 0 + H.getD j 0) else S.getD j 0 := by
  rw [zbK, List.getD_eq_getElem?_getD, List.getElem?_map, List.getElem?_range hj]; rfl
theorem zdT {A B : List Int} (ha : A.length = 8) (hb : B.length = 8) (h : ∀ j, j < 8 → A.getD j 0 = B.getD j 0) : A = B := by
  apply List.ext_getElem (by rw [ha, hb])
  intro i h1 h2
  have := h i (by omega)
  rwa [List.getD_eq_getElem?_getD, List.getD_eq_getElem?_getD, List.getElem?_eq_getElem h1, List.getElem?_eq_getElem h2] at this
theorem zfD {S : List Int} (h : S.length = 8) (H : List Int) : zbK S H 0 = S :=
  zdT (zbz _ _ _) h (fun j hj => by rw [zbN _ _ _ _ hj, if_neg (by omega)])
theorem zgf (L : List Int) (k j : Nat) (v : Int) (hk : k < L.length) : (L.set k v).getD j 0 = if j = k then v else L.getD j 0 := by
  rw [List.getD_eq_getElem?_getD, List.getElem?_set]
  by_cases h : k = j
  · subst h; rw [if_pos rfl, if_pos hk, if_pos rfl]; rfl
  · rw [if_neg h, if_neg (Ne.symm h), ← List.getD_eq_getElem?_getD]
theorem zfC (S H : List Int) (k : Nat) (hk : k < 8) : (zbK S H k).set k (zbw (S.getD k 0 + H.getD k 0)) = zbK S H (k + 1) := by
  refine zdT (by rw [List.length_set, zbz]) (zbz _ _ _) (fun j hj => ?_)
  rw [zgf _ _ _ _ (by rw [zbz]; exact hk), zbN _ _ _ _ hj, zbN _ _ _ _ hj]
  by_cases h : j = k
  · subst h; rw [if_pos rfl, if_pos (by omega)]
  · rw [if_neg h]
    by_cases h2 : j < k
    · rw [if_pos h2, if_pos (by omega)]
    · rw [if_neg h2, if_neg (by omega)]
def zcV (S K : List Int) (b : ByteArray) : List Int := zbK (zaC S K (zF b 48) 64) S 8
theorem zb7 (S K : List Int) (b : ByteArray) : (zcV S K b).length = 8 := zbz _ _ _
theorem zgO (S K : List Int) (b : ByteArray) : okL (zcV S K b) := fun i => by
  rcases Nat.lt_or_ge i 8 with h | h
  · rw [zcV, zbN _ _ _ _ h, if_pos h]; exact zdH _
  · rw [List.getD_eq_getElem?_getD, List.getElem?_eq_none (by rw [zb7]; exact h)]; simp [zaO]
def kL : List Int := [1116352408, 1899447441, 3049323471, 3921009573, 961987163, 1508970993, 2453635748, 2870763221, 3624381080, 310598401, 607225278, 1426881987, 1925078388, 2162078206, 2614888103, 3248222580, 3835390401, 4022224774, 264347078, 604807628, 770255983, 1249150122, 1555081692, 1996064986, 2554220882, 2821834349, 2952996808, 3210313671, 3336571891, 3584528711, 113926993, 338241895, 666307205, 773529912, 1294757372, 1396182291, 1695183700, 1986661051, 2177026350, 2456956037, 2730485921, 2820302411, 3259730800, 3345764771, 3516065817, 3600352804, 4094571909, 275423344, 430227734, 506948616, 659060556, 883997877, 958139571, 1322822218, 1537002063, 1747873779, 1955562222, 2024104815, 2227730452, 2361852424, 2428436474, 2756734187, 3204031479, 3329325298]
def hL : List Int := [1779033703, 3144134277, 1013904242, 2773480762, 1359893119, 2600822924, 528734635, 1541459225]
theorem zhB : okL hL := by
  refine zaL ?_ (zaL ?_ (zaL ?_ (zaL ?_ (zaL ?_ (zaL ?_ (zaL ?_ (zaL ?_ zeF))))))) <;> (constructor <;> decide)
def zcR (n : Nat) : Bs := [UInt8.ofNat (n / 72057594037927936 % 256), UInt8.ofNat (n / 281474976710656 % 256), UInt8.ofNat (n / 1099511627776 % 256), UInt8.ofNat (n / 4294967296 % 256), UInt8.ofNat (n / 16777216 % 256), UInt8.ofNat (n / 65536 % 256), UInt8.ofNat (n / 256 % 256), UInt8.ofNat (n % 256)]
def zbu (n : Nat) : Nat := (119 - n % 64) % 64
def zcx (s : Bs) : Bs := s ++ 128 :: (List.replicate (zbu s.length) 0 ++ zcR (s.length * 8))
theorem ze6 (s : Bs) : ∃ m, (zcx s).length = 64 * m := by
  refine ⟨(s.length + 9 + zbu s.length) / 64, ?_⟩
  have : (zcx s).length = s.length + 9 + zbu s.length := by simp [zcx, zcR]; omega
  rw [this]; unfold zbu; omega
def zaz (p : ByteArray) : Nat → List Int
  | 0 => hL
  | i + 1 => zcV (zaz p i) kL (p.extract (64 * i) (64 * i + 64))
theorem zaQ (p : ByteArray) : ∀ i, (zaz p i).length = 8
  | 0 => rfl
  | _ + 1 => zb7 _ _ _
theorem zcd (p : ByteArray) : ∀ i, okL (zaz p i)
  | 0 => zhB
  | _ + 1 => zgO _ _ _
def zbF (x : Int) : Bs := [UInt8.ofNat (x.toNat / 16777216 % 256), UInt8.ofNat (x.toNat / 65536 % 256), UInt8.ofNat (x.toNat / 256 % 256), UInt8.ofNat (x.toNat % 256)]
def zeQ (s : ByteArray) : ByteArray := toB ((zaz (toB (zcx (ofB s))) ((zcx (ofB s)).length / 64)).flatMap zbF)
theorem zeC (l : List Int) : (l.flatMap zbF).length = 4 * l.length := by
  induction l with
  | nil => rfl
  | cons x l ih => rw [List.flatMap_cons, List.length_append, ih, List.length_cons]; show 4 + _ = _; omega
def zG (L : List Int) : Array Value := (L.map (Value.int .u32)).toArray
theorem zaA (L : List Int) : (zG L).size = L.length := by simp [zG]
theorem zP (L : List Int) (i : Nat) (h : i < L.length) : (zG L)[i]? = some (.int .u32 (L.getD i 0)) := by
  rw [zG, List.getElem?_toArray, List.getElem?_map, List.getElem?_eq_getElem h, List.getD_eq_getElem?_getD, List.getElem?_eq_getElem h]; rfl
theorem zdl (L : List Int) (i : Nat) (v : Int) : (zG L).setIfInBounds i (.int .u32 v) = zG (L.set i v) := by
  simp [zG, List.map_set]
theorem zdk (L : List Int) (h : L.length = 8) : zG L = #[.int .u32 (L.getD 0 0), .int .u32 (L.getD 1 0), .int .u32 (L.getD 2 0), .int .u32 (L.getD 3 0), .int .u32 (L.getD 4 0), .int .u32 (L.getD 5 0), .int .u32 (L.getD 6 0), .int .u32 (L.getD 7 0)] := by
  obtain ⟨a, b, c, d, e, f, g, k, rfl⟩ : ∃ a b c d e f g k, L = [a, b, c, d, e, f, g, k] := by
    match L, h with
    | [a, b, c, d, e, f, g, k], _ => exact ⟨a, b, c, d, e, f, g, k, rfl⟩
  rfl
def za4 (W : List Int) : List Int := W ++ List.replicate (64 - W.length) 0
theorem zce {W : List Int} (h : W.length ≤ 64) : (za4 W).length = 64 := by simp [za4]; omega
theorem zdQ {W : List Int} (i : Nat) (h : i < W.length) : (za4 W).getD i 0 = W.getD i 0 := by
  rw [za4, List.getD_eq_getElem?_getD, List.getElem?_append_left h, ← List.getD_eq_getElem?_getD]
theorem zfj {W : List Int} (h : W.length < 64) (v : Int) : (za4 W).set W.length v = za4 (W ++ [v]) := by
  rw [za4, za4, List.set_append_right _ _ (Nat.le_refl _), Nat.sub_self, List.length_append]
  obtain ⟨m, hm⟩ : ∃ m, 64 - W.length = m + 1 := ⟨63 - W.length, by omega⟩
  rw [hm, List.replicate_succ, List.set_cons_zero, show 64 - (W.length + [v].length) = m by simp; omega]
  simp
end Go.Proofs.Ytcedkmjdigpdiaa.Px

namespace Go.Proofs.Ytcedkmjdigpdiaa.Px
open Go.RowKit Go.Proofs.YtcedkmjdigpdiaaW.PrintWords Go.Proofs.YtcedkmjdigpdiaaW.PrintLast Go.Proofs.YtcedkmjdigpdiaaW.PrintMore
attribute [local go_sem] zK zM zQ zR zC zD zL zN
set_option linter.unusedVariables false
set_option linter.unusedSimpArgs false
theorem zfp (n : Nat) (h1 : n ≤ 32) : (2 : Int) ^ n * 2 ^ (32 - n) = 4294967296 := by
  rw [← Int.pow_add, show n + (32 - n) = 32 by omega]; rfl
theorem zbs (n : Nat) : (0 : Int) < 2 ^ n := Int.pow_pos (by decide)
theorem zgt (n : Nat) (h1 : n ≤ 32) {x : Int} (hx : zaO x) : zaO (zae n x) := by
  have hpq := zfp n h1
  have hp := zbs n
  have hq := zbs (32 - n)
  have h2 := Int.emod_nonneg x (Int.ne_of_gt hp)
  have h3 := Int.emod_lt_of_pos x hp
  have h4 : 0 ≤ x / 2 ^ n := Int.ediv_nonneg hx.1 (Int.le_of_lt hp)
  have h5 : x / 2 ^ n < 2 ^ (32 - n) := Int.ediv_lt_of_lt_mul hp (by rw [Int.mul_comm, hpq]; exact hx.2)
  unfold zae
  generalize (2 : Int) ^ n = p at *
  generalize (2 : Int) ^ (32 - n) = q at *
  generalize x % p = m at *
  generalize x / p = d at *
  have h6 : m * q ≤ (p - 1) * q := Int.mul_le_mul_of_nonneg_right (by omega) (by omega)
  rw [Int.sub_mul, hpq, Int.one_mul] at h6
  have h7 : 0 ≤ m * q := Int.mul_nonneg h2 (by omega)
  unfold zaO; omega
theorem zgu (n : Nat) (h1 : n ≤ 32) {x : Int} (hx : zaO x) : Go.bits .or .u32 (IntKind.u32.wrap (x * 2 ^ (32 - n))) (x / 2 ^ n) = zae n x := by
  have hpq := zfp n h1
  have hp := zbs n
  have hq := zbs (32 - n)
  have h2 := Int.emod_nonneg x (Int.ne_of_gt hp)
  have h3 := Int.emod_lt_of_pos x hp
  have h4 : 0 ≤ x / 2 ^ n := Int.ediv_nonneg hx.1 (Int.le_of_lt hp)
  have h5 : x / 2 ^ n < 2 ^ (32 - n) := Int.ediv_lt_of_lt_mul hp (by rw [Int.mul_comm, hpq]; exact hx.2)
  have h8 : x / 2 ^ n < 4294967296 := by
    have : x / 2 ^ n ≤ x := Int.ediv_le_self _ hx.1
    have := hx.2; omega
  have e : IntKind.u32.wrap (x * 2 ^ (32 - n)) = x % 2 ^ n * 2 ^ (32 - n) := by
    rw [IntKind.wrap_u32, ← hpq, Int.mul_comm x, Int.mul_comm (2 ^ n), Int.mul_emod_mul_of_pos _ _ hq, Int.mul_comm]
  have h6 : x % 2 ^ n * 2 ^ (32 - n) ≤ (2 ^ n - 1) * 2 ^ (32 - n) := Int.mul_le_mul_of_nonneg_right (by omega) (by omega)
  rw [Int.sub_mul, hpq, Int.one_mul] at h6
  have h7 : 0 ≤ x % 2 ^ n * 2 ^ (32 - n) := Int.mul_nonneg h2 (by omega)
  rw [e, bits_join .u32 32 (by decide) (fun n h0 h1 => by rw [IntKind.wrap_u32]; omega) (32 - n) _ _ h7 (Int.mul_emod_left _ _) (by omega) h4 h5 (by omega), zae, Int.add_comm]
theorem zfc (n : Nat) (h0 : 1 ≤ n) (h1 : n ≤ 31) {x : Int} (hx : zaO x) : zd5.f x (n : Int) = some (zae n x) := by
  unfold zd5.f zbm.f
  have e1 : wrap64 (-(n : Int)) = -(n : Int) := zas (by omega) (by omega)
  have e2 : IntKind.u64.wrap (-(n : Int)) = 18446744073709551616 - (n : Int) := by
    show (-(n : Int)) % 18446744073709551616 = _
    omega
  have e3 : Go.bits .and .u64 (18446744073709551616 - (n : Int)) 31 = ((32 - n : Nat) : Int) := by
    have := bits_mask .u64 64 (by decide) (fun n h0 h1 => zba h0 (by omega)) 5 (by decide) (18446744073709551616 - (n : Int)) (by omega) (by omega)
    rw [show ((2 : Int) ^ 5 - 1) = 31 from rfl, show (2 : Int) ^ 5 = 32 from rfl] at this
    rw [this]; omega
  have e4 : IntKind.u64.wrap (32 - ((32 - n : Nat) : Int)) = (n : Int) := by rw [zba (by omega) (by omega)]; omega
  rw [e1, e2, e3, e4, if_pos (by omega), if_pos (by omega)]
  simp only [Option.bind_some]
  congr 1
  unfold shl shr
  rw [Int.toNat_natCast, Int.toNat_natCast, Nat.min_eq_left (by show 32 - n ≤ 32; omega), Nat.min_eq_left (by show n ≤ 32; omega)]
  exact zgu n (by omega) hx
theorem zfv (x n p low : Int) (hp : p ≠ 0) (m : Nat) (hm : wrap64 (32 - n) = m) (d : Nat) : ∀ j : Nat, j + d = m → m ≤ 32 → 0 ≤ low → low * 2 ^ m < 4294967296 → Ev (fun k => zJ.l1 k x n p (low * 2 ^ j) (j : Int)) (((Int.tdiv x p % 4294967296) + low * 2 ^ m) % 4294967296) := by
  induction d with
  | zero =>
    intro j hj hm2 h0 h1
    obtain rfl : j = m := by omega
    refine Ev.step (fun k => by rw [zJ.l1]) ?_
    rw [hm]
    exact zad (by omega) (zad hp (Ev.now _))
  | succ d ih =>
    intro j hj hm2 h0 h1
    refine Ev.step (fun k => by rw [zJ.l1]) ?_
    rw [hm]
    refine zT (by omega) ?_
    have h2 : low * 2 ^ (j + 1) ≤ low * 2 ^ m := Int.mul_le_mul_of_nonneg_left (by exact_mod_cast Nat.pow_le_pow_right (by omega) (by omega)) h0
    have h3 : 0 ≤ low * 2 ^ (j + 1) := Int.mul_nonneg h0 (Int.le_of_lt (zbs _))
    have e1 : low * 2 ^ j * 2 % 4294967296 = low * 2 ^ (j + 1) := by
      rw [Int.mul_assoc, ← Int.pow_succ]
      show low * 2 ^ (j + 1) % 4294967296 = low * 2 ^ (j + 1)
      omega
    rw [e1, zas (by omega) (by omega)]
    exact ih (j + 1) (by omega) hm2 h0 h1
theorem zfu (x : Int) (n : Nat) (hn : n ≤ 31) (r : Int) (hr : Ev (fun k => zJ.l1 k x n (2 ^ n) (Int.tmod x (2 ^ n)) 0) r) (d : Nat) : ∀ j : Nat, j + d = n → Ev (fun k => zJ.l0 k x (n : Int) (2 ^ j) (j : Int)) r := by
  induction d with
  | zero =>
    intro j hj
    obtain rfl : j = n := by omega
    refine Ev.step (fun k => by rw [zJ.l0]) ?_
    exact zad (by omega) (zad (Int.ne_of_gt (zbs _)) hr)
  | succ d ih =>
    intro j hj
    refine Ev.step (fun k => by rw [zJ.l0]) ?_
    refine zT (by omega) ?_
    have h2 : (2 : Int) ^ (j + 1) ≤ 2 ^ 31 := by exact_mod_cast Nat.pow_le_pow_right (by omega : 0 < 2) (by omega : j + 1 ≤ 31)
    have h3 : (2 : Int) ^ 31 = 2147483648 := rfl
    have h4 := zbs (j + 1)
    have e1 : (2 : Int) ^ j * 2 % 4294967296 = 2 ^ (j + 1) := by
      rw [← Int.pow_succ]; omega
    rw [e1, zas (by omega) (by omega)]
    exact ih (j + 1) (by omega)
theorem zft (n : Nat) (h0 : 1 ≤ n) (h1 : n ≤ 31) {x : Int} (hx : zaO x) : Ev (fun k => zJ.f k x (n : Int)) (zae n x) := by
  have hpq := zfp n (by omega)
  have hp := zbs n
  have hq := zbs (32 - n)
  have h2 := Int.emod_nonneg x (Int.ne_of_gt hp)
  have h3 := Int.emod_lt_of_pos x hp
  have h6 : x % 2 ^ n * 2 ^ (32 - n) ≤ (2 ^ n - 1) * 2 ^ (32 - n) := Int.mul_le_mul_of_nonneg_right (by omega) (by omega)
  rw [Int.sub_mul, hpq, Int.one_mul] at h6
  have hl := zfv x n (2 ^ n) (x % 2 ^ n) (Int.ne_of_gt hp) (32 - n) (by rw [zas (by omega) (by omega)]; omega) (32 - n) 0 (by omega) (by omega) h2 (by omega)
  rw [Int.pow_zero, Int.mul_one] at hl
  rw [← Int.tmod_eq_emod_of_nonneg hx.1] at hl
  have := zfu x n h1 _ hl n 0 (by omega)
  rw [Int.pow_zero] at this
  refine zaw this ?_
  have ok := zgt n (by omega) hx
  rw [Int.tmod_eq_emod_of_nonneg hx.1, Int.tdiv_eq_ediv_of_nonneg hx.1]
  have h4 : 0 ≤ x / 2 ^ n := Int.ediv_nonneg hx.1 (Int.le_of_lt hp)
  have h8 : x / 2 ^ n < 4294967296 := by
    have : x / 2 ^ n ≤ x := Int.ediv_le_self _ hx.1
    have := hx.2; omega
  rw [Int.emod_eq_of_lt h4 h8]
  exact Int.emod_eq_of_lt ok.1 ok.2
theorem zfs (n : Nat) (hn : n ≤ 31) (d : Nat) : ∀ (j : Nat) (x : Int), j + d = n → zaO x → Ev (fun k => z6.l0 k x (n : Int) (j : Int)) (x / 2 ^ d) := by
  induction d with
  | zero =>
    intro j x hj hx
    refine Ev.step (fun k => by rw [z6.l0]) ?_
    exact zad (by omega) (zaw (Ev.now _) (by simp))
  | succ d ih =>
    intro j x hj hx
    refine Ev.step (fun k => by rw [z6.l0]) ?_
    refine zT (by omega) ?_
    obtain ⟨x0, x1⟩ := hx
    have e1 : Int.tdiv x 2 % 4294967296 = x / 2 := by rw [Int.tdiv_eq_ediv_of_nonneg x0]; omega
    rw [e1, zas (by omega) (by omega)]
    refine zaw (ih (j + 1) (x / 2) (by omega) ⟨by omega, by omega⟩) ?_
    rw [Int.pow_succ, Int.mul_comm, ← Int.ediv_ediv_of_nonneg (by decide)]
theorem zfr (n : Nat) (hn : n ≤ 31) {x : Int} (hx : zaO x) : Ev (fun k => z6.f k x (n : Int)) (x / 2 ^ n) := zfs n hn n 0 x (by omega) hx
end Go.Proofs.Ytcedkmjdigpdiaa.Px
