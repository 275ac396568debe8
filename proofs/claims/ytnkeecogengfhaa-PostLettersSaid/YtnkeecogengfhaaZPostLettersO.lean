/- part 15 of the proof of the law PostLetters: texts merged by this session's bundle.py. What is proved: the statement at the end of the last of these texts; its conditions are those of the given row. -/
import Derived.Test.YtnkeecogengfhaaZPostLettersD
import Derived.Test.YtnkeecogengfhaaZPostLettersE
import Derived.Test.YtnkeecogengfhaaZPostLettersJ
import Derived.Test.YtnkeecogengfhaaZPostLettersL
import Derived.Test.YtnkeecogengfhaaZPostLettersM
import Derived.Test.YtnkeecogengfhaaZPostLettersN
namespace Go.Proofs.Ytnkeecogengfhaa.Px
open Go.RowKit Go.Proofs.YtnkeecogengfhaaW.PrintWords Go.Proofs.YtnkeecogengfhaaW.PrintLast Go.Proofs.YtnkeecogengfhaaW.PrintMore
attribute [local go_sem] max2_int min2_int max_two min_two max_three min_three max_four min_four
set_option linter.unusedVariables false
set_option linter.unusedSimpArgs false
def selvedgelaw18_PostLetters.j0 : Nat → Bool → ByteArray → Bool → Int → Int → Int → ByteArray → Option (Bool)
  | 0, _, _, _, _, _, _, _ => none
  | k + 1, x7, x8, x16, x247000, x247001, x247002, x247003 => if x7 = true then (if x16 = true then ((post_Tx.f x247003).bind fun t271 => ((post_Kind.f t271).bind fun t272 => (if t272 = 116 then ((selvedgeref18_Kind.f x8).bind fun t273 => ((post_Kind.f x8).bind fun t274 => (some (t273 == t274)))) else (some false)))) else (some false)) else (some false)
def selvedgelaw18_PostLetters.f (k : Nat) (a0_0 : Int) (a0_1 : Int) (l0_2 : List (S61)) (l0_3 : List ByteArray) (a0_4 : Int) (a0_5 : Int) (a0_6 : Int) (a0_7 : Int) (a0_8 : Int) (a0_9 : Int) (a0_10 : ByteArray) (a0_11 : Int) : Option (Bool) := (selvedgelaw18_shown.f k).bind fun t247 => ((post_Header.f a0_0 a0_1 l0_2 l0_3 a0_4 a0_5 a0_11).bind fun bt248 => ((post_Proof.f a0_0 a0_1 l0_2 l0_3 a0_4 a0_5 a0_6 a0_11).bind fun bt250 => ((post_Say.f k a0_7 a0_8 a0_9 a0_10).bind fun bt252 => ((post_Ballot.f a0_7 a0_8 a0_10).bind fun bt254 => (if bt248.2 = 0 then ((post_Kind.f bt248.1).bind fun t256 => (if t256 = 104 then (if bt250.2 = 0 then ((post_Kind.f bt250.1).bind fun t257 => (if t257 = 99 then (if bt252.2 = 0 then ((post_Kind.f bt252.1).bind fun t258 => (if t258 = 121 then (if bt254.2 = 0 then ((post_Kind.f bt254.1).bind fun t259 => (selvedgelaw18_PostLetters.j0 k t247 bt248.1 (t259 == 118) a0_7 a0_8 a0_9 a0_10)) else (selvedgelaw18_PostLetters.j0 k t247 bt248.1 true a0_7 a0_8 a0_9 a0_10)) else (selvedgelaw18_PostLetters.j0 k t247 bt248.1 false a0_7 a0_8 a0_9 a0_10))) else (if bt254.2 = 0 then ((post_Kind.f bt254.1).bind fun t260 => (selvedgelaw18_PostLetters.j0 k t247 bt248.1 (t260 == 118) a0_7 a0_8 a0_9 a0_10)) else (selvedgelaw18_PostLetters.j0 k t247 bt248.1 true a0_7 a0_8 a0_9 a0_10))) else (selvedgelaw18_PostLetters.j0 k t247 bt248.1 false a0_7 a0_8 a0_9 a0_10))) else (if bt252.2 = 0 then ((post_Kind.f bt252.1).bind fun t261 => (if t261 = 121 then (if bt254.2 = 0 then ((post_Kind.f bt254.1).bind fun t262 => (selvedgelaw18_PostLetters.j0 k t247 bt248.1 (t262 == 118) a0_7 a0_8 a0_9 a0_10)) else (selvedgelaw18_PostLetters.j0 k t247 bt248.1 true a0_7 a0_8 a0_9 a0_10)) else (selvedgelaw18_PostLetters.j0 k t247 bt248.1 false a0_7 a0_8 a0_9 a0_10))) else (if bt254.2 = 0 then ((post_Kind.f bt254.1).bind fun t263 => (selvedgelaw18_PostLetters.j0 k t247 bt248.1 (t263 == 118) a0_7 a0_8 a0_9 a0_10)) else (selvedgelaw18_PostLetters.j0 k t247 bt248.1 true a0_7 a0_8 a0_9 a0_10)))) else (selvedgelaw18_PostLetters.j0 k t247 bt248.1 false a0_7 a0_8 a0_9 a0_10))) else (if bt250.2 = 0 then ((post_Kind.f bt250.1).bind fun t264 => (if t264 = 99 then (if bt252.2 = 0 then ((post_Kind.f bt252.1).bind fun t265 => (if t265 = 121 then (if bt254.2 = 0 then ((post_Kind.f bt254.1).bind fun t266 => (selvedgelaw18_PostLetters.j0 k t247 bt248.1 (t266 == 118) a0_7 a0_8 a0_9 a0_10)) else (selvedgelaw18_PostLetters.j0 k t247 bt248.1 true a0_7 a0_8 a0_9 a0_10)) else (selvedgelaw18_PostLetters.j0 k t247 bt248.1 false a0_7 a0_8 a0_9 a0_10))) else (if bt254.2 = 0 then ((post_Kind.f bt254.1).bind fun t267 => (selvedgelaw18_PostLetters.j0 k t247 bt248.1 (t267 == 118) a0_7 a0_8 a0_9 a0_10)) else (selvedgelaw18_PostLetters.j0 k t247 bt248.1 true a0_7 a0_8 a0_9 a0_10))) else (selvedgelaw18_PostLetters.j0 k t247 bt248.1 false a0_7 a0_8 a0_9 a0_10))) else (if bt252.2 = 0 then ((post_Kind.f bt252.1).bind fun t268 => (if t268 = 121 then (if bt254.2 = 0 then ((post_Kind.f bt254.1).bind fun t269 => (selvedgelaw18_PostLetters.j0 k t247 bt248.1 (t269 == 118) a0_7 a0_8 a0_9 a0_10)) else (selvedgelaw18_PostLetters.j0 k t247 bt248.1 true a0_7 a0_8 a0_9 a0_10)) else (selvedgelaw18_PostLetters.j0 k t247 bt248.1 false a0_7 a0_8 a0_9 a0_10))) else (if bt254.2 = 0 then ((post_Kind.f bt254.1).bind fun t270 => (selvedgelaw18_PostLetters.j0 k t247 bt248.1 (t270 == 118) a0_7 a0_8 a0_9 a0_10)) else (selvedgelaw18_PostLetters.j0 k t247 bt248.1 true a0_7 a0_8 a0_9 a0_10)))))))))
set_option maxHeartbeats 8000000 in
set_option maxRecDepth 100000 in
theorem selvedgelaw18_PostLetters.calls (k : Nat) (a0_0 : Int) (a0_1 : Int) (A0_2 : Option Addr) (c0_2 : Nat) (l0_2 : List (S61)) (A0_3 : Option Addr) (c0_3 : Nat) (l0_3 : List ByteArray) (a0_4 : Int) (a0_5 : Int) (a0_6 : Int) (a0_7 : Int) (a0_8 : Int) (a0_9 : Int) (a0_10 : ByteArray) (a0_11 : Int) (r : Bool) (w : World) (hr0_2 : Kd.C k61 w A0_2 l0_2.length l0_2) (hc0_2 : l0_2.length ≤ c0_2) (hr0_3 : Kd.C Kd.string w A0_3 l0_3.length l0_3) (hc0_3 : l0_3.length ≤ c0_3) (h : selvedgelaw18_PostLetters.f k a0_0 a0_1 l0_2 l0_3 a0_4 a0_5 a0_6 a0_7 a0_8 a0_9 a0_10 a0_11 = some r) :
    Calls Try.prog 4 #[.agg #[.int .i64 a0_0, .int .i64 a0_1, .slice A0_2 l0_2.length c0_2, .slice A0_3 l0_3.length c0_3, .int .i64 a0_4, .int .i64 a0_5, .int .u64 a0_6, .int .i64 a0_7, .int .i64 a0_8, .int .i64 a0_9, .string a0_10, .int .i64 a0_11]] w fun e w' => e = .returned (.bool r) ∧ Below w.heap.size w w' := by
  have hu52 := Try.underlying52
  have hu27 := Try.underlying27
  have hu30 := Try.underlying30
  have hu41 := Try.underlying41
  have hu47 := Try.underlying47
  have HR0_2 := Aside0.mk hr0_2
  have HC0_2 := Aside0.mk hc0_2
  clear hr0_2 hc0_2
  have HR0_3 := Aside0.mk hr0_3
  have HC0_3 := Aside0.mk hc0_3
  clear hr0_3 hc0_3
  have HB := Aside0.mk (Below.refl w.heap.size w)
  have H : ((selvedgelaw18_shown.f k).bind fun t247 => ((post_Header.f a0_0 a0_1 l0_2 l0_3 a0_4 a0_5 a0_11).bind fun bt248 => ((post_Proof.f a0_0 a0_1 l0_2 l0_3 a0_4 a0_5 a0_6 a0_11).bind fun bt250 => ((post_Say.f k a0_7 a0_8 a0_9 a0_10).bind fun bt252 => ((post_Ballot.f a0_7 a0_8 a0_10).bind fun bt254 => (if bt248.2 = 0 then ((post_Kind.f bt248.1).bind fun t256 => (if t256 = 104 then (if bt250.2 = 0 then ((post_Kind.f bt250.1).bind fun t257 => (if t257 = 99 then (if bt252.2 = 0 then ((post_Kind.f bt252.1).bind fun t258 => (if t258 = 121 then (if bt254.2 = 0 then ((post_Kind.f bt254.1).bind fun t259 => (selvedgelaw18_PostLetters.j0 k t247 bt248.1 (t259 == 118) a0_7 a0_8 a0_9 a0_10)) else (selvedgelaw18_PostLetters.j0 k t247 bt248.1 true a0_7 a0_8 a0_9 a0_10)) else (selvedgelaw18_PostLetters.j0 k t247 bt248.1 false a0_7 a0_8 a0_9 a0_10))) else (if bt254.2 = 0 then ((post_Kind.f bt254.1).bind fun t260 => (selvedgelaw18_PostLetters.j0 k t247 bt248.1 (t260 == 118) a0_7 a0_8 a0_9 a0_10)) else (selvedgelaw18_PostLetters.j0 k t247 bt248.1 true a0_7 a0_8 a0_9 a0_10))) else (selvedgelaw18_PostLetters.j0 k t247 bt248.1 false a0_7 a0_8 a0_9 a0_10))) else (if bt252.2 = 0 then ((post_Kind.f bt252.1).bind fun t261 => (if t261 = 121 then (if bt254.2 = 0 then ((post_Kind.f bt254.1).bind fun t262 => (selvedgelaw18_PostLetters.j0 k t247 bt248.1 (t262 == 118) a0_7 a0_8 a0_9 a0_10)) else (selvedgelaw18_PostLetters.j0 k t247 bt248.1 true a0_7 a0_8 a0_9 a0_10)) else (selvedgelaw18_PostLetters.j0 k t247 bt248.1 false a0_7 a0_8 a0_9 a0_10))) else (if bt254.2 = 0 then ((post_Kind.f bt254.1).bind fun t263 => (selvedgelaw18_PostLetters.j0 k t247 bt248.1 (t263 == 118) a0_7 a0_8 a0_9 a0_10)) else (selvedgelaw18_PostLetters.j0 k t247 bt248.1 true a0_7 a0_8 a0_9 a0_10)))) else (selvedgelaw18_PostLetters.j0 k t247 bt248.1 false a0_7 a0_8 a0_9 a0_10))) else (if bt250.2 = 0 then ((post_Kind.f bt250.1).bind fun t264 => (if t264 = 99 then (if bt252.2 = 0 then ((post_Kind.f bt252.1).bind fun t265 => (if t265 = 121 then (if bt254.2 = 0 then ((post_Kind.f bt254.1).bind fun t266 => (selvedgelaw18_PostLetters.j0 k t247 bt248.1 (t266 == 118) a0_7 a0_8 a0_9 a0_10)) else (selvedgelaw18_PostLetters.j0 k t247 bt248.1 true a0_7 a0_8 a0_9 a0_10)) else (selvedgelaw18_PostLetters.j0 k t247 bt248.1 false a0_7 a0_8 a0_9 a0_10))) else (if bt254.2 = 0 then ((post_Kind.f bt254.1).bind fun t267 => (selvedgelaw18_PostLetters.j0 k t247 bt248.1 (t267 == 118) a0_7 a0_8 a0_9 a0_10)) else (selvedgelaw18_PostLetters.j0 k t247 bt248.1 true a0_7 a0_8 a0_9 a0_10))) else (selvedgelaw18_PostLetters.j0 k t247 bt248.1 false a0_7 a0_8 a0_9 a0_10))) else (if bt252.2 = 0 then ((post_Kind.f bt252.1).bind fun t268 => (if t268 = 121 then (if bt254.2 = 0 then ((post_Kind.f bt254.1).bind fun t269 => (selvedgelaw18_PostLetters.j0 k t247 bt248.1 (t269 == 118) a0_7 a0_8 a0_9 a0_10)) else (selvedgelaw18_PostLetters.j0 k t247 bt248.1 true a0_7 a0_8 a0_9 a0_10)) else (selvedgelaw18_PostLetters.j0 k t247 bt248.1 false a0_7 a0_8 a0_9 a0_10))) else (if bt254.2 = 0 then ((post_Kind.f bt254.1).bind fun t270 => (selvedgelaw18_PostLetters.j0 k t247 bt248.1 (t270 == 118) a0_7 a0_8 a0_9 a0_10)) else (selvedgelaw18_PostLetters.j0 k t247 bt248.1 true a0_7 a0_8 a0_9 a0_10)))))))))) = some r := h
  clear h
  replace H := Option.bind_eq_some_iff.mp H
  obtain ⟨t247, A20, H⟩ := H
  replace H : ((post_Header.f a0_0 a0_1 l0_2 l0_3 a0_4 a0_5 a0_11).bind fun bt248 => ((post_Proof.f a0_0 a0_1 l0_2 l0_3 a0_4 a0_5 a0_6 a0_11).bind fun bt250 => ((post_Say.f k a0_7 a0_8 a0_9 a0_10).bind fun bt252 => ((post_Ballot.f a0_7 a0_8 a0_10).bind fun bt254 => (if bt248.2 = 0 then ((post_Kind.f bt248.1).bind fun t256 => (if t256 = 104 then (if bt250.2 = 0 then ((post_Kind.f bt250.1).bind fun t257 => (if t257 = 99 then (if bt252.2 = 0 then ((post_Kind.f bt252.1).bind fun t258 => (if t258 = 121 then (if bt254.2 = 0 then ((post_Kind.f bt254.1).bind fun t259 => (selvedgelaw18_PostLetters.j0 k t247 bt248.1 (t259 == 118) a0_7 a0_8 a0_9 a0_10)) else (selvedgelaw18_PostLetters.j0 k t247 bt248.1 true a0_7 a0_8 a0_9 a0_10)) else (selvedgelaw18_PostLetters.j0 k t247 bt248.1 false a0_7 a0_8 a0_9 a0_10))) else (if bt254.2 = 0 then ((post_Kind.f bt254.1).bind fun t260 => (selvedgelaw18_PostLetters.j0 k t247 bt248.1 (t260 == 118) a0_7 a0_8 a0_9 a0_10)) else (selvedgelaw18_PostLetters.j0 k t247 bt248.1 true a0_7 a0_8 a0_9 a0_10))) else (selvedgelaw18_PostLetters.j0 k t247 bt248.1 false a0_7 a0_8 a0_9 a0_10))) else (if bt252.2 = 0 then ((post_Kind.f bt252.1).bind fun t261 => (if t261 = 121 then (if bt254.2 = 0 then ((post_Kind.f bt254.1).bind fun t262 => (selvedgelaw18_PostLetters.j0 k t247 bt248.1 (t262 == 118) a0_7 a0_8 a0_9 a0_10)) else (selvedgelaw18_PostLetters.j0 k t247 bt248.1 true a0_7 a0_8 a0_9 a0_10)) else (selvedgelaw18_PostLetters.j0 k t247 bt248.1 false a0_7 a0_8 a0_9 a0_10))) else (if bt254.2 = 0 then ((post_Kind.f bt254.1).bind fun t263 => (selvedgelaw18_PostLetters.j0 k t247 bt248.1 (t263 == 118) a0_7 a0_8 a0_9 a0_10)) else (selvedgelaw18_PostLetters.j0 k t247 bt248.1 true a0_7 a0_8 a0_9 a0_10)))) else (selvedgelaw18_PostLetters.j0 k t247 bt248.1 false a0_7 a0_8 a0_9 a0_10))) else (if bt250.2 = 0 then ((post_Kind.f bt250.1).bind fun t264 => (if t264 = 99 then (if bt252.2 = 0 then ((post_Kind.f bt252.1).bind fun t265 => (if t265 = 121 then (if bt254.2 = 0 then ((post_Kind.f bt254.1).bind fun t266 => (selvedgelaw18_PostLetters.j0 k t247 bt248.1 (t266 == 118) a0_7 a0_8 a0_9 a0_10)) else (selvedgelaw18_PostLetters.j0 k t247 bt248.1 true a0_7 a0_8 a0_9 a0_10)) else (selvedgelaw18_PostLetters.j0 k t247 bt248.1 false a0_7 a0_8 a0_9 a0_10))) else (if bt254.2 = 0 then ((post_Kind.f bt254.1).bind fun t267 => (selvedgelaw18_PostLetters.j0 k t247 bt248.1 (t267 == 118) a0_7 a0_8 a0_9 a0_10)) else (selvedgelaw18_PostLetters.j0 k t247 bt248.1 true a0_7 a0_8 a0_9 a0_10))) else (selvedgelaw18_PostLetters.j0 k t247 bt248.1 false a0_7 a0_8 a0_9 a0_10))) else (if bt252.2 = 0 then ((post_Kind.f bt252.1).bind fun t268 => (if t268 = 121 then (if bt254.2 = 0 then ((post_Kind.f bt254.1).bind fun t269 => (selvedgelaw18_PostLetters.j0 k t247 bt248.1 (t269 == 118) a0_7 a0_8 a0_9 a0_10)) else (selvedgelaw18_PostLetters.j0 k t247 bt248.1 true a0_7 a0_8 a0_9 a0_10)) else (selvedgelaw18_PostLetters.j0 k t247 bt248.1 false a0_7 a0_8 a0_9 a0_10))) else (if bt254.2 = 0 then ((post_Kind.f bt254.1).bind fun t270 => (selvedgelaw18_PostLetters.j0 k t247 bt248.1 (t270 == 118) a0_7 a0_8 a0_9 a0_10)) else (selvedgelaw18_PostLetters.j0 k t247 bt248.1 true a0_7 a0_8 a0_9 a0_10))))))))) = some r := H
  have A2 := Aside0.mk A20
  clear A20
  replace H := Option.bind_eq_some_iff.mp H
  obtain ⟨⟨t248, t249⟩, A30, H⟩ := H
  replace H : ((post_Proof.f a0_0 a0_1 l0_2 l0_3 a0_4 a0_5 a0_6 a0_11).bind fun bt250 => ((post_Say.f k a0_7 a0_8 a0_9 a0_10).bind fun bt252 => ((post_Ballot.f a0_7 a0_8 a0_10).bind fun bt254 => (if t249 = 0 then ((post_Kind.f t248).bind fun t256 => (if t256 = 104 then (if bt250.2 = 0 then ((post_Kind.f bt250.1).bind fun t257 => (if t257 = 99 then (if bt252.2 = 0 then ((post_Kind.f bt252.1).bind fun t258 => (if t258 = 121 then (if bt254.2 = 0 then ((post_Kind.f bt254.1).bind fun t259 => (selvedgelaw18_PostLetters.j0 k t247 t248 (t259 == 118) a0_7 a0_8 a0_9 a0_10)) else (selvedgelaw18_PostLetters.j0 k t247 t248 true a0_7 a0_8 a0_9 a0_10)) else (selvedgelaw18_PostLetters.j0 k t247 t248 false a0_7 a0_8 a0_9 a0_10))) else (if bt254.2 = 0 then ((post_Kind.f bt254.1).bind fun t260 => (selvedgelaw18_PostLetters.j0 k t247 t248 (t260 == 118) a0_7 a0_8 a0_9 a0_10)) else (selvedgelaw18_PostLetters.j0 k t247 t248 true a0_7 a0_8 a0_9 a0_10))) else (selvedgelaw18_PostLetters.j0 k t247 t248 false a0_7 a0_8 a0_9 a0_10))) else (if bt252.2 = 0 then ((post_Kind.f bt252.1).bind fun t261 => (if t261 = 121 then (if bt254.2 = 0 then ((post_Kind.f bt254.1).bind fun t262 => (selvedgelaw18_PostLetters.j0 k t247 t248 (t262 == 118) a0_7 a0_8 a0_9 a0_10)) else (selvedgelaw18_PostLetters.j0 k t247 t248 true a0_7 a0_8 a0_9 a0_10)) else (selvedgelaw18_PostLetters.j0 k t247 t248 false a0_7 a0_8 a0_9 a0_10))) else (if bt254.2 = 0 then ((post_Kind.f bt254.1).bind fun t263 => (selvedgelaw18_PostLetters.j0 k t247 t248 (t263 == 118) a0_7 a0_8 a0_9 a0_10)) else (selvedgelaw18_PostLetters.j0 k t247 t248 true a0_7 a0_8 a0_9 a0_10)))) else (selvedgelaw18_PostLetters.j0 k t247 t248 false a0_7 a0_8 a0_9 a0_10))) else (if bt250.2 = 0 then ((post_Kind.f bt250.1).bind fun t264 => (if t264 = 99 then (if bt252.2 = 0 then ((post_Kind.f bt252.1).bind fun t265 => (if t265 = 121 then (if bt254.2 = 0 then ((post_Kind.f bt254.1).bind fun t266 => (selvedgelaw18_PostLetters.j0 k t247 t248 (t266 == 118) a0_7 a0_8 a0_9 a0_10)) else (selvedgelaw18_PostLetters.j0 k t247 t248 true a0_7 a0_8 a0_9 a0_10)) else (selvedgelaw18_PostLetters.j0 k t247 t248 false a0_7 a0_8 a0_9 a0_10))) else (if bt254.2 = 0 then ((post_Kind.f bt254.1).bind fun t267 => (selvedgelaw18_PostLetters.j0 k t247 t248 (t267 == 118) a0_7 a0_8 a0_9 a0_10)) else (selvedgelaw18_PostLetters.j0 k t247 t248 true a0_7 a0_8 a0_9 a0_10))) else (selvedgelaw18_PostLetters.j0 k t247 t248 false a0_7 a0_8 a0_9 a0_10))) else (if bt252.2 = 0 then ((post_Kind.f bt252.1).bind fun t268 => (if t268 = 121 then (if bt254.2 = 0 then ((post_Kind.f bt254.1).bind fun t269 => (selvedgelaw18_PostLetters.j0 k t247 t248 (t269 == 118) a0_7 a0_8 a0_9 a0_10)) else (selvedgelaw18_PostLetters.j0 k t247 t248 true a0_7 a0_8 a0_9 a0_10)) else (selvedgelaw18_PostLetters.j0 k t247 t248 false a0_7 a0_8 a0_9 a0_10))) else (if bt254.2 = 0 then ((post_Kind.f bt254.1).bind fun t270 => (selvedgelaw18_PostLetters.j0 k t247 t248 (t270 == 118) a0_7 a0_8 a0_9 a0_10)) else (selvedgelaw18_PostLetters.j0 k t247 t248 true a0_7 a0_8 a0_9 a0_10)))))))) = some r := H
  have A3 := Aside0.mk A30
  clear A30
  replace H := Option.bind_eq_some_iff.mp H
  obtain ⟨⟨t250, t251⟩, A40, H⟩ := H
  replace H : ((post_Say.f k a0_7 a0_8 a0_9 a0_10).bind fun bt252 => ((post_Ballot.f a0_7 a0_8 a0_10).bind fun bt254 => (if t249 = 0 then ((post_Kind.f t248).bind fun t256 => (if t256 = 104 then (if t251 = 0 then ((post_Kind.f t250).bind fun t257 => (if t257 = 99 then (if bt252.2 = 0 then ((post_Kind.f bt252.1).bind fun t258 => (if t258 = 121 then (if bt254.2 = 0 then ((post_Kind.f bt254.1).bind fun t259 => (selvedgelaw18_PostLetters.j0 k t247 t248 (t259 == 118) a0_7 a0_8 a0_9 a0_10)) else (selvedgelaw18_PostLetters.j0 k t247 t248 true a0_7 a0_8 a0_9 a0_10)) else (selvedgelaw18_PostLetters.j0 k t247 t248 false a0_7 a0_8 a0_9 a0_10))) else (if bt254.2 = 0 then ((post_Kind.f bt254.1).bind fun t260 => (selvedgelaw18_PostLetters.j0 k t247 t248 (t260 == 118) a0_7 a0_8 a0_9 a0_10)) else (selvedgelaw18_PostLetters.j0 k t247 t248 true a0_7 a0_8 a0_9 a0_10))) else (selvedgelaw18_PostLetters.j0 k t247 t248 false a0_7 a0_8 a0_9 a0_10))) else (if bt252.2 = 0 then ((post_Kind.f bt252.1).bind fun t261 => (if t261 = 121 then (if bt254.2 = 0 then ((post_Kind.f bt254.1).bind fun t262 => (selvedgelaw18_PostLetters.j0 k t247 t248 (t262 == 118) a0_7 a0_8 a0_9 a0_10)) else (selvedgelaw18_PostLetters.j0 k t247 t248 true a0_7 a0_8 a0_9 a0_10)) else (selvedgelaw18_PostLetters.j0 k t247 t248 false a0_7 a0_8 a0_9 a0_10))) else (if bt254.2 = 0 then ((post_Kind.f bt254.1).bind fun t263 => (selvedgelaw18_PostLetters.j0 k t247 t248 (t263 == 118) a0_7 a0_8 a0_9 a0_10)) else (selvedgelaw18_PostLetters.j0 k t247 t248 true a0_7 a0_8 a0_9 a0_10)))) else (selvedgelaw18_PostLetters.j0 k t247 t248 false a0_7 a0_8 a0_9 a0_10))) else (if t251 = 0 then ((post_Kind.f t250).bind fun t264 => (if t264 = 99 then (if bt252.2 = 0 then ((post_Kind.f bt252.1).bind fun t265 => (if t265 = 121 then (if bt254.2 = 0 then ((post_Kind.f bt254.1).bind fun t266 => (selvedgelaw18_PostLetters.j0 k t247 t248 (t266 == 118) a0_7 a0_8 a0_9 a0_10)) else (selvedgelaw18_PostLetters.j0 k t247 t248 true a0_7 a0_8 a0_9 a0_10)) else (selvedgelaw18_PostLetters.j0 k t247 t248 false a0_7 a0_8 a0_9 a0_10))) else (if bt254.2 = 0 then ((post_Kind.f bt254.1).bind fun t267 => (selvedgelaw18_PostLetters.j0 k t247 t248 (t267 == 118) a0_7 a0_8 a0_9 a0_10)) else (selvedgelaw18_PostLetters.j0 k t247 t248 true a0_7 a0_8 a0_9 a0_10))) else (selvedgelaw18_PostLetters.j0 k t247 t248 false a0_7 a0_8 a0_9 a0_10))) else (if bt252.2 = 0 then ((post_Kind.f bt252.1).bind fun t268 => (if t268 = 121 then (if bt254.2 = 0 then ((post_Kind.f bt254.1).bind fun t269 => (selvedgelaw18_PostLetters.j0 k t247 t248 (t269 == 118) a0_7 a0_8 a0_9 a0_10)) else (selvedgelaw18_PostLetters.j0 k t247 t248 true a0_7 a0_8 a0_9 a0_10)) else (selvedgelaw18_PostLetters.j0 k t247 t248 false a0_7 a0_8 a0_9 a0_10))) else (if bt254.2 = 0 then ((post_Kind.f bt254.1).bind fun t270 => (selvedgelaw18_PostLetters.j0 k t247 t248 (t270 == 118) a0_7 a0_8 a0_9 a0_10)) else (selvedgelaw18_PostLetters.j0 k t247 t248 true a0_7 a0_8 a0_9 a0_10))))))) = some r := H
  have A4 := Aside0.mk A40
  clear A40
  replace H := Option.bind_eq_some_iff.mp H
  obtain ⟨⟨t252, t253⟩, A50, H⟩ := H
  replace H : ((post_Ballot.f a0_7 a0_8 a0_10).bind fun bt254 => (if t249 = 0 then ((post_Kind.f t248).bind fun t256 => (if t256 = 104 then (if t251 = 0 then ((post_Kind.f t250).bind fun t257 => (if t257 = 99 then (if t253 = 0 then ((post_Kind.f t252).bind fun t258 => (if t258 = 121 then (if bt254.2 = 0 then ((post_Kind.f bt254.1).bind fun t259 => (selvedgelaw18_PostLetters.j0 k t247 t248 (t259 == 118) a0_7 a0_8 a0_9 a0_10)) else (selvedgelaw18_PostLetters.j0 k t247 t248 true a0_7 a0_8 a0_9 a0_10)) else (selvedgelaw18_PostLetters.j0 k t247 t248 false a0_7 a0_8 a0_9 a0_10))) else (if bt254.2 = 0 then ((post_Kind.f bt254.1).bind fun t260 => (selvedgelaw18_PostLetters.j0 k t247 t248 (t260 == 118) a0_7 a0_8 a0_9 a0_10)) else (selvedgelaw18_PostLetters.j0 k t247 t248 true a0_7 a0_8 a0_9 a0_10))) else (selvedgelaw18_PostLetters.j0 k t247 t248 false a0_7 a0_8 a0_9 a0_10))) else (if t253 = 0 then ((post_Kind.f t252).bind fun t261 => (if t261 = 121 then (if bt254.2 = 0 then ((post_Kind.f bt254.1).bind fun t262 => (selvedgelaw18_PostLetters.j0 k t247 t248 (t262 == 118) a0_7 a0_8 a0_9 a0_10)) else (selvedgelaw18_PostLetters.j0 k t247 t248 true a0_7 a0_8 a0_9 a0_10)) else (selvedgelaw18_PostLetters.j0 k t247 t248 false a0_7 a0_8 a0_9 a0_10))) else (if bt254.2 = 0 then ((post_Kind.f bt254.1).bind fun t263 => (selvedgelaw18_PostLetters.j0 k t247 t248 (t263 == 118) a0_7 a0_8 a0_9 a0_10)) else (selvedgelaw18_PostLetters.j0 k t247 t248 true a0_7 a0_8 a0_9 a0_10)))) else (selvedgelaw18_PostLetters.j0 k t247 t248 false a0_7 a0_8 a0_9 a0_10))) else (if t251 = 0 then ((post_Kind.f t250).bind fun t264 => (if t264 = 99 then (if t253 = 0 then ((post_Kind.f t252).bind fun t265 => (if t265 = 121 then (if bt254.2 = 0 then ((post_Kind.f bt254.1).bind fun t266 => (selvedgelaw18_PostLetters.j0 k t247 t248 (t266 == 118) a0_7 a0_8 a0_9 a0_10)) else (selvedgelaw18_PostLetters.j0 k t247 t248 true a0_7 a0_8 a0_9 a0_10)) else (selvedgelaw18_PostLetters.j0 k t247 t248 false a0_7 a0_8 a0_9 a0_10))) else (if bt254.2 = 0 then ((post_Kind.f bt254.1).bind fun t267 => (selvedgelaw18_PostLetters.j0 k t247 t248 (t267 == 118) a0_7 a0_8 a0_9 a0_10)) else (selvedgelaw18_PostLetters.j0 k t247 t248 true a0_7 a0_8 a0_9 a0_10))) else (selvedgelaw18_PostLetters.j0 k t247 t248 false a0_7 a0_8 a0_9 a0_10))) else (if t253 = 0 then ((post_Kind.f t252).bind fun t268 => (if t268 = 121 then (if bt254.2 = 0 then ((post_Kind.f bt254.1).bind fun t269 => (selvedgelaw18_PostLetters.j0 k t247 t248 (t269 == 118) a0_7 a0_8 a0_9 a0_10)) else (selvedgelaw18_PostLetters.j0 k t247 t248 true a0_7 a0_8 a0_9 a0_10)) else (selvedgelaw18_PostLetters.j0 k t247 t248 false a0_7 a0_8 a0_9 a0_10))) else (if bt254.2 = 0 then ((post_Kind.f bt254.1).bind fun t270 => (selvedgelaw18_PostLetters.j0 k t247 t248 (t270 == 118) a0_7 a0_8 a0_9 a0_10)) else (selvedgelaw18_PostLetters.j0 k t247 t248 true a0_7 a0_8 a0_9 a0_10)))))) = some r := H
  have A5 := Aside0.mk A50
  clear A50
  replace H := Option.bind_eq_some_iff.mp H
  obtain ⟨⟨t254, t255⟩, A60, H⟩ := H
  replace H : (if t249 = 0 then ((post_Kind.f t248).bind fun t256 => (if t256 = 104 then (if t251 = 0 then ((post_Kind.f t250).bind fun t257 => (if t257 = 99 then (if t253 = 0 then ((post_Kind.f t252).bind fun t258 => (if t258 = 121 then (if t255 = 0 then ((post_Kind.f t254).bind fun t259 => (selvedgelaw18_PostLetters.j0 k t247 t248 (t259 == 118) a0_7 a0_8 a0_9 a0_10)) else (selvedgelaw18_PostLetters.j0 k t247 t248 true a0_7 a0_8 a0_9 a0_10)) else (selvedgelaw18_PostLetters.j0 k t247 t248 false a0_7 a0_8 a0_9 a0_10))) else (if t255 = 0 then ((post_Kind.f t254).bind fun t260 => (selvedgelaw18_PostLetters.j0 k t247 t248 (t260 == 118) a0_7 a0_8 a0_9 a0_10)) else (selvedgelaw18_PostLetters.j0 k t247 t248 true a0_7 a0_8 a0_9 a0_10))) else (selvedgelaw18_PostLetters.j0 k t247 t248 false a0_7 a0_8 a0_9 a0_10))) else (if t253 = 0 then ((post_Kind.f t252).bind fun t261 => (if t261 = 121 then (if t255 = 0 then ((post_Kind.f t254).bind fun t262 => (selvedgelaw18_PostLetters.j0 k t247 t248 (t262 == 118) a0_7 a0_8 a0_9 a0_10)) else (selvedgelaw18_PostLetters.j0 k t247 t248 true a0_7 a0_8 a0_9 a0_10)) else (selvedgelaw18_PostLetters.j0 k t247 t248 false a0_7 a0_8 a0_9 a0_10))) else (if t255 = 0 then ((post_Kind.f t254).bind fun t263 => (selvedgelaw18_PostLetters.j0 k t247 t248 (t263 == 118) a0_7 a0_8 a0_9 a0_10)) else (selvedgelaw18_PostLetters.j0 k t247 t248 true a0_7 a0_8 a0_9 a0_10)))) else (selvedgelaw18_PostLetters.j0 k t247 t248 false a0_7 a0_8 a0_9 a0_10))) else (if t251 = 0 then ((post_Kind.f t250).bind fun t264 => (if t264 = 99 then (if t253 = 0 then ((post_Kind.f t252).bind fun t265 => (if t265 = 121 then (if t255 = 0 then ((post_Kind.f t254).bind fun t266 => (selvedgelaw18_PostLetters.j0 k t247 t248 (t266 == 118) a0_7 a0_8 a0_9 a0_10)) else (selvedgelaw18_PostLetters.j0 k t247 t248 true a0_7 a0_8 a0_9 a0_10)) else (selvedgelaw18_PostLetters.j0 k t247 t248 false a0_7 a0_8 a0_9 a0_10))) else (if t255 = 0 then ((post_Kind.f t254).bind fun t267 => (selvedgelaw18_PostLetters.j0 k t247 t248 (t267 == 118) a0_7 a0_8 a0_9 a0_10)) else (selvedgelaw18_PostLetters.j0 k t247 t248 true a0_7 a0_8 a0_9 a0_10))) else (selvedgelaw18_PostLetters.j0 k t247 t248 false a0_7 a0_8 a0_9 a0_10))) else (if t253 = 0 then ((post_Kind.f t252).bind fun t268 => (if t268 = 121 then (if t255 = 0 then ((post_Kind.f t254).bind fun t269 => (selvedgelaw18_PostLetters.j0 k t247 t248 (t269 == 118) a0_7 a0_8 a0_9 a0_10)) else (selvedgelaw18_PostLetters.j0 k t247 t248 true a0_7 a0_8 a0_9 a0_10)) else (selvedgelaw18_PostLetters.j0 k t247 t248 false a0_7 a0_8 a0_9 a0_10))) else (if t255 = 0 then ((post_Kind.f t254).bind fun t270 => (selvedgelaw18_PostLetters.j0 k t247 t248 (t270 == 118) a0_7 a0_8 a0_9 a0_10)) else (selvedgelaw18_PostLetters.j0 k t247 t248 true a0_7 a0_8 a0_9 a0_10))))) = some r := H
  have A6 := Aside0.mk A60
  clear A60
  have HC7 := Aside0.mk H
  clear H
  go_enter Try.func4, Try.ntmps4
  go_upto_region 10 with (first | ((with_reducible refine gate_dst (N := 1) rfl ?_); refine box_event ?hg (N := 1) ?hd (cs := #[.int .i64 a0_0, .int .i64 a0_1, .slice A0_2 l0_2.length c0_2, .slice A0_3 l0_3.length c0_3, .int .i64 a0_4, .int .i64 a0_5, .int .u64 a0_6, .int .i64 a0_7, .int .i64 a0_8, .int .i64 a0_9, .string a0_10, .int .i64 a0_11]) (t := 52) ?hr ?_; (case hd => rfl); (case hg => rfl); (case hr => first | (go_simp; done) | (go_simp; rfl)); intro gb244 hg w8 hbox hb; have n0_ := Aside0.mk (below_step (by repeat (first | (with_reducible first | exact HB.out | apply below_alloc | apply pw_below_drewN | apply below_drew1) | exact HB.out)) hb); have n1_ := Aside0.mk (hbox); have n2_ := Aside0.mk ((by rw [hg]; exact (below_size (by repeat (first | (with_reducible first | exact HB.out | apply below_alloc | apply pw_below_drewN | apply below_drew1) | exact HB.out))) : w.heap.size ≤ gb244)); have n3_ := Aside0.mk ((by rw [hg]; exact (below_size (by repeat (first | (with_reducible first | exact HB.out | apply below_alloc | apply pw_below_drewN | apply below_drew1) | exact HB.out))) : w.heap.size ≤ gb244)); clear HB; have HB := n0_; have BK244 := n1_; have GW244 := n2_; have GE244 := n3_; clear n0_ n1_ n2_ n3_; clear hb hbox hg; have hcz9_0 : w8.cell? ⟨gb244, 0, none⟩ = some (.int .i64 a0_0) := (blk_cell BK244.out 0).trans rfl; have hcz9_1 : w8.cell? ⟨gb244, 1, none⟩ = some (.int .i64 a0_1) := (blk_cell BK244.out 1).trans rfl; have hcz9_2 : w8.cell? ⟨gb244, 2, none⟩ = some (.slice A0_2 l0_2.length c0_2) := (blk_cell BK244.out 2).trans rfl; have hcz9_3 : w8.cell? ⟨gb244, 3, none⟩ = some (.slice A0_3 l0_3.length c0_3) := (blk_cell BK244.out 3).trans rfl; have hcz9_4 : w8.cell? ⟨gb244, 4, none⟩ = some (.int .i64 a0_4) := (blk_cell BK244.out 4).trans rfl; have hcz9_5 : w8.cell? ⟨gb244, 5, none⟩ = some (.int .i64 a0_5) := (blk_cell BK244.out 5).trans rfl; have hcz9_6 : w8.cell? ⟨gb244, 6, none⟩ = some (.int .u64 a0_6) := (blk_cell BK244.out 6).trans rfl; have hcz9_7 : w8.cell? ⟨gb244, 7, none⟩ = some (.int .i64 a0_7) := (blk_cell BK244.out 7).trans rfl; have hcz9_8 : w8.cell? ⟨gb244, 8, none⟩ = some (.int .i64 a0_8) := (blk_cell BK244.out 8).trans rfl; have hcz9_9 : w8.cell? ⟨gb244, 9, none⟩ = some (.int .i64 a0_9) := (blk_cell BK244.out 9).trans rfl; have hcz9_10 : w8.cell? ⟨gb244, 10, none⟩ = some (.string a0_10) := (blk_cell BK244.out 10).trans rfl; have hcz9_11 : w8.cell? ⟨gb244, 11, none⟩ = some (.int .i64 a0_11) := (blk_cell BK244.out 11).trans rfl; have hfz9_0 := blk_frozen BK244.out 0; have hfz9_1 := blk_frozen BK244.out 1; have hfz9_2 := blk_frozen BK244.out 2; have hfz9_3 := blk_frozen BK244.out 3; have hfz9_4 := blk_frozen BK244.out 4; have hfz9_5 := blk_frozen BK244.out 5; have hfz9_6 := blk_frozen BK244.out 6; have hfz9_7 := blk_frozen BK244.out 7; have hfz9_8 := blk_frozen BK244.out 8; have hfz9_9 := blk_frozen BK244.out 9; have hfz9_10 := blk_frozen BK244.out 10; have hfz9_11 := blk_frozen BK244.out 11) | ((with_reducible refine gate_dst (N := 3) rfl ?_); refine box_event ?hg (N := 3) ?hd (cs := #[.int .i64 0, .int .i64 0, .slice none 0 0, .slice none 0 0, .int .i64 0, .int .i64 0]) (t := 27) ?hr ?_; (case hd => rfl); (case hg => rfl); (case hr => first | (go_simp; done) | (go_simp; rfl)); intro gb245 hg w10 hbox hb; have n0_ := Aside0.mk (blk_below (g := gb244) (o := .cells #[.int .i64 a0_0, .int .i64 a0_1, .slice A0_2 l0_2.length c0_2, .slice A0_3 l0_3.length c0_3, .int .i64 a0_4, .int .i64 a0_5, .int .u64 a0_6, .int .i64 a0_7, .int .i64 a0_8, .int .i64 a0_9, .string a0_10, .int .i64 a0_11] 52 (0, 0)) (by (with_reducible repeat (first | refine blk_drewN ?_ _ | refine blk_drew ?_ | refine blk_alloc ?_ _)); exact BK244.out) hb); have n1_ := Aside0.mk (below_step (by repeat (first | (with_reducible first | exact HB.out | apply below_alloc | apply pw_below_drewN | apply below_drew1 | refine below_set ?_ GE244.out) | exact HB.out)) hb); have n2_ := Aside0.mk (hbox); have n3_ := Aside0.mk ((by rw [hg]; exact (below_size (by repeat (first | (with_reducible first | exact HB.out | apply below_alloc | apply pw_below_drewN | apply below_drew1 | refine below_set ?_ GE244.out) | exact HB.out))) : w.heap.size ≤ gb245)); have n4_ := Aside0.mk ((by rw [hg]; exact (below_size (by repeat (first | (with_reducible first | exact HB.out | apply below_alloc | apply pw_below_drewN | apply below_drew1 | refine below_set ?_ GE244.out) | exact HB.out))) : w.heap.size ≤ gb245)); have n5_ := Aside0.mk ((by rw [hg]; exact Nat.ne_of_lt (blk_lt (g := gb244) (o := .cells #[.int .i64 a0_0, .int .i64 a0_1, .slice A0_2 l0_2.length c0_2, .slice A0_3 l0_3.length c0_3, .int .i64 a0_4, .int .i64 a0_5, .int .u64 a0_6, .int .i64 a0_7, .int .i64 a0_8, .int .i64 a0_9, .string a0_10, .int .i64 a0_11] 52 (0, 0)) (by (with_reducible repeat (first | refine blk_drewN ?_ _ | refine blk_drew ?_ | refine blk_alloc ?_ _)); exact BK244.out)) : gb244 ≠ gb245)); have n6_ := Aside0.mk ((by rw [hg]; exact Nat.ne_of_gt (blk_lt (g := gb244) (o := .cells #[.int .i64 a0_0, .int .i64 a0_1, .slice A0_2 l0_2.length c0_2, .slice A0_3 l0_3.length c0_3, .int .i64 a0_4, .int .i64 a0_5, .int .u64 a0_6, .int .i64 a0_7, .int .i64 a0_8, .int .i64 a0_9, .string a0_10, .int .i64 a0_11] 52 (0, 0)) (by (with_reducible repeat (first | refine blk_drewN ?_ _ | refine blk_drew ?_ | refine blk_alloc ?_ _)); exact BK244.out)) : gb245 ≠ gb244)); clear BK244; clear HB; have BK244 := n0_; have HB := n1_; have BK245 := n2_; have GW245 := n3_; have GE245 := n4_; have NB244_245 := n5_; have NB245_244 := n6_; clear n0_ n1_ n2_ n3_ n4_ n5_ n6_; clear hb hbox hg; have hnb11 := NB245_244.out; have hnc11 := NB244_245.out; have hcz12_0 : w10.cell? ⟨gb245, 0, none⟩ = some (.int .i64 0) := (blk_cell BK245.out 0).trans rfl; have hcz12_1 : w10.cell? ⟨gb245, 1, none⟩ = some (.int .i64 0) := (blk_cell BK245.out 1).trans rfl; have hcz12_2 : w10.cell? ⟨gb245, 2, none⟩ = some (.slice none 0 0) := (blk_cell BK245.out 2).trans rfl; have hcz12_3 : w10.cell? ⟨gb245, 3, none⟩ = some (.slice none 0 0) := (blk_cell BK245.out 3).trans rfl; have hcz12_4 : w10.cell? ⟨gb245, 4, none⟩ = some (.int .i64 0) := (blk_cell BK245.out 4).trans rfl; have hcz12_5 : w10.cell? ⟨gb245, 5, none⟩ = some (.int .i64 0) := (blk_cell BK245.out 5).trans rfl; have hfz12_0 := blk_frozen BK245.out 0; have hfz12_1 := blk_frozen BK245.out 1; have hfz12_2 := blk_frozen BK245.out 2; have hfz12_3 := blk_frozen BK245.out 3; have hfz12_4 := blk_frozen BK245.out 4; have hfz12_5 := blk_frozen BK245.out 5; have hcz13_0 : w10.cell? ⟨gb244, 0, none⟩ = some (.int .i64 a0_0) := (blk_cell BK244.out 0).trans rfl; have hcz13_1 : w10.cell? ⟨gb244, 1, none⟩ = some (.int .i64 a0_1) := (blk_cell BK244.out 1).trans rfl; have hcz13_2 : w10.cell? ⟨gb244, 2, none⟩ = some (.slice A0_2 l0_2.length c0_2) := (blk_cell BK244.out 2).trans rfl; have hcz13_3 : w10.cell? ⟨gb244, 3, none⟩ = some (.slice A0_3 l0_3.length c0_3) := (blk_cell BK244.out 3).trans rfl; have hcz13_4 : w10.cell? ⟨gb244, 4, none⟩ = some (.int .i64 a0_4) := (blk_cell BK244.out 4).trans rfl; have hcz13_5 : w10.cell? ⟨gb244, 5, none⟩ = some (.int .i64 a0_5) := (blk_cell BK244.out 5).trans rfl; have hcz13_6 : w10.cell? ⟨gb244, 6, none⟩ = some (.int .u64 a0_6) := (blk_cell BK244.out 6).trans rfl; have hcz13_7 : w10.cell? ⟨gb244, 7, none⟩ = some (.int .i64 a0_7) := (blk_cell BK244.out 7).trans rfl; have hcz13_8 : w10.cell? ⟨gb244, 8, none⟩ = some (.int .i64 a0_8) := (blk_cell BK244.out 8).trans rfl; have hcz13_9 : w10.cell? ⟨gb244, 9, none⟩ = some (.int .i64 a0_9) := (blk_cell BK244.out 9).trans rfl; have hcz13_10 : w10.cell? ⟨gb244, 10, none⟩ = some (.string a0_10) := (blk_cell BK244.out 10).trans rfl; have hcz13_11 : w10.cell? ⟨gb244, 11, none⟩ = some (.int .i64 a0_11) := (blk_cell BK244.out 11).trans rfl; have hfz13_0 := blk_frozen BK244.out 0; have hfz13_1 := blk_frozen BK244.out 1; have hfz13_2 := blk_frozen BK244.out 2; have hfz13_3 := blk_frozen BK244.out 3; have hfz13_4 := blk_frozen BK244.out 4; have hfz13_5 := blk_frozen BK244.out 5; have hfz13_6 := blk_frozen BK244.out 6; have hfz13_7 := blk_frozen BK244.out 7; have hfz13_8 := blk_frozen BK244.out 8; have hfz13_9 := blk_frozen BK244.out 9; have hfz13_10 := blk_frozen BK244.out 10; have hfz13_11 := blk_frozen BK244.out 11) | ((with_reducible refine gate_dst (N := 5) rfl ?_); refine box_event ?hg (N := 5) ?hd (cs := #[.int .i64 0, .int .i64 0, .int .i64 0, .string (⟨#[]⟩ : ByteArray)]) (t := 30) ?hr ?_; (case hd => rfl); (case hg => rfl); (case hr => first | (go_simp; done) | (go_simp; rfl)); intro gb246 hg w14 hbox hb; have n0_ := Aside0.mk (blk_below (g := gb244) (o := .cells #[.int .i64 a0_0, .int .i64 a0_1, .slice A0_2 l0_2.length c0_2, .slice A0_3 l0_3.length c0_3, .int .i64 a0_4, .int .i64 a0_5, .int .u64 a0_6, .int .i64 a0_7, .int .i64 a0_8, .int .i64 a0_9, .string a0_10, .int .i64 a0_11] 52 (0, 0)) (by (with_reducible repeat (first | refine blk_drewN ?_ _ | refine blk_drew ?_ | refine blk_alloc ?_ _)); refine blk_far ?_ NB244_245.out _; (with_reducible repeat (first | refine blk_drewN ?_ _ | refine blk_drew ?_ | refine blk_alloc ?_ _)); refine blk_far ?_ NB244_245.out _; (with_reducible repeat (first | refine blk_drewN ?_ _ | refine blk_drew ?_ | refine blk_alloc ?_ _)); refine blk_far ?_ NB244_245.out _; (with_reducible repeat (first | refine blk_drewN ?_ _ | refine blk_drew ?_ | refine blk_alloc ?_ _)); refine blk_far ?_ NB244_245.out _; (with_reducible repeat (first | refine blk_drewN ?_ _ | refine blk_drew ?_ | refine blk_alloc ?_ _)); refine blk_far ?_ NB244_245.out _; (with_reducible repeat (first | refine blk_drewN ?_ _ | refine blk_drew ?_ | refine blk_alloc ?_ _)); refine blk_far ?_ NB244_245.out _; (with_reducible repeat (first | refine blk_drewN ?_ _ | refine blk_drew ?_ | refine blk_alloc ?_ _)); exact BK244.out) hb); have n1_ := Aside0.mk (blk_below (g := gb245) (o := .cells #[.int .i64 a0_0, .int .i64 a0_1, .slice A0_2 l0_2.length c0_2, .slice A0_3 l0_3.length c0_3, .int .i64 a0_4, .int .i64 a0_5] 27 (0, 0)) (by (with_reducible repeat (first | refine blk_drewN ?_ _ | refine blk_drew ?_ | refine blk_alloc ?_ _)); refine blk_put (cs := #[.int .i64 a0_0, .int .i64 a0_1, .slice A0_2 l0_2.length c0_2, .slice A0_3 l0_3.length c0_3, .int .i64 a0_4, .int .i64 0]) ?_ 5 _ rfl; (with_reducible repeat (first | refine blk_drewN ?_ _ | refine blk_drew ?_ | refine blk_alloc ?_ _)); refine blk_put (cs := #[.int .i64 a0_0, .int .i64 a0_1, .slice A0_2 l0_2.length c0_2, .slice A0_3 l0_3.length c0_3, .int .i64 0, .int .i64 0]) ?_ 4 _ rfl; (with_reducible repeat (first | refine blk_drewN ?_ _ | refine blk_drew ?_ | refine blk_alloc ?_ _)); refine blk_put (cs := #[.int .i64 a0_0, .int .i64 a0_1, .slice A0_2 l0_2.length c0_2, .slice none 0 0, .int .i64 0, .int .i64 0]) ?_ 3 _ rfl; (with_reducible repeat (first | refine blk_drewN ?_ _ | refine blk_drew ?_ | refine blk_alloc ?_ _)); refine blk_put (cs := #[.int .i64 a0_0, .int .i64 a0_1, .slice none 0 0, .slice none 0 0, .int .i64 0, .int .i64 0]) ?_ 2 _ rfl; (with_reducible repeat (first | refine blk_drewN ?_ _ | refine blk_drew ?_ | refine blk_alloc ?_ _)); refine blk_put (cs := #[.int .i64 a0_0, .int .i64 0, .slice none 0 0, .slice none 0 0, .int .i64 0, .int .i64 0]) ?_ 1 _ rfl; (with_reducible repeat (first | refine blk_drewN ?_ _ | refine blk_drew ?_ | refine blk_alloc ?_ _)); refine blk_put (cs := #[.int .i64 0, .int .i64 0, .slice none 0 0, .slice none 0 0, .int .i64 0, .int .i64 0]) ?_ 0 _ rfl; (with_reducible repeat (first | refine blk_drewN ?_ _ | refine blk_drew ?_ | refine blk_alloc ?_ _)); exact BK245.out) hb); have n2_ := Aside0.mk (below_step (by repeat (first | (with_reducible first | exact HB.out | apply below_alloc | apply pw_below_drewN | apply below_drew1 | refine below_set ?_ GE244.out | refine below_set ?_ GE245.out) | exact HB.out)) hb); have n3_ := Aside0.mk (hbox); have n4_ := Aside0.mk ((by rw [hg]; exact (below_size (by repeat (first | (with_reducible first | exact HB.out | apply below_alloc | apply pw_below_drewN | apply below_drew1 | refine below_set ?_ GE244.out | refine below_set ?_ GE245.out) | exact HB.out))) : w.heap.size ≤ gb246)); have n5_ := Aside0.mk ((by rw [hg]; exact (below_size (by repeat (first | (with_reducible first | exact HB.out | apply below_alloc | apply pw_below_drewN | apply below_drew1 | refine below_set ?_ GE244.out | refine below_set ?_ GE245.out) | exact HB.out))) : w.heap.size ≤ gb246)); have n6_ := Aside0.mk ((by rw [hg]; exact Nat.ne_of_lt (blk_lt (g := gb244) (o := .cells #[.int .i64 a0_0, .int .i64 a0_1, .slice A0_2 l0_2.length c0_2, .slice A0_3 l0_3.length c0_3, .int .i64 a0_4, .int .i64 a0_5, .int .u64 a0_6, .int .i64 a0_7, .int .i64 a0_8, .int .i64 a0_9, .string a0_10, .int .i64 a0_11] 52 (0, 0)) (by (with_reducible repeat (first | refine blk_drewN ?_ _ | refine blk_drew ?_ | refine blk_alloc ?_ _)); refine blk_far ?_ NB244_245.out _; (with_reducible repeat (first | refine blk_drewN ?_ _ | refine blk_drew ?_ | refine blk_alloc ?_ _)); refine blk_far ?_ NB244_245.out _; (with_reducible repeat (first | refine blk_drewN ?_ _ | refine blk_drew ?_ | refine blk_alloc ?_ _)); refine blk_far ?_ NB244_245.out _; (with_reducible repeat (first | refine blk_drewN ?_ _ | refine blk_drew ?_ | refine blk_alloc ?_ _)); refine blk_far ?_ NB244_245.out _; (with_reducible repeat (first | refine blk_drewN ?_ _ | refine blk_drew ?_ | refine blk_alloc ?_ _)); refine blk_far ?_ NB244_245.out _; (with_reducible repeat (first | refine blk_drewN ?_ _ | refine blk_drew ?_ | refine blk_alloc ?_ _)); refine blk_far ?_ NB244_245.out _; (with_reducible repeat (first | refine blk_drewN ?_ _ | refine blk_drew ?_ | refine blk_alloc ?_ _)); exact BK244.out)) : gb244 ≠ gb246)); have n7_ := Aside0.mk ((by rw [hg]; exact Nat.ne_of_gt (blk_lt (g := gb244) (o := .cells #[.int .i64 a0_0, .int .i64 a0_1, .slice A0_2 l0_2.length c0_2, .slice A0_3 l0_3.length c0_3, .int .i64 a0_4, .int .i64 a0_5, .int .u64 a0_6, .int .i64 a0_7, .int .i64 a0_8, .int .i64 a0_9, .string a0_10, .int .i64 a0_11] 52 (0, 0)) (by (with_reducible repeat (first | refine blk_drewN ?_ _ | refine blk_drew ?_ | refine blk_alloc ?_ _)); refine blk_far ?_ NB244_245.out _; (with_reducible repeat (first | refine blk_drewN ?_ _ | refine blk_drew ?_ | refine blk_alloc ?_ _)); refine blk_far ?_ NB244_245.out _; (with_reducible repeat (first | refine blk_drewN ?_ _ | refine blk_drew ?_ | refine blk_alloc ?_ _)); refine blk_far ?_ NB244_245.out _; (with_reducible repeat (first | refine blk_drewN ?_ _ | refine blk_drew ?_ | refine blk_alloc ?_ _)); refine blk_far ?_ NB244_245.out _; (with_reducible repeat (first | refine blk_drewN ?_ _ | refine blk_drew ?_ | refine blk_alloc ?_ _)); refine blk_far ?_ NB244_245.out _; (with_reducible repeat (first | refine blk_drewN ?_ _ | refine blk_drew ?_ | refine blk_alloc ?_ _)); refine blk_far ?_ NB244_245.out _; (with_reducible repeat (first | refine blk_drewN ?_ _ | refine blk_drew ?_ | refine blk_alloc ?_ _)); exact BK244.out)) : gb246 ≠ gb244)); have n8_ := Aside0.mk ((by rw [hg]; exact Nat.ne_of_lt (blk_lt (g := gb245) (o := .cells #[.int .i64 a0_0, .int .i64 a0_1, .slice A0_2 l0_2.length c0_2, .slice A0_3 l0_3.length c0_3, .int .i64 a0_4, .int .i64 a0_5] 27 (0, 0)) (by (with_reducible repeat (first | refine blk_drewN ?_ _ | refine blk_drew ?_ | refine blk_alloc ?_ _)); refine blk_put (cs := #[.int .i64 a0_0, .int .i64 a0_1, .slice A0_2 l0_2.length c0_2, .slice A0_3 l0_3.length c0_3, .int .i64 a0_4, .int .i64 0]) ?_ 5 _ rfl; (with_reducible repeat (first | refine blk_drewN ?_ _ | refine blk_drew ?_ | refine blk_alloc ?_ _)); refine blk_put (cs := #[.int .i64 a0_0, .int .i64 a0_1, .slice A0_2 l0_2.length c0_2, .slice A0_3 l0_3.length c0_3, .int .i64 0, .int .i64 0]) ?_ 4 _ rfl; (with_reducible repeat (first | refine blk_drewN ?_ _ | refine blk_drew ?_ | refine blk_alloc ?_ _)); refine blk_put (cs := #[.int .i64 a0_0, .int .i64 a0_1, .slice A0_2 l0_2.length c0_2, .slice none 0 0, .int .i64 0, .int .i64 0]) ?_ 3 _ rfl; (with_reducible repeat (first | refine blk_drewN ?_ _ | refine blk_drew ?_ | refine blk_alloc ?_ _)); refine blk_put (cs := #[.int .i64 a0_0, .int .i64 a0_1, .slice none 0 0, .slice none 0 0, .int .i64 0, .int .i64 0]) ?_ 2 _ rfl; (with_reducible repeat (first | refine blk_drewN ?_ _ | refine blk_drew ?_ | refine blk_alloc ?_ _)); refine blk_put (cs := #[.int .i64 a0_0, .int .i64 0, .slice none 0 0, .slice none 0 0, .int .i64 0, .int .i64 0]) ?_ 1 _ rfl; (with_reducible repeat (first | refine blk_drewN ?_ _ | refine blk_drew ?_ | refine blk_alloc ?_ _)); refine blk_put (cs := #[.int .i64 0, .int .i64 0, .slice none 0 0, .slice none 0 0, .int .i64 0, .int .i64 0]) ?_ 0 _ rfl; (with_reducible repeat (first | refine blk_drewN ?_ _ | refine blk_drew ?_ | refine blk_alloc ?_ _)); exact BK245.out)) : gb245 ≠ gb246)); have n9_ := Aside0.mk ((by rw [hg]; exact Nat.ne_of_gt (blk_lt (g := gb245) (o := .cells #[.int .i64 a0_0, .int .i64 a0_1, .slice A0_2 l0_2.length c0_2, .slice A0_3 l0_3.length c0_3, .int .i64 a0_4, .int .i64 a0_5] 27 (0, 0)) (by (with_reducible repeat (first | refine blk_drewN ?_ _ | refine blk_drew ?_ | refine blk_alloc ?_ _)); refine blk_put (cs := #[.int .i64 a0_0, .int .i64 a0_1, .slice A0_2 l0_2.length c0_2, .slice A0_3 l0_3.length c0_3, .int .i64 a0_4, .int .i64 0]) ?_ 5 _ rfl; (with_reducible repeat (first | refine blk_drewN ?_ _ | refine blk_drew ?_ | refine blk_alloc ?_ _)); refine blk_put (cs := #[.int .i64 a0_0, .int .i64 a0_1, .slice A0_2 l0_2.length c0_2, .slice A0_3 l0_3.length c0_3, .int .i64 0, .int .i64 0]) ?_ 4 _ rfl; (with_reducible repeat (first | refine blk_drewN ?_ _ | refine blk_drew ?_ | refine blk_alloc ?_ _)); refine blk_put (cs := #[.int .i64 a0_0, .int .i64 a0_1, .slice A0_2 l0_2.length c0_2, .slice none 0 0, .int .i64 0, .int .i64 0]) ?_ 3 _ rfl; (with_reducible repeat (first | refine blk_drewN ?_ _ | refine blk_drew ?_ | refine blk_alloc ?_ _)); refine blk_put (cs := #[.int .i64 a0_0, .int .i64 a0_1, .slice none 0 0, .slice none 0 0, .int .i64 0, .int .i64 0]) ?_ 2 _ rfl; (with_reducible repeat (first | refine blk_drewN ?_ _ | refine blk_drew ?_ | refine blk_alloc ?_ _)); refine blk_put (cs := #[.int .i64 a0_0, .int .i64 0, .slice none 0 0, .slice none 0 0, .int .i64 0, .int .i64 0]) ?_ 1 _ rfl; (with_reducible repeat (first | refine blk_drewN ?_ _ | refine blk_drew ?_ | refine blk_alloc ?_ _)); refine blk_put (cs := #[.int .i64 0, .int .i64 0, .slice none 0 0, .slice none 0 0, .int .i64 0, .int .i64 0]) ?_ 0 _ rfl; (with_reducible repeat (first | refine blk_drewN ?_ _ | refine blk_drew ?_ | refine blk_alloc ?_ _)); exact BK245.out)) : gb246 ≠ gb245)); clear BK244; clear BK245; clear HB; have BK244 := n0_; have BK245 := n1_; have HB := n2_; have BK246 := n3_; have GW246 := n4_; have GE246 := n5_; have NB244_246 := n6_; have NB246_244 := n7_; have NB245_246 := n8_; have NB246_245 := n9_; clear n0_ n1_ n2_ n3_ n4_ n5_ n6_ n7_ n8_ n9_; clear hb hbox hg; have hnb15 := NB246_244.out; have hnc15 := NB244_246.out; have hnb16 := NB246_245.out; have hnc16 := NB245_246.out; have hcz17_0 : w14.cell? ⟨gb246, 0, none⟩ = some (.int .i64 0) := (blk_cell BK246.out 0).trans rfl; have hcz17_1 : w14.cell? ⟨gb246, 1, none⟩ = some (.int .i64 0) := (blk_cell BK246.out 1).trans rfl; have hcz17_2 : w14.cell? ⟨gb246, 2, none⟩ = some (.int .i64 0) := (blk_cell BK246.out 2).trans rfl; have hcz17_3 : w14.cell? ⟨gb246, 3, none⟩ = some (.string (⟨#[]⟩ : ByteArray)) := (blk_cell BK246.out 3).trans rfl; have hfz17_0 := blk_frozen BK246.out 0; have hfz17_1 := blk_frozen BK246.out 1; have hfz17_2 := blk_frozen BK246.out 2; have hfz17_3 := blk_frozen BK246.out 3; have hcz18_0 : w14.cell? ⟨gb244, 0, none⟩ = some (.int .i64 a0_0) := (blk_cell BK244.out 0).trans rfl; have hcz18_1 : w14.cell? ⟨gb244, 1, none⟩ = some (.int .i64 a0_1) := (blk_cell BK244.out 1).trans rfl; have hcz18_2 : w14.cell? ⟨gb244, 2, none⟩ = some (.slice A0_2 l0_2.length c0_2) := (blk_cell BK244.out 2).trans rfl; have hcz18_3 : w14.cell? ⟨gb244, 3, none⟩ = some (.slice A0_3 l0_3.length c0_3) := (blk_cell BK244.out 3).trans rfl; have hcz18_4 : w14.cell? ⟨gb244, 4, none⟩ = some (.int .i64 a0_4) := (blk_cell BK244.out 4).trans rfl; have hcz18_5 : w14.cell? ⟨gb244, 5, none⟩ = some (.int .i64 a0_5) := (blk_cell BK244.out 5).trans rfl; have hcz18_6 : w14.cell? ⟨gb244, 6, none⟩ = some (.int .u64 a0_6) := (blk_cell BK244.out 6).trans rfl; have hcz18_7 : w14.cell? ⟨gb244, 7, none⟩ = some (.int .i64 a0_7) := (blk_cell BK244.out 7).trans rfl; have hcz18_8 : w14.cell? ⟨gb244, 8, none⟩ = some (.int .i64 a0_8) := (blk_cell BK244.out 8).trans rfl; have hcz18_9 : w14.cell? ⟨gb244, 9, none⟩ = some (.int .i64 a0_9) := (blk_cell BK244.out 9).trans rfl; have hcz18_10 : w14.cell? ⟨gb244, 10, none⟩ = some (.string a0_10) := (blk_cell BK244.out 10).trans rfl; have hcz18_11 : w14.cell? ⟨gb244, 11, none⟩ = some (.int .i64 a0_11) := (blk_cell BK244.out 11).trans rfl; have hfz18_0 := blk_frozen BK244.out 0; have hfz18_1 := blk_frozen BK244.out 1; have hfz18_2 := blk_frozen BK244.out 2; have hfz18_3 := blk_frozen BK244.out 3; have hfz18_4 := blk_frozen BK244.out 4; have hfz18_5 := blk_frozen BK244.out 5; have hfz18_6 := blk_frozen BK244.out 6; have hfz18_7 := blk_frozen BK244.out 7; have hfz18_8 := blk_frozen BK244.out 8; have hfz18_9 := blk_frozen BK244.out 9; have hfz18_10 := blk_frozen BK244.out 10; have hfz18_11 := blk_frozen BK244.out 11) | ((with_reducible refine gate_callee (f := 5) rfl ?_); refine goesL_ (some 25) rfl rfl Try.func5 (by kernel_rfl) rfl #[] rfl (by (try simp only [List.map_toArray, List.map_cons, List.map_nil]); first | done | rfl | (simp only [List.length_drop, List.length_take]; rfl)) ?_; (with_reducible refine (selvedgelaw18_shown.calls k  t247 _ A2.out).mono ?_); rintro e w19 ⟨rfl, hb⟩; refine ⟨_, rfl, ?_⟩; have n0_ := Aside0.mk (blk_below (g := gb244) (o := .cells #[.int .i64 a0_0, .int .i64 a0_1, .slice A0_2 l0_2.length c0_2, .slice A0_3 l0_3.length c0_3, .int .i64 a0_4, .int .i64 a0_5, .int .u64 a0_6, .int .i64 a0_7, .int .i64 a0_8, .int .i64 a0_9, .string a0_10, .int .i64 a0_11] 52 (0, 0)) (by (with_reducible repeat (first | refine blk_drewN ?_ _ | refine blk_drew ?_ | refine blk_alloc ?_ _)); refine blk_far ?_ NB244_246.out _; (with_reducible repeat (first | refine blk_drewN ?_ _ | refine blk_drew ?_ | refine blk_alloc ?_ _)); refine blk_far ?_ NB244_246.out _; (with_reducible repeat (first | refine blk_drewN ?_ _ | refine blk_drew ?_ | refine blk_alloc ?_ _)); refine blk_far ?_ NB244_246.out _; (with_reducible repeat (first | refine blk_drewN ?_ _ | refine blk_drew ?_ | refine blk_alloc ?_ _)); refine blk_far ?_ NB244_246.out _; (with_reducible repeat (first | refine blk_drewN ?_ _ | refine blk_drew ?_ | refine blk_alloc ?_ _)); exact BK244.out) hb); have n1_ := Aside0.mk (blk_below (g := gb245) (o := .cells #[.int .i64 a0_0, .int .i64 a0_1, .slice A0_2 l0_2.length c0_2, .slice A0_3 l0_3.length c0_3, .int .i64 a0_4, .int .i64 a0_5] 27 (0, 0)) (by (with_reducible repeat (first | refine blk_drewN ?_ _ | refine blk_drew ?_ | refine blk_alloc ?_ _)); refine blk_far ?_ NB245_246.out _; (with_reducible repeat (first | refine blk_drewN ?_ _ | refine blk_drew ?_ | refine blk_alloc ?_ _)); refine blk_far ?_ NB245_246.out _; (with_reducible repeat (first | refine blk_drewN ?_ _ | refine blk_drew ?_ | refine blk_alloc ?_ _)); refine blk_far ?_ NB245_246.out _; (with_reducible repeat (first | refine blk_drewN ?_ _ | refine blk_drew ?_ | refine blk_alloc ?_ _)); refine blk_far ?_ NB245_246.out _; (with_reducible repeat (first | refine blk_drewN ?_ _ | refine blk_drew ?_ | refine blk_alloc ?_ _)); exact BK245.out) hb); have n2_ := Aside0.mk (blk_below (g := gb246) (o := .cells #[.int .i64 a0_7, .int .i64 a0_8, .int .i64 a0_9, .string a0_10] 30 (0, 0)) (by (with_reducible repeat (first | refine blk_drewN ?_ _ | refine blk_drew ?_ | refine blk_alloc ?_ _)); refine blk_put (cs := #[.int .i64 a0_7, .int .i64 a0_8, .int .i64 a0_9, .string (⟨#[]⟩ : ByteArray)]) ?_ 3 _ rfl; (with_reducible repeat (first | refine blk_drewN ?_ _ | refine blk_drew ?_ | refine blk_alloc ?_ _)); refine blk_put (cs := #[.int .i64 a0_7, .int .i64 a0_8, .int .i64 0, .string (⟨#[]⟩ : ByteArray)]) ?_ 2 _ rfl; (with_reducible repeat (first | refine blk_drewN ?_ _ | refine blk_drew ?_ | refine blk_alloc ?_ _)); refine blk_put (cs := #[.int .i64 a0_7, .int .i64 0, .int .i64 0, .string (⟨#[]⟩ : ByteArray)]) ?_ 1 _ rfl; (with_reducible repeat (first | refine blk_drewN ?_ _ | refine blk_drew ?_ | refine blk_alloc ?_ _)); refine blk_put (cs := #[.int .i64 0, .int .i64 0, .int .i64 0, .string (⟨#[]⟩ : ByteArray)]) ?_ 0 _ rfl; (with_reducible repeat (first | refine blk_drewN ?_ _ | refine blk_drew ?_ | refine blk_alloc ?_ _)); exact BK246.out) hb); have n3_ := Aside0.mk (below_step (by repeat (first | (with_reducible first | exact HB.out | apply below_alloc | apply pw_below_drewN | apply below_drew1 | refine below_set ?_ GE244.out | refine below_set ?_ GE245.out | refine below_set ?_ GE246.out) | exact HB.out)) hb); clear BK244; clear BK245; clear BK246; clear HB; have BK244 := n0_; have BK245 := n1_; have BK246 := n2_; have HB := n3_; clear n0_ n1_ n2_ n3_; (try clear hb); (try clear hb2); (try clear hk); (try clear hi); have hcz20_0 : w19.cell? ⟨gb245, 0, none⟩ = some (.int .i64 a0_0) := (blk_cell BK245.out 0).trans rfl; have hcz20_1 : w19.cell? ⟨gb245, 1, none⟩ = some (.int .i64 a0_1) := (blk_cell BK245.out 1).trans rfl; have hcz20_2 : w19.cell? ⟨gb245, 2, none⟩ = some (.slice A0_2 l0_2.length c0_2) := (blk_cell BK245.out 2).trans rfl; have hcz20_3 : w19.cell? ⟨gb245, 3, none⟩ = some (.slice A0_3 l0_3.length c0_3) := (blk_cell BK245.out 3).trans rfl; have hcz20_4 : w19.cell? ⟨gb245, 4, none⟩ = some (.int .i64 a0_4) := (blk_cell BK245.out 4).trans rfl; have hcz20_5 : w19.cell? ⟨gb245, 5, none⟩ = some (.int .i64 a0_5) := (blk_cell BK245.out 5).trans rfl; have hfz20_0 := blk_frozen BK245.out 0; have hfz20_1 := blk_frozen BK245.out 1; have hfz20_2 := blk_frozen BK245.out 2; have hfz20_3 := blk_frozen BK245.out 3; have hfz20_4 := blk_frozen BK245.out 4; have hfz20_5 := blk_frozen BK245.out 5) | ((with_reducible refine gate_callee (f := 6) rfl ?_); refine goesL_ (some 29) rfl rfl Try.func6 (by kernel_rfl) rfl #[.agg #[.int .i64 a0_0, .int .i64 a0_1, .slice A0_2 l0_2.length c0_2, .slice A0_3 l0_3.length c0_3, .int .i64 a0_4, .int .i64 a0_5], .int .i64 a0_11] rfl (by (try simp only [List.map_toArray, List.map_cons, List.map_nil]); first | done | rfl | (simp only [List.length_drop, List.length_take]; rfl)) ?_; (with_reducible refine (post_Header.calls a0_0 a0_1 _ _ l0_2 _ _ l0_3 a0_4 a0_5 a0_11 t248 t249 _ ?side1 ?side2 ?side3 ?side4 A3.out).mono ?_); (case side1 => repeat (first | exact (Kd.C_below HR0_2.out HB.out) | (with_reducible refine Kd.C_alloc ?_ _) | (with_reducible refine Kd.C_drewN ?_ _) | (with_reducible refine Kd.C_drew ?_))); (case side2 => exact HC0_2.out); (case side3 => repeat (first | exact (Kd.C_below HR0_3.out HB.out) | (with_reducible refine Kd.C_alloc ?_ _) | (with_reducible refine Kd.C_drewN ?_ _) | (with_reducible refine Kd.C_drew ?_))); (case side4 => exact HC0_3.out); rintro e w21 ⟨rfl, hb⟩; refine ⟨_, rfl, ?_⟩; have n0_ := Aside0.mk (blk_below (g := gb244) (o := .cells #[.int .i64 a0_0, .int .i64 a0_1, .slice A0_2 l0_2.length c0_2, .slice A0_3 l0_3.length c0_3, .int .i64 a0_4, .int .i64 a0_5, .int .u64 a0_6, .int .i64 a0_7, .int .i64 a0_8, .int .i64 a0_9, .string a0_10, .int .i64 a0_11] 52 (0, 0)) (by (with_reducible repeat (first | refine blk_drewN ?_ _ | refine blk_drew ?_ | refine blk_alloc ?_ _)); exact BK244.out) hb); have n1_ := Aside0.mk (blk_below (g := gb245) (o := .cells #[.int .i64 a0_0, .int .i64 a0_1, .slice A0_2 l0_2.length c0_2, .slice A0_3 l0_3.length c0_3, .int .i64 a0_4, .int .i64 a0_5] 27 (0, 0)) (by (with_reducible repeat (first | refine blk_drewN ?_ _ | refine blk_drew ?_ | refine blk_alloc ?_ _)); exact BK245.out) hb); have n2_ := Aside0.mk (blk_below (g := gb246) (o := .cells #[.int .i64 a0_7, .int .i64 a0_8, .int .i64 a0_9, .string a0_10] 30 (0, 0)) (by (with_reducible repeat (first | refine blk_drewN ?_ _ | refine blk_drew ?_ | refine blk_alloc ?_ _)); exact BK246.out) hb); have n3_ := Aside0.mk (below_step (by repeat (first | (with_reducible first | exact HB.out | apply below_alloc | apply pw_below_drewN | apply below_drew1 | refine below_set ?_ GE244.out | refine below_set ?_ GE245.out | refine below_set ?_ GE246.out) | exact HB.out)) hb); clear BK244; clear BK245; clear BK246; clear HB; have BK244 := n0_; have BK245 := n1_; have BK246 := n2_; have HB := n3_; clear n0_ n1_ n2_ n3_; (try clear hb); (try clear hb2); (try clear hk); (try clear hi); have hcz22_0 : w21.cell? ⟨gb245, 0, none⟩ = some (.int .i64 a0_0) := (blk_cell BK245.out 0).trans rfl; have hcz22_1 : w21.cell? ⟨gb245, 1, none⟩ = some (.int .i64 a0_1) := (blk_cell BK245.out 1).trans rfl; have hcz22_2 : w21.cell? ⟨gb245, 2, none⟩ = some (.slice A0_2 l0_2.length c0_2) := (blk_cell BK245.out 2).trans rfl; have hcz22_3 : w21.cell? ⟨gb245, 3, none⟩ = some (.slice A0_3 l0_3.length c0_3) := (blk_cell BK245.out 3).trans rfl; have hcz22_4 : w21.cell? ⟨gb245, 4, none⟩ = some (.int .i64 a0_4) := (blk_cell BK245.out 4).trans rfl; have hcz22_5 : w21.cell? ⟨gb245, 5, none⟩ = some (.int .i64 a0_5) := (blk_cell BK245.out 5).trans rfl; have hfz22_0 := blk_frozen BK245.out 0; have hfz22_1 := blk_frozen BK245.out 1; have hfz22_2 := blk_frozen BK245.out 2; have hfz22_3 := blk_frozen BK245.out 3; have hfz22_4 := blk_frozen BK245.out 4; have hfz22_5 := blk_frozen BK245.out 5) | ((with_reducible refine gate_callee (f := 8) rfl ?_); refine goesL_ (some 37) rfl rfl Try.func8 (by kernel_rfl) rfl #[.agg #[.int .i64 a0_0, .int .i64 a0_1, .slice A0_2 l0_2.length c0_2, .slice A0_3 l0_3.length c0_3, .int .i64 a0_4, .int .i64 a0_5, .int .u64 a0_6], .int .i64 a0_11] rfl (by (try simp only [List.map_toArray, List.map_cons, List.map_nil]); first | done | rfl | (simp only [List.length_drop, List.length_take]; rfl)) ?_; (with_reducible refine (post_Proof.calls a0_0 a0_1 _ _ l0_2 _ _ l0_3 a0_4 a0_5 a0_6 a0_11 t250 t251 _ ?side1 ?side2 ?side3 ?side4 A4.out).mono ?_); (case side1 => repeat (first | exact (Kd.C_below HR0_2.out HB.out) | (with_reducible refine Kd.C_alloc ?_ _) | (with_reducible refine Kd.C_drewN ?_ _) | (with_reducible refine Kd.C_drew ?_))); (case side2 => exact HC0_2.out); (case side3 => repeat (first | exact (Kd.C_below HR0_3.out HB.out) | (with_reducible refine Kd.C_alloc ?_ _) | (with_reducible refine Kd.C_drewN ?_ _) | (with_reducible refine Kd.C_drew ?_))); (case side4 => exact HC0_3.out); rintro e w23 ⟨rfl, hb⟩; refine ⟨_, rfl, ?_⟩; have n0_ := Aside0.mk (blk_below (g := gb244) (o := .cells #[.int .i64 a0_0, .int .i64 a0_1, .slice A0_2 l0_2.length c0_2, .slice A0_3 l0_3.length c0_3, .int .i64 a0_4, .int .i64 a0_5, .int .u64 a0_6, .int .i64 a0_7, .int .i64 a0_8, .int .i64 a0_9, .string a0_10, .int .i64 a0_11] 52 (0, 0)) (by (with_reducible repeat (first | refine blk_drewN ?_ _ | refine blk_drew ?_ | refine blk_alloc ?_ _)); exact BK244.out) hb); have n1_ := Aside0.mk (blk_below (g := gb245) (o := .cells #[.int .i64 a0_0, .int .i64 a0_1, .slice A0_2 l0_2.length c0_2, .slice A0_3 l0_3.length c0_3, .int .i64 a0_4, .int .i64 a0_5] 27 (0, 0)) (by (with_reducible repeat (first | refine blk_drewN ?_ _ | refine blk_drew ?_ | refine blk_alloc ?_ _)); exact BK245.out) hb); have n2_ := Aside0.mk (blk_below (g := gb246) (o := .cells #[.int .i64 a0_7, .int .i64 a0_8, .int .i64 a0_9, .string a0_10] 30 (0, 0)) (by (with_reducible repeat (first | refine blk_drewN ?_ _ | refine blk_drew ?_ | refine blk_alloc ?_ _)); exact BK246.out) hb); have n3_ := Aside0.mk (below_step (by repeat (first | (with_reducible first | exact HB.out | apply below_alloc | apply pw_below_drewN | apply below_drew1 | refine below_set ?_ GE244.out | refine below_set ?_ GE245.out | refine below_set ?_ GE246.out) | exact HB.out)) hb); clear BK244; clear BK245; clear BK246; clear HB; have BK244 := n0_; have BK245 := n1_; have BK246 := n2_; have HB := n3_; clear n0_ n1_ n2_ n3_; (try clear hb); (try clear hb2); (try clear hk); (try clear hi); have hcz24_0 : w23.cell? ⟨gb246, 0, none⟩ = some (.int .i64 a0_7) := (blk_cell BK246.out 0).trans rfl; have hcz24_1 : w23.cell? ⟨gb246, 1, none⟩ = some (.int .i64 a0_8) := (blk_cell BK246.out 1).trans rfl; have hcz24_2 : w23.cell? ⟨gb246, 2, none⟩ = some (.int .i64 a0_9) := (blk_cell BK246.out 2).trans rfl; have hcz24_3 : w23.cell? ⟨gb246, 3, none⟩ = some (.string a0_10) := (blk_cell BK246.out 3).trans rfl; have hfz24_0 := blk_frozen BK246.out 0; have hfz24_1 := blk_frozen BK246.out 1; have hfz24_2 := blk_frozen BK246.out 2; have hfz24_3 := blk_frozen BK246.out 3) | ((with_reducible refine gate_callee (f := 10) rfl ?_); refine goesL_ (some 42) rfl rfl Try.func10 (by kernel_rfl) rfl #[.agg #[.int .i64 a0_7, .int .i64 a0_8, .int .i64 a0_9, .string a0_10]] rfl (by (try simp only [List.map_toArray, List.map_cons, List.map_nil]); first | done | rfl | (simp only [List.length_drop, List.length_take]; rfl)) ?_; (with_reducible refine (post_Say.calls k a0_7 a0_8 a0_9 a0_10 t252 t253 _ A5.out).mono ?_); rintro e w25 ⟨rfl, hb⟩; refine ⟨_, rfl, ?_⟩; have n0_ := Aside0.mk (blk_below (g := gb244) (o := .cells #[.int .i64 a0_0, .int .i64 a0_1, .slice A0_2 l0_2.length c0_2, .slice A0_3 l0_3.length c0_3, .int .i64 a0_4, .int .i64 a0_5, .int .u64 a0_6, .int .i64 a0_7, .int .i64 a0_8, .int .i64 a0_9, .string a0_10, .int .i64 a0_11] 52 (0, 0)) (by (with_reducible repeat (first | refine blk_drewN ?_ _ | refine blk_drew ?_ | refine blk_alloc ?_ _)); exact BK244.out) hb); have n1_ := Aside0.mk (blk_below (g := gb245) (o := .cells #[.int .i64 a0_0, .int .i64 a0_1, .slice A0_2 l0_2.length c0_2, .slice A0_3 l0_3.length c0_3, .int .i64 a0_4, .int .i64 a0_5] 27 (0, 0)) (by (with_reducible repeat (first | refine blk_drewN ?_ _ | refine blk_drew ?_ | refine blk_alloc ?_ _)); exact BK245.out) hb); have n2_ := Aside0.mk (blk_below (g := gb246) (o := .cells #[.int .i64 a0_7, .int .i64 a0_8, .int .i64 a0_9, .string a0_10] 30 (0, 0)) (by (with_reducible repeat (first | refine blk_drewN ?_ _ | refine blk_drew ?_ | refine blk_alloc ?_ _)); exact BK246.out) hb); have n3_ := Aside0.mk (below_step (by repeat (first | (with_reducible first | exact HB.out | apply below_alloc | apply pw_below_drewN | apply below_drew1 | refine below_set ?_ GE244.out | refine below_set ?_ GE245.out | refine below_set ?_ GE246.out) | exact HB.out)) hb); clear BK244; clear BK245; clear BK246; clear HB; have BK244 := n0_; have BK245 := n1_; have BK246 := n2_; have HB := n3_; clear n0_ n1_ n2_ n3_; (try clear hb); (try clear hb2); (try clear hk); (try clear hi); have hcz26_0 : w25.cell? ⟨gb246, 0, none⟩ = some (.int .i64 a0_7) := (blk_cell BK246.out 0).trans rfl; have hcz26_1 : w25.cell? ⟨gb246, 1, none⟩ = some (.int .i64 a0_8) := (blk_cell BK246.out 1).trans rfl; have hcz26_2 : w25.cell? ⟨gb246, 2, none⟩ = some (.int .i64 a0_9) := (blk_cell BK246.out 2).trans rfl; have hcz26_3 : w25.cell? ⟨gb246, 3, none⟩ = some (.string a0_10) := (blk_cell BK246.out 3).trans rfl; have hfz26_0 := blk_frozen BK246.out 0; have hfz26_1 := blk_frozen BK246.out 1; have hfz26_2 := blk_frozen BK246.out 2; have hfz26_3 := blk_frozen BK246.out 3) | ((with_reducible refine gate_callee (f := 12) rfl ?_); refine goesL_ (some 53) rfl rfl Try.func12 (by kernel_rfl) rfl #[.agg #[.int .i64 a0_7, .int .i64 a0_8, .string a0_10]] rfl (by (try simp only [List.map_toArray, List.map_cons, List.map_nil]); first | done | rfl | (simp only [List.length_drop, List.length_take]; rfl)) ?_; (with_reducible refine (post_Ballot.calls a0_7 a0_8 a0_10 t254 t255 _ A6.out).mono ?_); rintro e w27 ⟨rfl, hb⟩; refine ⟨_, rfl, ?_⟩; have n0_ := Aside0.mk (blk_below (g := gb244) (o := .cells #[.int .i64 a0_0, .int .i64 a0_1, .slice A0_2 l0_2.length c0_2, .slice A0_3 l0_3.length c0_3, .int .i64 a0_4, .int .i64 a0_5, .int .u64 a0_6, .int .i64 a0_7, .int .i64 a0_8, .int .i64 a0_9, .string a0_10, .int .i64 a0_11] 52 (0, 0)) (by (with_reducible repeat (first | refine blk_drewN ?_ _ | refine blk_drew ?_ | refine blk_alloc ?_ _)); exact BK244.out) hb); have n1_ := Aside0.mk (blk_below (g := gb245) (o := .cells #[.int .i64 a0_0, .int .i64 a0_1, .slice A0_2 l0_2.length c0_2, .slice A0_3 l0_3.length c0_3, .int .i64 a0_4, .int .i64 a0_5] 27 (0, 0)) (by (with_reducible repeat (first | refine blk_drewN ?_ _ | refine blk_drew ?_ | refine blk_alloc ?_ _)); exact BK245.out) hb); have n2_ := Aside0.mk (blk_below (g := gb246) (o := .cells #[.int .i64 a0_7, .int .i64 a0_8, .int .i64 a0_9, .string a0_10] 30 (0, 0)) (by (with_reducible repeat (first | refine blk_drewN ?_ _ | refine blk_drew ?_ | refine blk_alloc ?_ _)); exact BK246.out) hb); have n3_ := Aside0.mk (below_step (by repeat (first | (with_reducible first | exact HB.out | apply below_alloc | apply pw_below_drewN | apply below_drew1 | refine below_set ?_ GE244.out | refine below_set ?_ GE245.out | refine below_set ?_ GE246.out) | exact HB.out)) hb); clear BK244; clear BK245; clear BK246; clear HB; have BK244 := n0_; have BK245 := n1_; have BK246 := n2_; have HB := n3_; clear n0_ n1_ n2_ n3_; (try clear hb); (try clear hb2); (try clear hk); (try clear hi)))
  (try simp only [Act.put, List.setIfInBounds_toArray, List.set_cons_zero, List.set_cons_succ])
  go_cut [16] (fun v16 wc => ∃ (kq : Nat) (x16_6 : Bool), v16 = .bool x16_6 ∧ Aside0 (selvedgelaw18_PostLetters.j0 kq t247 t248 x16_6 a0_7 a0_8 a0_9 a0_10 = some r) ∧ Aside0 (kq ≤ k) ∧ Aside0 (wc.heap[gb244]? = some (.cells #[.int .i64 a0_0, .int .i64 a0_1, (.slice A0_2 l0_2.length c0_2), (.slice A0_3 l0_3.length c0_3), .int .i64 a0_4, .int .i64 a0_5, .int .u64 a0_6, .int .i64 a0_7, .int .i64 a0_8, .int .i64 a0_9, .string a0_10, .int .i64 a0_11] 52 (0, 0))) ∧ Aside0 (wc.heap[gb245]? = some (.cells #[.int .i64 a0_0, .int .i64 a0_1, (.slice A0_2 l0_2.length c0_2), (.slice A0_3 l0_3.length c0_3), .int .i64 a0_4, .int .i64 a0_5] 27 (0, 0))) ∧ Aside0 (wc.heap[gb246]? = some (.cells #[.int .i64 a0_7, .int .i64 a0_8, .int .i64 a0_9, .string a0_10] 30 (0, 0))) ∧ Aside0 (Below w.heap.size w wc))
  case first =>
    have H := HC7.out
    clear HC7
    by_cases c28 : t249 = 0
    · rw [if_pos c28] at H
      have c28b0 : (t249 == 0) = true := beq_iff_eq.mpr c28
      have c28b1 : (t249 != 0) = false := bne_eq_false_iff_eq.mpr c28
      clear c28
      (first | rw [c28b0] | (simp only [i64_w, i32_w]; rw [c28b0]) | skip)
      replace H := Option.bind_eq_some_iff.mp H
      obtain ⟨t256, A290, H⟩ := H
      replace H : (if t256 = 104 then (if t251 = 0 then ((post_Kind.f t250).bind fun t257 => (if t257 = 99 then (if t253 = 0 then ((post_Kind.f t252).bind fun t258 => (if t258 = 121 then (if t255 = 0 then ((post_Kind.f t254).bind fun t259 => (selvedgelaw18_PostLetters.j0 k t247 t248 (t259 == 118) a0_7 a0_8 a0_9 a0_10)) else (selvedgelaw18_PostLetters.j0 k t247 t248 true a0_7 a0_8 a0_9 a0_10)) else (selvedgelaw18_PostLetters.j0 k t247 t248 false a0_7 a0_8 a0_9 a0_10))) else (if t255 = 0 then ((post_Kind.f t254).bind fun t260 => (selvedgelaw18_PostLetters.j0 k t247 t248 (t260 == 118) a0_7 a0_8 a0_9 a0_10)) else (selvedgelaw18_PostLetters.j0 k t247 t248 true a0_7 a0_8 a0_9 a0_10))) else (selvedgelaw18_PostLetters.j0 k t247 t248 false a0_7 a0_8 a0_9 a0_10))) else (if t253 = 0 then ((post_Kind.f t252).bind fun t261 => (if t261 = 121 then (if t255 = 0 then ((post_Kind.f t254).bind fun t262 => (selvedgelaw18_PostLetters.j0 k t247 t248 (t262 == 118) a0_7 a0_8 a0_9 a0_10)) else (selvedgelaw18_PostLetters.j0 k t247 t248 true a0_7 a0_8 a0_9 a0_10)) else (selvedgelaw18_PostLetters.j0 k t247 t248 false a0_7 a0_8 a0_9 a0_10))) else (if t255 = 0 then ((post_Kind.f t254).bind fun t263 => (selvedgelaw18_PostLetters.j0 k t247 t248 (t263 == 118) a0_7 a0_8 a0_9 a0_10)) else (selvedgelaw18_PostLetters.j0 k t247 t248 true a0_7 a0_8 a0_9 a0_10)))) else (selvedgelaw18_PostLetters.j0 k t247 t248 false a0_7 a0_8 a0_9 a0_10)) = some r := H
      have A29 := Aside0.mk A290
      clear A290
      by_cases c30 : t256 = 104
      · rw [if_pos c30] at H
        have c30b0 : (t256 == 104) = true := beq_iff_eq.mpr c30
        have c30b1 : (t256 != 104) = false := bne_eq_false_iff_eq.mpr c30
        clear c30
        by_cases c31 : t251 = 0
        · rw [if_pos c31] at H
          have c31b0 : (t251 == 0) = true := beq_iff_eq.mpr c31
          have c31b1 : (t251 != 0) = false := bne_eq_false_iff_eq.mpr c31
          clear c31
          replace H := Option.bind_eq_some_iff.mp H
          obtain ⟨t257, A320, H⟩ := H
          replace H : (if t257 = 99 then (if t253 = 0 then ((post_Kind.f t252).bind fun t258 => (if t258 = 121 then (if t255 = 0 then ((post_Kind.f t254).bind fun t259 => (selvedgelaw18_PostLetters.j0 k t247 t248 (t259 == 118) a0_7 a0_8 a0_9 a0_10)) else (selvedgelaw18_PostLetters.j0 k t247 t248 true a0_7 a0_8 a0_9 a0_10)) else (selvedgelaw18_PostLetters.j0 k t247 t248 false a0_7 a0_8 a0_9 a0_10))) else (if t255 = 0 then ((post_Kind.f t254).bind fun t260 => (selvedgelaw18_PostLetters.j0 k t247 t248 (t260 == 118) a0_7 a0_8 a0_9 a0_10)) else (selvedgelaw18_PostLetters.j0 k t247 t248 true a0_7 a0_8 a0_9 a0_10))) else (selvedgelaw18_PostLetters.j0 k t247 t248 false a0_7 a0_8 a0_9 a0_10)) = some r := H
          have A32 := Aside0.mk A320
          clear A320
          by_cases c33 : t257 = 99
          · rw [if_pos c33] at H
            have c33b0 : (t257 == 99) = true := beq_iff_eq.mpr c33
            have c33b1 : (t257 != 99) = false := bne_eq_false_iff_eq.mpr c33
            clear c33
            by_cases c34 : t253 = 0
            · rw [if_pos c34] at H
              have c34b0 : (t253 == 0) = true := beq_iff_eq.mpr c34
              have c34b1 : (t253 != 0) = false := bne_eq_false_iff_eq.mpr c34
              clear c34
              replace H := Option.bind_eq_some_iff.mp H
              obtain ⟨t258, A350, H⟩ := H
              replace H : (if t258 = 121 then (if t255 = 0 then ((post_Kind.f t254).bind fun t259 => (selvedgelaw18_PostLetters.j0 k t247 t248 (t259 == 118) a0_7 a0_8 a0_9 a0_10)) else (selvedgelaw18_PostLetters.j0 k t247 t248 true a0_7 a0_8 a0_9 a0_10)) else (selvedgelaw18_PostLetters.j0 k t247 t248 false a0_7 a0_8 a0_9 a0_10)) = some r := H
              have A35 := Aside0.mk A350
              clear A350
              by_cases c36 : t258 = 121
              · rw [if_pos c36] at H
                have c36b0 : (t258 == 121) = true := beq_iff_eq.mpr c36
                have c36b1 : (t258 != 121) = false := bne_eq_false_iff_eq.mpr c36
                clear c36
                by_cases c37 : t255 = 0
                · rw [if_pos c37] at H
                  have c37b0 : (t255 == 0) = true := beq_iff_eq.mpr c37
                  have c37b1 : (t255 != 0) = false := bne_eq_false_iff_eq.mpr c37
                  clear c37
                  replace H := Option.bind_eq_some_iff.mp H
                  obtain ⟨t259, A380, H⟩ := H
                  replace H : (selvedgelaw18_PostLetters.j0 k t247 t248 (t259 == 118) a0_7 a0_8 a0_9 a0_10) = some r := H
                  have A38 := Aside0.mk A380
                  clear A380
                  have H' := Aside0.mk H
                  clear H
                  go_wp2_with (first | (go_at_call 15; (with_reducible refine (post_Kind.calls t248 t256 _ A29.out).mono ?_); rintro e w' ⟨rfl, ⟨nd, rfl⟩⟩) | (go_at_call 15; (with_reducible refine (post_Kind.calls t250 t257 _ A32.out).mono ?_); rintro e w' ⟨rfl, ⟨nd, rfl⟩⟩) | (go_at_call 15; (with_reducible refine (post_Kind.calls t252 t258 _ A35.out).mono ?_); rintro e w' ⟨rfl, ⟨nd, rfl⟩⟩) | (go_at_call 15; (with_reducible refine (post_Kind.calls t254 t259 _ A38.out).mono ?_); rintro e w' ⟨rfl, ⟨nd, rfl⟩⟩))
                  go_meet
                  case rel => exact ⟨_, ((t259 == 118)), (by first | rfl | (simp; done) | (simp [*]; done)), H', ⟨by first | omega | exact Nat.le_refl _⟩, ⟨by (with_reducible repeat (first | refine blk_drewN ?_ _ | refine blk_drew ?_ | refine blk_alloc ?_ _)); exact BK244.out⟩, ⟨by (with_reducible repeat (first | refine blk_drewN ?_ _ | refine blk_drew ?_ | refine blk_alloc ?_ _)); exact BK245.out⟩, ⟨by (with_reducible repeat (first | refine blk_drewN ?_ _ | refine blk_drew ?_ | refine blk_alloc ?_ _)); exact BK246.out⟩, ⟨by repeat (first | (with_reducible first | exact HB.out | apply below_alloc | apply pw_below_drewN | apply below_drew1 | refine below_set ?_ GE244.out | refine below_set ?_ GE245.out | refine below_set ?_ GE246.out) | exact HB.out)⟩⟩
                · rw [if_neg c37] at H
                  have c37b0 : (t255 == 0) = false := beq_eq_false_iff_ne.mpr c37
                  have c37b1 : (t255 != 0) = true := bne_iff_ne.mpr c37
                  have H' := Aside0.mk H
                  clear H
                  go_wp2_with (first | (go_at_call 15; (with_reducible refine (post_Kind.calls t248 t256 _ A29.out).mono ?_); rintro e w' ⟨rfl, ⟨nd, rfl⟩⟩) | (go_at_call 15; (with_reducible refine (post_Kind.calls t250 t257 _ A32.out).mono ?_); rintro e w' ⟨rfl, ⟨nd, rfl⟩⟩) | (go_at_call 15; (with_reducible refine (post_Kind.calls t252 t258 _ A35.out).mono ?_); rintro e w' ⟨rfl, ⟨nd, rfl⟩⟩))
                  go_meet
                  case rel => exact ⟨_, (true), (by first | rfl | (simp; done) | (simp [*]; done)), H', ⟨by first | omega | exact Nat.le_refl _⟩, ⟨by (with_reducible repeat (first | refine blk_drewN ?_ _ | refine blk_drew ?_ | refine blk_alloc ?_ _)); exact BK244.out⟩, ⟨by (with_reducible repeat (first | refine blk_drewN ?_ _ | refine blk_drew ?_ | refine blk_alloc ?_ _)); exact BK245.out⟩, ⟨by (with_reducible repeat (first | refine blk_drewN ?_ _ | refine blk_drew ?_ | refine blk_alloc ?_ _)); exact BK246.out⟩, ⟨by repeat (first | (with_reducible first | exact HB.out | apply below_alloc | apply pw_below_drewN | apply below_drew1 | refine below_set ?_ GE244.out | refine below_set ?_ GE245.out | refine below_set ?_ GE246.out) | exact HB.out)⟩⟩
              · rw [if_neg c36] at H
                have c36b0 : (t258 == 121) = false := beq_eq_false_iff_ne.mpr c36
                have c36b1 : (t258 != 121) = true := bne_iff_ne.mpr c36
                have H' := Aside0.mk H
                clear H
                go_wp2_with (first | (go_at_call 15; (with_reducible refine (post_Kind.calls t248 t256 _ A29.out).mono ?_); rintro e w' ⟨rfl, ⟨nd, rfl⟩⟩) | (go_at_call 15; (with_reducible refine (post_Kind.calls t250 t257 _ A32.out).mono ?_); rintro e w' ⟨rfl, ⟨nd, rfl⟩⟩) | (go_at_call 15; (with_reducible refine (post_Kind.calls t252 t258 _ A35.out).mono ?_); rintro e w' ⟨rfl, ⟨nd, rfl⟩⟩))
                go_meet
                case rel => exact ⟨_, (false), (by first | rfl | (simp; done) | (simp [*]; done)), H', ⟨by first | omega | exact Nat.le_refl _⟩, ⟨by (with_reducible repeat (first | refine blk_drewN ?_ _ | refine blk_drew ?_ | refine blk_alloc ?_ _)); exact BK244.out⟩, ⟨by (with_reducible repeat (first | refine blk_drewN ?_ _ | refine blk_drew ?_ | refine blk_alloc ?_ _)); exact BK245.out⟩, ⟨by (with_reducible repeat (first | refine blk_drewN ?_ _ | refine blk_drew ?_ | refine blk_alloc ?_ _)); exact BK246.out⟩, ⟨by repeat (first | (with_reducible first | exact HB.out | apply below_alloc | apply pw_below_drewN | apply below_drew1 | refine below_set ?_ GE244.out | refine below_set ?_ GE245.out | refine below_set ?_ GE246.out) | exact HB.out)⟩⟩
            · rw [if_neg c34] at H
              have c34b0 : (t253 == 0) = false := beq_eq_false_iff_ne.mpr c34
              have c34b1 : (t253 != 0) = true := bne_iff_ne.mpr c34
              by_cases c39 : t255 = 0
              · rw [if_pos c39] at H
                have c39b0 : (t255 == 0) = true := beq_iff_eq.mpr c39
                have c39b1 : (t255 != 0) = false := bne_eq_false_iff_eq.mpr c39
                clear c39
                replace H := Option.bind_eq_some_iff.mp H
                obtain ⟨t260, A400, H⟩ := H
                replace H : (selvedgelaw18_PostLetters.j0 k t247 t248 (t260 == 118) a0_7 a0_8 a0_9 a0_10) = some r := H
                have A40 := Aside0.mk A400
                clear A400
                have H' := Aside0.mk H
                clear H
                go_wp2_with (first | (go_at_call 15; (with_reducible refine (post_Kind.calls t248 t256 _ A29.out).mono ?_); rintro e w' ⟨rfl, ⟨nd, rfl⟩⟩) | (go_at_call 15; (with_reducible refine (post_Kind.calls t250 t257 _ A32.out).mono ?_); rintro e w' ⟨rfl, ⟨nd, rfl⟩⟩) | (go_at_call 15; (with_reducible refine (post_Kind.calls t254 t260 _ A40.out).mono ?_); rintro e w' ⟨rfl, ⟨nd, rfl⟩⟩))
                go_meet
                case rel => exact ⟨_, ((t260 == 118)), (by first | rfl | (simp; done) | (simp [*]; done)), H', ⟨by first | omega | exact Nat.le_refl _⟩, ⟨by (with_reducible repeat (first | refine blk_drewN ?_ _ | refine blk_drew ?_ | refine blk_alloc ?_ _)); exact BK244.out⟩, ⟨by (with_reducible repeat (first | refine blk_drewN ?_ _ | refine blk_drew ?_ | refine blk_alloc ?_ _)); exact BK245.out⟩, ⟨by (with_reducible repeat (first | refine blk_drewN ?_ _ | refine blk_drew ?_ | refine blk_alloc ?_ _)); exact BK246.out⟩, ⟨by repeat (first | (with_reducible first | exact HB.out | apply below_alloc | apply pw_below_drewN | apply below_drew1 | refine below_set ?_ GE244.out | refine below_set ?_ GE245.out | refine below_set ?_ GE246.out) | exact HB.out)⟩⟩
              · rw [if_neg c39] at H
                have c39b0 : (t255 == 0) = false := beq_eq_false_iff_ne.mpr c39
                have c39b1 : (t255 != 0) = true := bne_iff_ne.mpr c39
                have H' := Aside0.mk H
                clear H
                go_wp2_with (first | (go_at_call 15; (with_reducible refine (post_Kind.calls t248 t256 _ A29.out).mono ?_); rintro e w' ⟨rfl, ⟨nd, rfl⟩⟩) | (go_at_call 15; (with_reducible refine (post_Kind.calls t250 t257 _ A32.out).mono ?_); rintro e w' ⟨rfl, ⟨nd, rfl⟩⟩))
                go_meet
                case rel => exact ⟨_, (true), (by first | rfl | (simp; done) | (simp [*]; done)), H', ⟨by first | omega | exact Nat.le_refl _⟩, ⟨by (with_reducible repeat (first | refine blk_drewN ?_ _ | refine blk_drew ?_ | refine blk_alloc ?_ _)); exact BK244.out⟩, ⟨by (with_reducible repeat (first | refine blk_drewN ?_ _ | refine blk_drew ?_ | refine blk_alloc ?_ _)); exact BK245.out⟩, ⟨by (with_reducible repeat (first | refine blk_drewN ?_ _ | refine blk_drew ?_ | refine blk_alloc ?_ _)); exact BK246.out⟩, ⟨by repeat (first | (with_reducible first | exact HB.out | apply below_alloc | apply pw_below_drewN | apply below_drew1 | refine below_set ?_ GE244.out | refine below_set ?_ GE245.out | refine below_set ?_ GE246.out) | exact HB.out)⟩⟩
          · rw [if_neg c33] at H
            have c33b0 : (t257 == 99) = false := beq_eq_false_iff_ne.mpr c33
            have c33b1 : (t257 != 99) = true := bne_iff_ne.mpr c33
            have H' := Aside0.mk H
            clear H
            go_wp2_with (first | (go_at_call 15; (with_reducible refine (post_Kind.calls t248 t256 _ A29.out).mono ?_); rintro e w' ⟨rfl, ⟨nd, rfl⟩⟩) | (go_at_call 15; (with_reducible refine (post_Kind.calls t250 t257 _ A32.out).mono ?_); rintro e w' ⟨rfl, ⟨nd, rfl⟩⟩))
            go_meet
            case rel => exact ⟨_, (false), (by first | rfl | (simp; done) | (simp [*]; done)), H', ⟨by first | omega | exact Nat.le_refl _⟩, ⟨by (with_reducible repeat (first | refine blk_drewN ?_ _ | refine blk_drew ?_ | refine blk_alloc ?_ _)); exact BK244.out⟩, ⟨by (with_reducible repeat (first | refine blk_drewN ?_ _ | refine blk_drew ?_ | refine blk_alloc ?_ _)); exact BK245.out⟩, ⟨by (with_reducible repeat (first | refine blk_drewN ?_ _ | refine blk_drew ?_ | refine blk_alloc ?_ _)); exact BK246.out⟩, ⟨by repeat (first | (with_reducible first | exact HB.out | apply below_alloc | apply pw_below_drewN | apply below_drew1 | refine below_set ?_ GE244.out | refine below_set ?_ GE245.out | refine below_set ?_ GE246.out) | exact HB.out)⟩⟩
        · rw [if_neg c31] at H
          have c31b0 : (t251 == 0) = false := beq_eq_false_iff_ne.mpr c31
          have c31b1 : (t251 != 0) = true := bne_iff_ne.mpr c31
          by_cases c41 : t253 = 0
          · rw [if_pos c41] at H
            have c41b0 : (t253 == 0) = true := beq_iff_eq.mpr c41
            have c41b1 : (t253 != 0) = false := bne_eq_false_iff_eq.mpr c41
            clear c41
            replace H := Option.bind_eq_some_iff.mp H
            obtain ⟨t261, A420, H⟩ := H
            replace H : (if t261 = 121 then (if t255 = 0 then ((post_Kind.f t254).bind fun t262 => (selvedgelaw18_PostLetters.j0 k t247 t248 (t262 == 118) a0_7 a0_8 a0_9 a0_10)) else (selvedgelaw18_PostLetters.j0 k t247 t248 true a0_7 a0_8 a0_9 a0_10)) else (selvedgelaw18_PostLetters.j0 k t247 t248 false a0_7 a0_8 a0_9 a0_10)) = some r := H
            have A42 := Aside0.mk A420
            clear A420
            by_cases c43 : t261 = 121
            · rw [if_pos c43] at H
              have c43b0 : (t261 == 121) = true := beq_iff_eq.mpr c43
              have c43b1 : (t261 != 121) = false := bne_eq_false_iff_eq.mpr c43
              clear c43
              by_cases c44 : t255 = 0
              · rw [if_pos c44] at H
                have c44b0 : (t255 == 0) = true := beq_iff_eq.mpr c44
                have c44b1 : (t255 != 0) = false := bne_eq_false_iff_eq.mpr c44
                clear c44
                replace H := Option.bind_eq_some_iff.mp H
                obtain ⟨t262, A450, H⟩ := H
                replace H : (selvedgelaw18_PostLetters.j0 k t247 t248 (t262 == 118) a0_7 a0_8 a0_9 a0_10) = some r := H
                have A45 := Aside0.mk A450
                clear A450
                have H' := Aside0.mk H
                clear H
                go_wp2_with (first | (go_at_call 15; (with_reducible refine (post_Kind.calls t248 t256 _ A29.out).mono ?_); rintro e w' ⟨rfl, ⟨nd, rfl⟩⟩) | (go_at_call 15; (with_reducible refine (post_Kind.calls t252 t261 _ A42.out).mono ?_); rintro e w' ⟨rfl, ⟨nd, rfl⟩⟩) | (go_at_call 15; (with_reducible refine (post_Kind.calls t254 t262 _ A45.out).mono ?_); rintro e w' ⟨rfl, ⟨nd, rfl⟩⟩))
                go_meet
                case rel => exact ⟨_, ((t262 == 118)), (by first | rfl | (simp; done) | (simp [*]; done)), H', ⟨by first | omega | exact Nat.le_refl _⟩, ⟨by (with_reducible repeat (first | refine blk_drewN ?_ _ | refine blk_drew ?_ | refine blk_alloc ?_ _)); exact BK244.out⟩, ⟨by (with_reducible repeat (first | refine blk_drewN ?_ _ | refine blk_drew ?_ | refine blk_alloc ?_ _)); exact BK245.out⟩, ⟨by (with_reducible repeat (first | refine blk_drewN ?_ _ | refine blk_drew ?_ | refine blk_alloc ?_ _)); exact BK246.out⟩, ⟨by repeat (first | (with_reducible first | exact HB.out | apply below_alloc | apply pw_below_drewN | apply below_drew1 | refine below_set ?_ GE244.out | refine below_set ?_ GE245.out | refine below_set ?_ GE246.out) | exact HB.out)⟩⟩
              · rw [if_neg c44] at H
                have c44b0 : (t255 == 0) = false := beq_eq_false_iff_ne.mpr c44
                have c44b1 : (t255 != 0) = true := bne_iff_ne.mpr c44
                have H' := Aside0.mk H
                clear H
                go_wp2_with (first | (go_at_call 15; (with_reducible refine (post_Kind.calls t248 t256 _ A29.out).mono ?_); rintro e w' ⟨rfl, ⟨nd, rfl⟩⟩) | (go_at_call 15; (with_reducible refine (post_Kind.calls t252 t261 _ A42.out).mono ?_); rintro e w' ⟨rfl, ⟨nd, rfl⟩⟩))
                go_meet
                case rel => exact ⟨_, (true), (by first | rfl | (simp; done) | (simp [*]; done)), H', ⟨by first | omega | exact Nat.le_refl _⟩, ⟨by (with_reducible repeat (first | refine blk_drewN ?_ _ | refine blk_drew ?_ | refine blk_alloc ?_ _)); exact BK244.out⟩, ⟨by (with_reducible repeat (first | refine blk_drewN ?_ _ | refine blk_drew ?_ | refine blk_alloc ?_ _)); exact BK245.out⟩, ⟨by (with_reducible repeat (first | refine blk_drewN ?_ _ | refine blk_drew ?_ | refine blk_alloc ?_ _)); exact BK246.out⟩, ⟨by repeat (first | (with_reducible first | exact HB.out | apply below_alloc | apply pw_below_drewN | apply below_drew1 | refine below_set ?_ GE244.out | refine below_set ?_ GE245.out | refine below_set ?_ GE246.out) | exact HB.out)⟩⟩
            · rw [if_neg c43] at H
              have c43b0 : (t261 == 121) = false := beq_eq_false_iff_ne.mpr c43
              have c43b1 : (t261 != 121) = true := bne_iff_ne.mpr c43
              have H' := Aside0.mk H
              clear H
              go_wp2_with (first | (go_at_call 15; (with_reducible refine (post_Kind.calls t248 t256 _ A29.out).mono ?_); rintro e w' ⟨rfl, ⟨nd, rfl⟩⟩) | (go_at_call 15; (with_reducible refine (post_Kind.calls t252 t261 _ A42.out).mono ?_); rintro e w' ⟨rfl, ⟨nd, rfl⟩⟩))
              go_meet
              case rel => exact ⟨_, (false), (by first | rfl | (simp; done) | (simp [*]; done)), H', ⟨by first | omega | exact Nat.le_refl _⟩, ⟨by (with_reducible repeat (first | refine blk_drewN ?_ _ | refine blk_drew ?_ | refine blk_alloc ?_ _)); exact BK244.out⟩, ⟨by (with_reducible repeat (first | refine blk_drewN ?_ _ | refine blk_drew ?_ | refine blk_alloc ?_ _)); exact BK245.out⟩, ⟨by (with_reducible repeat (first | refine blk_drewN ?_ _ | refine blk_drew ?_ | refine blk_alloc ?_ _)); exact BK246.out⟩, ⟨by repeat (first | (with_reducible first | exact HB.out | apply below_alloc | apply pw_below_drewN | apply below_drew1 | refine below_set ?_ GE244.out | refine below_set ?_ GE245.out | refine below_set ?_ GE246.out) | exact HB.out)⟩⟩
          · rw [if_neg c41] at H
            have c41b0 : (t253 == 0) = false := beq_eq_false_iff_ne.mpr c41
            have c41b1 : (t253 != 0) = true := bne_iff_ne.mpr c41
            by_cases c46 : t255 = 0
            · rw [if_pos c46] at H
              have c46b0 : (t255 == 0) = true := beq_iff_eq.mpr c46
              have c46b1 : (t255 != 0) = false := bne_eq_false_iff_eq.mpr c46
              clear c46
              replace H := Option.bind_eq_some_iff.mp H
              obtain ⟨t263, A470, H⟩ := H
              replace H : (selvedgelaw18_PostLetters.j0 k t247 t248 (t263 == 118) a0_7 a0_8 a0_9 a0_10) = some r := H
              have A47 := Aside0.mk A470
              clear A470
              have H' := Aside0.mk H
              clear H
              go_wp2_with (first | (go_at_call 15; (with_reducible refine (post_Kind.calls t248 t256 _ A29.out).mono ?_); rintro e w' ⟨rfl, ⟨nd, rfl⟩⟩) | (go_at_call 15; (with_reducible refine (post_Kind.calls t254 t263 _ A47.out).mono ?_); rintro e w' ⟨rfl, ⟨nd, rfl⟩⟩))
              go_meet
              case rel => exact ⟨_, ((t263 == 118)), (by first | rfl | (simp; done) | (simp [*]; done)), H', ⟨by first | omega | exact Nat.le_refl _⟩, ⟨by (with_reducible repeat (first | refine blk_drewN ?_ _ | refine blk_drew ?_ | refine blk_alloc ?_ _)); exact BK244.out⟩, ⟨by (with_reducible repeat (first | refine blk_drewN ?_ _ | refine blk_drew ?_ | refine blk_alloc ?_ _)); exact BK245.out⟩, ⟨by (with_reducible repeat (first | refine blk_drewN ?_ _ | refine blk_drew ?_ | refine blk_alloc ?_ _)); exact BK246.out⟩, ⟨by repeat (first | (with_reducible first | exact HB.out | apply below_alloc | apply pw_below_drewN | apply below_drew1 | refine below_set ?_ GE244.out | refine below_set ?_ GE245.out | refine below_set ?_ GE246.out) | exact HB.out)⟩⟩
            · rw [if_neg c46] at H
              have c46b0 : (t255 == 0) = false := beq_eq_false_iff_ne.mpr c46
              have c46b1 : (t255 != 0) = true := bne_iff_ne.mpr c46
              have H' := Aside0.mk H
              clear H
              go_wp2_with (first | (go_at_call 15; (with_reducible refine (post_Kind.calls t248 t256 _ A29.out).mono ?_); rintro e w' ⟨rfl, ⟨nd, rfl⟩⟩))
              go_meet
              case rel => exact ⟨_, (true), (by first | rfl | (simp; done) | (simp [*]; done)), H', ⟨by first | omega | exact Nat.le_refl _⟩, ⟨by (with_reducible repeat (first | refine blk_drewN ?_ _ | refine blk_drew ?_ | refine blk_alloc ?_ _)); exact BK244.out⟩, ⟨by (with_reducible repeat (first | refine blk_drewN ?_ _ | refine blk_drew ?_ | refine blk_alloc ?_ _)); exact BK245.out⟩, ⟨by (with_reducible repeat (first | refine blk_drewN ?_ _ | refine blk_drew ?_ | refine blk_alloc ?_ _)); exact BK246.out⟩, ⟨by repeat (first | (with_reducible first | exact HB.out | apply below_alloc | apply pw_below_drewN | apply below_drew1 | refine below_set ?_ GE244.out | refine below_set ?_ GE245.out | refine below_set ?_ GE246.out) | exact HB.out)⟩⟩
      · rw [if_neg c30] at H
        have c30b0 : (t256 == 104) = false := beq_eq_false_iff_ne.mpr c30
        have c30b1 : (t256 != 104) = true := bne_iff_ne.mpr c30
        have H' := Aside0.mk H
        clear H
        go_wp2_with (first | (go_at_call 15; (with_reducible refine (post_Kind.calls t248 t256 _ A29.out).mono ?_); rintro e w' ⟨rfl, ⟨nd, rfl⟩⟩))
        go_meet
        case rel => exact ⟨_, (false), (by first | rfl | (simp; done) | (simp [*]; done)), H', ⟨by first | omega | exact Nat.le_refl _⟩, ⟨by (with_reducible repeat (first | refine blk_drewN ?_ _ | refine blk_drew ?_ | refine blk_alloc ?_ _)); exact BK244.out⟩, ⟨by (with_reducible repeat (first | refine blk_drewN ?_ _ | refine blk_drew ?_ | refine blk_alloc ?_ _)); exact BK245.out⟩, ⟨by (with_reducible repeat (first | refine blk_drewN ?_ _ | refine blk_drew ?_ | refine blk_alloc ?_ _)); exact BK246.out⟩, ⟨by repeat (first | (with_reducible first | exact HB.out | apply below_alloc | apply pw_below_drewN | apply below_drew1 | refine below_set ?_ GE244.out | refine below_set ?_ GE245.out | refine below_set ?_ GE246.out) | exact HB.out)⟩⟩
    · rw [if_neg c28] at H
      have c28b0 : (t249 == 0) = false := beq_eq_false_iff_ne.mpr c28
      have c28b1 : (t249 != 0) = true := bne_iff_ne.mpr c28
      (first | rw [c28b0] | (simp only [i64_w, i32_w]; rw [c28b0]) | skip)
      by_cases c48 : t251 = 0
      · rw [if_pos c48] at H
        have c48b0 : (t251 == 0) = true := beq_iff_eq.mpr c48
        have c48b1 : (t251 != 0) = false := bne_eq_false_iff_eq.mpr c48
        clear c48
        replace H := Option.bind_eq_some_iff.mp H
        obtain ⟨t264, A490, H⟩ := H
        replace H : (if t264 = 99 then (if t253 = 0 then ((post_Kind.f t252).bind fun t265 => (if t265 = 121 then (if t255 = 0 then ((post_Kind.f t254).bind fun t266 => (selvedgelaw18_PostLetters.j0 k t247 t248 (t266 == 118) a0_7 a0_8 a0_9 a0_10)) else (selvedgelaw18_PostLetters.j0 k t247 t248 true a0_7 a0_8 a0_9 a0_10)) else (selvedgelaw18_PostLetters.j0 k t247 t248 false a0_7 a0_8 a0_9 a0_10))) else (if t255 = 0 then ((post_Kind.f t254).bind fun t267 => (selvedgelaw18_PostLetters.j0 k t247 t248 (t267 == 118) a0_7 a0_8 a0_9 a0_10)) else (selvedgelaw18_PostLetters.j0 k t247 t248 true a0_7 a0_8 a0_9 a0_10))) else (selvedgelaw18_PostLetters.j0 k t247 t248 false a0_7 a0_8 a0_9 a0_10)) = some r := H
        have A49 := Aside0.mk A490
        clear A490
        by_cases c50 : t264 = 99
        · rw [if_pos c50] at H
          have c50b0 : (t264 == 99) = true := beq_iff_eq.mpr c50
          have c50b1 : (t264 != 99) = false := bne_eq_false_iff_eq.mpr c50
          clear c50
          by_cases c51 : t253 = 0
          · rw [if_pos c51] at H
            have c51b0 : (t253 == 0) = true := beq_iff_eq.mpr c51
            have c51b1 : (t253 != 0) = false := bne_eq_false_iff_eq.mpr c51
            clear c51
            replace H := Option.bind_eq_some_iff.mp H
            obtain ⟨t265, A520, H⟩ := H
            replace H : (if t265 = 121 then (if t255 = 0 then ((post_Kind.f t254).bind fun t266 => (selvedgelaw18_PostLetters.j0 k t247 t248 (t266 == 118) a0_7 a0_8 a0_9 a0_10)) else (selvedgelaw18_PostLetters.j0 k t247 t248 true a0_7 a0_8 a0_9 a0_10)) else (selvedgelaw18_PostLetters.j0 k t247 t248 false a0_7 a0_8 a0_9 a0_10)) = some r := H
            have A52 := Aside0.mk A520
            clear A520
            by_cases c53 : t265 = 121
            · rw [if_pos c53] at H
              have c53b0 : (t265 == 121) = true := beq_iff_eq.mpr c53
              have c53b1 : (t265 != 121) = false := bne_eq_false_iff_eq.mpr c53
              clear c53
              by_cases c54 : t255 = 0
              · rw [if_pos c54] at H
                have c54b0 : (t255 == 0) = true := beq_iff_eq.mpr c54
                have c54b1 : (t255 != 0) = false := bne_eq_false_iff_eq.mpr c54
                clear c54
                replace H := Option.bind_eq_some_iff.mp H
                obtain ⟨t266, A550, H⟩ := H
                replace H : (selvedgelaw18_PostLetters.j0 k t247 t248 (t266 == 118) a0_7 a0_8 a0_9 a0_10) = some r := H
                have A55 := Aside0.mk A550
                clear A550
                have H' := Aside0.mk H
                clear H
                go_wp2_with (first | (go_at_call 15; (with_reducible refine (post_Kind.calls t250 t264 _ A49.out).mono ?_); rintro e w' ⟨rfl, ⟨nd, rfl⟩⟩) | (go_at_call 15; (with_reducible refine (post_Kind.calls t252 t265 _ A52.out).mono ?_); rintro e w' ⟨rfl, ⟨nd, rfl⟩⟩) | (go_at_call 15; (with_reducible refine (post_Kind.calls t254 t266 _ A55.out).mono ?_); rintro e w' ⟨rfl, ⟨nd, rfl⟩⟩))
                go_meet
                case rel => exact ⟨_, ((t266 == 118)), (by first | rfl | (simp; done) | (simp [*]; done)), H', ⟨by first | omega | exact Nat.le_refl _⟩, ⟨by (with_reducible repeat (first | refine blk_drewN ?_ _ | refine blk_drew ?_ | refine blk_alloc ?_ _)); exact BK244.out⟩, ⟨by (with_reducible repeat (first | refine blk_drewN ?_ _ | refine blk_drew ?_ | refine blk_alloc ?_ _)); exact BK245.out⟩, ⟨by (with_reducible repeat (first | refine blk_drewN ?_ _ | refine blk_drew ?_ | refine blk_alloc ?_ _)); exact BK246.out⟩, ⟨by repeat (first | (with_reducible first | exact HB.out | apply below_alloc | apply pw_below_drewN | apply below_drew1 | refine below_set ?_ GE244.out | refine below_set ?_ GE245.out | refine below_set ?_ GE246.out) | exact HB.out)⟩⟩
              · rw [if_neg c54] at H
                have c54b0 : (t255 == 0) = false := beq_eq_false_iff_ne.mpr c54
                have c54b1 : (t255 != 0) = true := bne_iff_ne.mpr c54
                have H' := Aside0.mk H
                clear H
                go_wp2_with (first | (go_at_call 15; (with_reducible refine (post_Kind.calls t250 t264 _ A49.out).mono ?_); rintro e w' ⟨rfl, ⟨nd, rfl⟩⟩) | (go_at_call 15; (with_reducible refine (post_Kind.calls t252 t265 _ A52.out).mono ?_); rintro e w' ⟨rfl, ⟨nd, rfl⟩⟩))
                go_meet
                case rel => exact ⟨_, (true), (by first | rfl | (simp; done) | (simp [*]; done)), H', ⟨by first | omega | exact Nat.le_refl _⟩, ⟨by (with_reducible repeat (first | refine blk_drewN ?_ _ | refine blk_drew ?_ | refine blk_alloc ?_ _)); exact BK244.out⟩, ⟨by (with_reducible repeat (first | refine blk_drewN ?_ _ | refine blk_drew ?_ | refine blk_alloc ?_ _)); exact BK245.out⟩, ⟨by (with_reducible repeat (first | refine blk_drewN ?_ _ | refine blk_drew ?_ | refine blk_alloc ?_ _)); exact BK246.out⟩, ⟨by repeat (first | (with_reducible first | exact HB.out | apply below_alloc | apply pw_below_drewN | apply below_drew1 | refine below_set ?_ GE244.out | refine below_set ?_ GE245.out | refine below_set ?_ GE246.out) | exact HB.out)⟩⟩
            · rw [if_neg c53] at H
              have c53b0 : (t265 == 121) = false := beq_eq_false_iff_ne.mpr c53
              have c53b1 : (t265 != 121) = true := bne_iff_ne.mpr c53
              have H' := Aside0.mk H
              clear H
              go_wp2_with (first | (go_at_call 15; (with_reducible refine (post_Kind.calls t250 t264 _ A49.out).mono ?_); rintro e w' ⟨rfl, ⟨nd, rfl⟩⟩) | (go_at_call 15; (with_reducible refine (post_Kind.calls t252 t265 _ A52.out).mono ?_); rintro e w' ⟨rfl, ⟨nd, rfl⟩⟩))
              go_meet
              case rel => exact ⟨_, (false), (by first | rfl | (simp; done) | (simp [*]; done)), H', ⟨by first | omega | exact Nat.le_refl _⟩, ⟨by (with_reducible repeat (first | refine blk_drewN ?_ _ | refine blk_drew ?_ | refine blk_alloc ?_ _)); exact BK244.out⟩, ⟨by (with_reducible repeat (first | refine blk_drewN ?_ _ | refine blk_drew ?_ | refine blk_alloc ?_ _)); exact BK245.out⟩, ⟨by (with_reducible repeat (first | refine blk_drewN ?_ _ | refine blk_drew ?_ | refine blk_alloc ?_ _)); exact BK246.out⟩, ⟨by repeat (first | (with_reducible first | exact HB.out | apply below_alloc | apply pw_below_drewN | apply below_drew1 | refine below_set ?_ GE244.out | refine below_set ?_ GE245.out | refine below_set ?_ GE246.out) | exact HB.out)⟩⟩
          · rw [if_neg c51] at H
            have c51b0 : (t253 == 0) = false := beq_eq_false_iff_ne.mpr c51
            have c51b1 : (t253 != 0) = true := bne_iff_ne.mpr c51
            by_cases c56 : t255 = 0
            · rw [if_pos c56] at H
              have c56b0 : (t255 == 0) = true := beq_iff_eq.mpr c56
              have c56b1 : (t255 != 0) = false := bne_eq_false_iff_eq.mpr c56
              clear c56
              replace H := Option.bind_eq_some_iff.mp H
              obtain ⟨t267, A570, H⟩ := H
              replace H : (selvedgelaw18_PostLetters.j0 k t247 t248 (t267 == 118) a0_7 a0_8 a0_9 a0_10) = some r := H
              have A57 := Aside0.mk A570
              clear A570
              have H' := Aside0.mk H
              clear H
              go_wp2_with (first | (go_at_call 15; (with_reducible refine (post_Kind.calls t250 t264 _ A49.out).mono ?_); rintro e w' ⟨rfl, ⟨nd, rfl⟩⟩) | (go_at_call 15; (with_reducible refine (post_Kind.calls t254 t267 _ A57.out).mono ?_); rintro e w' ⟨rfl, ⟨nd, rfl⟩⟩))
              go_meet
              case rel => exact ⟨_, ((t267 == 118)), (by first | rfl | (simp; done) | (simp [*]; done)), H', ⟨by first | omega | exact Nat.le_refl _⟩, ⟨by (with_reducible repeat (first | refine blk_drewN ?_ _ | refine blk_drew ?_ | refine blk_alloc ?_ _)); exact BK244.out⟩, ⟨by (with_reducible repeat (first | refine blk_drewN ?_ _ | refine blk_drew ?_ | refine blk_alloc ?_ _)); exact BK245.out⟩, ⟨by (with_reducible repeat (first | refine blk_drewN ?_ _ | refine blk_drew ?_ | refine blk_alloc ?_ _)); exact BK246.out⟩, ⟨by repeat (first | (with_reducible first | exact HB.out | apply below_alloc | apply pw_below_drewN | apply below_drew1 | refine below_set ?_ GE244.out | refine below_set ?_ GE245.out | refine below_set ?_ GE246.out) | exact HB.out)⟩⟩
            · rw [if_neg c56] at H
              have c56b0 : (t255 == 0) = false := beq_eq_false_iff_ne.mpr c56
              have c56b1 : (t255 != 0) = true := bne_iff_ne.mpr c56
              have H' := Aside0.mk H
              clear H
              go_wp2_with (first | (go_at_call 15; (with_reducible refine (post_Kind.calls t250 t264 _ A49.out).mono ?_); rintro e w' ⟨rfl, ⟨nd, rfl⟩⟩))
              go_meet
              case rel => exact ⟨_, (true), (by first | rfl | (simp; done) | (simp [*]; done)), H', ⟨by first | omega | exact Nat.le_refl _⟩, ⟨by (with_reducible repeat (first | refine blk_drewN ?_ _ | refine blk_drew ?_ | refine blk_alloc ?_ _)); exact BK244.out⟩, ⟨by (with_reducible repeat (first | refine blk_drewN ?_ _ | refine blk_drew ?_ | refine blk_alloc ?_ _)); exact BK245.out⟩, ⟨by (with_reducible repeat (first | refine blk_drewN ?_ _ | refine blk_drew ?_ | refine blk_alloc ?_ _)); exact BK246.out⟩, ⟨by repeat (first | (with_reducible first | exact HB.out | apply below_alloc | apply pw_below_drewN | apply below_drew1 | refine below_set ?_ GE244.out | refine below_set ?_ GE245.out | refine below_set ?_ GE246.out) | exact HB.out)⟩⟩
        · rw [if_neg c50] at H
          have c50b0 : (t264 == 99) = false := beq_eq_false_iff_ne.mpr c50
          have c50b1 : (t264 != 99) = true := bne_iff_ne.mpr c50
          have H' := Aside0.mk H
          clear H
          go_wp2_with (first | (go_at_call 15; (with_reducible refine (post_Kind.calls t250 t264 _ A49.out).mono ?_); rintro e w' ⟨rfl, ⟨nd, rfl⟩⟩))
          go_meet
          case rel => exact ⟨_, (false), (by first | rfl | (simp; done) | (simp [*]; done)), H', ⟨by first | omega | exact Nat.le_refl _⟩, ⟨by (with_reducible repeat (first | refine blk_drewN ?_ _ | refine blk_drew ?_ | refine blk_alloc ?_ _)); exact BK244.out⟩, ⟨by (with_reducible repeat (first | refine blk_drewN ?_ _ | refine blk_drew ?_ | refine blk_alloc ?_ _)); exact BK245.out⟩, ⟨by (with_reducible repeat (first | refine blk_drewN ?_ _ | refine blk_drew ?_ | refine blk_alloc ?_ _)); exact BK246.out⟩, ⟨by repeat (first | (with_reducible first | exact HB.out | apply below_alloc | apply pw_below_drewN | apply below_drew1 | refine below_set ?_ GE244.out | refine below_set ?_ GE245.out | refine below_set ?_ GE246.out) | exact HB.out)⟩⟩
      · rw [if_neg c48] at H
        have c48b0 : (t251 == 0) = false := beq_eq_false_iff_ne.mpr c48
        have c48b1 : (t251 != 0) = true := bne_iff_ne.mpr c48
        by_cases c58 : t253 = 0
        · rw [if_pos c58] at H
          have c58b0 : (t253 == 0) = true := beq_iff_eq.mpr c58
          have c58b1 : (t253 != 0) = false := bne_eq_false_iff_eq.mpr c58
          clear c58
          replace H := Option.bind_eq_some_iff.mp H
          obtain ⟨t268, A590, H⟩ := H
          replace H : (if t268 = 121 then (if t255 = 0 then ((post_Kind.f t254).bind fun t269 => (selvedgelaw18_PostLetters.j0 k t247 t248 (t269 == 118) a0_7 a0_8 a0_9 a0_10)) else (selvedgelaw18_PostLetters.j0 k t247 t248 true a0_7 a0_8 a0_9 a0_10)) else (selvedgelaw18_PostLetters.j0 k t247 t248 false a0_7 a0_8 a0_9 a0_10)) = some r := H
          have A59 := Aside0.mk A590
          clear A590
          by_cases c60 : t268 = 121
          · rw [if_pos c60] at H
            have c60b0 : (t268 == 121) = true := beq_iff_eq.mpr c60
            have c60b1 : (t268 != 121) = false := bne_eq_false_iff_eq.mpr c60
            clear c60
            by_cases c61 : t255 = 0
            · rw [if_pos c61] at H
              have c61b0 : (t255 == 0) = true := beq_iff_eq.mpr c61
              have c61b1 : (t255 != 0) = false := bne_eq_false_iff_eq.mpr c61
              clear c61
              replace H := Option.bind_eq_some_iff.mp H
              obtain ⟨t269, A620, H⟩ := H
              replace H : (selvedgelaw18_PostLetters.j0 k t247 t248 (t269 == 118) a0_7 a0_8 a0_9 a0_10) = some r := H
              have A62 := Aside0.mk A620
              clear A620
              have H' := Aside0.mk H
              clear H
              go_wp2_with (first | (go_at_call 15; (with_reducible refine (post_Kind.calls t252 t268 _ A59.out).mono ?_); rintro e w' ⟨rfl, ⟨nd, rfl⟩⟩) | (go_at_call 15; (with_reducible refine (post_Kind.calls t254 t269 _ A62.out).mono ?_); rintro e w' ⟨rfl, ⟨nd, rfl⟩⟩))
              go_meet
              case rel => exact ⟨_, ((t269 == 118)), (by first | rfl | (simp; done) | (simp [*]; done)), H', ⟨by first | omega | exact Nat.le_refl _⟩, ⟨by (with_reducible repeat (first | refine blk_drewN ?_ _ | refine blk_drew ?_ | refine blk_alloc ?_ _)); exact BK244.out⟩, ⟨by (with_reducible repeat (first | refine blk_drewN ?_ _ | refine blk_drew ?_ | refine blk_alloc ?_ _)); exact BK245.out⟩, ⟨by (with_reducible repeat (first | refine blk_drewN ?_ _ | refine blk_drew ?_ | refine blk_alloc ?_ _)); exact BK246.out⟩, ⟨by repeat (first | (with_reducible first | exact HB.out | apply below_alloc | apply pw_below_drewN | apply below_drew1 | refine below_set ?_ GE244.out | refine below_set ?_ GE245.out | refine below_set ?_ GE246.out) | exact HB.out)⟩⟩
            · rw [if_neg c61] at H
              have c61b0 : (t255 == 0) = false := beq_eq_false_iff_ne.mpr c61
              have c61b1 : (t255 != 0) = true := bne_iff_ne.mpr c61
              have H' := Aside0.mk H
              clear H
              go_wp2_with (first | (go_at_call 15; (with_reducible refine (post_Kind.calls t252 t268 _ A59.out).mono ?_); rintro e w' ⟨rfl, ⟨nd, rfl⟩⟩))
              go_meet
              case rel => exact ⟨_, (true), (by first | rfl | (simp; done) | (simp [*]; done)), H', ⟨by first | omega | exact Nat.le_refl _⟩, ⟨by (with_reducible repeat (first | refine blk_drewN ?_ _ | refine blk_drew ?_ | refine blk_alloc ?_ _)); exact BK244.out⟩, ⟨by (with_reducible repeat (first | refine blk_drewN ?_ _ | refine blk_drew ?_ | refine blk_alloc ?_ _)); exact BK245.out⟩, ⟨by (with_reducible repeat (first | refine blk_drewN ?_ _ | refine blk_drew ?_ | refine blk_alloc ?_ _)); exact BK246.out⟩, ⟨by repeat (first | (with_reducible first | exact HB.out | apply below_alloc | apply pw_below_drewN | apply below_drew1 | refine below_set ?_ GE244.out | refine below_set ?_ GE245.out | refine below_set ?_ GE246.out) | exact HB.out)⟩⟩
          · rw [if_neg c60] at H
            have c60b0 : (t268 == 121) = false := beq_eq_false_iff_ne.mpr c60
            have c60b1 : (t268 != 121) = true := bne_iff_ne.mpr c60
            have H' := Aside0.mk H
            clear H
            go_wp2_with (first | (go_at_call 15; (with_reducible refine (post_Kind.calls t252 t268 _ A59.out).mono ?_); rintro e w' ⟨rfl, ⟨nd, rfl⟩⟩))
            go_meet
            case rel => exact ⟨_, (false), (by first | rfl | (simp; done) | (simp [*]; done)), H', ⟨by first | omega | exact Nat.le_refl _⟩, ⟨by (with_reducible repeat (first | refine blk_drewN ?_ _ | refine blk_drew ?_ | refine blk_alloc ?_ _)); exact BK244.out⟩, ⟨by (with_reducible repeat (first | refine blk_drewN ?_ _ | refine blk_drew ?_ | refine blk_alloc ?_ _)); exact BK245.out⟩, ⟨by (with_reducible repeat (first | refine blk_drewN ?_ _ | refine blk_drew ?_ | refine blk_alloc ?_ _)); exact BK246.out⟩, ⟨by repeat (first | (with_reducible first | exact HB.out | apply below_alloc | apply pw_below_drewN | apply below_drew1 | refine below_set ?_ GE244.out | refine below_set ?_ GE245.out | refine below_set ?_ GE246.out) | exact HB.out)⟩⟩
        · rw [if_neg c58] at H
          have c58b0 : (t253 == 0) = false := beq_eq_false_iff_ne.mpr c58
          have c58b1 : (t253 != 0) = true := bne_iff_ne.mpr c58
          by_cases c63 : t255 = 0
          · rw [if_pos c63] at H
            have c63b0 : (t255 == 0) = true := beq_iff_eq.mpr c63
            have c63b1 : (t255 != 0) = false := bne_eq_false_iff_eq.mpr c63
            clear c63
            replace H := Option.bind_eq_some_iff.mp H
            obtain ⟨t270, A640, H⟩ := H
            replace H : (selvedgelaw18_PostLetters.j0 k t247 t248 (t270 == 118) a0_7 a0_8 a0_9 a0_10) = some r := H
            have A64 := Aside0.mk A640
            clear A640
            have H' := Aside0.mk H
            clear H
            go_wp2_with (first | (go_at_call 15; (with_reducible refine (post_Kind.calls t254 t270 _ A64.out).mono ?_); rintro e w' ⟨rfl, ⟨nd, rfl⟩⟩))
            go_meet
            case rel => exact ⟨_, ((t270 == 118)), (by first | rfl | (simp; done) | (simp [*]; done)), H', ⟨by first | omega | exact Nat.le_refl _⟩, ⟨by (with_reducible repeat (first | refine blk_drewN ?_ _ | refine blk_drew ?_ | refine blk_alloc ?_ _)); exact BK244.out⟩, ⟨by (with_reducible repeat (first | refine blk_drewN ?_ _ | refine blk_drew ?_ | refine blk_alloc ?_ _)); exact BK245.out⟩, ⟨by (with_reducible repeat (first | refine blk_drewN ?_ _ | refine blk_drew ?_ | refine blk_alloc ?_ _)); exact BK246.out⟩, ⟨by repeat (first | (with_reducible first | exact HB.out | apply below_alloc | apply pw_below_drewN | apply below_drew1 | refine below_set ?_ GE244.out | refine below_set ?_ GE245.out | refine below_set ?_ GE246.out) | exact HB.out)⟩⟩
          · rw [if_neg c63] at H
            have c63b0 : (t255 == 0) = false := beq_eq_false_iff_ne.mpr c63
            have c63b1 : (t255 != 0) = true := bne_iff_ne.mpr c63
            have H' := Aside0.mk H
            clear H
            go_wp2
            go_meet
            case rel => exact ⟨_, (true), (by first | rfl | (simp; done) | (simp [*]; done)), H', ⟨by first | omega | exact Nat.le_refl _⟩, ⟨by (with_reducible repeat (first | refine blk_drewN ?_ _ | refine blk_drew ?_ | refine blk_alloc ?_ _)); exact BK244.out⟩, ⟨by (with_reducible repeat (first | refine blk_drewN ?_ _ | refine blk_drew ?_ | refine blk_alloc ?_ _)); exact BK245.out⟩, ⟨by (with_reducible repeat (first | refine blk_drewN ?_ _ | refine blk_drew ?_ | refine blk_alloc ?_ _)); exact BK246.out⟩, ⟨by repeat (first | (with_reducible first | exact HB.out | apply below_alloc | apply pw_below_drewN | apply below_drew1 | refine below_set ?_ GE244.out | refine below_set ?_ GE245.out | refine below_set ?_ GE246.out) | exact HB.out)⟩⟩
  case rest =>
    clear HC7
    try clear c1
    try clear c2
    try clear p2
    try clear c3
    try clear c4
    try clear c5
    try clear c6
    try clear c8
    try clear c10
    try clear c11
    try clear c12
    try clear c15
    try clear c16
    try clear c28
    try clear c28b0
    try clear c28b1
    try clear c30
    try clear c30b0
    try clear c30b1
    try clear c31
    try clear c31b0
    try clear c31b1
    try clear c33
    try clear c33b0
    try clear c33b1
    try clear c34
    try clear c34b0
    try clear c34b1
    try clear c36
    try clear c36b0
    try clear c36b1
    try clear c37
    try clear c37b0
    try clear c37b1
    try clear c39
    try clear c39b0
    try clear c39b1
    try clear c41
    try clear c41b0
    try clear c41b1
    try clear c43
    try clear c43b0
    try clear c43b1
    try clear c44
    try clear c44b0
    try clear c44b1
    try clear c46
    try clear c46b0
    try clear c46b1
    try clear c48
    try clear c48b0
    try clear c48b1
    try clear c50
    try clear c50b0
    try clear c50b1
    try clear c51
    try clear c51b0
    try clear c51b1
    try clear c53
    try clear c53b0
    try clear c53b1
    try clear c54
    try clear c54b0
    try clear c54b1
    try clear c56
    try clear c56b0
    try clear c56b1
    try clear c58
    try clear c58b0
    try clear c58b1
    try clear c60
    try clear c60b0
    try clear c60b1
    try clear c61
    try clear c61b0
    try clear c61b1
    try clear c63
    try clear c63b0
    try clear c63b1
    try clear hcz12_0
    try clear hcz12_1
    try clear hcz12_2
    try clear hcz12_3
    try clear hcz12_4
    try clear hcz12_5
    try clear hcz13_0
    try clear hcz13_1
    try clear hcz13_10
    try clear hcz13_11
    try clear hcz13_2
    try clear hcz13_3
    try clear hcz13_4
    try clear hcz13_5
    try clear hcz13_6
    try clear hcz13_7
    try clear hcz13_8
    try clear hcz13_9
    try clear hcz17_0
    try clear hcz17_1
    try clear hcz17_2
    try clear hcz17_3
    try clear hcz18_0
    try clear hcz18_1
    try clear hcz18_10
    try clear hcz18_11
    try clear hcz18_2
    try clear hcz18_3
    try clear hcz18_4
    try clear hcz18_5
    try clear hcz18_6
    try clear hcz18_7
    try clear hcz18_8
    try clear hcz18_9
    try clear hcz20_0
    try clear hcz20_1
    try clear hcz20_2
    try clear hcz20_3
    try clear hcz20_4
    try clear hcz20_5
    try clear hcz22_0
    try clear hcz22_1
    try clear hcz22_2
    try clear hcz22_3
    try clear hcz22_4
    try clear hcz22_5
    try clear hcz24_0
    try clear hcz24_1
    try clear hcz24_2
    try clear hcz24_3
    try clear hcz26_0
    try clear hcz26_1
    try clear hcz26_2
    try clear hcz26_3
    try clear hcz9_0
    try clear hcz9_1
    try clear hcz9_10
    try clear hcz9_11
    try clear hcz9_2
    try clear hcz9_3
    try clear hcz9_4
    try clear hcz9_5
    try clear hcz9_6
    try clear hcz9_7
    try clear hcz9_8
    try clear hcz9_9
    try clear hfz12_0
    try clear hfz12_1
    try clear hfz12_2
    try clear hfz12_3
    try clear hfz12_4
    try clear hfz12_5
    try clear hfz13_0
    try clear hfz13_1
    try clear hfz13_10
    try clear hfz13_11
    try clear hfz13_2
    try clear hfz13_3
    try clear hfz13_4
    try clear hfz13_5
    try clear hfz13_6
    try clear hfz13_7
    try clear hfz13_8
    try clear hfz13_9
    try clear hfz17_0
    try clear hfz17_1
    try clear hfz17_2
    try clear hfz17_3
    try clear hfz18_0
    try clear hfz18_1
    try clear hfz18_10
    try clear hfz18_11
    try clear hfz18_2
    try clear hfz18_3
    try clear hfz18_4
    try clear hfz18_5
    try clear hfz18_6
    try clear hfz18_7
    try clear hfz18_8
    try clear hfz18_9
    try clear hfz20_0
    try clear hfz20_1
    try clear hfz20_2
    try clear hfz20_3
    try clear hfz20_4
    try clear hfz20_5
    try clear hfz22_0
    try clear hfz22_1
    try clear hfz22_2
    try clear hfz22_3
    try clear hfz22_4
    try clear hfz22_5
    try clear hfz24_0
    try clear hfz24_1
    try clear hfz24_2
    try clear hfz24_3
    try clear hfz26_0
    try clear hfz26_1
    try clear hfz26_2
    try clear hfz26_3
    try clear hfz9_0
    try clear hfz9_1
    try clear hfz9_10
    try clear hfz9_11
    try clear hfz9_2
    try clear hfz9_3
    try clear hfz9_4
    try clear hfz9_5
    try clear hfz9_6
    try clear hfz9_7
    try clear hfz9_8
    try clear hfz9_9
    obtain ⟨kq, x16_6, rfl, HA, HJ6, BK244, BK245, BK246, HB⟩ := hcut
    cases kq with
    | zero => exact absurd HA.out (by simp [selvedgelaw18_PostLetters.j0])
    | succ kj6 =>
      have H := HA.out
      clear HA
      simp only [selvedgelaw18_PostLetters.j0] at H
      by_cases c65 : t247 = true
      · subst c65
        have H1 : (if x16_6 = true then ((post_Tx.f a0_10).bind fun t271 => ((post_Kind.f t271).bind fun t272 => (if t272 = 116 then ((selvedgeref18_Kind.f t248).bind fun t273 => ((post_Kind.f t248).bind fun t274 => (some (t273 == t274)))) else (some false)))) else (some false)) = some r := by rw [if_pos rfl] at H; exact H
        clear H
        have H := H1
        clear H1
        by_cases c66 : x16_6 = true
        · subst c66
          have H1 : ((post_Tx.f a0_10).bind fun t271 => ((post_Kind.f t271).bind fun t272 => (if t272 = 116 then ((selvedgeref18_Kind.f t248).bind fun t273 => ((post_Kind.f t248).bind fun t274 => (some (t273 == t274)))) else (some false)))) = some r := by rw [if_pos rfl] at H; exact H
          clear H
          have H := H1
          clear H1
          replace H := Option.bind_eq_some_iff.mp H
          obtain ⟨t271, A670, H⟩ := H
          replace H : ((post_Kind.f t271).bind fun t272 => (if t272 = 116 then ((selvedgeref18_Kind.f t248).bind fun t273 => ((post_Kind.f t248).bind fun t274 => (some (t273 == t274)))) else (some false))) = some r := H
          have A67 := Aside0.mk A670
          clear A670
          replace H := Option.bind_eq_some_iff.mp H
          obtain ⟨t272, A680, H⟩ := H
          replace H : (if t272 = 116 then ((selvedgeref18_Kind.f t248).bind fun t273 => ((post_Kind.f t248).bind fun t274 => (some (t273 == t274)))) else (some false)) = some r := H
          have A68 := Aside0.mk A680
          clear A680
          by_cases c69 : t272 = 116
          · rw [if_pos c69] at H
            have c69b0 : (t272 == 116) = true := beq_iff_eq.mpr c69
            have c69b1 : (t272 != 116) = false := bne_eq_false_iff_eq.mpr c69
            clear c69
            replace H := Option.bind_eq_some_iff.mp H
            obtain ⟨t273, A700, H⟩ := H
            replace H : ((post_Kind.f t248).bind fun t274 => (some (t273 == t274))) = some r := H
            have A70 := Aside0.mk A700
            clear A700
            replace H := Option.bind_eq_some_iff.mp H
            obtain ⟨t274, A710, H⟩ := H
            replace H : (some (t273 == t274)) = some r := H
            have A71 := Aside0.mk A710
            clear A710
            obtain rfl := Option.some.inj H
            have hnb72 := NB246_244.out
            have hnc72 := NB244_246.out
            have hnb73 := NB246_245.out
            have hnc73 := NB245_246.out
            have hcz74_0 : wc.cell? ⟨gb246, 0, none⟩ = some (.int .i64 a0_7) := (blk_cell BK246.out 0).trans rfl
            have hcz74_1 : wc.cell? ⟨gb246, 1, none⟩ = some (.int .i64 a0_8) := (blk_cell BK246.out 1).trans rfl
            have hcz74_2 : wc.cell? ⟨gb246, 2, none⟩ = some (.int .i64 a0_9) := (blk_cell BK246.out 2).trans rfl
            have hcz74_3 : wc.cell? ⟨gb246, 3, none⟩ = some (.string a0_10) := (blk_cell BK246.out 3).trans rfl
            have hfz74_0 := blk_frozen BK246.out 0
            have hfz74_1 := blk_frozen BK246.out 1
            have hfz74_2 := blk_frozen BK246.out 2
            have hfz74_3 := blk_frozen BK246.out 3
            go_wp2_with (first | (go_at_call 14; (with_reducible refine (post_Tx.calls a0_10 t271 _ A67.out).mono ?_); rintro e w' ⟨rfl, ⟨nd, rfl⟩⟩) | (go_at_call 15; (with_reducible refine (post_Kind.calls t271 t272 _ A68.out).mono ?_); rintro e w' ⟨rfl, ⟨nd, rfl⟩⟩) | (go_at_call 16; (with_reducible refine (selvedgeref18_Kind.calls t248 t273 _ A70.out).mono ?_); rintro e w' ⟨rfl, ⟨nd, rfl⟩⟩) | (go_at_call 15; (with_reducible refine (post_Kind.calls t248 t274 _ A71.out).mono ?_); rintro e w' ⟨rfl, ⟨nd, rfl⟩⟩))
            go_ret
            exact ⟨by first | rfl | (simp [errW_none, errW_some] <;> rfl) | (simp [*, errW_none, errW_some] <;> rfl), by repeat (first | (with_reducible first | exact HB.out | apply below_alloc | apply pw_below_drewN | apply below_drew1 | refine below_set ?_ GE244.out | refine below_set ?_ GE245.out | refine below_set ?_ GE246.out) | exact HB.out)⟩
          · rw [if_neg c69] at H
            have c69b0 : (t272 == 116) = false := beq_eq_false_iff_ne.mpr c69
            have c69b1 : (t272 != 116) = true := bne_iff_ne.mpr c69
            obtain rfl := Option.some.inj H
            have hnb75 := NB246_244.out
            have hnc75 := NB244_246.out
            have hnb76 := NB246_245.out
            have hnc76 := NB245_246.out
            have hcz77_0 : wc.cell? ⟨gb246, 0, none⟩ = some (.int .i64 a0_7) := (blk_cell BK246.out 0).trans rfl
            have hcz77_1 : wc.cell? ⟨gb246, 1, none⟩ = some (.int .i64 a0_8) := (blk_cell BK246.out 1).trans rfl
            have hcz77_2 : wc.cell? ⟨gb246, 2, none⟩ = some (.int .i64 a0_9) := (blk_cell BK246.out 2).trans rfl
            have hcz77_3 : wc.cell? ⟨gb246, 3, none⟩ = some (.string a0_10) := (blk_cell BK246.out 3).trans rfl
            have hfz77_0 := blk_frozen BK246.out 0
            have hfz77_1 := blk_frozen BK246.out 1
            have hfz77_2 := blk_frozen BK246.out 2
            have hfz77_3 := blk_frozen BK246.out 3
            go_wp2_with (first | (go_at_call 14; (with_reducible refine (post_Tx.calls a0_10 t271 _ A67.out).mono ?_); rintro e w' ⟨rfl, ⟨nd, rfl⟩⟩) | (go_at_call 15; (with_reducible refine (post_Kind.calls t271 t272 _ A68.out).mono ?_); rintro e w' ⟨rfl, ⟨nd, rfl⟩⟩))
            go_ret
            exact ⟨by first | rfl | (simp [errW_none, errW_some] <;> rfl) | (simp [*, errW_none, errW_some] <;> rfl), by repeat (first | (with_reducible first | exact HB.out | apply below_alloc | apply pw_below_drewN | apply below_drew1 | refine below_set ?_ GE244.out | refine below_set ?_ GE245.out | refine below_set ?_ GE246.out) | exact HB.out)⟩
        · replace c66 := Bool.eq_false_iff.mpr c66
          subst c66
          have H1 : (some false) = some r := by rw [if_neg (show ¬ (false = true) by decide)] at H; exact H
          clear H
          have H := H1
          clear H1
          obtain rfl := Option.some.inj H
          go_wp2
          go_ret
          exact ⟨by first | rfl | (simp [errW_none, errW_some] <;> rfl) | (simp [*, errW_none, errW_some] <;> rfl), by repeat (first | (with_reducible first | exact HB.out | apply below_alloc | apply pw_below_drewN | apply below_drew1 | refine below_set ?_ GE244.out | refine below_set ?_ GE245.out | refine below_set ?_ GE246.out) | exact HB.out)⟩
      · replace c65 := Bool.eq_false_iff.mpr c65
        subst c65
        have H1 : (some false) = some r := by rw [if_neg (show ¬ (false = true) by decide)] at H; exact H
        clear H
        have H := H1
        clear H1
        obtain rfl := Option.some.inj H
        go_wp2
        go_ret
        exact ⟨by first | rfl | (simp [errW_none, errW_some] <;> rfl) | (simp [*, errW_none, errW_some] <;> rfl), by repeat (first | (with_reducible first | exact HB.out | apply below_alloc | apply pw_below_drewN | apply below_drew1 | refine below_set ?_ GE244.out | refine below_set ?_ GE245.out | refine below_set ?_ GE246.out) | exact HB.out)⟩
end Go.Proofs.Ytnkeecogengfhaa.Px
