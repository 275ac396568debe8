/- part 22 of the proof of the law PostOwn: texts merged by this session's bundle.py. What is proved: the statement at the end of the last of these texts; its conditions are those of the given row. -/
import Derived.Tactics2
import Derived.Defers
import Derived.Recover
import Derived.Laws.Pointers
import Derived.WalkLawsBesides
import Derived.Test.YtenbifjbeeobjaaZPostOwnD
import Derived.Test.YtenbifjbeeobjaaZPostOwnE
import Derived.Test.YtenbifjbeeobjaaZPostOwnU
namespace Go.Proofs.Ytenbifjbeeobjaa.Px
open Go.RowKit Go.Proofs.YtenbifjbeeobjaaW.PrintWords Go.Proofs.YtenbifjbeeobjaaW.PrintLast Go.Proofs.YtenbifjbeeobjaaW.PrintMore
attribute [local go_sem] max2_int min2_int max_two min_two max_three min_three max_four min_four
set_option linter.unusedVariables false
set_option linter.unusedSimpArgs false
def post_TakeSay.f (a0 : ByteArray) : Option (Int × Int × Int × ByteArray × Int) := (post_behind_Say.f a0 (⟨#[121]⟩ : ByteArray)).bind fun bt346 => (some (bt346.1, bt346.2.1, bt346.2.2.1, bt346.2.2.2.1, bt346.2.2.2.2))
set_option maxHeartbeats 8000000 in
set_option maxRecDepth 100000 in
theorem post_TakeSay.calls (a0 : ByteArray) (r1 : Int) (r2 : Int) (r3 : Int) (r4 : ByteArray) (r5 : Int) (w : World) (h : post_TakeSay.f a0 = some (r1, r2, r3, r4, r5)) :
    Calls Try.prog 11 #[.string a0] w fun e w' => e = .returned (.tuple #[.agg #[.int .i64 r1, .int .i64 r2, .int .i64 r3, .string r4], .int .i64 r5]) ∧ Below w.heap.size w w' := by
  have hu42 := Try.underlying42
  have HB := Aside0.mk (Below.refl w.heap.size w)
  have H : ((post_behind_Say.f a0 (⟨#[121]⟩ : ByteArray)).bind fun bt346 => (some (bt346.1, bt346.2.1, bt346.2.2.1, bt346.2.2.2.1, bt346.2.2.2.2))) = some (r1, r2, r3, r4, r5) := h
  clear h
  replace H := Option.bind_eq_some_iff.mp H
  obtain ⟨⟨t346, t347, t348, t349, t350⟩, A20, H⟩ := H
  replace H : (some (t346, t347, t348, t349, t350)) = some (r1, r2, r3, r4, r5) := H
  have A2 := Aside0.mk A20
  clear A20
  simp only [Option.some.injEq, Prod.mk.injEq] at H
  obtain ⟨rfl, rfl, rfl, rfl, rfl⟩ := H
  go_enter Try.func11, Try.ntmps11
  go_wp2_with (first | ((with_reducible refine gate_dst (N := 2) rfl ?_); refine box_event ?hg (N := 2) ?hd (cs := #[.int .i64 0, .int .i64 0, .int .i64 0, .string (⟨#[]⟩ : ByteArray)]) (t := 42) ?hr ?_; (case hd => rfl); (case hg => rfl); (case hr => first | (go_simp; done) | (go_simp; rfl)); intro gb345 hg w3 hbox hb; have n0_ := Aside0.mk (below_step (by repeat (first | (with_reducible first | exact HB.out | apply below_alloc | apply pw_below_drewN | apply below_drew1) | exact HB.out)) hb); have n1_ := Aside0.mk (hbox); have n2_ := Aside0.mk ((by rw [hg]; exact (below_size (by repeat (first | (with_reducible first | exact HB.out | apply below_alloc | apply pw_below_drewN | apply below_drew1) | exact HB.out))) : w.heap.size ≤ gb345)); have n3_ := Aside0.mk ((by rw [hg]; exact (below_size (by repeat (first | (with_reducible first | exact HB.out | apply below_alloc | apply pw_below_drewN | apply below_drew1) | exact HB.out))) : w.heap.size ≤ gb345)); clear HB; have HB := n0_; have BK345 := n1_; have GW345 := n2_; have GE345 := n3_; clear n0_ n1_ n2_ n3_; clear hb hbox hg) | ((with_reducible refine gate_callee (f := 35) rfl ?_); refine goesL_ (some 5) rfl rfl Try.func35 (by kernel_rfl) rfl #[.string a0, .string (⟨#[121]⟩ : ByteArray), .func (.func 36) #[] #[]] rfl (by (try simp only [List.map_toArray, List.map_cons, List.map_nil]); first | done | rfl | (simp only [List.length_drop, List.length_take]; rfl)) ?_; (with_reducible refine (post_behind_Say.calls a0 (⟨#[121]⟩ : ByteArray) t346 t347 t348 t349 t350 _ A2.out).mono ?_); rintro e w4 ⟨rfl, hb⟩; refine ⟨_, rfl, ?_⟩; have n0_ := Aside0.mk (blk_below (g := gb345) (o := .cells #[.int .i64 0, .int .i64 0, .int .i64 0, .string (⟨#[]⟩ : ByteArray)] 42 (0, 0)) (by (with_reducible repeat (first | refine blk_drewN ?_ _ | refine blk_drew ?_ | refine blk_alloc ?_ _)); exact BK345.out) hb); have n1_ := Aside0.mk (below_step (by repeat (first | (with_reducible first | exact HB.out | apply below_alloc | apply pw_below_drewN | apply below_drew1 | refine below_set ?_ GE345.out) | exact HB.out)) hb); clear BK345; clear HB; have BK345 := n0_; have HB := n1_; clear n0_ n1_; (try clear hb); (try clear hb2); (try clear hk); (try clear hi); have hcz5_0 : w4.cell? ⟨gb345, 0, none⟩ = some (.int .i64 0) := (blk_cell BK345.out 0).trans rfl; have hcz5_1 : w4.cell? ⟨gb345, 1, none⟩ = some (.int .i64 0) := (blk_cell BK345.out 1).trans rfl; have hcz5_2 : w4.cell? ⟨gb345, 2, none⟩ = some (.int .i64 0) := (blk_cell BK345.out 2).trans rfl; have hcz5_3 : w4.cell? ⟨gb345, 3, none⟩ = some (.string (⟨#[]⟩ : ByteArray)) := (blk_cell BK345.out 3).trans rfl; have hfz5_0 := blk_frozen BK345.out 0; have hfz5_1 := blk_frozen BK345.out 1; have hfz5_2 := blk_frozen BK345.out 2; have hfz5_3 := blk_frozen BK345.out 3))
  refine bodyPost_ret (results_ct rfl _ _ gb345 42 #[.int .i64 t346, .int .i64 t347, .int .i64 t348, .string t349] (0, 0) _ rfl (by (with_reducible repeat (first | refine blk_drewN ?_ _ | refine blk_drew ?_ | refine blk_alloc ?_ _)); refine blk_put (cs := #[.int .i64 t346, .int .i64 t347, .int .i64 t348, .string (⟨#[]⟩ : ByteArray)]) ?_ 3 _ rfl; (with_reducible repeat (first | refine blk_drewN ?_ _ | refine blk_drew ?_ | refine blk_alloc ?_ _)); refine blk_put (cs := #[.int .i64 t346, .int .i64 t347, .int .i64 0, .string (⟨#[]⟩ : ByteArray)]) ?_ 2 _ rfl; (with_reducible repeat (first | refine blk_drewN ?_ _ | refine blk_drew ?_ | refine blk_alloc ?_ _)); refine blk_put (cs := #[.int .i64 t346, .int .i64 0, .int .i64 0, .string (⟨#[]⟩ : ByteArray)]) ?_ 1 _ rfl; (with_reducible repeat (first | refine blk_drewN ?_ _ | refine blk_drew ?_ | refine blk_alloc ?_ _)); refine blk_put (cs := #[.int .i64 0, .int .i64 0, .int .i64 0, .string (⟨#[]⟩ : ByteArray)]) ?_ 0 _ rfl; (with_reducible repeat (first | refine blk_drewN ?_ _ | refine blk_drew ?_ | refine blk_alloc ?_ _)); exact BK345.out) Try.underlying42 rfl (by kernel_rfl)) rfl ?_
  exact ⟨by first | rfl | (simp [errW_none, errW_some] <;> rfl) | (simp [*, errW_none, errW_some] <;> rfl), by repeat (first | (with_reducible first | exact HB.out | apply below_alloc | apply pw_below_drewN | apply below_drew1 | refine below_set ?_ GE345.out) | exact HB.out)⟩
end Go.Proofs.Ytenbifjbeeobjaa.Px

namespace Go.Proofs.Ytenbifjbeeobjaa.Px
open Go.RowKit Go.Proofs.YtenbifjbeeobjaaW.PrintWords Go.Proofs.YtenbifjbeeobjaaW.PrintLast Go.Proofs.YtenbifjbeeobjaaW.PrintMore
attribute [local go_sem] max2_int min2_int max_two min_two max_three min_three max_four min_four
set_option linter.unusedVariables false
set_option linter.unusedSimpArgs false
theorem post_TakeTx.body (s : ByteArray) (w : World) : Calls Try.prog 45 #[.string s] w fun e w' => e = .returned (.string s) ∧ w' = w := by
  go_enter Try.func45, Try.ntmps45
  go_wp2
  go_ret
  exact ⟨rfl, rfl⟩
theorem post_behind_string.assert (w : World) : (Instr.typeAssert (.iface 91 (.agg #[])) 20 91 true).run Try.prog w = .ok (.tuple #[.agg #[], .bool true]) w := by kernel_rfl
set_option maxHeartbeats 4000000 in
set_option maxRecDepth 100000 in
theorem post_behind_string.catch (g6 g7 : Nat) (older : List PanicEntry) (c6 c7 : Value) (w : World) (h6 : w.heap[g6]? = some (.cells #[c6] 9 (0, 0))) (h7 : w.heap[g7]? = some (.cells #[c7] 29 (0, 0))) (hne : g6 ≠ g7) :
    CallsD Try.prog 69 #[.pointer (some ⟨g6, 0, none⟩), .pointer (some ⟨g7, 0, none⟩)] (.panicking ({ v := oddV, recovered := false } :: older)) w fun e u' w' =>
      e = .returned (.tuple #[]) ∧ u' = .panicking ({ v := oddV, recovered := true } :: older) ∧ w'.heap[g6]? = some (.cells #[.string ⟨#[]⟩] 9 (0, 0)) ∧ w'.heap[g7]? = some (.cells #[.int .i64 3] 29 (0, 0)) ∧ ∀ W0 : World, Below W0.heap.size W0 w → W0.heap.size ≤ g6 → W0.heap.size ≤ g7 → Below W0.heap.size W0 w' := by
  have ha := post_behind_string.assert
  have hne' := Ne.symm hne
  refine callsD_of_wpS Try.func69 rfl fun c₀ cs hu => ?_
  apply wpS_seq
  apply wpS_region
  simp [wpOpsS, go_sem, recoverD, hu, Try.ntmps69, Exit.thenS, oddV]
  show Code.wpS _ _ _ ⟨#[.pointer (some ⟨g6, 0, none⟩), .pointer (some ⟨g7, 0, none⟩), oddV, undef, undef, undef, oddV, undef, undef, undef, undef, undef, undef, undef, undef, undef, undef, undef], []⟩ _ _
  unfold oddV
  refine wpS_of_wp ?_
  go_wp2_with (first
    | ((with_reducible refine gate_dst (N := 3) rfl ?_); refine box_event ?hg (N := 3) ?hd (cs := #[]) (t := 91) ?hr ?_; (case hd => rfl); (case hg => rfl); (case hr => first | (go_simp; done) | (go_simp; rfl)); intro g3 hg w1 hbox hb; have B6 := Aside0.mk (blk_below h6 hb); have B7 := Aside0.mk (blk_below h7 hb); have HB1 := Aside0.mk hb; clear hb hbox hg; have ca0 := (blk_cell B6.out 0).trans rfl; have fca0 := blk_frozen B6.out 0; have cb0 := (blk_cell B7.out 0).trans rfl; have fcb0 := blk_frozen B7.out 0))
  have x6 : ((w1.setCell ⟨g6, 0, none⟩ (.string ⟨#[]⟩)).setCell ⟨g7, 0, none⟩ (.int .i64 3)).heap[g6]? = some (.cells #[.string ⟨#[]⟩] 9 (0, 0)) := blk_far (blk_put B6.out 0 _ rfl) hne _
  have x7 : ((w1.setCell ⟨g6, 0, none⟩ (.string ⟨#[]⟩)).setCell ⟨g7, 0, none⟩ (.int .i64 3)).heap[g7]? = some (.cells #[.int .i64 3] 29 (0, 0)) := blk_put (blk_far B7.out hne' _) 0 _ rfl
  have x8 : ∀ W0 : World, Below W0.heap.size W0 w → W0.heap.size ≤ g6 → W0.heap.size ≤ g7 → Below W0.heap.size W0 ((w1.setCell ⟨g6, 0, none⟩ (.string ⟨#[]⟩)).setCell ⟨g7, 0, none⟩ (.int .i64 3)) := fun W0 h k6 k7 => below_set (below_set (below_step h HB1.out) k6) k7
  generalize ((w1.setCell ⟨g6, 0, none⟩ (.string ⟨#[]⟩)).setCell ⟨g7, 0, none⟩ (.int .i64 3)) = wE at x6 x7 x8 ⊢
  simp [bodyPostS, results, Try.results69]
  exact ⟨x6, x7, x8⟩
set_option maxHeartbeats 4000000 in
set_option maxRecDepth 100000 in
theorem post_behind_string.idle (g6 g7 : Nat) (w : World) :
    CallsD Try.prog 69 #[.pointer (some ⟨g6, 0, none⟩), .pointer (some ⟨g7, 0, none⟩)] .returning w fun e u' w' => e = .returned (.tuple #[]) ∧ u' = .returning ∧ w' = w := by
  refine callsD_of_wpS Try.func69 rfl fun c₀ cs hu => ?_
  apply wpS_seq
  apply wpS_region
  simp [wpOpsS, go_sem, recoverD, hu, Try.ntmps69, Exit.thenS]
  show Code.wpS _ _ _ ⟨#[.pointer (some ⟨g6, 0, none⟩), .pointer (some ⟨g7, 0, none⟩), .nilIface, undef, undef, undef, .nilIface, undef, undef, undef, undef, undef, undef, undef, undef, undef, undef, undef], []⟩ _ _
  refine wpS_of_wp ?_
  go_wp2
  cases c₀
  simp_all [bodyPostS, results, Try.results69]
set_option maxHeartbeats 4000000 in
set_option maxRecDepth 100000 in
theorem post_behind_string.good (s rest : ByteArray) (w : World) (hcut : strings_CutPrefix.f s ⟨#[116]⟩ = some (rest, true)) :
    Calls Try.prog 44 #[.string s, .string ⟨#[116]⟩, .func (.func 45) #[] #[]] w fun e w' => e = .returned (.tuple #[.string rest, .int .i64 0]) ∧ Below w.heap.size w w' := by
  have hmf : ∀ (fn : Fn) (first cap : Array Value) (w : World), (Instr.makeFunc fn first cap).run Try.prog w = .ok (.func fn first cap) w := fun _ _ _ _ => rfl
  have HC := Aside0.mk hcut
  clear hcut
  go_enter_defers Try.func44, Try.ntmps44
  go_wp2_with (first
    | ((with_reducible refine gate_dst (N := 6) rfl ?_); refine box_event ?hg (N := 6) ?hd (cs := #[.string ⟨#[]⟩]) (t := 9) ?hr ?_; (case hd => rfl); (case hg => rfl); (case hr => first | (go_simp; done) | (go_simp; rfl)); intro g6 hg w1 hbox hb; have G6 : Aside0 (w.heap.size ≤ g6) := ⟨by rw [hg]; exact Nat.le_refl _⟩; have B6 := Aside0.mk hbox; have HB1 := Aside0.mk hb; clear hb hbox hg)
    | ((with_reducible refine gate_dst (N := 7) rfl ?_); refine box_event ?hg (N := 7) ?hd (cs := #[.int .i64 0]) (t := 29) ?hr ?_; (case hd => rfl); (case hg => rfl); (case hr => first | (go_simp; done) | (go_simp; rfl)); intro g7 hg w2 hbox hb; have G7 : Aside0 (w.heap.size ≤ g7) := ⟨by rw [hg]; exact below_size HB1.out⟩; have N67 : Aside0 (g6 ≠ g7) := ⟨by rw [hg]; exact Nat.ne_of_lt (blk_lt B6.out)⟩; have C7 := Aside0.mk hbox; have C6 := Aside0.mk (blk_below B6.out hb); have HB2 := Aside0.mk (below_step HB1.out hb); clear hb hbox hg B6)
    | (go_at_call 52; (with_reducible refine (strings_CutPrefix.calls _ _ _ _ _ HC.out).mono ?_); rintro e w3 ⟨rfl, ⟨n3, rfl⟩⟩)
    | (go_at_call 28; (with_reducible refine (post_ask.yes _).mono ?_); rintro e w1 ⟨rfl, rfl⟩)
    | (go_at_call 45; (with_reducible refine (post_TakeTx.body rest _).mono ?_); rintro e w4 ⟨rfl, hw4⟩; have D6 : Aside0 (w4.heap[g6]? = some (.cells #[.string ⟨#[]⟩] 9 (0, 0))) := ⟨by rw [hw4]; exact blk_drewN C6.out _⟩; have D7 : Aside0 (w4.heap[g7]? = some (.cells #[.int .i64 0] 29 (0, 0))) := ⟨by rw [hw4]; exact blk_drewN C7.out _⟩; have HB4 : Aside0 (Below w.heap.size w w4) := ⟨by rw [hw4]; exact pw_below_drewN HB2.out _⟩; clear hw4; have ca0 := (blk_cell D6.out 0).trans rfl; have fca0 := blk_frozen D6.out 0; have cb0 := (blk_cell D7.out 0).trans rfl; have fcb0 := blk_frozen D7.out 0; have n67 := N67.out; have n76 := Ne.symm N67.out))
  have x6 : ((w4.setCell ⟨g6, 0, none⟩ (.string rest)).setCell ⟨g7, 0, none⟩ (.int .i64 0)).heap[g6]? = some (.cells #[.string rest] 9 (0, 0)) := blk_far (blk_put D6.out 0 _ rfl) N67.out _
  have x7 : ((w4.setCell ⟨g6, 0, none⟩ (.string rest)).setCell ⟨g7, 0, none⟩ (.int .i64 0)).heap[g7]? = some (.cells #[.int .i64 0] 29 (0, 0)) := blk_put (blk_far D7.out (Ne.symm N67.out) _) 0 _ rfl
  have x8 : Below w.heap.size w ((w4.setCell ⟨g6, 0, none⟩ (.string rest)).setCell ⟨g7, 0, none⟩ (.int .i64 0)) := below_set (below_set HB4.out G6.out) G7.out
  generalize ((w4.setCell ⟨g6, 0, none⟩ (.string rest)).setCell ⟨g7, 0, none⟩ (.int .i64 0)) = wE at x6 x7 x8 ⊢
  refine leaves_cons (f := 69) (args := #[.pointer (some ⟨g6, 0, none⟩), .pointer (some ⟨g7, 0, none⟩)]) (by simp) (by simp [go_sem]) ?_
  refine (post_behind_string.idle g6 g7 _).mono ?_
  rintro e u' w'' ⟨rfl, rfl, rfl⟩
  have hc60 : w''.cell? ⟨g6, 0, none⟩ = some (.string rest) := (blk_cell x6 0).trans rfl
  have hc7 : w''.cell? ⟨g7, 0, none⟩ = some (.int .i64 0) := (blk_cell x7 0).trans rfl
  simp [Leaves, settle, results, Try.results44, asAddr, go_sem, hc60, hc7]
  exact x8
set_option maxHeartbeats 4000000 in
set_option maxRecDepth 100000 in
theorem post_behind_string.none1 (s : ByteArray) (w : World) (hcut : strings_CutPrefix.f s ⟨#[116]⟩ = some (s, false)) :
    Calls Try.prog 44 #[.string s, .string ⟨#[116]⟩, .func (.func 45) #[] #[]] w fun e w' => e = .returned (.tuple #[.string ⟨#[]⟩, .int .i64 3]) ∧ Below w.heap.size w w' := by
  have hmf : ∀ (fn : Fn) (first cap : Array Value) (w : World), (Instr.makeFunc fn first cap).run Try.prog w = .ok (.func fn first cap) w := fun _ _ _ _ => rfl
  have HC := Aside0.mk hcut
  clear hcut
  go_enter_defers Try.func44, Try.ntmps44
  go_wp2_with (first
    | ((with_reducible refine gate_dst (N := 6) rfl ?_); refine box_event ?hg (N := 6) ?hd (cs := #[.string ⟨#[]⟩]) (t := 9) ?hr ?_; (case hd => rfl); (case hg => rfl); (case hr => first | (go_simp; done) | (go_simp; rfl)); intro g6 hg w1 hbox hb; have G6 : Aside0 (w.heap.size ≤ g6) := ⟨by rw [hg]; exact Nat.le_refl _⟩; have B6 := Aside0.mk hbox; have HB1 := Aside0.mk hb; clear hb hbox hg)
    | ((with_reducible refine gate_dst (N := 7) rfl ?_); refine box_event ?hg (N := 7) ?hd (cs := #[.int .i64 0]) (t := 29) ?hr ?_; (case hd => rfl); (case hg => rfl); (case hr => first | (go_simp; done) | (go_simp; rfl)); intro g7 hg w2 hbox hb; have G7 : Aside0 (w.heap.size ≤ g7) := ⟨by rw [hg]; exact below_size HB1.out⟩; have N67 : Aside0 (g6 ≠ g7) := ⟨by rw [hg]; exact Nat.ne_of_lt (blk_lt B6.out)⟩; have C7 := Aside0.mk hbox; have C6 := Aside0.mk (blk_below B6.out hb); have HB2 := Aside0.mk (below_step HB1.out hb); clear hb hbox hg B6)
    | (go_at_call 52; (with_reducible refine (strings_CutPrefix.calls _ _ _ _ _ HC.out).mono ?_); rintro e w3 ⟨rfl, ⟨n3, rfl⟩⟩)
    | (go_at_call 28; (with_reducible refine (post_ask.no _).mono ?_); rintro e w4 ⟨rfl, rfl⟩; have D6 := Aside0.mk (blk_drewN C6.out n3); have D7 := Aside0.mk (blk_drewN C7.out n3); have HB4 := Aside0.mk (pw_below_drewN HB2.out n3)))
  refine leaves_cons (f := 69) (args := #[.pointer (some ⟨g6, 0, none⟩), .pointer (some ⟨g7, 0, none⟩)]) (by simp) (by simp [go_sem]) ?_
  refine (post_behind_string.catch g6 g7 [] _ _ _ D6.out D7.out N67.out).mono ?_
  rintro e u' w'' ⟨rfl, rfl, x6, x7, hx⟩
  have x8 := hx w HB4.out G6.out G7.out
  have hc60 : w''.cell? ⟨g6, 0, none⟩ = some (.string ⟨#[]⟩) := (blk_cell x6 0).trans rfl
  have hc7 : w''.cell? ⟨g7, 0, none⟩ = some (.int .i64 3) := (blk_cell x7 0).trans rfl
  simp [Leaves, settle, results, Try.results44, asAddr, go_sem, hc60, hc7]
  exact x8
def takeTxB (s : ByteArray) : ByteArray × Int := match ofB s with
  | c :: t => if c = 116 then (toB t, 0) else ((⟨#[]⟩ : ByteArray), 3)
  | [] => ((⟨#[]⟩ : ByteArray), 3)
def post_behind_string.f (a0 a1 : ByteArray) : Option (ByteArray × Int) := if a1 = ⟨#[116]⟩ then some (takeTxB a0) else none
theorem post_behind_string.calls (a0 a1 : ByteArray) (r1 : ByteArray) (r2 : Int) (w : World) (h : post_behind_string.f a0 a1 = some (r1, r2)) :
    Calls Try.prog 44 #[.string a0, .string a1, .func (.func 45) #[] #[]] w fun e w' => e = .returned (.tuple #[.string r1, .int .i64 r2]) ∧ Below w.heap.size w w' := by
  unfold post_behind_string.f at h
  split at h
  · rename_i h0
    subst h0
    have h := Option.some.inj h
    unfold takeTxB at h
    rcases hq : ofB a0 with _ | ⟨c, t⟩
    · rw [hq] at h
      simp only [Prod.mk.injEq] at h
      obtain ⟨rfl, rfl⟩ := h
      exact post_behind_string.none1 a0 w (cutPrefix_no _ _ (by rw [hq]; simp))
    · rw [hq] at h
      simp only at h
      by_cases hc : c = 116
      · rw [if_pos hc] at h
        subst hc
        simp only [Prod.mk.injEq] at h
        obtain ⟨rfl, rfl⟩ := h
        exact post_behind_string.good a0 (toB t) w (cutPrefix_yes a0 116 t hq)
      · rw [if_neg hc] at h
        simp only [Prod.mk.injEq] at h
        obtain ⟨rfl, rfl⟩ := h
        exact post_behind_string.none1 a0 w (cutPrefix_no _ _ (by rw [hq]; simpa using hc))
  · cases h
end Go.Proofs.Ytenbifjbeeobjaa.Px

namespace Go.Proofs.Ytenbifjbeeobjaa.Px
open Go.RowKit Go.Proofs.YtenbifjbeeobjaaW.PrintWords Go.Proofs.YtenbifjbeeobjaaW.PrintLast Go.Proofs.YtenbifjbeeobjaaW.PrintMore
attribute [local go_sem] max2_int min2_int max_two min_two max_three min_three max_four min_four
set_option linter.unusedVariables false
set_option linter.unusedSimpArgs false
def post_TakeTx.f (a0 : ByteArray) : Option (ByteArray × Int) := (post_behind_string.f a0 (⟨#[116]⟩ : ByteArray)).bind fun bt380 => (some (bt380.1, bt380.2))
set_option maxHeartbeats 8000000 in
set_option maxRecDepth 100000 in
theorem post_TakeTx.calls (a0 : ByteArray) (r1 : ByteArray) (r2 : Int) (w : World) (h : post_TakeTx.f a0 = some (r1, r2)) :
    Calls Try.prog 15 #[.string a0] w fun e w' => e = .returned (.tuple #[.string r1, .int .i64 r2]) ∧ Below w.heap.size w w' := by
  have HB := Aside0.mk (Below.refl w.heap.size w)
  have H : ((post_behind_string.f a0 (⟨#[116]⟩ : ByteArray)).bind fun bt380 => (some (bt380.1, bt380.2))) = some (r1, r2) := h
  clear h
  replace H := Option.bind_eq_some_iff.mp H
  obtain ⟨⟨t380, t381⟩, A20, H⟩ := H
  replace H : (some (t380, t381)) = some (r1, r2) := H
  have A2 := Aside0.mk A20
  clear A20
  simp only [Option.some.injEq, Prod.mk.injEq] at H
  obtain ⟨rfl, rfl⟩ := H
  go_enter Try.func15, Try.ntmps15
  go_wp2_with (first | ((with_reducible refine gate_callee (f := 44) rfl ?_); refine goesL_ (some 5) rfl rfl Try.func44 (by kernel_rfl) rfl #[.string a0, .string (⟨#[116]⟩ : ByteArray), .func (.func 45) #[] #[]] rfl (by (try simp only [List.map_toArray, List.map_cons, List.map_nil]); first | done | rfl | (simp only [List.length_drop, List.length_take]; rfl)) ?_; (with_reducible refine (post_behind_string.calls a0 (⟨#[116]⟩ : ByteArray) t380 t381 _ A2.out).mono ?_); rintro e w3 ⟨rfl, hb⟩; refine ⟨_, rfl, ?_⟩; have n0_ := Aside0.mk (below_step (by repeat (first | (with_reducible first | exact HB.out | apply below_alloc | apply pw_below_drewN | apply below_drew1) | exact HB.out)) hb); clear HB; have HB := n0_; clear n0_; (try clear hb); (try clear hb2); (try clear hk); (try clear hi)))
  go_ret2
  exact ⟨by first | rfl | (simp [errW_none, errW_some] <;> rfl) | (simp [*, errW_none, errW_some] <;> rfl), by repeat (first | (with_reducible first | exact HB.out | apply below_alloc | apply pw_below_drewN | apply below_drew1) | exact HB.out)⟩
end Go.Proofs.Ytenbifjbeeobjaa.Px

namespace Go.Proofs.Ytenbifjbeeobjaa.Px
open Go.RowKit Go.Proofs.YtenbifjbeeobjaaW.PrintWords Go.Proofs.YtenbifjbeeobjaaW.PrintLast Go.Proofs.YtenbifjbeeobjaaW.PrintMore
attribute [local go_sem] max2_int min2_int max_two min_two max_three min_three max_four min_four
set_option linter.unusedVariables false
set_option linter.unusedSimpArgs false
def post_Kind.f (a0 : ByteArray) : Option (Int) := if a0.toList = ([] : List UInt8) then (some 0) else (if 0 < (a0.size : Int) then (some (bt a0 0)) else (none))
set_option maxHeartbeats 8000000 in
set_option maxRecDepth 100000 in
theorem post_Kind.calls (a0 : ByteArray) (r : Int) (w : World) (h : post_Kind.f a0 = some r) :
    Calls Try.prog 24 #[.string a0] w fun e w' => e = .returned (.int .u8 r) ∧ Drawn0 w w' := by
  have H : (if a0.toList = ([] : List UInt8) then (some 0) else (if 0 < (a0.size : Int) then (some (bt a0 0)) else (none))) = some r := h
  clear h
  by_cases c2 : a0.toList = ([] : List UInt8)
  · rw [if_pos c2] at H
    have c2b0 : (a0.toList == ([] : List UInt8)) = true := beq_iff_eq.mpr c2
    have c2b1 : (a0.toList != ([] : List UInt8)) = false := bne_eq_false_iff_eq.mpr c2
    clear c2
    obtain rfl := Option.some.inj H
    go_enter Try.func24, Try.ntmps24
    go_wp2
    go_ret
    exact ⟨by first | rfl | (simp; done) | (simp [*]; done), by repeat (first | exact Drawn0.refl _ | apply Drawn0.step)⟩
  · rw [if_neg c2] at H
    have c2b0 : (a0.toList == ([] : List UInt8)) = false := beq_eq_false_iff_ne.mpr c2
    have c2b1 : (a0.toList != ([] : List UInt8)) = true := bne_iff_ne.mpr c2
    by_cases c3 : 0 < (a0.size : Int)
    · rw [if_pos c3] at H
      have c3b0 : decide (0 < (a0.size : Int)) = true := decide_eq_true c3
      have c3b1 : decide (0 < a0.size) = true := decide_eq_true (by omega)
      clear c3
      obtain rfl := Option.some.inj H
      have p4 : 0 ≤ (0 : Int) := (by omega)
      have q4 : 0 < a0.size := (by have : (0 : Int) < (a0.size : Int) := of_decide_eq_true (by first | (with_reducible assumption) | assumption); omega)
      have hx4 : ∀ h : 0 < a0.size, ((a0[0]'h).toNat : Int) = bt a0 0 := bt_at a0 0
      clear p4
      have qi4 : (0 < (a0.size : Int)) = True := eq_true (of_decide_eq_true (by first | (with_reducible assumption) | assumption))
      replace q4 := eq_true q4
      go_enter Try.func24, Try.ntmps24
      go_wp2
      go_ret
      exact ⟨by first | rfl | (simp; done) | (simp [*]; done), by repeat (first | exact Drawn0.refl _ | apply Drawn0.step)⟩
    · rw [if_neg c3] at H
      exact absurd H (by simp)
end Go.Proofs.Ytenbifjbeeobjaa.Px
