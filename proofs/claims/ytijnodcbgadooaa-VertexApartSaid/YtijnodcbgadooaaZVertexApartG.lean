/- part 7 of the law VertexApart: the texts of its proof, merged by this session's bundle.py. What is proved: the statement at the end of the last of these texts; its conditions are those of the given row. -/
import Derived.Test.YtijnodcbgadooaaRows
import Derived.Deep.Slices
import Derived.ChangeArms
import Derived.SizedLaws
import Derived.WideOpen
import Derived.WalkKit
import Derived.ProofKit
import Derived.OpenShut
import Derived.ShutString
import Derived.ChangeOld
import Derived.Below
import Derived.JoinedCond
import Derived.Carry
import Derived.WideShapes
import Derived.Test.YtijnodcbgadooaaZVertexApartA
import Derived.Test.YtijnodcbgadooaaZVertexApartB
import Derived.Test.YtijnodcbgadooaaZVertexApartC
import Derived.Test.YtijnodcbgadooaaZVertexApartD
import Derived.Test.YtijnodcbgadooaaZVertexApartE
import Derived.Test.YtijnodcbgadooaaZVertexApartF
-- printed by this session's pprint.py (the kit's print, with this session's plugs) out of the translation; Lean checks it
namespace Go.Proofs.Ytijnodcbgadooaa.Px
open Go.RowKit Go.Proofs.YtijnodcbgadooaaW.PrintWords Go.Proofs.YtijnodcbgadooaaW.PrintLast Go.Proofs.YtijnodcbgadooaaW.PrintMore
attribute [local go_sem] max2_int min2_int max_two min_two max_three min_three max_four min_four   -- for this text's walks alone
set_option linter.unusedVariables false
set_option linter.unusedSimpArgs false

/-! ### selvedgelaw08_VertexApart: function 15 -/
def selvedgelaw08_VertexApart.f (k : Nat) (a0_0 : Int) (a0_1 : Int) (l0_2 : List (S43)) (l0_3 : List ByteArray) (a0_4 : Int) (a0_5 : Int) (a1_0 : Int) (a1_1 : Int) (l1_2 : List (S43)) (l1_3 : List ByteArray) (a1_4 : Int) (a1_5 : Int) (a2 : Int) : Option (Bool) := (selvedgelaw08_shown.f).bind fun t318 => ((vertex_Bytes.f a0_0 a0_1 l0_2 l0_3 a0_4 a0_5 a2).bind fun bt319 => ((vertex_Bytes.f a1_0 a1_1 l1_2 l1_3 a1_4 a1_5 a2).bind fun bt321 => (if bt319.2 = 0 then (if bt321.2 = 0 then ((selvedgeref08_Same.f k a0_0 a0_1 l0_2 l0_3 a0_4 a0_5 a1_0 a1_1 l1_2 l1_3 a1_4 a1_5).bind fun t323 => (if t318 = true then (some ((bt319.1.toList == bt321.1.toList) == t323)) else (some false))) else (some t318)) else (some t318))))
theorem selvedgelaw08_VertexApart.mono : ∀ a0 a1 a2 a3 a4 a5 a6 a7 a8 a9 a10 a11 a12 k, LeO (selvedgelaw08_VertexApart.f k a0 a1 a2 a3 a4 a5 a6 a7 a8 a9 a10 a11 a12) (selvedgelaw08_VertexApart.f (k + 1) a0 a1 a2 a3 a4 a5 a6 a7 a8 a9 a10 a11 a12) := by
  intro a0 a1 a2 a3 a4 a5 a6 a7 a8 a9 a10 a11 a12 k
  unfold selvedgelaw08_VertexApart.f
  repeat' first
      | (with_reducible exact selvedgeref08_Same.mono _ _ _ _ _ _ _ _ _ _ _ _ _)
      | (with_reducible exact LeO.refl _)
      | (with_reducible exact LeO.none _)
      | (with_reducible refine LeO.ite ?_ ?_)
      | (with_reducible refine LeO.bind ?_ (fun _ => ?_))
      | exact selvedgeref08_Same.mono _ _ _ _ _ _ _ _ _ _ _ _ _
      | exact LeO.none _
      | refine LeO.ite ?_ ?_
      | refine LeO.bind ?_ (fun _ => ?_)
set_option maxHeartbeats 8000000 in
set_option maxRecDepth 100000 in
theorem selvedgelaw08_VertexApart.calls (k : Nat) (a0_0 : Int) (a0_1 : Int) (A0_2 : Option Addr) (c0_2 : Nat) (l0_2 : List (S43)) (A0_3 : Option Addr) (c0_3 : Nat) (l0_3 : List ByteArray) (a0_4 : Int) (a0_5 : Int) (a1_0 : Int) (a1_1 : Int) (A1_2 : Option Addr) (c1_2 : Nat) (l1_2 : List (S43)) (A1_3 : Option Addr) (c1_3 : Nat) (l1_3 : List ByteArray) (a1_4 : Int) (a1_5 : Int) (a2 : Int) (r : Bool) (w : World) (hr0_2 : Kd.C k43 w A0_2 l0_2.length l0_2) (hc0_2 : l0_2.length ≤ c0_2) (hr0_3 : Kd.C Kd.string w A0_3 l0_3.length l0_3) (hc0_3 : l0_3.length ≤ c0_3) (hr1_2 : Kd.C k43 w A1_2 l1_2.length l1_2) (hc1_2 : l1_2.length ≤ c1_2) (hr1_3 : Kd.C Kd.string w A1_3 l1_3.length l1_3) (hc1_3 : l1_3.length ≤ c1_3) (h : selvedgelaw08_VertexApart.f k a0_0 a0_1 l0_2 l0_3 a0_4 a0_5 a1_0 a1_1 l1_2 l1_3 a1_4 a1_5 a2 = some r) :
    Calls Try.prog 15 #[.agg #[.int .i64 a0_0, .int .i64 a0_1, .slice A0_2 l0_2.length c0_2, .slice A0_3 l0_3.length c0_3, .int .i64 a0_4, .int .i64 a0_5], .agg #[.int .i64 a1_0, .int .i64 a1_1, .slice A1_2 l1_2.length c1_2, .slice A1_3 l1_3.length c1_3, .int .i64 a1_4, .int .i64 a1_5], .int .i64 a2] w fun e w' => e = .returned (.bool r) ∧ Below w.heap.size w w' := by
  have hu75 := Try.underlying75
  have HR0_2 := Aside0.mk hr0_2
  have HC0_2 := Aside0.mk hc0_2
  clear hr0_2 hc0_2
  have HR0_3 := Aside0.mk hr0_3
  have HC0_3 := Aside0.mk hc0_3
  clear hr0_3 hc0_3
  have HR1_2 := Aside0.mk hr1_2
  have HC1_2 := Aside0.mk hc1_2
  clear hr1_2 hc1_2
  have HR1_3 := Aside0.mk hr1_3
  have HC1_3 := Aside0.mk hc1_3
  clear hr1_3 hc1_3
  have HB := Aside0.mk (Below.refl w.heap.size w)
  have H : ((selvedgelaw08_shown.f).bind fun t318 => ((vertex_Bytes.f a0_0 a0_1 l0_2 l0_3 a0_4 a0_5 a2).bind fun bt319 => ((vertex_Bytes.f a1_0 a1_1 l1_2 l1_3 a1_4 a1_5 a2).bind fun bt321 => (if bt319.2 = 0 then (if bt321.2 = 0 then ((selvedgeref08_Same.f k a0_0 a0_1 l0_2 l0_3 a0_4 a0_5 a1_0 a1_1 l1_2 l1_3 a1_4 a1_5).bind fun t323 => (if t318 = true then (some ((bt319.1.toList == bt321.1.toList) == t323)) else (some false))) else (some t318)) else (some t318))))) = some r := h
  clear h
  replace H := Option.bind_eq_some_iff.mp H
  obtain ⟨t318, A40, H⟩ := H
  replace H : ((vertex_Bytes.f a0_0 a0_1 l0_2 l0_3 a0_4 a0_5 a2).bind fun bt319 => ((vertex_Bytes.f a1_0 a1_1 l1_2 l1_3 a1_4 a1_5 a2).bind fun bt321 => (if bt319.2 = 0 then (if bt321.2 = 0 then ((selvedgeref08_Same.f k a0_0 a0_1 l0_2 l0_3 a0_4 a0_5 a1_0 a1_1 l1_2 l1_3 a1_4 a1_5).bind fun t323 => (if t318 = true then (some ((bt319.1.toList == bt321.1.toList) == t323)) else (some false))) else (some t318)) else (some t318)))) = some r := H
  have A4 := Aside0.mk A40
  clear A40
  replace H := Option.bind_eq_some_iff.mp H
  obtain ⟨⟨t319, t320⟩, A50, H⟩ := H
  replace H : ((vertex_Bytes.f a1_0 a1_1 l1_2 l1_3 a1_4 a1_5 a2).bind fun bt321 => (if t320 = 0 then (if bt321.2 = 0 then ((selvedgeref08_Same.f k a0_0 a0_1 l0_2 l0_3 a0_4 a0_5 a1_0 a1_1 l1_2 l1_3 a1_4 a1_5).bind fun t323 => (if t318 = true then (some ((t319.toList == bt321.1.toList) == t323)) else (some false))) else (some t318)) else (some t318))) = some r := H
  have A5 := Aside0.mk A50
  clear A50
  replace H := Option.bind_eq_some_iff.mp H
  obtain ⟨⟨t321, t322⟩, A60, H⟩ := H
  replace H : (if t320 = 0 then (if t322 = 0 then ((selvedgeref08_Same.f k a0_0 a0_1 l0_2 l0_3 a0_4 a0_5 a1_0 a1_1 l1_2 l1_3 a1_4 a1_5).bind fun t323 => (if t318 = true then (some ((t319.toList == t321.toList) == t323)) else (some false))) else (some t318)) else (some t318)) = some r := H
  have A6 := Aside0.mk A60
  clear A60
  by_cases c7 : t320 = 0
  · rw [if_pos c7] at H
    have c7b0 : (t320 == 0) = true := beq_iff_eq.mpr c7
    have c7b1 : (t320 != 0) = false := bne_eq_false_iff_eq.mpr c7
    clear c7
    by_cases c8 : t322 = 0
    · rw [if_pos c8] at H
      have c8b0 : (t322 == 0) = true := beq_iff_eq.mpr c8
      have c8b1 : (t322 != 0) = false := bne_eq_false_iff_eq.mpr c8
      clear c8
      replace H := Option.bind_eq_some_iff.mp H
      obtain ⟨t323, A90, H⟩ := H
      replace H : (if t318 = true then (some ((t319.toList == t321.toList) == t323)) else (some false)) = some r := H
      have A9 := Aside0.mk A90
      clear A90
      by_cases c10 : t318 = true
      · subst c10
        have H1 : (some ((t319.toList == t321.toList) == t323)) = some r := by rw [if_pos rfl] at H; exact H
        clear H
        have H := H1
        clear H1
        obtain rfl := Option.some.inj H
        go_enter Try.func15, Try.ntmps15
        go_wp2_with (first | ((with_reducible refine gate_dst (N := 3) rfl ?_); refine box_event ?hg (N := 3) ?hd (cs := #[.int .i64 a0_0, .int .i64 a0_1, .slice A0_2 l0_2.length c0_2, .slice A0_3 l0_3.length c0_3, .int .i64 a0_4, .int .i64 a0_5]) (t := 75) ?hr ?_; (case hd => rfl); (case hg => rfl); (case hr => first | (go_simp; done) | (go_simp; rfl)); intro gb316 hg w11 hbox hb; have n0_ := Aside0.mk (below_step (by repeat (first | (with_reducible first | exact HB.out | apply below_alloc | apply pw_below_drewN | apply below_drew1) | exact HB.out)) hb); have n1_ := Aside0.mk (hbox); have n2_ := Aside0.mk ((by rw [hg]; exact (below_size (by repeat (first | (with_reducible first | exact HB.out | apply below_alloc | apply pw_below_drewN | apply below_drew1) | exact HB.out))) : w.heap.size ≤ gb316)); have n3_ := Aside0.mk ((by rw [hg]; exact (below_size (by repeat (first | (with_reducible first | exact HB.out | apply below_alloc | apply pw_below_drewN | apply below_drew1) | exact HB.out))) : w.heap.size ≤ gb316)); clear HB; have HB := n0_; have BK316 := n1_; have GW316 := n2_; have GE316 := n3_; clear n0_ n1_ n2_ n3_; clear hb hbox hg) | ((with_reducible refine gate_dst (N := 4) rfl ?_); refine box_event ?hg (N := 4) ?hd (cs := #[.int .i64 a1_0, .int .i64 a1_1, .slice A1_2 l1_2.length c1_2, .slice A1_3 l1_3.length c1_3, .int .i64 a1_4, .int .i64 a1_5]) (t := 75) ?hr ?_; (case hd => rfl); (case hg => rfl); (case hr => first | (go_simp; done) | (go_simp; rfl)); intro gb317 hg w12 hbox hb; have n0_ := Aside0.mk (blk_below (g := gb316) (o := .cells #[.int .i64 a0_0, .int .i64 a0_1, .slice A0_2 l0_2.length c0_2, .slice A0_3 l0_3.length c0_3, .int .i64 a0_4, .int .i64 a0_5] 75 (0, 0)) (by (with_reducible repeat (first | refine blk_drewN ?_ _ | refine blk_drew ?_ | refine blk_alloc ?_ _)); exact BK316.out) hb); have n1_ := Aside0.mk (below_step (by repeat (first | (with_reducible first | exact HB.out | apply below_alloc | apply pw_below_drewN | apply below_drew1 | refine below_set ?_ GE316.out) | exact HB.out)) hb); have n2_ := Aside0.mk (hbox); have n3_ := Aside0.mk ((by rw [hg]; exact (below_size (by repeat (first | (with_reducible first | exact HB.out | apply below_alloc | apply pw_below_drewN | apply below_drew1 | refine below_set ?_ GE316.out) | exact HB.out))) : w.heap.size ≤ gb317)); have n4_ := Aside0.mk ((by rw [hg]; exact (below_size (by repeat (first | (with_reducible first | exact HB.out | apply below_alloc | apply pw_below_drewN | apply below_drew1 | refine below_set ?_ GE316.out) | exact HB.out))) : w.heap.size ≤ gb317)); have n5_ := Aside0.mk ((by rw [hg]; exact Nat.ne_of_lt (blk_lt (g := gb316) (o := .cells #[.int .i64 a0_0, .int .i64 a0_1, .slice A0_2 l0_2.length c0_2, .slice A0_3 l0_3.length c0_3, .int .i64 a0_4, .int .i64 a0_5] 75 (0, 0)) (by (with_reducible repeat (first | refine blk_drewN ?_ _ | refine blk_drew ?_ | refine blk_alloc ?_ _)); exact BK316.out)) : gb316 ≠ gb317)); have n6_ := Aside0.mk ((by rw [hg]; exact Nat.ne_of_gt (blk_lt (g := gb316) (o := .cells #[.int .i64 a0_0, .int .i64 a0_1, .slice A0_2 l0_2.length c0_2, .slice A0_3 l0_3.length c0_3, .int .i64 a0_4, .int .i64 a0_5] 75 (0, 0)) (by (with_reducible repeat (first | refine blk_drewN ?_ _ | refine blk_drew ?_ | refine blk_alloc ?_ _)); exact BK316.out)) : gb317 ≠ gb316)); clear BK316; clear HB; have BK316 := n0_; have HB := n1_; have BK317 := n2_; have GW317 := n3_; have GE317 := n4_; have NB316_317 := n5_; have NB317_316 := n6_; clear n0_ n1_ n2_ n3_ n4_ n5_ n6_; clear hb hbox hg) | ((with_reducible refine gate_callee (f := 42) rfl ?_); refine goesL_ (some 13) rfl rfl Try.func42 (by kernel_rfl) rfl #[] rfl (by (try simp only [List.map_toArray, List.map_cons, List.map_nil]); first | done | rfl | (simp only [List.length_drop, List.length_take]; rfl)) ?_; (with_reducible refine (selvedgelaw08_shown.calls  true _ A4.out).mono ?_); rintro e w13 ⟨rfl, hb⟩; refine ⟨_, rfl, ?_⟩; have n0_ := Aside0.mk (blk_below (g := gb316) (o := .cells #[.int .i64 a0_0, .int .i64 a0_1, .slice A0_2 l0_2.length c0_2, .slice A0_3 l0_3.length c0_3, .int .i64 a0_4, .int .i64 a0_5] 75 (0, 0)) (by (with_reducible repeat (first | refine blk_drewN ?_ _ | refine blk_drew ?_ | refine blk_alloc ?_ _)); exact BK316.out) hb); have n1_ := Aside0.mk (blk_below (g := gb317) (o := .cells #[.int .i64 a1_0, .int .i64 a1_1, .slice A1_2 l1_2.length c1_2, .slice A1_3 l1_3.length c1_3, .int .i64 a1_4, .int .i64 a1_5] 75 (0, 0)) (by (with_reducible repeat (first | refine blk_drewN ?_ _ | refine blk_drew ?_ | refine blk_alloc ?_ _)); exact BK317.out) hb); have n2_ := Aside0.mk (below_step (by repeat (first | (with_reducible first | exact HB.out | apply below_alloc | apply pw_below_drewN | apply below_drew1 | refine below_set ?_ GE316.out | refine below_set ?_ GE317.out) | exact HB.out)) hb); clear BK316; clear BK317; clear HB; have BK316 := n0_; have BK317 := n1_; have HB := n2_; clear n0_ n1_ n2_; (try clear hb); (try clear hb2); (try clear hk); (try clear hi); have hnb14 := NB316_317.out; have hnc14 := NB317_316.out; have hcz15_0 : w13.cell? ⟨gb316, 0, none⟩ = some (.int .i64 a0_0) := (blk_cell BK316.out 0).trans rfl; have hcz15_1 : w13.cell? ⟨gb316, 1, none⟩ = some (.int .i64 a0_1) := (blk_cell BK316.out 1).trans rfl; have hcz15_2 : w13.cell? ⟨gb316, 2, none⟩ = some (.slice A0_2 l0_2.length c0_2) := (blk_cell BK316.out 2).trans rfl; have hcz15_3 : w13.cell? ⟨gb316, 3, none⟩ = some (.slice A0_3 l0_3.length c0_3) := (blk_cell BK316.out 3).trans rfl; have hcz15_4 : w13.cell? ⟨gb316, 4, none⟩ = some (.int .i64 a0_4) := (blk_cell BK316.out 4).trans rfl; have hcz15_5 : w13.cell? ⟨gb316, 5, none⟩ = some (.int .i64 a0_5) := (blk_cell BK316.out 5).trans rfl; have hfz15_0 := blk_frozen BK316.out 0; have hfz15_1 := blk_frozen BK316.out 1; have hfz15_2 := blk_frozen BK316.out 2; have hfz15_3 := blk_frozen BK316.out 3; have hfz15_4 := blk_frozen BK316.out 4; have hfz15_5 := blk_frozen BK316.out 5) | ((with_reducible refine gate_callee (f := 43) rfl ?_); refine goesL_ (some 17) rfl rfl Try.func43 (by kernel_rfl) rfl #[.agg #[.int .i64 a0_0, .int .i64 a0_1, .slice A0_2 l0_2.length c0_2, .slice A0_3 l0_3.length c0_3, .int .i64 a0_4, .int .i64 a0_5], .int .i64 a2] rfl (by (try simp only [List.map_toArray, List.map_cons, List.map_nil]); first | done | rfl | (simp only [List.length_drop, List.length_take]; rfl)) ?_; (with_reducible refine (vertex_Bytes.calls a0_0 a0_1 _ _ l0_2 _ _ l0_3 a0_4 a0_5 a2 t319 t320 _ ?side1 ?side2 ?side3 ?side4 A5.out).mono ?_); (case side1 => repeat (first | exact (Kd.C_below HR0_2.out HB.out) | (with_reducible refine Kd.C_alloc ?_ _) | (with_reducible refine Kd.C_drewN ?_ _) | (with_reducible refine Kd.C_drew ?_))); (case side2 => exact HC0_2.out); (case side3 => repeat (first | exact (Kd.C_below HR0_3.out HB.out) | (with_reducible refine Kd.C_alloc ?_ _) | (with_reducible refine Kd.C_drewN ?_ _) | (with_reducible refine Kd.C_drew ?_))); (case side4 => exact HC0_3.out); rintro e w16 ⟨rfl, hb⟩; refine ⟨_, rfl, ?_⟩; have n0_ := Aside0.mk (blk_below (g := gb316) (o := .cells #[.int .i64 a0_0, .int .i64 a0_1, .slice A0_2 l0_2.length c0_2, .slice A0_3 l0_3.length c0_3, .int .i64 a0_4, .int .i64 a0_5] 75 (0, 0)) (by (with_reducible repeat (first | refine blk_drewN ?_ _ | refine blk_drew ?_ | refine blk_alloc ?_ _)); exact BK316.out) hb); have n1_ := Aside0.mk (blk_below (g := gb317) (o := .cells #[.int .i64 a1_0, .int .i64 a1_1, .slice A1_2 l1_2.length c1_2, .slice A1_3 l1_3.length c1_3, .int .i64 a1_4, .int .i64 a1_5] 75 (0, 0)) (by (with_reducible repeat (first | refine blk_drewN ?_ _ | refine blk_drew ?_ | refine blk_alloc ?_ _)); exact BK317.out) hb); have n2_ := Aside0.mk (below_step (by repeat (first | (with_reducible first | exact HB.out | apply below_alloc | apply pw_below_drewN | apply below_drew1 | refine below_set ?_ GE316.out | refine below_set ?_ GE317.out) | exact HB.out)) hb); clear BK316; clear BK317; clear HB; have BK316 := n0_; have BK317 := n1_; have HB := n2_; clear n0_ n1_ n2_; (try clear hb); (try clear hb2); (try clear hk); (try clear hi); have hcz17_0 : w16.cell? ⟨gb317, 0, none⟩ = some (.int .i64 a1_0) := (blk_cell BK317.out 0).trans rfl; have hcz17_1 : w16.cell? ⟨gb317, 1, none⟩ = some (.int .i64 a1_1) := (blk_cell BK317.out 1).trans rfl; have hcz17_2 : w16.cell? ⟨gb317, 2, none⟩ = some (.slice A1_2 l1_2.length c1_2) := (blk_cell BK317.out 2).trans rfl; have hcz17_3 : w16.cell? ⟨gb317, 3, none⟩ = some (.slice A1_3 l1_3.length c1_3) := (blk_cell BK317.out 3).trans rfl; have hcz17_4 : w16.cell? ⟨gb317, 4, none⟩ = some (.int .i64 a1_4) := (blk_cell BK317.out 4).trans rfl; have hcz17_5 : w16.cell? ⟨gb317, 5, none⟩ = some (.int .i64 a1_5) := (blk_cell BK317.out 5).trans rfl; have hfz17_0 := blk_frozen BK317.out 0; have hfz17_1 := blk_frozen BK317.out 1; have hfz17_2 := blk_frozen BK317.out 2; have hfz17_3 := blk_frozen BK317.out 3; have hfz17_4 := blk_frozen BK317.out 4; have hfz17_5 := blk_frozen BK317.out 5) | ((with_reducible refine gate_callee (f := 43) rfl ?_); refine goesL_ (some 23) rfl rfl Try.func43 (by kernel_rfl) rfl #[.agg #[.int .i64 a1_0, .int .i64 a1_1, .slice A1_2 l1_2.length c1_2, .slice A1_3 l1_3.length c1_3, .int .i64 a1_4, .int .i64 a1_5], .int .i64 a2] rfl (by (try simp only [List.map_toArray, List.map_cons, List.map_nil]); first | done | rfl | (simp only [List.length_drop, List.length_take]; rfl)) ?_; (with_reducible refine (vertex_Bytes.calls a1_0 a1_1 _ _ l1_2 _ _ l1_3 a1_4 a1_5 a2 t321 t322 _ ?side1 ?side2 ?side3 ?side4 A6.out).mono ?_); (case side1 => repeat (first | exact (Kd.C_below HR1_2.out HB.out) | (with_reducible refine Kd.C_alloc ?_ _) | (with_reducible refine Kd.C_drewN ?_ _) | (with_reducible refine Kd.C_drew ?_))); (case side2 => exact HC1_2.out); (case side3 => repeat (first | exact (Kd.C_below HR1_3.out HB.out) | (with_reducible refine Kd.C_alloc ?_ _) | (with_reducible refine Kd.C_drewN ?_ _) | (with_reducible refine Kd.C_drew ?_))); (case side4 => exact HC1_3.out); rintro e w18 ⟨rfl, hb⟩; refine ⟨_, rfl, ?_⟩; have n0_ := Aside0.mk (blk_below (g := gb316) (o := .cells #[.int .i64 a0_0, .int .i64 a0_1, .slice A0_2 l0_2.length c0_2, .slice A0_3 l0_3.length c0_3, .int .i64 a0_4, .int .i64 a0_5] 75 (0, 0)) (by (with_reducible repeat (first | refine blk_drewN ?_ _ | refine blk_drew ?_ | refine blk_alloc ?_ _)); exact BK316.out) hb); have n1_ := Aside0.mk (blk_below (g := gb317) (o := .cells #[.int .i64 a1_0, .int .i64 a1_1, .slice A1_2 l1_2.length c1_2, .slice A1_3 l1_3.length c1_3, .int .i64 a1_4, .int .i64 a1_5] 75 (0, 0)) (by (with_reducible repeat (first | refine blk_drewN ?_ _ | refine blk_drew ?_ | refine blk_alloc ?_ _)); exact BK317.out) hb); have n2_ := Aside0.mk (below_step (by repeat (first | (with_reducible first | exact HB.out | apply below_alloc | apply pw_below_drewN | apply below_drew1 | refine below_set ?_ GE316.out | refine below_set ?_ GE317.out) | exact HB.out)) hb); clear BK316; clear BK317; clear HB; have BK316 := n0_; have BK317 := n1_; have HB := n2_; clear n0_ n1_ n2_; (try clear hb); (try clear hb2); (try clear hk); (try clear hi); have hcz19_0 : w18.cell? ⟨gb316, 0, none⟩ = some (.int .i64 a0_0) := (blk_cell BK316.out 0).trans rfl; have hcz19_1 : w18.cell? ⟨gb316, 1, none⟩ = some (.int .i64 a0_1) := (blk_cell BK316.out 1).trans rfl; have hcz19_2 : w18.cell? ⟨gb316, 2, none⟩ = some (.slice A0_2 l0_2.length c0_2) := (blk_cell BK316.out 2).trans rfl; have hcz19_3 : w18.cell? ⟨gb316, 3, none⟩ = some (.slice A0_3 l0_3.length c0_3) := (blk_cell BK316.out 3).trans rfl; have hcz19_4 : w18.cell? ⟨gb316, 4, none⟩ = some (.int .i64 a0_4) := (blk_cell BK316.out 4).trans rfl; have hcz19_5 : w18.cell? ⟨gb316, 5, none⟩ = some (.int .i64 a0_5) := (blk_cell BK316.out 5).trans rfl; have hfz19_0 := blk_frozen BK316.out 0; have hfz19_1 := blk_frozen BK316.out 1; have hfz19_2 := blk_frozen BK316.out 2; have hfz19_3 := blk_frozen BK316.out 3; have hfz19_4 := blk_frozen BK316.out 4; have hfz19_5 := blk_frozen BK316.out 5; have hcz20_0 : w18.cell? ⟨gb317, 0, none⟩ = some (.int .i64 a1_0) := (blk_cell BK317.out 0).trans rfl; have hcz20_1 : w18.cell? ⟨gb317, 1, none⟩ = some (.int .i64 a1_1) := (blk_cell BK317.out 1).trans rfl; have hcz20_2 : w18.cell? ⟨gb317, 2, none⟩ = some (.slice A1_2 l1_2.length c1_2) := (blk_cell BK317.out 2).trans rfl; have hcz20_3 : w18.cell? ⟨gb317, 3, none⟩ = some (.slice A1_3 l1_3.length c1_3) := (blk_cell BK317.out 3).trans rfl; have hcz20_4 : w18.cell? ⟨gb317, 4, none⟩ = some (.int .i64 a1_4) := (blk_cell BK317.out 4).trans rfl; have hcz20_5 : w18.cell? ⟨gb317, 5, none⟩ = some (.int .i64 a1_5) := (blk_cell BK317.out 5).trans rfl; have hfz20_0 := blk_frozen BK317.out 0; have hfz20_1 := blk_frozen BK317.out 1; have hfz20_2 := blk_frozen BK317.out 2; have hfz20_3 := blk_frozen BK317.out 3; have hfz20_4 := blk_frozen BK317.out 4; have hfz20_5 := blk_frozen BK317.out 5) | ((with_reducible refine gate_callee (f := 44) rfl ?_); refine goesL_ (some 35) rfl rfl Try.func44 (by kernel_rfl) rfl #[.agg #[.int .i64 a0_0, .int .i64 a0_1, .slice A0_2 l0_2.length c0_2, .slice A0_3 l0_3.length c0_3, .int .i64 a0_4, .int .i64 a0_5], .agg #[.int .i64 a1_0, .int .i64 a1_1, .slice A1_2 l1_2.length c1_2, .slice A1_3 l1_3.length c1_3, .int .i64 a1_4, .int .i64 a1_5]] rfl (by (try simp only [List.map_toArray, List.map_cons, List.map_nil]); first | done | rfl | (simp only [List.length_drop, List.length_take]; rfl)) ?_; (with_reducible refine (selvedgeref08_Same.calls k a0_0 a0_1 _ _ l0_2 _ _ l0_3 a0_4 a0_5 a1_0 a1_1 _ _ l1_2 _ _ l1_3 a1_4 a1_5 t323 _ ?side1 ?side2 ?side3 ?side4 ?side5 ?side6 ?side7 ?side8 A9.out).mono ?_); (case side1 => repeat (first | exact (Kd.C_below HR0_2.out HB.out) | (with_reducible refine Kd.C_alloc ?_ _) | (with_reducible refine Kd.C_drewN ?_ _) | (with_reducible refine Kd.C_drew ?_))); (case side2 => exact HC0_2.out); (case side3 => repeat (first | exact (Kd.C_below HR0_3.out HB.out) | (with_reducible refine Kd.C_alloc ?_ _) | (with_reducible refine Kd.C_drewN ?_ _) | (with_reducible refine Kd.C_drew ?_))); (case side4 => exact HC0_3.out); (case side5 => repeat (first | exact (Kd.C_below HR1_2.out HB.out) | (with_reducible refine Kd.C_alloc ?_ _) | (with_reducible refine Kd.C_drewN ?_ _) | (with_reducible refine Kd.C_drew ?_))); (case side6 => exact HC1_2.out); (case side7 => repeat (first | exact (Kd.C_below HR1_3.out HB.out) | (with_reducible refine Kd.C_alloc ?_ _) | (with_reducible refine Kd.C_drewN ?_ _) | (with_reducible refine Kd.C_drew ?_))); (case side8 => exact HC1_3.out); rintro e w21 ⟨rfl, hb⟩; refine ⟨_, rfl, ?_⟩; have n0_ := Aside0.mk (blk_below (g := gb316) (o := .cells #[.int .i64 a0_0, .int .i64 a0_1, .slice A0_2 l0_2.length c0_2, .slice A0_3 l0_3.length c0_3, .int .i64 a0_4, .int .i64 a0_5] 75 (0, 0)) (by (with_reducible repeat (first | refine blk_drewN ?_ _ | refine blk_drew ?_ | refine blk_alloc ?_ _)); exact BK316.out) hb); have n1_ := Aside0.mk (blk_below (g := gb317) (o := .cells #[.int .i64 a1_0, .int .i64 a1_1, .slice A1_2 l1_2.length c1_2, .slice A1_3 l1_3.length c1_3, .int .i64 a1_4, .int .i64 a1_5] 75 (0, 0)) (by (with_reducible repeat (first | refine blk_drewN ?_ _ | refine blk_drew ?_ | refine blk_alloc ?_ _)); exact BK317.out) hb); have n2_ := Aside0.mk (below_step (by repeat (first | (with_reducible first | exact HB.out | apply below_alloc | apply pw_below_drewN | apply below_drew1 | refine below_set ?_ GE316.out | refine below_set ?_ GE317.out) | exact HB.out)) hb); clear BK316; clear BK317; clear HB; have BK316 := n0_; have BK317 := n1_; have HB := n2_; clear n0_ n1_ n2_; (try clear hb); (try clear hb2); (try clear hk); (try clear hi)))
        go_ret
        exact ⟨by first | rfl | (simp [errW_none, errW_some] <;> rfl) | (simp [*, errW_none, errW_some] <;> rfl), by repeat (first | (with_reducible first | exact HB.out | apply below_alloc | apply pw_below_drewN | apply below_drew1 | refine below_set ?_ GE316.out | refine below_set ?_ GE317.out) | exact HB.out)⟩
      · replace c10 := Bool.eq_false_iff.mpr c10
        subst c10
        have H1 : (some false) = some r := by rw [if_neg (show ¬ (false = true) by decide)] at H; exact H
        clear H
        have H := H1
        clear H1
        obtain rfl := Option.some.inj H
        go_enter Try.func15, Try.ntmps15
        go_wp2_with (first | ((with_reducible refine gate_dst (N := 3) rfl ?_); refine box_event ?hg (N := 3) ?hd (cs := #[.int .i64 a0_0, .int .i64 a0_1, .slice A0_2 l0_2.length c0_2, .slice A0_3 l0_3.length c0_3, .int .i64 a0_4, .int .i64 a0_5]) (t := 75) ?hr ?_; (case hd => rfl); (case hg => rfl); (case hr => first | (go_simp; done) | (go_simp; rfl)); intro gb316 hg w22 hbox hb; have n0_ := Aside0.mk (below_step (by repeat (first | (with_reducible first | exact HB.out | apply below_alloc | apply pw_below_drewN | apply below_drew1) | exact HB.out)) hb); have n1_ := Aside0.mk (hbox); have n2_ := Aside0.mk ((by rw [hg]; exact (below_size (by repeat (first | (with_reducible first | exact HB.out | apply below_alloc | apply pw_below_drewN | apply below_drew1) | exact HB.out))) : w.heap.size ≤ gb316)); have n3_ := Aside0.mk ((by rw [hg]; exact (below_size (by repeat (first | (with_reducible first | exact HB.out | apply below_alloc | apply pw_below_drewN | apply below_drew1) | exact HB.out))) : w.heap.size ≤ gb316)); clear HB; have HB := n0_; have BK316 := n1_; have GW316 := n2_; have GE316 := n3_; clear n0_ n1_ n2_ n3_; clear hb hbox hg) | ((with_reducible refine gate_dst (N := 4) rfl ?_); refine box_event ?hg (N := 4) ?hd (cs := #[.int .i64 a1_0, .int .i64 a1_1, .slice A1_2 l1_2.length c1_2, .slice A1_3 l1_3.length c1_3, .int .i64 a1_4, .int .i64 a1_5]) (t := 75) ?hr ?_; (case hd => rfl); (case hg => rfl); (case hr => first | (go_simp; done) | (go_simp; rfl)); intro gb317 hg w23 hbox hb; have n0_ := Aside0.mk (blk_below (g := gb316) (o := .cells #[.int .i64 a0_0, .int .i64 a0_1, .slice A0_2 l0_2.length c0_2, .slice A0_3 l0_3.length c0_3, .int .i64 a0_4, .int .i64 a0_5] 75 (0, 0)) (by (with_reducible repeat (first | refine blk_drewN ?_ _ | refine blk_drew ?_ | refine blk_alloc ?_ _)); exact BK316.out) hb); have n1_ := Aside0.mk (below_step (by repeat (first | (with_reducible first | exact HB.out | apply below_alloc | apply pw_below_drewN | apply below_drew1 | refine below_set ?_ GE316.out) | exact HB.out)) hb); have n2_ := Aside0.mk (hbox); have n3_ := Aside0.mk ((by rw [hg]; exact (below_size (by repeat (first | (with_reducible first | exact HB.out | apply below_alloc | apply pw_below_drewN | apply below_drew1 | refine below_set ?_ GE316.out) | exact HB.out))) : w.heap.size ≤ gb317)); have n4_ := Aside0.mk ((by rw [hg]; exact (below_size (by repeat (first | (with_reducible first | exact HB.out | apply below_alloc | apply pw_below_drewN | apply below_drew1 | refine below_set ?_ GE316.out) | exact HB.out))) : w.heap.size ≤ gb317)); have n5_ := Aside0.mk ((by rw [hg]; exact Nat.ne_of_lt (blk_lt (g := gb316) (o := .cells #[.int .i64 a0_0, .int .i64 a0_1, .slice A0_2 l0_2.length c0_2, .slice A0_3 l0_3.length c0_3, .int .i64 a0_4, .int .i64 a0_5] 75 (0, 0)) (by (with_reducible repeat (first | refine blk_drewN ?_ _ | refine blk_drew ?_ | refine blk_alloc ?_ _)); exact BK316.out)) : gb316 ≠ gb317)); have n6_ := Aside0.mk ((by rw [hg]; exact Nat.ne_of_gt (blk_lt (g := gb316) (o := .cells #[.int .i64 a0_0, .int .i64 a0_1, .slice A0_2 l0_2.length c0_2, .slice A0_3 l0_3.length c0_3, .int .i64 a0_4, .int .i64 a0_5] 75 (0, 0)) (by (with_reducible repeat (first | refine blk_drewN ?_ _ | refine blk_drew ?_ | refine blk_alloc ?_ _)); exact BK316.out)) : gb317 ≠ gb316)); clear BK316; clear HB; have BK316 := n0_; have HB := n1_; have BK317 := n2_; have GW317 := n3_; have GE317 := n4_; have NB316_317 := n5_; have NB317_316 := n6_; clear n0_ n1_ n2_ n3_ n4_ n5_ n6_; clear hb hbox hg) | ((with_reducible refine gate_callee (f := 42) rfl ?_); refine goesL_ (some 13) rfl rfl Try.func42 (by kernel_rfl) rfl #[] rfl (by (try simp only [List.map_toArray, List.map_cons, List.map_nil]); first | done | rfl | (simp only [List.length_drop, List.length_take]; rfl)) ?_; (with_reducible refine (selvedgelaw08_shown.calls  false _ A4.out).mono ?_); rintro e w24 ⟨rfl, hb⟩; refine ⟨_, rfl, ?_⟩; have n0_ := Aside0.mk (blk_below (g := gb316) (o := .cells #[.int .i64 a0_0, .int .i64 a0_1, .slice A0_2 l0_2.length c0_2, .slice A0_3 l0_3.length c0_3, .int .i64 a0_4, .int .i64 a0_5] 75 (0, 0)) (by (with_reducible repeat (first | refine blk_drewN ?_ _ | refine blk_drew ?_ | refine blk_alloc ?_ _)); exact BK316.out) hb); have n1_ := Aside0.mk (blk_below (g := gb317) (o := .cells #[.int .i64 a1_0, .int .i64 a1_1, .slice A1_2 l1_2.length c1_2, .slice A1_3 l1_3.length c1_3, .int .i64 a1_4, .int .i64 a1_5] 75 (0, 0)) (by (with_reducible repeat (first | refine blk_drewN ?_ _ | refine blk_drew ?_ | refine blk_alloc ?_ _)); exact BK317.out) hb); have n2_ := Aside0.mk (below_step (by repeat (first | (with_reducible first | exact HB.out | apply below_alloc | apply pw_below_drewN | apply below_drew1 | refine below_set ?_ GE316.out | refine below_set ?_ GE317.out) | exact HB.out)) hb); clear BK316; clear BK317; clear HB; have BK316 := n0_; have BK317 := n1_; have HB := n2_; clear n0_ n1_ n2_; (try clear hb); (try clear hb2); (try clear hk); (try clear hi); have hnb25 := NB316_317.out; have hnc25 := NB317_316.out; have hcz26_0 : w24.cell? ⟨gb316, 0, none⟩ = some (.int .i64 a0_0) := (blk_cell BK316.out 0).trans rfl; have hcz26_1 : w24.cell? ⟨gb316, 1, none⟩ = some (.int .i64 a0_1) := (blk_cell BK316.out 1).trans rfl; have hcz26_2 : w24.cell? ⟨gb316, 2, none⟩ = some (.slice A0_2 l0_2.length c0_2) := (blk_cell BK316.out 2).trans rfl; have hcz26_3 : w24.cell? ⟨gb316, 3, none⟩ = some (.slice A0_3 l0_3.length c0_3) := (blk_cell BK316.out 3).trans rfl; have hcz26_4 : w24.cell? ⟨gb316, 4, none⟩ = some (.int .i64 a0_4) := (blk_cell BK316.out 4).trans rfl; have hcz26_5 : w24.cell? ⟨gb316, 5, none⟩ = some (.int .i64 a0_5) := (blk_cell BK316.out 5).trans rfl; have hfz26_0 := blk_frozen BK316.out 0; have hfz26_1 := blk_frozen BK316.out 1; have hfz26_2 := blk_frozen BK316.out 2; have hfz26_3 := blk_frozen BK316.out 3; have hfz26_4 := blk_frozen BK316.out 4; have hfz26_5 := blk_frozen BK316.out 5) | ((with_reducible refine gate_callee (f := 43) rfl ?_); refine goesL_ (some 17) rfl rfl Try.func43 (by kernel_rfl) rfl #[.agg #[.int .i64 a0_0, .int .i64 a0_1, .slice A0_2 l0_2.length c0_2, .slice A0_3 l0_3.length c0_3, .int .i64 a0_4, .int .i64 a0_5], .int .i64 a2] rfl (by (try simp only [List.map_toArray, List.map_cons, List.map_nil]); first | done | rfl | (simp only [List.length_drop, List.length_take]; rfl)) ?_; (with_reducible refine (vertex_Bytes.calls a0_0 a0_1 _ _ l0_2 _ _ l0_3 a0_4 a0_5 a2 t319 t320 _ ?side1 ?side2 ?side3 ?side4 A5.out).mono ?_); (case side1 => repeat (first | exact (Kd.C_below HR0_2.out HB.out) | (with_reducible refine Kd.C_alloc ?_ _) | (with_reducible refine Kd.C_drewN ?_ _) | (with_reducible refine Kd.C_drew ?_))); (case side2 => exact HC0_2.out); (case side3 => repeat (first | exact (Kd.C_below HR0_3.out HB.out) | (with_reducible refine Kd.C_alloc ?_ _) | (with_reducible refine Kd.C_drewN ?_ _) | (with_reducible refine Kd.C_drew ?_))); (case side4 => exact HC0_3.out); rintro e w27 ⟨rfl, hb⟩; refine ⟨_, rfl, ?_⟩; have n0_ := Aside0.mk (blk_below (g := gb316) (o := .cells #[.int .i64 a0_0, .int .i64 a0_1, .slice A0_2 l0_2.length c0_2, .slice A0_3 l0_3.length c0_3, .int .i64 a0_4, .int .i64 a0_5] 75 (0, 0)) (by (with_reducible repeat (first | refine blk_drewN ?_ _ | refine blk_drew ?_ | refine blk_alloc ?_ _)); exact BK316.out) hb); have n1_ := Aside0.mk (blk_below (g := gb317) (o := .cells #[.int .i64 a1_0, .int .i64 a1_1, .slice A1_2 l1_2.length c1_2, .slice A1_3 l1_3.length c1_3, .int .i64 a1_4, .int .i64 a1_5] 75 (0, 0)) (by (with_reducible repeat (first | refine blk_drewN ?_ _ | refine blk_drew ?_ | refine blk_alloc ?_ _)); exact BK317.out) hb); have n2_ := Aside0.mk (below_step (by repeat (first | (with_reducible first | exact HB.out | apply below_alloc | apply pw_below_drewN | apply below_drew1 | refine below_set ?_ GE316.out | refine below_set ?_ GE317.out) | exact HB.out)) hb); clear BK316; clear BK317; clear HB; have BK316 := n0_; have BK317 := n1_; have HB := n2_; clear n0_ n1_ n2_; (try clear hb); (try clear hb2); (try clear hk); (try clear hi); have hcz28_0 : w27.cell? ⟨gb317, 0, none⟩ = some (.int .i64 a1_0) := (blk_cell BK317.out 0).trans rfl; have hcz28_1 : w27.cell? ⟨gb317, 1, none⟩ = some (.int .i64 a1_1) := (blk_cell BK317.out 1).trans rfl; have hcz28_2 : w27.cell? ⟨gb317, 2, none⟩ = some (.slice A1_2 l1_2.length c1_2) := (blk_cell BK317.out 2).trans rfl; have hcz28_3 : w27.cell? ⟨gb317, 3, none⟩ = some (.slice A1_3 l1_3.length c1_3) := (blk_cell BK317.out 3).trans rfl; have hcz28_4 : w27.cell? ⟨gb317, 4, none⟩ = some (.int .i64 a1_4) := (blk_cell BK317.out 4).trans rfl; have hcz28_5 : w27.cell? ⟨gb317, 5, none⟩ = some (.int .i64 a1_5) := (blk_cell BK317.out 5).trans rfl; have hfz28_0 := blk_frozen BK317.out 0; have hfz28_1 := blk_frozen BK317.out 1; have hfz28_2 := blk_frozen BK317.out 2; have hfz28_3 := blk_frozen BK317.out 3; have hfz28_4 := blk_frozen BK317.out 4; have hfz28_5 := blk_frozen BK317.out 5) | ((with_reducible refine gate_callee (f := 43) rfl ?_); refine goesL_ (some 23) rfl rfl Try.func43 (by kernel_rfl) rfl #[.agg #[.int .i64 a1_0, .int .i64 a1_1, .slice A1_2 l1_2.length c1_2, .slice A1_3 l1_3.length c1_3, .int .i64 a1_4, .int .i64 a1_5], .int .i64 a2] rfl (by (try simp only [List.map_toArray, List.map_cons, List.map_nil]); first | done | rfl | (simp only [List.length_drop, List.length_take]; rfl)) ?_; (with_reducible refine (vertex_Bytes.calls a1_0 a1_1 _ _ l1_2 _ _ l1_3 a1_4 a1_5 a2 t321 t322 _ ?side1 ?side2 ?side3 ?side4 A6.out).mono ?_); (case side1 => repeat (first | exact (Kd.C_below HR1_2.out HB.out) | (with_reducible refine Kd.C_alloc ?_ _) | (with_reducible refine Kd.C_drewN ?_ _) | (with_reducible refine Kd.C_drew ?_))); (case side2 => exact HC1_2.out); (case side3 => repeat (first | exact (Kd.C_below HR1_3.out HB.out) | (with_reducible refine Kd.C_alloc ?_ _) | (with_reducible refine Kd.C_drewN ?_ _) | (with_reducible refine Kd.C_drew ?_))); (case side4 => exact HC1_3.out); rintro e w29 ⟨rfl, hb⟩; refine ⟨_, rfl, ?_⟩; have n0_ := Aside0.mk (blk_below (g := gb316) (o := .cells #[.int .i64 a0_0, .int .i64 a0_1, .slice A0_2 l0_2.length c0_2, .slice A0_3 l0_3.length c0_3, .int .i64 a0_4, .int .i64 a0_5] 75 (0, 0)) (by (with_reducible repeat (first | refine blk_drewN ?_ _ | refine blk_drew ?_ | refine blk_alloc ?_ _)); exact BK316.out) hb); have n1_ := Aside0.mk (blk_below (g := gb317) (o := .cells #[.int .i64 a1_0, .int .i64 a1_1, .slice A1_2 l1_2.length c1_2, .slice A1_3 l1_3.length c1_3, .int .i64 a1_4, .int .i64 a1_5] 75 (0, 0)) (by (with_reducible repeat (first | refine blk_drewN ?_ _ | refine blk_drew ?_ | refine blk_alloc ?_ _)); exact BK317.out) hb); have n2_ := Aside0.mk (below_step (by repeat (first | (with_reducible first | exact HB.out | apply below_alloc | apply pw_below_drewN | apply below_drew1 | refine below_set ?_ GE316.out | refine below_set ?_ GE317.out) | exact HB.out)) hb); clear BK316; clear BK317; clear HB; have BK316 := n0_; have BK317 := n1_; have HB := n2_; clear n0_ n1_ n2_; (try clear hb); (try clear hb2); (try clear hk); (try clear hi); have hcz30_0 : w29.cell? ⟨gb316, 0, none⟩ = some (.int .i64 a0_0) := (blk_cell BK316.out 0).trans rfl; have hcz30_1 : w29.cell? ⟨gb316, 1, none⟩ = some (.int .i64 a0_1) := (blk_cell BK316.out 1).trans rfl; have hcz30_2 : w29.cell? ⟨gb316, 2, none⟩ = some (.slice A0_2 l0_2.length c0_2) := (blk_cell BK316.out 2).trans rfl; have hcz30_3 : w29.cell? ⟨gb316, 3, none⟩ = some (.slice A0_3 l0_3.length c0_3) := (blk_cell BK316.out 3).trans rfl; have hcz30_4 : w29.cell? ⟨gb316, 4, none⟩ = some (.int .i64 a0_4) := (blk_cell BK316.out 4).trans rfl; have hcz30_5 : w29.cell? ⟨gb316, 5, none⟩ = some (.int .i64 a0_5) := (blk_cell BK316.out 5).trans rfl; have hfz30_0 := blk_frozen BK316.out 0; have hfz30_1 := blk_frozen BK316.out 1; have hfz30_2 := blk_frozen BK316.out 2; have hfz30_3 := blk_frozen BK316.out 3; have hfz30_4 := blk_frozen BK316.out 4; have hfz30_5 := blk_frozen BK316.out 5; have hcz31_0 : w29.cell? ⟨gb317, 0, none⟩ = some (.int .i64 a1_0) := (blk_cell BK317.out 0).trans rfl; have hcz31_1 : w29.cell? ⟨gb317, 1, none⟩ = some (.int .i64 a1_1) := (blk_cell BK317.out 1).trans rfl; have hcz31_2 : w29.cell? ⟨gb317, 2, none⟩ = some (.slice A1_2 l1_2.length c1_2) := (blk_cell BK317.out 2).trans rfl; have hcz31_3 : w29.cell? ⟨gb317, 3, none⟩ = some (.slice A1_3 l1_3.length c1_3) := (blk_cell BK317.out 3).trans rfl; have hcz31_4 : w29.cell? ⟨gb317, 4, none⟩ = some (.int .i64 a1_4) := (blk_cell BK317.out 4).trans rfl; have hcz31_5 : w29.cell? ⟨gb317, 5, none⟩ = some (.int .i64 a1_5) := (blk_cell BK317.out 5).trans rfl; have hfz31_0 := blk_frozen BK317.out 0; have hfz31_1 := blk_frozen BK317.out 1; have hfz31_2 := blk_frozen BK317.out 2; have hfz31_3 := blk_frozen BK317.out 3; have hfz31_4 := blk_frozen BK317.out 4; have hfz31_5 := blk_frozen BK317.out 5) | ((with_reducible refine gate_callee (f := 44) rfl ?_); refine goesL_ (some 35) rfl rfl Try.func44 (by kernel_rfl) rfl #[.agg #[.int .i64 a0_0, .int .i64 a0_1, .slice A0_2 l0_2.length c0_2, .slice A0_3 l0_3.length c0_3, .int .i64 a0_4, .int .i64 a0_5], .agg #[.int .i64 a1_0, .int .i64 a1_1, .slice A1_2 l1_2.length c1_2, .slice A1_3 l1_3.length c1_3, .int .i64 a1_4, .int .i64 a1_5]] rfl (by (try simp only [List.map_toArray, List.map_cons, List.map_nil]); first | done | rfl | (simp only [List.length_drop, List.length_take]; rfl)) ?_; (with_reducible refine (selvedgeref08_Same.calls k a0_0 a0_1 _ _ l0_2 _ _ l0_3 a0_4 a0_5 a1_0 a1_1 _ _ l1_2 _ _ l1_3 a1_4 a1_5 t323 _ ?side1 ?side2 ?side3 ?side4 ?side5 ?side6 ?side7 ?side8 A9.out).mono ?_); (case side1 => repeat (first | exact (Kd.C_below HR0_2.out HB.out) | (with_reducible refine Kd.C_alloc ?_ _) | (with_reducible refine Kd.C_drewN ?_ _) | (with_reducible refine Kd.C_drew ?_))); (case side2 => exact HC0_2.out); (case side3 => repeat (first | exact (Kd.C_below HR0_3.out HB.out) | (with_reducible refine Kd.C_alloc ?_ _) | (with_reducible refine Kd.C_drewN ?_ _) | (with_reducible refine Kd.C_drew ?_))); (case side4 => exact HC0_3.out); (case side5 => repeat (first | exact (Kd.C_below HR1_2.out HB.out) | (with_reducible refine Kd.C_alloc ?_ _) | (with_reducible refine Kd.C_drewN ?_ _) | (with_reducible refine Kd.C_drew ?_))); (case side6 => exact HC1_2.out); (case side7 => repeat (first | exact (Kd.C_below HR1_3.out HB.out) | (with_reducible refine Kd.C_alloc ?_ _) | (with_reducible refine Kd.C_drewN ?_ _) | (with_reducible refine Kd.C_drew ?_))); (case side8 => exact HC1_3.out); rintro e w32 ⟨rfl, hb⟩; refine ⟨_, rfl, ?_⟩; have n0_ := Aside0.mk (blk_below (g := gb316) (o := .cells #[.int .i64 a0_0, .int .i64 a0_1, .slice A0_2 l0_2.length c0_2, .slice A0_3 l0_3.length c0_3, .int .i64 a0_4, .int .i64 a0_5] 75 (0, 0)) (by (with_reducible repeat (first | refine blk_drewN ?_ _ | refine blk_drew ?_ | refine blk_alloc ?_ _)); exact BK316.out) hb); have n1_ := Aside0.mk (blk_below (g := gb317) (o := .cells #[.int .i64 a1_0, .int .i64 a1_1, .slice A1_2 l1_2.length c1_2, .slice A1_3 l1_3.length c1_3, .int .i64 a1_4, .int .i64 a1_5] 75 (0, 0)) (by (with_reducible repeat (first | refine blk_drewN ?_ _ | refine blk_drew ?_ | refine blk_alloc ?_ _)); exact BK317.out) hb); have n2_ := Aside0.mk (below_step (by repeat (first | (with_reducible first | exact HB.out | apply below_alloc | apply pw_below_drewN | apply below_drew1 | refine below_set ?_ GE316.out | refine below_set ?_ GE317.out) | exact HB.out)) hb); clear BK316; clear BK317; clear HB; have BK316 := n0_; have BK317 := n1_; have HB := n2_; clear n0_ n1_ n2_; (try clear hb); (try clear hb2); (try clear hk); (try clear hi)))
        go_ret
        exact ⟨by first | rfl | (simp [errW_none, errW_some] <;> rfl) | (simp [*, errW_none, errW_some] <;> rfl), by repeat (first | (with_reducible first | exact HB.out | apply below_alloc | apply pw_below_drewN | apply below_drew1 | refine below_set ?_ GE316.out | refine below_set ?_ GE317.out) | exact HB.out)⟩
    · rw [if_neg c8] at H
      have c8b0 : (t322 == 0) = false := beq_eq_false_iff_ne.mpr c8
      have c8b1 : (t322 != 0) = true := bne_iff_ne.mpr c8
      obtain rfl := Option.some.inj H
      go_enter Try.func15, Try.ntmps15
      go_wp2_with (first | ((with_reducible refine gate_dst (N := 3) rfl ?_); refine box_event ?hg (N := 3) ?hd (cs := #[.int .i64 a0_0, .int .i64 a0_1, .slice A0_2 l0_2.length c0_2, .slice A0_3 l0_3.length c0_3, .int .i64 a0_4, .int .i64 a0_5]) (t := 75) ?hr ?_; (case hd => rfl); (case hg => rfl); (case hr => first | (go_simp; done) | (go_simp; rfl)); intro gb316 hg w33 hbox hb; have n0_ := Aside0.mk (below_step (by repeat (first | (with_reducible first | exact HB.out | apply below_alloc | apply pw_below_drewN | apply below_drew1) | exact HB.out)) hb); have n1_ := Aside0.mk (hbox); have n2_ := Aside0.mk ((by rw [hg]; exact (below_size (by repeat (first | (with_reducible first | exact HB.out | apply below_alloc | apply pw_below_drewN | apply below_drew1) | exact HB.out))) : w.heap.size ≤ gb316)); have n3_ := Aside0.mk ((by rw [hg]; exact (below_size (by repeat (first | (with_reducible first | exact HB.out | apply below_alloc | apply pw_below_drewN | apply below_drew1) | exact HB.out))) : w.heap.size ≤ gb316)); clear HB; have HB := n0_; have BK316 := n1_; have GW316 := n2_; have GE316 := n3_; clear n0_ n1_ n2_ n3_; clear hb hbox hg) | ((with_reducible refine gate_dst (N := 4) rfl ?_); refine box_event ?hg (N := 4) ?hd (cs := #[.int .i64 a1_0, .int .i64 a1_1, .slice A1_2 l1_2.length c1_2, .slice A1_3 l1_3.length c1_3, .int .i64 a1_4, .int .i64 a1_5]) (t := 75) ?hr ?_; (case hd => rfl); (case hg => rfl); (case hr => first | (go_simp; done) | (go_simp; rfl)); intro gb317 hg w34 hbox hb; have n0_ := Aside0.mk (blk_below (g := gb316) (o := .cells #[.int .i64 a0_0, .int .i64 a0_1, .slice A0_2 l0_2.length c0_2, .slice A0_3 l0_3.length c0_3, .int .i64 a0_4, .int .i64 a0_5] 75 (0, 0)) (by (with_reducible repeat (first | refine blk_drewN ?_ _ | refine blk_drew ?_ | refine blk_alloc ?_ _)); exact BK316.out) hb); have n1_ := Aside0.mk (below_step (by repeat (first | (with_reducible first | exact HB.out | apply below_alloc | apply pw_below_drewN | apply below_drew1 | refine below_set ?_ GE316.out) | exact HB.out)) hb); have n2_ := Aside0.mk (hbox); have n3_ := Aside0.mk ((by rw [hg]; exact (below_size (by repeat (first | (with_reducible first | exact HB.out | apply below_alloc | apply pw_below_drewN | apply below_drew1 | refine below_set ?_ GE316.out) | exact HB.out))) : w.heap.size ≤ gb317)); have n4_ := Aside0.mk ((by rw [hg]; exact (below_size (by repeat (first | (with_reducible first | exact HB.out | apply below_alloc | apply pw_below_drewN | apply below_drew1 | refine below_set ?_ GE316.out) | exact HB.out))) : w.heap.size ≤ gb317)); have n5_ := Aside0.mk ((by rw [hg]; exact Nat.ne_of_lt (blk_lt (g := gb316) (o := .cells #[.int .i64 a0_0, .int .i64 a0_1, .slice A0_2 l0_2.length c0_2, .slice A0_3 l0_3.length c0_3, .int .i64 a0_4, .int .i64 a0_5] 75 (0, 0)) (by (with_reducible repeat (first | refine blk_drewN ?_ _ | refine blk_drew ?_ | refine blk_alloc ?_ _)); exact BK316.out)) : gb316 ≠ gb317)); have n6_ := Aside0.mk ((by rw [hg]; exact Nat.ne_of_gt (blk_lt (g := gb316) (o := .cells #[.int .i64 a0_0, .int .i64 a0_1, .slice A0_2 l0_2.length c0_2, .slice A0_3 l0_3.length c0_3, .int .i64 a0_4, .int .i64 a0_5] 75 (0, 0)) (by (with_reducible repeat (first | refine blk_drewN ?_ _ | refine blk_drew ?_ | refine blk_alloc ?_ _)); exact BK316.out)) : gb317 ≠ gb316)); clear BK316; clear HB; have BK316 := n0_; have HB := n1_; have BK317 := n2_; have GW317 := n3_; have GE317 := n4_; have NB316_317 := n5_; have NB317_316 := n6_; clear n0_ n1_ n2_ n3_ n4_ n5_ n6_; clear hb hbox hg) | ((with_reducible refine gate_callee (f := 42) rfl ?_); refine goesL_ (some 13) rfl rfl Try.func42 (by kernel_rfl) rfl #[] rfl (by (try simp only [List.map_toArray, List.map_cons, List.map_nil]); first | done | rfl | (simp only [List.length_drop, List.length_take]; rfl)) ?_; (with_reducible refine (selvedgelaw08_shown.calls  t318 _ A4.out).mono ?_); rintro e w35 ⟨rfl, hb⟩; refine ⟨_, rfl, ?_⟩; have n0_ := Aside0.mk (blk_below (g := gb316) (o := .cells #[.int .i64 a0_0, .int .i64 a0_1, .slice A0_2 l0_2.length c0_2, .slice A0_3 l0_3.length c0_3, .int .i64 a0_4, .int .i64 a0_5] 75 (0, 0)) (by (with_reducible repeat (first | refine blk_drewN ?_ _ | refine blk_drew ?_ | refine blk_alloc ?_ _)); exact BK316.out) hb); have n1_ := Aside0.mk (blk_below (g := gb317) (o := .cells #[.int .i64 a1_0, .int .i64 a1_1, .slice A1_2 l1_2.length c1_2, .slice A1_3 l1_3.length c1_3, .int .i64 a1_4, .int .i64 a1_5] 75 (0, 0)) (by (with_reducible repeat (first | refine blk_drewN ?_ _ | refine blk_drew ?_ | refine blk_alloc ?_ _)); exact BK317.out) hb); have n2_ := Aside0.mk (below_step (by repeat (first | (with_reducible first | exact HB.out | apply below_alloc | apply pw_below_drewN | apply below_drew1 | refine below_set ?_ GE316.out | refine below_set ?_ GE317.out) | exact HB.out)) hb); clear BK316; clear BK317; clear HB; have BK316 := n0_; have BK317 := n1_; have HB := n2_; clear n0_ n1_ n2_; (try clear hb); (try clear hb2); (try clear hk); (try clear hi); have hnb36 := NB316_317.out; have hnc36 := NB317_316.out; have hcz37_0 : w35.cell? ⟨gb316, 0, none⟩ = some (.int .i64 a0_0) := (blk_cell BK316.out 0).trans rfl; have hcz37_1 : w35.cell? ⟨gb316, 1, none⟩ = some (.int .i64 a0_1) := (blk_cell BK316.out 1).trans rfl; have hcz37_2 : w35.cell? ⟨gb316, 2, none⟩ = some (.slice A0_2 l0_2.length c0_2) := (blk_cell BK316.out 2).trans rfl; have hcz37_3 : w35.cell? ⟨gb316, 3, none⟩ = some (.slice A0_3 l0_3.length c0_3) := (blk_cell BK316.out 3).trans rfl; have hcz37_4 : w35.cell? ⟨gb316, 4, none⟩ = some (.int .i64 a0_4) := (blk_cell BK316.out 4).trans rfl; have hcz37_5 : w35.cell? ⟨gb316, 5, none⟩ = some (.int .i64 a0_5) := (blk_cell BK316.out 5).trans rfl; have hfz37_0 := blk_frozen BK316.out 0; have hfz37_1 := blk_frozen BK316.out 1; have hfz37_2 := blk_frozen BK316.out 2; have hfz37_3 := blk_frozen BK316.out 3; have hfz37_4 := blk_frozen BK316.out 4; have hfz37_5 := blk_frozen BK316.out 5) | ((with_reducible refine gate_callee (f := 43) rfl ?_); refine goesL_ (some 17) rfl rfl Try.func43 (by kernel_rfl) rfl #[.agg #[.int .i64 a0_0, .int .i64 a0_1, .slice A0_2 l0_2.length c0_2, .slice A0_3 l0_3.length c0_3, .int .i64 a0_4, .int .i64 a0_5], .int .i64 a2] rfl (by (try simp only [List.map_toArray, List.map_cons, List.map_nil]); first | done | rfl | (simp only [List.length_drop, List.length_take]; rfl)) ?_; (with_reducible refine (vertex_Bytes.calls a0_0 a0_1 _ _ l0_2 _ _ l0_3 a0_4 a0_5 a2 t319 t320 _ ?side1 ?side2 ?side3 ?side4 A5.out).mono ?_); (case side1 => repeat (first | exact (Kd.C_below HR0_2.out HB.out) | (with_reducible refine Kd.C_alloc ?_ _) | (with_reducible refine Kd.C_drewN ?_ _) | (with_reducible refine Kd.C_drew ?_))); (case side2 => exact HC0_2.out); (case side3 => repeat (first | exact (Kd.C_below HR0_3.out HB.out) | (with_reducible refine Kd.C_alloc ?_ _) | (with_reducible refine Kd.C_drewN ?_ _) | (with_reducible refine Kd.C_drew ?_))); (case side4 => exact HC0_3.out); rintro e w38 ⟨rfl, hb⟩; refine ⟨_, rfl, ?_⟩; have n0_ := Aside0.mk (blk_below (g := gb316) (o := .cells #[.int .i64 a0_0, .int .i64 a0_1, .slice A0_2 l0_2.length c0_2, .slice A0_3 l0_3.length c0_3, .int .i64 a0_4, .int .i64 a0_5] 75 (0, 0)) (by (with_reducible repeat (first | refine blk_drewN ?_ _ | refine blk_drew ?_ | refine blk_alloc ?_ _)); exact BK316.out) hb); have n1_ := Aside0.mk (blk_below (g := gb317) (o := .cells #[.int .i64 a1_0, .int .i64 a1_1, .slice A1_2 l1_2.length c1_2, .slice A1_3 l1_3.length c1_3, .int .i64 a1_4, .int .i64 a1_5] 75 (0, 0)) (by (with_reducible repeat (first | refine blk_drewN ?_ _ | refine blk_drew ?_ | refine blk_alloc ?_ _)); exact BK317.out) hb); have n2_ := Aside0.mk (below_step (by repeat (first | (with_reducible first | exact HB.out | apply below_alloc | apply pw_below_drewN | apply below_drew1 | refine below_set ?_ GE316.out | refine below_set ?_ GE317.out) | exact HB.out)) hb); clear BK316; clear BK317; clear HB; have BK316 := n0_; have BK317 := n1_; have HB := n2_; clear n0_ n1_ n2_; (try clear hb); (try clear hb2); (try clear hk); (try clear hi); have hcz39_0 : w38.cell? ⟨gb317, 0, none⟩ = some (.int .i64 a1_0) := (blk_cell BK317.out 0).trans rfl; have hcz39_1 : w38.cell? ⟨gb317, 1, none⟩ = some (.int .i64 a1_1) := (blk_cell BK317.out 1).trans rfl; have hcz39_2 : w38.cell? ⟨gb317, 2, none⟩ = some (.slice A1_2 l1_2.length c1_2) := (blk_cell BK317.out 2).trans rfl; have hcz39_3 : w38.cell? ⟨gb317, 3, none⟩ = some (.slice A1_3 l1_3.length c1_3) := (blk_cell BK317.out 3).trans rfl; have hcz39_4 : w38.cell? ⟨gb317, 4, none⟩ = some (.int .i64 a1_4) := (blk_cell BK317.out 4).trans rfl; have hcz39_5 : w38.cell? ⟨gb317, 5, none⟩ = some (.int .i64 a1_5) := (blk_cell BK317.out 5).trans rfl; have hfz39_0 := blk_frozen BK317.out 0; have hfz39_1 := blk_frozen BK317.out 1; have hfz39_2 := blk_frozen BK317.out 2; have hfz39_3 := blk_frozen BK317.out 3; have hfz39_4 := blk_frozen BK317.out 4; have hfz39_5 := blk_frozen BK317.out 5) | ((with_reducible refine gate_callee (f := 43) rfl ?_); refine goesL_ (some 23) rfl rfl Try.func43 (by kernel_rfl) rfl #[.agg #[.int .i64 a1_0, .int .i64 a1_1, .slice A1_2 l1_2.length c1_2, .slice A1_3 l1_3.length c1_3, .int .i64 a1_4, .int .i64 a1_5], .int .i64 a2] rfl (by (try simp only [List.map_toArray, List.map_cons, List.map_nil]); first | done | rfl | (simp only [List.length_drop, List.length_take]; rfl)) ?_; (with_reducible refine (vertex_Bytes.calls a1_0 a1_1 _ _ l1_2 _ _ l1_3 a1_4 a1_5 a2 t321 t322 _ ?side1 ?side2 ?side3 ?side4 A6.out).mono ?_); (case side1 => repeat (first | exact (Kd.C_below HR1_2.out HB.out) | (with_reducible refine Kd.C_alloc ?_ _) | (with_reducible refine Kd.C_drewN ?_ _) | (with_reducible refine Kd.C_drew ?_))); (case side2 => exact HC1_2.out); (case side3 => repeat (first | exact (Kd.C_below HR1_3.out HB.out) | (with_reducible refine Kd.C_alloc ?_ _) | (with_reducible refine Kd.C_drewN ?_ _) | (with_reducible refine Kd.C_drew ?_))); (case side4 => exact HC1_3.out); rintro e w40 ⟨rfl, hb⟩; refine ⟨_, rfl, ?_⟩; have n0_ := Aside0.mk (blk_below (g := gb316) (o := .cells #[.int .i64 a0_0, .int .i64 a0_1, .slice A0_2 l0_2.length c0_2, .slice A0_3 l0_3.length c0_3, .int .i64 a0_4, .int .i64 a0_5] 75 (0, 0)) (by (with_reducible repeat (first | refine blk_drewN ?_ _ | refine blk_drew ?_ | refine blk_alloc ?_ _)); exact BK316.out) hb); have n1_ := Aside0.mk (blk_below (g := gb317) (o := .cells #[.int .i64 a1_0, .int .i64 a1_1, .slice A1_2 l1_2.length c1_2, .slice A1_3 l1_3.length c1_3, .int .i64 a1_4, .int .i64 a1_5] 75 (0, 0)) (by (with_reducible repeat (first | refine blk_drewN ?_ _ | refine blk_drew ?_ | refine blk_alloc ?_ _)); exact BK317.out) hb); have n2_ := Aside0.mk (below_step (by repeat (first | (with_reducible first | exact HB.out | apply below_alloc | apply pw_below_drewN | apply below_drew1 | refine below_set ?_ GE316.out | refine below_set ?_ GE317.out) | exact HB.out)) hb); clear BK316; clear BK317; clear HB; have BK316 := n0_; have BK317 := n1_; have HB := n2_; clear n0_ n1_ n2_; (try clear hb); (try clear hb2); (try clear hk); (try clear hi)))
      go_ret
      exact ⟨by first | rfl | (simp [errW_none, errW_some] <;> rfl) | (simp [*, errW_none, errW_some] <;> rfl), by repeat (first | (with_reducible first | exact HB.out | apply below_alloc | apply pw_below_drewN | apply below_drew1 | refine below_set ?_ GE316.out | refine below_set ?_ GE317.out) | exact HB.out)⟩
  · rw [if_neg c7] at H
    have c7b0 : (t320 == 0) = false := beq_eq_false_iff_ne.mpr c7
    have c7b1 : (t320 != 0) = true := bne_iff_ne.mpr c7
    obtain rfl := Option.some.inj H
    go_enter Try.func15, Try.ntmps15
    go_wp2_with (first | ((with_reducible refine gate_dst (N := 3) rfl ?_); refine box_event ?hg (N := 3) ?hd (cs := #[.int .i64 a0_0, .int .i64 a0_1, .slice A0_2 l0_2.length c0_2, .slice A0_3 l0_3.length c0_3, .int .i64 a0_4, .int .i64 a0_5]) (t := 75) ?hr ?_; (case hd => rfl); (case hg => rfl); (case hr => first | (go_simp; done) | (go_simp; rfl)); intro gb316 hg w41 hbox hb; have n0_ := Aside0.mk (below_step (by repeat (first | (with_reducible first | exact HB.out | apply below_alloc | apply pw_below_drewN | apply below_drew1) | exact HB.out)) hb); have n1_ := Aside0.mk (hbox); have n2_ := Aside0.mk ((by rw [hg]; exact (below_size (by repeat (first | (with_reducible first | exact HB.out | apply below_alloc | apply pw_below_drewN | apply below_drew1) | exact HB.out))) : w.heap.size ≤ gb316)); have n3_ := Aside0.mk ((by rw [hg]; exact (below_size (by repeat (first | (with_reducible first | exact HB.out | apply below_alloc | apply pw_below_drewN | apply below_drew1) | exact HB.out))) : w.heap.size ≤ gb316)); clear HB; have HB := n0_; have BK316 := n1_; have GW316 := n2_; have GE316 := n3_; clear n0_ n1_ n2_ n3_; clear hb hbox hg) | ((with_reducible refine gate_dst (N := 4) rfl ?_); refine box_event ?hg (N := 4) ?hd (cs := #[.int .i64 a1_0, .int .i64 a1_1, .slice A1_2 l1_2.length c1_2, .slice A1_3 l1_3.length c1_3, .int .i64 a1_4, .int .i64 a1_5]) (t := 75) ?hr ?_; (case hd => rfl); (case hg => rfl); (case hr => first | (go_simp; done) | (go_simp; rfl)); intro gb317 hg w42 hbox hb; have n0_ := Aside0.mk (blk_below (g := gb316) (o := .cells #[.int .i64 a0_0, .int .i64 a0_1, .slice A0_2 l0_2.length c0_2, .slice A0_3 l0_3.length c0_3, .int .i64 a0_4, .int .i64 a0_5] 75 (0, 0)) (by (with_reducible repeat (first | refine blk_drewN ?_ _ | refine blk_drew ?_ | refine blk_alloc ?_ _)); exact BK316.out) hb); have n1_ := Aside0.mk (below_step (by repeat (first | (with_reducible first | exact HB.out | apply below_alloc | apply pw_below_drewN | apply below_drew1 | refine below_set ?_ GE316.out) | exact HB.out)) hb); have n2_ := Aside0.mk (hbox); have n3_ := Aside0.mk ((by rw [hg]; exact (below_size (by repeat (first | (with_reducible first | exact HB.out | apply below_alloc | apply pw_below_drewN | apply below_drew1 | refine below_set ?_ GE316.out) | exact HB.out))) : w.heap.size ≤ gb317)); have n4_ := Aside0.mk ((by rw [hg]; exact (below_size (by repeat (first | (with_reducible first | exact HB.out | apply below_alloc | apply pw_below_drewN | apply below_drew1 | refine below_set ?_ GE316.out) | exact HB.out))) : w.heap.size ≤ gb317)); have n5_ := Aside0.mk ((by rw [hg]; exact Nat.ne_of_lt (blk_lt (g := gb316) (o := .cells #[.int .i64 a0_0, .int .i64 a0_1, .slice A0_2 l0_2.length c0_2, .slice A0_3 l0_3.length c0_3, .int .i64 a0_4, .int .i64 a0_5] 75 (0, 0)) (by (with_reducible repeat (first | refine blk_drewN ?_ _ | refine blk_drew ?_ | refine blk_alloc ?_ _)); exact BK316.out)) : gb316 ≠ gb317)); have n6_ := Aside0.mk ((by rw [hg]; exact Nat.ne_of_gt (blk_lt (g := gb316) (o := .cells #[.int .i64 a0_0, .int .i64 a0_1, .slice A0_2 l0_2.length c0_2, .slice A0_3 l0_3.length c0_3, .int .i64 a0_4, .int .i64 a0_5] 75 (0, 0)) (by (with_reducible repeat (first | refine blk_drewN ?_ _ | refine blk_drew ?_ | refine blk_alloc ?_ _)); exact BK316.out)) : gb317 ≠ gb316)); clear BK316; clear HB; have BK316 := n0_; have HB := n1_; have BK317 := n2_; have GW317 := n3_; have GE317 := n4_; have NB316_317 := n5_; have NB317_316 := n6_; clear n0_ n1_ n2_ n3_ n4_ n5_ n6_; clear hb hbox hg) | ((with_reducible refine gate_callee (f := 42) rfl ?_); refine goesL_ (some 13) rfl rfl Try.func42 (by kernel_rfl) rfl #[] rfl (by (try simp only [List.map_toArray, List.map_cons, List.map_nil]); first | done | rfl | (simp only [List.length_drop, List.length_take]; rfl)) ?_; (with_reducible refine (selvedgelaw08_shown.calls  t318 _ A4.out).mono ?_); rintro e w43 ⟨rfl, hb⟩; refine ⟨_, rfl, ?_⟩; have n0_ := Aside0.mk (blk_below (g := gb316) (o := .cells #[.int .i64 a0_0, .int .i64 a0_1, .slice A0_2 l0_2.length c0_2, .slice A0_3 l0_3.length c0_3, .int .i64 a0_4, .int .i64 a0_5] 75 (0, 0)) (by (with_reducible repeat (first | refine blk_drewN ?_ _ | refine blk_drew ?_ | refine blk_alloc ?_ _)); exact BK316.out) hb); have n1_ := Aside0.mk (blk_below (g := gb317) (o := .cells #[.int .i64 a1_0, .int .i64 a1_1, .slice A1_2 l1_2.length c1_2, .slice A1_3 l1_3.length c1_3, .int .i64 a1_4, .int .i64 a1_5] 75 (0, 0)) (by (with_reducible repeat (first | refine blk_drewN ?_ _ | refine blk_drew ?_ | refine blk_alloc ?_ _)); exact BK317.out) hb); have n2_ := Aside0.mk (below_step (by repeat (first | (with_reducible first | exact HB.out | apply below_alloc | apply pw_below_drewN | apply below_drew1 | refine below_set ?_ GE316.out | refine below_set ?_ GE317.out) | exact HB.out)) hb); clear BK316; clear BK317; clear HB; have BK316 := n0_; have BK317 := n1_; have HB := n2_; clear n0_ n1_ n2_; (try clear hb); (try clear hb2); (try clear hk); (try clear hi); have hnb44 := NB316_317.out; have hnc44 := NB317_316.out; have hcz45_0 : w43.cell? ⟨gb316, 0, none⟩ = some (.int .i64 a0_0) := (blk_cell BK316.out 0).trans rfl; have hcz45_1 : w43.cell? ⟨gb316, 1, none⟩ = some (.int .i64 a0_1) := (blk_cell BK316.out 1).trans rfl; have hcz45_2 : w43.cell? ⟨gb316, 2, none⟩ = some (.slice A0_2 l0_2.length c0_2) := (blk_cell BK316.out 2).trans rfl; have hcz45_3 : w43.cell? ⟨gb316, 3, none⟩ = some (.slice A0_3 l0_3.length c0_3) := (blk_cell BK316.out 3).trans rfl; have hcz45_4 : w43.cell? ⟨gb316, 4, none⟩ = some (.int .i64 a0_4) := (blk_cell BK316.out 4).trans rfl; have hcz45_5 : w43.cell? ⟨gb316, 5, none⟩ = some (.int .i64 a0_5) := (blk_cell BK316.out 5).trans rfl; have hfz45_0 := blk_frozen BK316.out 0; have hfz45_1 := blk_frozen BK316.out 1; have hfz45_2 := blk_frozen BK316.out 2; have hfz45_3 := blk_frozen BK316.out 3; have hfz45_4 := blk_frozen BK316.out 4; have hfz45_5 := blk_frozen BK316.out 5) | ((with_reducible refine gate_callee (f := 43) rfl ?_); refine goesL_ (some 17) rfl rfl Try.func43 (by kernel_rfl) rfl #[.agg #[.int .i64 a0_0, .int .i64 a0_1, .slice A0_2 l0_2.length c0_2, .slice A0_3 l0_3.length c0_3, .int .i64 a0_4, .int .i64 a0_5], .int .i64 a2] rfl (by (try simp only [List.map_toArray, List.map_cons, List.map_nil]); first | done | rfl | (simp only [List.length_drop, List.length_take]; rfl)) ?_; (with_reducible refine (vertex_Bytes.calls a0_0 a0_1 _ _ l0_2 _ _ l0_3 a0_4 a0_5 a2 t319 t320 _ ?side1 ?side2 ?side3 ?side4 A5.out).mono ?_); (case side1 => repeat (first | exact (Kd.C_below HR0_2.out HB.out) | (with_reducible refine Kd.C_alloc ?_ _) | (with_reducible refine Kd.C_drewN ?_ _) | (with_reducible refine Kd.C_drew ?_))); (case side2 => exact HC0_2.out); (case side3 => repeat (first | exact (Kd.C_below HR0_3.out HB.out) | (with_reducible refine Kd.C_alloc ?_ _) | (with_reducible refine Kd.C_drewN ?_ _) | (with_reducible refine Kd.C_drew ?_))); (case side4 => exact HC0_3.out); rintro e w46 ⟨rfl, hb⟩; refine ⟨_, rfl, ?_⟩; have n0_ := Aside0.mk (blk_below (g := gb316) (o := .cells #[.int .i64 a0_0, .int .i64 a0_1, .slice A0_2 l0_2.length c0_2, .slice A0_3 l0_3.length c0_3, .int .i64 a0_4, .int .i64 a0_5] 75 (0, 0)) (by (with_reducible repeat (first | refine blk_drewN ?_ _ | refine blk_drew ?_ | refine blk_alloc ?_ _)); exact BK316.out) hb); have n1_ := Aside0.mk (blk_below (g := gb317) (o := .cells #[.int .i64 a1_0, .int .i64 a1_1, .slice A1_2 l1_2.length c1_2, .slice A1_3 l1_3.length c1_3, .int .i64 a1_4, .int .i64 a1_5] 75 (0, 0)) (by (with_reducible repeat (first | refine blk_drewN ?_ _ | refine blk_drew ?_ | refine blk_alloc ?_ _)); exact BK317.out) hb); have n2_ := Aside0.mk (below_step (by repeat (first | (with_reducible first | exact HB.out | apply below_alloc | apply pw_below_drewN | apply below_drew1 | refine below_set ?_ GE316.out | refine below_set ?_ GE317.out) | exact HB.out)) hb); clear BK316; clear BK317; clear HB; have BK316 := n0_; have BK317 := n1_; have HB := n2_; clear n0_ n1_ n2_; (try clear hb); (try clear hb2); (try clear hk); (try clear hi); have hcz47_0 : w46.cell? ⟨gb317, 0, none⟩ = some (.int .i64 a1_0) := (blk_cell BK317.out 0).trans rfl; have hcz47_1 : w46.cell? ⟨gb317, 1, none⟩ = some (.int .i64 a1_1) := (blk_cell BK317.out 1).trans rfl; have hcz47_2 : w46.cell? ⟨gb317, 2, none⟩ = some (.slice A1_2 l1_2.length c1_2) := (blk_cell BK317.out 2).trans rfl; have hcz47_3 : w46.cell? ⟨gb317, 3, none⟩ = some (.slice A1_3 l1_3.length c1_3) := (blk_cell BK317.out 3).trans rfl; have hcz47_4 : w46.cell? ⟨gb317, 4, none⟩ = some (.int .i64 a1_4) := (blk_cell BK317.out 4).trans rfl; have hcz47_5 : w46.cell? ⟨gb317, 5, none⟩ = some (.int .i64 a1_5) := (blk_cell BK317.out 5).trans rfl; have hfz47_0 := blk_frozen BK317.out 0; have hfz47_1 := blk_frozen BK317.out 1; have hfz47_2 := blk_frozen BK317.out 2; have hfz47_3 := blk_frozen BK317.out 3; have hfz47_4 := blk_frozen BK317.out 4; have hfz47_5 := blk_frozen BK317.out 5) | ((with_reducible refine gate_callee (f := 43) rfl ?_); refine goesL_ (some 23) rfl rfl Try.func43 (by kernel_rfl) rfl #[.agg #[.int .i64 a1_0, .int .i64 a1_1, .slice A1_2 l1_2.length c1_2, .slice A1_3 l1_3.length c1_3, .int .i64 a1_4, .int .i64 a1_5], .int .i64 a2] rfl (by (try simp only [List.map_toArray, List.map_cons, List.map_nil]); first | done | rfl | (simp only [List.length_drop, List.length_take]; rfl)) ?_; (with_reducible refine (vertex_Bytes.calls a1_0 a1_1 _ _ l1_2 _ _ l1_3 a1_4 a1_5 a2 t321 t322 _ ?side1 ?side2 ?side3 ?side4 A6.out).mono ?_); (case side1 => repeat (first | exact (Kd.C_below HR1_2.out HB.out) | (with_reducible refine Kd.C_alloc ?_ _) | (with_reducible refine Kd.C_drewN ?_ _) | (with_reducible refine Kd.C_drew ?_))); (case side2 => exact HC1_2.out); (case side3 => repeat (first | exact (Kd.C_below HR1_3.out HB.out) | (with_reducible refine Kd.C_alloc ?_ _) | (with_reducible refine Kd.C_drewN ?_ _) | (with_reducible refine Kd.C_drew ?_))); (case side4 => exact HC1_3.out); rintro e w48 ⟨rfl, hb⟩; refine ⟨_, rfl, ?_⟩; have n0_ := Aside0.mk (blk_below (g := gb316) (o := .cells #[.int .i64 a0_0, .int .i64 a0_1, .slice A0_2 l0_2.length c0_2, .slice A0_3 l0_3.length c0_3, .int .i64 a0_4, .int .i64 a0_5] 75 (0, 0)) (by (with_reducible repeat (first | refine blk_drewN ?_ _ | refine blk_drew ?_ | refine blk_alloc ?_ _)); exact BK316.out) hb); have n1_ := Aside0.mk (blk_below (g := gb317) (o := .cells #[.int .i64 a1_0, .int .i64 a1_1, .slice A1_2 l1_2.length c1_2, .slice A1_3 l1_3.length c1_3, .int .i64 a1_4, .int .i64 a1_5] 75 (0, 0)) (by (with_reducible repeat (first | refine blk_drewN ?_ _ | refine blk_drew ?_ | refine blk_alloc ?_ _)); exact BK317.out) hb); have n2_ := Aside0.mk (below_step (by repeat (first | (with_reducible first | exact HB.out | apply below_alloc | apply pw_below_drewN | apply below_drew1 | refine below_set ?_ GE316.out | refine below_set ?_ GE317.out) | exact HB.out)) hb); clear BK316; clear BK317; clear HB; have BK316 := n0_; have BK317 := n1_; have HB := n2_; clear n0_ n1_ n2_; (try clear hb); (try clear hb2); (try clear hk); (try clear hi)))
    go_ret
    exact ⟨by first | rfl | (simp [errW_none, errW_some] <;> rfl) | (simp [*, errW_none, errW_some] <;> rfl), by repeat (first | (with_reducible first | exact HB.out | apply below_alloc | apply pw_below_drewN | apply below_drew1 | refine below_set ?_ GE316.out | refine below_set ?_ GE317.out) | exact HB.out)⟩

end Go.Proofs.Ytijnodcbgadooaa.Px

-- printed by this session's pprint.py (the kit's print, with this session's plugs) out of the translation; Lean checks it
namespace Go.Proofs.Ytijnodcbgadooaa.Px
open Go.RowKit Go.Proofs.YtijnodcbgadooaaW.PrintWords Go.Proofs.YtijnodcbgadooaaW.PrintLast Go.Proofs.YtijnodcbgadooaaW.PrintMore
attribute [local go_sem] max2_int min2_int max_two min_two max_three min_three max_four min_four   -- for this text's walks alone
set_option linter.unusedVariables false
set_option linter.unusedSimpArgs false

/-! ### words: w10_fit.tpl -/

/-! WHAT AN ARGUMENT READS AS, kind by kind: from the row's reading to the print's kinds. -/
/-- a reader: the type, the kind, what its numbers keep, what its sizes keep, how much it holds -/
structure Rd (α : Type) where
  t : TypeId
  d : Kd α
  ok : α → Prop
  wt : α → Prop
  bk : α → Nat
/-- Every reading of the type is one of the kind. -/
structure Fits {α : Type} (P : Program) (r : Rd α) : Prop where
  out : ∀ {H : Type} {enc : TypeId × Value → H} {w : World} {fuel : Nat} {cs : List Value} {x : DataW H × List MemPlace}, DataW.trod enc P w 0 (fun _ => true) true fuel r.t cs = some x →
    ∃ a, r.d.K w a cs ∧ r.ok a ∧ ((∀ n ∈ x.1.weights P r.t, n ≤ reachBytes) → r.wt a) ∧ r.bk a ≤ Rows.uptoBulk x.1
def rdInt (t : TypeId) (k : IntKind) : Rd Int := ⟨t, Kd.int k, fun a => (Lit.int k a).wf = true, fun _ => True, fun _ => 1⟩
def rdBool (t : TypeId) : Rd Bool := ⟨t, Kd.bool, fun _ => True, fun _ => True, fun _ => 1⟩
def rdString (t : TypeId) : Rd ByteArray := ⟨t, Kd.string, fun a => a.size ≤ maxLen, fun a => a.size ≤ reachBytes, fun a => a.size + 1⟩
def rdSlice {α : Type} (t : TypeId) (B : Nat) (r : Rd α) : Rd (List α) :=
  ⟨t, Kd.slice r.t r.d, fun l => l.length ≤ maxLen ∧ ∀ a ∈ l, r.ok a, fun l => l.length * B ≤ reachBytes ∧ ∀ a ∈ l, r.wt a, fun l => (l.map r.bk).sum + 1⟩
section
variable {P : Program}
theorem fit_int {t : TypeId} {k : IntKind} (h : P.underlying t = some (.int k)) : Fits P (rdInt t k) := by
  constructor
  intro H enc w fuel cs x hx
  obtain ⟨n, rfl, rfl, hw⟩ := DataW.trod_int h hx
  exact ⟨n, rfl, hw, fun _ => trivial, by simp [rdInt, Rows.uptoBulk]⟩
theorem fit_bool {t : TypeId} (h : P.underlying t = some .bool) : Fits P (rdBool t) := by
  constructor
  intro H enc w fuel cs x hx
  obtain ⟨n, rfl, rfl⟩ := DataW.trod_bool h hx
  exact ⟨n, rfl, trivial, fun _ => trivial, by simp [rdBool, Rows.uptoBulk]⟩
theorem fit_string {t : TypeId} (h : P.underlying t = some .string) : Fits P (rdString t) := by
  constructor
  intro H enc w fuel cs x hx
  obtain ⟨s, rfl, rfl, hs⟩ := DataW.trod_string h hx
  have e : s.data.toList.length = s.size := by rw [Array.length_toList]; rfl
  refine ⟨s, rfl, hs, fun hn => ?_, by simp only [rdString, Rows.uptoBulk, e]; exact Nat.le_refl _⟩
  have := hn s.data.toList.length (by simp [DataW.weights])
  rwa [e] at this
theorem bulkAll_map {H α : Type} (f : Nat → DataW H) (g : Nat → α) (bk : α → Nat) (n : Nat) (h : ∀ i, i < n → bk (g i) ≤ Rows.uptoBulk (f i)) : (((List.range n).map g).map bk).sum ≤ Rows.uptoBulkAll ((List.range n).map f) := by
  suffices k : ∀ l : List Nat, (∀ i ∈ l, i < n) → ((l.map g).map bk).sum ≤ Rows.uptoBulkAll (l.map f) from k _ (fun i hi => List.mem_range.1 hi)
  intro l
  induction l with
  | nil => intro _; simp
  | cons i l ih =>
    intro hl
    have h1 := h i (hl i List.mem_cons_self)
    have h2 := ih (fun j hj => hl j (List.mem_cons_of_mem _ hj))
    simp only [List.map_cons, List.sum_cons, Rows.uptoBulkAll]
    omega
theorem weightsAll_mem {H : Type} {e : TypeId} : ∀ {l : List (DataW H)} {d : DataW H} {n : Nat}, d ∈ l → n ∈ d.weights P e → n ∈ DataW.weightsAll P e l
  | x :: l, d, n, hd, hn => by
    simp only [DataW.weightsAll, List.mem_append]
    rcases List.mem_cons.1 hd with rfl | hd
    · exact .inl hn
    · exact .inr (weightsAll_mem hd hn)
theorem fit_slice {α : Type} [Inhabited α] {r : Rd α} (hr : Fits P r) {t : TypeId} {B : Nat} (h : P.underlying t = some (.slice r.t)) (hc : P.cellsOf r.t = r.d.sz) (hB : P.bytesOf r.t = B) : Fits P (rdSlice t B r) := by
  constructor
  intro H enc w fuel cs x hx
  rcases Deep.open_slice h hx with ⟨rfl, rfl⟩ | ⟨a, len, cap, m, n, D, Pl, rfl, _, hl, hm, hmm, rfl, hel⟩
  · exact ⟨[], ⟨none, 0, rfl, Nat.le_refl _, Kd.C_nil _ _⟩, ⟨Nat.zero_le _, by simp⟩, fun _ => ⟨by simp, by simp⟩, by simp [rdSlice, Rows.uptoBulk]⟩
  · simp only [if_true] at hmm
    subst hmm
    obtain ⟨f, hf⟩ := Deep.choose_lt (α := α) (n := len) (p := fun i v => ∃ c, w.cells? 0 (a.add (i * P.cellsOf r.t)) (P.cellsOf r.t) = some c ∧ r.d.K w v c ∧ r.ok v ∧ ((∀ q ∈ (D i).weights P r.t, q ≤ reachBytes) → r.wt v) ∧ r.bk v ≤ Rows.uptoBulk (D i)) (fun i hi => by
      obtain ⟨cs', h1, h2⟩ := hel i (by omega)
      obtain ⟨v, k1, k2, k3, k4⟩ := hr.out h2
      exact ⟨v, cs', h1, k1, k2, k3, k4⟩)
    have hlen : ((List.range len).map f).length = len := by simp
    refine ⟨(List.range len).map f, ⟨some a, m, by rw [hlen], by rw [hlen]; exact hl, ?_⟩, ⟨by rw [hlen]; omega, ?_⟩, fun hw => ⟨?_, ?_⟩, ?_⟩
    · rw [hlen]
      refine ⟨hlen, by unfold maxLen at hm; omega, fun _ => ⟨a, rfl, fun j p hj => ?_⟩⟩
      have hjl : j < len := by
        have := (List.getElem?_eq_some_iff.1 hj).1
        simpa using this
      obtain ⟨c, c1, c2, _⟩ := hf j hjl
      have hp : f j = p := by simpa [List.getElem?_map, List.getElem?_range hjl] using hj
      obtain ⟨_, l2, l3⟩ := World.cells?_some c1
      refine ⟨c, by rw [l2, hc], hp ▸ c2, fun i u hu => ?_⟩
      have hi : i < P.cellsOf r.t := by rw [← l2]; exact (List.getElem?_eq_some_iff.1 hu).1
      rw [← hc, ← Deep.add_add, l3 i hi]
      exact hu
    · intro v hv
      obtain ⟨i, hi, rfl⟩ := List.mem_map.1 hv
      obtain ⟨c, _, _, h3, _⟩ := hf i (List.mem_range.1 hi)
      exact h3
    · have := hw ((((List.range len).map D).length + ((List.range (m - len)).map fun j => D (len + j)).length) * P.bytesOf r.t) (by show _ ∈ DataW.weights P t _; simp only [DataW.weights, h]; exact List.mem_cons_self)
      rw [hlen]
      rw [hB] at this
      simp only [List.length_map, List.length_range] at this
      exact Nat.le_trans (Nat.mul_le_mul_right _ (by omega)) this
    · intro v hv
      obtain ⟨i, hi, rfl⟩ := List.mem_map.1 hv
      obtain ⟨c, _, _, _, h4, _⟩ := hf i (List.mem_range.1 hi)
      refine h4 (fun q hq => hw q ?_)
      show _ ∈ DataW.weights P t _
      simp only [DataW.weights, h]
      exact List.mem_cons_of_mem _ (List.mem_append_left _ (weightsAll_mem (List.mem_map.2 ⟨i, hi, rfl⟩) hq))
    · simp only [rdSlice, Rows.uptoBulk]
      have := bulkAll_map D f r.bk len (fun i hi => (hf i hi).choose_spec.2.2.2.2)
      omega

/-- some fields of a struct, in line, from the cell o on -/
structure FieldsFit {β : Type} (P : Program) (fs : List Field) (o : Nat) (d : Kd β) (ok wt : β → Prop) (bk : β → Nat) : Prop where
  out : ∀ {H : Type} {enc : TypeId × Value → H} {w : World} {n : Nat} {cs : List Value} {xs : List (DataW H × List MemPlace)}, xs.length = fs.length → cs.length = o + d.sz →
    (∀ (i : Nat) (f : Field), fs[i]? = some f → DataW.trod enc P w 0 (fun _ => true) true n f.type ((cs.drop f.offset).take (P.cellsOf f.type)) = xs[i]?) →
    ∃ b, d.K w b (cs.drop o) ∧ ok b ∧ ((∀ q ∈ DataW.weightsEach P (fs.map (·.type)) (xs.map (·.1)), q ≤ reachBytes) → wt b) ∧ bk b ≤ Rows.uptoBulkAll (xs.map (·.1))
theorem fields_one {α : Type} {r : Rd α} (hr : Fits P r) {f : Field} (ht : f.type = r.t) {o : Nat} (ho : f.offset = o) (hc : P.cellsOf r.t = r.d.sz) : FieldsFit P [f] o r.d r.ok r.wt r.bk := by
  constructor
  intro H enc w n cs xs hl hcs hx
  match xs, hl with
  | [x], _ =>
    have h := hx 0 f rfl
    rw [ho, ht, hc, List.take_of_length_le (by rw [List.length_drop]; omega)] at h
    obtain ⟨a, h1, h2, h3, h4⟩ := hr.out h
    refine ⟨a, h1, h2, fun hq => h3 (fun q hm => hq q ?_), by simp [Rows.uptoBulkAll]; omega⟩
    simp only [List.map_cons, List.map_nil, DataW.weightsEach, List.mem_append, ht]
    exact .inl hm
theorem fields_cons {α β : Type} {r : Rd α} (hr : Fits P r) {f : Field} (ht : f.type = r.t) {fs : List Field} {o o' : Nat} (ho : f.offset = o) (hc : P.cellsOf r.t = r.d.sz) (ho' : o' = o + r.d.sz) {d : Kd β} {ok wt : β → Prop} {bk : β → Nat} (hfs : FieldsFit P fs o' d ok wt bk) :
    FieldsFit P (f :: fs) o (Kd.pair r.d d) (fun x => r.ok x.1 ∧ ok x.2) (fun x => r.wt x.1 ∧ wt x.2) (fun x => r.bk x.1 + bk x.2) := by
  constructor
  intro H enc w n cs xs hl hcs hx
  match xs, hl with
  | x :: xs, hl =>
    have h := hx 0 f rfl
    have hcs' : cs.length = o + (r.d.sz + d.sz) := hcs
    rw [ho, ht, hc] at h
    obtain ⟨a, h1, h2, h3, h4⟩ := hr.out h
    obtain ⟨b, k1, k2, k3, k4⟩ := hfs.out (enc := enc) (w := w) (n := n) (cs := cs) (xs := xs) (by simpa using hl) (by omega) (fun i g hg => hx (i + 1) g hg)
    refine ⟨(a, b), ⟨(cs.drop o).take r.d.sz, cs.drop o', ?_, h1, k1⟩, ⟨h2, k2⟩, fun hq => ⟨h3 (fun q hm => hq q ?_), k3 (fun q hm => hq q ?_)⟩, ?_⟩
    · rw [ho', ← List.drop_drop, List.take_append_drop]
    · simp only [List.map_cons, DataW.weightsEach, List.mem_append, ht]
      exact .inl hm
    · simp only [List.map_cons, DataW.weightsEach, List.mem_append]
      exact .inr hm
    · simp only [List.map_cons, Rows.uptoBulkAll]; omega
def rdStruct {α β : Type} (t : TypeId) (d : Kd β) (f : α → β) (ok wt : β → Prop) (bk : β → Nat) : Rd α := ⟨t, Kd.iso d f, fun a => ok (f a), fun a => wt (f a), fun a => bk (f a) + 1⟩
theorem fit_struct {α β : Type} {t : TypeId} {fs : List Field} {d : Kd β} {ok wt : β → Prop} {bk : β → Nat} (hfs : FieldsFit P fs 0 d ok wt bk) (h : P.underlying t = some (.struct fs.toArray)) (hc : P.cellsOf t = d.sz) (f : α → β) (g : β → α) (hfg : ∀ b, f (g b) = b) : Fits P (rdStruct t d f ok wt bk) := by
  constructor
  intro H enc w fuel cs x hx
  obtain ⟨xs, n, rfl, rfl, hl, hn, hf⟩ := DataW.trod_struct h hx
  obtain ⟨b, k1, k2, k3, k4⟩ := hfs.out (enc := enc) (w := w) (n := n) (cs := cs) (xs := xs) (by simpa using hn) (by omega) (fun i g hg => hf i g (by simpa using hg))
  refine ⟨g b, ?_, ?_, fun hq => ?_, ?_⟩
  · show d.K w (f (g b)) cs
    rw [hfg]
    exact k1
  · show ok (f (g b))
    rw [hfg]
    exact k2
  · show wt (f (g b))
    rw [hfg]
    refine k3 (fun q hm => hq q ?_)
    show _ ∈ DataW.weights P t _
    simp only [DataW.weights, h]
    exact hm
  · show bk (f (g b)) + 1 ≤ _
    rw [hfg]
    simp only [Rows.uptoBulk]
    omega
end
/-- a value of a reader's type, as an argument: its cells and what they hold -/
theorem fit_arg {α H : Type} {P : Program} {r : Rd α} (hr : Fits P r) {enc : TypeId × Value → H} {w : World} {v : Value} {d : DataW H} {ps : List MemPlace} (h : DataW.Trod enc P w 0 (fun _ => true) true r.t v d ps) :
    ∃ a, r.d.K w a v.cells.toList ∧ r.ok a ∧ ((∀ n ∈ d.weights P r.t, n ≤ reachBytes) → r.wt a) ∧ r.bk a ≤ Rows.uptoBulk d := by
  obtain ⟨fuel, hf⟩ := h
  exact hr.out hf


end Go.Proofs.Ytijnodcbgadooaa.Px

-- written by this session's rows.py: the readers of the parameters, and the pure statement, of the law VertexApart
namespace Go.Proofs.Ytijnodcbgadooaa.Px
open Go.RowKit Go.Proofs.Ytijnodcbgadooaa.Px Go.Proofs.YtijnodcbgadooaaW.PrintWords Go.Proofs.YtijnodcbgadooaaW.PrintLast Go.Proofs.YtijnodcbgadooaaW.PrintMore
set_option linter.unusedVariables false
instance : Inhabited S43 := ⟨z43⟩
def rd43 : Rd S43 := rdStruct 43 (Kd.pair (rdInt 3 .i64).d (Kd.pair (rdInt 3 .i64).d (rdSlice 41 16 (rdString 9)).d)) (fun x : S43 => (x.f0, x.f1, x.f2)) (fun y => (rdInt 3 .i64).ok y.1 ∧ ((rdInt 3 .i64).ok y.2.1 ∧ ((rdSlice 41 16 (rdString 9)).ok y.2.2))) (fun y => (rdInt 3 .i64).wt y.1 ∧ ((rdInt 3 .i64).wt y.2.1 ∧ ((rdSlice 41 16 (rdString 9)).wt y.2.2))) (fun y => (rdInt 3 .i64).bk y.1 + ((rdInt 3 .i64).bk y.2.1 + ((rdSlice 41 16 (rdString 9)).bk y.2.2)))
theorem fit43 : Fits Try.prog rd43 :=
  fit_struct (fields_cons (o := 0) (o' := 1) (ok := fun (y : Int × (List ByteArray)) => (rdInt 3 .i64).ok y.1 ∧ ((rdSlice 41 16 (rdString 9)).ok y.2)) (wt := fun (y : Int × (List ByteArray)) => (rdInt 3 .i64).wt y.1 ∧ ((rdSlice 41 16 (rdString 9)).wt y.2)) (bk := fun (y : Int × (List ByteArray)) => (rdInt 3 .i64).bk y.1 + ((rdSlice 41 16 (rdString 9)).bk y.2)) (fit_int Try.underlying3) rfl rfl (by kernel_rfl) rfl (fields_cons (o := 1) (o' := 2) (ok := fun (y : (List ByteArray)) => (rdSlice 41 16 (rdString 9)).ok y) (wt := fun (y : (List ByteArray)) => (rdSlice 41 16 (rdString 9)).wt y) (bk := fun (y : (List ByteArray)) => (rdSlice 41 16 (rdString 9)).bk y) (fit_int Try.underlying3) rfl rfl (by kernel_rfl) rfl (fields_one (fit_slice (fit_string Try.underlying9) Try.underlying41 (by kernel_rfl) (by kernel_rfl)) rfl rfl (by kernel_rfl)))) Try.underlying43 (by kernel_rfl) (fun x : S43 => (x.f0, x.f1, x.f2)) (fun y => ⟨y.1, y.2.1, y.2.2⟩) (fun _ => rfl)
instance : Inhabited S73 := ⟨z73⟩
def rd73 : Rd S73 := rdStruct 73 (Kd.pair (rdInt 3 .i64).d (rdInt 3 .i64).d) (fun x : S73 => (x.f0, x.f1)) (fun y => (rdInt 3 .i64).ok y.1 ∧ ((rdInt 3 .i64).ok y.2)) (fun y => (rdInt 3 .i64).wt y.1 ∧ ((rdInt 3 .i64).wt y.2)) (fun y => (rdInt 3 .i64).bk y.1 + ((rdInt 3 .i64).bk y.2))
theorem fit73 : Fits Try.prog rd73 :=
  fit_struct (fields_cons (o := 0) (o' := 1) (ok := fun (y : Int) => (rdInt 3 .i64).ok y) (wt := fun (y : Int) => (rdInt 3 .i64).wt y) (bk := fun (y : Int) => (rdInt 3 .i64).bk y) (fit_int Try.underlying3) rfl rfl (by kernel_rfl) rfl (fields_one (fit_int Try.underlying3) rfl rfl (by kernel_rfl))) Try.underlying73 (by kernel_rfl) (fun x : S73 => (x.f0, x.f1)) (fun y => ⟨y.1, y.2⟩) (fun _ => rfl)
instance : Inhabited S75 := ⟨z75⟩
def rd75 : Rd S75 := rdStruct 75 (Kd.pair (rdInt 3 .i64).d (Kd.pair (rdInt 3 .i64).d (Kd.pair (rdSlice 71 40 rd43).d (Kd.pair (rdSlice 41 16 (rdString 9)).d rd73.d)))) (fun x : S75 => (x.f0, x.f1, x.f2, x.f3, x.f4)) (fun y => (rdInt 3 .i64).ok y.1 ∧ ((rdInt 3 .i64).ok y.2.1 ∧ ((rdSlice 71 40 rd43).ok y.2.2.1 ∧ ((rdSlice 41 16 (rdString 9)).ok y.2.2.2.1 ∧ (rd73.ok y.2.2.2.2))))) (fun y => (rdInt 3 .i64).wt y.1 ∧ ((rdInt 3 .i64).wt y.2.1 ∧ ((rdSlice 71 40 rd43).wt y.2.2.1 ∧ ((rdSlice 41 16 (rdString 9)).wt y.2.2.2.1 ∧ (rd73.wt y.2.2.2.2))))) (fun y => (rdInt 3 .i64).bk y.1 + ((rdInt 3 .i64).bk y.2.1 + ((rdSlice 71 40 rd43).bk y.2.2.1 + ((rdSlice 41 16 (rdString 9)).bk y.2.2.2.1 + (rd73.bk y.2.2.2.2)))))
theorem fit75 : Fits Try.prog rd75 :=
  fit_struct (fields_cons (o := 0) (o' := 1) (ok := fun (y : Int × (List S43) × (List ByteArray) × S73) => (rdInt 3 .i64).ok y.1 ∧ ((rdSlice 71 40 rd43).ok y.2.1 ∧ ((rdSlice 41 16 (rdString 9)).ok y.2.2.1 ∧ (rd73.ok y.2.2.2)))) (wt := fun (y : Int × (List S43) × (List ByteArray) × S73) => (rdInt 3 .i64).wt y.1 ∧ ((rdSlice 71 40 rd43).wt y.2.1 ∧ ((rdSlice 41 16 (rdString 9)).wt y.2.2.1 ∧ (rd73.wt y.2.2.2)))) (bk := fun (y : Int × (List S43) × (List ByteArray) × S73) => (rdInt 3 .i64).bk y.1 + ((rdSlice 71 40 rd43).bk y.2.1 + ((rdSlice 41 16 (rdString 9)).bk y.2.2.1 + (rd73.bk y.2.2.2)))) (fit_int Try.underlying3) rfl rfl (by kernel_rfl) rfl (fields_cons (o := 1) (o' := 2) (ok := fun (y : (List S43) × (List ByteArray) × S73) => (rdSlice 71 40 rd43).ok y.1 ∧ ((rdSlice 41 16 (rdString 9)).ok y.2.1 ∧ (rd73.ok y.2.2))) (wt := fun (y : (List S43) × (List ByteArray) × S73) => (rdSlice 71 40 rd43).wt y.1 ∧ ((rdSlice 41 16 (rdString 9)).wt y.2.1 ∧ (rd73.wt y.2.2))) (bk := fun (y : (List S43) × (List ByteArray) × S73) => (rdSlice 71 40 rd43).bk y.1 + ((rdSlice 41 16 (rdString 9)).bk y.2.1 + (rd73.bk y.2.2))) (fit_int Try.underlying3) rfl rfl (by kernel_rfl) rfl (fields_cons (o := 2) (o' := 3) (ok := fun (y : (List ByteArray) × S73) => (rdSlice 41 16 (rdString 9)).ok y.1 ∧ (rd73.ok y.2)) (wt := fun (y : (List ByteArray) × S73) => (rdSlice 41 16 (rdString 9)).wt y.1 ∧ (rd73.wt y.2)) (bk := fun (y : (List ByteArray) × S73) => (rdSlice 41 16 (rdString 9)).bk y.1 + (rd73.bk y.2)) (fit_slice fit43 Try.underlying71 (by kernel_rfl) (by kernel_rfl)) rfl rfl (by kernel_rfl) rfl (fields_cons (o := 3) (o' := 4) (ok := fun (y : S73) => rd73.ok y) (wt := fun (y : S73) => rd73.wt y) (bk := fun (y : S73) => rd73.bk y) (fit_slice (fit_string Try.underlying9) Try.underlying41 (by kernel_rfl) (by kernel_rfl)) rfl rfl (by kernel_rfl) rfl (fields_one fit73 rfl rfl (by kernel_rfl)))))) Try.underlying75 (by kernel_rfl) (fun x : S75 => (x.f0, x.f1, x.f2, x.f3, x.f4)) (fun y => ⟨y.1, y.2.1, y.2.2.1, y.2.2.2.1, y.2.2.2.2⟩) (fun _ => rfl)
/-- the statement of VertexApart without Go: proved in YtijnodcbgadooaaPureVertexApart -/
def selvedgelaw08_VertexApart_PureS : Prop := ∀ (a0 : S75) (a1 : S75) (a2 : Int), rd75.ok a0 → rd75.ok a1 → (rdInt 3 .i64).ok a2 → rd75.wt a0 → rd75.wt a1 → (rdInt 3 .i64).wt a2 → ∃ k, selvedgelaw08_VertexApart.f k (a0.f0) (a0.f1) (a0.f2) (a0.f3) (a0.f4.f0) (a0.f4.f1) (a1.f0) (a1.f1) (a1.f2) (a1.f3) (a1.f4.f0) (a1.f4.f1) a2 = some true
end Go.Proofs.Ytijnodcbgadooaa.Px

-- printed by this session's pprint.py (the kit's print, with this session's plugs) out of the translation; Lean checks it
namespace Go.Proofs.Ytijnodcbgadooaa.Px
open Go.RowKit Go.Proofs.YtijnodcbgadooaaW.PrintWords Go.Proofs.YtijnodcbgadooaaW.PrintLast Go.Proofs.YtijnodcbgadooaaW.PrintMore
attribute [local go_sem] max2_int min2_int max_two min_two max_three min_three max_four min_four   -- for this text's walks alone
set_option linter.unusedVariables false
set_option linter.unusedSimpArgs false

/-! ### words: w17_vertex2.tpl -/

def vertexL (a r : Int) (bs : List S43) (ps : List ByteArray) (x y : Int) : Bs :=
  numL a.toNat ++ numL r.toNat ++ rowL (bs.map bB) ++ rowL ps ++ numL x.toNat ++ numL y.toNat
theorem mayV_iff (a r : Int) (bs : List S43) (ps : List ByteArray) (x y n : Int) : mayV a r bs ps x y n = true ↔ mayN n = true ∧ 1 ≤ a ∧ a ≤ n ∧ 1 ≤ r ∧ r ≤ 1048576 ∧ bs.length ≤ 4 ∧ bs.any (oddB n) = false ∧ mayE x y = true ∧ (thirdR r = true ∨ x = 0 ∧ y = 0) ∧ parentsB ps r n = true := by
  unfold mayV
  simp [and_assoc]
theorem upFrom_size (l : List ByteArray) (d : Nat) : ∀ j, upFrom l d j = true → ∀ i, j ≤ i → i < j + d → (l.getD i ByteArray.empty).size = 32 := by
  induction d with
  | zero => intro j _ i h1 h2; omega
  | succ d ih =>
    intro j h i h1 h2
    rw [upFrom, Bool.and_eq_true] at h
    rcases Nat.lt_or_ge j i with h3 | h3
    · exact ih (j + 1) h.2 i (by omega) (by omega)
    · obtain rfl : i = j := by omega
      have := h.1
      rw [upAt, Bool.and_eq_true] at this
      exact of_decide_eq_true this.1
/-- parents that may be are few, and have 32 bytes each -/
theorem parentsB_small {l : List ByteArray} {r n : Int} (hn : mayN n = true) (h : parentsB l r n = true) : l.length ≤ 64 ∧ ∀ t ∈ l, t.size = 32 := by
  unfold parentsB at h
  split at h
  · have h0 := of_decide_eq_true h
    obtain rfl := List.eq_nil_of_length_eq_zero h0
    simp
  · obtain ⟨_, h2, _⟩ := (mayN_iff n).1 hn
    rw [Bool.and_eq_true, Bool.and_eq_true] at h
    have h3 := of_decide_eq_true h.2
    refine ⟨by omega, fun t ht => ?_⟩
    obtain ⟨i, hi, rfl⟩ := List.mem_iff_getElem.1 ht
    have := upFrom_size l l.length 0 h.1.1 i (by omega) (by omega)
    rwa [List.getD_eq_getElem?_getD, List.getElem?_eq_getElem hi] at this
theorem bB_size (b : S43) : (bB b).size ≤ 400 := by
  unfold bB
  split
  · rename_i h
    obtain ⟨h1, h2, h3, h4, h5, h6, h7⟩ := (mayB_iff _ _ _).1 h
    have r1 := rowOf_le b.f2 48 (by omega) (fun t ht => (h7 t ht).2)
    have r2 := numL_length (v := b.f2.length) (by omega)
    have r4 := numL_length (v := b.f0.toNat) (by omega)
    have r5 := numL_length (v := b.f1.toNat) (by omega)
    rw [toB_size, batchL, List.length_append, List.length_append, rowL, List.length_append]; omega
  · show 0 ≤ 400; omega
theorem rowL_bs {bs : List S43} (h : bs.length ≤ 4) : (rowL (bs.map bB)).length ≤ 1700 := by
  have r1 := rowOf_le (bs.map bB) 400 (by omega) (fun t ht => by obtain ⟨b, _, rfl⟩ := List.mem_map.1 ht; exact bB_size b)
  rw [List.length_map] at r1
  have r2 := numL_length (v := (bs.map bB).length) (by rw [List.length_map]; omega)
  rw [rowL, List.length_append]; omega
theorem rowL_ps {ps : List ByteArray} (h : ps.length ≤ 64 ∧ ∀ t ∈ ps, t.size = 32) : (rowL ps).length ≤ 2700 := by
  have r1 := rowOf_le ps 32 (by omega) (fun t ht => by have := h.2 t ht; omega)
  have r2 := numL_length (v := ps.length) (by have := h.1; omega)
  rw [rowL, List.length_append]; have := h.1; omega
theorem any_odd {n : Int} {bs : List S43} (h : bs.any (oddB n) = false) : ∀ b ∈ bs, mayB b.f0 b.f1 b.f2 = true ∧ b.f0 ≤ n := by
  intro b hb
  rw [List.any_eq_false] at h
  have := h b hb
  rw [oddB] at this
  simp at this
  exact ⟨this.1, by omega⟩
theorem rd_four (a b c d : ByteArray) : rdOf ByteArray.empty [a, b, c, d] 0 = a ∧ rdOf ByteArray.empty [a, b, c, d] 1 = b ∧ rdOf ByteArray.empty [a, b, c, d] 2 = c ∧ rdOf ByteArray.empty [a, b, c, d] 3 = d := ⟨rfl, rfl, rfl, rfl⟩
theorem vertex_Bytes_of (a r : Int) (bs : List S43) (ps : List ByteArray) (x y n : Int) :
    vertex_Bytes.f a r bs ps x y n = some (if mayV a r bs ps x y n = true then (toB (vertexL a r bs ps x y), 0) else ((⟨#[]⟩ : ByteArray), 1)) := by
  unfold vertex_Bytes.f
  rw [show vertex_May.f a r bs ps x y n = some (mayV a r bs ps x y n) from rfl]
  simp only [Option.bind_some]
  by_cases h : mayV a r bs ps x y n = true
  · rw [if_pos h, if_pos h]
    obtain ⟨h0, h1, h2, h3, h4, h5, h6, h7, h8, h9⟩ := (mayV_iff ..).1 h
    obtain ⟨k1, k2, k3⟩ := (mayN_iff n).1 h0
    obtain ⟨x1, x2, y1, y2⟩ := (mayE_iff x y).1 h7
    have e1 : vertex_each1.f bs = some (bs.map bB) := if_pos h5
    have e2 : vertex_each2.f [a, r, x, y] = some [numB a.toNat, numB r.toNat, numB x.toNat, numB y.toNat] := by
      rw [vertex_each2.f, if_pos]
      · rfl
      · refine ⟨Nat.le_refl 4, fun k hk => ?_⟩
        simp only [List.mem_cons, List.not_mem_nil, or_false] at hk
        rcases hk with rfl | rfl | rfl | rfl <;> omega
    have s0 := numB_size (v := a.toNat) (by omega)
    have s1 := numB_size (v := r.toNat) (by omega)
    have s2 := numB_size (v := x.toNat) (by omega)
    have s3 := numB_size (v := y.toNat) (by omega)
    have r1 := rowL_bs h5
    have r2 := rowL_ps (parentsB_small h0 h9)
    have d1 : digits_Row.f (bs.map bB) = some (toB (rowL (bs.map bB))) := if_pos (by omega)
    have d2 : digits_Row.f ps = some (toB (rowL ps)) := if_pos (by omega)
    rw [e1, e2]
    simp only [Option.bind_some, d1, d2]
    obtain ⟨q0, q1, q2, q3⟩ := rd_four (numB a.toNat) (numB r.toNat) (numB x.toNat) (numB y.toNat)
    rw [q0, q1, q2, q3]
    simp only [ByteArray.size_append, toB_size]
    rw [if_pos (by simp), if_pos (by simp), if_pos (by omega), if_pos (by omega), if_pos (by omega), if_pos (by simp), if_pos (by omega), if_pos (by simp), if_pos (by omega)]
    simp only [vertexL, numB, toB_append]
  · rw [if_neg h, if_neg h]
theorem bB_inj : ∀ {n m : Int} {bs cs : List S43}, bs.any (oddB n) = false → cs.any (oddB m) = false → bs.map bB = cs.map bB → bs = cs := by
  intro n m bs
  induction bs with
  | nil => intro cs _ _ h; exact (List.map_eq_nil_iff.1 h.symm).symm
  | cons b bs ih =>
    intro cs hb hc h
    rcases cs with _ | ⟨c, cs⟩
    · simp at h
    · rw [List.map_cons, List.map_cons] at h
      injection h with h1 h2
      have hb1 := (any_odd hb b List.mem_cons_self).1
      have hc1 := (any_odd hc c List.mem_cons_self).1
      rw [bB, if_pos hb1, bB, if_pos hc1] at h1
      obtain ⟨e1, e2, e3, _⟩ := batchL_cancel hb1 hc1 (r := []) (t := []) (by rw [toB_inj h1])
      have e : b = c := by obtain ⟨b0, b1, b2⟩ := b; obtain ⟨c0, c1, c2⟩ := c; simp only at e1 e2 e3; rw [e1, e2, e3]
      rw [List.any_cons, Bool.or_eq_false_iff] at hb hc
      rw [e, ih hb.2 hc.2 h2]
theorem vertexL_cancel {a r : Int} {bs : List S43} {ps : List ByteArray} {x y n a' r' : Int} {bs' : List S43} {ps' : List ByteArray} {x' y' n' : Int} (h : mayV a r bs ps x y n = true) (h' : mayV a' r' bs' ps' x' y' n' = true) {s t : Bs} (e : vertexL a r bs ps x y ++ s = vertexL a' r' bs' ps' x' y' ++ t) :
    a = a' ∧ r = r' ∧ bs = bs' ∧ ps = ps' ∧ x = x' ∧ y = y' ∧ s = t := by
  obtain ⟨h0, h1, h2, h3, h4, h5, h6, h7, h8, h9⟩ := (mayV_iff ..).1 h
  obtain ⟨k1, k2, k3⟩ := (mayN_iff n).1 h0
  obtain ⟨x1, x2, y1, y2⟩ := (mayE_iff x y).1 h7
  have hp := parentsB_small h0 h9
  obtain ⟨h0', h1', h2', h3', h4', h5', h6', h7', h8', h9'⟩ := (mayV_iff ..).1 h'
  obtain ⟨k1', k2', k3'⟩ := (mayN_iff n').1 h0'
  obtain ⟨x1', x2', y1', y2'⟩ := (mayE_iff x' y').1 h7'
  have hp' := parentsB_small h0' h9'
  rw [vertexL, vertexL] at e
  simp only [List.append_assoc] at e
  obtain ⟨e1, e⟩ := numL_cancel (by omega) (by omega) e
  obtain ⟨e2, e⟩ := numL_cancel (by omega) (by omega) e
  have hs : ∀ {cs : List S43}, ∀ t ∈ cs.map bB, t.size < 18446744073709551616 := fun t ht => by
    obtain ⟨b, _, rfl⟩ := List.mem_map.1 ht
    have := bB_size b; omega
  obtain ⟨e3, e⟩ := rowL_cancel (by rw [List.length_map]; omega) (by rw [List.length_map]; omega) hs hs e
  obtain ⟨e4, e⟩ := rowL_cancel (by have := hp.1; omega) (by have := hp'.1; omega) (fun t ht => by have := hp.2 t ht; omega) (fun t ht => by have := hp'.2 t ht; omega) e
  obtain ⟨e5, e⟩ := numL_cancel (by omega) (by omega) e
  obtain ⟨e6, e⟩ := numL_cancel (by omega) (by omega) e
  exact ⟨by omega, by omega, bB_inj h6 h6' e3, e4, by omega, by omega, e⟩
theorem upFrom_nil : upFrom [] 0 0 = true := rfl
theorem shown08_of : selvedgelaw08_shown.f = some true := by
  unfold selvedgelaw08_shown.f
  rw [vertex_Bytes_of, if_pos (by decide)]
  simp only [Option.bind_some]
  have w3 : vertex_Wave.f 3 = some 1 := by unfold vertex_Wave.f wrap64; decide
  have w4 : vertex_Wave.f 4 = some 2 := by unfold vertex_Wave.f wrap64; decide
  rw [if_pos]
  · rw [if_pos trivial, w3, w4, vertex_Third_of]
    rfl
  · rw [toList_ofB, ofB_toB, vertexL]
    have e0 : rowL [] = [0] := by rw [rowL, rowOf, List.flatMap_nil, List.append_nil]; show numL 0 = _; rw [numL, be_zero]; rfl
    show numL 1 ++ numL 1 ++ rowL [] ++ rowL [] ++ numL 0 ++ numL 0 = _
    rw [e0, numL, numL, be_1, be_zero]
    rfl
/-! are two vertices the same? -/
instance decBatch : DecidableEq S43 := fun a b => decidable_of_iff (a.f0 = b.f0 ∧ a.f1 = b.f1 ∧ a.f2 = b.f2) ⟨fun ⟨h0, h1, h2⟩ => by obtain ⟨a0, a1, a2⟩ := a; obtain ⟨b0, b1, b2⟩ := b; simp only at h0 h1 h2; rw [h0, h1, h2], fun h => by rw [h]; exact ⟨rfl, rfl, rfl⟩⟩
theorem rd_Batch_at (l : List S43) (j : Nat) (h : j < l.length) : rd_T43 l (j : Int) = l[j] := by
  rw [rd_T43, Int.toNat_natCast, List.getD_eq_getElem?_getD, List.getElem?_eq_getElem h]; rfl
theorem refSameAll_loop (a b : List S43) (hl : a.length = b.length) (hb : a.length < 4611686018427387904) (hs : ∀ x ∈ a, x.f2.length < 4611686018427387904) (d : Nat) : ∀ j, j + d = a.length →
    Ev (fun k => selvedgeref07_SameAll.l0 k a b (j : Int)) (decide (a.drop j = b.drop j)) := by
  induction d with
  | zero =>
    intro j hj
    refine Ev.step (fun k => by rw [selvedgeref07_SameAll.l0]) ?_
    refine ev_neg (by omega) (ev_eq (Ev.now _) ?_)
    rw [List.drop_eq_nil_of_le (by omega), List.drop_eq_nil_of_le (by omega)]; rfl
  | succ d ih =>
    intro j hj
    have ha : j < a.length := by omega
    have hb' : j < b.length := by omega
    refine Ev.step (fun k => by rw [selvedgeref07_SameAll.l0]) ?_
    refine ev_pos (by omega) (ev_pos (by omega) (ev_pos (by omega) ?_))
    rw [rd_Batch_at a j ha, rd_Batch_at b j hb']
    refine Ev.bind (refBatchSame_ev _ _ _ _ _ _ (hs _ (List.getElem_mem ha))) ?_
    rw [wrap64_of (by omega) (by omega), List.drop_eq_getElem_cons ha, List.drop_eq_getElem_cons hb']
    by_cases e : a[j] = b[j]
    · refine ev_pos (by rw [e]; simp [batchEq]) (ev_eq (ih (j + 1) (by omega)) ?_)
      rw [e]; exact decide_eq_decide.2 ⟨fun h => by rw [h], fun h => (List.cons.inj h).2⟩
    · refine ev_neg ?_ (ev_eq (Ev.now _) ?_)
      · intro hh
        apply e
        obtain ⟨h0, h1, h2⟩ := of_decide_eq_true hh
        generalize a[j] = p at *
        generalize b[j] = q at *
        obtain ⟨p0, p1, p2⟩ := p; obtain ⟨q0, q1, q2⟩ := q
        simp only at h0 h1 h2; rw [h0, h1, h2]
      · exact (decide_eq_false (fun h => e (List.cons.inj h).1)).symm
theorem refSameAll_ev (a b : List S43) (hb : a.length < 4611686018427387904) (hs : ∀ x ∈ a, x.f2.length < 4611686018427387904) : Ev (fun k => selvedgeref07_SameAll.f k a b) (decide (a = b)) := by
  by_cases h : a.length = b.length
  · exact ev_pos (by omega) (refSameAll_loop a b h hb hs a.length 0 (by omega))
  · refine ev_neg (by omega) (ev_eq (Ev.now _) ?_)
    have : ¬ a = b := fun e => h (by rw [e])
    simp [this]
def vertexEq (a r : Int) (bs : List S43) (ps : List ByteArray) (x y a' r' : Int) (bs' : List S43) (ps' : List ByteArray) (x' y' : Int) : Bool := decide (a = a' ∧ r = r' ∧ bs = bs' ∧ ps = ps' ∧ x = x' ∧ y = y')
theorem refVertexSame_ev (a r : Int) (bs : List S43) (ps : List ByteArray) (x y a' r' : Int) (bs' : List S43) (ps' : List ByteArray) (x' y' : Int) (hb : bs.length < 4611686018427387904) (hs : ∀ b ∈ bs, b.f2.length < 4611686018427387904) (hp : ps.length < 4611686018427387904) :
    Ev (fun k => selvedgeref08_Same.f k a r bs ps x y a' r' bs' ps' x' y') (vertexEq a r bs ps x y a' r' bs' ps' x' y') := by
  refine Ev.bind (refSame_ev _ _ hp) (Ev.bind (refSameAll_ev _ _ hb hs) ?_)
  unfold vertexEq
  by_cases h1 : ps = ps'
  · refine ev_pos (by simp [h1]) ?_
    by_cases h2 : bs = bs'
    · refine ev_pos (by simp [h2]) ?_
      by_cases h3 : a = a'
      · refine ev_pos h3 ?_
        by_cases h4 : r = r'
        · refine ev_pos h4 (ev_eq (Ev.now _) ?_)
          by_cases h5 : x = x' <;> by_cases h6 : y = y' <;> simp [h1, h2, h3, h4, h5, h6]
        · exact ev_neg h4 (ev_eq (Ev.now _) (by simp [h4]))
      · exact ev_neg h3 (ev_eq (Ev.now _) (by simp [h3]))
    · exact ev_neg (by simp [h2]) (ev_eq (Ev.now _) (by simp [h2]))
  · exact ev_neg (by simp [h1]) (ev_eq (Ev.now _) (by simp [h1]))
theorem vertexEq_iff {a r : Int} {bs : List S43} {ps : List ByteArray} {x y a' r' : Int} {bs' : List S43} {ps' : List ByteArray} {x' y' : Int} : vertexEq a r bs ps x y a' r' bs' ps' x' y' = true ↔ a = a' ∧ r = r' ∧ bs = bs' ∧ ps = ps' ∧ x = x' ∧ y = y' := by
  rw [vertexEq, decide_eq_true_iff]
theorem mayV_small {a r : Int} {bs : List S43} {ps : List ByteArray} {x y n : Int} (h : mayV a r bs ps x y n = true) : bs.length < 4611686018427387904 ∧ (∀ b ∈ bs, b.f2.length < 4611686018427387904) ∧ ps.length < 4611686018427387904 := by
  obtain ⟨h0, _, _, _, _, h5, h6, _, _, h9⟩ := (mayV_iff ..).1 h
  refine ⟨by omega, fun b hb => ?_, by have := (parentsB_small h0 h9).1; omega⟩
  obtain ⟨_, _, _, _, _, k, _⟩ := (mayB_iff _ _ _).1 (any_odd h6 b hb).1
  omega


end Go.Proofs.Ytijnodcbgadooaa.Px

/- VertexApart as a statement without Go: two vertices that may be have the same bytes just if they are the same; for every two vertices and every committee. -/
namespace Go.Proofs.Ytijnodcbgadooaa.Pure
open Go.RowKit Go.Proofs.Ytijnodcbgadooaa.Px Go.Proofs.YtijnodcbgadooaaW.PrintWords Go.Proofs.YtijnodcbgadooaaW.PrintLast Go.Proofs.YtijnodcbgadooaaW.PrintMore

theorem VertexApart : selvedgelaw08_VertexApart_PureS := by
  intro a0 a1 n _ _ _ _ _ _
  refine Ev.rounds (ev_bind_const shown08_of (ev_bind_const (vertex_Bytes_of ..) (ev_bind_const (vertex_Bytes_of ..) ?_)))
  by_cases h : mayV a0.f0 a0.f1 a0.f2 a0.f3 a0.f4.f0 a0.f4.f1 n = true
  · rw [if_pos h]
    refine ev_pos rfl ?_
    by_cases h' : mayV a1.f0 a1.f1 a1.f2 a1.f3 a1.f4.f0 a1.f4.f1 n = true
    · rw [if_pos h']
      obtain ⟨k1, k2, k3⟩ := mayV_small h
      refine ev_pos rfl (Ev.bind (refVertexSame_ev _ _ _ _ _ _ _ _ _ _ _ _ k1 k2 k3) (ev_pos rfl (ev_eq (Ev.now _) ?_)))
      rw [beq_toList, vertexEq]
      by_cases e : toB (vertexL a0.f0 a0.f1 a0.f2 a0.f3 a0.f4.f0 a0.f4.f1) = toB (vertexL a1.f0 a1.f1 a1.f2 a1.f3 a1.f4.f0 a1.f4.f1)
      · have e' := toB_inj e
        obtain ⟨e1, e2, e3, e4, e5, e6, _⟩ := vertexL_cancel h h' (s := []) (t := []) (by rw [e'])
        simp [e1, e2, e3, e4, e5, e6]
      · have : ¬ (a0.f0 = a1.f0 ∧ a0.f1 = a1.f1 ∧ a0.f2 = a1.f2 ∧ a0.f3 = a1.f3 ∧ a0.f4.f0 = a1.f4.f0 ∧ a0.f4.f1 = a1.f4.f1) := fun ⟨e1, e2, e3, e4, e5, e6⟩ => e (by rw [e1, e2, e3, e4, e5, e6])
        rw [decide_eq_false e, decide_eq_false this]; rfl
    · rw [if_neg h']
      exact ev_neg (by simp) (Ev.now _)
  · rw [if_neg h]
    exact ev_neg (by simp) (Ev.now _)

end Go.Proofs.Ytijnodcbgadooaa.Pure

-- written by this session's rows.py: the row of the law VertexApart
namespace Go.Proofs.Ytijnodcbgadooaa.vertexApart
open Go.ChangeShapes Go.WideShapes Go.ChangeAt Go.RowKit
open Go.ChangeMaps (open_string shut_string)
open Go.RowKit Go.Proofs.Ytijnodcbgadooaa.Px Go.Proofs.YtijnodcbgadooaaW.PrintWords Go.Proofs.YtijnodcbgadooaaW.PrintLast Go.Proofs.YtijnodcbgadooaaW.PrintMore
set_option linter.unusedVariables false
theorem own : ownKnob Try.prog.godebug = none := by kernel_rfl
theorem laidOut : laidOutB Try.prog = true := by kernel_rfl
set_option maxRecDepth 100000 in
/-- what the walk gives, for every argument of the row -/
theorem contract (H : Type) (enc : TypeId × Value → H) (W : World) (base : Nat) (args : Array Value) (ds gs : List (DataW H)) (before : List MemPlace)
    (hval0 : ∀ (j : Nat) t v, Try.f15.params[j]? = some t → args[j]? = some v → Value.okWide Try.prog W .any base t v)
    (hW : DataW.Whole enc Try.prog Try.f15.params.toList Rows.vertexApartSpec.vars false W args.toList ds gs before)
    (hsz0 : (DataW.weightsEach Try.prog (Try.f15.params.toList ++ Rows.vertexApartSpec.plain.varTypes Try.prog) (ds ++ gs)).all (· ≤ reachBytes) = true) :
    Calls Try.prog 15 args W fun e W' => ∃ v, e = .returned v ∧ Rows.vertexApartSpec.post enc Try.prog Try.f15 false true false false W args v W' := by
  have hval : ∀ (j : Nat) t v, Try.f15.params[j]? = some t → args[j]? = some v → Value.okWide Try.prog W .any base t v := hval0
  have hW' := hW
  obtain ⟨p, q, hA0, hV, rfl, hfz, hnd⟩ := hW
  have hA : DataW.TrodAll enc Try.prog W 0 (fun _ => true) true Try.f15.params.toList args.toList ds p := hA0
  have hsz := hsz0
  rw [Try.params15] at hA hval hsz
  obtain ⟨v0, vs0, d0, ds0, p0, q0, hargs, rfl, rfl, h0, r0⟩ := trodAll_cons hA
  obtain ⟨v1, vs1, d1, ds1, p1, q1, rfl, rfl, rfl, h1, r1⟩ := trodAll_cons r0
  obtain ⟨v2, vs2, d2, ds2, p2, q2, rfl, rfl, rfl, h2, r2⟩ := trodAll_cons r1
  obtain ⟨rfl, rfl, rfl⟩ := trodAll_nil r2
  obtain rfl : args = #[v0, v1, v2] := by cases args; simp_all
  obtain ⟨rfl, rfl⟩ := trodVars_none hV
  have t0 := h0
  have lt0 : ∀ x ∈ p0, x.block < W.heap.size := by obtain ⟨m, hm⟩ := t0; exact DataW.trod_lt m _ _ _ hm
  have t1 := h1
  have lt1 : ∀ x ∈ p1, x.block < W.heap.size := by obtain ⟨m, hm⟩ := t1; exact DataW.trod_lt m _ _ _ hm
  have t2 := h2
  have lt2 : ∀ x ∈ p2, x.block < W.heap.size := by obtain ⟨m, hm⟩ := t2; exact DataW.trod_lt m _ _ _ hm
  obtain ⟨a0, K0, ok0, wt0, bk0⟩ := fit_arg fit75 h0
  have wq0 := wt0 (fun n hn => of_decide_eq_true (List.all_eq_true.1 hsz n (DataW.weights_mem_each (j := 0) (t := rd75.t) (d := d0) rfl rfl n hn)))
  obtain ⟨cs0, rfl, sz0⟩ := okWide_struct Try.underlying75 (hval 0 75 v0 rfl rfl)
  obtain ⟨A0_2, c0_2, A0_3, c0_3, e0, l0_2, g0_2, l0_3, g0_3⟩ := k75_open (show k75.K W a0 _ from K0)
  obtain rfl : cs0 = #[.int .i64 a0.f0, .int .i64 a0.f1, .slice A0_2 a0.f2.length c0_2, .slice A0_3 a0.f3.length c0_3, .int .i64 a0.f4.f0, .int .i64 a0.f4.f1] := by have := congrArg List.toArray e0; simpa [Value.cells] using this
  obtain ⟨a1, K1, ok1, wt1, bk1⟩ := fit_arg fit75 h1
  have wq1 := wt1 (fun n hn => of_decide_eq_true (List.all_eq_true.1 hsz n (DataW.weights_mem_each (j := 1) (t := rd75.t) (d := d1) rfl rfl n hn)))
  obtain ⟨cs1, rfl, sz1⟩ := okWide_struct Try.underlying75 (hval 1 75 v1 rfl rfl)
  obtain ⟨A1_2, c1_2, A1_3, c1_3, e1, l1_2, g1_2, l1_3, g1_3⟩ := k75_open (show k75.K W a1 _ from K1)
  obtain rfl : cs1 = #[.int .i64 a1.f0, .int .i64 a1.f1, .slice A1_2 a1.f2.length c1_2, .slice A1_3 a1.f3.length c1_3, .int .i64 a1.f4.f0, .int .i64 a1.f4.f1] := by have := congrArg List.toArray e1; simpa [Value.cells] using this
  obtain ⟨a2, K2, ok2, wt2, bk2⟩ := fit_arg (fit_int Try.underlying3) h2
  have wq2 := wt2 (fun n hn => of_decide_eq_true (List.all_eq_true.1 hsz n (DataW.weights_mem_each (j := 2) (t := (rdInt 3 .i64).t) (d := d2) rfl rfl n hn)))
  obtain ⟨a2', rfl, rfl, rfl, y2⟩ := open_int Try.underlying3 (hval 2 3 v2 rfl rfl) h2
  have e2 : a2' = a2 := by have := K2; simpa [rdInt, rdBool, rdString, Kd.int, Kd.bool, Kd.string, Kd.scalar, Value.cells] using this
  subst e2
  obtain ⟨kk, hkk⟩ := Pure.VertexApart a0 a1 a2' ok0 ok1 ok2 wq0 wq1 wq2
  refine (selvedgelaw08_VertexApart.calls kk (a0.f0) (a0.f1) A0_2 c0_2 (a0.f2) A0_3 c0_3 (a0.f3) (a0.f4.f0) (a0.f4.f1) (a1.f0) (a1.f1) A1_2 c1_2 (a1.f2) A1_3 c1_3 (a1.f3) (a1.f4.f0) (a1.f4.f1) a2' true W g0_2 l0_2 g0_3 l0_3 g1_2 l1_2 g1_3 l1_3 hkk).mono fun e W' ⟨he, bel0⟩ => ?_
  have bel := bel0
  subst he
  exact ⟨_, rfl, _, _, _, [], _, [], hW', trodAll_mk1 (shut_bool Try.underlying4 _), (trodAll_cons_mk (Below.trod laidOut (by kernel_rfl) (of_decide_eq_true (by kernel_rfl)) t0 bel lt0) (trodAll_cons_mk (Below.trod laidOut (by kernel_rfl) (of_decide_eq_true (by kernel_rfl)) t1 bel lt1) (trodAll_cons_mk (Below.trod laidOut (by kernel_rfl) (of_decide_eq_true (by kernel_rfl)) t2 bel lt2) trodAll_mk0))), rfl, bel.frame _, fun h => by cases h⟩
set_option maxRecDepth 100000 in
theorem lifted (os : Os) (started : os.Started) (H : Type) (enc : TypeId × Value → H) :
    ReturnsInHanded {} Try.checked os 15 .any (Rows.vertexApartSpec.pre6 enc Try.prog Try.f15 Rows.vertexApartRow.domain false) (Rows.vertexApartSpec.post enc Try.prog Try.f15 false true false false) := by
  refine returnsInHanded_of_change_sized (C := Try.checked) own started (by kernel_rfl) Try.func15
    (ChangeSpec.witness6 (enc := enc) (C := Try.checked) false ⟨#[], #[.agg #[.int .i64 0, .int .i64 0, .slice none 0 0, .slice none 0 0, .int .i64 0, .int .i64 0], .agg #[.int .i64 0, .int .i64 0, .slice none 0 0, .slice none 0 0, .int .i64 0, .int .i64 0], .int .i64 0], []⟩ 8 (by kernel_rfl) (by kernel_rfl) (by kernel_rfl) (by kernel_rfl)) ?_
  intro W base args ds gs before hval hW _ hsz _
  exact contract H enc W base args ds gs before hval hW hsz
theorem proved : Rows.VertexApartSaid :=
  OpenClaim.holds_of_wide 15 Try.f15 rfl rfl rfl rfl rfl rfl rfl ⟨rfl, rfl, rfl, rfl, rfl⟩ rfl rfl rfl rfl rfl (by kernel_rfl) Try.func15 (by kernel_rfl)
    (of_decide_eq_true (by kernel_rfl)) (by unfold Func.isWrapper; first | (rw [if_pos (by decide +kernel)]; kernel_rfl) | (rw [if_neg (by decide +kernel)]; exact ⟨rfl, rfl⟩))
    (fun os started H enc _ => lifted os started H enc)
#print axioms proved
end Go.Proofs.Ytijnodcbgadooaa.vertexApart
namespace Go.Proofs.Ytijnodcbgadooaa
/-- The row, under a short name, for the claim. -/
theorem vertexApart_holds : Rows.VertexApartSaid := vertexApart.proved
end Go.Proofs.Ytijnodcbgadooaa
