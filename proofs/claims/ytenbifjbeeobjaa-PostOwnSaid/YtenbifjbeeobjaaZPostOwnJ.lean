/- part 10 of the proof of the law PostOwn: texts merged by this session's bundle.py. What is proved: the statement at the end of the last of these texts; its conditions are those of the given row. -/
import Derived.Test.YtenbifjbeeobjaaZPostOwnD
import Derived.Test.YtenbifjbeeobjaaZPostOwnF
import Derived.Test.YtenbifjbeeobjaaZPostOwnI
namespace Go.Proofs.Ytenbifjbeeobjaa.Px
open Go.RowKit Go.Proofs.YtenbifjbeeobjaaW.PrintWords Go.Proofs.YtenbifjbeeobjaaW.PrintLast Go.Proofs.YtenbifjbeeobjaaW.PrintMore
attribute [local go_sem] max2_int min2_int max_two min_two max_three min_three max_four min_four
set_option linter.unusedVariables false
set_option linter.unusedSimpArgs false
def oddB (n : Int) (b : S101) : Bool := !mayB b.f0 b.f1 b.f2 || decide (n < b.f0)
theorem vertex_May.odd (n : Int) (g : Nat) (a0 a1 : Int) (A : Option Addr) (c : Nat) (l : List ByteArray) (w : World) (hr : Kd.C Kd.string w A l.length l) (hc : l.length ≤ c)
    (hn : w.heap[g]? = some (.cells #[.int .i64 n] 3 (0, 0))) :
    Calls Try.prog 82 #[.agg #[.int .i64 a0, .int .i64 a1, .slice A l.length c], .pointer (some ⟨g, 0, none⟩)] w fun e w' => e = .returned (.bool (oddB n ⟨a0, a1, l⟩)) ∧ Below w.heap.size w w' := by
  have HR := Aside0.mk hr
  have HC := Aside0.mk hc
  have HN := Aside0.mk hn
  clear hr hc hn
  rcases hm : mayB a0 a1 l with _ | _
  · have HO : Aside0 (oddB n ⟨a0, a1, l⟩ = true) := ⟨by simp [oddB, hm]⟩
    have HM := Aside0.mk hm
    clear hm
    go_enter Try.func82, Try.ntmps82
    go_wp2_with (first
      | ((with_reducible refine gate_dst (N := 2) rfl ?_); refine box_event ?hg (N := 2) ?hd (cs := #[.int .i64 a0, .int .i64 a1, .slice A l.length c]) (t := 101) ?hr ?_; (case hd => rfl); (case hg => rfl); (case hr => first | (go_simp; done) | (go_simp; rfl)); intro gb hg w2 hbox hb; have BK := Aside0.mk hbox; have HB := Aside0.mk hb; clear hb hbox hg; have hz0 := (blk_cell BK.out 0).trans rfl; have hz1 := (blk_cell BK.out 1).trans rfl; have hz2 := (blk_cell BK.out 2).trans rfl; have hf0 := blk_frozen BK.out 0; have hf1 := blk_frozen BK.out 1; have hf2 := blk_frozen BK.out 2)
      | (go_at_call 81; (with_reducible refine (batch_May.calls a0 a1 _ _ l _ _ (Kd.C_below HR.out HB.out) HC.out rfl).mono ?_); rintro e w3 ⟨rfl, hb⟩; rw [HM.out]; have HB3 := Aside0.mk (below_step HB.out hb); clear hb))
    go_ret
    exact ⟨by rw [HO.out]; rfl, HB3.out⟩
  · have HO : Aside0 (oddB n ⟨a0, a1, l⟩ = decide (n < a0)) := ⟨by simp [oddB, hm]⟩
    have HM := Aside0.mk hm
    clear hm
    go_enter Try.func82, Try.ntmps82
    go_wp2_with (first
      | ((with_reducible refine gate_dst (N := 2) rfl ?_); refine box_event ?hg (N := 2) ?hd (cs := #[.int .i64 a0, .int .i64 a1, .slice A l.length c]) (t := 101) ?hr ?_; (case hd => rfl); (case hg => rfl); (case hr => first | (go_simp; done) | (go_simp; rfl)); intro gb hg w2 hbox hb; have BK := Aside0.mk hbox; have HB := Aside0.mk hb; clear hb hbox hg; have hz0 := (blk_cell BK.out 0).trans rfl; have hz1 := (blk_cell BK.out 1).trans rfl; have hz2 := (blk_cell BK.out 2).trans rfl; have hf0 := blk_frozen BK.out 0; have hf1 := blk_frozen BK.out 1; have hf2 := blk_frozen BK.out 2)
      | (go_at_call 81; (with_reducible refine (batch_May.calls a0 a1 _ _ l _ _ (Kd.C_below HR.out HB.out) HC.out rfl).mono ?_); rintro e w3 ⟨rfl, hb⟩; rw [HM.out]; have HB3 := Aside0.mk (below_step HB.out hb); have BK3 := Aside0.mk (blk_below BK.out hb); have BN3 := Aside0.mk (blk_below HN.out HB3.out); clear hb; have hy0 := (blk_cell BK3.out 0).trans rfl; have hyf := blk_frozen BK3.out 0; have hn0 := (blk_cell BN3.out 0).trans rfl; have hnf := blk_frozen BN3.out 0))
    go_ret
    exact ⟨by rw [HO.out]; rfl, HB3.out⟩
theorem vertex_May.idx (n : Int) (g : Nat) (A : Option Addr) (c : Nat) (l : List S101) (w : World) (hr : Kd.C k101 w A l.length l) (hc : l.length ≤ c)
    (hn : w.heap[g]? = some (.cells #[.int .i64 n] 3 (0, 0))) :
    Calls Try.prog 104 #[.slice A l.length c, .func (.func 82) #[] #[.pointer (some ⟨g, 0, none⟩)]] w fun e w' => e = .returned (.int .i64 (idxF (oddB n) l)) ∧ Below w.heap.size w w' := by
  have hm := hr.2.1
  have HR := Aside0.mk hr
  have HN := Aside0.mk hn
  clear hr hn
  go_enter Try.func104, Try.ntmps104
  go_wp2_with fail
  have HB0 := Aside0.mk (Below.refl w.heap.size w)
  go_loopw [5, 8] (fun v5 v8 wr => ∃ k : Nat, v8 = .int .i64 k ∧ k ≤ l.length ∧ Aside0 (∀ (j : Nat) (y : S101), j < k → l[j]? = some y → oddB n y = false) ∧ Aside0 (Below w.heap.size w wr)) (fun _ v8 _ => l.length - (match v8 with | .int _ q => q | _ => 0).toNat)
  case atStart => exact ⟨0, rfl, Nat.zero_le _, ⟨fun j y hj => absurd hj (Nat.not_lt_zero _)⟩, ⟨by repeat (first | (with_reducible first | exact HB0.out | apply below_alloc | apply pw_below_drewN | apply below_drew1) | exact HB0.out)⟩⟩
  case round =>
    obtain ⟨k, rfl, hk, HF, HB⟩ := hrel
    by_cases hlt : k < l.length
    · obtain ⟨ad, A2, c2, rfl, hx0, hx1, hx2, hl2, hi2⟩ := at_T101 HR.out (k : Int) (by omega) (by omega)
      replace hx0 := (HB.out.cell (World.block_lt_of_cell? w _ hx0)).trans hx0
      replace hx1 := (HB.out.cell (World.block_lt_of_cell? w _ hx1)).trans hx1
      replace hx2 := (HB.out.cell (World.block_lt_of_cell? w _ hx2)).trans hx2
      rw [Int.toNat_natCast] at hx0 hx1 hx2
      have hb : decide (k < l.length) = true := decide_eq_true hlt
      have hx : l[k]? = some (rd_T101 l (k : Int)) := by
        rw [rd_T101, Int.toNat_natCast, List.getD_eq_getElem?_getD, List.getElem?_eq_getElem hlt]; rfl
      have HX := Aside0.mk hx
      have HL2 := Aside0.mk hl2
      have HI2 := Aside0.mk (Kd.C_below hi2 HB.out)
      have HNW := Aside0.mk (blk_below HN.out HB.out)
      clear hx hl2 hi2
      generalize rd_T101 l (k : Int) = s at *
      obtain ⟨s0, s1, s2⟩ := s
      rcases ho : oddB n ⟨s0, s1, s2⟩ with _ | _
      · have HO := Aside0.mk ho
        clear ho
        go_wp2_with (go_at_call 82; (with_reducible refine (vertex_May.odd n g s0 s1 _ _ s2 _ HI2.out HL2.out HNW.out).mono ?_); rintro e w1 ⟨rfl, hb1⟩; rw [HO.out]; have HB1 := Aside0.mk (below_step HB.out hb1); clear hb1)
        go_roundw
        case rel =>
          refine ⟨k + 1, by go_num, by omega, ⟨fun j y hj hy => ?_⟩, HB1⟩
          rcases Nat.lt_succ_iff_lt_or_eq.1 hj with h | h
          · exact HF.out j y h hy
          · subst h
            rw [HX.out] at hy
            injection hy with hy
            subst hy
            exact HO.out
        case measure => simp; omega
      · have HO := Aside0.mk ho
        clear ho
        go_wp2_with (go_at_call 82; (with_reducible refine (vertex_May.odd n g s0 s1 _ _ s2 _ HI2.out HL2.out HNW.out).mono ?_); rintro e w1 ⟨rfl, hb1⟩; rw [HO.out]; have HB1 := Aside0.mk (below_step HB.out hb1); clear hb1)
        go_ret
        exact ⟨by rw [idxF_hit HX.out HO.out HF.out]; rfl, HB1.out⟩
    · obtain rfl : k = l.length := by omega
      go_wp2_with fail
      go_ret
      exact ⟨by rw [idxF_none (fun j y hy => HF.out j y (List.getElem?_eq_some_iff.1 hy).1 hy)]; rfl, HB.out⟩
theorem vertex_May.contains (n : Int) (g : Nat) (A : Option Addr) (c : Nat) (l : List S101) (w : World) (hr : Kd.C k101 w A l.length l) (hc : l.length ≤ c)
    (hn : w.heap[g]? = some (.cells #[.int .i64 n] 3 (0, 0))) :
    Calls Try.prog 84 #[.slice A l.length c, .func (.func 82) #[] #[.pointer (some ⟨g, 0, none⟩)]] w fun e w' => e = .returned (.bool (l.any (oddB n))) ∧ Below w.heap.size w w' := by
  have HR := Aside0.mk hr
  have HC := Aside0.mk hc
  have HN := Aside0.mk hn
  clear hr hc hn
  have HA := Aside0.mk (idxF_any (oddB n) l)
  go_enter Try.func84, Try.ntmps84
  go_wp2_with (go_at_call 104; (with_reducible refine (vertex_May.idx n g _ _ l _ HR.out HC.out HN.out).mono ?_); rintro e w1 ⟨rfl, hb1⟩; have HB1 := Aside0.mk hb1; clear hb1)
  go_ret
  exact ⟨by rw [← HA.out]; rfl, HB1.out⟩
def mayV (a r : Int) (bs : List S101) (ps : List ByteArray) (x y n : Int) : Bool :=
  mayN n && decide (1 ≤ a) && decide (a ≤ n) && decide (1 ≤ r) && decide (r ≤ 1048576) && decide (bs.length ≤ 4) && !bs.any (oddB n) && mayE x y && (thirdR r || (decide (x = 0) && decide (y = 0))) && parentsB ps r n
def vertex_May.f (a0_0 : Int) (a0_1 : Int) (l0_2 : List S101) (l0_3 : List ByteArray) (a0_4 : Int) (a0_5 : Int) (a1 : Int) : Option (Bool) := some (mayV a0_0 a0_1 l0_2 l0_3 a0_4 a0_5 a1)
set_option maxHeartbeats 4000000 in
set_option maxRecDepth 100000 in
theorem vertex_May.walk (a r : Int) (A2 : Option Addr) (c2 : Nat) (bs : List S101) (A3 : Option Addr) (c3 : Nat) (ps : List ByteArray) (x y n : Int) (w : World) (hr2 : Kd.C k101 w A2 bs.length bs) (hc2 : bs.length ≤ c2) (hr3 : Kd.C Kd.string w A3 ps.length ps) (hc3 : ps.length ≤ c3) :
    Calls Try.prog 56 #[.agg #[.int .i64 a, .int .i64 r, .slice A2 bs.length c2, .slice A3 ps.length c3, .int .i64 x, .int .i64 y], .int .i64 n] w fun e w' => e = .returned (.bool (mayV a r bs ps x y n)) ∧ Below w.heap.size w w' := by
  obtain ⟨N, hN⟩ := parents_ev ps r n hr3.2.1
  have HP := Aside0.mk (hN N (Nat.le_refl _))
  have HR2 := Aside0.mk hr2
  have HC2 := Aside0.mk hc2
  have HR3 := Aside0.mk hr3
  have HC3 := Aside0.mk hc3
  clear hr2 hc2 hr3 hc3 hN
  rcases hm : mayN n with _ | _
  · have HM := Aside0.mk hm
    have HE : Aside0 (mayV a r bs ps x y n = false) := ⟨by simp only [mayV, hm]; simp⟩
    clear hm
    go_enter Try.func56, Try.ntmps56
    go_wp2_with (first
      | ((with_reducible refine gate_dst (N := 2) rfl ?_); refine box_event ?hg (N := 2) ?hd (cs := #[.int .i64 a, .int .i64 r, .slice A2 bs.length c2, .slice A3 ps.length c3, .int .i64 x, .int .i64 y]) (t := 28) ?hr ?_; (case hd => rfl); (case hg => rfl); (case hr => first | (go_simp; done) | (go_simp; rfl)); intro gv hg w2 hbox hb; have BV := Aside0.mk hbox; have HB2 := Aside0.mk hb; clear hb hbox hg; have hv0 := (blk_cell BV.out 0).trans rfl; have fv0 := blk_frozen BV.out 0; have hv1 := (blk_cell BV.out 1).trans rfl; have fv1 := blk_frozen BV.out 1; have hv2 := (blk_cell BV.out 2).trans rfl; have fv2 := blk_frozen BV.out 2; have hv3 := (blk_cell BV.out 3).trans rfl; have fv3 := blk_frozen BV.out 3; have hv4 := (blk_cell BV.out 4).trans rfl; have fv4 := blk_frozen BV.out 4; have hv5 := (blk_cell BV.out 5).trans rfl; have fv5 := blk_frozen BV.out 5)
      | ((with_reducible refine gate_dst (N := 3) rfl ?_); refine box_event ?hg (N := 3) ?hd (cs := #[.int .i64 n]) (t := 3) ?hr ?_; (case hd => rfl); (case hg => rfl); (case hr => first | (go_simp; done) | (go_simp; rfl)); intro gn hg w3 hbox hb; have BN := Aside0.mk hbox; have BV3 := Aside0.mk (blk_below BV.out hb); have HB3 := Aside0.mk (below_step HB2.out hb); clear hb hbox hg; have hn0 := (blk_cell BN.out 0).trans rfl; have fn0 := blk_frozen BN.out 0; have hu0 := (blk_cell BV3.out 0).trans rfl; have fu0 := blk_frozen BV3.out 0; have hu1 := (blk_cell BV3.out 1).trans rfl; have fu1 := blk_frozen BV3.out 1; have hu2 := (blk_cell BV3.out 2).trans rfl; have fu2 := blk_frozen BV3.out 2; have hu3 := (blk_cell BV3.out 3).trans rfl; have fu3 := blk_frozen BV3.out 3; have hu4 := (blk_cell BV3.out 4).trans rfl; have fu4 := blk_frozen BV3.out 4; have hu5 := (blk_cell BV3.out 5).trans rfl; have fu5 := blk_frozen BV3.out 5)
      | (go_at_call 83; (with_reducible refine (seats_May.calls n _ _ (seats_May_of n)).mono ?_); rintro e w1 ⟨rfl, ⟨nd, rfl⟩⟩; rw [HM.out]))
    go_ret
    exact ⟨by rw [HE.out]; rfl, by repeat (first | exact HB3.out | apply pw_below_drewN)⟩
  have HM := Aside0.mk hm
  by_cases h1 : a < 1
  · have h1d : decide (a < 1) = true := decide_eq_true h1
    have h1e : decide (1 ≤ a) = false := decide_eq_false (by omega)
    have HE : Aside0 (mayV a r bs ps x y n = false) := ⟨by simp only [mayV, h1e]; simp⟩
    clear hm h1 h1e
    go_enter Try.func56, Try.ntmps56
    go_wp2_with (first
      | ((with_reducible refine gate_dst (N := 2) rfl ?_); refine box_event ?hg (N := 2) ?hd (cs := #[.int .i64 a, .int .i64 r, .slice A2 bs.length c2, .slice A3 ps.length c3, .int .i64 x, .int .i64 y]) (t := 28) ?hr ?_; (case hd => rfl); (case hg => rfl); (case hr => first | (go_simp; done) | (go_simp; rfl)); intro gv hg w2 hbox hb; have BV := Aside0.mk hbox; have HB2 := Aside0.mk hb; clear hb hbox hg; have hv0 := (blk_cell BV.out 0).trans rfl; have fv0 := blk_frozen BV.out 0; have hv1 := (blk_cell BV.out 1).trans rfl; have fv1 := blk_frozen BV.out 1; have hv2 := (blk_cell BV.out 2).trans rfl; have fv2 := blk_frozen BV.out 2; have hv3 := (blk_cell BV.out 3).trans rfl; have fv3 := blk_frozen BV.out 3; have hv4 := (blk_cell BV.out 4).trans rfl; have fv4 := blk_frozen BV.out 4; have hv5 := (blk_cell BV.out 5).trans rfl; have fv5 := blk_frozen BV.out 5)
      | ((with_reducible refine gate_dst (N := 3) rfl ?_); refine box_event ?hg (N := 3) ?hd (cs := #[.int .i64 n]) (t := 3) ?hr ?_; (case hd => rfl); (case hg => rfl); (case hr => first | (go_simp; done) | (go_simp; rfl)); intro gn hg w3 hbox hb; have BN := Aside0.mk hbox; have BV3 := Aside0.mk (blk_below BV.out hb); have HB3 := Aside0.mk (below_step HB2.out hb); clear hb hbox hg; have hn0 := (blk_cell BN.out 0).trans rfl; have fn0 := blk_frozen BN.out 0; have hu0 := (blk_cell BV3.out 0).trans rfl; have fu0 := blk_frozen BV3.out 0; have hu1 := (blk_cell BV3.out 1).trans rfl; have fu1 := blk_frozen BV3.out 1; have hu2 := (blk_cell BV3.out 2).trans rfl; have fu2 := blk_frozen BV3.out 2; have hu3 := (blk_cell BV3.out 3).trans rfl; have fu3 := blk_frozen BV3.out 3; have hu4 := (blk_cell BV3.out 4).trans rfl; have fu4 := blk_frozen BV3.out 4; have hu5 := (blk_cell BV3.out 5).trans rfl; have fu5 := blk_frozen BV3.out 5)
      | (go_at_call 83; (with_reducible refine (seats_May.calls n _ _ (seats_May_of n)).mono ?_); rintro e w1 ⟨rfl, ⟨nd, rfl⟩⟩; rw [HM.out]))
    go_ret
    exact ⟨by rw [HE.out]; rfl, by repeat (first | exact HB3.out | apply pw_below_drewN)⟩
  have h1d : decide (a < 1) = false := decide_eq_false h1
  have h1e : decide (1 ≤ a) = true := decide_eq_true (by omega)
  clear h1
  by_cases h2 : n < a
  · have h2d : decide (n < a) = true := decide_eq_true h2
    have h2e : decide (a ≤ n) = false := decide_eq_false (by omega)
    have HE : Aside0 (mayV a r bs ps x y n = false) := ⟨by simp only [mayV, h2e]; simp⟩
    clear hm h2 h2e
    go_enter Try.func56, Try.ntmps56
    go_wp2_with (first
      | ((with_reducible refine gate_dst (N := 2) rfl ?_); refine box_event ?hg (N := 2) ?hd (cs := #[.int .i64 a, .int .i64 r, .slice A2 bs.length c2, .slice A3 ps.length c3, .int .i64 x, .int .i64 y]) (t := 28) ?hr ?_; (case hd => rfl); (case hg => rfl); (case hr => first | (go_simp; done) | (go_simp; rfl)); intro gv hg w2 hbox hb; have BV := Aside0.mk hbox; have HB2 := Aside0.mk hb; clear hb hbox hg; have hv0 := (blk_cell BV.out 0).trans rfl; have fv0 := blk_frozen BV.out 0; have hv1 := (blk_cell BV.out 1).trans rfl; have fv1 := blk_frozen BV.out 1; have hv2 := (blk_cell BV.out 2).trans rfl; have fv2 := blk_frozen BV.out 2; have hv3 := (blk_cell BV.out 3).trans rfl; have fv3 := blk_frozen BV.out 3; have hv4 := (blk_cell BV.out 4).trans rfl; have fv4 := blk_frozen BV.out 4; have hv5 := (blk_cell BV.out 5).trans rfl; have fv5 := blk_frozen BV.out 5)
      | ((with_reducible refine gate_dst (N := 3) rfl ?_); refine box_event ?hg (N := 3) ?hd (cs := #[.int .i64 n]) (t := 3) ?hr ?_; (case hd => rfl); (case hg => rfl); (case hr => first | (go_simp; done) | (go_simp; rfl)); intro gn hg w3 hbox hb; have BN := Aside0.mk hbox; have BV3 := Aside0.mk (blk_below BV.out hb); have HB3 := Aside0.mk (below_step HB2.out hb); clear hb hbox hg; have hn0 := (blk_cell BN.out 0).trans rfl; have fn0 := blk_frozen BN.out 0; have hu0 := (blk_cell BV3.out 0).trans rfl; have fu0 := blk_frozen BV3.out 0; have hu1 := (blk_cell BV3.out 1).trans rfl; have fu1 := blk_frozen BV3.out 1; have hu2 := (blk_cell BV3.out 2).trans rfl; have fu2 := blk_frozen BV3.out 2; have hu3 := (blk_cell BV3.out 3).trans rfl; have fu3 := blk_frozen BV3.out 3; have hu4 := (blk_cell BV3.out 4).trans rfl; have fu4 := blk_frozen BV3.out 4; have hu5 := (blk_cell BV3.out 5).trans rfl; have fu5 := blk_frozen BV3.out 5)
      | (go_at_call 83; (with_reducible refine (seats_May.calls n _ _ (seats_May_of n)).mono ?_); rintro e w1 ⟨rfl, ⟨nd, rfl⟩⟩; rw [HM.out]))
    go_ret
    exact ⟨by rw [HE.out]; rfl, by repeat (first | exact HB3.out | apply pw_below_drewN)⟩
  have h2d : decide (n < a) = false := decide_eq_false h2
  have h2e : decide (a ≤ n) = true := decide_eq_true (by omega)
  clear h2
  by_cases h3 : r < 1
  · have h3d : decide (r < 1) = true := decide_eq_true h3
    have h3e : decide (1 ≤ r) = false := decide_eq_false (by omega)
    have HE : Aside0 (mayV a r bs ps x y n = false) := ⟨by simp only [mayV, h3e]; simp⟩
    clear hm h3 h3e
    go_enter Try.func56, Try.ntmps56
    go_wp2_with (first
      | ((with_reducible refine gate_dst (N := 2) rfl ?_); refine box_event ?hg (N := 2) ?hd (cs := #[.int .i64 a, .int .i64 r, .slice A2 bs.length c2, .slice A3 ps.length c3, .int .i64 x, .int .i64 y]) (t := 28) ?hr ?_; (case hd => rfl); (case hg => rfl); (case hr => first | (go_simp; done) | (go_simp; rfl)); intro gv hg w2 hbox hb; have BV := Aside0.mk hbox; have HB2 := Aside0.mk hb; clear hb hbox hg; have hv0 := (blk_cell BV.out 0).trans rfl; have fv0 := blk_frozen BV.out 0; have hv1 := (blk_cell BV.out 1).trans rfl; have fv1 := blk_frozen BV.out 1; have hv2 := (blk_cell BV.out 2).trans rfl; have fv2 := blk_frozen BV.out 2; have hv3 := (blk_cell BV.out 3).trans rfl; have fv3 := blk_frozen BV.out 3; have hv4 := (blk_cell BV.out 4).trans rfl; have fv4 := blk_frozen BV.out 4; have hv5 := (blk_cell BV.out 5).trans rfl; have fv5 := blk_frozen BV.out 5)
      | ((with_reducible refine gate_dst (N := 3) rfl ?_); refine box_event ?hg (N := 3) ?hd (cs := #[.int .i64 n]) (t := 3) ?hr ?_; (case hd => rfl); (case hg => rfl); (case hr => first | (go_simp; done) | (go_simp; rfl)); intro gn hg w3 hbox hb; have BN := Aside0.mk hbox; have BV3 := Aside0.mk (blk_below BV.out hb); have HB3 := Aside0.mk (below_step HB2.out hb); clear hb hbox hg; have hn0 := (blk_cell BN.out 0).trans rfl; have fn0 := blk_frozen BN.out 0; have hu0 := (blk_cell BV3.out 0).trans rfl; have fu0 := blk_frozen BV3.out 0; have hu1 := (blk_cell BV3.out 1).trans rfl; have fu1 := blk_frozen BV3.out 1; have hu2 := (blk_cell BV3.out 2).trans rfl; have fu2 := blk_frozen BV3.out 2; have hu3 := (blk_cell BV3.out 3).trans rfl; have fu3 := blk_frozen BV3.out 3; have hu4 := (blk_cell BV3.out 4).trans rfl; have fu4 := blk_frozen BV3.out 4; have hu5 := (blk_cell BV3.out 5).trans rfl; have fu5 := blk_frozen BV3.out 5)
      | (go_at_call 83; (with_reducible refine (seats_May.calls n _ _ (seats_May_of n)).mono ?_); rintro e w1 ⟨rfl, ⟨nd, rfl⟩⟩; rw [HM.out]))
    go_ret
    exact ⟨by rw [HE.out]; rfl, by repeat (first | exact HB3.out | apply pw_below_drewN)⟩
  have h3d : decide (r < 1) = false := decide_eq_false h3
  have h3e : decide (1 ≤ r) = true := decide_eq_true (by omega)
  clear h3
  by_cases h4 : 1048576 < r
  · have h4d : decide (1048576 < r) = true := decide_eq_true h4
    have h4e : decide (r ≤ 1048576) = false := decide_eq_false (by omega)
    have HE : Aside0 (mayV a r bs ps x y n = false) := ⟨by simp only [mayV, h4e]; simp⟩
    clear hm h4 h4e
    go_enter Try.func56, Try.ntmps56
    go_wp2_with (first
      | ((with_reducible refine gate_dst (N := 2) rfl ?_); refine box_event ?hg (N := 2) ?hd (cs := #[.int .i64 a, .int .i64 r, .slice A2 bs.length c2, .slice A3 ps.length c3, .int .i64 x, .int .i64 y]) (t := 28) ?hr ?_; (case hd => rfl); (case hg => rfl); (case hr => first | (go_simp; done) | (go_simp; rfl)); intro gv hg w2 hbox hb; have BV := Aside0.mk hbox; have HB2 := Aside0.mk hb; clear hb hbox hg; have hv0 := (blk_cell BV.out 0).trans rfl; have fv0 := blk_frozen BV.out 0; have hv1 := (blk_cell BV.out 1).trans rfl; have fv1 := blk_frozen BV.out 1; have hv2 := (blk_cell BV.out 2).trans rfl; have fv2 := blk_frozen BV.out 2; have hv3 := (blk_cell BV.out 3).trans rfl; have fv3 := blk_frozen BV.out 3; have hv4 := (blk_cell BV.out 4).trans rfl; have fv4 := blk_frozen BV.out 4; have hv5 := (blk_cell BV.out 5).trans rfl; have fv5 := blk_frozen BV.out 5)
      | ((with_reducible refine gate_dst (N := 3) rfl ?_); refine box_event ?hg (N := 3) ?hd (cs := #[.int .i64 n]) (t := 3) ?hr ?_; (case hd => rfl); (case hg => rfl); (case hr => first | (go_simp; done) | (go_simp; rfl)); intro gn hg w3 hbox hb; have BN := Aside0.mk hbox; have BV3 := Aside0.mk (blk_below BV.out hb); have HB3 := Aside0.mk (below_step HB2.out hb); clear hb hbox hg; have hn0 := (blk_cell BN.out 0).trans rfl; have fn0 := blk_frozen BN.out 0; have hu0 := (blk_cell BV3.out 0).trans rfl; have fu0 := blk_frozen BV3.out 0; have hu1 := (blk_cell BV3.out 1).trans rfl; have fu1 := blk_frozen BV3.out 1; have hu2 := (blk_cell BV3.out 2).trans rfl; have fu2 := blk_frozen BV3.out 2; have hu3 := (blk_cell BV3.out 3).trans rfl; have fu3 := blk_frozen BV3.out 3; have hu4 := (blk_cell BV3.out 4).trans rfl; have fu4 := blk_frozen BV3.out 4; have hu5 := (blk_cell BV3.out 5).trans rfl; have fu5 := blk_frozen BV3.out 5)
      | (go_at_call 83; (with_reducible refine (seats_May.calls n _ _ (seats_May_of n)).mono ?_); rintro e w1 ⟨rfl, ⟨nd, rfl⟩⟩; rw [HM.out]))
    go_ret
    exact ⟨by rw [HE.out]; rfl, by repeat (first | exact HB3.out | apply pw_below_drewN)⟩
  have h4d : decide (1048576 < r) = false := decide_eq_false h4
  have h4e : decide (r ≤ 1048576) = true := decide_eq_true (by omega)
  clear h4
  by_cases h5 : 4 < (bs.length : Int)
  · have h5d : decide (4 < (bs.length : Int)) = true := decide_eq_true h5
    have h5e : decide (bs.length ≤ 4) = false := decide_eq_false (by omega)
    have HE : Aside0 (mayV a r bs ps x y n = false) := ⟨by simp only [mayV, h5e]; simp⟩
    clear hm h5 h5e
    go_enter Try.func56, Try.ntmps56
    go_wp2_with (first
      | ((with_reducible refine gate_dst (N := 2) rfl ?_); refine box_event ?hg (N := 2) ?hd (cs := #[.int .i64 a, .int .i64 r, .slice A2 bs.length c2, .slice A3 ps.length c3, .int .i64 x, .int .i64 y]) (t := 28) ?hr ?_; (case hd => rfl); (case hg => rfl); (case hr => first | (go_simp; done) | (go_simp; rfl)); intro gv hg w2 hbox hb; have BV := Aside0.mk hbox; have HB2 := Aside0.mk hb; clear hb hbox hg; have hv0 := (blk_cell BV.out 0).trans rfl; have fv0 := blk_frozen BV.out 0; have hv1 := (blk_cell BV.out 1).trans rfl; have fv1 := blk_frozen BV.out 1; have hv2 := (blk_cell BV.out 2).trans rfl; have fv2 := blk_frozen BV.out 2; have hv3 := (blk_cell BV.out 3).trans rfl; have fv3 := blk_frozen BV.out 3; have hv4 := (blk_cell BV.out 4).trans rfl; have fv4 := blk_frozen BV.out 4; have hv5 := (blk_cell BV.out 5).trans rfl; have fv5 := blk_frozen BV.out 5)
      | ((with_reducible refine gate_dst (N := 3) rfl ?_); refine box_event ?hg (N := 3) ?hd (cs := #[.int .i64 n]) (t := 3) ?hr ?_; (case hd => rfl); (case hg => rfl); (case hr => first | (go_simp; done) | (go_simp; rfl)); intro gn hg w3 hbox hb; have BN := Aside0.mk hbox; have BV3 := Aside0.mk (blk_below BV.out hb); have HB3 := Aside0.mk (below_step HB2.out hb); clear hb hbox hg; have hn0 := (blk_cell BN.out 0).trans rfl; have fn0 := blk_frozen BN.out 0; have hu0 := (blk_cell BV3.out 0).trans rfl; have fu0 := blk_frozen BV3.out 0; have hu1 := (blk_cell BV3.out 1).trans rfl; have fu1 := blk_frozen BV3.out 1; have hu2 := (blk_cell BV3.out 2).trans rfl; have fu2 := blk_frozen BV3.out 2; have hu3 := (blk_cell BV3.out 3).trans rfl; have fu3 := blk_frozen BV3.out 3; have hu4 := (blk_cell BV3.out 4).trans rfl; have fu4 := blk_frozen BV3.out 4; have hu5 := (blk_cell BV3.out 5).trans rfl; have fu5 := blk_frozen BV3.out 5)
      | (go_at_call 83; (with_reducible refine (seats_May.calls n _ _ (seats_May_of n)).mono ?_); rintro e w1 ⟨rfl, ⟨nd, rfl⟩⟩; rw [HM.out]))
    go_ret
    exact ⟨by rw [HE.out]; rfl, by repeat (first | exact HB3.out | apply pw_below_drewN)⟩
  have h5d : decide (4 < (bs.length : Int)) = false := decide_eq_false h5
  have h5e : decide (bs.length ≤ 4) = true := decide_eq_true (by omega)
  clear h5
  rcases ha : bs.any (oddB n) with _ | _
  rotate_left
  · have HA := Aside0.mk ha
    have HE : Aside0 (mayV a r bs ps x y n = false) := ⟨by simp only [mayV, ha]; simp⟩
    clear hm ha h1e h2e h3e h4e h5e
    go_enter Try.func56, Try.ntmps56
    go_wp2_with (first
      | ((with_reducible refine gate_dst (N := 2) rfl ?_); refine box_event ?hg (N := 2) ?hd (cs := #[.int .i64 a, .int .i64 r, .slice A2 bs.length c2, .slice A3 ps.length c3, .int .i64 x, .int .i64 y]) (t := 28) ?hr ?_; (case hd => rfl); (case hg => rfl); (case hr => first | (go_simp; done) | (go_simp; rfl)); intro gv hg w2 hbox hb; have BV := Aside0.mk hbox; have HB2 := Aside0.mk hb; clear hb hbox hg; have hv0 := (blk_cell BV.out 0).trans rfl; have fv0 := blk_frozen BV.out 0; have hv1 := (blk_cell BV.out 1).trans rfl; have fv1 := blk_frozen BV.out 1; have hv2 := (blk_cell BV.out 2).trans rfl; have fv2 := blk_frozen BV.out 2; have hv3 := (blk_cell BV.out 3).trans rfl; have fv3 := blk_frozen BV.out 3; have hv4 := (blk_cell BV.out 4).trans rfl; have fv4 := blk_frozen BV.out 4; have hv5 := (blk_cell BV.out 5).trans rfl; have fv5 := blk_frozen BV.out 5)
      | ((with_reducible refine gate_dst (N := 3) rfl ?_); refine box_event ?hg (N := 3) ?hd (cs := #[.int .i64 n]) (t := 3) ?hr ?_; (case hd => rfl); (case hg => rfl); (case hr => first | (go_simp; done) | (go_simp; rfl)); intro gn hg w3 hbox hb; have BN := Aside0.mk hbox; have BV3 := Aside0.mk (blk_below BV.out hb); have HB3 := Aside0.mk (below_step HB2.out hb); clear hb hbox hg; have hn0 := (blk_cell BN.out 0).trans rfl; have fn0 := blk_frozen BN.out 0; have hu0 := (blk_cell BV3.out 0).trans rfl; have fu0 := blk_frozen BV3.out 0; have hu1 := (blk_cell BV3.out 1).trans rfl; have fu1 := blk_frozen BV3.out 1; have hu2 := (blk_cell BV3.out 2).trans rfl; have fu2 := blk_frozen BV3.out 2; have hu3 := (blk_cell BV3.out 3).trans rfl; have fu3 := blk_frozen BV3.out 3; have hu4 := (blk_cell BV3.out 4).trans rfl; have fu4 := blk_frozen BV3.out 4; have hu5 := (blk_cell BV3.out 5).trans rfl; have fu5 := blk_frozen BV3.out 5)
      | (go_at_call 83; (with_reducible refine (seats_May.calls n _ _ (seats_May_of n)).mono ?_); rintro e w1 ⟨rfl, ⟨nd, rfl⟩⟩; rw [HM.out])
      | (go_at_call 84; (with_reducible refine (vertex_May.contains n gn _ _ bs _ (Kd.C_below HR2.out (pw_below_drewN HB3.out _)) HC2.out (blk_drewN BN.out _)).mono ?_); rintro e w4 ⟨rfl, hb⟩; rw [HA.out]; have BV4 := Aside0.mk (blk_below (blk_drewN BV3.out _) hb); have BN4 := Aside0.mk (blk_below (blk_drewN BN.out _) hb); have HB4 := Aside0.mk (below_step (pw_below_drewN HB3.out _) hb); clear hb; have hm0 := (blk_cell BN4.out 0).trans rfl; have fm0 := blk_frozen BN4.out 0; have hs0 := (blk_cell BV4.out 0).trans rfl; have fs0 := blk_frozen BV4.out 0; have hs1 := (blk_cell BV4.out 1).trans rfl; have fs1 := blk_frozen BV4.out 1; have hs2 := (blk_cell BV4.out 2).trans rfl; have fs2 := blk_frozen BV4.out 2; have hs3 := (blk_cell BV4.out 3).trans rfl; have fs3 := blk_frozen BV4.out 3; have hs4 := (blk_cell BV4.out 4).trans rfl; have fs4 := blk_frozen BV4.out 4; have hs5 := (blk_cell BV4.out 5).trans rfl; have fs5 := blk_frozen BV4.out 5))
    go_ret
    exact ⟨by rw [HE.out]; rfl, by repeat (first | exact HB4.out | apply pw_below_drewN)⟩
  have HA := Aside0.mk ha
  rcases hg : mayE x y with _ | _
  · have HG := Aside0.mk hg
    have HE : Aside0 (mayV a r bs ps x y n = false) := ⟨by simp only [mayV, hg]; simp⟩
    clear hm ha hg h1e h2e h3e h4e h5e
    go_enter Try.func56, Try.ntmps56
    go_wp2_with (first
      | ((with_reducible refine gate_dst (N := 2) rfl ?_); refine box_event ?hg (N := 2) ?hd (cs := #[.int .i64 a, .int .i64 r, .slice A2 bs.length c2, .slice A3 ps.length c3, .int .i64 x, .int .i64 y]) (t := 28) ?hr ?_; (case hd => rfl); (case hg => rfl); (case hr => first | (go_simp; done) | (go_simp; rfl)); intro gv hg w2 hbox hb; have BV := Aside0.mk hbox; have HB2 := Aside0.mk hb; clear hb hbox hg; have hv0 := (blk_cell BV.out 0).trans rfl; have fv0 := blk_frozen BV.out 0; have hv1 := (blk_cell BV.out 1).trans rfl; have fv1 := blk_frozen BV.out 1; have hv2 := (blk_cell BV.out 2).trans rfl; have fv2 := blk_frozen BV.out 2; have hv3 := (blk_cell BV.out 3).trans rfl; have fv3 := blk_frozen BV.out 3; have hv4 := (blk_cell BV.out 4).trans rfl; have fv4 := blk_frozen BV.out 4; have hv5 := (blk_cell BV.out 5).trans rfl; have fv5 := blk_frozen BV.out 5)
      | ((with_reducible refine gate_dst (N := 3) rfl ?_); refine box_event ?hg (N := 3) ?hd (cs := #[.int .i64 n]) (t := 3) ?hr ?_; (case hd => rfl); (case hg => rfl); (case hr => first | (go_simp; done) | (go_simp; rfl)); intro gn hg w3 hbox hb; have BN := Aside0.mk hbox; have BV3 := Aside0.mk (blk_below BV.out hb); have HB3 := Aside0.mk (below_step HB2.out hb); clear hb hbox hg; have hn0 := (blk_cell BN.out 0).trans rfl; have fn0 := blk_frozen BN.out 0; have hu0 := (blk_cell BV3.out 0).trans rfl; have fu0 := blk_frozen BV3.out 0; have hu1 := (blk_cell BV3.out 1).trans rfl; have fu1 := blk_frozen BV3.out 1; have hu2 := (blk_cell BV3.out 2).trans rfl; have fu2 := blk_frozen BV3.out 2; have hu3 := (blk_cell BV3.out 3).trans rfl; have fu3 := blk_frozen BV3.out 3; have hu4 := (blk_cell BV3.out 4).trans rfl; have fu4 := blk_frozen BV3.out 4; have hu5 := (blk_cell BV3.out 5).trans rfl; have fu5 := blk_frozen BV3.out 5)
      | (go_at_call 83; (with_reducible refine (seats_May.calls n _ _ (seats_May_of n)).mono ?_); rintro e w1 ⟨rfl, ⟨nd, rfl⟩⟩; rw [HM.out])
      | (go_at_call 84; (with_reducible refine (vertex_May.contains n gn _ _ bs _ (Kd.C_below HR2.out (pw_below_drewN HB3.out _)) HC2.out (blk_drewN BN.out _)).mono ?_); rintro e w4 ⟨rfl, hb⟩; rw [HA.out]; have BV4 := Aside0.mk (blk_below (blk_drewN BV3.out _) hb); have BN4 := Aside0.mk (blk_below (blk_drewN BN.out _) hb); have HB4 := Aside0.mk (below_step (pw_below_drewN HB3.out _) hb); clear hb; have hm0 := (blk_cell BN4.out 0).trans rfl; have fm0 := blk_frozen BN4.out 0; have hs0 := (blk_cell BV4.out 0).trans rfl; have fs0 := blk_frozen BV4.out 0; have hs1 := (blk_cell BV4.out 1).trans rfl; have fs1 := blk_frozen BV4.out 1; have hs2 := (blk_cell BV4.out 2).trans rfl; have fs2 := blk_frozen BV4.out 2; have hs3 := (blk_cell BV4.out 3).trans rfl; have fs3 := blk_frozen BV4.out 3; have hs4 := (blk_cell BV4.out 4).trans rfl; have fs4 := blk_frozen BV4.out 4; have hs5 := (blk_cell BV4.out 5).trans rfl; have fs5 := blk_frozen BV4.out 5)
      | (go_at_call 85; (with_reducible refine (gauss_May.calls x y _ _ (gauss_May_of x y)).mono ?_); rintro e w5 ⟨rfl, hb⟩; rw [HG.out]; have BV5 := Aside0.mk (blk_below BV4.out hb); have BN5 := Aside0.mk (blk_below BN4.out hb); have HB5 := Aside0.mk (below_step HB4.out hb); clear hb; have hk0 := (blk_cell BN5.out 0).trans rfl; have fk0 := blk_frozen BN5.out 0; have hq0 := (blk_cell BV5.out 0).trans rfl; have fq0 := blk_frozen BV5.out 0; have hq1 := (blk_cell BV5.out 1).trans rfl; have fq1 := blk_frozen BV5.out 1; have hq2 := (blk_cell BV5.out 2).trans rfl; have fq2 := blk_frozen BV5.out 2; have hq3 := (blk_cell BV5.out 3).trans rfl; have fq3 := blk_frozen BV5.out 3; have hq4 := (blk_cell BV5.out 4).trans rfl; have fq4 := blk_frozen BV5.out 4; have hq5 := (blk_cell BV5.out 5).trans rfl; have fq5 := blk_frozen BV5.out 5))
    go_ret
    exact ⟨by rw [HE.out]; rfl, by repeat (first | exact HB5.out | apply pw_below_drewN)⟩
  have HG := Aside0.mk hg
  rcases ht : thirdR r with _ | _
  · have HT := Aside0.mk ht
    by_cases h6 : x = 0
    · have h6b : (x == 0) = true := beq_iff_eq.mpr h6
      have h6e : decide (x = 0) = true := decide_eq_true h6
      by_cases h7 : y = 0
      · have h7b : (y == 0) = true := beq_iff_eq.mpr h7
        have h7e : decide (y = 0) = true := decide_eq_true h7
        have HE : Aside0 (mayV a r bs ps x y n = parentsB ps r n) := ⟨by simp only [mayV, hm, h1e, h2e, h3e, h4e, h5e, ha, hg, ht, h6e, h7e]; simp⟩
        clear hm ha hg ht h1e h2e h3e h4e h5e h6 h6e h7 h7e
        go_enter Try.func56, Try.ntmps56
        go_wp2_with (first
          | ((with_reducible refine gate_dst (N := 2) rfl ?_); refine box_event ?hg (N := 2) ?hd (cs := #[.int .i64 a, .int .i64 r, .slice A2 bs.length c2, .slice A3 ps.length c3, .int .i64 x, .int .i64 y]) (t := 28) ?hr ?_; (case hd => rfl); (case hg => rfl); (case hr => first | (go_simp; done) | (go_simp; rfl)); intro gv hg w2 hbox hb; have BV := Aside0.mk hbox; have HB2 := Aside0.mk hb; clear hb hbox hg; have hv0 := (blk_cell BV.out 0).trans rfl; have fv0 := blk_frozen BV.out 0; have hv1 := (blk_cell BV.out 1).trans rfl; have fv1 := blk_frozen BV.out 1; have hv2 := (blk_cell BV.out 2).trans rfl; have fv2 := blk_frozen BV.out 2; have hv3 := (blk_cell BV.out 3).trans rfl; have fv3 := blk_frozen BV.out 3; have hv4 := (blk_cell BV.out 4).trans rfl; have fv4 := blk_frozen BV.out 4; have hv5 := (blk_cell BV.out 5).trans rfl; have fv5 := blk_frozen BV.out 5)
          | ((with_reducible refine gate_dst (N := 3) rfl ?_); refine box_event ?hg (N := 3) ?hd (cs := #[.int .i64 n]) (t := 3) ?hr ?_; (case hd => rfl); (case hg => rfl); (case hr => first | (go_simp; done) | (go_simp; rfl)); intro gn hg w3 hbox hb; have BN := Aside0.mk hbox; have BV3 := Aside0.mk (blk_below BV.out hb); have HB3 := Aside0.mk (below_step HB2.out hb); clear hb hbox hg; have hn0 := (blk_cell BN.out 0).trans rfl; have fn0 := blk_frozen BN.out 0; have hu0 := (blk_cell BV3.out 0).trans rfl; have fu0 := blk_frozen BV3.out 0; have hu1 := (blk_cell BV3.out 1).trans rfl; have fu1 := blk_frozen BV3.out 1; have hu2 := (blk_cell BV3.out 2).trans rfl; have fu2 := blk_frozen BV3.out 2; have hu3 := (blk_cell BV3.out 3).trans rfl; have fu3 := blk_frozen BV3.out 3; have hu4 := (blk_cell BV3.out 4).trans rfl; have fu4 := blk_frozen BV3.out 4; have hu5 := (blk_cell BV3.out 5).trans rfl; have fu5 := blk_frozen BV3.out 5)
          | (go_at_call 83; (with_reducible refine (seats_May.calls n _ _ (seats_May_of n)).mono ?_); rintro e w1 ⟨rfl, ⟨nd, rfl⟩⟩; rw [HM.out])
          | (go_at_call 84; (with_reducible refine (vertex_May.contains n gn _ _ bs _ (Kd.C_below HR2.out (pw_below_drewN HB3.out _)) HC2.out (blk_drewN BN.out _)).mono ?_); rintro e w4 ⟨rfl, hb⟩; rw [HA.out]; have BV4 := Aside0.mk (blk_below (blk_drewN BV3.out _) hb); have BN4 := Aside0.mk (blk_below (blk_drewN BN.out _) hb); have HB4 := Aside0.mk (below_step (pw_below_drewN HB3.out _) hb); clear hb; have hm0 := (blk_cell BN4.out 0).trans rfl; have fm0 := blk_frozen BN4.out 0; have hs0 := (blk_cell BV4.out 0).trans rfl; have fs0 := blk_frozen BV4.out 0; have hs1 := (blk_cell BV4.out 1).trans rfl; have fs1 := blk_frozen BV4.out 1; have hs2 := (blk_cell BV4.out 2).trans rfl; have fs2 := blk_frozen BV4.out 2; have hs3 := (blk_cell BV4.out 3).trans rfl; have fs3 := blk_frozen BV4.out 3; have hs4 := (blk_cell BV4.out 4).trans rfl; have fs4 := blk_frozen BV4.out 4; have hs5 := (blk_cell BV4.out 5).trans rfl; have fs5 := blk_frozen BV4.out 5)
          | (go_at_call 85; (with_reducible refine (gauss_May.calls x y _ _ (gauss_May_of x y)).mono ?_); rintro e w5 ⟨rfl, hb⟩; rw [HG.out]; have BV5 := Aside0.mk (blk_below BV4.out hb); have BN5 := Aside0.mk (blk_below BN4.out hb); have HB5 := Aside0.mk (below_step HB4.out hb); clear hb; have hk0 := (blk_cell BN5.out 0).trans rfl; have fk0 := blk_frozen BN5.out 0; have hq0 := (blk_cell BV5.out 0).trans rfl; have fq0 := blk_frozen BV5.out 0; have hq1 := (blk_cell BV5.out 1).trans rfl; have fq1 := blk_frozen BV5.out 1; have hq2 := (blk_cell BV5.out 2).trans rfl; have fq2 := blk_frozen BV5.out 2; have hq3 := (blk_cell BV5.out 3).trans rfl; have fq3 := blk_frozen BV5.out 3; have hq4 := (blk_cell BV5.out 4).trans rfl; have fq4 := blk_frozen BV5.out 4; have hq5 := (blk_cell BV5.out 5).trans rfl; have fq5 := blk_frozen BV5.out 5)
          | (go_at_call 86; (with_reducible refine (vertex_Third.calls r _ _ (vertex_Third_of r)).mono ?_); rintro e w6 ⟨rfl, ⟨nt, rfl⟩⟩; rw [HT.out])
          | (go_at_call 87; (with_reducible refine (vertex_parents.calls N _ _ ps r n _ _ (Kd.C_below HR3.out (by repeat (first | exact HB5.out | apply pw_below_drewN))) HC3.out HP.out).mono ?_); rintro e w7 ⟨rfl, ⟨np, rfl⟩⟩))
        go_ret
        exact ⟨by rw [HE.out]; rfl, by repeat (first | exact HB5.out | apply pw_below_drewN)⟩
      · have h7b : (y == 0) = false := beq_eq_false_iff_ne.mpr h7
        have h7e : decide (y = 0) = false := decide_eq_false h7
        have HE : Aside0 (mayV a r bs ps x y n = false) := ⟨by simp only [mayV, ht, h7e]; simp⟩
        clear hm ha hg ht h1e h2e h3e h4e h5e h6 h6e h7 h7e
        go_enter Try.func56, Try.ntmps56
        go_wp2_with (first
          | ((with_reducible refine gate_dst (N := 2) rfl ?_); refine box_event ?hg (N := 2) ?hd (cs := #[.int .i64 a, .int .i64 r, .slice A2 bs.length c2, .slice A3 ps.length c3, .int .i64 x, .int .i64 y]) (t := 28) ?hr ?_; (case hd => rfl); (case hg => rfl); (case hr => first | (go_simp; done) | (go_simp; rfl)); intro gv hg w2 hbox hb; have BV := Aside0.mk hbox; have HB2 := Aside0.mk hb; clear hb hbox hg; have hv0 := (blk_cell BV.out 0).trans rfl; have fv0 := blk_frozen BV.out 0; have hv1 := (blk_cell BV.out 1).trans rfl; have fv1 := blk_frozen BV.out 1; have hv2 := (blk_cell BV.out 2).trans rfl; have fv2 := blk_frozen BV.out 2; have hv3 := (blk_cell BV.out 3).trans rfl; have fv3 := blk_frozen BV.out 3; have hv4 := (blk_cell BV.out 4).trans rfl; have fv4 := blk_frozen BV.out 4; have hv5 := (blk_cell BV.out 5).trans rfl; have fv5 := blk_frozen BV.out 5)
          | ((with_reducible refine gate_dst (N := 3) rfl ?_); refine box_event ?hg (N := 3) ?hd (cs := #[.int .i64 n]) (t := 3) ?hr ?_; (case hd => rfl); (case hg => rfl); (case hr => first | (go_simp; done) | (go_simp; rfl)); intro gn hg w3 hbox hb; have BN := Aside0.mk hbox; have BV3 := Aside0.mk (blk_below BV.out hb); have HB3 := Aside0.mk (below_step HB2.out hb); clear hb hbox hg; have hn0 := (blk_cell BN.out 0).trans rfl; have fn0 := blk_frozen BN.out 0; have hu0 := (blk_cell BV3.out 0).trans rfl; have fu0 := blk_frozen BV3.out 0; have hu1 := (blk_cell BV3.out 1).trans rfl; have fu1 := blk_frozen BV3.out 1; have hu2 := (blk_cell BV3.out 2).trans rfl; have fu2 := blk_frozen BV3.out 2; have hu3 := (blk_cell BV3.out 3).trans rfl; have fu3 := blk_frozen BV3.out 3; have hu4 := (blk_cell BV3.out 4).trans rfl; have fu4 := blk_frozen BV3.out 4; have hu5 := (blk_cell BV3.out 5).trans rfl; have fu5 := blk_frozen BV3.out 5)
          | (go_at_call 83; (with_reducible refine (seats_May.calls n _ _ (seats_May_of n)).mono ?_); rintro e w1 ⟨rfl, ⟨nd, rfl⟩⟩; rw [HM.out])
          | (go_at_call 84; (with_reducible refine (vertex_May.contains n gn _ _ bs _ (Kd.C_below HR2.out (pw_below_drewN HB3.out _)) HC2.out (blk_drewN BN.out _)).mono ?_); rintro e w4 ⟨rfl, hb⟩; rw [HA.out]; have BV4 := Aside0.mk (blk_below (blk_drewN BV3.out _) hb); have BN4 := Aside0.mk (blk_below (blk_drewN BN.out _) hb); have HB4 := Aside0.mk (below_step (pw_below_drewN HB3.out _) hb); clear hb; have hm0 := (blk_cell BN4.out 0).trans rfl; have fm0 := blk_frozen BN4.out 0; have hs0 := (blk_cell BV4.out 0).trans rfl; have fs0 := blk_frozen BV4.out 0; have hs1 := (blk_cell BV4.out 1).trans rfl; have fs1 := blk_frozen BV4.out 1; have hs2 := (blk_cell BV4.out 2).trans rfl; have fs2 := blk_frozen BV4.out 2; have hs3 := (blk_cell BV4.out 3).trans rfl; have fs3 := blk_frozen BV4.out 3; have hs4 := (blk_cell BV4.out 4).trans rfl; have fs4 := blk_frozen BV4.out 4; have hs5 := (blk_cell BV4.out 5).trans rfl; have fs5 := blk_frozen BV4.out 5)
          | (go_at_call 85; (with_reducible refine (gauss_May.calls x y _ _ (gauss_May_of x y)).mono ?_); rintro e w5 ⟨rfl, hb⟩; rw [HG.out]; have BV5 := Aside0.mk (blk_below BV4.out hb); have BN5 := Aside0.mk (blk_below BN4.out hb); have HB5 := Aside0.mk (below_step HB4.out hb); clear hb; have hk0 := (blk_cell BN5.out 0).trans rfl; have fk0 := blk_frozen BN5.out 0; have hq0 := (blk_cell BV5.out 0).trans rfl; have fq0 := blk_frozen BV5.out 0; have hq1 := (blk_cell BV5.out 1).trans rfl; have fq1 := blk_frozen BV5.out 1; have hq2 := (blk_cell BV5.out 2).trans rfl; have fq2 := blk_frozen BV5.out 2; have hq3 := (blk_cell BV5.out 3).trans rfl; have fq3 := blk_frozen BV5.out 3; have hq4 := (blk_cell BV5.out 4).trans rfl; have fq4 := blk_frozen BV5.out 4; have hq5 := (blk_cell BV5.out 5).trans rfl; have fq5 := blk_frozen BV5.out 5)
          | (go_at_call 86; (with_reducible refine (vertex_Third.calls r _ _ (vertex_Third_of r)).mono ?_); rintro e w6 ⟨rfl, ⟨nt, rfl⟩⟩; rw [HT.out]))
        go_ret
        exact ⟨by rw [HE.out]; rfl, by repeat (first | exact HB5.out | apply pw_below_drewN)⟩
    · have h6b : (x == 0) = false := beq_eq_false_iff_ne.mpr h6
      have h6e : decide (x = 0) = false := decide_eq_false h6
      have HE : Aside0 (mayV a r bs ps x y n = false) := ⟨by simp only [mayV, ht, h6e]; simp⟩
      clear hm ha hg ht h1e h2e h3e h4e h5e h6 h6e
      go_enter Try.func56, Try.ntmps56
      go_wp2_with (first
        | ((with_reducible refine gate_dst (N := 2) rfl ?_); refine box_event ?hg (N := 2) ?hd (cs := #[.int .i64 a, .int .i64 r, .slice A2 bs.length c2, .slice A3 ps.length c3, .int .i64 x, .int .i64 y]) (t := 28) ?hr ?_; (case hd => rfl); (case hg => rfl); (case hr => first | (go_simp; done) | (go_simp; rfl)); intro gv hg w2 hbox hb; have BV := Aside0.mk hbox; have HB2 := Aside0.mk hb; clear hb hbox hg; have hv0 := (blk_cell BV.out 0).trans rfl; have fv0 := blk_frozen BV.out 0; have hv1 := (blk_cell BV.out 1).trans rfl; have fv1 := blk_frozen BV.out 1; have hv2 := (blk_cell BV.out 2).trans rfl; have fv2 := blk_frozen BV.out 2; have hv3 := (blk_cell BV.out 3).trans rfl; have fv3 := blk_frozen BV.out 3; have hv4 := (blk_cell BV.out 4).trans rfl; have fv4 := blk_frozen BV.out 4; have hv5 := (blk_cell BV.out 5).trans rfl; have fv5 := blk_frozen BV.out 5)
        | ((with_reducible refine gate_dst (N := 3) rfl ?_); refine box_event ?hg (N := 3) ?hd (cs := #[.int .i64 n]) (t := 3) ?hr ?_; (case hd => rfl); (case hg => rfl); (case hr => first | (go_simp; done) | (go_simp; rfl)); intro gn hg w3 hbox hb; have BN := Aside0.mk hbox; have BV3 := Aside0.mk (blk_below BV.out hb); have HB3 := Aside0.mk (below_step HB2.out hb); clear hb hbox hg; have hn0 := (blk_cell BN.out 0).trans rfl; have fn0 := blk_frozen BN.out 0; have hu0 := (blk_cell BV3.out 0).trans rfl; have fu0 := blk_frozen BV3.out 0; have hu1 := (blk_cell BV3.out 1).trans rfl; have fu1 := blk_frozen BV3.out 1; have hu2 := (blk_cell BV3.out 2).trans rfl; have fu2 := blk_frozen BV3.out 2; have hu3 := (blk_cell BV3.out 3).trans rfl; have fu3 := blk_frozen BV3.out 3; have hu4 := (blk_cell BV3.out 4).trans rfl; have fu4 := blk_frozen BV3.out 4; have hu5 := (blk_cell BV3.out 5).trans rfl; have fu5 := blk_frozen BV3.out 5)
        | (go_at_call 83; (with_reducible refine (seats_May.calls n _ _ (seats_May_of n)).mono ?_); rintro e w1 ⟨rfl, ⟨nd, rfl⟩⟩; rw [HM.out])
        | (go_at_call 84; (with_reducible refine (vertex_May.contains n gn _ _ bs _ (Kd.C_below HR2.out (pw_below_drewN HB3.out _)) HC2.out (blk_drewN BN.out _)).mono ?_); rintro e w4 ⟨rfl, hb⟩; rw [HA.out]; have BV4 := Aside0.mk (blk_below (blk_drewN BV3.out _) hb); have BN4 := Aside0.mk (blk_below (blk_drewN BN.out _) hb); have HB4 := Aside0.mk (below_step (pw_below_drewN HB3.out _) hb); clear hb; have hm0 := (blk_cell BN4.out 0).trans rfl; have fm0 := blk_frozen BN4.out 0; have hs0 := (blk_cell BV4.out 0).trans rfl; have fs0 := blk_frozen BV4.out 0; have hs1 := (blk_cell BV4.out 1).trans rfl; have fs1 := blk_frozen BV4.out 1; have hs2 := (blk_cell BV4.out 2).trans rfl; have fs2 := blk_frozen BV4.out 2; have hs3 := (blk_cell BV4.out 3).trans rfl; have fs3 := blk_frozen BV4.out 3; have hs4 := (blk_cell BV4.out 4).trans rfl; have fs4 := blk_frozen BV4.out 4; have hs5 := (blk_cell BV4.out 5).trans rfl; have fs5 := blk_frozen BV4.out 5)
        | (go_at_call 85; (with_reducible refine (gauss_May.calls x y _ _ (gauss_May_of x y)).mono ?_); rintro e w5 ⟨rfl, hb⟩; rw [HG.out]; have BV5 := Aside0.mk (blk_below BV4.out hb); have BN5 := Aside0.mk (blk_below BN4.out hb); have HB5 := Aside0.mk (below_step HB4.out hb); clear hb; have hk0 := (blk_cell BN5.out 0).trans rfl; have fk0 := blk_frozen BN5.out 0; have hq0 := (blk_cell BV5.out 0).trans rfl; have fq0 := blk_frozen BV5.out 0; have hq1 := (blk_cell BV5.out 1).trans rfl; have fq1 := blk_frozen BV5.out 1; have hq2 := (blk_cell BV5.out 2).trans rfl; have fq2 := blk_frozen BV5.out 2; have hq3 := (blk_cell BV5.out 3).trans rfl; have fq3 := blk_frozen BV5.out 3; have hq4 := (blk_cell BV5.out 4).trans rfl; have fq4 := blk_frozen BV5.out 4; have hq5 := (blk_cell BV5.out 5).trans rfl; have fq5 := blk_frozen BV5.out 5)
        | (go_at_call 86; (with_reducible refine (vertex_Third.calls r _ _ (vertex_Third_of r)).mono ?_); rintro e w6 ⟨rfl, ⟨nt, rfl⟩⟩; rw [HT.out]))
      go_ret
      exact ⟨by rw [HE.out]; rfl, by repeat (first | exact HB5.out | apply pw_below_drewN)⟩
  · have HT := Aside0.mk ht
    have HE : Aside0 (mayV a r bs ps x y n = parentsB ps r n) := ⟨by simp only [mayV, hm, h1e, h2e, h3e, h4e, h5e, ha, hg, ht]; simp⟩
    clear hm ha hg ht h1e h2e h3e h4e h5e
    go_enter Try.func56, Try.ntmps56
    go_wp2_with (first
      | ((with_reducible refine gate_dst (N := 2) rfl ?_); refine box_event ?hg (N := 2) ?hd (cs := #[.int .i64 a, .int .i64 r, .slice A2 bs.length c2, .slice A3 ps.length c3, .int .i64 x, .int .i64 y]) (t := 28) ?hr ?_; (case hd => rfl); (case hg => rfl); (case hr => first | (go_simp; done) | (go_simp; rfl)); intro gv hg w2 hbox hb; have BV := Aside0.mk hbox; have HB2 := Aside0.mk hb; clear hb hbox hg; have hv0 := (blk_cell BV.out 0).trans rfl; have fv0 := blk_frozen BV.out 0; have hv1 := (blk_cell BV.out 1).trans rfl; have fv1 := blk_frozen BV.out 1; have hv2 := (blk_cell BV.out 2).trans rfl; have fv2 := blk_frozen BV.out 2; have hv3 := (blk_cell BV.out 3).trans rfl; have fv3 := blk_frozen BV.out 3; have hv4 := (blk_cell BV.out 4).trans rfl; have fv4 := blk_frozen BV.out 4; have hv5 := (blk_cell BV.out 5).trans rfl; have fv5 := blk_frozen BV.out 5)
      | ((with_reducible refine gate_dst (N := 3) rfl ?_); refine box_event ?hg (N := 3) ?hd (cs := #[.int .i64 n]) (t := 3) ?hr ?_; (case hd => rfl); (case hg => rfl); (case hr => first | (go_simp; done) | (go_simp; rfl)); intro gn hg w3 hbox hb; have BN := Aside0.mk hbox; have BV3 := Aside0.mk (blk_below BV.out hb); have HB3 := Aside0.mk (below_step HB2.out hb); clear hb hbox hg; have hn0 := (blk_cell BN.out 0).trans rfl; have fn0 := blk_frozen BN.out 0; have hu0 := (blk_cell BV3.out 0).trans rfl; have fu0 := blk_frozen BV3.out 0; have hu1 := (blk_cell BV3.out 1).trans rfl; have fu1 := blk_frozen BV3.out 1; have hu2 := (blk_cell BV3.out 2).trans rfl; have fu2 := blk_frozen BV3.out 2; have hu3 := (blk_cell BV3.out 3).trans rfl; have fu3 := blk_frozen BV3.out 3; have hu4 := (blk_cell BV3.out 4).trans rfl; have fu4 := blk_frozen BV3.out 4; have hu5 := (blk_cell BV3.out 5).trans rfl; have fu5 := blk_frozen BV3.out 5)
      | (go_at_call 83; (with_reducible refine (seats_May.calls n _ _ (seats_May_of n)).mono ?_); rintro e w1 ⟨rfl, ⟨nd, rfl⟩⟩; rw [HM.out])
      | (go_at_call 84; (with_reducible refine (vertex_May.contains n gn _ _ bs _ (Kd.C_below HR2.out (pw_below_drewN HB3.out _)) HC2.out (blk_drewN BN.out _)).mono ?_); rintro e w4 ⟨rfl, hb⟩; rw [HA.out]; have BV4 := Aside0.mk (blk_below (blk_drewN BV3.out _) hb); have BN4 := Aside0.mk (blk_below (blk_drewN BN.out _) hb); have HB4 := Aside0.mk (below_step (pw_below_drewN HB3.out _) hb); clear hb; have hm0 := (blk_cell BN4.out 0).trans rfl; have fm0 := blk_frozen BN4.out 0; have hs0 := (blk_cell BV4.out 0).trans rfl; have fs0 := blk_frozen BV4.out 0; have hs1 := (blk_cell BV4.out 1).trans rfl; have fs1 := blk_frozen BV4.out 1; have hs2 := (blk_cell BV4.out 2).trans rfl; have fs2 := blk_frozen BV4.out 2; have hs3 := (blk_cell BV4.out 3).trans rfl; have fs3 := blk_frozen BV4.out 3; have hs4 := (blk_cell BV4.out 4).trans rfl; have fs4 := blk_frozen BV4.out 4; have hs5 := (blk_cell BV4.out 5).trans rfl; have fs5 := blk_frozen BV4.out 5)
      | (go_at_call 85; (with_reducible refine (gauss_May.calls x y _ _ (gauss_May_of x y)).mono ?_); rintro e w5 ⟨rfl, hb⟩; rw [HG.out]; have BV5 := Aside0.mk (blk_below BV4.out hb); have BN5 := Aside0.mk (blk_below BN4.out hb); have HB5 := Aside0.mk (below_step HB4.out hb); clear hb; have hk0 := (blk_cell BN5.out 0).trans rfl; have fk0 := blk_frozen BN5.out 0; have hq0 := (blk_cell BV5.out 0).trans rfl; have fq0 := blk_frozen BV5.out 0; have hq1 := (blk_cell BV5.out 1).trans rfl; have fq1 := blk_frozen BV5.out 1; have hq2 := (blk_cell BV5.out 2).trans rfl; have fq2 := blk_frozen BV5.out 2; have hq3 := (blk_cell BV5.out 3).trans rfl; have fq3 := blk_frozen BV5.out 3; have hq4 := (blk_cell BV5.out 4).trans rfl; have fq4 := blk_frozen BV5.out 4; have hq5 := (blk_cell BV5.out 5).trans rfl; have fq5 := blk_frozen BV5.out 5)
      | (go_at_call 86; (with_reducible refine (vertex_Third.calls r _ _ (vertex_Third_of r)).mono ?_); rintro e w6 ⟨rfl, ⟨nt, rfl⟩⟩; rw [HT.out])
      | (go_at_call 87; (with_reducible refine (vertex_parents.calls N _ _ ps r n _ _ (Kd.C_below HR3.out (by repeat (first | exact HB5.out | apply pw_below_drewN))) HC3.out HP.out).mono ?_); rintro e w7 ⟨rfl, ⟨np, rfl⟩⟩))
    go_ret
    exact ⟨by rw [HE.out]; rfl, by repeat (first | exact HB5.out | apply pw_below_drewN)⟩
theorem vertex_May.calls (a0_0 : Int) (a0_1 : Int) (A0_2 : Option Addr) (c0_2 : Nat) (l0_2 : List S101) (A0_3 : Option Addr) (c0_3 : Nat) (l0_3 : List ByteArray) (a0_4 : Int) (a0_5 : Int) (a1 : Int) (r : Bool) (w : World) (hr0_2 : Kd.C k101 w A0_2 l0_2.length l0_2) (hc0_2 : l0_2.length ≤ c0_2) (hr0_3 : Kd.C Kd.string w A0_3 l0_3.length l0_3) (hc0_3 : l0_3.length ≤ c0_3) (h : vertex_May.f a0_0 a0_1 l0_2 l0_3 a0_4 a0_5 a1 = some r) :
    Calls Try.prog 56 #[.agg #[.int .i64 a0_0, .int .i64 a0_1, .slice A0_2 l0_2.length c0_2, .slice A0_3 l0_3.length c0_3, .int .i64 a0_4, .int .i64 a0_5], .int .i64 a1] w fun e w' => e = .returned (.bool r) ∧ Below w.heap.size w w' := by
  obtain rfl := Option.some.inj h
  exact vertex_May.walk a0_0 a0_1 A0_2 c0_2 l0_2 A0_3 c0_3 l0_3 a0_4 a0_5 a1 w hr0_2 hc0_2 hr0_3 hc0_3
end Go.Proofs.Ytenbifjbeeobjaa.Px
