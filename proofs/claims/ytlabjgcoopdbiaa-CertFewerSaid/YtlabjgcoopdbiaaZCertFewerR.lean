/- Part 18 of 28 of the proof of the law CertFewer: what is proved is the statement at the end of the last part; its conditions are those of the given row. -/
import Derived.Test.YtlabjgcoopdbiaaZCertFewerO
namespace Go.Proofs.Ytlabjgcoopdbiaa.Px
open Go.RowKit Go.Proofs.YtlabjgcoopdbiaaW.PrintWords Go.Proofs.YtlabjgcoopdbiaaW.PrintLast Go.Proofs.YtlabjgcoopdbiaaW.PrintMore
attribute [local go_sem] zB zD zL zM zx zy zC zE
set_option linter.unusedVariables false
set_option linter.unusedSimpArgs false
theorem zie : (Try.prog.info? 5).map (fun i => (i.zero, i.size, i.bytes)) = some (some (.int .u8 0), 1, 1) := by kernel_rfl
def zK.Rel (l : List ByteArray) (k : Nat) (w0 wr : World) (v : Value) : Prop := zaA wr w0.heap.size 5 v (zcm l.length ++ za6 (l.take k)) ∧ Below w0.heap.size w0 wr
set_option maxRecDepth 100000 in
theorem zK.walk (A : Option Addr) (c : Nat) (l : List ByteArray) (w : World) (hr : Kd.C Kd.string w A l.length l) (hc : l.length ≤ c) (hs : (zbx l).length ≤ 140737488355328) :
    Calls Try.prog 48 #[.slice A l.length c] w fun e w' => e = .returned (.string (toB (zbx l))) ∧ Below w.heap.size w w' := by
  have hm := hr.2.1
  have hll := zf7 l
  have hsum : (zbx l).length = (zcm l.length).length + (za6 l).length := by rw [zbx, List.length_append]
  have hlen : l.length ≤ 140737488355328 := by omega
  obtain ⟨k0, hk0⟩ := (zdS l.length (by omega)).rounds
  have HN := zc.mk hk0
  have HR := zc.mk hr
  have HS := zc.mk hs
  have HU := zc.mk hsum
  have kb := fun (W : World) (s : ByteArray) => Lib.run_convert_string_bytes (P := Try.prog) W 9 84 5 s Try.underlying9 Try.underlying84 Try.underlying5
  clear hr hs hll hsum hk0
  go_enter Try.func48, Try.ntmps48
  go_wp2_with (go_at_call 47; (with_reducible refine (zr.calls _ _ _ _ HN.out).mono ?_); rintro e w1 ⟨rfl, hb1⟩)
  have hw1 : Below w.heap.size w w1 := by assumption
  have HL : zc (zK.Rel l 0 w (Lib.bytesWorld w1 5 (za1 l.length)) (.slice (some ⟨w1.heap.size, 0, none⟩) (za1 l.length).size (grownCap w1 (za1 l.length).size 0 5))) := ⟨by
    have h := zaA.start w1 w.heap.size 5 (za1 l.length) hw1.size (by have := zaL (v := l.length) (by omega); unfold maxLen; omega)
    rw [List.take_zero, show za6 [] = [] from rfl, List.append_nil]
    rw [za1, zci] at h
    exact h, zdY hw1 hw1.size 5 _⟩
  generalize Lib.bytesWorld w1 5 (za1 l.length) = wb at *
  generalize Value.slice (some ⟨w1.heap.size, 0, none⟩) (za1 l.length).size (grownCap w1 (za1 l.length).size 0 5) = vb at *
  clear hw1
  go_loopw [3, 4] (fun v3 v4 wr => ∃ k : Nat, v4 = .int .i64 k ∧ k ≤ l.length ∧ zc (zK.Rel l k w wr v3)) (fun _ v4 _ => l.length - (match v4 with | .int _ q => q | _ => 0).toNat)
  case atStart => exact ⟨0, rfl, Nat.zero_le _, HL⟩
  case round =>
    obtain ⟨k, rfl, hk, HK⟩ := hrel
    by_cases hlt : k < l.length
    · obtain ⟨ad, rfl, hcell⟩ := Kd.at_string (Kd.C_below HR.out HK.out.2) (k : Int) (by omega) (by omega)
      rw [Int.toNat_natCast] at hcell
      have hb : decide (k < l.length) = true := decide_eq_true hlt
      have hx : l[k]? = some (zA ByteArray.empty l (k : Int)) := by
        rw [zA, Int.toNat_natCast, List.getD_eq_getElem?_getD, List.getElem?_eq_getElem hlt]; rfl
      have HX := zc.mk hx
      clear hx
      generalize zA ByteArray.empty l (k : Int) = s at *
      have hs := zdE l k s HX.out
      have HT := zc.mk (zcP s (by have := HS.out; have := HU.out; omega))
      have h2 := zdu l k s HX.out
      have h3 := zco l (k + 1)
      rw [h2, List.length_append, zal] at h3
      have H2 := zc.mk h2
      have H3 : zc ((zcm l.length ++ za6 (l.take k)).length + (zdl s).size ≤ 140737488355328) := ⟨by rw [List.length_append]; have := HS.out; have := HU.out; omega⟩
      clear h2 h3 hs
      go_wp2_with (first | (go_at_call 81; (with_reducible refine (zaP.calls _ _ _ HT.out).mono ?_); rintro e w3 ⟨rfl, hb3⟩; have HO := zc.mk (zaA.below HK.out.1 hb3); have HB := zc.mk (zk HK.out.2 hb3); clear hb3) | (at_builtin; refine zdK rfl _ _ 84 9 rfl w.heap.size 5 Try.underlying84 Try.underlying9 zie _ _ rfl HO.out _ rfl HB.out H3.out HB.out.size ?_; intro v5 w5 ho5 hb5; have HL5 : zc (zK.Rel l (k + 1) w w5 v5) := ⟨by rw [H2.out, ← List.append_assoc]; exact ho5, hb5⟩; clear ho5 hb5))
      go_roundw
      case rel => exact ⟨k + 1, by go_num, by omega, HL5⟩
      case measure => simp; omega
    · obtain rfl : k = l.length := by omega
      have hs2 := HK.out.1.string Try.underlying84 Try.underlying5 9 Try.underlying9
      rw [List.take_of_length_le (Nat.le_refl _)] at hs2
      go_wp2
      go_ret
      exact ⟨rfl, HK.out.2⟩
def zK.f (l0 : List ByteArray) : Option (ByteArray) := if (zbx l0).length ≤ 140737488355328 then (some (toB (zbx l0))) else (none)
theorem zK.calls (A0 : Option Addr) (c0 : Nat) (l0 : List ByteArray) (r : ByteArray) (w : World) (hr0 : Kd.C Kd.string w A0 l0.length l0) (hc0 : l0.length ≤ c0) (h : zK.f l0 = some r) :
    Calls Try.prog 48 #[.slice A0 l0.length c0] w fun e w' => e = .returned (.string r) ∧ Below w.heap.size w w' := by
  unfold zK.f at h
  split at h
  · rename_i hs
    obtain rfl := Option.some.inj h
    exact zK.walk A0 c0 l0 w hr0 hc0 hs
  · cases h
end Go.Proofs.Ytlabjgcoopdbiaa.Px

namespace Go.Proofs.Ytlabjgcoopdbiaa.Px
open Go.RowKit Go.Proofs.YtlabjgcoopdbiaaW.PrintWords Go.Proofs.YtlabjgcoopdbiaaW.PrintLast Go.Proofs.YtlabjgcoopdbiaaW.PrintMore
attribute [local go_sem] zB zD zL zM zx zy zC zE
set_option linter.unusedVariables false
set_option linter.unusedSimpArgs false
mutual
def zs.j0 : Nat → Bool → Int → Int → List ByteArray → Option (Bool)
  | 0, _, _, _, _ => none
  | k + 1, x33, x155000, x155001, x155002 => if x33 = true then (some false) else (zs.l0 k 0 x155000 x155001 x155002)
def zs.l0 : Nat → Int → Int → Int → List ByteArray → Option (Bool)
  | 0, _, _, _, _ => none
  | k + 1, x3, x155000, x155001, x155002 => if x3 < (x155002.length : Int) then (if 0 ≤ x3 then (if ((zA ByteArray.empty x155002 x3).size : Int) < 1 then (some false) else (if ((zA ByteArray.empty x155002 x3).size : Int) > 48 then (some false) else (zs.l0 k (wrap64 (x3 + 1)) x155000 x155001 x155002))) else (none)) else (some true)
end
def zs.f (k : Nat) (a0_0 : Int) (a0_1 : Int) (l0_2 : List ByteArray) : Option (Bool) := if a0_0 < 1 then (zs.j0 k true a0_0 a0_1 l0_2) else (if a0_0 > 64 then (zs.j0 k true a0_0 a0_1 l0_2) else (if a0_1 < 1 then (zs.j0 k true a0_0 a0_1 l0_2) else (if a0_1 > 1073741824 then (zs.j0 k true a0_0 a0_1 l0_2) else (if (l0_2.length : Int) < 1 then (zs.j0 k true a0_0 a0_1 l0_2) else (zs.j0 k (decide ((l0_2.length : Int) > 4)) a0_0 a0_1 l0_2)))))
set_option maxHeartbeats 8000000 in
set_option maxRecDepth 100000 in
theorem zs.calls (k : Nat) (a0_0 : Int) (a0_1 : Int) (A0_2 : Option Addr) (c0_2 : Nat) (l0_2 : List ByteArray) (r : Bool) (w : World) (hr0_2 : Kd.C Kd.string w A0_2 l0_2.length l0_2) (hc0_2 : l0_2.length ≤ c0_2) (h : zs.f k a0_0 a0_1 l0_2 = some r) :
    Calls Try.prog 78 #[.agg #[.int .i64 a0_0, .int .i64 a0_1, .slice A0_2 l0_2.length c0_2]] w fun e w' => e = .returned (.bool r) ∧ Below w.heap.size w w' := by
  have hu68 := Try.underlying68
  have HR0_2 := zc.mk hr0_2
  have HC0_2 := zc.mk hc0_2
  clear hr0_2 hc0_2
  have HB := zc.mk (Below.refl w.heap.size w)
  have H : (if a0_0 < 1 then (zs.j0 k true a0_0 a0_1 l0_2) else (if a0_0 > 64 then (zs.j0 k true a0_0 a0_1 l0_2) else (if a0_1 < 1 then (zs.j0 k true a0_0 a0_1 l0_2) else (if a0_1 > 1073741824 then (zs.j0 k true a0_0 a0_1 l0_2) else (if (l0_2.length : Int) < 1 then (zs.j0 k true a0_0 a0_1 l0_2) else (zs.j0 k (decide ((l0_2.length : Int) > 4)) a0_0 a0_1 l0_2)))))) = some r := h
  clear h
  have HC2 := zc.mk H
  clear H
  go_enter Try.func78, Try.ntmps78
  go_upto_region 1 with (first | ((with_reducible refine zv (N := 1) rfl ?_); (try (refine zcE (by rfl) ?_; dsimp only)); refine zu ?hg (N := 1) ?hd (cs := #[.int .i64 a0_0, .int .i64 a0_1, .slice A0_2 l0_2.length c0_2]) (t := 68) ?hr ?_; (case hd => rfl); (case hg => rfl); (case hr => first | (go_simp; done) | (go_simp; rfl)); intro gb154 hg w3 hbox hb; have n0_ := zc.mk (zk (by repeat (first | (with_reducible first | exact HB.out | apply zf | apply zd | apply ze) | exact HB.out)) hb); have n1_ := zc.mk (hbox); have n2_ := zc.mk ((by rw [hg]; exact (zn (by repeat (first | (with_reducible first | exact HB.out | apply zf | apply zd | apply ze) | exact HB.out))) : w.heap.size ≤ gb154)); have n3_ := zc.mk ((by rw [hg]; exact (zn (by repeat (first | (with_reducible first | exact HB.out | apply zf | apply zd | apply ze) | exact HB.out))) : w.heap.size ≤ gb154)); clear HB; have HB := n0_; have BK154 := n1_; have GW154 := n2_; have GE154 := n3_; clear n0_ n1_ n2_ n3_; clear hb hbox hg))
  (try simp only [Act.put, List.setIfInBounds_toArray, List.set_cons_zero, List.set_cons_succ])
  go_cut [33] (fun v33 wc => ∃ (kq : Nat) (x33_1 : Bool), v33 = .bool x33_1 ∧ zc (zs.j0 kq x33_1 a0_0 a0_1 l0_2 = some r) ∧ zc (kq ≤ k) ∧ zc (wc.heap[gb154]? = some (.cells #[.int .i64 a0_0, .int .i64 a0_1, (.slice A0_2 l0_2.length c0_2)] 68 (0, 0))) ∧ zc (Below w.heap.size w wc))
  case first =>
    have H := HC2.out
    clear HC2
    by_cases c4 : a0_0 < 1
    · rw [if_pos c4] at H
      have c4b0 : decide (a0_0 < 1) = true := decide_eq_true c4
      clear c4
      (first | rw [c4b0] | (simp only [zR, zT]; rw [c4b0]) | skip)
      have H' := zc.mk H
      clear H
      have hcz5_0 : w3.cell? ⟨gb154, 0, none⟩ = some (.int .i64 a0_0) := (zb BK154.out 0).trans rfl
      have hcz5_1 : w3.cell? ⟨gb154, 1, none⟩ = some (.int .i64 a0_1) := (zb BK154.out 1).trans rfl
      have hcz5_2 : w3.cell? ⟨gb154, 2, none⟩ = some (.slice A0_2 l0_2.length c0_2) := (zb BK154.out 2).trans rfl
      have hfz5_0 := za BK154.out 0
      have hfz5_1 := za BK154.out 1
      have hfz5_2 := za BK154.out 2
      go_wp2
      go_meet
      case rel => exact ⟨_, (true), (by first | rfl | (simp; done) | (simp [*]; done)), H', ⟨by first | omega | exact Nat.le_refl _⟩, ⟨by (with_reducible repeat (first | refine zg ?_ _ | refine zi ?_ | refine zh ?_ _)); exact BK154.out⟩, ⟨by repeat (first | (with_reducible first | exact HB.out | apply zf | apply zd | apply ze | refine zj ?_ GE154.out) | exact HB.out)⟩⟩
    · rw [if_neg c4] at H
      have c4b0 : decide (a0_0 < 1) = false := decide_eq_false c4
      clear c4
      (first | rw [c4b0] | (simp only [zR, zT]; rw [c4b0]) | skip)
      by_cases c6 : a0_0 > 64
      · rw [if_pos c6] at H
        have c6b0 : decide (64 < a0_0) = true := decide_eq_true c6
        clear c6
        have H' := zc.mk H
        clear H
        have hcz7_0 : w3.cell? ⟨gb154, 0, none⟩ = some (.int .i64 a0_0) := (zb BK154.out 0).trans rfl
        have hcz7_1 : w3.cell? ⟨gb154, 1, none⟩ = some (.int .i64 a0_1) := (zb BK154.out 1).trans rfl
        have hcz7_2 : w3.cell? ⟨gb154, 2, none⟩ = some (.slice A0_2 l0_2.length c0_2) := (zb BK154.out 2).trans rfl
        have hfz7_0 := za BK154.out 0
        have hfz7_1 := za BK154.out 1
        have hfz7_2 := za BK154.out 2
        go_wp2
        go_meet
        case rel => exact ⟨_, (true), (by first | rfl | (simp; done) | (simp [*]; done)), H', ⟨by first | omega | exact Nat.le_refl _⟩, ⟨by (with_reducible repeat (first | refine zg ?_ _ | refine zi ?_ | refine zh ?_ _)); exact BK154.out⟩, ⟨by repeat (first | (with_reducible first | exact HB.out | apply zf | apply zd | apply ze | refine zj ?_ GE154.out) | exact HB.out)⟩⟩
      · rw [if_neg c6] at H
        have c6b0 : decide (64 < a0_0) = false := decide_eq_false c6
        clear c6
        by_cases c8 : a0_1 < 1
        · rw [if_pos c8] at H
          have c8b0 : decide (a0_1 < 1) = true := decide_eq_true c8
          clear c8
          have H' := zc.mk H
          clear H
          have hcz9_0 : w3.cell? ⟨gb154, 0, none⟩ = some (.int .i64 a0_0) := (zb BK154.out 0).trans rfl
          have hcz9_1 : w3.cell? ⟨gb154, 1, none⟩ = some (.int .i64 a0_1) := (zb BK154.out 1).trans rfl
          have hcz9_2 : w3.cell? ⟨gb154, 2, none⟩ = some (.slice A0_2 l0_2.length c0_2) := (zb BK154.out 2).trans rfl
          have hfz9_0 := za BK154.out 0
          have hfz9_1 := za BK154.out 1
          have hfz9_2 := za BK154.out 2
          go_wp2
          go_meet
          case rel => exact ⟨_, (true), (by first | rfl | (simp; done) | (simp [*]; done)), H', ⟨by first | omega | exact Nat.le_refl _⟩, ⟨by (with_reducible repeat (first | refine zg ?_ _ | refine zi ?_ | refine zh ?_ _)); exact BK154.out⟩, ⟨by repeat (first | (with_reducible first | exact HB.out | apply zf | apply zd | apply ze | refine zj ?_ GE154.out) | exact HB.out)⟩⟩
        · rw [if_neg c8] at H
          have c8b0 : decide (a0_1 < 1) = false := decide_eq_false c8
          clear c8
          by_cases c10 : a0_1 > 1073741824
          · rw [if_pos c10] at H
            have c10b0 : decide (1073741824 < a0_1) = true := decide_eq_true c10
            clear c10
            have H' := zc.mk H
            clear H
            have hcz11_0 : w3.cell? ⟨gb154, 0, none⟩ = some (.int .i64 a0_0) := (zb BK154.out 0).trans rfl
            have hcz11_1 : w3.cell? ⟨gb154, 1, none⟩ = some (.int .i64 a0_1) := (zb BK154.out 1).trans rfl
            have hcz11_2 : w3.cell? ⟨gb154, 2, none⟩ = some (.slice A0_2 l0_2.length c0_2) := (zb BK154.out 2).trans rfl
            have hfz11_0 := za BK154.out 0
            have hfz11_1 := za BK154.out 1
            have hfz11_2 := za BK154.out 2
            go_wp2
            go_meet
            case rel => exact ⟨_, (true), (by first | rfl | (simp; done) | (simp [*]; done)), H', ⟨by first | omega | exact Nat.le_refl _⟩, ⟨by (with_reducible repeat (first | refine zg ?_ _ | refine zi ?_ | refine zh ?_ _)); exact BK154.out⟩, ⟨by repeat (first | (with_reducible first | exact HB.out | apply zf | apply zd | apply ze | refine zj ?_ GE154.out) | exact HB.out)⟩⟩
          · rw [if_neg c10] at H
            have c10b0 : decide (1073741824 < a0_1) = false := decide_eq_false c10
            clear c10
            by_cases c12 : (l0_2.length : Int) < 1
            · rw [if_pos c12] at H
              have c12b0 : decide ((l0_2.length : Int) < 1) = true := decide_eq_true c12
              have c12b1 : decide (l0_2.length < 1) = true := decide_eq_true (by omega)
              clear c12
              have H' := zc.mk H
              clear H
              have hcz13_0 : w3.cell? ⟨gb154, 0, none⟩ = some (.int .i64 a0_0) := (zb BK154.out 0).trans rfl
              have hcz13_1 : w3.cell? ⟨gb154, 1, none⟩ = some (.int .i64 a0_1) := (zb BK154.out 1).trans rfl
              have hcz13_2 : w3.cell? ⟨gb154, 2, none⟩ = some (.slice A0_2 l0_2.length c0_2) := (zb BK154.out 2).trans rfl
              have hfz13_0 := za BK154.out 0
              have hfz13_1 := za BK154.out 1
              have hfz13_2 := za BK154.out 2
              go_wp2
              go_meet
              case rel => exact ⟨_, (true), (by first | rfl | (simp; done) | (simp [*]; done)), H', ⟨by first | omega | exact Nat.le_refl _⟩, ⟨by (with_reducible repeat (first | refine zg ?_ _ | refine zi ?_ | refine zh ?_ _)); exact BK154.out⟩, ⟨by repeat (first | (with_reducible first | exact HB.out | apply zf | apply zd | apply ze | refine zj ?_ GE154.out) | exact HB.out)⟩⟩
            · rw [if_neg c12] at H
              have c12b0 : decide ((l0_2.length : Int) < 1) = false := decide_eq_false c12
              have c12b1 : decide (l0_2.length < 1) = false := decide_eq_false (by omega)
              clear c12
              have H' := zc.mk H
              clear H
              have hcz14_0 : w3.cell? ⟨gb154, 0, none⟩ = some (.int .i64 a0_0) := (zb BK154.out 0).trans rfl
              have hcz14_1 : w3.cell? ⟨gb154, 1, none⟩ = some (.int .i64 a0_1) := (zb BK154.out 1).trans rfl
              have hcz14_2 : w3.cell? ⟨gb154, 2, none⟩ = some (.slice A0_2 l0_2.length c0_2) := (zb BK154.out 2).trans rfl
              have hfz14_0 := za BK154.out 0
              have hfz14_1 := za BK154.out 1
              have hfz14_2 := za BK154.out 2
              go_wp2
              go_meet
              case rel => exact ⟨_, (decide ((l0_2.length : Int) > 4)), (by first | rfl | (simp; done) | (simp [*]; done)), H', ⟨by first | omega | exact Nat.le_refl _⟩, ⟨by (with_reducible repeat (first | refine zg ?_ _ | refine zi ?_ | refine zh ?_ _)); exact BK154.out⟩, ⟨by repeat (first | (with_reducible first | exact HB.out | apply zf | apply zd | apply ze | refine zj ?_ GE154.out) | exact HB.out)⟩⟩
  case rest =>
    clear HC2
    try clear c1
    try clear p2
    try clear c4
    try clear c4b0
    try clear c6
    try clear c6b0
    try clear c7
    try clear c8
    try clear c8b0
    try clear c10
    try clear c10b0
    try clear c12
    try clear c12b0
    try clear c12b1
    try clear hcz11_0
    try clear hcz11_1
    try clear hcz11_2
    try clear hcz13_0
    try clear hcz13_1
    try clear hcz13_2
    try clear hcz14_0
    try clear hcz14_1
    try clear hcz14_2
    try clear hcz5_0
    try clear hcz5_1
    try clear hcz5_2
    try clear hcz7_0
    try clear hcz7_1
    try clear hcz7_2
    try clear hcz9_0
    try clear hcz9_1
    try clear hcz9_2
    try clear hfz11_0
    try clear hfz11_1
    try clear hfz11_2
    try clear hfz13_0
    try clear hfz13_1
    try clear hfz13_2
    try clear hfz14_0
    try clear hfz14_1
    try clear hfz14_2
    try clear hfz5_0
    try clear hfz5_1
    try clear hfz5_2
    try clear hfz7_0
    try clear hfz7_1
    try clear hfz7_2
    try clear hfz9_0
    try clear hfz9_1
    try clear hfz9_2
    obtain ⟨kq, x33_1, rfl, HA, HJ1, BK154, HB⟩ := hcut
    cases kq with
    | zero => exact absurd HA.out (by simp [zs.j0])
    | succ kj1 =>
      have H := HA.out
      clear HA
      simp only [zs.j0] at H
      by_cases c15 : x33_1 = true
      · subst c15
        have H1 : (some false) = some r := by rw [if_pos rfl] at H; exact H
        clear H
        have H := H1
        clear H1
        obtain rfl := Option.some.inj H
        go_wp2
        go_ret
        exact ⟨by first | rfl | (simp [zo, zp] <;> rfl) | (simp [*, zo, zp] <;> rfl), by repeat (first | (with_reducible first | exact HB.out | apply zf | apply zd | apply ze | refine zj ?_ GE154.out) | exact HB.out)⟩
      · replace c15 := Bool.eq_false_iff.mpr c15
        subst c15
        have H1 : (zs.l0 kj1 0 a0_0 a0_1 l0_2) = some r := by rw [if_neg (show ¬ (false = true) by decide)] at H; exact H
        clear H
        have H := H1
        clear H1
        have H' := zc.mk H
        clear H
        go_wp2
        go_loopg [3] kj1 (fun kq v3 w' => ∃ (x3_2 : Int), v3 = .int .i64 x3_2 ∧ zc (zs.l0 kq x3_2 a0_0 a0_1 l0_2 = some r) ∧ zc (kq ≤ kj1) ∧ zc (w'.heap[gb154]? = some (.cells #[.int .i64 a0_0, .int .i64 a0_1, (.slice A0_2 l0_2.length c0_2)] 68 (0, 0))) ∧ zc (Below w.heap.size w w'))
        case atStart => exact ⟨(0), (by first | rfl | (simp; done) | (simp [*]; done)), H', ⟨Nat.le_refl _⟩, ⟨by (with_reducible repeat (first | refine zg ?_ _ | refine zi ?_ | refine zh ?_ _)); exact BK154.out⟩, ⟨by repeat (first | (with_reducible first | exact HB.out | apply zf | apply zd | apply ze | refine zj ?_ GE154.out) | exact HB.out)⟩⟩
        case round =>
          clear H'
          try clear c1
          try clear p2
          try clear c4
          try clear c4b0
          try clear c6
          try clear c6b0
          try clear c7
          try clear c8
          try clear c8b0
          try clear c10
          try clear c10b0
          try clear c12
          try clear c12b0
          try clear c12b1
          try clear c15
          try clear hcz11_0
          try clear hcz11_1
          try clear hcz11_2
          try clear hcz13_0
          try clear hcz13_1
          try clear hcz13_2
          try clear hcz14_0
          try clear hcz14_1
          try clear hcz14_2
          try clear hcz5_0
          try clear hcz5_1
          try clear hcz5_2
          try clear hcz7_0
          try clear hcz7_1
          try clear hcz7_2
          try clear hcz9_0
          try clear hcz9_1
          try clear hcz9_2
          try clear hfz11_0
          try clear hfz11_1
          try clear hfz11_2
          try clear hfz13_0
          try clear hfz13_1
          try clear hfz13_2
          try clear hfz14_0
          try clear hfz14_1
          try clear hfz14_2
          try clear hfz5_0
          try clear hfz5_1
          try clear hfz5_2
          try clear hfz7_0
          try clear hfz7_1
          try clear hfz7_2
          try clear hfz9_0
          try clear hfz9_1
          try clear hfz9_2
          try clear p2
          obtain ⟨x3_2, rfl, HA, HK2, BK154, HB⟩ := hrel
          cases gk with
          | zero => exact absurd HA.out (by simp [zs.l0])
          | succ k2 =>
            have H := HA.out
            clear HA
            simp only [zs.l0] at H
            by_cases c16 : x3_2 < (l0_2.length : Int)
            · rw [if_pos c16] at H
              have c16b0 : decide (x3_2 < (l0_2.length : Int)) = true := decide_eq_true c16
              clear c16
              by_cases c17 : 0 ≤ x3_2
              · rw [if_pos c17] at H
                have c17b0 : decide (0 ≤ x3_2) = true := decide_eq_true c17
                clear c17
                by_cases c18 : ((zA ByteArray.empty l0_2 x3_2).size : Int) < 1
                · rw [if_pos c18] at H
                  have c18b0 : decide (((zA ByteArray.empty l0_2 x3_2).size : Int) < 1) = true := decide_eq_true c18
                  have c18b1 : decide ((zA ByteArray.empty l0_2 x3_2).size < 1) = true := decide_eq_true (by omega)
                  clear c18
                  obtain rfl := Option.some.inj H
                  have hcz19_0 : wr.cell? ⟨gb154, 0, none⟩ = some (.int .i64 a0_0) := (zb BK154.out 0).trans rfl
                  have hcz19_1 : wr.cell? ⟨gb154, 1, none⟩ = some (.int .i64 a0_1) := (zb BK154.out 1).trans rfl
                  have hcz19_2 : wr.cell? ⟨gb154, 2, none⟩ = some (.slice A0_2 l0_2.length c0_2) := (zb BK154.out 2).trans rfl
                  have hfz19_0 := za BK154.out 0
                  have hfz19_1 := za BK154.out 1
                  have hfz19_2 := za BK154.out 2
                  have p155 : 0 ≤ (x3_2 : Int) := of_decide_eq_true (by first | (with_reducible assumption) | assumption)
                  have q155 : x3_2 < (l0_2.length : Int) := of_decide_eq_true (by first | (with_reducible assumption) | assumption)
                  obtain ⟨ad155, e155, hx155_0⟩ := Kd.at_string HR0_2.out x3_2 p155 q155
                  cases e155
                  replace hx155_0 := (HB.out.cell (World.block_lt_of_cell? w _ hx155_0)).trans hx155_0
                  replace p155 := eq_true p155
                  replace q155 := eq_true q155
                  go_wp2
                  go_ret
                  exact ⟨by first | rfl | (simp [zo, zp] <;> rfl) | (simp [*, zo, zp] <;> rfl), by repeat (first | (with_reducible first | exact HB.out | apply zf | apply zd | apply ze | refine zj ?_ GE154.out) | exact HB.out)⟩
                · rw [if_neg c18] at H
                  have c18b0 : decide (((zA ByteArray.empty l0_2 x3_2).size : Int) < 1) = false := decide_eq_false c18
                  have c18b1 : decide ((zA ByteArray.empty l0_2 x3_2).size < 1) = false := decide_eq_false (by omega)
                  clear c18
                  by_cases c20 : ((zA ByteArray.empty l0_2 x3_2).size : Int) > 48
                  · rw [if_pos c20] at H
                    have c20b0 : decide (48 < ((zA ByteArray.empty l0_2 x3_2).size : Int)) = true := decide_eq_true c20
                    have c20b1 : decide (48 < (zA ByteArray.empty l0_2 x3_2).size) = true := decide_eq_true (by omega)
                    clear c20
                    obtain rfl := Option.some.inj H
                    have hcz21_0 : wr.cell? ⟨gb154, 0, none⟩ = some (.int .i64 a0_0) := (zb BK154.out 0).trans rfl
                    have hcz21_1 : wr.cell? ⟨gb154, 1, none⟩ = some (.int .i64 a0_1) := (zb BK154.out 1).trans rfl
                    have hcz21_2 : wr.cell? ⟨gb154, 2, none⟩ = some (.slice A0_2 l0_2.length c0_2) := (zb BK154.out 2).trans rfl
                    have hfz21_0 := za BK154.out 0
                    have hfz21_1 := za BK154.out 1
                    have hfz21_2 := za BK154.out 2
                    have p155 : 0 ≤ (x3_2 : Int) := of_decide_eq_true (by first | (with_reducible assumption) | assumption)
                    have q155 : x3_2 < (l0_2.length : Int) := of_decide_eq_true (by first | (with_reducible assumption) | assumption)
                    obtain ⟨ad155, e155, hx155_0⟩ := Kd.at_string HR0_2.out x3_2 p155 q155
                    cases e155
                    replace hx155_0 := (HB.out.cell (World.block_lt_of_cell? w _ hx155_0)).trans hx155_0
                    replace p155 := eq_true p155
                    replace q155 := eq_true q155
                    have p156 : 0 ≤ (x3_2 : Int) := of_decide_eq_true (by first | (with_reducible assumption) | assumption)
                    have q156 : x3_2 < (l0_2.length : Int) := of_decide_eq_true (by first | (with_reducible assumption) | assumption)
                    obtain ⟨ad156, e156, hx156_0⟩ := Kd.at_string HR0_2.out x3_2 p156 q156
                    obtain rfl : ad155 = ad156 := (by injection e156)
                    replace hx156_0 := (HB.out.cell (World.block_lt_of_cell? w _ hx156_0)).trans hx156_0
                    replace p156 := eq_true p156
                    replace q156 := eq_true q156
                    go_wp2
                    go_ret
                    exact ⟨by first | rfl | (simp [zo, zp] <;> rfl) | (simp [*, zo, zp] <;> rfl), by repeat (first | (with_reducible first | exact HB.out | apply zf | apply zd | apply ze | refine zj ?_ GE154.out) | exact HB.out)⟩
                  · rw [if_neg c20] at H
                    have c20b0 : decide (48 < ((zA ByteArray.empty l0_2 x3_2).size : Int)) = false := decide_eq_false c20
                    have c20b1 : decide (48 < (zA ByteArray.empty l0_2 x3_2).size) = false := decide_eq_false (by omega)
                    clear c20
                    have H' := zc.mk H
                    clear H
                    have hcz22_0 : wr.cell? ⟨gb154, 0, none⟩ = some (.int .i64 a0_0) := (zb BK154.out 0).trans rfl
                    have hcz22_1 : wr.cell? ⟨gb154, 1, none⟩ = some (.int .i64 a0_1) := (zb BK154.out 1).trans rfl
                    have hcz22_2 : wr.cell? ⟨gb154, 2, none⟩ = some (.slice A0_2 l0_2.length c0_2) := (zb BK154.out 2).trans rfl
                    have hfz22_0 := za BK154.out 0
                    have hfz22_1 := za BK154.out 1
                    have hfz22_2 := za BK154.out 2
                    have p155 : 0 ≤ (x3_2 : Int) := of_decide_eq_true (by first | (with_reducible assumption) | assumption)
                    have q155 : x3_2 < (l0_2.length : Int) := of_decide_eq_true (by first | (with_reducible assumption) | assumption)
                    obtain ⟨ad155, e155, hx155_0⟩ := Kd.at_string HR0_2.out x3_2 p155 q155
                    cases e155
                    replace hx155_0 := (HB.out.cell (World.block_lt_of_cell? w _ hx155_0)).trans hx155_0
                    replace p155 := eq_true p155
                    replace q155 := eq_true q155
                    have p156 : 0 ≤ (x3_2 : Int) := of_decide_eq_true (by first | (with_reducible assumption) | assumption)
                    have q156 : x3_2 < (l0_2.length : Int) := of_decide_eq_true (by first | (with_reducible assumption) | assumption)
                    obtain ⟨ad156, e156, hx156_0⟩ := Kd.at_string HR0_2.out x3_2 p156 q156
                    obtain rfl : ad155 = ad156 := (by injection e156)
                    replace hx156_0 := (HB.out.cell (World.block_lt_of_cell? w _ hx156_0)).trans hx156_0
                    replace p156 := eq_true p156
                    replace q156 := eq_true q156
                    go_wp2
                    go_roundg k2
                    case measure => have := HJ1.out; have := HK2.out; omega
                    case rel => exact ⟨(wrap64 (x3_2 + 1)), (by first | rfl | (simp; done) | (simp [*]; done)), H', ⟨by have := HJ1.out; have := HK2.out; omega⟩, ⟨by (with_reducible repeat (first | refine zg ?_ _ | refine zi ?_ | refine zh ?_ _)); exact BK154.out⟩, ⟨by repeat (first | (with_reducible first | exact HB.out | apply zf | apply zd | apply ze | refine zj ?_ GE154.out) | exact HB.out)⟩⟩
              · rw [if_neg c17] at H
                exact absurd H (by simp)
            · rw [if_neg c16] at H
              have c16b0 : decide (x3_2 < (l0_2.length : Int)) = false := decide_eq_false c16
              clear c16
              obtain rfl := Option.some.inj H
              have hcz23_0 : wr.cell? ⟨gb154, 0, none⟩ = some (.int .i64 a0_0) := (zb BK154.out 0).trans rfl
              have hcz23_1 : wr.cell? ⟨gb154, 1, none⟩ = some (.int .i64 a0_1) := (zb BK154.out 1).trans rfl
              have hcz23_2 : wr.cell? ⟨gb154, 2, none⟩ = some (.slice A0_2 l0_2.length c0_2) := (zb BK154.out 2).trans rfl
              have hfz23_0 := za BK154.out 0
              have hfz23_1 := za BK154.out 1
              have hfz23_2 := za BK154.out 2
              go_wp2
              go_ret
              exact ⟨by first | rfl | (simp [zo, zp] <;> rfl) | (simp [*, zo, zp] <;> rfl), by repeat (first | (with_reducible first | exact HB.out | apply zf | apply zd | apply ze | refine zj ?_ GE154.out) | exact HB.out)⟩
end Go.Proofs.Ytlabjgcoopdbiaa.Px
