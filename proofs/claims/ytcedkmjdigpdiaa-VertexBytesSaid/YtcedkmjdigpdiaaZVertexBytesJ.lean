/- Part 10 of 22 of the proof of the law VertexBytes: what is proved is the statement at the end of the last part; its conditions are those of the given row. -/
import Derived.Test.YtcedkmjdigpdiaaZVertexBytesI
namespace Go.Proofs.Ytcedkmjdigpdiaa.Px
open Go.RowKit Go.Proofs.YtcedkmjdigpdiaaW.PrintWords Go.Proofs.YtcedkmjdigpdiaaW.PrintLast Go.Proofs.YtcedkmjdigpdiaaW.PrintMore
attribute [local go_sem] zK zM zQ zR zC zD zL zN
set_option linter.unusedVariables false
set_option linter.unusedSimpArgs false
def zam.f (a0 : Int) : Option (Int) := if a0 < 1 then (some 0) else (some (wrap64 ((wrap64 (Int.tdiv (wrap64 (a0 - 1)) 3)) + 1)))
set_option maxHeartbeats 8000000 in
set_option maxRecDepth 100000 in
theorem zam.calls (a0 : Int) (r : Int) (w : World) (h : zam.f a0 = some r) :
    Calls Try.prog 32 #[.int .i64 a0] w fun e w' => e = .returned (.int .i64 r) ∧ zH w w' := by
  have H : (if a0 < 1 then (some 0) else (some (wrap64 ((wrap64 (Int.tdiv (wrap64 (a0 - 1)) 3)) + 1)))) = some r := h
  clear h
  by_cases c2 : a0 < 1
  · rw [if_pos c2] at H
    have c2b0 : decide (a0 < 1) = true := decide_eq_true c2
    clear c2
    obtain rfl := Option.some.inj H
    go_enter Try.func32, Try.ntmps32
    go_wp2
    go_ret
    exact ⟨by first | rfl | (simp; done) | (simp [*]; done), by repeat (first | exact zH.refl _ | apply zH.step)⟩
  · rw [if_neg c2] at H
    have c2b0 : decide (a0 < 1) = false := decide_eq_false c2
    clear c2
    obtain rfl := Option.some.inj H
    go_enter Try.func32, Try.ntmps32
    go_wp2
    go_ret
    exact ⟨by first | rfl | (simp; done) | (simp [*]; done), by repeat (first | exact zH.refl _ | apply zH.step)⟩
end Go.Proofs.Ytcedkmjdigpdiaa.Px

namespace Go.Proofs.Ytcedkmjdigpdiaa.Px
open Go.RowKit Go.Proofs.YtcedkmjdigpdiaaW.PrintWords Go.Proofs.YtcedkmjdigpdiaaW.PrintLast Go.Proofs.YtcedkmjdigpdiaaW.PrintMore
attribute [local go_sem] zK zM zQ zR zC zD zL zN
set_option linter.unusedVariables false
set_option linter.unusedSimpArgs false
def z9.f  : Option (Bool) := (zO.f 1 1 ([] : List (S24)) ([] : List ByteArray) 0 0 4).bind fun bt177 => (if bt177.1.toList = ([1, 1, 1, 1, 0, 0, 0, 0] : List UInt8) then (if bt177.2 = 0 then ((zam.f 3).bind fun t179 => (if t179 = 1 then ((zam.f 4).bind fun t180 => (if t180 = 2 then ((zar.f 3).bind fun t181 => (some t181)) else (some false))) else (some false))) else (some false)) else (some false))
set_option maxHeartbeats 8000000 in
set_option maxRecDepth 100000 in
theorem z9.calls  (r : Bool) (w : World) (h : z9.f  = some r) :
    Calls Try.prog 14 #[] w fun e w' => e = .returned (.bool r) ∧ Below w.heap.size w w' := by
  have hu37 := Try.underlying37
  have HB := zc.mk (Below.refl w.heap.size w)
  have H : ((zO.f 1 1 ([] : List (S24)) ([] : List ByteArray) 0 0 4).bind fun bt177 => (if bt177.1.toList = ([1, 1, 1, 1, 0, 0, 0, 0] : List UInt8) then (if bt177.2 = 0 then ((zam.f 3).bind fun t179 => (if t179 = 1 then ((zam.f 4).bind fun t180 => (if t180 = 2 then ((zar.f 3).bind fun t181 => (some t181)) else (some false))) else (some false))) else (some false)) else (some false))) = some r := h
  clear h
  replace H := Option.bind_eq_some_iff.mp H
  obtain ⟨⟨t177, t178⟩, A10, H⟩ := H
  replace H : (if t177.toList = ([1, 1, 1, 1, 0, 0, 0, 0] : List UInt8) then (if t178 = 0 then ((zam.f 3).bind fun t179 => (if t179 = 1 then ((zam.f 4).bind fun t180 => (if t180 = 2 then ((zar.f 3).bind fun t181 => (some t181)) else (some false))) else (some false))) else (some false)) else (some false)) = some r := H
  have A1 := zc.mk A10
  clear A10
  by_cases c2 : t177.toList = ([1, 1, 1, 1, 0, 0, 0, 0] : List UInt8)
  · rw [if_pos c2] at H
    have c2b0 : (t177.toList == ([1, 1, 1, 1, 0, 0, 0, 0] : List UInt8)) = true := beq_iff_eq.mpr c2
    have c2b1 : (t177.toList != ([1, 1, 1, 1, 0, 0, 0, 0] : List UInt8)) = false := bne_eq_false_iff_eq.mpr c2
    clear c2
    by_cases c3 : t178 = 0
    · rw [if_pos c3] at H
      have c3b0 : (t178 == 0) = true := beq_iff_eq.mpr c3
      have c3b1 : (t178 != 0) = false := bne_eq_false_iff_eq.mpr c3
      clear c3
      replace H := Option.bind_eq_some_iff.mp H
      obtain ⟨t179, A40, H⟩ := H
      replace H : (if t179 = 1 then ((zam.f 4).bind fun t180 => (if t180 = 2 then ((zar.f 3).bind fun t181 => (some t181)) else (some false))) else (some false)) = some r := H
      have A4 := zc.mk A40
      clear A40
      by_cases c5 : t179 = 1
      · rw [if_pos c5] at H
        have c5b0 : (t179 == 1) = true := beq_iff_eq.mpr c5
        have c5b1 : (t179 != 1) = false := bne_eq_false_iff_eq.mpr c5
        clear c5
        replace H := Option.bind_eq_some_iff.mp H
        obtain ⟨t180, A60, H⟩ := H
        replace H : (if t180 = 2 then ((zar.f 3).bind fun t181 => (some t181)) else (some false)) = some r := H
        have A6 := zc.mk A60
        clear A60
        by_cases c7 : t180 = 2
        · rw [if_pos c7] at H
          have c7b0 : (t180 == 2) = true := beq_iff_eq.mpr c7
          have c7b1 : (t180 != 2) = false := bne_eq_false_iff_eq.mpr c7
          clear c7
          replace H := Option.bind_eq_some_iff.mp H
          obtain ⟨t181, A80, H⟩ := H
          replace H : (some t181) = some r := H
          have A8 := zc.mk A80
          clear A80
          obtain rfl := Option.some.inj H
          go_enter Try.func14, Try.ntmps14
          go_wp2_with (first | ((with_reducible refine zx (f := 15) rfl ?_); refine zZ (some 5) rfl rfl Try.func15 (by kernel_rfl) rfl #[.agg #[.int .i64 1, .int .i64 1, .slice none 0 0, .slice none 0 0, .int .i64 0, .int .i64 0], .int .i64 4] rfl (by (try simp only [List.map_toArray, List.map_cons, List.map_nil]); first | done | rfl | (simp only [List.length_drop, List.length_take]; rfl)) ?_; (refine (zO.calls 1 1 _ _ ([] : List (S24)) _ _ ([] : List ByteArray) 0 0 4 t177 t178 _ ?side1 ?side2 ?side3 ?side4 A1.out).mono ?_); (case side1 => exact Kd.C_nil _ _); (case side2 => exact Nat.le_refl _); (case side3 => exact Kd.C_nil _ _); (case side4 => exact Nat.le_refl _); rintro e w9 ⟨rfl, hb⟩; refine ⟨_, rfl, ?_⟩; have n0_ := zc.mk (zh (by repeat (first | (with_reducible first | exact HB.out | apply zf | apply zd | apply ze) | exact HB.out)) hb); clear HB; have HB := n0_; clear n0_; (try clear hb); (try clear hb2); (try clear hk); (try clear hi)) | (go_at_call 32; (with_reducible refine (zam.calls 3 t179 _ A4.out).mono ?_); rintro e w' ⟨rfl, ⟨nd, rfl⟩⟩) | (go_at_call 32; (with_reducible refine (zam.calls 4 t180 _ A6.out).mono ?_); rintro e w' ⟨rfl, ⟨nd, rfl⟩⟩) | (go_at_call 33; (with_reducible refine (zar.calls 3 t181 _ A8.out).mono ?_); rintro e w' ⟨rfl, ⟨nd, rfl⟩⟩))
          go_ret
          exact ⟨by first | rfl | (simp [zu, zv] <;> rfl) | (simp [*, zu, zv] <;> rfl), by repeat (first | (with_reducible first | exact HB.out | apply zf | apply zd | apply ze) | exact HB.out)⟩
        · rw [if_neg c7] at H
          have c7b0 : (t180 == 2) = false := beq_eq_false_iff_ne.mpr c7
          have c7b1 : (t180 != 2) = true := bne_iff_ne.mpr c7
          obtain rfl := Option.some.inj H
          go_enter Try.func14, Try.ntmps14
          go_wp2_with (first | ((with_reducible refine zx (f := 15) rfl ?_); refine zZ (some 5) rfl rfl Try.func15 (by kernel_rfl) rfl #[.agg #[.int .i64 1, .int .i64 1, .slice none 0 0, .slice none 0 0, .int .i64 0, .int .i64 0], .int .i64 4] rfl (by (try simp only [List.map_toArray, List.map_cons, List.map_nil]); first | done | rfl | (simp only [List.length_drop, List.length_take]; rfl)) ?_; (refine (zO.calls 1 1 _ _ ([] : List (S24)) _ _ ([] : List ByteArray) 0 0 4 t177 t178 _ ?side1 ?side2 ?side3 ?side4 A1.out).mono ?_); (case side1 => exact Kd.C_nil _ _); (case side2 => exact Nat.le_refl _); (case side3 => exact Kd.C_nil _ _); (case side4 => exact Nat.le_refl _); rintro e w10 ⟨rfl, hb⟩; refine ⟨_, rfl, ?_⟩; have n0_ := zc.mk (zh (by repeat (first | (with_reducible first | exact HB.out | apply zf | apply zd | apply ze) | exact HB.out)) hb); clear HB; have HB := n0_; clear n0_; (try clear hb); (try clear hb2); (try clear hk); (try clear hi)) | (go_at_call 32; (with_reducible refine (zam.calls 3 t179 _ A4.out).mono ?_); rintro e w' ⟨rfl, ⟨nd, rfl⟩⟩) | (go_at_call 32; (with_reducible refine (zam.calls 4 t180 _ A6.out).mono ?_); rintro e w' ⟨rfl, ⟨nd, rfl⟩⟩))
          go_ret
          exact ⟨by first | rfl | (simp [zu, zv] <;> rfl) | (simp [*, zu, zv] <;> rfl), by repeat (first | (with_reducible first | exact HB.out | apply zf | apply zd | apply ze) | exact HB.out)⟩
      · rw [if_neg c5] at H
        have c5b0 : (t179 == 1) = false := beq_eq_false_iff_ne.mpr c5
        have c5b1 : (t179 != 1) = true := bne_iff_ne.mpr c5
        obtain rfl := Option.some.inj H
        go_enter Try.func14, Try.ntmps14
        go_wp2_with (first | ((with_reducible refine zx (f := 15) rfl ?_); refine zZ (some 5) rfl rfl Try.func15 (by kernel_rfl) rfl #[.agg #[.int .i64 1, .int .i64 1, .slice none 0 0, .slice none 0 0, .int .i64 0, .int .i64 0], .int .i64 4] rfl (by (try simp only [List.map_toArray, List.map_cons, List.map_nil]); first | done | rfl | (simp only [List.length_drop, List.length_take]; rfl)) ?_; (refine (zO.calls 1 1 _ _ ([] : List (S24)) _ _ ([] : List ByteArray) 0 0 4 t177 t178 _ ?side1 ?side2 ?side3 ?side4 A1.out).mono ?_); (case side1 => exact Kd.C_nil _ _); (case side2 => exact Nat.le_refl _); (case side3 => exact Kd.C_nil _ _); (case side4 => exact Nat.le_refl _); rintro e w11 ⟨rfl, hb⟩; refine ⟨_, rfl, ?_⟩; have n0_ := zc.mk (zh (by repeat (first | (with_reducible first | exact HB.out | apply zf | apply zd | apply ze) | exact HB.out)) hb); clear HB; have HB := n0_; clear n0_; (try clear hb); (try clear hb2); (try clear hk); (try clear hi)) | (go_at_call 32; (with_reducible refine (zam.calls 3 t179 _ A4.out).mono ?_); rintro e w' ⟨rfl, ⟨nd, rfl⟩⟩))
        go_ret
        exact ⟨by first | rfl | (simp [zu, zv] <;> rfl) | (simp [*, zu, zv] <;> rfl), by repeat (first | (with_reducible first | exact HB.out | apply zf | apply zd | apply ze) | exact HB.out)⟩
    · rw [if_neg c3] at H
      have c3b0 : (t178 == 0) = false := beq_eq_false_iff_ne.mpr c3
      have c3b1 : (t178 != 0) = true := bne_iff_ne.mpr c3
      obtain rfl := Option.some.inj H
      go_enter Try.func14, Try.ntmps14
      go_wp2_with (first | ((with_reducible refine zx (f := 15) rfl ?_); refine zZ (some 5) rfl rfl Try.func15 (by kernel_rfl) rfl #[.agg #[.int .i64 1, .int .i64 1, .slice none 0 0, .slice none 0 0, .int .i64 0, .int .i64 0], .int .i64 4] rfl (by (try simp only [List.map_toArray, List.map_cons, List.map_nil]); first | done | rfl | (simp only [List.length_drop, List.length_take]; rfl)) ?_; (refine (zO.calls 1 1 _ _ ([] : List (S24)) _ _ ([] : List ByteArray) 0 0 4 t177 t178 _ ?side1 ?side2 ?side3 ?side4 A1.out).mono ?_); (case side1 => exact Kd.C_nil _ _); (case side2 => exact Nat.le_refl _); (case side3 => exact Kd.C_nil _ _); (case side4 => exact Nat.le_refl _); rintro e w12 ⟨rfl, hb⟩; refine ⟨_, rfl, ?_⟩; have n0_ := zc.mk (zh (by repeat (first | (with_reducible first | exact HB.out | apply zf | apply zd | apply ze) | exact HB.out)) hb); clear HB; have HB := n0_; clear n0_; (try clear hb); (try clear hb2); (try clear hk); (try clear hi)))
      go_ret
      exact ⟨by first | rfl | (simp [zu, zv] <;> rfl) | (simp [*, zu, zv] <;> rfl), by repeat (first | (with_reducible first | exact HB.out | apply zf | apply zd | apply ze) | exact HB.out)⟩
  · rw [if_neg c2] at H
    have c2b0 : (t177.toList == ([1, 1, 1, 1, 0, 0, 0, 0] : List UInt8)) = false := beq_eq_false_iff_ne.mpr c2
    have c2b1 : (t177.toList != ([1, 1, 1, 1, 0, 0, 0, 0] : List UInt8)) = true := bne_iff_ne.mpr c2
    obtain rfl := Option.some.inj H
    go_enter Try.func14, Try.ntmps14
    go_wp2_with (first | ((with_reducible refine zx (f := 15) rfl ?_); refine zZ (some 5) rfl rfl Try.func15 (by kernel_rfl) rfl #[.agg #[.int .i64 1, .int .i64 1, .slice none 0 0, .slice none 0 0, .int .i64 0, .int .i64 0], .int .i64 4] rfl (by (try simp only [List.map_toArray, List.map_cons, List.map_nil]); first | done | rfl | (simp only [List.length_drop, List.length_take]; rfl)) ?_; (refine (zO.calls 1 1 _ _ ([] : List (S24)) _ _ ([] : List ByteArray) 0 0 4 t177 t178 _ ?side1 ?side2 ?side3 ?side4 A1.out).mono ?_); (case side1 => exact Kd.C_nil _ _); (case side2 => exact Nat.le_refl _); (case side3 => exact Kd.C_nil _ _); (case side4 => exact Nat.le_refl _); rintro e w13 ⟨rfl, hb⟩; refine ⟨_, rfl, ?_⟩; have n0_ := zc.mk (zh (by repeat (first | (with_reducible first | exact HB.out | apply zf | apply zd | apply ze) | exact HB.out)) hb); clear HB; have HB := n0_; clear n0_; (try clear hb); (try clear hb2); (try clear hk); (try clear hi)))
    go_ret
    exact ⟨by first | rfl | (simp [zu, zv] <;> rfl) | (simp [*, zu, zv] <;> rfl), by repeat (first | (with_reducible first | exact HB.out | apply zf | apply zd | apply ze) | exact HB.out)⟩
end Go.Proofs.Ytcedkmjdigpdiaa.Px

namespace Go.Proofs.Ytcedkmjdigpdiaa.Px
open Go.RowKit Go.Proofs.YtcedkmjdigpdiaaW.PrintWords Go.Proofs.YtcedkmjdigpdiaaW.PrintLast Go.Proofs.YtcedkmjdigpdiaaW.PrintMore
attribute [local go_sem] zK zM zQ zR zC zD zL zN
set_option linter.unusedVariables false
set_option linter.unusedSimpArgs false
def zat (w : World) (base : Nat) (e : TypeId) (v : Value) (l : Bs) : Prop :=
  ∃ g cap cur fz, v = .slice (some ⟨g, 0, none⟩) l.length cap ∧ base ≤ g ∧ w.heap[g]? = some (.cells cur e fz) ∧ (fz.2 ≤ l.length ∨ cap ≤ fz.1) ∧ l.length ≤ cap ∧ cap ≤ maxLen ∧ cur.size = cap ∧ cur.toList.take l.length = Lib.byteCells l
theorem zat.below {w w' : World} {base : Nat} {e : TypeId} {v : Value} {l : Bs} (h : zat w base e v l) (hb : Below w.heap.size w w') : zat w' base e v l := by
  obtain ⟨g, cap, cur, fz, rfl, hg, hh, r⟩ := h
  exact ⟨g, cap, cur, fz, rfl, hg, (hb.block g (Array.getElem?_eq_some_iff.1 hh).1).trans hh, r⟩
theorem zat.start (W : World) (base : Nat) (e : TypeId) (s : ByteArray) (hb : base ≤ W.heap.size) (hs : s.size ≤ maxLen) : zat (Lib.bytesWorld W e s) base e (.slice (some ⟨W.heap.size, 0, none⟩) s.size (grownCap W s.size 0 e)) (ofB s) := by
  have hc := grownCap_ge W s.size 0 e
  have hd : s.data.size = s.size := rfl
  have hz : (Lib.bytesCells W e s).size = grownCap W s.size 0 e := by
    rw [Lib.bytesCells, Array.size_append, Array.size_map, Array.size_replicate, hd]; omega
  refine ⟨W.heap.size, grownCap W s.size 0 e, Lib.bytesCells W e s, _, by rw [zag], hb, Lib.bytesWorld_at_new W e s, .inr (by rw [hz]; exact Nat.le_refl _), by rw [zag]; exact hc, grownCap_le_maxLen W s.size 0 e hs, hz, ?_⟩
  rw [Lib.bytesCells, Array.toList_append, List.take_left' (by rw [Array.length_toList, Array.size_map, hd, zag])]
  simp [Lib.byteCells, ofB]
theorem zbh (P : Program) (g o : Nat) (t : TypeId) (fz : Nat × Nat) : ∀ (vs : List Value) (i : Nat) (cur : Array Value) (w : World), w.heap[g]? = some (.cells cur t fz) → (fz.2 ≤ o + i ∨ cur.size ≤ fz.1) → o + i + vs.length ≤ cur.size → (∀ v ∈ vs, v.oneCell' = true) →
    (storeCells ⟨g, o, none⟩ vs i).run P w = .ok () (w.setRow g (cur.toList.take (o + i) ++ vs ++ cur.toList.drop (o + i + vs.length)).toArray)
  | [], i, cur, w, hg, _, _, _ => by
    simp only [storeCells, List.append_nil, List.length_nil, Nat.add_zero, List.take_append_drop, Array.toArray_toList]
    rw [setRow_self w g cur t fz hg]
    rfl
  | v :: rest, i, cur, w, hg, hfz, hl, h1 => by
    have hi : o + i < cur.size := by simp at hl; omega
    have hadd : (⟨g, o, none⟩ : Addr).add i = ⟨g, o + i, none⟩ := by unfold Addr.add; split <;> simp_all
    have hcell : w.cell? ⟨g, o + i, none⟩ = some cur[o + i] := by simp [World.cell?, hg, hi]
    have hfro : w.frozen? ⟨g, o + i, none⟩ = false := by
      obtain ⟨lo, hi'⟩ := fz
      simp only [World.frozen?, hg, Bool.and_eq_false_iff, decide_eq_false_iff_not]
      simp only at hfz
      omega
    have hst : (store ((⟨g, o, none⟩ : Addr).add i) v).run P w = .ok () (w.setRow g (cur.setIfInBounds (o + i) v)) := by
      rw [hadd, run_store P w _ v _ (h1 v (by simp)), hcell]
      simp [hfro, setCell_eq_setRow w g (o + i) cur t fz v hg]
    have ih := zbh P g o t fz rest (i + 1) (cur.setIfInBounds (o + i) v) (w.setRow g (cur.setIfInBounds (o + i) v)) (setRow_heap w g cur _ t _ hg) (by rw [Array.size_setIfInBounds]; omega) (by simp at hl ⊢; omega) (fun x hx => h1 x (by simp [hx]))
    simp only [storeCells, Sem.run_bind, hst, Result.andThen_ok, ih, setRow_setRow]
    congr 3
    have e := list_seg_step cur.toList (o + i) v rest (by simp at hl ⊢; omega)
    simpa [Array.toList_setIfInBounds, Nat.add_assoc] using e
theorem zc1 {P : Program} {w : World} (base : Nat) (t u ty e : TypeId) (i : TypeInfo) (ht : P.underlying t = some (.slice e)) (hu : P.underlying u = some .string) (hi : P.info? e = some i) (hz : i.zero = some (.int .u8 0))
    (hsize : i.size = 1) (hby : i.bytes = 1) (v : Value) (l : Bs) (hown : zat w base e v l) (s : ByteArray) (hbytes : l.length + s.size ≤ 140737488355328) (hbase : base ≤ w.heap.size) :
    ∃ v' w', (Builtin.append_ #[t, u] ty #[v, .string s]).run P w = .ok v' w' ∧ zat w' base e v' (l ++ ofB s) ∧ Below base w w' := by
  obtain ⟨g, cap, cur, fz, rfl, hbg, hg, hfz, hnc, hcm, hcs, htake⟩ := hown
  have hsmall : l.length + s.size ≤ maxLen := by unfold maxLen; omega
  have hlen : (l ++ ofB s).length = l.length + s.size := by rw [List.length_append, zag]
  have hcells : Lib.byteCells (l ++ ofB s) = Lib.byteCells l ++ Lib.strCells s := by rw [Lib.strCells_eq]; simp [Lib.byteCells, ofB]
  have hcl : (Lib.byteCells l ++ Lib.strCells s).length = l.length + s.size := by rw [List.length_append, Lib.byteCells_length, Lib.strCells_length]
  by_cases hroom : l.length + s.size ≤ cap
  · have hf := Lib.run_firstCells_string (P := P) w 1 s
    have hst := zbh P g l.length e fz (Lib.strCells s) 0 cur w hg (by omega) (by rw [Lib.strCells_length]; omega) (Lib.strCells_oneCell s)
    simp only [Nat.add_zero, Lib.strCells_length] at hst
    refine ⟨.slice (some ⟨g, 0, none⟩) (l.length + s.size) cap, w.setRow g (cur.toList.take l.length ++ Lib.strCells s ++ cur.toList.drop (l.length + s.size)).toArray, ?_, ?_, ?_⟩
    · simp [Builtin.append_, run_underlying ht, run_underlying hu, sizeOf, typeInfo, hi, hsize, Builtin.lenOf, hroom, hf, Addr.add_lit, hst]
    · refine ⟨g, cap, _, fz, by rw [hlen], hbg, setRow_heap w g cur _ e _ hg, by rw [hlen]; omega, by rw [hlen]; exact hroom, hcm, ?_, ?_⟩
      · simp only [List.size_toArray, List.length_append, List.length_take, List.length_drop, Array.length_toList, Lib.strCells_length]
        omega
      · rw [htake, hlen, hcells, ← hcl]
        exact List.take_left
    · exact ⟨rfl, rfl, rfl, by simp, fun k hk => setRow_other w g k _ (by omega)⟩
  · have holds : ∀ j u, (Lib.byteCells l)[j]? = some u → w.cell? ((⟨g, 0, none⟩ : Addr).add j) = some u := by
      intro j u hu
      rw [← htake, List.getElem?_take] at hu
      split at hu
      · rw [zb4]
        simp [World.cell?, hg]
        simpa using hu
      · cases hu
    have hr := Lib.run_append_grow_string (P := P) w t u ty e i (.int .u8 0) ht hu hi hz ⟨g, 0, none⟩ l.length cap (Lib.byteCells l) (by rw [hsize, Lib.byteCells_length]; omega) holds s (by omega) (by omega) (by rw [hby]; exact growslice_fits (by omega) (by omega))
    have hge := grownCap_ge w (l.length + s.size) cap e
    have hcm2 : grownCap w (l.length + s.size) cap e ≤ maxLen := grownCap_le_maxLen w (l.length + s.size) cap e hsmall
    refine ⟨_, _, hr, ⟨w.heap.size, _, _, (0, 0), by rw [hlen], hbase, heap_alloc_new w.drew _, .inl (Nat.zero_le _), by rw [hlen]; exact hge, hcm2, ?_, ?_⟩, ⟨rfl, rfl, rfl, by simp, fun k hk => Lib.alloc_old w.drew _ k (Nat.lt_of_lt_of_le hk hbase)⟩⟩
    · have hz1 : (Value.int IntKind.u8 0).cells.size = 1 := rfl
      simp only [Array.size_append, List.size_toArray, size_zeroCells, hz1, Lib.byteCells_length, Lib.strCells_length]
      omega
    · simp only [Array.toList_append, List.append_assoc]
      rw [← List.append_assoc, hlen, hcells, ← hcl]
      exact List.take_left
theorem zc5 {P : Program} {w w0 : World} {ops : Array Oper} {rest : List Oper} {o : Oper} {a : Act} {Q : Exit → Act → World → Prop} (hgd : o.guard = none) (sl x : Operand) (t u : TypeId)
    (ho : o.op = .call { callee := .builtin .append, args := #[sl, x], argTypes := #[t, u] })
    (base : Nat) (e : TypeId) (ht : P.underlying t = some (.slice e)) (hu : P.underlying u = some .string) (hinfo : (P.info? e).map (fun i => (i.zero, i.size, i.bytes)) = some (some (.int .u8 0), 1, 1))
    (v : Value) (l : Bs) (hs : a.eval sl = v) (hown : zat w base e v l) (s : ByteArray) (hx : a.eval x = .string s) (HB : Below base w0 w) (hbytes : l.length + s.size ≤ 140737488355328) (hbase : base ≤ w.heap.size)
    (h : ∀ v' w', zat w' base e v' (l ++ ofB s) → Below base w0 w' → wpList P ops Q rest (a.put o.dst v') w') : wpList P ops Q (o :: rest) a w := by
  obtain ⟨i0, hi, hzz⟩ := Option.map_eq_some_iff.1 hinfo
  simp only [Prod.mk.injEq] at hzz
  obtain ⟨hz0, hz1, hz2⟩ := hzz
  refine wpList_plain hgd fun K hK => ?_
  obtain ⟨v', w', hr, h2, h3⟩ := zc1 (P := P) base t u o.type e i0 ht hu hi hz0 hz1 hz2 v l hown s hbytes hbase
  unfold Oper.wp execOp
  simp only [ho, resolve, invoke, builtin, Sem.run_bind, Sem.run_pure, Result.andThen_ok, List.map_toArray, List.map_cons, List.map_nil, hs, hx, hr]
  exact hK _ _ (h v' w' h2 (HB.trans h3))
theorem zat.string {P : Program} {w : World} {base : Nat} {e src : TypeId} {v : Value} {l : Bs} (hown : zat w base e v l) (hs : P.underlying src = some (.slice e)) (he : P.underlying e = some (.int .u8)) :
    ∀ dst, P.underlying dst = some .string → (convert src dst v).run P w = .ok (.string (toB l)) w := by
  obtain ⟨g, cap, cur, fz, rfl, hbg, hg, hfz, hnc, hcm, hcs, htake⟩ := hown
  intro dst hd
  have h := run_convert_bytes_arg (P := P) w src e hs he g 0 l.length cap (l.map fun b => (b.toNat : Int)) (by simp) (fun i hi => by
    have h1 : (Lib.byteCells l)[i]? = some (.int .u8 ((l.map fun b => (b.toNat : Int)).getD i 0)) := by
      simp [Lib.byteCells, List.getElem?_eq_getElem hi]
    rw [← htake, List.getElem?_take, if_pos hi] at h1
    rw [Nat.zero_add]
    simp [World.cell?, hg]
    simpa using h1) dst hd
  rw [h]
  congr 3
  rw [za2, List.map_map]
  congr 1
  rw [List.map_congr_left (g := id) (fun b _ => by simp), List.map_id]
end Go.Proofs.Ytcedkmjdigpdiaa.Px

namespace Go.Proofs.Ytcedkmjdigpdiaa.Px
open Go.RowKit Go.Proofs.YtcedkmjdigpdiaaW.PrintWords Go.Proofs.YtcedkmjdigpdiaaW.PrintLast Go.Proofs.YtcedkmjdigpdiaaW.PrintMore
attribute [local go_sem] zK zM zQ zR zC zD zL zN
set_option linter.unusedVariables false
set_option linter.unusedSimpArgs false
theorem zgU : (Try.prog.info? 5).map (fun i => (i.zero, i.size, i.bytes)) = some (some (.int .u8 0), 1, 1) := by kernel_rfl
def zI.Rel (l : List ByteArray) (k : Nat) (w0 wr : World) (v : Value) : Prop := zat wr w0.heap.size 5 v (zbp l.length ++ zaP (l.take k)) ∧ Below w0.heap.size w0 wr
set_option maxRecDepth 100000 in
theorem zI.walk (A : Option Addr) (c : Nat) (l : List ByteArray) (w : World) (hr : Kd.C Kd.string w A l.length l) (hc : l.length ≤ c) (hs : (za9 l).length ≤ 140737488355328) :
    Calls Try.prog 24 #[.slice A l.length c] w fun e w' => e = .returned (.string (toB (za9 l))) ∧ Below w.heap.size w w' := by
  have hm := hr.2.1
  have hll := zfa l
  have hsum : (za9 l).length = (zbp l.length).length + (zaP l).length := by rw [za9, List.length_append]
  have hlen : l.length ≤ 140737488355328 := by omega
  obtain ⟨k0, hk0⟩ := (zdd l.length (by omega)).rounds
  have HN := zc.mk hk0
  have HR := zc.mk hr
  have HS := zc.mk hs
  have HU := zc.mk hsum
  have kb := fun (W : World) (s : ByteArray) => Lib.run_convert_string_bytes (P := Try.prog) W 9 54 5 s Try.underlying9 Try.underlying54 Try.underlying5
  clear hr hs hll hsum hk0
  go_enter Try.func24, Try.ntmps24
  go_wp2_with (go_at_call 23; (with_reducible refine (zr.calls _ _ _ _ HN.out).mono ?_); rintro e w1 ⟨rfl, hb1⟩)
  have hw1 : Below w.heap.size w w1 := by assumption
  have HL : zc (zI.Rel l 0 w (Lib.bytesWorld w1 5 (zaN l.length)) (.slice (some ⟨w1.heap.size, 0, none⟩) (zaN l.length).size (grownCap w1 (zaN l.length).size 0 5))) := ⟨by
    have h := zat.start w1 w.heap.size 5 (zaN l.length) hw1.size (by have := zaF (v := l.length) (by omega); unfold maxLen; omega)
    rw [List.take_zero, show zaP [] = [] from rfl, List.append_nil]
    rw [zaN, zbM] at h
    exact h, zdj hw1 hw1.size 5 _⟩
  generalize Lib.bytesWorld w1 5 (zaN l.length) = wb at *
  generalize Value.slice (some ⟨w1.heap.size, 0, none⟩) (zaN l.length).size (grownCap w1 (zaN l.length).size 0 5) = vb at *
  clear hw1
  go_loopw [3, 4] (fun v3 v4 wr => ∃ k : Nat, v4 = .int .i64 k ∧ k ≤ l.length ∧ zc (zI.Rel l k w wr v3)) (fun _ v4 _ => l.length - (match v4 with | .int _ q => q | _ => 0).toNat)
  case atStart => exact ⟨0, rfl, Nat.zero_le _, HL⟩
  case round =>
    obtain ⟨k, rfl, hk, HK⟩ := hrel
    by_cases hlt : k < l.length
    · obtain ⟨ad, rfl, hcell⟩ := Kd.at_string (Kd.C_below HR.out HK.out.2) (k : Int) (by omega) (by omega)
      rw [Int.toNat_natCast] at hcell
      have hb : decide (k < l.length) = true := decide_eq_true hlt
      have hx : l[k]? = some (zz ByteArray.empty l (k : Int)) := by
        rw [zz, Int.toNat_natCast, List.getD_eq_getElem?_getD, List.getElem?_eq_getElem hlt]; rfl
      have HX := zc.mk hx
      clear hx
      generalize zz ByteArray.empty l (k : Int) = s at *
      have hs := zc0 l k s HX.out
      have HT := zc.mk (zco s (by have := HS.out; have := HU.out; omega))
      have h2 := zcY l k s HX.out
      have h3 := zb1 l (k + 1)
      rw [h2, List.length_append, zag] at h3
      have H2 := zc.mk h2
      have H3 : zc ((zbp l.length ++ zaP (l.take k)).length + (zcP s).size ≤ 140737488355328) := ⟨by rw [List.length_append]; have := HS.out; have := HU.out; omega⟩
      clear h2 h3 hs
      go_wp2_with (first | (go_at_call 51; (with_reducible refine (zaH.calls _ _ _ HT.out).mono ?_); rintro e w3 ⟨rfl, hb3⟩; have HO := zc.mk (zat.below HK.out.1 hb3); have HB := zc.mk (zh HK.out.2 hb3); clear hb3) | (at_builtin; refine zc5 rfl _ _ 54 9 rfl w.heap.size 5 Try.underlying54 Try.underlying9 zgU _ _ rfl HO.out _ rfl HB.out H3.out HB.out.size ?_; intro v5 w5 ho5 hb5; have HL5 : zc (zI.Rel l (k + 1) w w5 v5) := ⟨by rw [H2.out, ← List.append_assoc]; exact ho5, hb5⟩; clear ho5 hb5))
      go_roundw
      case rel => exact ⟨k + 1, by go_num, by omega, HL5⟩
      case measure => simp; omega
    · obtain rfl : k = l.length := by omega
      have hs2 := HK.out.1.string Try.underlying54 Try.underlying5 9 Try.underlying9
      rw [List.take_of_length_le (Nat.le_refl _)] at hs2
      go_wp2
      go_ret
      exact ⟨rfl, HK.out.2⟩
def zI.f (l0 : List ByteArray) : Option (ByteArray) := if (za9 l0).length ≤ 140737488355328 then (some (toB (za9 l0))) else (none)
theorem zI.calls (A0 : Option Addr) (c0 : Nat) (l0 : List ByteArray) (r : ByteArray) (w : World) (hr0 : Kd.C Kd.string w A0 l0.length l0) (hc0 : l0.length ≤ c0) (h : zI.f l0 = some r) :
    Calls Try.prog 24 #[.slice A0 l0.length c0] w fun e w' => e = .returned (.string r) ∧ Below w.heap.size w w' := by
  unfold zI.f at h
  split at h
  · rename_i hs
    obtain rfl := Option.some.inj h
    exact zI.walk A0 c0 l0 w hr0 hc0 hs
  · cases h
end Go.Proofs.Ytcedkmjdigpdiaa.Px
