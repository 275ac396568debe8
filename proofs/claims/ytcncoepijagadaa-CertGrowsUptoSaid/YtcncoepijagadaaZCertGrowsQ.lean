/- Part 17 of 24 of the proof of the law CertGrows: what is proved is the statement at the end of the last part; its conditions are those of the given row. -/
import Derived.Test.YtcncoepijagadaaZCertGrowsN
namespace Go.Proofs.Ytcncoepijagadaa.Px
open Go.RowKit Go.Proofs.YtcncoepijagadaaW.PrintWords Go.Proofs.YtcncoepijagadaaW.PrintLast Go.Proofs.YtcncoepijagadaaW.PrintMore
attribute [local go_sem] zp zr zy zz zl zm zq zs
set_option linter.unusedVariables false
set_option linter.unusedSimpArgs false
theorem rrInfo5 : (Try.prog.info? 5).map (fun i => (i.zero,i.size,i.bytes)) = some (some (.int .u8 0),1,1) := by kernel_rfl
def zC.Rel (l : List ByteArray) (k : Nat) (w0 wr : World) (v : Value) : Prop := zar wr w0.heap.size 5 v (zcA l.length ++ za5 (l.take k)) ∧ Below w0.heap.size w0 wr
set_option maxRecDepth 100000 in
theorem zC.walk (A : Option Addr) (c : Nat) (l : List ByteArray) (w : World) (hr : Kd.C Kd.string w A l.length l) (hc : l.length ≤ c) (hs : (zbB l).length ≤ 140737488355328) :
  Calls Try.prog 36 #[.slice A l.length c] w fun e w' => e = .returned (.string (toB (zbB l))) ∧ Below w.heap.size w w' := by
 have hm := hr.2.1
 have hll := zgE l
 have hsum : (zbB l).length = (zcA l.length).length + (za5 l).length := by rw [zbB,List.length_append]
 have hlen : l.length ≤ 140737488355328 := by omega
 obtain ⟨k0,hk0⟩ := (zeg l.length (by omega)).rounds
 have HN := za.mk hk0
 have HR := za.mk hr
 have HS := za.mk hs
 have HU := za.mk hsum
 have kb := fun (W : World) (s : ByteArray) => Lib.run_convert_string_bytes (P := Try.prog) W 9 71 5 s Try.underlying9 Try.underlying71 Try.underlying5
 clear hr hs hll hsum hk0
 go_enter Try.func36,Try.ntmps36
 go_wp2_with (go_at_call 35;(with_reducible refine (zh.calls _ _ _ _ HN.out).mono ?_);rintro e w1 ⟨rfl,hb1⟩)
 have hw1 : Below w.heap.size w w1 := by assumption
 have HL : za (zC.Rel l 0 w (Lib.bytesWorld w1 5 (zaZ l.length)) (.slice (some ⟨w1.heap.size,0,none⟩) (zaZ l.length).size (grownCap w1 (zaZ l.length).size 0 5))) := ⟨by
  have h := zar.start w1 w.heap.size 5 (zaZ l.length) hw1.size (by have := zaE (v := l.length) (by omega);unfold maxLen;omega)
  rw [List.take_zero,show za5 [] = [] from rfl,List.append_nil]
  rw [zaZ,zcw] at h
  exact h,zel hw1 hw1.size 5 _⟩
 generalize Lib.bytesWorld w1 5 (zaZ l.length) = wb at *
 generalize Value.slice (some ⟨w1.heap.size,0,none⟩) (zaZ l.length).size (grownCap w1 (zaZ l.length).size 0 5) = vb at *
 clear hw1
 go_loopw [3,4] (fun v3 v4 wr => ∃ k : Nat,v4 = .int .i64 k ∧ k ≤ l.length ∧ za (zC.Rel l k w wr v3)) (fun _ v4 _ => l.length - (match v4 with | .int _ q => q | _ => 0).toNat)
 case atStart => exact ⟨0,rfl,Nat.zero_le _,HL⟩
 case round =>
  obtain ⟨k,rfl,hk,HK⟩ := hrel
  by_cases hlt : k < l.length
  ·obtain ⟨ad,rfl,hcell⟩ := Kd.at_string (Kd.C_below HR.out HK.out.2) (k : Int) (by omega) (by omega)
   rw [Int.toNat_natCast] at hcell
   have hb : decide (k < l.length) = true := decide_eq_true hlt
   have hx : l[k]? = some (zu ByteArray.empty l (k : Int)) := by
    rw [zu,Int.toNat_natCast,List.getD_eq_getElem?_getD,List.getElem?_eq_getElem hlt];rfl
   have HX := za.mk hx
   clear hx
   generalize zu ByteArray.empty l (k : Int) = s at *
   have hs := zdZ l k s HX.out
   have HT := za.mk (zc7 s (by have := HS.out;have := HU.out;omega))
   have h2 := zdQ l k s HX.out
   have h3 := zcC l (k + 1)
   rw [h2,List.length_append,zaa] at h3
   have H2 := za.mk h2
   have H3 : za ((zcA l.length ++ za5 (l.take k)).length + (zdE s).size ≤ 140737488355328) := ⟨by rw [List.length_append];have := HS.out;have := HU.out;omega⟩
   clear h2 h3 hs
   go_wp2_with (first | (go_at_call 66;(with_reducible refine (zaJ.calls _ _ _ HT.out).mono ?_);rintro e w3 ⟨rfl,hb3⟩;have HO := za.mk (zar.below HK.out.1 hb3);have HB := za.mk (zd HK.out.2 hb3);clear hb3) | (at_builtin;refine zd6 rfl _ _ 71 9 rfl w.heap.size 5 Try.underlying71 Try.underlying9 rrInfo5 _ _ rfl HO.out _ rfl HB.out H3.out HB.out.size ?_;intro v5 w5 ho5 hb5;have HL5 : za (zC.Rel l (k + 1) w w5 v5) := ⟨by rw [H2.out,← List.append_assoc];exact ho5,hb5⟩;clear ho5 hb5))
   go_roundw
   case rel => exact ⟨k + 1,by go_num,by omega,HL5⟩
   case measure => simp;omega
  ·obtain rfl : k = l.length := by omega
   have hs2 := HK.out.1.string Try.underlying71 Try.underlying5 9 Try.underlying9
   rw [List.take_of_length_le (Nat.le_refl _)] at hs2
   go_wp2
   go_ret
   exact ⟨rfl,HK.out.2⟩
def zC.f (l0 : List ByteArray) : Option (ByteArray) := if (zbB l0).length ≤ 140737488355328 then (some (toB (zbB l0))) else (none)
theorem zC.calls (A0 : Option Addr) (c0 : Nat) (l0 : List ByteArray) (r : ByteArray) (w : World) (hr0 : Kd.C Kd.string w A0 l0.length l0) (hc0 : l0.length ≤ c0) (h : zC.f l0 = some r) :
  Calls Try.prog 36 #[.slice A0 l0.length c0] w fun e w' => e = .returned (.string r) ∧ Below w.heap.size w w' := by
 unfold zC.f at h
 split at h
 ·rename_i hs
  obtain rfl := Option.some.inj h
  exact zC.walk A0 c0 l0 w hr0 hc0 hs
 ·cases h
mutual
def zi.j0 : Nat → Bool → Int → Int → List ByteArray → Option (Bool)
 | 0,_,_,_,_ => none
 | k + 1,x33,x154000,x154001,x154002 => if x33 = true then (some false) else (zi.l0 k 0 x154000 x154001 x154002)
def zi.l0 : Nat → Int → Int → Int → List ByteArray → Option (Bool)
 | 0,_,_,_,_ => none
 | k + 1,x3,x154000,x154001,x154002 => if x3 < (x154002.length : Int) then (if 0 ≤ x3 then (if ((zu ByteArray.empty x154002 x3).size : Int) < 1 then (some false) else (if ((zu ByteArray.empty x154002 x3).size : Int) > 48 then (some false) else (zi.l0 k (wrap64 (x3 + 1)) x154000 x154001 x154002))) else (none)) else (some true)
end
def zi.f (k : Nat) (a0_0 : Int) (a0_1 : Int) (l0_2 : List ByteArray) : Option (Bool) := if a0_0 < 1 then (zi.j0 k true a0_0 a0_1 l0_2) else (if a0_0 > 64 then (zi.j0 k true a0_0 a0_1 l0_2) else (if a0_1 < 1 then (zi.j0 k true a0_0 a0_1 l0_2) else (if a0_1 > 1073741824 then (zi.j0 k true a0_0 a0_1 l0_2) else (if (l0_2.length : Int) < 1 then (zi.j0 k true a0_0 a0_1 l0_2) else (zi.j0 k (decide ((l0_2.length : Int) > 4)) a0_0 a0_1 l0_2)))))
set_option maxHeartbeats 8000000 in
set_option maxRecDepth 100000 in
theorem zi.calls (k : Nat) (a0_0 : Int) (a0_1 : Int) (A0_2 : Option Addr) (c0_2 : Nat) (l0_2 : List ByteArray) (r : Bool) (w : World) (hr0_2 : Kd.C Kd.string w A0_2 l0_2.length l0_2) (hc0_2 : l0_2.length ≤ c0_2) (h : zi.f k a0_0 a0_1 l0_2 = some r) :
  Calls Try.prog 62 #[.agg #[.int .i64 a0_0,.int .i64 a0_1,.slice A0_2 l0_2.length c0_2]] w fun e w' => e = .returned (.bool r) ∧ Below w.heap.size w w' := by
 have hu50 := Try.underlying50
 have HR0_2 := za.mk hr0_2
 have HC0_2 := za.mk hc0_2
 clear hr0_2 hc0_2
 have HB := za.mk (Below.refl w.heap.size w)
 have H : (if a0_0 < 1 then (zi.j0 k true a0_0 a0_1 l0_2) else (if a0_0 > 64 then (zi.j0 k true a0_0 a0_1 l0_2) else (if a0_1 < 1 then (zi.j0 k true a0_0 a0_1 l0_2) else (if a0_1 > 1073741824 then (zi.j0 k true a0_0 a0_1 l0_2) else (if (l0_2.length : Int) < 1 then (zi.j0 k true a0_0 a0_1 l0_2) else (zi.j0 k (decide ((l0_2.length : Int) > 4)) a0_0 a0_1 l0_2)))))) = some r := h
 clear h
 have HC2 := za.mk H
 clear H
 go_enter Try.func62,Try.ntmps62
 go_upto_region 1 with (first | ((with_reducible refine zo (N := 1) rfl ?_);(try (refine zcU (by rfl) ?_;dsimp only));refine zk rfl (N := 1) rfl (cs := #[.int .i64 a0_0,.int .i64 a0_1,.slice A0_2 l0_2.length c0_2]) (t := 50) hrq ?_;intro gb153 hg w3 hbox hb;have n_ := haq (zd hBq hb) <| haq (hbox) <| haq ((by rw [hg];exact (zf hBq) : w.heap.size ≤ gb153)) <| haq ((by rw [hg];exact (zf hBq) : w.heap.size ≤ gb153)) <| trivial;clear HB;obtain ⟨HB,BK153,GW153,GE153,_⟩ := n_;clear hb hbox hg))
 (try simp only [Act.put,List.setIfInBounds_toArray,List.set_cons_zero,List.set_cons_succ])
 go_cut [33] (fun v33 wc => ∃ (kq : Nat) (x33_1 : Bool),v33 = .bool x33_1 ∧ za (zi.j0 kq x33_1 a0_0 a0_1 l0_2 = some r) ∧ za (kq ≤ k) ∧ za (wc.heap[gb153]? = some (.cells #[.int .i64 a0_0,.int .i64 a0_1,(.slice A0_2 l0_2.length c0_2)] 50 (0,0))) ∧ za (Below w.heap.size w wc))
 case first =>
  have H := HC2.out
  clear HC2
  by_cases c4 : a0_0 < 1
  ·rw [if_pos c4] at H
   have c4b0 : decide (a0_0 < 1) = true := decide_eq_true c4
   clear c4
   (first | rw [c4b0] | (simp only [zaB,zaL];rw [c4b0]) | skip)
   have H' := za.mk H
   clear H
   obtain ⟨hcz5_0,hcz5_1,hcz5_2,hfz5_0,hfz5_1,hfz5_2⟩ := hcq3 BK153.out
   go_wp2
   go_meet
   case rel => exact ⟨_,(true),(hDq),H',⟨by first | omega | exact Nat.le_refl _⟩,⟨hGq BK153.out⟩,⟨by repeat (first | (with_reducible first | exact HB.out | apply zw | apply zg | apply zn | refine zE ?_ GE153.out) | exact HB.out)⟩⟩
  ·rw [if_neg c4] at H
   have c4b0 : decide (a0_0 < 1) = false := decide_eq_false c4
   clear c4
   (first | rw [c4b0] | (simp only [zaB,zaL];rw [c4b0]) | skip)
   by_cases c6 : a0_0 > 64
   ·rw [if_pos c6] at H
    have c6b0 : decide (64 < a0_0) = true := decide_eq_true c6
    clear c6
    have H' := za.mk H
    clear H
    obtain ⟨hcz7_0,hcz7_1,hcz7_2,hfz7_0,hfz7_1,hfz7_2⟩ := hcq3 BK153.out
    go_wp2
    go_meet
    case rel => exact ⟨_,(true),(hDq),H',⟨by first | omega | exact Nat.le_refl _⟩,⟨hGq BK153.out⟩,⟨by repeat (first | (with_reducible first | exact HB.out | apply zw | apply zg | apply zn | refine zE ?_ GE153.out) | exact HB.out)⟩⟩
   ·rw [if_neg c6] at H
    have c6b0 : decide (64 < a0_0) = false := decide_eq_false c6
    clear c6
    by_cases c8 : a0_1 < 1
    ·rw [if_pos c8] at H
     have c8b0 : decide (a0_1 < 1) = true := decide_eq_true c8
     clear c8
     have H' := za.mk H
     clear H
     obtain ⟨hcz9_0,hcz9_1,hcz9_2,hfz9_0,hfz9_1,hfz9_2⟩ := hcq3 BK153.out
     go_wp2
     go_meet
     case rel => exact ⟨_,(true),(hDq),H',⟨by first | omega | exact Nat.le_refl _⟩,⟨hGq BK153.out⟩,⟨by repeat (first | (with_reducible first | exact HB.out | apply zw | apply zg | apply zn | refine zE ?_ GE153.out) | exact HB.out)⟩⟩
    ·rw [if_neg c8] at H
     have c8b0 : decide (a0_1 < 1) = false := decide_eq_false c8
     clear c8
     by_cases c10 : a0_1 > 1073741824
     ·rw [if_pos c10] at H
      have c10b0 : decide (1073741824 < a0_1) = true := decide_eq_true c10
      clear c10
      have H' := za.mk H
      clear H
      obtain ⟨hcz11_0,hcz11_1,hcz11_2,hfz11_0,hfz11_1,hfz11_2⟩ := hcq3 BK153.out
      go_wp2
      go_meet
      case rel => exact ⟨_,(true),(hDq),H',⟨by first | omega | exact Nat.le_refl _⟩,⟨hGq BK153.out⟩,⟨by repeat (first | (with_reducible first | exact HB.out | apply zw | apply zg | apply zn | refine zE ?_ GE153.out) | exact HB.out)⟩⟩
     ·rw [if_neg c10] at H
      have c10b0 : decide (1073741824 < a0_1) = false := decide_eq_false c10
      clear c10
      by_cases c12 : (l0_2.length : Int) < 1
      ·rw [if_pos c12] at H
       have c12b0 : decide ((l0_2.length : Int) < 1) = true := decide_eq_true c12
       have c12b1 : decide (l0_2.length < 1) = true := decide_eq_true (by omega)
       clear c12
       have H' := za.mk H
       clear H
       obtain ⟨hcz13_0,hcz13_1,hcz13_2,hfz13_0,hfz13_1,hfz13_2⟩ := hcq3 BK153.out
       go_wp2
       go_meet
       case rel => exact ⟨_,(true),(hDq),H',⟨by first | omega | exact Nat.le_refl _⟩,⟨hGq BK153.out⟩,⟨by repeat (first | (with_reducible first | exact HB.out | apply zw | apply zg | apply zn | refine zE ?_ GE153.out) | exact HB.out)⟩⟩
      ·rw [if_neg c12] at H
       have c12b0 : decide ((l0_2.length : Int) < 1) = false := decide_eq_false c12
       have c12b1 : decide (l0_2.length < 1) = false := decide_eq_false (by omega)
       clear c12
       have H' := za.mk H
       clear H
       obtain ⟨hcz14_0,hcz14_1,hcz14_2,hfz14_0,hfz14_1,hfz14_2⟩ := hcq3 BK153.out
       go_wp2
       go_meet
       case rel => exact ⟨_,(decide ((l0_2.length : Int) > 4)),(hDq),H',⟨by first | omega | exact Nat.le_refl _⟩,⟨hGq BK153.out⟩,⟨by repeat (first | (with_reducible first | exact HB.out | apply zw | apply zg | apply zn | refine zE ?_ GE153.out) | exact HB.out)⟩⟩
 case rest =>
  clear HC2
  try clear c1;try clear p2;try clear c4;try clear c4b0;try clear c6;try clear c6b0;try clear c8;try clear c8b0;try clear c10;try clear c10b0;try clear c12;try clear c12b0;try clear c12b1;try clear hcz11_0;try clear hcz11_1;try clear hcz11_2;try clear hcz13_0;try clear hcz13_1;try clear hcz13_2;try clear hcz14_0;try clear hcz14_1;try clear hcz14_2;try clear hcz5_0;try clear hcz5_1;try clear hcz5_2;try clear hcz7_0;try clear hcz7_1;try clear hcz7_2;try clear hcz9_0;try clear hcz9_1;try clear hcz9_2;try clear hfz11_0;try clear hfz11_1;try clear hfz11_2;try clear hfz13_0;try clear hfz13_1;try clear hfz13_2;try clear hfz14_0;try clear hfz14_1;try clear hfz14_2;try clear hfz5_0;try clear hfz5_1;try clear hfz5_2;try clear hfz7_0;try clear hfz7_1;try clear hfz7_2;try clear hfz9_0;try clear hfz9_1;try clear hfz9_2
  obtain ⟨kq,x33_1,rfl,HA,HJ1,BK153,HB⟩ := hcut
  cases kq with
  | zero => exact absurd HA.out (by simp [zi.j0])
  | succ kj1 =>
   have H := HA.out
   clear HA
   simp only [zi.j0] at H
   by_cases c15 : x33_1 = true
   ·subst c15
    have H1 : (some false) = some r := by rw [if_pos rfl] at H;exact H
    clear H
    have H := H1
    clear H1
    obtain rfl := Option.some.inj H
    go_wp2
    go_ret
    exact ⟨hHq,hCq⟩
   ·replace c15 := Bool.eq_false_iff.mpr c15
    subst c15
    have H1 : (zi.l0 kj1 0 a0_0 a0_1 l0_2) = some r := by rw [if_neg (show ¬ (false = true) by decide)] at H;exact H
    clear H
    have H := H1
    clear H1
    have H' := za.mk H
    clear H
    go_wp2
    go_loopg [3] kj1 (fun kq v3 w' => ∃ (x3_2 : Int),v3 = .int .i64 x3_2 ∧ za (zi.l0 kq x3_2 a0_0 a0_1 l0_2 = some r) ∧ za (kq ≤ kj1) ∧ za (w'.heap[gb153]? = some (.cells #[.int .i64 a0_0,.int .i64 a0_1,(.slice A0_2 l0_2.length c0_2)] 50 (0,0))) ∧ za (Below w.heap.size w w'))
    case atStart => exact ⟨(0),(hDq),H',⟨Nat.le_refl _⟩,⟨hGq BK153.out⟩,⟨by repeat (first | (with_reducible first | exact HB.out | apply zw | apply zg | apply zn | refine zE ?_ GE153.out) | exact HB.out)⟩⟩
    case round =>
     clear H'
     try clear c1;try clear p2;try clear c4;try clear c4b0;try clear c6;try clear c6b0;try clear c8;try clear c8b0;try clear c10;try clear c10b0;try clear c12;try clear c12b0;try clear c12b1;try clear c15;try clear hcz11_0;try clear hcz11_1;try clear hcz11_2;try clear hcz13_0;try clear hcz13_1;try clear hcz13_2;try clear hcz14_0;try clear hcz14_1;try clear hcz14_2;try clear hcz5_0;try clear hcz5_1;try clear hcz5_2;try clear hcz7_0;try clear hcz7_1;try clear hcz7_2;try clear hcz9_0;try clear hcz9_1;try clear hcz9_2;try clear hfz11_0;try clear hfz11_1;try clear hfz11_2;try clear hfz13_0;try clear hfz13_1;try clear hfz13_2;try clear hfz14_0;try clear hfz14_1;try clear hfz14_2;try clear hfz5_0;try clear hfz5_1;try clear hfz5_2;try clear hfz7_0;try clear hfz7_1;try clear hfz7_2;try clear hfz9_0;try clear hfz9_1;try clear hfz9_2;try clear p2
     obtain ⟨x3_2,rfl,HA,HK2,BK153,HB⟩ := hrel
     cases gk with
     | zero => exact absurd HA.out (by simp [zi.l0])
     | succ k2 =>
      have H := HA.out
      clear HA
      simp only [zi.l0] at H
      by_cases c16 : x3_2 < (l0_2.length : Int)
      ·rw [if_pos c16] at H
       have c16b0 : decide (x3_2 < (l0_2.length : Int)) = true := decide_eq_true c16
       clear c16
       by_cases c17 : 0 ≤ x3_2
       ·rw [if_pos c17] at H
        have c17b0 : decide (0 ≤ x3_2) = true := decide_eq_true c17
        clear c17
        by_cases c18 : ((zu ByteArray.empty l0_2 x3_2).size : Int) < 1
        ·rw [if_pos c18] at H
         have c18b0 : decide (((zu ByteArray.empty l0_2 x3_2).size : Int) < 1) = true := decide_eq_true c18
         have c18b1 : decide ((zu ByteArray.empty l0_2 x3_2).size < 1) = true := decide_eq_true (by omega)
         clear c18
         obtain rfl := Option.some.inj H
         obtain ⟨hcz19_0,hcz19_1,hcz19_2,hfz19_0,hfz19_1,hfz19_2⟩ := hcq3 BK153.out
         have p154 : 0 ≤ (x3_2 : Int) := hFq
         have q154 : x3_2 < (l0_2.length : Int) := hFq
         obtain ⟨ad154,e154,hx154_0⟩ := Kd.at_string HR0_2.out x3_2 p154 q154
         cases e154
         replace hx154_0 := (HB.out.cell (World.block_lt_of_cell? w _ hx154_0)).trans hx154_0
         replace p154 := eq_true p154
         replace q154 := eq_true q154
         go_wp2
         go_ret
         exact ⟨hHq,hCq⟩
        ·rw [if_neg c18] at H
         have c18b0 : decide (((zu ByteArray.empty l0_2 x3_2).size : Int) < 1) = false := decide_eq_false c18
         have c18b1 : decide ((zu ByteArray.empty l0_2 x3_2).size < 1) = false := decide_eq_false (by omega)
         clear c18
         by_cases c20 : ((zu ByteArray.empty l0_2 x3_2).size : Int) > 48
         ·rw [if_pos c20] at H
          have c20b0 : decide (48 < ((zu ByteArray.empty l0_2 x3_2).size : Int)) = true := decide_eq_true c20
          have c20b1 : decide (48 < (zu ByteArray.empty l0_2 x3_2).size) = true := decide_eq_true (by omega)
          clear c20
          obtain rfl := Option.some.inj H
          obtain ⟨hcz21_0,hcz21_1,hcz21_2,hfz21_0,hfz21_1,hfz21_2⟩ := hcq3 BK153.out
          have p154 : 0 ≤ (x3_2 : Int) := hFq
          have q154 : x3_2 < (l0_2.length : Int) := hFq
          obtain ⟨ad154,e154,hx154_0⟩ := Kd.at_string HR0_2.out x3_2 p154 q154
          cases e154
          replace hx154_0 := (HB.out.cell (World.block_lt_of_cell? w _ hx154_0)).trans hx154_0
          replace p154 := eq_true p154
          replace q154 := eq_true q154
          have p155 : 0 ≤ (x3_2 : Int) := hFq
          have q155 : x3_2 < (l0_2.length : Int) := hFq
          obtain ⟨ad155,e155,hx155_0⟩ := Kd.at_string HR0_2.out x3_2 p155 q155
          obtain rfl : ad154 = ad155 := (by injection e155)
          replace hx155_0 := (HB.out.cell (World.block_lt_of_cell? w _ hx155_0)).trans hx155_0
          replace p155 := eq_true p155
          replace q155 := eq_true q155
          go_wp2
          go_ret
          exact ⟨hHq,hCq⟩
         ·rw [if_neg c20] at H
          have c20b0 : decide (48 < ((zu ByteArray.empty l0_2 x3_2).size : Int)) = false := decide_eq_false c20
          have c20b1 : decide (48 < (zu ByteArray.empty l0_2 x3_2).size) = false := decide_eq_false (by omega)
          clear c20
          have H' := za.mk H
          clear H
          obtain ⟨hcz22_0,hcz22_1,hcz22_2,hfz22_0,hfz22_1,hfz22_2⟩ := hcq3 BK153.out
          have p154 : 0 ≤ (x3_2 : Int) := hFq
          have q154 : x3_2 < (l0_2.length : Int) := hFq
          obtain ⟨ad154,e154,hx154_0⟩ := Kd.at_string HR0_2.out x3_2 p154 q154
          cases e154
          replace hx154_0 := (HB.out.cell (World.block_lt_of_cell? w _ hx154_0)).trans hx154_0
          replace p154 := eq_true p154
          replace q154 := eq_true q154
          have p155 : 0 ≤ (x3_2 : Int) := hFq
          have q155 : x3_2 < (l0_2.length : Int) := hFq
          obtain ⟨ad155,e155,hx155_0⟩ := Kd.at_string HR0_2.out x3_2 p155 q155
          obtain rfl : ad154 = ad155 := (by injection e155)
          replace hx155_0 := (HB.out.cell (World.block_lt_of_cell? w _ hx155_0)).trans hx155_0
          replace p155 := eq_true p155
          replace q155 := eq_true q155
          go_wp2
          go_roundg k2
          case measure => have := HJ1.out;have := HK2.out;omega
          case rel => exact ⟨(wrap64 (x3_2 + 1)),(hDq),H',⟨by have := HJ1.out;have := HK2.out;omega⟩,⟨hGq BK153.out⟩,⟨by repeat (first | (with_reducible first | exact HB.out | apply zw | apply zg | apply zn | refine zE ?_ GE153.out) | exact HB.out)⟩⟩
       ·rw [if_neg c17] at H
        exact absurd H (by simp)
      ·rw [if_neg c16] at H
       have c16b0 : decide (x3_2 < (l0_2.length : Int)) = false := decide_eq_false c16
       clear c16
       obtain rfl := Option.some.inj H
       obtain ⟨hcz23_0,hcz23_1,hcz23_2,hfz23_0,hfz23_1,hfz23_2⟩ := hcq3 BK153.out
       go_wp2
       go_ret
       exact ⟨hHq,hCq⟩
def zN.f (k : Nat) (a0_0 : Int) (a0_1 : Int) (l0_2 : List ByteArray) : Option (ByteArray × Int) := (zi.f k a0_0 a0_1 l0_2).bind fun t177 => (if t177 = true then ((zh.f k (IntKind.u64.wrap (a0_0))).bind fun t178 => ((zh.f k (IntKind.u64.wrap (a0_1))).bind fun t179 => (if t178.size + t179.size ≤ 9223372036854775807 then ((zC.f l0_2).bind fun t180 => (if (t178 ++ t179).size + t180.size ≤ 9223372036854775807 then (some ((t178 ++ t179) ++ t180,0)) else (none))) else (none)))) else (some ((⟨#[]⟩ : ByteArray),1)))
def zN.T4 : Bool × List (List Nat × List Nat) := (true,[([],[]),([0],[0]),([1],[1]),([2],[2]),([],[]),([4],[4]),([5],[5]),([6,3],[6]),([3,7],[3,7]),([],[]),([9],[9]),([10,7],[10]),([8,11],[8,11]),([12,11,0,1,2,3,4,5,6,7,8,9,10,11,12],[12]),([13,0,1,2,3,4,5,6,7,8,9,10,11,12,13],[])])
def zN.B4 : List Nat := [0,1,3,7,0,16,48,127,255,0,512,1791,4095,8191,16383]
theorem zN.tab4 : zbT .any (ze5 Try.f34 4) = zN.T4 := by kernel_rfl
theorem zN.bits4 : zbU zN.T4.2 zN.B4 = true := by kernel_rfl
set_option maxHeartbeats 8000000 in
set_option maxRecDepth 100000 in
theorem zN.calls (k : Nat) (a0_0 : Int) (a0_1 : Int) (A0_2 : Option Addr) (c0_2 : Nat) (l0_2 : List ByteArray) (r1 : ByteArray) (r2 : Int) (w : World) (hr0_2 : Kd.C Kd.string w A0_2 l0_2.length l0_2) (hc0_2 : l0_2.length ≤ c0_2) (h : zN.f k a0_0 a0_1 l0_2 = some (r1,r2)) :
  Calls Try.prog 34 #[.agg #[.int .i64 a0_0,.int .i64 a0_1,.slice A0_2 l0_2.length c0_2]] w fun e w' => e = .returned (.tuple #[.string r1,.int .i64 r2]) ∧ Below w.heap.size w w' := by
 have hu50 := Try.underlying50
 have HR0_2 := za.mk hr0_2
 have HC0_2 := za.mk hc0_2
 clear hr0_2 hc0_2
 have HB := za.mk (Below.refl w.heap.size w)
 have H : ((zi.f k a0_0 a0_1 l0_2).bind fun t177 => (if t177 = true then ((zh.f k (IntKind.u64.wrap (a0_0))).bind fun t178 => ((zh.f k (IntKind.u64.wrap (a0_1))).bind fun t179 => (if t178.size + t179.size ≤ 9223372036854775807 then ((zC.f l0_2).bind fun t180 => (if (t178 ++ t179).size + t180.size ≤ 9223372036854775807 then (some ((t178 ++ t179) ++ t180,0)) else (none))) else (none)))) else (some ((⟨#[]⟩ : ByteArray),1)))) = some (r1,r2) := h
 clear h
 replace H := Option.bind_eq_some_iff.mp H
 obtain ⟨t177,A20,H⟩ := H
 replace H : (if t177 = true then ((zh.f k (IntKind.u64.wrap (a0_0))).bind fun t178 => ((zh.f k (IntKind.u64.wrap (a0_1))).bind fun t179 => (if t178.size + t179.size ≤ 9223372036854775807 then ((zC.f l0_2).bind fun t180 => (if (t178 ++ t179).size + t180.size ≤ 9223372036854775807 then (some ((t178 ++ t179) ++ t180,0)) else (none))) else (none)))) else (some ((⟨#[]⟩ : ByteArray),1))) = some (r1,r2) := H
 have A2 := za.mk A20
 clear A20
 by_cases c3 : t177 = true
 ·subst c3
  have H1 : ((zh.f k (IntKind.u64.wrap (a0_0))).bind fun t178 => ((zh.f k (IntKind.u64.wrap (a0_1))).bind fun t179 => (if t178.size + t179.size ≤ 9223372036854775807 then ((zC.f l0_2).bind fun t180 => (if (t178 ++ t179).size + t180.size ≤ 9223372036854775807 then (some ((t178 ++ t179) ++ t180,0)) else (none))) else (none)))) = some (r1,r2) := by rw [if_pos rfl] at H;exact H
  clear H
  have H := H1
  clear H1
  replace H := Option.bind_eq_some_iff.mp H
  obtain ⟨t178,A40,H⟩ := H
  replace H : ((zh.f k (IntKind.u64.wrap (a0_1))).bind fun t179 => (if t178.size + t179.size ≤ 9223372036854775807 then ((zC.f l0_2).bind fun t180 => (if (t178 ++ t179).size + t180.size ≤ 9223372036854775807 then (some ((t178 ++ t179) ++ t180,0)) else (none))) else (none))) = some (r1,r2) := H
  have A4 := za.mk A40
  clear A40
  replace H := Option.bind_eq_some_iff.mp H
  obtain ⟨t179,A50,H⟩ := H
  replace H : (if t178.size + t179.size ≤ 9223372036854775807 then ((zC.f l0_2).bind fun t180 => (if (t178 ++ t179).size + t180.size ≤ 9223372036854775807 then (some ((t178 ++ t179) ++ t180,0)) else (none))) else (none)) = some (r1,r2) := H
  have A5 := za.mk A50
  clear A50
  by_cases c6 : t178.size + t179.size ≤ 9223372036854775807
  ·rw [if_pos c6] at H
   have c6b0 := eq_true c6
   have c6b1 : decide (t178.size + t179.size ≤ 9223372036854775807) = true := decide_eq_true c6
   try have c6b2 : (9223372036854775807 < t178.size + t179.size) = False := eq_false (Nat.not_lt.2 c6)
   replace H := Option.bind_eq_some_iff.mp H
   obtain ⟨t180,A70,H⟩ := H
   replace H : (if (t178 ++ t179).size + t180.size ≤ 9223372036854775807 then (some ((t178 ++ t179) ++ t180,0)) else (none)) = some (r1,r2) := H
   have A7 := za.mk A70
   clear A70
   by_cases c8 : (t178 ++ t179).size + t180.size ≤ 9223372036854775807
   ·rw [if_pos c8] at H
    have c8b0 := eq_true c8
    have c8b1 : decide ((t178 ++ t179).size + t180.size ≤ 9223372036854775807) = true := decide_eq_true c8
    try have c8b2 : (9223372036854775807 < (t178 ++ t179).size + t180.size) = False := eq_false (Nat.not_lt.2 c8)
    try (have c8b3 := c8;simp [ByteArray.size_append] at c8b3;have c8b4 := eq_false (Nat.not_lt.2 c8b3);clear c8b3)
    simp only [Option.some.injEq,Prod.mk.injEq] at H
    obtain ⟨rfl,rfl⟩ := H
    go_enter Try.func34,Try.ntmps34
    try go_wp2_with (first | ((with_reducible refine zo (N := 1) rfl ?_);refine zk rfl (N := 1) rfl (cs := #[.int .i64 a0_0,.int .i64 a0_1,.slice A0_2 l0_2.length c0_2]) (t := 50) hrq ?_;intro gb176 hg w9 hbox hb;have n_ := haq (zd hBq hb) <| haq (hbox) <| haq ((by rw [hg];exact (zf hBq) : w.heap.size ≤ gb176)) <| haq ((by rw [hg];exact (zf hBq) : w.heap.size ≤ gb176)) <| trivial;clear HB;obtain ⟨HB,BK176,GW176,GE176,_⟩ := n_;clear hb hbox hg;obtain ⟨hcz10_0,hcz10_1,hcz10_2,hfz10_0,hfz10_1,hfz10_2⟩ := hcq3 BK176.out) | ((with_reducible refine zv (f := 62) rfl ?_);refine zT (some 6) rfl rfl Try.func62 (by kernel_rfl) rfl #[.agg #[.int .i64 a0_0,.int .i64 a0_1,.slice A0_2 l0_2.length c0_2]] rfl hMq ?_;(with_reducible refine (zi.calls k a0_0 a0_1 _ _ l0_2 true _ ?side1 ?side2 A2.out).mono ?_);(case side1 => exact hKq (Kd.C_below HR0_2.out HB.out));(case side2 => exact HC0_2.out);rintro e w11 ⟨rfl,hb⟩;refine ⟨_,rfl,?_⟩;have n_ := haq (hbq BK176.out hb) <| haq (zd hCq hb) <| trivial;clear BK176 HB;obtain ⟨BK176,HB,_⟩ := n_;(try clear hb);(try clear hb2);(try clear hk);(try clear hi)))
    have n0_ := za.mk (zav BK176.out)
    have n1_ := za.mk (zn HB.out)
    clear BK176
    clear HB
    have BK176 := n0_
    have HB := n1_
    clear n0_ n1_
    refine zcq (n := 15) (S := fun w' => w'.cell? ⟨gb176,0,none⟩ = some (.int .i64 a0_0) ∧ w'.cell? ⟨gb176,1,none⟩ = some (.int .i64 a0_1) ∧ w'.cell? ⟨gb176,2,none⟩ = some (.slice A0_2 l0_2.length c0_2)) (ds := []) (uQ 15 0) (by kernel_rfl) rfl rfl ⟨(zb BK176.out 0).trans rfl,(zb BK176.out 1).trans rfl,(zb BK176.out 2).trans rfl⟩ (fun hHeld => ?_);refine zbM zN.tab4 zN.bits4 (fun HT_ HW_ => ?_)
    generalize w11.drew = w12 at BK176 HB hHeld ⊢
    refine puq (i := 0) (N := some 9) HT_.out (uQ 15 1) ?_
    refine puq (i := 4) (N := some 13) HT_.out #[true,false,false,false,true,false,false,false,false,false,false,false,false,false,false] ?_
    refine puq (i := 9) (N := some 18) HT_.out #[true,false,false,false,true,false,false,false,false,true,false,false,false,false,false] ?_
    refine take_ (i := 1) (N := some 10) #[true,true,false,false,true,false,false,false,false,true,false,false,false,false,false] rfl rfl (zaD HT_.out HW_.out (by kernel_rfl)) (fun _ _ _ h => h) (Or.inl ⟨by rfl,by rintro w' ⟨s0,s1,s2⟩;go_simp;with_reducible rfl⟩) hHeld hPq ?_
    refine puq (i := 2) (N := some 11) HT_.out #[true,true,true,false,true,false,false,false,false,true,false,false,false,false,false] ?_
    refine take_ (i := 5) (N := some 14) #[true,true,true,false,true,true,false,false,false,true,false,false,false,false,false] rfl rfl (zaD HT_.out HW_.out (by kernel_rfl)) (fun _ _ _ h => h) (Or.inl ⟨by rfl,by rintro w' ⟨s0,s1,s2⟩;go_simp;with_reducible rfl⟩) hHeld hPq ?_
    refine puq (i := 6) (N := some 15) HT_.out #[true,true,true,false,true,true,true,false,false,true,false,false,false,false,false] ?_
    refine take_ (i := 10) (N := some 19) #[true,true,true,false,true,true,true,false,false,true,true,false,false,false,false] rfl rfl (zaD HT_.out HW_.out (by kernel_rfl)) (fun _ _ _ h => h) (Or.inl ⟨by rfl,by rintro w' ⟨s0,s1,s2⟩;go_simp;with_reducible rfl⟩) hHeld hPq ?_
    refine zcg (i := 3) (N := some 12) #[true,true,true,true,true,true,true,false,false,true,true,false,false,false,false] rfl rfl (zbp HT_.out (by kernel_rfl)) (by decide) (fun K hK => ?_)
    refine zbz Try.func35 (by kernel_rfl) rfl #[.int .u64 (IntKind.u64.wrap (a0_0))] (by rfl) rfl rfl hMq ?_
    with_reducible refine (zh.calls k (IntKind.u64.wrap (a0_0)) t178 _ A4.out).mono ?_
    rintro e w13 ⟨rfl,hb⟩
    refine ⟨_,rfl,?_⟩
    have n0_ := za.mk (hbq BK176.out hb)
    have n1_ := za.mk (zd hCq hb)
    clear BK176
    clear HB
    have BK176 := n0_
    have HB := n1_
    clear n0_ n1_
    (try clear hb)
    (try clear hb2)
    (try clear hk)
    (try clear hi)
    refine hK.out _ _ ⟨(zb BK176.out 0).trans rfl,(zb BK176.out 1).trans rfl,(zb BK176.out 2).trans rfl⟩ (fun hHeld => ?_)
    clear hK K
    refine zbr (a' := ?_) ?_ ?_
    rotate_left
    ·show Act.put _ (some 12) _ = _
     simp only [Act.put,List.setIfInBounds_toArray,List.set_cons_zero,List.set_cons_succ,zaB,zaL]
     rfl
    refine zcg (i := 7) (N := some 16) #[true,true,true,true,true,true,true,true,false,true,true,false,false,false,false] rfl rfl (zbp HT_.out (by kernel_rfl)) (by decide) (fun K hK => ?_)
    refine zbz Try.func35 (by kernel_rfl) rfl #[.int .u64 (IntKind.u64.wrap (a0_1))] (by rfl) rfl rfl hMq ?_
    with_reducible refine (zh.calls k (IntKind.u64.wrap (a0_1)) t179 _ A5.out).mono ?_
    rintro e w14 ⟨rfl,hb⟩
    refine ⟨_,rfl,?_⟩
    have n0_ := za.mk (hbq BK176.out hb)
    have n1_ := za.mk (zd hCq hb)
    clear BK176
    clear HB
    have BK176 := n0_
    have HB := n1_
    clear n0_ n1_
    (try clear hb)
    (try clear hb2)
    (try clear hk)
    (try clear hi)
    refine hK.out _ _ ⟨(zb BK176.out 0).trans rfl,(zb BK176.out 1).trans rfl,(zb BK176.out 2).trans rfl⟩ (fun hHeld => ?_)
    clear hK K
    refine zbr (a' := ?_) ?_ ?_
    rotate_left
    ·show Act.put _ (some 16) _ = _
     simp only [Act.put,List.setIfInBounds_toArray,List.set_cons_zero,List.set_cons_succ,zaB,zaL]
     rfl
    refine puq (i := 8) (N := some 17) HT_.out (uQ 15 11) ?_
    refine zcg (i := 11) (N := some 20) (uQ 15 12) rfl rfl (zbp HT_.out (by kernel_rfl)) (by decide) (fun K hK => ?_)
    refine zbz Try.func36 (by kernel_rfl) rfl #[.slice A0_2 l0_2.length c0_2] (by rfl) rfl rfl hMq ?_
    with_reducible refine (zC.calls _ _ l0_2 t180 _ ?side1 ?side2 A7.out).mono ?_
    (case side1 => exact hKq (Kd.C_below HR0_2.out HB.out))
    (case side2 => exact HC0_2.out)
    rintro e w15 ⟨rfl,hb⟩
    refine ⟨_,rfl,?_⟩
    have n0_ := za.mk (hbq BK176.out hb)
    have n1_ := za.mk (zd hCq hb)
    clear BK176
    clear HB
    have BK176 := n0_
    have HB := n1_
    clear n0_ n1_
    (try clear hb)
    (try clear hb2)
    (try clear hk)
    (try clear hi)
    refine hK.out _ _ ⟨(zb BK176.out 0).trans rfl,(zb BK176.out 1).trans rfl,(zb BK176.out 2).trans rfl⟩ (fun hHeld => ?_)
    clear hK K
    refine zbr (a' := ?_) ?_ ?_
    rotate_left
    ·show Act.put _ (some 20) _ = _
     simp only [Act.put,List.setIfInBounds_toArray,List.set_cons_zero,List.set_cons_succ,zaB,zaL]
     rfl
    refine puq (i := 12) (N := some 21) HT_.out (uQ 15 13) ?_
    refine puq (i := 13) (N := some 2) HT_.out (uQ 15 14) ?_
    refine puq (i := 14) (N := some 3) HT_.out (uQ 15 15) ?_
    refine zdc (zcu HT_.out (by kernel_rfl)) ?_
    try go_wp2
    go_ret2
    exact ⟨hHq,hCq⟩
   ·rw [if_neg c8] at H
    exact absurd H (by simp)
  ·rw [if_neg c6] at H
   exact absurd H (by simp)
 ·replace c3 := Bool.eq_false_iff.mpr c3
  subst c3
  have H1 : (some ((⟨#[]⟩ : ByteArray),1)) = some (r1,r2) := by rw [if_neg (show ¬ (false = true) by decide)] at H;exact H
  clear H
  have H := H1
  clear H1
  simp only [Option.some.injEq,Prod.mk.injEq] at H
  obtain ⟨rfl,rfl⟩ := H
  go_enter Try.func34,Try.ntmps34
  go_wp2_with (first | ((with_reducible refine zo (N := 1) rfl ?_);refine zk rfl (N := 1) rfl (cs := #[.int .i64 a0_0,.int .i64 a0_1,.slice A0_2 l0_2.length c0_2]) (t := 50) hrq ?_;intro gb176 hg w16 hbox hb;have n_ := haq (zd hBq hb) <| haq (hbox) <| haq ((by rw [hg];exact (zf hBq) : w.heap.size ≤ gb176)) <| haq ((by rw [hg];exact (zf hBq) : w.heap.size ≤ gb176)) <| trivial;clear HB;obtain ⟨HB,BK176,GW176,GE176,_⟩ := n_;clear hb hbox hg;obtain ⟨hcz17_0,hcz17_1,hcz17_2,hfz17_0,hfz17_1,hfz17_2⟩ := hcq3 BK176.out) | ((with_reducible refine zv (f := 62) rfl ?_);refine zT (some 6) rfl rfl Try.func62 (by kernel_rfl) rfl #[.agg #[.int .i64 a0_0,.int .i64 a0_1,.slice A0_2 l0_2.length c0_2]] rfl hMq ?_;(with_reducible refine (zi.calls k a0_0 a0_1 _ _ l0_2 false _ ?side1 ?side2 A2.out).mono ?_);(case side1 => exact hKq (Kd.C_below HR0_2.out HB.out));(case side2 => exact HC0_2.out);rintro e w18 ⟨rfl,hb⟩;refine ⟨_,rfl,?_⟩;have n_ := haq (hbq BK176.out hb) <| haq (zd hCq hb) <| trivial;clear BK176 HB;obtain ⟨BK176,HB,_⟩ := n_;(try clear hb);(try clear hb2);(try clear hk);(try clear hi)))
  go_ret2
  exact ⟨hHq,hCq⟩
def zY.f (a0_0 : Int) (a0_1 : Int) : Option (Bool) := if a0_0 ≥ 0 then (if a0_0 < 10007 then (if a0_1 ≥ 0 then (some (decide (a0_1 < 10007))) else (some false)) else (some false)) else (some false)
set_option maxHeartbeats 8000000 in
set_option maxRecDepth 100000 in
theorem zY.calls (a0_0 : Int) (a0_1 : Int) (r : Bool) (w : World) (h : zY.f a0_0 a0_1 = some r) :
  Calls Try.prog 64 #[.agg #[.int .i64 a0_0,.int .i64 a0_1]] w fun e w' => e = .returned (.bool r) ∧ Below w.heap.size w w' := by
 have hu26 := Try.underlying26
 have HB := za.mk (Below.refl w.heap.size w)
 have H : (if a0_0 ≥ 0 then (if a0_0 < 10007 then (if a0_1 ≥ 0 then (some (decide (a0_1 < 10007))) else (some false)) else (some false)) else (some false)) = some r := h
 clear h
 by_cases c2 : a0_0 ≥ 0
 ·rw [if_pos c2] at H
  have c2b0 : decide (0 ≤ a0_0) = true := decide_eq_true c2
  clear c2
  by_cases c3 : a0_0 < 10007
  ·rw [if_pos c3] at H
   have c3b0 : decide (a0_0 < 10007) = true := decide_eq_true c3
   clear c3
   by_cases c4 : a0_1 ≥ 0
   ·rw [if_pos c4] at H
    have c4b0 : decide (0 ≤ a0_1) = true := decide_eq_true c4
    clear c4
    obtain rfl := Option.some.inj H
    go_enter Try.func64,Try.ntmps64
    go_wp2_with (first | ((with_reducible refine zo (N := 1) rfl ?_);refine zk rfl (N := 1) rfl (cs := #[.int .i64 a0_0,.int .i64 a0_1]) (t := 26) hrq ?_;intro gb157 hg w5 hbox hb;have n_ := haq (zd hBq hb) <| haq (hbox) <| haq ((by rw [hg];exact (zf hBq) : w.heap.size ≤ gb157)) <| haq ((by rw [hg];exact (zf hBq) : w.heap.size ≤ gb157)) <| trivial;clear HB;obtain ⟨HB,BK157,GW157,GE157,_⟩ := n_;clear hb hbox hg;obtain ⟨hcz6_0,hcz6_1,hfz6_0,hfz6_1⟩ := hcq2 BK157.out))
    go_ret
    exact ⟨hHq,hCq⟩
   ·rw [if_neg c4] at H
    have c4b0 : decide (0 ≤ a0_1) = false := decide_eq_false c4
    clear c4
    obtain rfl := Option.some.inj H
    go_enter Try.func64,Try.ntmps64
    go_wp2_with (first | ((with_reducible refine zo (N := 1) rfl ?_);refine zk rfl (N := 1) rfl (cs := #[.int .i64 a0_0,.int .i64 a0_1]) (t := 26) hrq ?_;intro gb157 hg w7 hbox hb;have n_ := haq (zd hBq hb) <| haq (hbox) <| haq ((by rw [hg];exact (zf hBq) : w.heap.size ≤ gb157)) <| haq ((by rw [hg];exact (zf hBq) : w.heap.size ≤ gb157)) <| trivial;clear HB;obtain ⟨HB,BK157,GW157,GE157,_⟩ := n_;clear hb hbox hg;obtain ⟨hcz8_0,hcz8_1,hfz8_0,hfz8_1⟩ := hcq2 BK157.out))
    go_ret
    exact ⟨hHq,hCq⟩
  ·rw [if_neg c3] at H
   have c3b0 : decide (a0_0 < 10007) = false := decide_eq_false c3
   clear c3
   obtain rfl := Option.some.inj H
   go_enter Try.func64,Try.ntmps64
   go_wp2_with (first | ((with_reducible refine zo (N := 1) rfl ?_);refine zk rfl (N := 1) rfl (cs := #[.int .i64 a0_0,.int .i64 a0_1]) (t := 26) hrq ?_;intro gb157 hg w9 hbox hb;have n_ := haq (zd hBq hb) <| haq (hbox) <| haq ((by rw [hg];exact (zf hBq) : w.heap.size ≤ gb157)) <| haq ((by rw [hg];exact (zf hBq) : w.heap.size ≤ gb157)) <| trivial;clear HB;obtain ⟨HB,BK157,GW157,GE157,_⟩ := n_;clear hb hbox hg;obtain ⟨hcz10_0,hcz10_1,hfz10_0,hfz10_1⟩ := hcq2 BK157.out))
   go_ret
   exact ⟨hHq,hCq⟩
 ·rw [if_neg c2] at H
  have c2b0 : decide (0 ≤ a0_0) = false := decide_eq_false c2
  clear c2
  obtain rfl := Option.some.inj H
  go_enter Try.func64,Try.ntmps64
  go_wp2_with (first | ((with_reducible refine zo (N := 1) rfl ?_);refine zk rfl (N := 1) rfl (cs := #[.int .i64 a0_0,.int .i64 a0_1]) (t := 26) hrq ?_;intro gb157 hg w11 hbox hb;have n_ := haq (zd hBq hb) <| haq (hbox) <| haq ((by rw [hg];exact (zf hBq) : w.heap.size ≤ gb157)) <| haq ((by rw [hg];exact (zf hBq) : w.heap.size ≤ gb157)) <| trivial;clear HB;obtain ⟨HB,BK157,GW157,GE157,_⟩ := n_;clear hb hbox hg;obtain ⟨hcz12_0,hcz12_1,hfz12_0,hfz12_1⟩ := hcq2 BK157.out))
  go_ret
  exact ⟨hHq,hCq⟩
def zZ.f (a0 : Int) : Option (Bool) := if a0 = 4 then (some true) else (if a0 > 4 then (if a0 ≤ 64 then (some ((Int.tmod (wrap64 (a0 - 1)) 3) == 0)) else (some false)) else (some false))
set_option maxHeartbeats 8000000 in
set_option maxRecDepth 100000 in
theorem zZ.calls (a0 : Int) (r : Bool) (w : World) (h : zZ.f a0 = some r) :
  Calls Try.prog 61 #[.int .i64 a0] w fun e w' => e = .returned (.bool r) ∧ zaq w w' := by
 have H : (if a0 = 4 then (some true) else (if a0 > 4 then (if a0 ≤ 64 then (some ((Int.tmod (wrap64 (a0 - 1)) 3) == 0)) else (some false)) else (some false))) = some r := h
 clear h
 by_cases c2 : a0 = 4
 ·rw [if_pos c2] at H
  have c2b0 : (a0 == 4) = true := beq_iff_eq.mpr c2
  have c2b1 : (a0 != 4) = false := bne_eq_false_iff_eq.mpr c2
  clear c2
  obtain rfl := Option.some.inj H
  go_enter Try.func61,Try.ntmps61
  go_wp2
  go_ret
  exact ⟨hDq,hEq⟩
 ·rw [if_neg c2] at H
  have c2b0 : (a0 == 4) = false := beq_eq_false_iff_ne.mpr c2
  have c2b1 : (a0 != 4) = true := bne_iff_ne.mpr c2
  by_cases c3 : a0 > 4
  ·rw [if_pos c3] at H
   have c3b0 : decide (4 < a0) = true := decide_eq_true c3
   clear c3
   by_cases c4 : a0 ≤ 64
   ·rw [if_pos c4] at H
    have c4b0 : decide (a0 ≤ 64) = true := decide_eq_true c4
    clear c4
    obtain rfl := Option.some.inj H
    go_enter Try.func61,Try.ntmps61
    go_wp2
    go_ret
    exact ⟨hDq,hEq⟩
   ·rw [if_neg c4] at H
    have c4b0 : decide (a0 ≤ 64) = false := decide_eq_false c4
    clear c4
    obtain rfl := Option.some.inj H
    go_enter Try.func61,Try.ntmps61
    go_wp2
    go_ret
    exact ⟨hDq,hEq⟩
  ·rw [if_neg c3] at H
   have c3b0 : decide (4 < a0) = false := decide_eq_false c3
   clear c3
   obtain rfl := Option.some.inj H
   go_enter Try.func61,Try.ntmps61
   go_wp2
   go_ret
   exact ⟨hDq,hEq⟩
def zQ.f (a0 : Int) : Option (Int) := (zZ.f a0).bind fun t156 => (if t156 = true then (some (wrap64 (a0 - (wrap64 (Int.tdiv (wrap64 (a0 - 1)) 3))))) else (some 0))
set_option maxHeartbeats 8000000 in
set_option maxRecDepth 100000 in
theorem zQ.calls (a0 : Int) (r : Int) (w : World) (h : zQ.f a0 = some r) :
  Calls Try.prog 63 #[.int .i64 a0] w fun e w' => e = .returned (.int .i64 r) ∧ zaq w w' := by
 have H : ((zZ.f a0).bind fun t156 => (if t156 = true then (some (wrap64 (a0 - (wrap64 (Int.tdiv (wrap64 (a0 - 1)) 3))))) else (some 0))) = some r := h
 clear h
 replace H := Option.bind_eq_some_iff.mp H
 obtain ⟨t156,A20,H⟩ := H
 replace H : (if t156 = true then (some (wrap64 (a0 - (wrap64 (Int.tdiv (wrap64 (a0 - 1)) 3))))) else (some 0)) = some r := H
 have A2 := za.mk A20
 clear A20
 by_cases c3 : t156 = true
 ·subst c3
  have H1 : (some (wrap64 (a0 - (wrap64 (Int.tdiv (wrap64 (a0 - 1)) 3))))) = some r := by rw [if_pos rfl] at H;exact H
  clear H
  have H := H1
  clear H1
  obtain rfl := Option.some.inj H
  go_enter Try.func63,Try.ntmps63
  go_wp2_with (first | ((with_reducible refine zv (f := 61) rfl ?_);refine zT (some 5) rfl rfl Try.func61 (by kernel_rfl) rfl #[.int .i64 a0] rfl hMq ?_;(with_reducible refine (zZ.calls a0 true _ A2.out).mono ?_);rintro e w' ⟨rfl,⟨nd,rfl⟩⟩;refine ⟨_,rfl,?_⟩))
  go_ret
  exact ⟨hDq,hEq⟩
 ·replace c3 := Bool.eq_false_iff.mpr c3
  subst c3
  have H1 : (some 0) = some r := by rw [if_neg (show ¬ (false = true) by decide)] at H;exact H
  clear H
  have H := H1
  clear H1
  obtain rfl := Option.some.inj H
  go_enter Try.func63,Try.ntmps63
  go_wp2_with (first | ((with_reducible refine zv (f := 61) rfl ?_);refine zT (some 5) rfl rfl Try.func61 (by kernel_rfl) rfl #[.int .i64 a0] rfl hMq ?_;(with_reducible refine (zZ.calls a0 false _ A2.out).mono ?_);rintro e w' ⟨rfl,⟨nd,rfl⟩⟩;refine ⟨_,rfl,?_⟩))
  go_ret
  exact ⟨hDq,hEq⟩
def zK.f (a0 : Int) : Option (Bool) := if a0 > 0 then (some ((Int.tmod a0 3) == 0)) else (some false)
set_option maxHeartbeats 8000000 in
set_option maxRecDepth 100000 in
theorem zK.calls (a0 : Int) (r : Bool) (w : World) (h : zK.f a0 = some r) :
  Calls Try.prog 65 #[.int .i64 a0] w fun e w' => e = .returned (.bool r) ∧ zaq w w' := by
 have H : (if a0 > 0 then (some ((Int.tmod a0 3) == 0)) else (some false)) = some r := h
 clear h
 by_cases c2 : a0 > 0
 ·rw [if_pos c2] at H
  have c2b0 : decide (0 < a0) = true := decide_eq_true c2
  clear c2
  obtain rfl := Option.some.inj H
  go_enter Try.func65,Try.ntmps65
  go_wp2
  go_ret
  exact ⟨hDq,hEq⟩
 ·rw [if_neg c2] at H
  have c2b0 : decide (0 < a0) = false := decide_eq_false c2
  clear c2
  obtain rfl := Option.some.inj H
  go_enter Try.func65,Try.ntmps65
  go_wp2
  go_ret
  exact ⟨hDq,hEq⟩
end Go.Proofs.Ytcncoepijagadaa.Px