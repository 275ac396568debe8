/- Part 20 of 30 of the proof of the law CertBack: what is proved is the statement at the end of the last part; its conditions are those of the given row. -/
import Derived.Test.YtgdpiegkoeikiaaZCertBackH
import Derived.Test.YtgdpiegkoeikiaaZCertBackR
namespace Go.Proofs.Ytgdpiegkoeikiaa.Px
open Go.RowKit Go.Proofs.YtgdpiegkoeikiaaW.PrintWords Go.Proofs.YtgdpiegkoeikiaaW.PrintLast Go.Proofs.YtgdpiegkoeikiaaW.PrintMore
attribute [local go_sem] zx zz zJ zK zn zo zy zA
set_option linter.unusedVariables false
set_option linter.unusedSimpArgs false
theorem rrInfo5 : (Try.prog.info? 5).map (fun i => (i.zero,i.size,i.bytes)) = some (some (.int .u8 0),1,1) := by kernel_rfl
def zS.Rel (l : List ByteArray) (k : Nat) (w0 wr : World) (v : Value) : Prop := zaQ wr w0.heap.size 5 v (zbx l.length ++ zaV (l.take k)) ∧ Below w0.heap.size w0 wr
set_option maxRecDepth 100000 in
theorem zS.walk (A : Option Addr) (c : Nat) (l : List ByteArray) (w : World) (hr : Kd.C Kd.string w A l.length l) (hc : l.length ≤ c) (hs : (zbq l).length ≤ 140737488355328) :
  Calls Try.prog 104 #[.slice A l.length c] w fun e w' => e = .returned (.string (toB (zbq l))) ∧ Below w.heap.size w w' := by
 have hm := hr.2.1
 have hll := zhR l
 have hsum : (zbq l).length = (zbx l.length).length + (zaV l).length := by rw [zbq,List.length_append]
 have hlen : l.length ≤ 140737488355328 := by omega
 obtain ⟨k0,hk0⟩ := (zeX l.length (by omega)).rounds
 have HN := zc.mk hk0
 have HR := zc.mk hr
 have HS := zc.mk hs
 have HU := zc.mk hsum
 have kb := fun (W : World) (s : ByteArray) => Lib.run_convert_string_bytes (P := Try.prog) W 9 62 5 s Try.underlying9 Try.underlying62 Try.underlying5
 clear hr hs hll hsum hk0
 go_enter Try.func104,Try.ntmps104
 go_wp2_with (go_at_call 103;(with_reducible refine (zr.calls _ _ _ _ HN.out).mono ?_);rintro e w1 ⟨rfl,hb1⟩)
 have hw1 : Below w.heap.size w w1 := by assumption
 have HL : zc (zS.Rel l 0 w (Lib.bytesWorld w1 5 (zbt l.length)) (.slice (some ⟨w1.heap.size,0,none⟩) (zbt l.length).size (grownCap w1 (zbt l.length).size 0 5))) := ⟨by
  have h := zaQ.start w1 w.heap.size 5 (zbt l.length) hw1.size (by have := zaX (v := l.length) (by omega);unfold maxLen;omega)
  rw [List.take_zero,show zaV [] = [] from rfl,List.append_nil]
  rw [zbt,zat] at h
  exact h,zfa hw1 hw1.size 5 _⟩
 generalize Lib.bytesWorld w1 5 (zbt l.length) = wb at *
 generalize Value.slice (some ⟨w1.heap.size,0,none⟩) (zbt l.length).size (grownCap w1 (zbt l.length).size 0 5) = vb at *
 clear hw1
 go_loopw [3,4] (fun v3 v4 wr => ∃ k : Nat,v4 = .int .i64 k ∧ k ≤ l.length ∧ zc (zS.Rel l k w wr v3)) (fun _ v4 _ => l.length - (match v4 with | .int _ q => q | _ => 0).toNat)
 case atStart => exact ⟨0,rfl,Nat.zero_le _,HL⟩
 case round =>
  obtain ⟨k,rfl,hk,HK⟩ := hrel
  by_cases hlt : k < l.length
  ·obtain ⟨ad,rfl,hcell⟩ := Kd.at_string (Kd.C_below HR.out HK.out.2) (k : Int) (by omega) (by omega)
   rw [Int.toNat_natCast] at hcell
   have hb : decide (k < l.length) = true := decide_eq_true hlt
   have hx : l[k]? = some (zH ByteArray.empty l (k : Int)) := by
    rw [zH,Int.toNat_natCast,List.getD_eq_getElem?_getD,List.getElem?_eq_getElem hlt];rfl
   have HX := zc.mk hx
   clear hx
   generalize zH ByteArray.empty l (k : Int) = s at *
   have hs := zeC l k s HX.out
   have HT := zc.mk (zdJ s (by have := HS.out;have := HU.out;omega))
   have h2 := zev l k s HX.out
   have h3 := zdf l (k + 1)
   rw [h2,List.length_append,zab] at h3
   have H2 := zc.mk h2
   have H3 : zc ((zbx l.length ++ zaV (l.take k)).length + (zdF s).size ≤ 140737488355328) := ⟨by rw [List.length_append];have := HS.out;have := HU.out;omega⟩
   clear h2 h3 hs
   go_wp2_with (first | (go_at_call 119;(with_reducible refine (zbb.calls _ _ _ HT.out).mono ?_);rintro e w3 ⟨rfl,hb3⟩;have HO := zc.mk (zaQ.below HK.out.1 hb3);have HB := zc.mk (zg HK.out.2 hb3);clear hb3) | (at_builtin;refine zeO rfl _ _ 62 9 rfl w.heap.size 5 Try.underlying62 Try.underlying9 rrInfo5 _ _ rfl HO.out _ rfl HB.out H3.out HB.out.size ?_;intro v5 w5 ho5 hb5;have HL5 : zc (zS.Rel l (k + 1) w w5 v5) := ⟨by rw [H2.out,← List.append_assoc];exact ho5,hb5⟩;clear ho5 hb5))
   go_roundw
   case rel => exact ⟨k + 1,by go_num,by omega,HL5⟩
   case measure => simp;omega
  ·obtain rfl : k = l.length := by omega
   have hs2 := HK.out.1.string Try.underlying62 Try.underlying5 9 Try.underlying9
   rw [List.take_of_length_le (Nat.le_refl _)] at hs2
   go_wp2
   go_ret
   exact ⟨rfl,HK.out.2⟩
def zS.f (l0 : List ByteArray) : Option (ByteArray) := if (zbq l0).length ≤ 140737488355328 then (some (toB (zbq l0))) else (none)
theorem zS.calls (A0 : Option Addr) (c0 : Nat) (l0 : List ByteArray) (r : ByteArray) (w : World) (hr0 : Kd.C Kd.string w A0 l0.length l0) (hc0 : l0.length ≤ c0) (h : zS.f l0 = some r) :
  Calls Try.prog 104 #[.slice A0 l0.length c0] w fun e w' => e = .returned (.string r) ∧ Below w.heap.size w w' := by
 unfold zS.f at h
 split at h
 ·rename_i hs
  obtain rfl := Option.some.inj h
  exact zS.walk A0 c0 l0 w hr0 hc0 hs
 ·cases h
mutual
def zt.j0 : Nat → Bool → Int → Int → List ByteArray → Option (Bool)
 | 0,_,_,_,_ => none
 | k + 1,x33,x189000,x189001,x189002 => if x33 = true then (some false) else (zt.l0 k 0 x189000 x189001 x189002)
def zt.l0 : Nat → Int → Int → Int → List ByteArray → Option (Bool)
 | 0,_,_,_,_ => none
 | k + 1,x3,x189000,x189001,x189002 => if x3 < (x189002.length : Int) then (if 0 ≤ x3 then (if ((zH ByteArray.empty x189002 x3).size : Int) < 1 then (some false) else (if ((zH ByteArray.empty x189002 x3).size : Int) > 48 then (some false) else (zt.l0 k (wrap64 (x3 + 1)) x189000 x189001 x189002))) else (none)) else (some true)
end
def zt.f (k : Nat) (a0_0 : Int) (a0_1 : Int) (l0_2 : List ByteArray) : Option (Bool) := if a0_0 < 1 then (zt.j0 k true a0_0 a0_1 l0_2) else (if a0_0 > 64 then (zt.j0 k true a0_0 a0_1 l0_2) else (if a0_1 < 1 then (zt.j0 k true a0_0 a0_1 l0_2) else (if a0_1 > 1073741824 then (zt.j0 k true a0_0 a0_1 l0_2) else (if (l0_2.length : Int) < 1 then (zt.j0 k true a0_0 a0_1 l0_2) else (zt.j0 k (decide ((l0_2.length : Int) > 4)) a0_0 a0_1 l0_2)))))
set_option maxHeartbeats 8000000 in
set_option maxRecDepth 100000 in
theorem zt.calls (k : Nat) (a0_0 : Int) (a0_1 : Int) (A0_2 : Option Addr) (c0_2 : Nat) (l0_2 : List ByteArray) (r : Bool) (w : World) (hr0_2 : Kd.C Kd.string w A0_2 l0_2.length l0_2) (hc0_2 : l0_2.length ≤ c0_2) (h : zt.f k a0_0 a0_1 l0_2 = some r) :
  Calls Try.prog 94 #[.agg #[.int .i64 a0_0,.int .i64 a0_1,.slice A0_2 l0_2.length c0_2]] w fun e w' => e = .returned (.bool r) ∧ Below w.heap.size w w' := by
 have hu107 := Try.underlying107
 have HR0_2 := zc.mk hr0_2
 have HC0_2 := zc.mk hc0_2
 clear hr0_2 hc0_2
 have HB := zc.mk (Below.refl w.heap.size w)
 have H : (if a0_0 < 1 then (zt.j0 k true a0_0 a0_1 l0_2) else (if a0_0 > 64 then (zt.j0 k true a0_0 a0_1 l0_2) else (if a0_1 < 1 then (zt.j0 k true a0_0 a0_1 l0_2) else (if a0_1 > 1073741824 then (zt.j0 k true a0_0 a0_1 l0_2) else (if (l0_2.length : Int) < 1 then (zt.j0 k true a0_0 a0_1 l0_2) else (zt.j0 k (decide ((l0_2.length : Int) > 4)) a0_0 a0_1 l0_2)))))) = some r := h
 clear h
 have HC2 := zc.mk H
 clear H
 go_enter Try.func94,Try.ntmps94
 go_upto_region 1 with (first | ((with_reducible refine zD (N := 1) rfl ?_);(try (refine zbN (by rfl) ?_;dsimp only));refine zq ?hg (N := 1) ?hd (cs := #[.int .i64 a0_0,.int .i64 a0_1,.slice A0_2 l0_2.length c0_2]) (t := 107) ?hr ?_;(case hd => rfl);(case hg => rfl);(case hr => first | (go_simp;done) | (go_simp;rfl));intro gb188 hg w3 hbox hb;have n0_ := zc.mk (zg hBq hb);have n1_ := zc.mk (hbox);have n2_ := zc.mk ((by rw [hg];exact (zj hBq) : w.heap.size ≤ gb188));have n3_ := zc.mk ((by rw [hg];exact (zj hBq) : w.heap.size ≤ gb188));clear HB;have HB := n0_;have BK188 := n1_;have GW188 := n2_;have GE188 := n3_;clear n0_ n1_ n2_ n3_;clear hb hbox hg))
 (try simp only [Act.put,List.setIfInBounds_toArray,List.set_cons_zero,List.set_cons_succ])
 go_cut [33] (fun v33 wc => ∃ (kq : Nat) (x33_1 : Bool),v33 = .bool x33_1 ∧ zc (zt.j0 kq x33_1 a0_0 a0_1 l0_2 = some r) ∧ zc (kq ≤ k) ∧ zc (wc.heap[gb188]? = some (.cells #[.int .i64 a0_0,.int .i64 a0_1,(.slice A0_2 l0_2.length c0_2)] 107 (0,0))) ∧ zc (Below w.heap.size w wc))
 case first =>
  have H := HC2.out
  clear HC2
  by_cases c4 : a0_0 < 1
  ·rw [if_pos c4] at H
   have c4b0 : decide (a0_0 < 1) = true := decide_eq_true c4
   clear c4
   (first | rw [c4b0] | (simp only [zN,zQ];rw [c4b0]) | skip)
   have H' := zc.mk H
   clear H
   have hcz5_0 : w3.cell? ⟨gb188,0,none⟩ = some (.int .i64 a0_0) := (zb BK188.out 0).trans rfl
   have hcz5_1 : w3.cell? ⟨gb188,1,none⟩ = some (.int .i64 a0_1) := (zb BK188.out 1).trans rfl
   have hcz5_2 : w3.cell? ⟨gb188,2,none⟩ = some (.slice A0_2 l0_2.length c0_2) := (zb BK188.out 2).trans rfl
   have hfz5_0 := za BK188.out 0
   have hfz5_1 := za BK188.out 1
   have hfz5_2 := za BK188.out 2
   go_wp2
   go_meet
   case rel => exact ⟨_,(true),(hDq),H',⟨by first | omega | exact Nat.le_refl _⟩,⟨hGq BK188.out⟩,⟨by repeat (first | (with_reducible first | exact HB.out | apply zI | apply zk | apply zB | refine zw ?_ GE188.out) | exact HB.out)⟩⟩
  ·rw [if_neg c4] at H
   have c4b0 : decide (a0_0 < 1) = false := decide_eq_false c4
   clear c4
   (first | rw [c4b0] | (simp only [zN,zQ];rw [c4b0]) | skip)
   by_cases c6 : a0_0 > 64
   ·rw [if_pos c6] at H
    have c6b0 : decide (64 < a0_0) = true := decide_eq_true c6
    clear c6
    have H' := zc.mk H
    clear H
    have hcz7_0 : w3.cell? ⟨gb188,0,none⟩ = some (.int .i64 a0_0) := (zb BK188.out 0).trans rfl
    have hcz7_1 : w3.cell? ⟨gb188,1,none⟩ = some (.int .i64 a0_1) := (zb BK188.out 1).trans rfl
    have hcz7_2 : w3.cell? ⟨gb188,2,none⟩ = some (.slice A0_2 l0_2.length c0_2) := (zb BK188.out 2).trans rfl
    have hfz7_0 := za BK188.out 0
    have hfz7_1 := za BK188.out 1
    have hfz7_2 := za BK188.out 2
    go_wp2
    go_meet
    case rel => exact ⟨_,(true),(hDq),H',⟨by first | omega | exact Nat.le_refl _⟩,⟨hGq BK188.out⟩,⟨by repeat (first | (with_reducible first | exact HB.out | apply zI | apply zk | apply zB | refine zw ?_ GE188.out) | exact HB.out)⟩⟩
   ·rw [if_neg c6] at H
    have c6b0 : decide (64 < a0_0) = false := decide_eq_false c6
    clear c6
    by_cases c8 : a0_1 < 1
    ·rw [if_pos c8] at H
     have c8b0 : decide (a0_1 < 1) = true := decide_eq_true c8
     clear c8
     have H' := zc.mk H
     clear H
     have hcz9_0 : w3.cell? ⟨gb188,0,none⟩ = some (.int .i64 a0_0) := (zb BK188.out 0).trans rfl
     have hcz9_1 : w3.cell? ⟨gb188,1,none⟩ = some (.int .i64 a0_1) := (zb BK188.out 1).trans rfl
     have hcz9_2 : w3.cell? ⟨gb188,2,none⟩ = some (.slice A0_2 l0_2.length c0_2) := (zb BK188.out 2).trans rfl
     have hfz9_0 := za BK188.out 0
     have hfz9_1 := za BK188.out 1
     have hfz9_2 := za BK188.out 2
     go_wp2
     go_meet
     case rel => exact ⟨_,(true),(hDq),H',⟨by first | omega | exact Nat.le_refl _⟩,⟨hGq BK188.out⟩,⟨by repeat (first | (with_reducible first | exact HB.out | apply zI | apply zk | apply zB | refine zw ?_ GE188.out) | exact HB.out)⟩⟩
    ·rw [if_neg c8] at H
     have c8b0 : decide (a0_1 < 1) = false := decide_eq_false c8
     clear c8
     by_cases c10 : a0_1 > 1073741824
     ·rw [if_pos c10] at H
      have c10b0 : decide (1073741824 < a0_1) = true := decide_eq_true c10
      clear c10
      have H' := zc.mk H
      clear H
      have hcz11_0 : w3.cell? ⟨gb188,0,none⟩ = some (.int .i64 a0_0) := (zb BK188.out 0).trans rfl
      have hcz11_1 : w3.cell? ⟨gb188,1,none⟩ = some (.int .i64 a0_1) := (zb BK188.out 1).trans rfl
      have hcz11_2 : w3.cell? ⟨gb188,2,none⟩ = some (.slice A0_2 l0_2.length c0_2) := (zb BK188.out 2).trans rfl
      have hfz11_0 := za BK188.out 0
      have hfz11_1 := za BK188.out 1
      have hfz11_2 := za BK188.out 2
      go_wp2
      go_meet
      case rel => exact ⟨_,(true),(hDq),H',⟨by first | omega | exact Nat.le_refl _⟩,⟨hGq BK188.out⟩,⟨by repeat (first | (with_reducible first | exact HB.out | apply zI | apply zk | apply zB | refine zw ?_ GE188.out) | exact HB.out)⟩⟩
     ·rw [if_neg c10] at H
      have c10b0 : decide (1073741824 < a0_1) = false := decide_eq_false c10
      clear c10
      by_cases c12 : (l0_2.length : Int) < 1
      ·rw [if_pos c12] at H
       have c12b0 : decide ((l0_2.length : Int) < 1) = true := decide_eq_true c12
       have c12b1 : decide (l0_2.length < 1) = true := decide_eq_true (by omega)
       clear c12
       have H' := zc.mk H
       clear H
       have hcz13_0 : w3.cell? ⟨gb188,0,none⟩ = some (.int .i64 a0_0) := (zb BK188.out 0).trans rfl
       have hcz13_1 : w3.cell? ⟨gb188,1,none⟩ = some (.int .i64 a0_1) := (zb BK188.out 1).trans rfl
       have hcz13_2 : w3.cell? ⟨gb188,2,none⟩ = some (.slice A0_2 l0_2.length c0_2) := (zb BK188.out 2).trans rfl
       have hfz13_0 := za BK188.out 0
       have hfz13_1 := za BK188.out 1
       have hfz13_2 := za BK188.out 2
       go_wp2
       go_meet
       case rel => exact ⟨_,(true),(hDq),H',⟨by first | omega | exact Nat.le_refl _⟩,⟨hGq BK188.out⟩,⟨by repeat (first | (with_reducible first | exact HB.out | apply zI | apply zk | apply zB | refine zw ?_ GE188.out) | exact HB.out)⟩⟩
      ·rw [if_neg c12] at H
       have c12b0 : decide ((l0_2.length : Int) < 1) = false := decide_eq_false c12
       have c12b1 : decide (l0_2.length < 1) = false := decide_eq_false (by omega)
       clear c12
       have H' := zc.mk H
       clear H
       have hcz14_0 : w3.cell? ⟨gb188,0,none⟩ = some (.int .i64 a0_0) := (zb BK188.out 0).trans rfl
       have hcz14_1 : w3.cell? ⟨gb188,1,none⟩ = some (.int .i64 a0_1) := (zb BK188.out 1).trans rfl
       have hcz14_2 : w3.cell? ⟨gb188,2,none⟩ = some (.slice A0_2 l0_2.length c0_2) := (zb BK188.out 2).trans rfl
       have hfz14_0 := za BK188.out 0
       have hfz14_1 := za BK188.out 1
       have hfz14_2 := za BK188.out 2
       go_wp2
       go_meet
       case rel => exact ⟨_,(decide ((l0_2.length : Int) > 4)),(hDq),H',⟨by first | omega | exact Nat.le_refl _⟩,⟨hGq BK188.out⟩,⟨by repeat (first | (with_reducible first | exact HB.out | apply zI | apply zk | apply zB | refine zw ?_ GE188.out) | exact HB.out)⟩⟩
 case rest =>
  clear HC2
  try clear c1
  try clear p2
  try clear c4
  try clear c4b0
  try clear c6
  try clear c6b0
  try clear c8
  try clear c8b0
  try clear c9
  try clear c10
  try clear c10b0
  try clear c12
  try clear c12b0
  try clear c12b1
  try clear hcz11_0
  try clear hcz11_1
  try clear hcz11_2
  try clear hcz13_0
  try clear hcz13_1
  try clear hcz13_2
  try clear hcz14_0
  try clear hcz14_1
  try clear hcz14_2
  try clear hcz5_0
  try clear hcz5_1
  try clear hcz5_2
  try clear hcz7_0
  try clear hcz7_1
  try clear hcz7_2
  try clear hcz9_0
  try clear hcz9_1
  try clear hcz9_2
  try clear hfz11_0
  try clear hfz11_1
  try clear hfz11_2
  try clear hfz13_0
  try clear hfz13_1
  try clear hfz13_2
  try clear hfz14_0
  try clear hfz14_1
  try clear hfz14_2
  try clear hfz5_0
  try clear hfz5_1
  try clear hfz5_2
  try clear hfz7_0
  try clear hfz7_1
  try clear hfz7_2
  try clear hfz9_0
  try clear hfz9_1
  try clear hfz9_2
  obtain ⟨kq,x33_1,rfl,HA,HJ1,BK188,HB⟩ := hcut
  cases kq with
  | zero => exact absurd HA.out (by simp [zt.j0])
  | succ kj1 =>
   have H := HA.out
   clear HA
   simp only [zt.j0] at H
   by_cases c15 : x33_1 = true
   ·subst c15
    have H1 : (some false) = some r := by rw [if_pos rfl] at H;exact H
    clear H
    have H := H1
    clear H1
    obtain rfl := Option.some.inj H
    go_wp2
    go_ret
    exact ⟨hHq,hCq⟩
   ·replace c15 := Bool.eq_false_iff.mpr c15
    subst c15
    have H1 : (zt.l0 kj1 0 a0_0 a0_1 l0_2) = some r := by rw [if_neg (show ¬ (false = true) by decide)] at H;exact H
    clear H
    have H := H1
    clear H1
    have H' := zc.mk H
    clear H
    go_wp2
    go_loopg [3] kj1 (fun kq v3 w' => ∃ (x3_2 : Int),v3 = .int .i64 x3_2 ∧ zc (zt.l0 kq x3_2 a0_0 a0_1 l0_2 = some r) ∧ zc (kq ≤ kj1) ∧ zc (w'.heap[gb188]? = some (.cells #[.int .i64 a0_0,.int .i64 a0_1,(.slice A0_2 l0_2.length c0_2)] 107 (0,0))) ∧ zc (Below w.heap.size w w'))
    case atStart => exact ⟨(0),(hDq),H',⟨Nat.le_refl _⟩,⟨hGq BK188.out⟩,⟨by repeat (first | (with_reducible first | exact HB.out | apply zI | apply zk | apply zB | refine zw ?_ GE188.out) | exact HB.out)⟩⟩
    case round =>
     clear H'
     try clear c1
     try clear p2
     try clear c4
     try clear c4b0
     try clear c6
     try clear c6b0
     try clear c8
     try clear c8b0
     try clear c9
     try clear c10
     try clear c10b0
     try clear c12
     try clear c12b0
     try clear c12b1
     try clear c15
     try clear hcz11_0
     try clear hcz11_1
     try clear hcz11_2
     try clear hcz13_0
     try clear hcz13_1
     try clear hcz13_2
     try clear hcz14_0
     try clear hcz14_1
     try clear hcz14_2
     try clear hcz5_0
     try clear hcz5_1
     try clear hcz5_2
     try clear hcz7_0
     try clear hcz7_1
     try clear hcz7_2
     try clear hcz9_0
     try clear hcz9_1
     try clear hcz9_2
     try clear hfz11_0
     try clear hfz11_1
     try clear hfz11_2
     try clear hfz13_0
     try clear hfz13_1
     try clear hfz13_2
     try clear hfz14_0
     try clear hfz14_1
     try clear hfz14_2
     try clear hfz5_0
     try clear hfz5_1
     try clear hfz5_2
     try clear hfz7_0
     try clear hfz7_1
     try clear hfz7_2
     try clear hfz9_0
     try clear hfz9_1
     try clear hfz9_2
     try clear p2
     obtain ⟨x3_2,rfl,HA,HK2,BK188,HB⟩ := hrel
     cases gk with
     | zero => exact absurd HA.out (by simp [zt.l0])
     | succ k2 =>
      have H := HA.out
      clear HA
      simp only [zt.l0] at H
      by_cases c16 : x3_2 < (l0_2.length : Int)
      ·rw [if_pos c16] at H
       have c16b0 : decide (x3_2 < (l0_2.length : Int)) = true := decide_eq_true c16
       clear c16
       by_cases c17 : 0 ≤ x3_2
       ·rw [if_pos c17] at H
        have c17b0 : decide (0 ≤ x3_2) = true := decide_eq_true c17
        clear c17
        by_cases c18 : ((zH ByteArray.empty l0_2 x3_2).size : Int) < 1
        ·rw [if_pos c18] at H
         have c18b0 : decide (((zH ByteArray.empty l0_2 x3_2).size : Int) < 1) = true := decide_eq_true c18
         have c18b1 : decide ((zH ByteArray.empty l0_2 x3_2).size < 1) = true := decide_eq_true (by omega)
         clear c18
         obtain rfl := Option.some.inj H
         have hcz19_0 : wr.cell? ⟨gb188,0,none⟩ = some (.int .i64 a0_0) := (zb BK188.out 0).trans rfl
         have hcz19_1 : wr.cell? ⟨gb188,1,none⟩ = some (.int .i64 a0_1) := (zb BK188.out 1).trans rfl
         have hcz19_2 : wr.cell? ⟨gb188,2,none⟩ = some (.slice A0_2 l0_2.length c0_2) := (zb BK188.out 2).trans rfl
         have hfz19_0 := za BK188.out 0
         have hfz19_1 := za BK188.out 1
         have hfz19_2 := za BK188.out 2
         have p189 : 0 ≤ (x3_2 : Int) := hFq
         have q189 : x3_2 < (l0_2.length : Int) := hFq
         obtain ⟨ad189,e189,hx189_0⟩ := Kd.at_string HR0_2.out x3_2 p189 q189
         cases e189
         replace hx189_0 := (HB.out.cell (World.block_lt_of_cell? w _ hx189_0)).trans hx189_0
         replace p189 := eq_true p189
         replace q189 := eq_true q189
         go_wp2
         go_ret
         exact ⟨hHq,hCq⟩
        ·rw [if_neg c18] at H
         have c18b0 : decide (((zH ByteArray.empty l0_2 x3_2).size : Int) < 1) = false := decide_eq_false c18
         have c18b1 : decide ((zH ByteArray.empty l0_2 x3_2).size < 1) = false := decide_eq_false (by omega)
         clear c18
         by_cases c20 : ((zH ByteArray.empty l0_2 x3_2).size : Int) > 48
         ·rw [if_pos c20] at H
          have c20b0 : decide (48 < ((zH ByteArray.empty l0_2 x3_2).size : Int)) = true := decide_eq_true c20
          have c20b1 : decide (48 < (zH ByteArray.empty l0_2 x3_2).size) = true := decide_eq_true (by omega)
          clear c20
          obtain rfl := Option.some.inj H
          have hcz21_0 : wr.cell? ⟨gb188,0,none⟩ = some (.int .i64 a0_0) := (zb BK188.out 0).trans rfl
          have hcz21_1 : wr.cell? ⟨gb188,1,none⟩ = some (.int .i64 a0_1) := (zb BK188.out 1).trans rfl
          have hcz21_2 : wr.cell? ⟨gb188,2,none⟩ = some (.slice A0_2 l0_2.length c0_2) := (zb BK188.out 2).trans rfl
          have hfz21_0 := za BK188.out 0
          have hfz21_1 := za BK188.out 1
          have hfz21_2 := za BK188.out 2
          have p189 : 0 ≤ (x3_2 : Int) := hFq
          have q189 : x3_2 < (l0_2.length : Int) := hFq
          obtain ⟨ad189,e189,hx189_0⟩ := Kd.at_string HR0_2.out x3_2 p189 q189
          cases e189
          replace hx189_0 := (HB.out.cell (World.block_lt_of_cell? w _ hx189_0)).trans hx189_0
          replace p189 := eq_true p189
          replace q189 := eq_true q189
          have p190 : 0 ≤ (x3_2 : Int) := hFq
          have q190 : x3_2 < (l0_2.length : Int) := hFq
          obtain ⟨ad190,e190,hx190_0⟩ := Kd.at_string HR0_2.out x3_2 p190 q190
          obtain rfl : ad189 = ad190 := (by injection e190)
          replace hx190_0 := (HB.out.cell (World.block_lt_of_cell? w _ hx190_0)).trans hx190_0
          replace p190 := eq_true p190
          replace q190 := eq_true q190
          go_wp2
          go_ret
          exact ⟨hHq,hCq⟩
         ·rw [if_neg c20] at H
          have c20b0 : decide (48 < ((zH ByteArray.empty l0_2 x3_2).size : Int)) = false := decide_eq_false c20
          have c20b1 : decide (48 < (zH ByteArray.empty l0_2 x3_2).size) = false := decide_eq_false (by omega)
          clear c20
          have H' := zc.mk H
          clear H
          have hcz22_0 : wr.cell? ⟨gb188,0,none⟩ = some (.int .i64 a0_0) := (zb BK188.out 0).trans rfl
          have hcz22_1 : wr.cell? ⟨gb188,1,none⟩ = some (.int .i64 a0_1) := (zb BK188.out 1).trans rfl
          have hcz22_2 : wr.cell? ⟨gb188,2,none⟩ = some (.slice A0_2 l0_2.length c0_2) := (zb BK188.out 2).trans rfl
          have hfz22_0 := za BK188.out 0
          have hfz22_1 := za BK188.out 1
          have hfz22_2 := za BK188.out 2
          have p189 : 0 ≤ (x3_2 : Int) := hFq
          have q189 : x3_2 < (l0_2.length : Int) := hFq
          obtain ⟨ad189,e189,hx189_0⟩ := Kd.at_string HR0_2.out x3_2 p189 q189
          cases e189
          replace hx189_0 := (HB.out.cell (World.block_lt_of_cell? w _ hx189_0)).trans hx189_0
          replace p189 := eq_true p189
          replace q189 := eq_true q189
          have p190 : 0 ≤ (x3_2 : Int) := hFq
          have q190 : x3_2 < (l0_2.length : Int) := hFq
          obtain ⟨ad190,e190,hx190_0⟩ := Kd.at_string HR0_2.out x3_2 p190 q190
          obtain rfl : ad189 = ad190 := (by injection e190)
          replace hx190_0 := (HB.out.cell (World.block_lt_of_cell? w _ hx190_0)).trans hx190_0
          replace p190 := eq_true p190
          replace q190 := eq_true q190
          go_wp2
          go_roundg k2
          case measure => have := HJ1.out;have := HK2.out;omega
          case rel => exact ⟨(wrap64 (x3_2 + 1)),(hDq),H',⟨by have := HJ1.out;have := HK2.out;omega⟩,⟨hGq BK188.out⟩,⟨by repeat (first | (with_reducible first | exact HB.out | apply zI | apply zk | apply zB | refine zw ?_ GE188.out) | exact HB.out)⟩⟩
       ·rw [if_neg c17] at H
        exact absurd H (by simp)
      ·rw [if_neg c16] at H
       have c16b0 : decide (x3_2 < (l0_2.length : Int)) = false := decide_eq_false c16
       clear c16
       obtain rfl := Option.some.inj H
       have hcz23_0 : wr.cell? ⟨gb188,0,none⟩ = some (.int .i64 a0_0) := (zb BK188.out 0).trans rfl
       have hcz23_1 : wr.cell? ⟨gb188,1,none⟩ = some (.int .i64 a0_1) := (zb BK188.out 1).trans rfl
       have hcz23_2 : wr.cell? ⟨gb188,2,none⟩ = some (.slice A0_2 l0_2.length c0_2) := (zb BK188.out 2).trans rfl
       have hfz23_0 := za BK188.out 0
       have hfz23_1 := za BK188.out 1
       have hfz23_2 := za BK188.out 2
       go_wp2
       go_ret
       exact ⟨hHq,hCq⟩
def zah.f (k : Nat) (a0_0 : Int) (a0_1 : Int) (l0_2 : List ByteArray) : Option (ByteArray × Int) := (zt.f k a0_0 a0_1 l0_2).bind fun t405 => (if t405 = true then ((zr.f k (IntKind.u64.wrap (a0_0))).bind fun t406 => ((zr.f k (IntKind.u64.wrap (a0_1))).bind fun t407 => (if t406.size + t407.size ≤ 9223372036854775807 then ((zS.f l0_2).bind fun t408 => (if (t406 ++ t407).size + t408.size ≤ 9223372036854775807 then (some ((t406 ++ t407) ++ t408,0)) else (none))) else (none)))) else (some ((⟨#[]⟩ : ByteArray),1)))
def zah.T4 : Bool × List (List Nat × List Nat) := (true,[([],[]),([0],[0]),([1],[1]),([2],[2]),([],[]),([4],[4]),([5],[5]),([6,3],[6]),([3,7],[3,7]),([],[]),([9],[9]),([10,7],[10]),([8,11],[8,11]),([12,11,0,1,2,3,4,5,6,7,8,9,10,11,12],[12]),([13,0,1,2,3,4,5,6,7,8,9,10,11,12,13],[])])
def zah.B4 : List Nat := [0,1,3,7,0,16,48,127,255,0,512,1791,4095,8191,16383]
theorem zah.tab4 : zcD .any (zfZ Try.f102 4) = zah.T4 := by kernel_rfl
theorem zah.bits4 : zcu zah.T4.2 zah.B4 = true := by kernel_rfl
set_option maxHeartbeats 8000000 in
set_option maxRecDepth 100000 in
theorem zah.calls (k : Nat) (a0_0 : Int) (a0_1 : Int) (A0_2 : Option Addr) (c0_2 : Nat) (l0_2 : List ByteArray) (r1 : ByteArray) (r2 : Int) (w : World) (hr0_2 : Kd.C Kd.string w A0_2 l0_2.length l0_2) (hc0_2 : l0_2.length ≤ c0_2) (h : zah.f k a0_0 a0_1 l0_2 = some (r1,r2)) :
  Calls Try.prog 102 #[.agg #[.int .i64 a0_0,.int .i64 a0_1,.slice A0_2 l0_2.length c0_2]] w fun e w' => e = .returned (.tuple #[.string r1,.int .i64 r2]) ∧ Below w.heap.size w w' := by
 have hu107 := Try.underlying107
 have HR0_2 := zc.mk hr0_2
 have HC0_2 := zc.mk hc0_2
 clear hr0_2 hc0_2
 have HB := zc.mk (Below.refl w.heap.size w)
 have H : ((zt.f k a0_0 a0_1 l0_2).bind fun t405 => (if t405 = true then ((zr.f k (IntKind.u64.wrap (a0_0))).bind fun t406 => ((zr.f k (IntKind.u64.wrap (a0_1))).bind fun t407 => (if t406.size + t407.size ≤ 9223372036854775807 then ((zS.f l0_2).bind fun t408 => (if (t406 ++ t407).size + t408.size ≤ 9223372036854775807 then (some ((t406 ++ t407) ++ t408,0)) else (none))) else (none)))) else (some ((⟨#[]⟩ : ByteArray),1)))) = some (r1,r2) := h
 clear h
 replace H := Option.bind_eq_some_iff.mp H
 obtain ⟨t405,A20,H⟩ := H
 replace H : (if t405 = true then ((zr.f k (IntKind.u64.wrap (a0_0))).bind fun t406 => ((zr.f k (IntKind.u64.wrap (a0_1))).bind fun t407 => (if t406.size + t407.size ≤ 9223372036854775807 then ((zS.f l0_2).bind fun t408 => (if (t406 ++ t407).size + t408.size ≤ 9223372036854775807 then (some ((t406 ++ t407) ++ t408,0)) else (none))) else (none)))) else (some ((⟨#[]⟩ : ByteArray),1))) = some (r1,r2) := H
 have A2 := zc.mk A20
 clear A20
 by_cases c3 : t405 = true
 ·subst c3
  have H1 : ((zr.f k (IntKind.u64.wrap (a0_0))).bind fun t406 => ((zr.f k (IntKind.u64.wrap (a0_1))).bind fun t407 => (if t406.size + t407.size ≤ 9223372036854775807 then ((zS.f l0_2).bind fun t408 => (if (t406 ++ t407).size + t408.size ≤ 9223372036854775807 then (some ((t406 ++ t407) ++ t408,0)) else (none))) else (none)))) = some (r1,r2) := by rw [if_pos rfl] at H;exact H
  clear H
  have H := H1
  clear H1
  replace H := Option.bind_eq_some_iff.mp H
  obtain ⟨t406,A40,H⟩ := H
  replace H : ((zr.f k (IntKind.u64.wrap (a0_1))).bind fun t407 => (if t406.size + t407.size ≤ 9223372036854775807 then ((zS.f l0_2).bind fun t408 => (if (t406 ++ t407).size + t408.size ≤ 9223372036854775807 then (some ((t406 ++ t407) ++ t408,0)) else (none))) else (none))) = some (r1,r2) := H
  have A4 := zc.mk A40
  clear A40
  replace H := Option.bind_eq_some_iff.mp H
  obtain ⟨t407,A50,H⟩ := H
  replace H : (if t406.size + t407.size ≤ 9223372036854775807 then ((zS.f l0_2).bind fun t408 => (if (t406 ++ t407).size + t408.size ≤ 9223372036854775807 then (some ((t406 ++ t407) ++ t408,0)) else (none))) else (none)) = some (r1,r2) := H
  have A5 := zc.mk A50
  clear A50
  by_cases c6 : t406.size + t407.size ≤ 9223372036854775807
  ·rw [if_pos c6] at H
   have c6b0 := eq_true c6
   have c6b1 : decide (t406.size + t407.size ≤ 9223372036854775807) = true := decide_eq_true c6
   try have c6b2 : (9223372036854775807 < t406.size + t407.size) = False := eq_false (Nat.not_lt.2 c6)
   replace H := Option.bind_eq_some_iff.mp H
   obtain ⟨t408,A70,H⟩ := H
   replace H : (if (t406 ++ t407).size + t408.size ≤ 9223372036854775807 then (some ((t406 ++ t407) ++ t408,0)) else (none)) = some (r1,r2) := H
   have A7 := zc.mk A70
   clear A70
   by_cases c8 : (t406 ++ t407).size + t408.size ≤ 9223372036854775807
   ·rw [if_pos c8] at H
    have c8b0 := eq_true c8
    have c8b1 : decide ((t406 ++ t407).size + t408.size ≤ 9223372036854775807) = true := decide_eq_true c8
    try have c8b2 : (9223372036854775807 < (t406 ++ t407).size + t408.size) = False := eq_false (Nat.not_lt.2 c8)
    try (have c8b3 := c8;simp [ByteArray.size_append] at c8b3;have c8b4 := eq_false (Nat.not_lt.2 c8b3);clear c8b3)
    simp only [Option.some.injEq,Prod.mk.injEq] at H
    obtain ⟨rfl,rfl⟩ := H
    go_enter Try.func102,Try.ntmps102
    try go_wp2_with (first | ((with_reducible refine zD (N := 1) rfl ?_);refine zq ?hg (N := 1) ?hd (cs := #[.int .i64 a0_0,.int .i64 a0_1,.slice A0_2 l0_2.length c0_2]) (t := 107) ?hr ?_;(case hd => rfl);(case hg => rfl);(case hr => first | (go_simp;done) | (go_simp;rfl));intro gb404 hg w9 hbox hb;have n0_ := zc.mk (zg hBq hb);have n1_ := zc.mk (hbox);have n2_ := zc.mk ((by rw [hg];exact (zj hBq) : w.heap.size ≤ gb404));have n3_ := zc.mk ((by rw [hg];exact (zj hBq) : w.heap.size ≤ gb404));clear HB;have HB := n0_;have BK404 := n1_;have GW404 := n2_;have GE404 := n3_;clear n0_ n1_ n2_ n3_;clear hb hbox hg;have hcz10_0 : w9.cell? ⟨gb404,0,none⟩ = some (.int .i64 a0_0) := (zb BK404.out 0).trans rfl;have hcz10_1 : w9.cell? ⟨gb404,1,none⟩ = some (.int .i64 a0_1) := (zb BK404.out 1).trans rfl;have hcz10_2 : w9.cell? ⟨gb404,2,none⟩ = some (.slice A0_2 l0_2.length c0_2) := (zb BK404.out 2).trans rfl;have hfz10_0 := za BK404.out 0;have hfz10_1 := za BK404.out 1;have hfz10_2 := za BK404.out 2) | ((with_reducible refine zp (f := 94) rfl ?_);refine z6 (some 6) rfl rfl Try.func94 (by kernel_rfl) rfl #[.agg #[.int .i64 a0_0,.int .i64 a0_1,.slice A0_2 l0_2.length c0_2]] rfl (by (try simp only [List.map_toArray,List.map_cons,List.map_nil]);first | done | rfl | (simp only [List.length_drop,List.length_take];rfl)) ?_;(with_reducible refine (zt.calls k a0_0 a0_1 _ _ l0_2 true _ ?side1 ?side2 A2.out).mono ?_);(case side1 => repeat (first | exact (Kd.C_below HR0_2.out HB.out) | (with_reducible refine Kd.C_alloc ?_ _) | (with_reducible refine Kd.C_drewN ?_ _) | (with_reducible refine Kd.C_drew ?_)));(case side2 => exact HC0_2.out);rintro e w11 ⟨rfl,hb⟩;refine ⟨_,rfl,?_⟩;have n0_ := zc.mk (zh (g := gb404) (o := .cells #[.int .i64 a0_0,.int .i64 a0_1,.slice A0_2 l0_2.length c0_2] 107 (0,0)) (hGq BK404.out) hb);have n1_ := zc.mk (zg hCq hb);clear BK404;clear HB;have BK404 := n0_;have HB := n1_;clear n0_ n1_;(try clear hb);(try clear hb2);(try clear hk);(try clear hi)))
    have n0_ := zc.mk (zf BK404.out)
    have n1_ := zc.mk (zB HB.out)
    clear BK404
    clear HB
    have BK404 := n0_
    have HB := n1_
    clear n0_ n1_
    refine zdg (n := 15) (S := fun w' => w'.cell? ⟨gb404,0,none⟩ = some (.int .i64 a0_0) ∧ w'.cell? ⟨gb404,1,none⟩ = some (.int .i64 a0_1) ∧ w'.cell? ⟨gb404,2,none⟩ = some (.slice A0_2 l0_2.length c0_2)) (ds := []) #[false,false,false,false,false,false,false,false,false,false,false,false,false,false,false] (by kernel_rfl) rfl rfl ⟨(zb BK404.out 0).trans rfl,(zb BK404.out 1).trans rfl,(zb BK404.out 2).trans rfl⟩ (fun hHeld => ?_);refine zck zah.tab4 zah.bits4 (fun HT_ HW_ => ?_)
    generalize w11.drew = w12 at BK404 HB hHeld ⊢
    refine zai (i := 0) (N := some 9) (v := ?_) (a' := ?_) #[true,false,false,false,false,false,false,false,false,false,false,false,false,false,false] rfl rfl (z9 HT_.out (by kernel_rfl)) (fun _ _ _ h => h) (Or.inl ⟨by rfl,?_⟩) ?_ ?_
    rotate_left
    ·intro w'
     go_simp
     with_reducible rfl
    rotate_left
    ·simp only [Act.put,List.setIfInBounds_toArray,List.set_cons_zero,List.set_cons_succ,zN,zQ]
     rfl
    refine zai (i := 4) (N := some 13) (v := ?_) (a' := ?_) #[true,false,false,false,true,false,false,false,false,false,false,false,false,false,false] rfl rfl (z9 HT_.out (by kernel_rfl)) (fun _ _ _ h => h) (Or.inl ⟨by rfl,?_⟩) ?_ ?_
    rotate_left
    ·intro w'
     go_simp
     with_reducible rfl
    rotate_left
    ·simp only [Act.put,List.setIfInBounds_toArray,List.set_cons_zero,List.set_cons_succ,zN,zQ]
     rfl
    refine zai (i := 9) (N := some 18) (v := ?_) (a' := ?_) #[true,false,false,false,true,false,false,false,false,true,false,false,false,false,false] rfl rfl (z9 HT_.out (by kernel_rfl)) (fun _ _ _ h => h) (Or.inl ⟨by rfl,?_⟩) ?_ ?_
    rotate_left
    ·intro w'
     go_simp
     with_reducible rfl
    rotate_left
    ·simp only [Act.put,List.setIfInBounds_toArray,List.set_cons_zero,List.set_cons_succ,zN,zQ]
     rfl
    refine take_ (i := 1) (N := some 10) (v := ?_) (a' := ?_) #[true,true,false,false,true,false,false,false,false,true,false,false,false,false,false] rfl rfl (zaY HT_.out HW_.out (by kernel_rfl)) (fun _ _ _ h => h) (Or.inl ⟨by rfl,?_⟩) hHeld ?_ ?_
    rotate_left
    ·rintro w' ⟨s0,s1,s2⟩
     go_simp
     with_reducible rfl
    rotate_left
    ·simp only [Act.put,List.setIfInBounds_toArray,List.set_cons_zero,List.set_cons_succ,zN,zQ]
     rfl
    refine zai (i := 2) (N := some 11) (v := ?_) (a' := ?_) #[true,true,true,false,true,false,false,false,false,true,false,false,false,false,false] rfl rfl (z9 HT_.out (by kernel_rfl)) (fun _ _ _ h => h) (Or.inl ⟨by rfl,?_⟩) ?_ ?_
    rotate_left
    ·intro w'
     go_simp
     with_reducible rfl
    rotate_left
    ·simp only [Act.put,List.setIfInBounds_toArray,List.set_cons_zero,List.set_cons_succ,zN,zQ]
     rfl
    refine take_ (i := 5) (N := some 14) (v := ?_) (a' := ?_) #[true,true,true,false,true,true,false,false,false,true,false,false,false,false,false] rfl rfl (zaY HT_.out HW_.out (by kernel_rfl)) (fun _ _ _ h => h) (Or.inl ⟨by rfl,?_⟩) hHeld ?_ ?_
    rotate_left
    ·rintro w' ⟨s0,s1,s2⟩
     go_simp
     with_reducible rfl
    rotate_left
    ·simp only [Act.put,List.setIfInBounds_toArray,List.set_cons_zero,List.set_cons_succ,zN,zQ]
     rfl
    refine zai (i := 6) (N := some 15) (v := ?_) (a' := ?_) #[true,true,true,false,true,true,true,false,false,true,false,false,false,false,false] rfl rfl (z9 HT_.out (by kernel_rfl)) (fun _ _ _ h => h) (Or.inl ⟨by rfl,?_⟩) ?_ ?_
    rotate_left
    ·intro w'
     go_simp
     with_reducible rfl
    rotate_left
    ·simp only [Act.put,List.setIfInBounds_toArray,List.set_cons_zero,List.set_cons_succ,zN,zQ]
     rfl
    refine take_ (i := 10) (N := some 19) (v := ?_) (a' := ?_) #[true,true,true,false,true,true,true,false,false,true,true,false,false,false,false] rfl rfl (zaY HT_.out HW_.out (by kernel_rfl)) (fun _ _ _ h => h) (Or.inl ⟨by rfl,?_⟩) hHeld ?_ ?_
    rotate_left
    ·rintro w' ⟨s0,s1,s2⟩
     go_simp
     with_reducible rfl
    rotate_left
    ·simp only [Act.put,List.setIfInBounds_toArray,List.set_cons_zero,List.set_cons_succ,zN,zQ]
     rfl
    refine zc7 (i := 3) (N := some 12) #[true,true,true,true,true,true,true,false,false,true,true,false,false,false,false] rfl rfl (zbT HT_.out (by kernel_rfl)) (by decide) (fun K hK => ?_)
    refine zb4 Try.func103 (by kernel_rfl) rfl #[.int .u64 (IntKind.u64.wrap (a0_0))] (by rfl) rfl rfl (by (try simp only [List.map_toArray,List.map_cons,List.map_nil]);first | done | rfl | (simp only [List.length_drop,List.length_take];rfl)) ?_
    with_reducible refine (zr.calls k (IntKind.u64.wrap (a0_0)) t406 _ A4.out).mono ?_
    rintro e w13 ⟨rfl,hb⟩
    refine ⟨_,rfl,?_⟩
    have n0_ := zc.mk (zh (g := gb404) (o := .cells #[.int .i64 a0_0,.int .i64 a0_1,.slice A0_2 l0_2.length c0_2] 107 (0,0)) (hGq BK404.out) hb)
    have n1_ := zc.mk (zg hCq hb)
    clear BK404
    clear HB
    have BK404 := n0_
    have HB := n1_
    clear n0_ n1_
    (try clear hb)
    (try clear hb2)
    (try clear hk)
    (try clear hi)
    refine hK.out _ _ ⟨(zb BK404.out 0).trans rfl,(zb BK404.out 1).trans rfl,(zb BK404.out 2).trans rfl⟩ (fun hHeld => ?_)
    clear hK K
    refine zb5 (a' := ?_) ?_ ?_
    rotate_left
    ·show Act.put _ (some 12) _ = _
     simp only [Act.put,List.setIfInBounds_toArray,List.set_cons_zero,List.set_cons_succ,zN,zQ]
     rfl
    refine zc7 (i := 7) (N := some 16) #[true,true,true,true,true,true,true,true,false,true,true,false,false,false,false] rfl rfl (zbT HT_.out (by kernel_rfl)) (by decide) (fun K hK => ?_)
    refine zb4 Try.func103 (by kernel_rfl) rfl #[.int .u64 (IntKind.u64.wrap (a0_1))] (by rfl) rfl rfl (by (try simp only [List.map_toArray,List.map_cons,List.map_nil]);first | done | rfl | (simp only [List.length_drop,List.length_take];rfl)) ?_
    with_reducible refine (zr.calls k (IntKind.u64.wrap (a0_1)) t407 _ A5.out).mono ?_
    rintro e w14 ⟨rfl,hb⟩
    refine ⟨_,rfl,?_⟩
    have n0_ := zc.mk (zh (g := gb404) (o := .cells #[.int .i64 a0_0,.int .i64 a0_1,.slice A0_2 l0_2.length c0_2] 107 (0,0)) (hGq BK404.out) hb)
    have n1_ := zc.mk (zg hCq hb)
    clear BK404
    clear HB
    have BK404 := n0_
    have HB := n1_
    clear n0_ n1_
    (try clear hb)
    (try clear hb2)
    (try clear hk)
    (try clear hi)
    refine hK.out _ _ ⟨(zb BK404.out 0).trans rfl,(zb BK404.out 1).trans rfl,(zb BK404.out 2).trans rfl⟩ (fun hHeld => ?_)
    clear hK K
    refine zb5 (a' := ?_) ?_ ?_
    rotate_left
    ·show Act.put _ (some 16) _ = _
     simp only [Act.put,List.setIfInBounds_toArray,List.set_cons_zero,List.set_cons_succ,zN,zQ]
     rfl
    refine zai (i := 8) (N := some 17) (v := ?_) (a' := ?_) #[true,true,true,true,true,true,true,true,true,true,true,false,false,false,false] rfl rfl (z9 HT_.out (by kernel_rfl)) (fun _ _ _ h => h) (Or.inl ⟨by rfl,?_⟩) ?_ ?_
    rotate_left
    ·intro w'
     go_simp
     with_reducible rfl
    rotate_left
    ·simp only [Act.put,List.setIfInBounds_toArray,List.set_cons_zero,List.set_cons_succ,zN,zQ]
     rfl
    refine zc7 (i := 11) (N := some 20) #[true,true,true,true,true,true,true,true,true,true,true,true,false,false,false] rfl rfl (zbT HT_.out (by kernel_rfl)) (by decide) (fun K hK => ?_)
    refine zb4 Try.func104 (by kernel_rfl) rfl #[.slice A0_2 l0_2.length c0_2] (by rfl) rfl rfl (by (try simp only [List.map_toArray,List.map_cons,List.map_nil]);first | done | rfl | (simp only [List.length_drop,List.length_take];rfl)) ?_
    with_reducible refine (zS.calls _ _ l0_2 t408 _ ?side1 ?side2 A7.out).mono ?_
    (case side1 => repeat (first | exact (Kd.C_below HR0_2.out HB.out) | (with_reducible refine Kd.C_alloc ?_ _) | (with_reducible refine Kd.C_drewN ?_ _) | (with_reducible refine Kd.C_drew ?_)))
    (case side2 => exact HC0_2.out)
    rintro e w15 ⟨rfl,hb⟩
    refine ⟨_,rfl,?_⟩
    have n0_ := zc.mk (zh (g := gb404) (o := .cells #[.int .i64 a0_0,.int .i64 a0_1,.slice A0_2 l0_2.length c0_2] 107 (0,0)) (hGq BK404.out) hb)
    have n1_ := zc.mk (zg hCq hb)
    clear BK404
    clear HB
    have BK404 := n0_
    have HB := n1_
    clear n0_ n1_
    (try clear hb)
    (try clear hb2)
    (try clear hk)
    (try clear hi)
    refine hK.out _ _ ⟨(zb BK404.out 0).trans rfl,(zb BK404.out 1).trans rfl,(zb BK404.out 2).trans rfl⟩ (fun hHeld => ?_)
    clear hK K
    refine zb5 (a' := ?_) ?_ ?_
    rotate_left
    ·show Act.put _ (some 20) _ = _
     simp only [Act.put,List.setIfInBounds_toArray,List.set_cons_zero,List.set_cons_succ,zN,zQ]
     rfl
    refine zai (i := 12) (N := some 21) (v := ?_) (a' := ?_) #[true,true,true,true,true,true,true,true,true,true,true,true,true,false,false] rfl rfl (z9 HT_.out (by kernel_rfl)) (fun _ _ _ h => h) (Or.inl ⟨by rfl,?_⟩) ?_ ?_
    rotate_left
    ·intro w'
     go_simp
     with_reducible rfl
    rotate_left
    ·simp only [Act.put,List.setIfInBounds_toArray,List.set_cons_zero,List.set_cons_succ,zN,zQ]
     rfl
    refine zai (i := 13) (N := some 2) (v := ?_) (a' := ?_) #[true,true,true,true,true,true,true,true,true,true,true,true,true,true,false] rfl rfl (z9 HT_.out (by kernel_rfl)) (fun _ _ _ h => h) (Or.inl ⟨by rfl,?_⟩) ?_ ?_
    rotate_left
    ·intro w'
     go_simp
     with_reducible rfl
    rotate_left
    ·simp only [Act.put,List.setIfInBounds_toArray,List.set_cons_zero,List.set_cons_succ,zN,zQ]
     rfl
    refine zai (i := 14) (N := some 3) (v := ?_) (a' := ?_) #[true,true,true,true,true,true,true,true,true,true,true,true,true,true,true] rfl rfl (z9 HT_.out (by kernel_rfl)) (fun _ _ _ h => h) (Or.inl ⟨by rfl,?_⟩) ?_ ?_
    rotate_left
    ·intro w'
     go_simp
     with_reducible rfl
    rotate_left
    ·simp only [Act.put,List.setIfInBounds_toArray,List.set_cons_zero,List.set_cons_succ,zN,zQ]
     rfl
    refine zeg (zc8 HT_.out (by kernel_rfl)) ?_
    try go_wp2
    go_ret2
    exact ⟨hHq,hCq⟩
   ·rw [if_neg c8] at H
    exact absurd H (by simp)
  ·rw [if_neg c6] at H
   exact absurd H (by simp)
 ·replace c3 := Bool.eq_false_iff.mpr c3
  subst c3
  have H1 : (some ((⟨#[]⟩ : ByteArray),1)) = some (r1,r2) := by rw [if_neg (show ¬ (false = true) by decide)] at H;exact H
  clear H
  have H := H1
  clear H1
  simp only [Option.some.injEq,Prod.mk.injEq] at H
  obtain ⟨rfl,rfl⟩ := H
  go_enter Try.func102,Try.ntmps102
  go_wp2_with (first | ((with_reducible refine zD (N := 1) rfl ?_);refine zq ?hg (N := 1) ?hd (cs := #[.int .i64 a0_0,.int .i64 a0_1,.slice A0_2 l0_2.length c0_2]) (t := 107) ?hr ?_;(case hd => rfl);(case hg => rfl);(case hr => first | (go_simp;done) | (go_simp;rfl));intro gb404 hg w16 hbox hb;have n0_ := zc.mk (zg hBq hb);have n1_ := zc.mk (hbox);have n2_ := zc.mk ((by rw [hg];exact (zj hBq) : w.heap.size ≤ gb404));have n3_ := zc.mk ((by rw [hg];exact (zj hBq) : w.heap.size ≤ gb404));clear HB;have HB := n0_;have BK404 := n1_;have GW404 := n2_;have GE404 := n3_;clear n0_ n1_ n2_ n3_;clear hb hbox hg;have hcz17_0 : w16.cell? ⟨gb404,0,none⟩ = some (.int .i64 a0_0) := (zb BK404.out 0).trans rfl;have hcz17_1 : w16.cell? ⟨gb404,1,none⟩ = some (.int .i64 a0_1) := (zb BK404.out 1).trans rfl;have hcz17_2 : w16.cell? ⟨gb404,2,none⟩ = some (.slice A0_2 l0_2.length c0_2) := (zb BK404.out 2).trans rfl;have hfz17_0 := za BK404.out 0;have hfz17_1 := za BK404.out 1;have hfz17_2 := za BK404.out 2) | ((with_reducible refine zp (f := 94) rfl ?_);refine z6 (some 6) rfl rfl Try.func94 (by kernel_rfl) rfl #[.agg #[.int .i64 a0_0,.int .i64 a0_1,.slice A0_2 l0_2.length c0_2]] rfl (by (try simp only [List.map_toArray,List.map_cons,List.map_nil]);first | done | rfl | (simp only [List.length_drop,List.length_take];rfl)) ?_;(with_reducible refine (zt.calls k a0_0 a0_1 _ _ l0_2 false _ ?side1 ?side2 A2.out).mono ?_);(case side1 => repeat (first | exact (Kd.C_below HR0_2.out HB.out) | (with_reducible refine Kd.C_alloc ?_ _) | (with_reducible refine Kd.C_drewN ?_ _) | (with_reducible refine Kd.C_drew ?_)));(case side2 => exact HC0_2.out);rintro e w18 ⟨rfl,hb⟩;refine ⟨_,rfl,?_⟩;have n0_ := zc.mk (zh (g := gb404) (o := .cells #[.int .i64 a0_0,.int .i64 a0_1,.slice A0_2 l0_2.length c0_2] 107 (0,0)) (hGq BK404.out) hb);have n1_ := zc.mk (zg hCq hb);clear BK404;clear HB;have BK404 := n0_;have HB := n1_;clear n0_ n1_;(try clear hb);(try clear hb2);(try clear hk);(try clear hi)))
  go_ret2
  exact ⟨hHq,hCq⟩
end Go.Proofs.Ytgdpiegkoeikiaa.Px