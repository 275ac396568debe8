/- Part 30 of 35 of the proof of the law PostTakes: what is proved is the statement at the end of the last part; its conditions are those of the given row. -/
import Derived.Tactics2
import Derived.Defers
import Derived.Recover
import Derived.Laws.Pointers
import Derived.Test.YtgdpiegkoeikiaaZPostTakesE
namespace Go.Proofs.Ytgdpiegkoeikiaa.Px
open Go.RowKit Go.Proofs.YtgdpiegkoeikiaaW.PrintWords Go.Proofs.YtgdpiegkoeikiaaW.PrintLast Go.Proofs.YtgdpiegkoeikiaaW.PrintMore
attribute [local go_sem] zF zH zQ zR zy zz zG zI
set_option linter.unusedVariables false
set_option linter.unusedSimpArgs false
theorem zbO.body (s : ByteArray) (w : World) : Calls Try.prog 42 #[.string s] w fun e w' => e = .returned (.string s) ∧ w' = w := by
 go_enter Try.func42,Try.ntmps42
 go_wp2
 go_ret
 exact ⟨rfl,rfl⟩
theorem zaf.assert (w : World) : (Instr.typeAssert (.iface 97 (.agg #[])) 20 97 true).run Try.prog w = .ok (.tuple #[.agg #[],.bool true]) w := by kernel_rfl
set_option maxHeartbeats 4000000 in
set_option maxRecDepth 100000 in
theorem zaf.catch (g6 g7 : Nat) (older : List PanicEntry) (c6 c7 : Value) (w : World) (h6 : w.heap[g6]? = some (.cells #[c6] 9 (0,0))) (h7 : w.heap[g7]? = some (.cells #[c7] 29 (0,0))) (hne : g6 ≠ g7) :
  CallsD Try.prog 69 #[.pointer (some ⟨g6,0,none⟩),.pointer (some ⟨g7,0,none⟩)] (.panicking ({ v := zca,recovered := false } :: older)) w fun e u' w' =>
   e = .returned (.tuple #[]) ∧ u' = .panicking ({ v := zca,recovered := true } :: older) ∧ w'.heap[g6]? = some (.cells #[.string ⟨#[]⟩] 9 (0,0)) ∧ w'.heap[g7]? = some (.cells #[.int .i64 3] 29 (0,0)) ∧ ∀ W0 : World,Below W0.heap.size W0 w → W0.heap.size ≤ g6 → W0.heap.size ≤ g7 → Below W0.heap.size W0 w' := by
 have ha := zaf.assert
 have hne' := Ne.symm hne
 refine callsD_of_wpS Try.func69 rfl fun c₀ cs hu => ?_
 apply wpS_seq
 apply wpS_region
 simp [wpOpsS,go_sem,recoverD,hu,Try.ntmps69,Exit.thenS,zca]
 show Code.wpS _ _ _ ⟨#[.pointer (some ⟨g6,0,none⟩),.pointer (some ⟨g7,0,none⟩),zca,undef,undef,undef,zca,undef,undef,undef,undef,undef,undef,undef,undef,undef,undef,undef],[]⟩ _ _
 unfold zca
 refine wpS_of_wp ?_
 go_wp2_with (first
  | ((with_reducible refine zu (N := 3) rfl ?_);refine zr ?hg (N := 3) ?hd (cs := #[]) (t := 97) ?hr ?_;(case hd => rfl);(case hg => rfl);(case hr => first | (go_simp;done) | (go_simp;rfl));intro g3 hg w1 hbox hb;have B6 := zc.mk (zh h6 hb);have B7 := zc.mk (zh h7 hb);have HB1 := zc.mk hb;clear hb hbox hg;have ca0 := (zb B6.out 0).trans rfl;have fca0 := za B6.out 0;have cb0 := (zb B7.out 0).trans rfl;have fcb0 := za B7.out 0))
 have x6 : ((w1.setCell ⟨g6,0,none⟩ (.string ⟨#[]⟩)).setCell ⟨g7,0,none⟩ (.int .i64 3)).heap[g6]? = some (.cells #[.string ⟨#[]⟩] 9 (0,0)) := zk (zi B6.out 0 _ rfl) hne _
 have x7 : ((w1.setCell ⟨g6,0,none⟩ (.string ⟨#[]⟩)).setCell ⟨g7,0,none⟩ (.int .i64 3)).heap[g7]? = some (.cells #[.int .i64 3] 29 (0,0)) := zi (zk B7.out hne' _) 0 _ rfl
 have x8 : ∀ W0 : World,Below W0.heap.size W0 w → W0.heap.size ≤ g6 → W0.heap.size ≤ g7 → Below W0.heap.size W0 ((w1.setCell ⟨g6,0,none⟩ (.string ⟨#[]⟩)).setCell ⟨g7,0,none⟩ (.int .i64 3)) := fun W0 h k6 k7 => zg (zg (zj h HB1.out) k6) k7
 generalize ((w1.setCell ⟨g6,0,none⟩ (.string ⟨#[]⟩)).setCell ⟨g7,0,none⟩ (.int .i64 3)) = wE at x6 x7 x8 ⊢
 simp [bodyPostS,results,Try.results69]
 exact ⟨x6,x7,x8⟩
set_option maxHeartbeats 4000000 in
set_option maxRecDepth 100000 in
theorem zaf.idle (g6 g7 : Nat) (w : World) :
  CallsD Try.prog 69 #[.pointer (some ⟨g6,0,none⟩),.pointer (some ⟨g7,0,none⟩)] .returning w fun e u' w' => e = .returned (.tuple #[]) ∧ u' = .returning ∧ w' = w := by
 refine callsD_of_wpS Try.func69 rfl fun c₀ cs hu => ?_
 apply wpS_seq
 apply wpS_region
 simp [wpOpsS,go_sem,recoverD,hu,Try.ntmps69,Exit.thenS]
 show Code.wpS _ _ _ ⟨#[.pointer (some ⟨g6,0,none⟩),.pointer (some ⟨g7,0,none⟩),.nilIface,undef,undef,undef,.nilIface,undef,undef,undef,undef,undef,undef,undef,undef,undef,undef,undef],[]⟩ _ _
 refine wpS_of_wp ?_
 go_wp2
 cases c₀
 simp_all [bodyPostS,results,Try.results69]
set_option maxHeartbeats 4000000 in
set_option maxRecDepth 100000 in
theorem zaf.good (s rest : ByteArray) (w : World) (hcut : zN.f s ⟨#[116]⟩ = some (rest,true)) :
  Calls Try.prog 41 #[.string s,.string ⟨#[116]⟩,.func (.func 42) #[] #[]] w fun e w' => e = .returned (.tuple #[.string rest,.int .i64 0]) ∧ Below w.heap.size w w' := by
 have hmf : ∀ (fn : Fn) (first cap : Array Value) (w : World),(Instr.makeFunc fn first cap).run Try.prog w = .ok (.func fn first cap) w := fun _ _ _ _ => rfl
 have HC := zc.mk hcut
 clear hcut
 go_enter_defers Try.func41,Try.ntmps41
 go_wp2_with (first
  | ((with_reducible refine zu (N := 6) rfl ?_);refine zr ?hg (N := 6) ?hd (cs := #[.string ⟨#[]⟩]) (t := 9) ?hr ?_;(case hd => rfl);(case hg => rfl);(case hr => first | (go_simp;done) | (go_simp;rfl));intro g6 hg w1 hbox hb;have G6 : zc (w.heap.size ≤ g6) := ⟨by rw [hg];exact Nat.le_refl _⟩;have B6 := zc.mk hbox;have HB1 := zc.mk hb;clear hb hbox hg)
  | ((with_reducible refine zu (N := 7) rfl ?_);refine zr ?hg (N := 7) ?hd (cs := #[.int .i64 0]) (t := 29) ?hr ?_;(case hd => rfl);(case hg => rfl);(case hr => first | (go_simp;done) | (go_simp;rfl));intro g7 hg w2 hbox hb;have G7 : zc (w.heap.size ≤ g7) := ⟨by rw [hg];exact zl HB1.out⟩;have N67 : zc (g6 ≠ g7) := ⟨by rw [hg];exact Nat.ne_of_lt (zP B6.out)⟩;have C7 := zc.mk hbox;have C6 := zc.mk (zh B6.out hb);have HB2 := zc.mk (zj HB1.out hb);clear hb hbox hg B6)
  | (go_at_call 55;(with_reducible refine (zN.calls _ _ _ _ _ HC.out).mono ?_);rintro e w3 ⟨rfl,⟨n3,rfl⟩⟩)
  | (go_at_call 26;(with_reducible refine (zaJ.yes _).mono ?_);rintro e w1 ⟨rfl,rfl⟩)
  | (go_at_call 42;(with_reducible refine (zbO.body rest _).mono ?_);rintro e w4 ⟨rfl,hw4⟩;have D6 : zc (w4.heap[g6]? = some (.cells #[.string ⟨#[]⟩] 9 (0,0))) := ⟨by rw [hw4];exact zd C6.out _⟩;have D7 : zc (w4.heap[g7]? = some (.cells #[.int .i64 0] 29 (0,0))) := ⟨by rw [hw4];exact zd C7.out _⟩;have HB4 : zc (Below w.heap.size w w4) := ⟨by rw [hw4];exact zm HB2.out _⟩;clear hw4;have ca0 := (zb D6.out 0).trans rfl;have fca0 := za D6.out 0;have cb0 := (zb D7.out 0).trans rfl;have fcb0 := za D7.out 0;have n67 := N67.out;have n76 := Ne.symm N67.out))
 have x6 : ((w4.setCell ⟨g6,0,none⟩ (.string rest)).setCell ⟨g7,0,none⟩ (.int .i64 0)).heap[g6]? = some (.cells #[.string rest] 9 (0,0)) := zk (zi D6.out 0 _ rfl) N67.out _
 have x7 : ((w4.setCell ⟨g6,0,none⟩ (.string rest)).setCell ⟨g7,0,none⟩ (.int .i64 0)).heap[g7]? = some (.cells #[.int .i64 0] 29 (0,0)) := zi (zk D7.out (Ne.symm N67.out) _) 0 _ rfl
 have x8 : Below w.heap.size w ((w4.setCell ⟨g6,0,none⟩ (.string rest)).setCell ⟨g7,0,none⟩ (.int .i64 0)) := zg (zg HB4.out G6.out) G7.out
 generalize ((w4.setCell ⟨g6,0,none⟩ (.string rest)).setCell ⟨g7,0,none⟩ (.int .i64 0)) = wE at x6 x7 x8 ⊢
 refine leaves_cons (f := 69) (args := #[.pointer (some ⟨g6,0,none⟩),.pointer (some ⟨g7,0,none⟩)]) (by simp) (by simp [go_sem]) ?_
 refine (zaf.idle g6 g7 _).mono ?_
 rintro e u' w'' ⟨rfl,rfl,rfl⟩
 have hc60 : w''.cell? ⟨g6,0,none⟩ = some (.string rest) := (zb x6 0).trans rfl
 have hc7 : w''.cell? ⟨g7,0,none⟩ = some (.int .i64 0) := (zb x7 0).trans rfl
 simp [Leaves,settle,results,Try.results41,asAddr,go_sem,hc60,hc7]
 exact x8
set_option maxHeartbeats 4000000 in
set_option maxRecDepth 100000 in
theorem zaf.none1 (s : ByteArray) (w : World) (hcut : zN.f s ⟨#[116]⟩ = some (s,false)) :
  Calls Try.prog 41 #[.string s,.string ⟨#[116]⟩,.func (.func 42) #[] #[]] w fun e w' => e = .returned (.tuple #[.string ⟨#[]⟩,.int .i64 3]) ∧ Below w.heap.size w w' := by
 have hmf : ∀ (fn : Fn) (first cap : Array Value) (w : World),(Instr.makeFunc fn first cap).run Try.prog w = .ok (.func fn first cap) w := fun _ _ _ _ => rfl
 have HC := zc.mk hcut
 clear hcut
 go_enter_defers Try.func41,Try.ntmps41
 go_wp2_with (first
  | ((with_reducible refine zu (N := 6) rfl ?_);refine zr ?hg (N := 6) ?hd (cs := #[.string ⟨#[]⟩]) (t := 9) ?hr ?_;(case hd => rfl);(case hg => rfl);(case hr => first | (go_simp;done) | (go_simp;rfl));intro g6 hg w1 hbox hb;have G6 : zc (w.heap.size ≤ g6) := ⟨by rw [hg];exact Nat.le_refl _⟩;have B6 := zc.mk hbox;have HB1 := zc.mk hb;clear hb hbox hg)
  | ((with_reducible refine zu (N := 7) rfl ?_);refine zr ?hg (N := 7) ?hd (cs := #[.int .i64 0]) (t := 29) ?hr ?_;(case hd => rfl);(case hg => rfl);(case hr => first | (go_simp;done) | (go_simp;rfl));intro g7 hg w2 hbox hb;have G7 : zc (w.heap.size ≤ g7) := ⟨by rw [hg];exact zl HB1.out⟩;have N67 : zc (g6 ≠ g7) := ⟨by rw [hg];exact Nat.ne_of_lt (zP B6.out)⟩;have C7 := zc.mk hbox;have C6 := zc.mk (zh B6.out hb);have HB2 := zc.mk (zj HB1.out hb);clear hb hbox hg B6)
  | (go_at_call 55;(with_reducible refine (zN.calls _ _ _ _ _ HC.out).mono ?_);rintro e w3 ⟨rfl,⟨n3,rfl⟩⟩)
  | (go_at_call 26;(with_reducible refine (zaJ.no _).mono ?_);rintro e w4 ⟨rfl,rfl⟩;have D6 := zc.mk (zd C6.out n3);have D7 := zc.mk (zd C7.out n3);have HB4 := zc.mk (zm HB2.out n3)))
 refine leaves_cons (f := 69) (args := #[.pointer (some ⟨g6,0,none⟩),.pointer (some ⟨g7,0,none⟩)]) (by simp) (by simp [go_sem]) ?_
 refine (zaf.catch g6 g7 [] _ _ _ D6.out D7.out N67.out).mono ?_
 rintro e u' w'' ⟨rfl,rfl,x6,x7,hx⟩
 have x8 := hx w HB4.out G6.out G7.out
 have hc60 : w''.cell? ⟨g6,0,none⟩ = some (.string ⟨#[]⟩) := (zb x6 0).trans rfl
 have hc7 : w''.cell? ⟨g7,0,none⟩ = some (.int .i64 3) := (zb x7 0).trans rfl
 simp [Leaves,settle,results,Try.results41,asAddr,go_sem,hc60,hc7]
 exact x8
def zdY (s : ByteArray) : ByteArray × Int := match ofB s with
 | c :: t => if c = 116 then (toB t,0) else ((⟨#[]⟩ : ByteArray),3)
 | [] => ((⟨#[]⟩ : ByteArray),3)
def zaf.f (a0 a1 : ByteArray) : Option (ByteArray × Int) := if a1 = ⟨#[116]⟩ then some (zdY a0) else none
theorem zaf.calls (a0 a1 : ByteArray) (r1 : ByteArray) (r2 : Int) (w : World) (h : zaf.f a0 a1 = some (r1,r2)) :
  Calls Try.prog 41 #[.string a0,.string a1,.func (.func 42) #[] #[]] w fun e w' => e = .returned (.tuple #[.string r1,.int .i64 r2]) ∧ Below w.heap.size w w' := by
 unfold zaf.f at h
 split at h
 ·rename_i h0
  subst h0
  have h := Option.some.inj h
  unfold zdY at h
  rcases hq : ofB a0 with _ | ⟨c,t⟩
  ·rw [hq] at h
   simp only [Prod.mk.injEq] at h
   obtain ⟨rfl,rfl⟩ := h
   exact zaf.none1 a0 w (zbm _ _ (by rw [hq];simp))
  ·rw [hq] at h
   simp only at h
   by_cases hc : c = 116
   ·rw [if_pos hc] at h
    subst hc
    simp only [Prod.mk.injEq] at h
    obtain ⟨rfl,rfl⟩ := h
    exact zaf.good a0 (toB t) w (zb0 a0 116 t hq)
   ·rw [if_neg hc] at h
    simp only [Prod.mk.injEq] at h
    obtain ⟨rfl,rfl⟩ := h
    exact zaf.none1 a0 w (zbm _ _ (by rw [hq];simpa using hc))
 ·cases h
def zbO.f (a0 : ByteArray) : Option (ByteArray × Int) := (zaf.f a0 (⟨#[116]⟩ : ByteArray)).bind fun bt380 => (some (bt380.1,bt380.2))
set_option maxHeartbeats 8000000 in
set_option maxRecDepth 100000 in
theorem zbO.calls (a0 : ByteArray) (r1 : ByteArray) (r2 : Int) (w : World) (h : zbO.f a0 = some (r1,r2)) :
  Calls Try.prog 14 #[.string a0] w fun e w' => e = .returned (.tuple #[.string r1,.int .i64 r2]) ∧ Below w.heap.size w w' := by
 have HB := zc.mk (Below.refl w.heap.size w)
 have H : ((zaf.f a0 (⟨#[116]⟩ : ByteArray)).bind fun bt380 => (some (bt380.1,bt380.2))) = some (r1,r2) := h
 clear h
 replace H := Option.bind_eq_some_iff.mp H
 obtain ⟨⟨t380,t381⟩,A20,H⟩ := H
 replace H : (some (t380,t381)) = some (r1,r2) := H
 have A2 := zc.mk A20
 clear A20
 simp only [Option.some.injEq,Prod.mk.injEq] at H
 obtain ⟨rfl,rfl⟩ := H
 go_enter Try.func14,Try.ntmps14
 go_wp2_with (first | ((with_reducible refine zt (f := 41) rfl ?_);refine zU (some 5) rfl rfl Try.func41 (by kernel_rfl) rfl #[.string a0,.string (⟨#[116]⟩ : ByteArray),.func (.func 42) #[] #[]] rfl (by (try simp only [List.map_toArray,List.map_cons,List.map_nil]);first | done | rfl | (simp only [List.length_drop,List.length_take];rfl)) ?_;(with_reducible refine (zaf.calls a0 (⟨#[116]⟩ : ByteArray) t380 t381 _ A2.out).mono ?_);rintro e w3 ⟨rfl,hb⟩;refine ⟨_,rfl,?_⟩;have n0_ := zc.mk (zj hBq hb);clear HB;have HB := n0_;clear n0_;(try clear hb);(try clear hb2);(try clear hk);(try clear hi)))
 go_ret2
 exact ⟨hHq,hBq⟩
def zbk.f (a0 : ByteArray) : Option (Int) := if a0.toList = ([] : List UInt8) then (some 0) else (if 0 < (a0.size : Int) then (some (bt a0 0)) else (none))
set_option maxHeartbeats 8000000 in
set_option maxRecDepth 100000 in
theorem zbk.calls (a0 : ByteArray) (r : Int) (w : World) (h : zbk.f a0 = some r) :
  Calls Try.prog 22 #[.string a0] w fun e w' => e = .returned (.int .u8 r) ∧ zax w w' := by
 have H : (if a0.toList = ([] : List UInt8) then (some 0) else (if 0 < (a0.size : Int) then (some (bt a0 0)) else (none))) = some r := h
 clear h
 by_cases c2 : a0.toList = ([] : List UInt8)
 ·rw [if_pos c2] at H
  have c2b0 : (a0.toList == ([] : List UInt8)) = true := beq_iff_eq.mpr c2
  have c2b1 : (a0.toList != ([] : List UInt8)) = false := bne_eq_false_iff_eq.mpr c2
  clear c2
  obtain rfl := Option.some.inj H
  go_enter Try.func22,Try.ntmps22
  go_wp2
  go_ret
  exact ⟨hDq,hEq⟩
 ·rw [if_neg c2] at H
  have c2b0 : (a0.toList == ([] : List UInt8)) = false := beq_eq_false_iff_ne.mpr c2
  have c2b1 : (a0.toList != ([] : List UInt8)) = true := bne_iff_ne.mpr c2
  by_cases c3 : 0 < (a0.size : Int)
  ·rw [if_pos c3] at H
   have c3b0 : decide (0 < (a0.size : Int)) = true := decide_eq_true c3
   have c3b1 : decide (0 < a0.size) = true := decide_eq_true (by omega)
   clear c3
   obtain rfl := Option.some.inj H
   have p4 : 0 ≤ (0 : Int) := (by omega)
   have q4 : 0 < a0.size := (by have : (0 : Int) < (a0.size : Int) := hFq;omega)
   have hx4 : ∀ h : 0 < a0.size,((a0[0]'h).toNat : Int) = bt a0 0 := zcn a0 0
   clear p4
   have qi4 : (0 < (a0.size : Int)) = True := eq_true (hFq)
   replace q4 := eq_true q4
   go_enter Try.func22,Try.ntmps22
   go_wp2
   go_ret
   exact ⟨hDq,hEq⟩
  ·rw [if_neg c3] at H
   exact absurd H (by simp)
def zay.j0 : Nat → Bool → Int → Int → Int → ByteArray → Option (ByteArray × Int)
 | 0,_,_,_,_,_ => none
 | k + 1,x17,x103000,x103001,x103002,x103003 => if x17 = true then (some ((⟨#[]⟩ : ByteArray),1)) else ((zaN.f (IntKind.u64.wrap (x103000))).bind fun t105 => (if 1 + t105.size ≤ 9223372036854775807 then ((zaN.f (IntKind.u64.wrap (x103001))).bind fun t106 => (if ((⟨#[121]⟩ : ByteArray) ++ t105).size + t106.size ≤ 9223372036854775807 then ((zaN.f (IntKind.u64.wrap (x103002))).bind fun t107 => (if (((⟨#[121]⟩ : ByteArray) ++ t105) ++ t106).size + t107.size ≤ 9223372036854775807 then (if ((((⟨#[121]⟩ : ByteArray) ++ t105) ++ t106) ++ t107).size + x103003.size ≤ 9223372036854775807 then (some (((((⟨#[121]⟩ : ByteArray) ++ t105) ++ t106) ++ t107) ++ x103003,0)) else (none)) else (none))) else (none))) else (none)))
def zay.f (k : Nat) (a0_0 : Int) (a0_1 : Int) (a0_2 : Int) (a0_3 : ByteArray) : Option (ByteArray × Int) := (zbL.f a0_0 a0_1 a0_3).bind fun t103 => (if t103 = true then ((za6.f a0_2).bind fun t104 => (zay.j0 k (!t104) a0_0 a0_1 a0_2 a0_3)) else (zay.j0 k true a0_0 a0_1 a0_2 a0_3))
def zay.T3 : Bool × List (List Nat × List Nat) := (true,[([],[]),([0],[0]),([1],[1]),([2],[2]),([3],[3]),([],[]),([5],[5]),([6],[6]),([7,3],[7]),([4,8],[4,8]),([],[]),([10],[10]),([11],[11]),([12,8],[12]),([9,13],[9,13]),([],[]),([15],[15]),([14,16],[14,16]),([17,13,0,1,2,3,4,5,6,7,8,9,10,11,12,13,14,15,16,17],[17]),([18,0,1,2,3,4,5,6,7,8,9,10,11,12,13,14,15,16,17,18],[])])
def zay.B3 : List Nat := [0,1,3,7,15,0,32,96,239,511,0,1024,3072,7663,16383,0,32768,131071,262143,524287]
theorem zay.tab3 : zcI .any (zhg Try.f21 3) = zay.T3 := by kernel_rfl
theorem zay.bits3 : zc5 zay.T3.2 zay.B3 = true := by kernel_rfl
set_option maxHeartbeats 8000000 in
set_option maxRecDepth 100000 in
theorem zay.calls (k : Nat) (a0_0 : Int) (a0_1 : Int) (a0_2 : Int) (a0_3 : ByteArray) (r1 : ByteArray) (r2 : Int) (w : World) (h : zay.f k a0_0 a0_1 a0_2 a0_3 = some (r1,r2)) :
  Calls Try.prog 21 #[.agg #[.int .i64 a0_0,.int .i64 a0_1,.int .i64 a0_2,.string a0_3]] w fun e w' => e = .returned (.tuple #[.string r1,.int .i64 r2]) ∧ Below w.heap.size w w' := by
 have hu42 := Try.underlying42
 have HB := zc.mk (Below.refl w.heap.size w)
 have H : ((zbL.f a0_0 a0_1 a0_3).bind fun t103 => (if t103 = true then ((za6.f a0_2).bind fun t104 => (zay.j0 k (!t104) a0_0 a0_1 a0_2 a0_3)) else (zay.j0 k true a0_0 a0_1 a0_2 a0_3))) = some (r1,r2) := h
 clear h
 have HC2 := zc.mk H
 clear H
 go_enter Try.func21,Try.ntmps21
 go_upto_region 1 with (first | ((with_reducible refine zu (N := 1) rfl ?_);refine zr ?hg (N := 1) ?hd (cs := #[.int .i64 a0_0,.int .i64 a0_1,.int .i64 a0_2,.string a0_3]) (t := 42) ?hr ?_;(case hd => rfl);(case hg => rfl);(case hr => first | (go_simp;done) | (go_simp;rfl));intro gb102 hg w3 hbox hb;have n0_ := zc.mk (zj hBq hb);have n1_ := zc.mk (hbox);have n2_ := zc.mk ((by rw [hg];exact (zl hBq) : w.heap.size ≤ gb102));have n3_ := zc.mk ((by rw [hg];exact (zl hBq) : w.heap.size ≤ gb102));clear HB;have HB := n0_;have BK102 := n1_;have GW102 := n2_;have GE102 := n3_;clear n0_ n1_ n2_ n3_;clear hb hbox hg))
 (try simp only [Act.put,List.setIfInBounds_toArray,List.set_cons_zero,List.set_cons_succ])
 go_cut [17] (fun v17 wc => ∃ (kq : Nat) (x17_1 : Bool),v17 = .bool x17_1 ∧ zc (zay.j0 kq x17_1 a0_0 a0_1 a0_2 a0_3 = some (r1,r2)) ∧ zc (kq ≤ k) ∧ zc (wc.heap[gb102]? = some (.cells #[.int .i64 a0_0,.int .i64 a0_1,.int .i64 a0_2,.string a0_3] 42 (0,0))) ∧ zc (Below w.heap.size w wc))
 case first =>
  have H := HC2.out
  clear HC2
  replace H := Option.bind_eq_some_iff.mp H
  obtain ⟨t103,A40,H⟩ := H
  replace H : (if t103 = true then ((za6.f a0_2).bind fun t104 => (zay.j0 k (!t104) a0_0 a0_1 a0_2 a0_3)) else (zay.j0 k true a0_0 a0_1 a0_2 a0_3)) = some (r1,r2) := H
  have A4 := zc.mk A40
  clear A40
  by_cases c5 : t103 = true
  ·subst c5
   have H1 : ((za6.f a0_2).bind fun t104 => (zay.j0 k (!t104) a0_0 a0_1 a0_2 a0_3)) = some (r1,r2) := by rw [if_pos rfl] at H;exact H
   clear H
   have H := H1
   clear H1
   replace H := Option.bind_eq_some_iff.mp H
   obtain ⟨t104,A60,H⟩ := H
   replace H : (zay.j0 k (!t104) a0_0 a0_1 a0_2 a0_3) = some (r1,r2) := H
   have A6 := zc.mk A60
   clear A60
   have H' := zc.mk H
   clear H
   have hcz7_0 : w3.cell? ⟨gb102,0,none⟩ = some (.int .i64 a0_0) := (zb BK102.out 0).trans rfl
   have hcz7_1 : w3.cell? ⟨gb102,1,none⟩ = some (.int .i64 a0_1) := (zb BK102.out 1).trans rfl
   have hcz7_2 : w3.cell? ⟨gb102,2,none⟩ = some (.int .i64 a0_2) := (zb BK102.out 2).trans rfl
   have hcz7_3 : w3.cell? ⟨gb102,3,none⟩ = some (.string a0_3) := (zb BK102.out 3).trans rfl
   have hfz7_0 := za BK102.out 0
   have hfz7_1 := za BK102.out 1
   have hfz7_2 := za BK102.out 2
   have hfz7_3 := za BK102.out 3
   go_wp2_with (first | ((with_reducible refine zt (f := 35) rfl ?_);refine zU (some 10) rfl rfl Try.func35 (by kernel_rfl) rfl #[.int .i64 a0_0,.int .i64 a0_1,.string a0_3] rfl (by (try simp only [List.map_toArray,List.map_cons,List.map_nil]);first | done | rfl | (simp only [List.length_drop,List.length_take];rfl)) ?_;(with_reducible refine (zbL.calls a0_0 a0_1 a0_3 true _ A4.out).mono ?_);rintro e w' ⟨rfl,⟨nd,rfl⟩⟩;refine ⟨_,rfl,?_⟩) | (go_at_call 36;(with_reducible refine (za6.calls a0_2 t104 _ A6.out).mono ?_);rintro e w' ⟨rfl,⟨nd,rfl⟩⟩))
   go_meet
   case rel => exact ⟨_,(!t104),(hDq),H',⟨by first | omega | exact Nat.le_refl _⟩,⟨hGq BK102.out⟩,⟨by repeat (first | (with_reducible first | exact HB.out | apply zA | apply zm | apply zJ | refine zg ?_ GE102.out) | exact HB.out)⟩⟩
  ·replace c5 := Bool.eq_false_iff.mpr c5
   subst c5
   have H1 : (zay.j0 k true a0_0 a0_1 a0_2 a0_3) = some (r1,r2) := by rw [if_neg (show ¬ (false = true) by decide)] at H;exact H
   clear H
   have H := H1
   clear H1
   have H' := zc.mk H
   clear H
   have hcz8_0 : w3.cell? ⟨gb102,0,none⟩ = some (.int .i64 a0_0) := (zb BK102.out 0).trans rfl
   have hcz8_1 : w3.cell? ⟨gb102,1,none⟩ = some (.int .i64 a0_1) := (zb BK102.out 1).trans rfl
   have hcz8_2 : w3.cell? ⟨gb102,2,none⟩ = some (.int .i64 a0_2) := (zb BK102.out 2).trans rfl
   have hcz8_3 : w3.cell? ⟨gb102,3,none⟩ = some (.string a0_3) := (zb BK102.out 3).trans rfl
   have hfz8_0 := za BK102.out 0
   have hfz8_1 := za BK102.out 1
   have hfz8_2 := za BK102.out 2
   have hfz8_3 := za BK102.out 3
   go_wp2_with (first | ((with_reducible refine zt (f := 35) rfl ?_);refine zU (some 10) rfl rfl Try.func35 (by kernel_rfl) rfl #[.int .i64 a0_0,.int .i64 a0_1,.string a0_3] rfl (by (try simp only [List.map_toArray,List.map_cons,List.map_nil]);first | done | rfl | (simp only [List.length_drop,List.length_take];rfl)) ?_;(with_reducible refine (zbL.calls a0_0 a0_1 a0_3 false _ A4.out).mono ?_);rintro e w' ⟨rfl,⟨nd,rfl⟩⟩;refine ⟨_,rfl,?_⟩))
   go_meet
   case rel => exact ⟨_,(true),(hDq),H',⟨by first | omega | exact Nat.le_refl _⟩,⟨hGq BK102.out⟩,⟨by repeat (first | (with_reducible first | exact HB.out | apply zA | apply zm | apply zJ | refine zg ?_ GE102.out) | exact HB.out)⟩⟩
 case rest =>
  clear HC2
  try clear c2
  try clear p2
  try clear c3
  try clear c5
  try clear hcz7_0
  try clear hcz7_1
  try clear hcz7_2
  try clear hcz7_3
  try clear hcz8_0
  try clear hcz8_1
  try clear hcz8_2
  try clear hcz8_3
  try clear hfz7_0
  try clear hfz7_1
  try clear hfz7_2
  try clear hfz7_3
  try clear hfz8_0
  try clear hfz8_1
  try clear hfz8_2
  try clear hfz8_3
  obtain ⟨kq,x17_1,rfl,HA,HJ1,BK102,HB⟩ := hcut
  cases kq with
  | zero => exact absurd HA.out (by simp [zay.j0])
  | succ kj1 =>
   have H := HA.out
   clear HA
   simp only [zay.j0] at H
   by_cases c9 : x17_1 = true
   ·subst c9
    have H1 : (some ((⟨#[]⟩ : ByteArray),1)) = some (r1,r2) := by rw [if_pos rfl] at H;exact H
    clear H
    have H := H1
    clear H1
    simp only [Option.some.injEq,Prod.mk.injEq] at H
    obtain ⟨rfl,rfl⟩ := H
    go_wp2
    go_ret2
    exact ⟨hHq,hCq⟩
   ·replace c9 := Bool.eq_false_iff.mpr c9
    subst c9
    have H1 : ((zaN.f (IntKind.u64.wrap (a0_0))).bind fun t105 => (if 1 + t105.size ≤ 9223372036854775807 then ((zaN.f (IntKind.u64.wrap (a0_1))).bind fun t106 => (if ((⟨#[121]⟩ : ByteArray) ++ t105).size + t106.size ≤ 9223372036854775807 then ((zaN.f (IntKind.u64.wrap (a0_2))).bind fun t107 => (if (((⟨#[121]⟩ : ByteArray) ++ t105) ++ t106).size + t107.size ≤ 9223372036854775807 then (if ((((⟨#[121]⟩ : ByteArray) ++ t105) ++ t106) ++ t107).size + a0_3.size ≤ 9223372036854775807 then (some (((((⟨#[121]⟩ : ByteArray) ++ t105) ++ t106) ++ t107) ++ a0_3,0)) else (none)) else (none))) else (none))) else (none))) = some (r1,r2) := by rw [if_neg (show ¬ (false = true) by decide)] at H;exact H
    clear H
    have H := H1
    clear H1
    replace H := Option.bind_eq_some_iff.mp H
    obtain ⟨t105,A100,H⟩ := H
    replace H : (if 1 + t105.size ≤ 9223372036854775807 then ((zaN.f (IntKind.u64.wrap (a0_1))).bind fun t106 => (if ((⟨#[121]⟩ : ByteArray) ++ t105).size + t106.size ≤ 9223372036854775807 then ((zaN.f (IntKind.u64.wrap (a0_2))).bind fun t107 => (if (((⟨#[121]⟩ : ByteArray) ++ t105) ++ t106).size + t107.size ≤ 9223372036854775807 then (if ((((⟨#[121]⟩ : ByteArray) ++ t105) ++ t106) ++ t107).size + a0_3.size ≤ 9223372036854775807 then (some (((((⟨#[121]⟩ : ByteArray) ++ t105) ++ t106) ++ t107) ++ a0_3,0)) else (none)) else (none))) else (none))) else (none)) = some (r1,r2) := H
    have A10 := zc.mk A100
    clear A100
    by_cases c11 : 1 + t105.size ≤ 9223372036854775807
    ·rw [if_pos c11] at H
     have c11b0 := eq_true c11
     have c11b1 : decide (1 + t105.size ≤ 9223372036854775807) = true := decide_eq_true c11
     try have c11b2 : (9223372036854775807 < 1 + t105.size) = False := eq_false (Nat.not_lt.2 c11)
     replace H := Option.bind_eq_some_iff.mp H
     obtain ⟨t106,A120,H⟩ := H
     replace H : (if ((⟨#[121]⟩ : ByteArray) ++ t105).size + t106.size ≤ 9223372036854775807 then ((zaN.f (IntKind.u64.wrap (a0_2))).bind fun t107 => (if (((⟨#[121]⟩ : ByteArray) ++ t105) ++ t106).size + t107.size ≤ 9223372036854775807 then (if ((((⟨#[121]⟩ : ByteArray) ++ t105) ++ t106) ++ t107).size + a0_3.size ≤ 9223372036854775807 then (some (((((⟨#[121]⟩ : ByteArray) ++ t105) ++ t106) ++ t107) ++ a0_3,0)) else (none)) else (none))) else (none)) = some (r1,r2) := H
     have A12 := zc.mk A120
     clear A120
     by_cases c13 : ((⟨#[121]⟩ : ByteArray) ++ t105).size + t106.size ≤ 9223372036854775807
     ·rw [if_pos c13] at H
      have c13b0 := eq_true c13
      have c13b1 : decide (((⟨#[121]⟩ : ByteArray) ++ t105).size + t106.size ≤ 9223372036854775807) = true := decide_eq_true c13
      try have c13b2 : (9223372036854775807 < ((⟨#[121]⟩ : ByteArray) ++ t105).size + t106.size) = False := eq_false (Nat.not_lt.2 c13)
      try (have c13b3 := c13;simp [ByteArray.size_append,(show (⟨#[121]⟩ : ByteArray).size = 1 from rfl)] at c13b3;have c13b4 := eq_false (Nat.not_lt.2 c13b3);clear c13b3)
      replace H := Option.bind_eq_some_iff.mp H
      obtain ⟨t107,A140,H⟩ := H
      replace H : (if (((⟨#[121]⟩ : ByteArray) ++ t105) ++ t106).size + t107.size ≤ 9223372036854775807 then (if ((((⟨#[121]⟩ : ByteArray) ++ t105) ++ t106) ++ t107).size + a0_3.size ≤ 9223372036854775807 then (some (((((⟨#[121]⟩ : ByteArray) ++ t105) ++ t106) ++ t107) ++ a0_3,0)) else (none)) else (none)) = some (r1,r2) := H
      have A14 := zc.mk A140
      clear A140
      by_cases c15 : (((⟨#[121]⟩ : ByteArray) ++ t105) ++ t106).size + t107.size ≤ 9223372036854775807
      ·rw [if_pos c15] at H
       have c15b0 := eq_true c15
       have c15b1 : decide ((((⟨#[121]⟩ : ByteArray) ++ t105) ++ t106).size + t107.size ≤ 9223372036854775807) = true := decide_eq_true c15
       try have c15b2 : (9223372036854775807 < (((⟨#[121]⟩ : ByteArray) ++ t105) ++ t106).size + t107.size) = False := eq_false (Nat.not_lt.2 c15)
       try (have c15b3 := c15;simp [ByteArray.size_append,(show (⟨#[121]⟩ : ByteArray).size = 1 from rfl)] at c15b3;have c15b4 := eq_false (Nat.not_lt.2 c15b3);clear c15b3)
       by_cases c16 : ((((⟨#[121]⟩ : ByteArray) ++ t105) ++ t106) ++ t107).size + a0_3.size ≤ 9223372036854775807
       ·rw [if_pos c16] at H
        have c16b0 := eq_true c16
        have c16b1 : decide (((((⟨#[121]⟩ : ByteArray) ++ t105) ++ t106) ++ t107).size + a0_3.size ≤ 9223372036854775807) = true := decide_eq_true c16
        try have c16b2 : (9223372036854775807 < ((((⟨#[121]⟩ : ByteArray) ++ t105) ++ t106) ++ t107).size + a0_3.size) = False := eq_false (Nat.not_lt.2 c16)
        try (have c16b3 := c16;simp [ByteArray.size_append,(show (⟨#[121]⟩ : ByteArray).size = 1 from rfl)] at c16b3;have c16b4 := eq_false (Nat.not_lt.2 c16b3);clear c16b3)
        simp only [Option.some.injEq,Prod.mk.injEq] at H
        obtain ⟨rfl,rfl⟩ := H
        try go_wp2
        have n0_ := zc.mk (zf BK102.out)
        have n1_ := zc.mk (zJ HB.out)
        clear BK102
        clear HB
        have BK102 := n0_
        have HB := n1_
        clear n0_ n1_
        refine zgD (n := 20) (S := fun w' => w'.cell? ⟨gb102,0,none⟩ = some (.int .i64 a0_0) ∧ w'.cell? ⟨gb102,1,none⟩ = some (.int .i64 a0_1) ∧ w'.cell? ⟨gb102,2,none⟩ = some (.int .i64 a0_2) ∧ w'.cell? ⟨gb102,3,none⟩ = some (.string a0_3)) (ds := []) #[false,false,false,false,false,false,false,false,false,false,false,false,false,false,false,false,false,false,false,false] (by kernel_rfl) rfl rfl ⟨(zb BK102.out 0).trans rfl,(zb BK102.out 1).trans rfl,(zb BK102.out 2).trans rfl,(zb BK102.out 3).trans rfl⟩ (fun hHeld => ?_);refine zec zay.tab3 zay.bits3 (fun HT_ HW_ => ?_)
        generalize wc.drew = w17 at BK102 HB hHeld ⊢
        refine zbM (i := 0) (N := some 18) (v := ?_) (a' := ?_) #[true,false,false,false,false,false,false,false,false,false,false,false,false,false,false,false,false,false,false,false] rfl rfl (zbi HT_.out (by kernel_rfl)) (fun _ _ _ h => h) (Or.inl ⟨by rfl,?_⟩) ?_ ?_
        rotate_left
        ·intro w'
         go_simp
         with_reducible rfl
        rotate_left
        ·simp only [Act.put,List.setIfInBounds_toArray,List.set_cons_zero,List.set_cons_succ,zan,zaq]
         rfl
        refine zbM (i := 5) (N := some 23) (v := ?_) (a' := ?_) #[true,false,false,false,false,true,false,false,false,false,false,false,false,false,false,false,false,false,false,false] rfl rfl (zbi HT_.out (by kernel_rfl)) (fun _ _ _ h => h) (Or.inl ⟨by rfl,?_⟩) ?_ ?_
        rotate_left
        ·intro w'
         go_simp
         with_reducible rfl
        rotate_left
        ·simp only [Act.put,List.setIfInBounds_toArray,List.set_cons_zero,List.set_cons_succ,zan,zaq]
         rfl
        refine zbM (i := 10) (N := some 28) (v := ?_) (a' := ?_) #[true,false,false,false,false,true,false,false,false,false,true,false,false,false,false,false,false,false,false,false] rfl rfl (zbi HT_.out (by kernel_rfl)) (fun _ _ _ h => h) (Or.inl ⟨by rfl,?_⟩) ?_ ?_
        rotate_left
        ·intro w'
         go_simp
         with_reducible rfl
        rotate_left
        ·simp only [Act.put,List.setIfInBounds_toArray,List.set_cons_zero,List.set_cons_succ,zan,zaq]
         rfl
        refine zbM (i := 15) (N := some 33) (v := ?_) (a' := ?_) #[true,false,false,false,false,true,false,false,false,false,true,false,false,false,false,true,false,false,false,false] rfl rfl (zbi HT_.out (by kernel_rfl)) (fun _ _ _ h => h) (Or.inl ⟨by rfl,?_⟩) ?_ ?_
        rotate_left
        ·intro w'
         go_simp
         with_reducible rfl
        rotate_left
        ·simp only [Act.put,List.setIfInBounds_toArray,List.set_cons_zero,List.set_cons_succ,zan,zaq]
         rfl
        refine take_ (i := 1) (N := some 19) (v := ?_) (a' := ?_) #[true,true,false,false,false,true,false,false,false,false,true,false,false,false,false,true,false,false,false,false] rfl rfl (zcw HT_.out HW_.out (by kernel_rfl)) (fun _ _ _ h => h) (Or.inl ⟨by rfl,?_⟩) hHeld ?_ ?_
        rotate_left
        ·rintro w' ⟨s0,s1,s2,s3⟩
         go_simp
         with_reducible rfl
        rotate_left
        ·simp only [Act.put,List.setIfInBounds_toArray,List.set_cons_zero,List.set_cons_succ,zan,zaq]
         rfl
        refine zbM (i := 2) (N := some 20) (v := ?_) (a' := ?_) #[true,true,true,false,false,true,false,false,false,false,true,false,false,false,false,true,false,false,false,false] rfl rfl (zbi HT_.out (by kernel_rfl)) (fun _ _ _ h => h) (Or.inl ⟨by rfl,?_⟩) ?_ ?_
        rotate_left
        ·intro w'
         go_simp
         with_reducible rfl
        rotate_left
        ·simp only [Act.put,List.setIfInBounds_toArray,List.set_cons_zero,List.set_cons_succ,zan,zaq]
         rfl
        refine take_ (i := 6) (N := some 24) (v := ?_) (a' := ?_) #[true,true,true,false,false,true,true,false,false,false,true,false,false,false,false,true,false,false,false,false] rfl rfl (zcw HT_.out HW_.out (by kernel_rfl)) (fun _ _ _ h => h) (Or.inl ⟨by rfl,?_⟩) hHeld ?_ ?_
        rotate_left
        ·rintro w' ⟨s0,s1,s2,s3⟩
         go_simp
         with_reducible rfl
        rotate_left
        ·simp only [Act.put,List.setIfInBounds_toArray,List.set_cons_zero,List.set_cons_succ,zan,zaq]
         rfl
        refine zbM (i := 7) (N := some 25) (v := ?_) (a' := ?_) #[true,true,true,false,false,true,true,true,false,false,true,false,false,false,false,true,false,false,false,false] rfl rfl (zbi HT_.out (by kernel_rfl)) (fun _ _ _ h => h) (Or.inl ⟨by rfl,?_⟩) ?_ ?_
        rotate_left
        ·intro w'
         go_simp
         with_reducible rfl
        rotate_left
        ·simp only [Act.put,List.setIfInBounds_toArray,List.set_cons_zero,List.set_cons_succ,zan,zaq]
         rfl
        refine take_ (i := 11) (N := some 29) (v := ?_) (a' := ?_) #[true,true,true,false,false,true,true,true,false,false,true,true,false,false,false,true,false,false,false,false] rfl rfl (zcw HT_.out HW_.out (by kernel_rfl)) (fun _ _ _ h => h) (Or.inl ⟨by rfl,?_⟩) hHeld ?_ ?_
        rotate_left
        ·rintro w' ⟨s0,s1,s2,s3⟩
         go_simp
         with_reducible rfl
        rotate_left
        ·simp only [Act.put,List.setIfInBounds_toArray,List.set_cons_zero,List.set_cons_succ,zan,zaq]
         rfl
        refine zbM (i := 12) (N := some 30) (v := ?_) (a' := ?_) #[true,true,true,false,false,true,true,true,false,false,true,true,true,false,false,true,false,false,false,false] rfl rfl (zbi HT_.out (by kernel_rfl)) (fun _ _ _ h => h) (Or.inl ⟨by rfl,?_⟩) ?_ ?_
        rotate_left
        ·intro w'
         go_simp
         with_reducible rfl
        rotate_left
        ·simp only [Act.put,List.setIfInBounds_toArray,List.set_cons_zero,List.set_cons_succ,zan,zaq]
         rfl
        refine take_ (i := 16) (N := some 34) (v := ?_) (a' := ?_) #[true,true,true,false,false,true,true,true,false,false,true,true,true,false,false,true,true,false,false,false] rfl rfl (zcw HT_.out HW_.out (by kernel_rfl)) (fun _ _ _ h => h) (Or.inl ⟨by rfl,?_⟩) hHeld ?_ ?_
        rotate_left
        ·rintro w' ⟨s0,s1,s2,s3⟩
         go_simp
         with_reducible rfl
        rotate_left
        ·simp only [Act.put,List.setIfInBounds_toArray,List.set_cons_zero,List.set_cons_succ,zan,zaq]
         rfl
        refine zhf (i := 3) (N := some 21) #[true,true,true,true,false,true,true,true,false,false,true,true,true,false,false,true,true,false,false,false] rfl rfl (zeR HT_.out (by kernel_rfl)) (by decide) (fun K hK => ?_)
        refine zf4 Try.func51 (by kernel_rfl) rfl #[.int .u64 (IntKind.u64.wrap (a0_0))] (by rfl) rfl rfl (by (try simp only [List.map_toArray,List.map_cons,List.map_nil]);first | done | rfl | (simp only [List.length_drop,List.length_take];rfl)) ?_
        with_reducible refine (zaN.calls (IntKind.u64.wrap (a0_0)) t105 _ A10.out).mono ?_
        rintro e w18 ⟨rfl,hb⟩
        refine ⟨_,rfl,?_⟩
        have n0_ := zc.mk (zh (g := gb102) (o := .cells #[.int .i64 a0_0,.int .i64 a0_1,.int .i64 a0_2,.string a0_3] 42 (0,0)) (hGq BK102.out) hb)
        have n1_ := zc.mk (zj hCq hb)
        clear BK102
        clear HB
        have BK102 := n0_
        have HB := n1_
        clear n0_ n1_
        (try clear hb)
        (try clear hb2)
        (try clear hk)
        (try clear hi)
        refine hK.out _ _ ⟨(zb BK102.out 0).trans rfl,(zb BK102.out 1).trans rfl,(zb BK102.out 2).trans rfl,(zb BK102.out 3).trans rfl⟩ (fun hHeld => ?_)
        clear hK K
        refine zgd (a' := ?_) ?_ ?_
        rotate_left
        ·show Act.put _ (some 21) _ = _
         simp only [Act.put,List.setIfInBounds_toArray,List.set_cons_zero,List.set_cons_succ,zan,zaq]
         rfl
        refine zbM (i := 4) (N := some 22) (v := ?_) (a' := ?_) #[true,true,true,true,true,true,true,true,false,false,true,true,true,false,false,true,true,false,false,false] rfl rfl (zbi HT_.out (by kernel_rfl)) (fun _ _ _ h => h) (Or.inl ⟨by rfl,?_⟩) ?_ ?_
        rotate_left
        ·intro w'
         go_simp
         with_reducible rfl
        rotate_left
        ·simp only [Act.put,List.setIfInBounds_toArray,List.set_cons_zero,List.set_cons_succ,zan,zaq]
         rfl
        refine zhf (i := 8) (N := some 26) #[true,true,true,true,true,true,true,true,true,false,true,true,true,false,false,true,true,false,false,false] rfl rfl (zeR HT_.out (by kernel_rfl)) (by decide) (fun K hK => ?_)
        refine zf4 Try.func51 (by kernel_rfl) rfl #[.int .u64 (IntKind.u64.wrap (a0_1))] (by rfl) rfl rfl (by (try simp only [List.map_toArray,List.map_cons,List.map_nil]);first | done | rfl | (simp only [List.length_drop,List.length_take];rfl)) ?_
        with_reducible refine (zaN.calls (IntKind.u64.wrap (a0_1)) t106 _ A12.out).mono ?_
        rintro e w19 ⟨rfl,hb⟩
        refine ⟨_,rfl,?_⟩
        have n0_ := zc.mk (zh (g := gb102) (o := .cells #[.int .i64 a0_0,.int .i64 a0_1,.int .i64 a0_2,.string a0_3] 42 (0,0)) (hGq BK102.out) hb)
        have n1_ := zc.mk (zj hCq hb)
        clear BK102
        clear HB
        have BK102 := n0_
        have HB := n1_
        clear n0_ n1_
        (try clear hb)
        (try clear hb2)
        (try clear hk)
        (try clear hi)
        refine hK.out _ _ ⟨(zb BK102.out 0).trans rfl,(zb BK102.out 1).trans rfl,(zb BK102.out 2).trans rfl,(zb BK102.out 3).trans rfl⟩ (fun hHeld => ?_)
        clear hK K
        refine zgd (a' := ?_) ?_ ?_
        rotate_left
        ·show Act.put _ (some 26) _ = _
         simp only [Act.put,List.setIfInBounds_toArray,List.set_cons_zero,List.set_cons_succ,zan,zaq]
         rfl
        refine zbM (i := 9) (N := some 27) (v := ?_) (a' := ?_) #[true,true,true,true,true,true,true,true,true,true,true,true,true,false,false,true,true,false,false,false] rfl rfl (zbi HT_.out (by kernel_rfl)) (fun _ _ _ h => h) (Or.inl ⟨by rfl,?_⟩) ?_ ?_
        rotate_left
        ·intro w'
         go_simp
         with_reducible rfl
        rotate_left
        ·simp only [Act.put,List.setIfInBounds_toArray,List.set_cons_zero,List.set_cons_succ,zan,zaq]
         rfl
        refine zhf (i := 13) (N := some 31) #[true,true,true,true,true,true,true,true,true,true,true,true,true,true,false,true,true,false,false,false] rfl rfl (zeR HT_.out (by kernel_rfl)) (by decide) (fun K hK => ?_)
        refine zf4 Try.func51 (by kernel_rfl) rfl #[.int .u64 (IntKind.u64.wrap (a0_2))] (by rfl) rfl rfl (by (try simp only [List.map_toArray,List.map_cons,List.map_nil]);first | done | rfl | (simp only [List.length_drop,List.length_take];rfl)) ?_
        with_reducible refine (zaN.calls (IntKind.u64.wrap (a0_2)) t107 _ A14.out).mono ?_
        rintro e w20 ⟨rfl,hb⟩
        refine ⟨_,rfl,?_⟩
        have n0_ := zc.mk (zh (g := gb102) (o := .cells #[.int .i64 a0_0,.int .i64 a0_1,.int .i64 a0_2,.string a0_3] 42 (0,0)) (hGq BK102.out) hb)
        have n1_ := zc.mk (zj hCq hb)
        clear BK102
        clear HB
        have BK102 := n0_
        have HB := n1_
        clear n0_ n1_
        (try clear hb)
        (try clear hb2)
        (try clear hk)
        (try clear hi)
        refine hK.out _ _ ⟨(zb BK102.out 0).trans rfl,(zb BK102.out 1).trans rfl,(zb BK102.out 2).trans rfl,(zb BK102.out 3).trans rfl⟩ (fun hHeld => ?_)
        clear hK K
        refine zgd (a' := ?_) ?_ ?_
        rotate_left
        ·show Act.put _ (some 31) _ = _
         simp only [Act.put,List.setIfInBounds_toArray,List.set_cons_zero,List.set_cons_succ,zan,zaq]
         rfl
        refine zbM (i := 14) (N := some 32) (v := ?_) (a' := ?_) #[true,true,true,true,true,true,true,true,true,true,true,true,true,true,true,true,true,false,false,false] rfl rfl (zbi HT_.out (by kernel_rfl)) (fun _ _ _ h => h) (Or.inl ⟨by rfl,?_⟩) ?_ ?_
        rotate_left
        ·intro w'
         go_simp
         with_reducible rfl
        rotate_left
        ·simp only [Act.put,List.setIfInBounds_toArray,List.set_cons_zero,List.set_cons_succ,zan,zaq]
         rfl
        refine zbM (i := 17) (N := some 35) (v := ?_) (a' := ?_) #[true,true,true,true,true,true,true,true,true,true,true,true,true,true,true,true,true,true,false,false] rfl rfl (zbi HT_.out (by kernel_rfl)) (fun _ _ _ h => h) (Or.inl ⟨by rfl,?_⟩) ?_ ?_
        rotate_left
        ·intro w'
         go_simp
         with_reducible rfl
        rotate_left
        ·simp only [Act.put,List.setIfInBounds_toArray,List.set_cons_zero,List.set_cons_succ,zan,zaq]
         rfl
        refine zbM (i := 18) (N := some 2) (v := ?_) (a' := ?_) #[true,true,true,true,true,true,true,true,true,true,true,true,true,true,true,true,true,true,true,false] rfl rfl (zbi HT_.out (by kernel_rfl)) (fun _ _ _ h => h) (Or.inl ⟨by rfl,?_⟩) ?_ ?_
        rotate_left
        ·intro w'
         go_simp
         with_reducible rfl
        rotate_left
        ·simp only [Act.put,List.setIfInBounds_toArray,List.set_cons_zero,List.set_cons_succ,zan,zaq]
         rfl
        refine zbM (i := 19) (N := some 3) (v := ?_) (a' := ?_) #[true,true,true,true,true,true,true,true,true,true,true,true,true,true,true,true,true,true,true,true] rfl rfl (zbi HT_.out (by kernel_rfl)) (fun _ _ _ h => h) (Or.inl ⟨by rfl,?_⟩) ?_ ?_
        rotate_left
        ·intro w'
         go_simp
         with_reducible rfl
        rotate_left
        ·simp only [Act.put,List.setIfInBounds_toArray,List.set_cons_zero,List.set_cons_succ,zan,zaq]
         rfl
        refine zg8 (zfJ HT_.out (by kernel_rfl)) ?_
        try go_wp2
        go_ret2
        exact ⟨hHq,hCq⟩
       ·rw [if_neg c16] at H
        exact absurd H (by simp)
      ·rw [if_neg c15] at H
       exact absurd H (by simp)
     ·rw [if_neg c13] at H
      exact absurd H (by simp)
    ·rw [if_neg c11] at H
     exact absurd H (by simp)
end Go.Proofs.Ytgdpiegkoeikiaa.Px