/- Texts of this claim, put together by a program of this session: Px22, RefPlace, Match, Index, Look, Choose, Make. -/
import Derived.WalkLawsBesides
import Derived.BigQuiet
import Derived.Deep.QuietTactic
import Derived.Lib.Hide
import Derived.Outline
import Derived.Test.YtcihleahjnpaaaaGreatDoorProg
import Derived.Test.YtcihleahjnpaaaaGreatDoorC6
namespace Go.Proofs.YtcihleahjnpaaaaGreatDoor.P
open Go.RowKit Go.Proofs.YtcihleahjnpaaaaGreatDoor.Q Go.Proofs.YtcihleahjnpaaaaGreatDoor.H Go.Proofs.YtcihleahjnpaaaaGreatDoorW.PrintWords Go.Proofs.YtcihleahjnpaaaaGreatDoorW.PrintLast Go.Proofs.YtcihleahjnpaaaaGreatDoorW.PrintMore
attribute [local go_sem] max2_int min2_int max_two min_two max_three min_three max_four min_four   -- for this text's walks alone
set_option linter.unusedVariables false
set_option linter.unusedSimpArgs false
mutual
def latticeref12_Place.j0 : Nat → List (S30) → Int → Bool → Int → Int → ByteArray → Bool → Int → Option (Int)
 | 0, _, _, _, _, _, _, _, _ => none
 | k + 1, x1, x2, x21, x216000, x216001, x216002, x216003, x216004 => if x21 = true then (some 0) else (latticeref12_Place.l0 k x1 x2 0 0 x216000 x216001 x216002 x216003 x216004)
def latticeref12_Place.l0 : Nat → List (S30) → Int → Int → Int → Int → Int → ByteArray → Bool → Int → Option (Int)
 | 0, _, _, _, _, _, _, _, _, _ => none
 | k + 1, x1, x2, x8, x9, x216000, x216001, x216002, x216003, x216004 => if x9 < (x1.length : Int) then (if 0 ≤ x9 then ((latticeref03_Order.f k ((rd_T30 x1 x9).f0) ((rd_T30 x1 x9).f1) ((rd_T30 x1 x9).f2) ((rd_T30 x1 x9).f3) ((rd_T30 x1 x9).f4) x216000 x216001 x216002 x216003 x216004).bind fun bt218 => ((latticeref03_Good.f ((rd_T30 x1 x9).f0) ((rd_T30 x1 x9).f1) ((rd_T30 x1 x9).f2) ((rd_T30 x1 x9).f3) ((rd_T30 x1 x9).f4)).bind fun t221 => (if bt218.2 = 0 then (if t221 = true then (latticeref12_Place.j2 k x1 x2 x8 x9 bt218.1 (((rd_T30 x1 x9).f0) != x216000) x216000 x216001 x216002 x216003 x216004) else (latticeref12_Place.j2 k x1 x2 x8 x9 bt218.1 true x216000 x216001 x216002 x216003 x216004)) else (latticeref12_Place.j2 k x1 x2 x8 x9 bt218.1 true x216000 x216001 x216002 x216003 x216004)))) else (none)) else (some x8)
def latticeref12_Place.j2 : Nat → List (S30) → Int → Int → Int → Int → Bool → Int → Int → ByteArray → Bool → Int → Option (Int)
 | 0, _, _, _, _, _, _, _, _, _, _, _ => none
 | k + 1, x1, x2, x8, x9, x10, x57, x216000, x216001, x216002, x216003, x216004 => if x57 = true then (latticeref12_Place.l0 k x1 x2 x8 (wrap64 (x9 + 1)) x216000 x216001 x216002 x216003 x216004) else (if x2 = 0 then (if x10 = 0 then (latticeref12_Place.j3 k x1 x2 x8 x9 (x8 == 0) x216000 x216001 x216002 x216003 x216004) else (latticeref12_Place.j3 k x1 x2 x8 x9 false x216000 x216001 x216002 x216003 x216004)) else (if x2 > 0 then (if x10 = 1 then (if x2 < 0 then (if x10 = (-1) then (latticeref12_Place.l0 k x1 x2 x8 (wrap64 (x9 + 1)) x216000 x216001 x216002 x216003 x216004) else (latticeref12_Place.l0 k x1 x2 (wrap64 (x9 + 1)) (wrap64 (x9 + 1)) x216000 x216001 x216002 x216003 x216004)) else (latticeref12_Place.l0 k x1 x2 x8 (wrap64 (x9 + 1)) x216000 x216001 x216002 x216003 x216004)) else (latticeref12_Place.l0 k x1 x2 (wrap64 (x9 + 1)) (wrap64 (x9 + 1)) x216000 x216001 x216002 x216003 x216004)) else (if x2 < 0 then (if x10 = (-1) then (latticeref12_Place.l0 k x1 x2 x8 (wrap64 (x9 + 1)) x216000 x216001 x216002 x216003 x216004) else (latticeref12_Place.l0 k x1 x2 (wrap64 (x9 + 1)) (wrap64 (x9 + 1)) x216000 x216001 x216002 x216003 x216004)) else (latticeref12_Place.l0 k x1 x2 x8 (wrap64 (x9 + 1)) x216000 x216001 x216002 x216003 x216004))))
def latticeref12_Place.j3 : Nat → List (S30) → Int → Int → Int → Bool → Int → Int → ByteArray → Bool → Int → Option (Int)
 | 0, _, _, _, _, _, _, _, _, _, _ => none
 | k + 1, x1, x2, x8, x9, x65, x216000, x216001, x216002, x216003, x216004 => if x65 = true then (latticeref12_Place.l0 k x1 x2 (wrap64 (x9 + 1)) (wrap64 (x9 + 1)) x216000 x216001 x216002 x216003 x216004) else (latticeref12_Place.l0 k x1 x2 x8 (wrap64 (x9 + 1)) x216000 x216001 x216002 x216003 x216004)
end
def latticeref12_Place.f (k : Nat) (a0_0 : Int) (a0_1 : Int) (a0_2 : ByteArray) (a0_3 : Bool) (a0_4 : Int) (l1 : List (S30)) (a2 : Int) : Option (Int) := (latticeref03_Good.f a0_0 a0_1 a0_2 a0_3 a0_4).bind fun t216 => (if t216 = true then (latticeref12_Place.j0 k l1 a2 (a0_0 == 4) a0_0 a0_1 a0_2 a0_3 a0_4) else (latticeref12_Place.j0 k l1 a2 true a0_0 a0_1 a0_2 a0_3 a0_4))
def latticeref12_Place.T8 : Bool × List (List Nat × List Nat) := (true, [([], []), ([], []), ([0, 1], [0, 1]), ([2], [2]), ([], []), ([3, 4], [3, 4]), ([5], [5]), ([6], [6]), ([6], [6]), ([7, 5, 0, 1, 2, 3, 4, 5, 6, 7], [7]), ([8, 9, 0, 1, 2, 3, 4, 5, 6, 7, 8, 9], [8])])
def latticeref12_Place.B8 : List Nat := [0, 0, 3, 7, 0, 31, 63, 127, 127, 255, 1023]
theorem latticeref12_Place.tab8 : rtab .any (opsOf Tryz.f11 8) = latticeref12_Place.T8 := by kernel_rfl
theorem latticeref12_Place.bits8 : waitsOk latticeref12_Place.T8.2 latticeref12_Place.B8 = true := by kernel_rfl
def latticeref12_Place.T10 : Bool × List (List Nat × List Nat) := (true, [([], []), ([0], [0]), ([1], [1]), ([2], [2]), ([3, 2], [2, 3]), ([2, 4], [2, 4]), ([5, 2], [5]), ([6], [6]), ([6], [6]), ([7, 8, 6], [6, 7, 8]), ([9, 6], [6, 9]), ([10, 6], [6, 10]), ([6], [6]), ([12, 6], [6, 12]), ([11, 13, 6], [6, 11, 13]), ([6, 14], [6, 14])])
def latticeref12_Place.B10 : List Nat := [0, 1, 3, 7, 15, 31, 63, 127, 127, 511, 1023, 2047, 127, 4223, 16383, 32767]
theorem latticeref12_Place.tab10 : rtab .any (opsOf Tryz.f11 10) = latticeref12_Place.T10 := by kernel_rfl
theorem latticeref12_Place.bits10 : waitsOk latticeref12_Place.T10.2 latticeref12_Place.B10 = true := by kernel_rfl
set_option maxHeartbeats 8000000 in
set_option maxRecDepth 100000 in
theorem latticeref12_Place.calls (k : Nat) (a0_0 : Int) (a0_1 : Int) (a0_2 : ByteArray) (a0_3 : Bool) (a0_4 : Int) (A1 : Option Addr) (c1 : Nat) (l1 : List (S30)) (a2 : Int) (r : Int) (w : World) (hr1 : Kd.C k30 w A1 l1.length l1) (hc1 : l1.length ≤ c1) (h : latticeref12_Place.f k a0_0 a0_1 a0_2 a0_3 a0_4 l1 a2 = some r) :
  Calls Tryz.prog 11 #[.agg #[.int .i64 a0_0, .int .i64 a0_1, .string a0_2, .bool a0_3, .int .i64 a0_4], .slice A1 l1.length c1, .int .i64 a2] w fun e w' => e = .returned (.int .i64 r) ∧ Below w.heap.size w w' := by
 have hu30 := Tryz.underlying30
 have HR1 := Aside0.mk hr1
 have HC1 := Aside0.mk hc1
 clear hr1 hc1
 have HB := Aside0.mk (Below.refl w.heap.size w)
 have H : ((latticeref03_Good.f a0_0 a0_1 a0_2 a0_3 a0_4).bind fun t216 => (if t216 = true then (latticeref12_Place.j0 k l1 a2 (a0_0 == 4) a0_0 a0_1 a0_2 a0_3 a0_4) else (latticeref12_Place.j0 k l1 a2 true a0_0 a0_1 a0_2 a0_3 a0_4))) = some r := h
 clear h
 replace H := Option.bind_eq_some_iff.mp H
 obtain ⟨t216, A40, H⟩ := H
 replace H : (if t216 = true then (latticeref12_Place.j0 k l1 a2 (a0_0 == 4) a0_0 a0_1 a0_2 a0_3 a0_4) else (latticeref12_Place.j0 k l1 a2 true a0_0 a0_1 a0_2 a0_3 a0_4)) = some r := H
 have A4 := Aside0.mk A40
 clear A40
 have HC5 := Aside0.mk H
 clear H
 go_enter Tryz.func11, Tryz.ntmps11
 go_upto_region 2 with (first | ((with_reducible refine gate_dst (N := 3) rfl ?_); refine bx (N := 3) (cs := #[.int .i64 a0_0, .int .i64 a0_1, .string a0_2, .bool a0_3, .int .i64 a0_4]) (t := 30) ?_; intro gb215 hg w6 hbox hb; have BK215 := Aside0.mk (hbox); have GW215 := (bw hg); have GE215 := (bw hg); replace HB := (bs hb); clear hb hbox hg; obtain ⟨hcz7_0, hcz7_1, hcz7_2, hcz7_3, hcz7_4, hfz7_0, hfz7_1, hfz7_2, hfz7_3, hfz7_4⟩ := bc5 BK215) | ((with_reducible refine gate_callee (f := 26) rfl ?_); refine gL (some 14) Tryz.func26 #[.agg #[.int .i64 a0_0, .int .i64 a0_1, .string a0_2, .bool a0_3, .int .i64 a0_4]] ?_; (with_reducible refine (latticeref03_Good.calls a0_0 a0_1 a0_2 a0_3 a0_4 t216 _ A4.out).mono ?_); rintro e w8 ⟨rfl, hb⟩; refine ⟨_, rfl, ?_⟩; replace BK215 := (bb BK215 hb); replace HB := (bs hb); (try clear hb)))
 (try simp only [Act.put, List.setIfInBounds_toArray, List.set_cons_zero, List.set_cons_succ])
 go_cut [21] (fun v21 wc => ∃ (kq : Nat) (x21_4 : Bool), v21 = .bool x21_4 ∧ Aside0 (latticeref12_Place.j0 kq l1 a2 x21_4 a0_0 a0_1 a0_2 a0_3 a0_4 = some r) ∧ Aside0 (kq ≤ k) ∧ Aside0 (wc.heap[gb215]? = some (.cells #[.int .i64 a0_0, .int .i64 a0_1, .string a0_2, .bool a0_3, .int .i64 a0_4] 30 (0, 0))) ∧ Aside0 (Below w.heap.size w wc))
 case first =>
  have H := HC5.out
  clear HC5
  by_cases c9 : t216 = true
  ·subst c9
   have H1 : (latticeref12_Place.j0 k l1 a2 (a0_0 == 4) a0_0 a0_1 a0_2 a0_3 a0_4) = some r := by rw [if_pos rfl] at H; exact H
   clear H
   have H := H1
   clear H1
   have H' := Aside0.mk H
   clear H
   have hcz10_0 : w8.cell? ⟨gb215, 0, none⟩ = some (.int .i64 a0_0) := (blk_cell BK215.out 0).trans rfl
   have hcz10_1 : w8.cell? ⟨gb215, 1, none⟩ = some (.int .i64 a0_1) := (blk_cell BK215.out 1).trans rfl
   have hcz10_2 : w8.cell? ⟨gb215, 2, none⟩ = some (.string a0_2) := (blk_cell BK215.out 2).trans rfl
   have hcz10_3 : w8.cell? ⟨gb215, 3, none⟩ = some (.bool a0_3) := (blk_cell BK215.out 3).trans rfl
   have hcz10_4 : w8.cell? ⟨gb215, 4, none⟩ = some (.int .i64 a0_4) := (blk_cell BK215.out 4).trans rfl
   have hfz10_0 := blk_frozen BK215.out 0
   have hfz10_1 := blk_frozen BK215.out 1
   have hfz10_2 := blk_frozen BK215.out 2
   have hfz10_3 := blk_frozen BK215.out 3
   have hfz10_4 := blk_frozen BK215.out 4
   go_wp2
   go_meet
   case rel => exact ⟨_, ((a0_0 == 4)), (by first | rfl | (simp; done) | (simp [*]; done)), H', ⟨by first | omega | exact Nat.le_refl _⟩, ⟨by (with_reducible repeat (first | refine blk_drewN ?_ _ | refine blk_drew ?_ | refine blk_alloc ?_ _)); exact BK215.out⟩, ⟨by repeat (first | (with_reducible first | exact HB.out | apply below_alloc | apply pw_below_drewN | apply below_drew1 | refine below_set ?_ GE215.out) | exact HB.out)⟩⟩
  ·replace c9 := Bool.eq_false_iff.mpr c9
   subst c9
   have H1 : (latticeref12_Place.j0 k l1 a2 true a0_0 a0_1 a0_2 a0_3 a0_4) = some r := by rw [if_neg (show ¬ (false = true) by decide)] at H; exact H
   clear H
   have H := H1
   clear H1
   have H' := Aside0.mk H
   clear H
   go_wp2
   go_meet
   case rel => exact ⟨_, (true), (by first | rfl | (simp; done) | (simp [*]; done)), H', ⟨by first | omega | exact Nat.le_refl _⟩, ⟨by (with_reducible repeat (first | refine blk_drewN ?_ _ | refine blk_drew ?_ | refine blk_alloc ?_ _)); exact BK215.out⟩, ⟨by repeat (first | (with_reducible first | exact HB.out | apply below_alloc | apply pw_below_drewN | apply below_drew1 | refine below_set ?_ GE215.out) | exact HB.out)⟩⟩
 case rest =>
  clear HC5
  try clear c1
  try clear c2
  try clear p2
  try clear c9
  try clear hcz10_0
  try clear hcz10_1
  try clear hcz10_2
  try clear hcz10_3
  try clear hcz10_4
  try clear hcz7_0
  try clear hcz7_1
  try clear hcz7_2
  try clear hcz7_3
  try clear hcz7_4
  try clear hfz10_0
  try clear hfz10_1
  try clear hfz10_2
  try clear hfz10_3
  try clear hfz10_4
  try clear hfz7_0
  try clear hfz7_1
  try clear hfz7_2
  try clear hfz7_3
  try clear hfz7_4
  obtain ⟨kq, x21_4, rfl, HA, HJ4, BK215, HB⟩ := hcut
  cases kq with
  | zero => exact absurd HA.out (by simp [latticeref12_Place.j0])
  | succ kj4 =>
   have H := HA.out
   clear HA
   simp only [latticeref12_Place.j0] at H
   by_cases c11 : x21_4 = true
   ·subst c11
    have H1 : (some 0) = some r := by rw [if_pos rfl] at H; exact H
    clear H
    have H := H1
    clear H1
    obtain rfl := Option.some.inj H
    go_wp2
    go_ret
    exact ⟨by first | rfl | (simp [errW_none, errW_some] <;> rfl) | (simp [*, errW_none, errW_some] <;> rfl), be⟩
   ·replace c11 := Bool.eq_false_iff.mpr c11
    subst c11
    have H1 : (latticeref12_Place.l0 kj4 l1 a2 0 0 a0_0 a0_1 a0_2 a0_3 a0_4) = some r := by rw [if_neg (show ¬ (false = true) by decide)] at H; exact H
    clear H
    have H := H1
    clear H1
    have H' := Aside0.mk H
    clear H
    go_wp2
    go_loopg [8, 9] kj4 (fun kq v8 v9 w' => ∃ (x8_2 : Int) (x9_2 : Int), v8 = .int .i64 x8_2 ∧ v9 = .int .i64 x9_2 ∧ Aside0 (latticeref12_Place.l0 kq l1 a2 x8_2 x9_2 a0_0 a0_1 a0_2 a0_3 a0_4 = some r) ∧ Aside0 (kq ≤ kj4) ∧ Aside0 (w'.heap[gb215]? = some (.cells #[.int .i64 a0_0, .int .i64 a0_1, .string a0_2, .bool a0_3, .int .i64 a0_4] 30 (0, 0))) ∧ Aside0 (Below w.heap.size w w'))
    case atStart => exact ⟨(0), (0), (by first | rfl | (simp; done) | (simp [*]; done)), (by first | rfl | (simp; done) | (simp [*]; done)), H', ⟨Nat.le_refl _⟩, ⟨by (with_reducible repeat (first | refine blk_drewN ?_ _ | refine blk_drew ?_ | refine blk_alloc ?_ _)); exact BK215.out⟩, ⟨by repeat (first | (with_reducible first | exact HB.out | apply below_alloc | apply pw_below_drewN | apply below_drew1 | refine below_set ?_ GE215.out) | exact HB.out)⟩⟩
    case round =>
     clear H'
     try clear c1
     try clear c2
     try clear p2
     try clear c9
     try clear c11
     try clear hcz10_0
     try clear hcz10_1
     try clear hcz10_2
     try clear hcz10_3
     try clear hcz10_4
     try clear hcz7_0
     try clear hcz7_1
     try clear hcz7_2
     try clear hcz7_3
     try clear hcz7_4
     try clear hfz10_0
     try clear hfz10_1
     try clear hfz10_2
     try clear hfz10_3
     try clear hfz10_4
     try clear hfz7_0
     try clear hfz7_1
     try clear hfz7_2
     try clear hfz7_3
     try clear hfz7_4
     try clear p2
     obtain ⟨x8_2, x9_2, rfl, rfl, HA, HK2, BK215, HB⟩ := hrel
     cases gk with
     | zero => exact absurd HA.out (by simp [latticeref12_Place.l0])
     | succ k2 =>
      have H := HA.out
      clear HA
      simp only [latticeref12_Place.l0] at H
      by_cases c12 : x9_2 < (l1.length : Int)
      ·rw [if_pos c12] at H
       have c12b0 : decide (x9_2 < (l1.length : Int)) = true := decide_eq_true c12
       clear c12
       by_cases c13 : 0 ≤ x9_2
       ·rw [if_pos c13] at H
        have c13b0 : decide (0 ≤ x9_2) = true := decide_eq_true c13
        clear c13
        replace H := Option.bind_eq_some_iff.mp H
        obtain ⟨⟨t218, t219⟩, A140, H⟩ := H
        replace H : ((latticeref03_Good.f ((rd_T30 l1 x9_2).f0) ((rd_T30 l1 x9_2).f1) ((rd_T30 l1 x9_2).f2) ((rd_T30 l1 x9_2).f3) ((rd_T30 l1 x9_2).f4)).bind fun t221 => (if t219 = 0 then (if t221 = true then (latticeref12_Place.j2 k2 l1 a2 x8_2 x9_2 t218 (((rd_T30 l1 x9_2).f0) != a0_0) a0_0 a0_1 a0_2 a0_3 a0_4) else (latticeref12_Place.j2 k2 l1 a2 x8_2 x9_2 t218 true a0_0 a0_1 a0_2 a0_3 a0_4)) else (latticeref12_Place.j2 k2 l1 a2 x8_2 x9_2 t218 true a0_0 a0_1 a0_2 a0_3 a0_4))) = some r := H
        have A14 := Aside0.mk A140
        clear A140
        replace H := Option.bind_eq_some_iff.mp H
        obtain ⟨t221, A150, H⟩ := H
        replace H : (if t219 = 0 then (if t221 = true then (latticeref12_Place.j2 k2 l1 a2 x8_2 x9_2 t218 (((rd_T30 l1 x9_2).f0) != a0_0) a0_0 a0_1 a0_2 a0_3 a0_4) else (latticeref12_Place.j2 k2 l1 a2 x8_2 x9_2 t218 true a0_0 a0_1 a0_2 a0_3 a0_4)) else (latticeref12_Place.j2 k2 l1 a2 x8_2 x9_2 t218 true a0_0 a0_1 a0_2 a0_3 a0_4)) = some r := H
        have A15 := Aside0.mk A150
        clear A150
        have HC16 := Aside0.mk H
        clear H
        try go_wp2
        have n0_ := Aside0.mk (blk_drew BK215.out)
        have n1_ := Aside0.mk (below_drew1 HB.out)
        clear BK215
        clear HB
        have BK215 := n0_
        have HB := n1_
        clear n0_ n1_
        have p217 : 0 ≤ (x9_2 : Int) := of_decide_eq_true (by first | (with_reducible assumption) | assumption)
        have q217 : x9_2 < (l1.length : Int) := of_decide_eq_true (by first | (with_reducible assumption) | assumption)
        obtain ⟨ad217, e217, hx217_0, hx217_1, hx217_2, hx217_3, hx217_4⟩ := at_T30 HR1.out x9_2 p217 q217
        have hw217_4 := hx217_4
        have hw217_3 := hx217_3
        have hw217_2 := hx217_2
        have hw217_1 := hx217_1
        have hw217_0 := hx217_0
        cases e217
        replace hx217_0 := (HB.out.cell (World.block_lt_of_cell? w _ hx217_0)).trans hx217_0
        replace hx217_1 := (HB.out.cell (World.block_lt_of_cell? w _ hx217_1)).trans hx217_1
        replace hx217_2 := (HB.out.cell (World.block_lt_of_cell? w _ hx217_2)).trans hx217_2
        replace hx217_3 := (HB.out.cell (World.block_lt_of_cell? w _ hx217_3)).trans hx217_3
        replace hx217_4 := (HB.out.cell (World.block_lt_of_cell? w _ hx217_4)).trans hx217_4
        replace p217 := eq_true p217
        replace q217 := eq_true q217
        refine start_ (n := 11) (S := fun w' => w'.cell? ⟨gb215, 0, none⟩ = some (.int .i64 a0_0) ∧ w'.cell? ⟨gb215, 1, none⟩ = some (.int .i64 a0_1) ∧ w'.cell? ⟨gb215, 2, none⟩ = some (.string a0_2) ∧ w'.cell? ⟨gb215, 3, none⟩ = some (.bool a0_3) ∧ w'.cell? ⟨gb215, 4, none⟩ = some (.int .i64 a0_4) ∧ w'.cell? (ad217.add ((x9_2).toNat * 5)) = some (.int .i64 ((rd_T30 l1 x9_2).f0)) ∧ w'.cell? ⟨(ad217.add ((x9_2).toNat * 5)).block, (ad217.add ((x9_2).toNat * 5)).off + 1, none⟩ = some (.int .i64 ((rd_T30 l1 x9_2).f1)) ∧ w'.cell? ⟨(ad217.add ((x9_2).toNat * 5)).block, (ad217.add ((x9_2).toNat * 5)).off + 2, none⟩ = some (.string ((rd_T30 l1 x9_2).f2)) ∧ w'.cell? ⟨(ad217.add ((x9_2).toNat * 5)).block, (ad217.add ((x9_2).toNat * 5)).off + 3, none⟩ = some (.bool ((rd_T30 l1 x9_2).f3)) ∧ w'.cell? ⟨(ad217.add ((x9_2).toNat * 5)).block, (ad217.add ((x9_2).toNat * 5)).off + 4, none⟩ = some (.int .i64 ((rd_T30 l1 x9_2).f4))) (ds := []) #[false, false, false, false, false, false, false, false, false, false, false] (by kernel_rfl) rfl rfl ⟨(blk_cell BK215.out 0).trans rfl, (blk_cell BK215.out 1).trans rfl, (blk_cell BK215.out 2).trans rfl, (blk_cell BK215.out 3).trans rfl, (blk_cell BK215.out 4).trans rfl, ((HB.out.cell (World.block_lt_of_cell? w _ hw217_0)).trans hw217_0), ((HB.out.cell (World.block_lt_of_cell? w _ hw217_1)).trans hw217_1), ((HB.out.cell (World.block_lt_of_cell? w _ hw217_2)).trans hw217_2), ((HB.out.cell (World.block_lt_of_cell? w _ hw217_3)).trans hw217_3), ((HB.out.cell (World.block_lt_of_cell? w _ hw217_4)).trans hw217_4)⟩ (fun hHeld => ?_); refine with_tabW latticeref12_Place.tab8 latticeref12_Place.bits8 (fun HT_ HW_ => ?_)
        generalize wr.drew = w17 at BK215 HB hx217_0 hx217_1 hx217_2 hx217_3 hx217_4 hHeld ⊢
        refine pure_ (i := 0) (N := some 29) (v := ?_) (a' := ?_) #[true, false, false, false, false, false, false, false, false, false, false] rfl rfl (any_of HT_.out (by kernel_rfl)) (fun _ _ _ h => h) (Or.inl ⟨by rfl, ?_⟩) ?_ ?_
        rotate_left
        ·intro w'
         go_simp
         with_reducible rfl
        rotate_left
        ·simp only [Act.put, List.setIfInBounds_toArray, List.set_cons_zero, List.set_cons_succ, i64_w, i32_w]
         rfl
        refine pure_ (i := 1) (N := some 30) (v := ?_) (a' := ?_) #[true, true, false, false, false, false, false, false, false, false, false] rfl rfl (any_of HT_.out (by kernel_rfl)) (fun _ _ _ h => h) (Or.inl ⟨by rfl, ?_⟩) ?_ ?_
        rotate_left
        ·intro w'
         go_simp
         with_reducible rfl
        rotate_left
        ·simp only [Act.put, List.setIfInBounds_toArray, List.set_cons_zero, List.set_cons_succ, i64_w, i32_w]
         rfl
        refine pure_ (i := 2) (N := some 31) (v := ?_) (a' := ?_) #[true, true, true, false, false, false, false, false, false, false, false] rfl rfl (any_of HT_.out (by kernel_rfl)) (fun _ _ _ h => h) (Or.inl ⟨by rfl, ?_⟩) ?_ ?_
        rotate_left
        ·intro w'
         go_simp
         with_reducible rfl
        rotate_left
        ·simp only [Act.put, List.setIfInBounds_toArray, List.set_cons_zero, List.set_cons_succ, i64_w, i32_w]
         rfl
        refine take_ (i := 3) (N := some 32) (v := ?_) (a' := ?_) #[true, true, true, true, false, false, false, false, false, false, false] rfl rfl (take_ofW HT_.out HW_.out (by kernel_rfl)) (fun _ _ _ h => h) (Or.inl ⟨by rfl, ?_⟩) hHeld ?_ ?_
        rotate_left
        ·rintro w' ⟨s0, s1, s2, s3, s4, s5, s6, s7, s8, s9⟩
         go_simp
         with_reducible rfl
        rotate_left
        ·simp only [Act.put, List.setIfInBounds_toArray, List.set_cons_zero, List.set_cons_succ, i64_w, i32_w]
         rfl
        refine take_ (i := 4) (N := some 33) (v := ?_) (a' := ?_) #[true, true, true, true, true, false, false, false, false, false, false] rfl rfl (take_ofW HT_.out HW_.out (by kernel_rfl)) (fun _ _ _ h => h) (Or.inl ⟨by rfl, ?_⟩) hHeld ?_ ?_
        rotate_left
        ·rintro w' ⟨s0, s1, s2, s3, s4, s5, s6, s7, s8, s9⟩
         go_simp
         with_reducible rfl
        rotate_left
        ·simp only [Act.put, List.setIfInBounds_toArray, List.set_cons_zero, List.set_cons_succ, i64_w, i32_w]
         rfl
        refine one_ (i := 5) (N := some 34) #[true, true, true, true, true, true, false, false, false, false, false] rfl rfl (one_of HT_.out (by kernel_rfl)) (by decide) (fun K hK => ?_)
        refine goes_ Tryz.func27 (by kernel_rfl) rfl #[.agg #[.int .i64 ((rd_T30 l1 x9_2).f0), .int .i64 ((rd_T30 l1 x9_2).f1), .string ((rd_T30 l1 x9_2).f2), .bool ((rd_T30 l1 x9_2).f3), .int .i64 ((rd_T30 l1 x9_2).f4)], .agg #[.int .i64 a0_0, .int .i64 a0_1, .string a0_2, .bool a0_3, .int .i64 a0_4]] (by rfl) rfl rfl (by (try simp only [List.map_toArray, List.map_cons, List.map_nil]); first | done | rfl | (simp only [List.length_drop, List.length_take]; rfl)) ?_
        with_reducible refine (latticeref03_Order.calls k2 ((rd_T30 l1 x9_2).f0) ((rd_T30 l1 x9_2).f1) ((rd_T30 l1 x9_2).f2) ((rd_T30 l1 x9_2).f3) ((rd_T30 l1 x9_2).f4) a0_0 a0_1 a0_2 a0_3 a0_4 t218 t219 _ A14.out).mono ?_
        rintro e w18 ⟨rfl, hb⟩
        refine ⟨_, rfl, ?_⟩
        have n0_ := (bb BK215 hb)
        have n1_ := (bs hb)
        clear BK215
        clear HB
        have BK215 := n0_
        have HB := n1_
        clear n0_ n1_
        (try clear hb)
        (try clear hb2)
        (try clear hk)
        (try clear hi)
        refine hK.out _ _ ⟨(blk_cell BK215.out 0).trans rfl, (blk_cell BK215.out 1).trans rfl, (blk_cell BK215.out 2).trans rfl, (blk_cell BK215.out 3).trans rfl, (blk_cell BK215.out 4).trans rfl, ((HB.out.cell (World.block_lt_of_cell? w _ hw217_0)).trans hw217_0), ((HB.out.cell (World.block_lt_of_cell? w _ hw217_1)).trans hw217_1), ((HB.out.cell (World.block_lt_of_cell? w _ hw217_2)).trans hw217_2), ((HB.out.cell (World.block_lt_of_cell? w _ hw217_3)).trans hw217_3), ((HB.out.cell (World.block_lt_of_cell? w _ hw217_4)).trans hw217_4)⟩ (fun hHeld => ?_)
        clear hK K
        refine norm_ (a' := ?_) ?_ ?_
        rotate_left
        ·show Act.put _ (some 34) _ = _
         simp only [Act.put, List.setIfInBounds_toArray, List.set_cons_zero, List.set_cons_succ, i64_w, i32_w]
         rfl
        refine pure_ (i := 6) (N := some 28) (v := ?_) (a' := ?_) #[true, true, true, true, true, true, true, false, false, false, false] rfl rfl (any_of HT_.out (by kernel_rfl)) (fun _ _ _ h => h) (Or.inl ⟨by rfl, ?_⟩) ?_ ?_
        rotate_left
        ·intro w'
         go_simp
         with_reducible rfl
        rotate_left
        ·simp only [Act.put, List.setIfInBounds_toArray, List.set_cons_zero, List.set_cons_succ, i64_w, i32_w]
         rfl
        refine pure_ (i := 7) (N := some 35) (v := ?_) (a' := ?_) #[true, true, true, true, true, true, true, true, false, false, false] rfl rfl (any_of HT_.out (by kernel_rfl)) (fun _ _ _ h => h) (Or.inl ⟨by rfl, ?_⟩) ?_ ?_
        rotate_left
        ·intro w'
         go_simp
         with_reducible rfl
        rotate_left
        ·simp only [Act.put, List.setIfInBounds_toArray, List.set_cons_zero, List.set_cons_succ, i64_w, i32_w]
         rfl
        refine pure_ (i := 8) (N := some 36) (v := ?_) (a' := ?_) #[true, true, true, true, true, true, true, true, true, false, false] rfl rfl (any_of HT_.out (by kernel_rfl)) (fun _ _ _ h => h) (Or.inl ⟨by rfl, ?_⟩) ?_ ?_
        rotate_left
        ·intro w'
         go_simp
         with_reducible rfl
        rotate_left
        ·simp only [Act.put, List.setIfInBounds_toArray, List.set_cons_zero, List.set_cons_succ, i64_w, i32_w]
         rfl
        refine pure_ (i := 9) (N := some 10) (v := ?_) (a' := ?_) #[true, true, true, true, true, true, true, true, true, true, false] rfl rfl (any_of HT_.out (by kernel_rfl)) (fun _ _ _ h => h) (Or.inl ⟨by rfl, ?_⟩) ?_ ?_
        rotate_left
        ·intro w'
         go_simp
         with_reducible rfl
        rotate_left
        ·simp only [Act.put, List.setIfInBounds_toArray, List.set_cons_zero, List.set_cons_succ, i64_w, i32_w]
         rfl
        refine pure_ (i := 10) (N := some 11) (v := ?_) (a' := ?_) #[true, true, true, true, true, true, true, true, true, true, true] rfl rfl (any_of HT_.out (by kernel_rfl)) (fun _ _ _ h => h) (Or.inl ⟨by rfl, ?_⟩) ?_ ?_
        rotate_left
        ·intro w'
         go_simp
         with_reducible rfl
        rotate_left
        ·simp only [Act.put, List.setIfInBounds_toArray, List.set_cons_zero, List.set_cons_succ, i64_w, i32_w]
         rfl
        refine done_ (done_of HT_.out (by kernel_rfl)) ?_
        have p220 : 0 ≤ (x9_2 : Int) := of_decide_eq_true (by first | (with_reducible assumption) | assumption)
        have q220 : x9_2 < (l1.length : Int) := of_decide_eq_true (by first | (with_reducible assumption) | assumption)
        obtain ⟨ad220, e220, hx220_0, hx220_1, hx220_2, hx220_3, hx220_4⟩ := at_T30 HR1.out x9_2 p220 q220
        obtain rfl : ad217 = ad220 := (by injection e220)
        replace hx220_0 := (HB.out.cell (World.block_lt_of_cell? w _ hx220_0)).trans hx220_0
        replace hx220_1 := (HB.out.cell (World.block_lt_of_cell? w _ hx220_1)).trans hx220_1
        replace hx220_2 := (HB.out.cell (World.block_lt_of_cell? w _ hx220_2)).trans hx220_2
        replace hx220_3 := (HB.out.cell (World.block_lt_of_cell? w _ hx220_3)).trans hx220_3
        replace hx220_4 := (HB.out.cell (World.block_lt_of_cell? w _ hx220_4)).trans hx220_4
        replace p220 := eq_true p220
        replace q220 := eq_true q220
        go_upto_region 10 with (first | ((with_reducible refine gate_callee (f := 26) rfl ?_); refine gL (some 41) Tryz.func26 #[.agg #[.int .i64 ((rd_T30 l1 x9_2).f0), .int .i64 ((rd_T30 l1 x9_2).f1), .string ((rd_T30 l1 x9_2).f2), .bool ((rd_T30 l1 x9_2).f3), .int .i64 ((rd_T30 l1 x9_2).f4)]] ?_; (with_reducible refine (latticeref03_Good.calls ((rd_T30 l1 x9_2).f0) ((rd_T30 l1 x9_2).f1) ((rd_T30 l1 x9_2).f2) ((rd_T30 l1 x9_2).f3) ((rd_T30 l1 x9_2).f4) t221 _ A15.out).mono ?_); rintro e w19 ⟨rfl, hb⟩; refine ⟨_, rfl, ?_⟩; replace BK215 := (bb BK215 hb); replace HB := (bs hb); (try clear hb)))
        (try simp only [Act.put, List.setIfInBounds_toArray, List.set_cons_zero, List.set_cons_succ])
        go_cut [57] (fun v57 wc => ∃ (kq : Nat) (x57_15 : Bool), v57 = .bool x57_15 ∧ Aside0 (latticeref12_Place.j2 kq l1 a2 x8_2 x9_2 t218 x57_15 a0_0 a0_1 a0_2 a0_3 a0_4 = some r) ∧ Aside0 (kq ≤ k2) ∧ Aside0 (wc.heap[gb215]? = some (.cells #[.int .i64 a0_0, .int .i64 a0_1, .string a0_2, .bool a0_3, .int .i64 a0_4] 30 (0, 0))) ∧ Aside0 (Below w.heap.size w wc))
        case first =>
         have H := HC16.out
         clear HC16
         by_cases c20 : t219 = 0
         ·rw [if_pos c20] at H
          have c20b0 : (t219 == 0) = true := beq_iff_eq.mpr c20
          have c20b1 : (t219 != 0) = false := bne_eq_false_iff_eq.mpr c20
          clear c20
          (first | rw [c20b0] | (simp only [i64_w, i32_w]; rw [c20b0]) | rw [c20b1] | skip)
          by_cases c21 : t221 = true
          ·subst c21
           have H1 : (latticeref12_Place.j2 k2 l1 a2 x8_2 x9_2 t218 (((rd_T30 l1 x9_2).f0) != a0_0) a0_0 a0_1 a0_2 a0_3 a0_4) = some r := by rw [if_pos rfl] at H; exact H
           clear H
           have H := H1
           clear H1
           have H' := Aside0.mk H
           clear H
           try go_wp2
           have n0_ := Aside0.mk (blk_drew BK215.out)
           have n1_ := Aside0.mk (below_drew1 HB.out)
           clear BK215
           clear HB
           have BK215 := n0_
           have HB := n1_
           clear n0_ n1_
           have p222 : 0 ≤ (x9_2 : Int) := of_decide_eq_true (by first | (with_reducible assumption) | assumption)
           have q222 : x9_2 < (l1.length : Int) := of_decide_eq_true (by first | (with_reducible assumption) | assumption)
           obtain ⟨ad222, e222, hx222_0, hx222_1, hx222_2, hx222_3, hx222_4⟩ := at_T30 HR1.out x9_2 p222 q222
           have hw222_4 := hx222_4
           have hw222_3 := hx222_3
           have hw222_2 := hx222_2
           have hw222_1 := hx222_1
           have hw222_0 := hx222_0
           obtain rfl : ad217 = ad222 := (by injection e222)
           replace hx222_0 := (HB.out.cell (World.block_lt_of_cell? w _ hx222_0)).trans hx222_0
           replace hx222_1 := (HB.out.cell (World.block_lt_of_cell? w _ hx222_1)).trans hx222_1
           replace hx222_2 := (HB.out.cell (World.block_lt_of_cell? w _ hx222_2)).trans hx222_2
           replace hx222_3 := (HB.out.cell (World.block_lt_of_cell? w _ hx222_3)).trans hx222_3
           replace hx222_4 := (HB.out.cell (World.block_lt_of_cell? w _ hx222_4)).trans hx222_4
           replace p222 := eq_true p222
           replace q222 := eq_true q222
           refine start_ (n := 16) (S := fun w' => w'.cell? ⟨gb215, 0, none⟩ = some (.int .i64 a0_0) ∧ w'.cell? ⟨gb215, 1, none⟩ = some (.int .i64 a0_1) ∧ w'.cell? ⟨gb215, 2, none⟩ = some (.string a0_2) ∧ w'.cell? ⟨gb215, 3, none⟩ = some (.bool a0_3) ∧ w'.cell? ⟨gb215, 4, none⟩ = some (.int .i64 a0_4) ∧ w'.cell? (ad217.add ((x9_2).toNat * 5)) = some (.int .i64 ((rd_T30 l1 x9_2).f0)) ∧ w'.cell? ⟨(ad217.add ((x9_2).toNat * 5)).block, (ad217.add ((x9_2).toNat * 5)).off + 1, none⟩ = some (.int .i64 ((rd_T30 l1 x9_2).f1)) ∧ w'.cell? ⟨(ad217.add ((x9_2).toNat * 5)).block, (ad217.add ((x9_2).toNat * 5)).off + 2, none⟩ = some (.string ((rd_T30 l1 x9_2).f2)) ∧ w'.cell? ⟨(ad217.add ((x9_2).toNat * 5)).block, (ad217.add ((x9_2).toNat * 5)).off + 3, none⟩ = some (.bool ((rd_T30 l1 x9_2).f3)) ∧ w'.cell? ⟨(ad217.add ((x9_2).toNat * 5)).block, (ad217.add ((x9_2).toNat * 5)).off + 4, none⟩ = some (.int .i64 ((rd_T30 l1 x9_2).f4))) (ds := []) #[false, false, false, false, false, false, false, false, false, false, false, false, false, false, false, false] (by kernel_rfl) rfl rfl ⟨(blk_cell BK215.out 0).trans rfl, (blk_cell BK215.out 1).trans rfl, (blk_cell BK215.out 2).trans rfl, (blk_cell BK215.out 3).trans rfl, (blk_cell BK215.out 4).trans rfl, ((HB.out.cell (World.block_lt_of_cell? w _ hw222_0)).trans hw222_0), ((HB.out.cell (World.block_lt_of_cell? w _ hw222_1)).trans hw222_1), ((HB.out.cell (World.block_lt_of_cell? w _ hw222_2)).trans hw222_2), ((HB.out.cell (World.block_lt_of_cell? w _ hw222_3)).trans hw222_3), ((HB.out.cell (World.block_lt_of_cell? w _ hw222_4)).trans hw222_4)⟩ (fun hHeld => ?_); refine with_tabW latticeref12_Place.tab10 latticeref12_Place.bits10 (fun HT_ HW_ => ?_)
           generalize w19.drew = w22 at BK215 HB hx222_0 hx222_1 hx222_2 hx222_3 hx222_4 hHeld ⊢
           refine pure_ (i := 0) (N := some 42) (v := ?_) (a' := ?_) #[true, false, false, false, false, false, false, false, false, false, false, false, false, false, false, false] rfl rfl (any_of HT_.out (by kernel_rfl)) (fun _ _ _ h => h) (Or.inl ⟨by rfl, ?_⟩) ?_ ?_
           rotate_left
           ·intro w'
            go_simp
            with_reducible rfl
           rotate_left
           ·simp only [Act.put, List.setIfInBounds_toArray, List.set_cons_zero, List.set_cons_succ, i64_w, i32_w]
            rfl
           refine pure_ (i := 1) (N := some 43) (v := ?_) (a' := ?_) #[true, true, false, false, false, false, false, false, false, false, false, false, false, false, false, false] rfl rfl (any_of HT_.out (by kernel_rfl)) (fun _ _ _ h => h) (Or.inl ⟨by rfl, ?_⟩) ?_ ?_
           rotate_left
           ·intro w'
            go_simp
            with_reducible rfl
           rotate_left
           ·simp only [Act.put, List.setIfInBounds_toArray, List.set_cons_zero, List.set_cons_succ, i64_w, i32_w]
            rfl
           refine pure_ (i := 2) (N := some 44) (v := ?_) (a' := ?_) #[true, true, true, false, false, false, false, false, false, false, false, false, false, false, false, false] rfl rfl (any_of HT_.out (by kernel_rfl)) (fun _ _ _ h => h) (Or.inl ⟨by rfl, ?_⟩) ?_ ?_
           rotate_left
           ·intro w'
            go_simp
            with_reducible rfl
           rotate_left
           ·simp only [Act.put, List.setIfInBounds_toArray, List.set_cons_zero, List.set_cons_succ, i64_w, i32_w]
            rfl
           refine pure_ (i := 3) (N := some 45) (v := ?_) (a' := ?_) #[true, true, true, true, false, false, false, false, false, false, false, false, false, false, false, false] rfl rfl (any_of HT_.out (by kernel_rfl)) (fun _ _ _ h => h) (Or.inl ⟨by rfl, ?_⟩) ?_ ?_
           rotate_left
           ·intro w'
            go_simp
            with_reducible rfl
           rotate_left
           ·simp only [Act.put, List.setIfInBounds_toArray, List.set_cons_zero, List.set_cons_succ, i64_w, i32_w]
            rfl
           refine pure_ (i := 4) (N := some 46) (v := ?_) (a' := ?_) #[true, true, true, true, true, false, false, false, false, false, false, false, false, false, false, false] rfl rfl (any_of HT_.out (by kernel_rfl)) (fun _ _ _ h => h) (Or.inl ⟨by rfl, ?_⟩) ?_ ?_
           rotate_left
           ·intro w'
            go_simp
            with_reducible rfl
           rotate_left
           ·simp only [Act.put, List.setIfInBounds_toArray, List.set_cons_zero, List.set_cons_succ, i64_w, i32_w]
            rfl
           refine pure_ (i := 5) (N := some 47) (v := ?_) (a' := ?_) #[true, true, true, true, true, true, false, false, false, false, false, false, false, false, false, false] rfl rfl (any_of HT_.out (by kernel_rfl)) (fun _ _ _ h => h) (Or.inl ⟨by rfl, ?_⟩) ?_ ?_
           rotate_left
           ·intro w'
            go_simp
            with_reducible rfl
           rotate_left
           ·simp only [Act.put, List.setIfInBounds_toArray, List.set_cons_zero, List.set_cons_succ, i64_w, i32_w]
            rfl
           refine pure_ (i := 6) (N := some 48) (v := ?_) (a' := ?_) #[true, true, true, true, true, true, true, false, false, false, false, false, false, false, false, false] rfl rfl (any_of HT_.out (by kernel_rfl)) (fun _ _ _ h => h) (Or.inl ⟨by rfl, ?_⟩) ?_ ?_
           rotate_left
           ·intro w'
            go_simp
            with_reducible rfl
           rotate_left
           ·simp only [Act.put, List.setIfInBounds_toArray, List.set_cons_zero, List.set_cons_succ, i64_w, i32_w]
            rfl
           refine pure_ (i := 7) (N := some 49) (v := ?_) (a' := ?_) #[true, true, true, true, true, true, true, true, false, false, false, false, false, false, false, false] rfl rfl (any_of HT_.out (by kernel_rfl)) (fun _ _ _ h => h) (Or.inl ⟨by rfl, ?_⟩) ?_ ?_
           rotate_left
           ·intro w'
            go_simp
            with_reducible rfl
           rotate_left
           ·simp only [Act.put, List.setIfInBounds_toArray, List.set_cons_zero, List.set_cons_succ, i64_w, i32_w]
            rfl
           refine pure_ (i := 8) (N := some 50) (v := ?_) (a' := ?_) #[true, true, true, true, true, true, true, true, true, false, false, false, false, false, false, false] rfl rfl (any_of HT_.out (by kernel_rfl)) (fun _ _ _ h => h) (Or.inl ⟨by rfl, ?_⟩) ?_ ?_
           rotate_left
           ·intro w'
            go_simp
            with_reducible rfl
           rotate_left
           ·simp only [Act.put, List.setIfInBounds_toArray, List.set_cons_zero, List.set_cons_succ, i64_w, i32_w]
            rfl
           refine pure_ (i := 9) (N := some 51) (v := ?_) (a' := ?_) #[true, true, true, true, true, true, true, true, true, true, false, false, false, false, false, false] rfl rfl (any_of HT_.out (by kernel_rfl)) (fun _ _ _ h => h) (Or.inl ⟨by rfl, ?_⟩) ?_ ?_
           rotate_left
           ·intro w'
            go_simp
            with_reducible rfl
           rotate_left
           ·simp only [Act.put, List.setIfInBounds_toArray, List.set_cons_zero, List.set_cons_succ, i64_w, i32_w]
            rfl
           refine pure_ (i := 10) (N := some 52) (v := ?_) (a' := ?_) #[true, true, true, true, true, true, true, true, true, true, true, false, false, false, false, false] rfl rfl (any_of HT_.out (by kernel_rfl)) (fun _ _ _ h => h) (Or.inl ⟨by rfl, ?_⟩) ?_ ?_
           rotate_left
           ·intro w'
            go_simp
            with_reducible rfl
           rotate_left
           ·simp only [Act.put, List.setIfInBounds_toArray, List.set_cons_zero, List.set_cons_succ, i64_w, i32_w]
            rfl
           refine pure_ (i := 12) (N := some 54) (v := ?_) (a' := ?_) #[true, true, true, true, true, true, true, true, true, true, true, false, true, false, false, false] rfl rfl (any_of HT_.out (by kernel_rfl)) (fun _ _ _ h => h) (Or.inl ⟨by rfl, ?_⟩) ?_ ?_
           rotate_left
           ·intro w'
            go_simp
            with_reducible rfl
           rotate_left
           ·simp only [Act.put, List.setIfInBounds_toArray, List.set_cons_zero, List.set_cons_succ, i64_w, i32_w]
            rfl
           refine take_ (i := 11) (N := some 53) (v := ?_) (a' := ?_) #[true, true, true, true, true, true, true, true, true, true, true, true, true, false, false, false] rfl rfl (take_ofW HT_.out HW_.out (by kernel_rfl)) (fun _ _ _ h => h) (Or.inl ⟨by rfl, ?_⟩) hHeld ?_ ?_
           rotate_left
           ·rintro w' ⟨s0, s1, s2, s3, s4, s5, s6, s7, s8, s9⟩
            go_simp
            with_reducible rfl
           rotate_left
           ·simp only [Act.put, List.setIfInBounds_toArray, List.set_cons_zero, List.set_cons_succ, i64_w, i32_w]
            rfl
           refine take_ (i := 13) (N := some 55) (v := ?_) (a' := ?_) #[true, true, true, true, true, true, true, true, true, true, true, true, true, true, false, false] rfl rfl (take_ofW HT_.out HW_.out (by kernel_rfl)) (fun _ _ _ h => h) (Or.inl ⟨by rfl, ?_⟩) hHeld ?_ ?_
           rotate_left
           ·rintro w' ⟨s0, s1, s2, s3, s4, s5, s6, s7, s8, s9⟩
            go_simp
            with_reducible rfl
           rotate_left
           ·simp only [Act.put, List.setIfInBounds_toArray, List.set_cons_zero, List.set_cons_succ, i64_w, i32_w]
            rfl
           refine pure_ (i := 14) (N := some 56) (v := ?_) (a' := ?_) #[true, true, true, true, true, true, true, true, true, true, true, true, true, true, true, false] rfl rfl (any_of HT_.out (by kernel_rfl)) (fun _ _ _ h => h) (Or.inl ⟨by rfl, ?_⟩) ?_ ?_
           rotate_left
           ·intro w'
            go_simp
            with_reducible rfl
           rotate_left
           ·simp only [Act.put, List.setIfInBounds_toArray, List.set_cons_zero, List.set_cons_succ, i64_w, i32_w]
            rfl
           refine pure_ (i := 15) (N := some 57) (v := ?_) (a' := ?_) #[true, true, true, true, true, true, true, true, true, true, true, true, true, true, true, true] rfl rfl (any_of HT_.out (by kernel_rfl)) (fun _ _ _ h => h) (Or.inl ⟨by rfl, ?_⟩) ?_ ?_
           rotate_left
           ·intro w'
            go_simp
            with_reducible rfl
           rotate_left
           ·simp only [Act.put, List.setIfInBounds_toArray, List.set_cons_zero, List.set_cons_succ, i64_w, i32_w]
            rfl
           refine done_ (done_of HT_.out (by kernel_rfl)) ?_
           try go_wp2
           go_meet
           case rel => exact ⟨_, ((((rd_T30 l1 x9_2).f0) != a0_0)), (by first | rfl | (simp; done) | (simp [*]; done)), H', ⟨by have := HJ4.out; have := HK2.out; first | omega | exact Nat.le_refl _⟩, ⟨by (with_reducible repeat (first | refine blk_drewN ?_ _ | refine blk_drew ?_ | refine blk_alloc ?_ _)); exact BK215.out⟩, ⟨by repeat (first | (with_reducible first | exact HB.out | apply below_alloc | apply pw_below_drewN | apply below_drew1 | refine below_set ?_ GE215.out) | exact HB.out)⟩⟩
          ·replace c21 := Bool.eq_false_iff.mpr c21
           subst c21
           have H1 : (latticeref12_Place.j2 k2 l1 a2 x8_2 x9_2 t218 true a0_0 a0_1 a0_2 a0_3 a0_4) = some r := by rw [if_neg (show ¬ (false = true) by decide)] at H; exact H
           clear H
           have H := H1
           clear H1
           have H' := Aside0.mk H
           clear H
           try go_wp2
           have n0_ := Aside0.mk (blk_drew BK215.out)
           have n1_ := Aside0.mk (below_drew1 HB.out)
           clear BK215
           clear HB
           have BK215 := n0_
           have HB := n1_
           clear n0_ n1_
           refine start_ (n := 16) (S := fun w' => True) (ds := []) #[false, false, false, false, false, false, false, false, false, false, false, false, false, false, false, false] (by kernel_rfl) rfl rfl trivial (fun hHeld => ?_); refine with_tabW latticeref12_Place.tab10 latticeref12_Place.bits10 (fun HT_ HW_ => ?_)
           generalize w19.drew = w23 at BK215 HB hHeld ⊢
           refine pure_ (i := 0) (N := some 42) (v := ?_) (a' := ?_) #[true, false, false, false, false, false, false, false, false, false, false, false, false, false, false, false] rfl rfl (any_of HT_.out (by kernel_rfl)) (fun _ _ _ h => h) (Or.inl ⟨by rfl, ?_⟩) ?_ ?_
           rotate_left
           ·intro w'
            go_simp
            with_reducible rfl
           rotate_left
           ·simp only [Act.put, List.setIfInBounds_toArray, List.set_cons_zero, List.set_cons_succ, i64_w, i32_w]
            rfl
           refine pure_ (i := 1) (N := some 43) (v := ?_) (a' := ?_) #[true, true, false, false, false, false, false, false, false, false, false, false, false, false, false, false] rfl rfl (any_of HT_.out (by kernel_rfl)) (fun _ _ _ h => h) (Or.inl ⟨by rfl, ?_⟩) ?_ ?_
           rotate_left
           ·intro w'
            go_simp
            with_reducible rfl
           rotate_left
           ·simp only [Act.put, List.setIfInBounds_toArray, List.set_cons_zero, List.set_cons_succ, i64_w, i32_w]
            rfl
           refine pure_ (i := 2) (N := some 44) (v := ?_) (a' := ?_) #[true, true, true, false, false, false, false, false, false, false, false, false, false, false, false, false] rfl rfl (any_of HT_.out (by kernel_rfl)) (fun _ _ _ h => h) (Or.inl ⟨by rfl, ?_⟩) ?_ ?_
           rotate_left
           ·intro w'
            go_simp
            with_reducible rfl
           rotate_left
           ·simp only [Act.put, List.setIfInBounds_toArray, List.set_cons_zero, List.set_cons_succ, i64_w, i32_w]
            rfl
           refine pure_ (i := 3) (N := some 45) (v := ?_) (a' := ?_) #[true, true, true, true, false, false, false, false, false, false, false, false, false, false, false, false] rfl rfl (any_of HT_.out (by kernel_rfl)) (fun _ _ _ h => h) (Or.inl ⟨by rfl, ?_⟩) ?_ ?_
           rotate_left
           ·intro w'
            go_simp
            with_reducible rfl
           rotate_left
           ·simp only [Act.put, List.setIfInBounds_toArray, List.set_cons_zero, List.set_cons_succ, i64_w, i32_w]
            rfl
           refine pure_ (i := 4) (N := some 46) (v := ?_) (a' := ?_) #[true, true, true, true, true, false, false, false, false, false, false, false, false, false, false, false] rfl rfl (any_of HT_.out (by kernel_rfl)) (fun _ _ _ h => h) (Or.inl ⟨by rfl, ?_⟩) ?_ ?_
           rotate_left
           ·intro w'
            go_simp
            with_reducible rfl
           rotate_left
           ·simp only [Act.put, List.setIfInBounds_toArray, List.set_cons_zero, List.set_cons_succ, i64_w, i32_w]
            rfl
           refine pure_ (i := 5) (N := some 47) (v := ?_) (a' := ?_) #[true, true, true, true, true, true, false, false, false, false, false, false, false, false, false, false] rfl rfl (any_of HT_.out (by kernel_rfl)) (fun _ _ _ h => h) (Or.inl ⟨by rfl, ?_⟩) ?_ ?_
           rotate_left
           ·intro w'
            go_simp
            with_reducible rfl
           rotate_left
           ·simp only [Act.put, List.setIfInBounds_toArray, List.set_cons_zero, List.set_cons_succ, i64_w, i32_w]
            rfl
           refine pure_ (i := 6) (N := some 48) (v := ?_) (a' := ?_) #[true, true, true, true, true, true, true, false, false, false, false, false, false, false, false, false] rfl rfl (any_of HT_.out (by kernel_rfl)) (fun _ _ _ h => h) (Or.inl ⟨by rfl, ?_⟩) ?_ ?_
           rotate_left
           ·intro w'
            go_simp
            with_reducible rfl
           rotate_left
           ·simp only [Act.put, List.setIfInBounds_toArray, List.set_cons_zero, List.set_cons_succ, i64_w, i32_w]
            rfl
           refine pure_ (i := 7) (N := some 49) (v := undef) (a' := ?_) #[true, true, true, true, true, true, true, true, false, false, false, false, false, false, false, false] rfl rfl (any_of HT_.out (by kernel_rfl)) (fun _ _ _ h => h) (Or.inr ⟨by rfl, rfl⟩) ?_ ?_
           rotate_left
           ·simp only [Act.put, List.setIfInBounds_toArray, List.set_cons_zero, List.set_cons_succ, i64_w, i32_w]
            rfl
           refine pure_ (i := 8) (N := some 50) (v := undef) (a' := ?_) #[true, true, true, true, true, true, true, true, true, false, false, false, false, false, false, false] rfl rfl (any_of HT_.out (by kernel_rfl)) (fun _ _ _ h => h) (Or.inr ⟨by rfl, rfl⟩) ?_ ?_
           rotate_left
           ·simp only [Act.put, List.setIfInBounds_toArray, List.set_cons_zero, List.set_cons_succ, i64_w, i32_w]
            rfl
           refine pure_ (i := 9) (N := some 51) (v := undef) (a' := ?_) #[true, true, true, true, true, true, true, true, true, true, false, false, false, false, false, false] rfl rfl (any_of HT_.out (by kernel_rfl)) (fun _ _ _ h => h) (Or.inr ⟨by rfl, rfl⟩) ?_ ?_
           rotate_left
           ·simp only [Act.put, List.setIfInBounds_toArray, List.set_cons_zero, List.set_cons_succ, i64_w, i32_w]
            rfl
           refine pure_ (i := 10) (N := some 52) (v := undef) (a' := ?_) #[true, true, true, true, true, true, true, true, true, true, true, false, false, false, false, false] rfl rfl (any_of HT_.out (by kernel_rfl)) (fun _ _ _ h => h) (Or.inr ⟨by rfl, rfl⟩) ?_ ?_
           rotate_left
           ·simp only [Act.put, List.setIfInBounds_toArray, List.set_cons_zero, List.set_cons_succ, i64_w, i32_w]
            rfl
           refine pure_ (i := 11) (N := some 53) (v := undef) (a' := ?_) #[true, true, true, true, true, true, true, true, true, true, true, true, false, false, false, false] rfl rfl (any_of HT_.out (by kernel_rfl)) (fun _ _ _ h => h) (Or.inr ⟨by rfl, rfl⟩) ?_ ?_
           rotate_left
           ·simp only [Act.put, List.setIfInBounds_toArray, List.set_cons_zero, List.set_cons_succ, i64_w, i32_w]
            rfl
           refine pure_ (i := 12) (N := some 54) (v := undef) (a' := ?_) #[true, true, true, true, true, true, true, true, true, true, true, true, true, false, false, false] rfl rfl (any_of HT_.out (by kernel_rfl)) (fun _ _ _ h => h) (Or.inr ⟨by rfl, rfl⟩) ?_ ?_
           rotate_left
           ·simp only [Act.put, List.setIfInBounds_toArray, List.set_cons_zero, List.set_cons_succ, i64_w, i32_w]
            rfl
           refine pure_ (i := 13) (N := some 55) (v := undef) (a' := ?_) #[true, true, true, true, true, true, true, true, true, true, true, true, true, true, false, false] rfl rfl (any_of HT_.out (by kernel_rfl)) (fun _ _ _ h => h) (Or.inr ⟨by rfl, rfl⟩) ?_ ?_
           rotate_left
           ·simp only [Act.put, List.setIfInBounds_toArray, List.set_cons_zero, List.set_cons_succ, i64_w, i32_w]
            rfl
           refine pure_ (i := 14) (N := some 56) (v := undef) (a' := ?_) #[true, true, true, true, true, true, true, true, true, true, true, true, true, true, true, false] rfl rfl (any_of HT_.out (by kernel_rfl)) (fun _ _ _ h => h) (Or.inr ⟨by rfl, rfl⟩) ?_ ?_
           rotate_left
           ·simp only [Act.put, List.setIfInBounds_toArray, List.set_cons_zero, List.set_cons_succ, i64_w, i32_w]
            rfl
           refine pure_ (i := 15) (N := some 57) (v := ?_) (a' := ?_) #[true, true, true, true, true, true, true, true, true, true, true, true, true, true, true, true] rfl rfl (any_of HT_.out (by kernel_rfl)) (fun _ _ _ h => h) (Or.inl ⟨by rfl, ?_⟩) ?_ ?_
           rotate_left
           ·intro w'
            go_simp
            with_reducible rfl
           rotate_left
           ·simp only [Act.put, List.setIfInBounds_toArray, List.set_cons_zero, List.set_cons_succ, i64_w, i32_w]
            rfl
           refine done_ (done_of HT_.out (by kernel_rfl)) ?_
           try go_wp2
           go_meet
           case rel => exact ⟨_, (true), (by first | rfl | (simp; done) | (simp [*]; done)), H', ⟨by have := HJ4.out; have := HK2.out; first | omega | exact Nat.le_refl _⟩, ⟨by (with_reducible repeat (first | refine blk_drewN ?_ _ | refine blk_drew ?_ | refine blk_alloc ?_ _)); exact BK215.out⟩, ⟨by repeat (first | (with_reducible first | exact HB.out | apply below_alloc | apply pw_below_drewN | apply below_drew1 | refine below_set ?_ GE215.out) | exact HB.out)⟩⟩
         ·rw [if_neg c20] at H
          have c20b0 : (t219 == 0) = false := beq_eq_false_iff_ne.mpr c20
          have c20b1 : (t219 != 0) = true := bne_iff_ne.mpr c20
          (first | rw [c20b0] | (simp only [i64_w, i32_w]; rw [c20b0]) | rw [c20b1] | skip)
          have H' := Aside0.mk H
          clear H
          try go_wp2
          have n0_ := Aside0.mk (blk_drew BK215.out)
          have n1_ := Aside0.mk (below_drew1 HB.out)
          clear BK215
          clear HB
          have BK215 := n0_
          have HB := n1_
          clear n0_ n1_
          refine start_ (n := 16) (S := fun w' => True) (ds := []) #[false, false, false, false, false, false, false, false, false, false, false, false, false, false, false, false] (by kernel_rfl) rfl rfl trivial (fun hHeld => ?_); refine with_tabW latticeref12_Place.tab10 latticeref12_Place.bits10 (fun HT_ HW_ => ?_)
          generalize w19.drew = w24 at BK215 HB hHeld ⊢
          refine pure_ (i := 0) (N := some 42) (v := ?_) (a' := ?_) #[true, false, false, false, false, false, false, false, false, false, false, false, false, false, false, false] rfl rfl (any_of HT_.out (by kernel_rfl)) (fun _ _ _ h => h) (Or.inl ⟨by rfl, ?_⟩) ?_ ?_
          rotate_left
          ·intro w'
           go_simp
           with_reducible rfl
          rotate_left
          ·simp only [Act.put, List.setIfInBounds_toArray, List.set_cons_zero, List.set_cons_succ, i64_w, i32_w]
           rfl
          refine pure_ (i := 1) (N := some 43) (v := ?_) (a' := ?_) #[true, true, false, false, false, false, false, false, false, false, false, false, false, false, false, false] rfl rfl (any_of HT_.out (by kernel_rfl)) (fun _ _ _ h => h) (Or.inl ⟨by rfl, ?_⟩) ?_ ?_
          rotate_left
          ·intro w'
           go_simp
           with_reducible rfl
          rotate_left
          ·simp only [Act.put, List.setIfInBounds_toArray, List.set_cons_zero, List.set_cons_succ, i64_w, i32_w]
           rfl
          refine pure_ (i := 2) (N := some 44) (v := ?_) (a' := ?_) #[true, true, true, false, false, false, false, false, false, false, false, false, false, false, false, false] rfl rfl (any_of HT_.out (by kernel_rfl)) (fun _ _ _ h => h) (Or.inl ⟨by rfl, ?_⟩) ?_ ?_
          rotate_left
          ·intro w'
           go_simp
           with_reducible rfl
          rotate_left
          ·simp only [Act.put, List.setIfInBounds_toArray, List.set_cons_zero, List.set_cons_succ, i64_w, i32_w]
           rfl
          refine pure_ (i := 3) (N := some 45) (v := undef) (a' := ?_) #[true, true, true, true, false, false, false, false, false, false, false, false, false, false, false, false] rfl rfl (any_of HT_.out (by kernel_rfl)) (fun _ _ _ h => h) (Or.inr ⟨by rfl, rfl⟩) ?_ ?_
          rotate_left
          ·simp only [Act.put, List.setIfInBounds_toArray, List.set_cons_zero, List.set_cons_succ, i64_w, i32_w]
           rfl
          refine pure_ (i := 4) (N := some 46) (v := undef) (a' := ?_) #[true, true, true, true, true, false, false, false, false, false, false, false, false, false, false, false] rfl rfl (any_of HT_.out (by kernel_rfl)) (fun _ _ _ h => h) (Or.inr ⟨by rfl, rfl⟩) ?_ ?_
          rotate_left
          ·simp only [Act.put, List.setIfInBounds_toArray, List.set_cons_zero, List.set_cons_succ, i64_w, i32_w]
           rfl
          refine pure_ (i := 5) (N := some 47) (v := ?_) (a' := ?_) #[true, true, true, true, true, true, false, false, false, false, false, false, false, false, false, false] rfl rfl (any_of HT_.out (by kernel_rfl)) (fun _ _ _ h => h) (Or.inl ⟨by rfl, ?_⟩) ?_ ?_
          rotate_left
          ·intro w'
           go_simp
           with_reducible rfl
          rotate_left
          ·simp only [Act.put, List.setIfInBounds_toArray, List.set_cons_zero, List.set_cons_succ, i64_w, i32_w]
           rfl
          refine pure_ (i := 6) (N := some 48) (v := ?_) (a' := ?_) #[true, true, true, true, true, true, true, false, false, false, false, false, false, false, false, false] rfl rfl (any_of HT_.out (by kernel_rfl)) (fun _ _ _ h => h) (Or.inl ⟨by rfl, ?_⟩) ?_ ?_
          rotate_left
          ·intro w'
           go_simp
           with_reducible rfl
          rotate_left
          ·simp only [Act.put, List.setIfInBounds_toArray, List.set_cons_zero, List.set_cons_succ, i64_w, i32_w]
           rfl
          refine pure_ (i := 7) (N := some 49) (v := undef) (a' := ?_) #[true, true, true, true, true, true, true, true, false, false, false, false, false, false, false, false] rfl rfl (any_of HT_.out (by kernel_rfl)) (fun _ _ _ h => h) (Or.inr ⟨by rfl, rfl⟩) ?_ ?_
          rotate_left
          ·simp only [Act.put, List.setIfInBounds_toArray, List.set_cons_zero, List.set_cons_succ, i64_w, i32_w]
           rfl
          refine pure_ (i := 8) (N := some 50) (v := undef) (a' := ?_) #[true, true, true, true, true, true, true, true, true, false, false, false, false, false, false, false] rfl rfl (any_of HT_.out (by kernel_rfl)) (fun _ _ _ h => h) (Or.inr ⟨by rfl, rfl⟩) ?_ ?_
          rotate_left
          ·simp only [Act.put, List.setIfInBounds_toArray, List.set_cons_zero, List.set_cons_succ, i64_w, i32_w]
           rfl
          refine pure_ (i := 9) (N := some 51) (v := undef) (a' := ?_) #[true, true, true, true, true, true, true, true, true, true, false, false, false, false, false, false] rfl rfl (any_of HT_.out (by kernel_rfl)) (fun _ _ _ h => h) (Or.inr ⟨by rfl, rfl⟩) ?_ ?_
          rotate_left
          ·simp only [Act.put, List.setIfInBounds_toArray, List.set_cons_zero, List.set_cons_succ, i64_w, i32_w]
           rfl
          refine pure_ (i := 10) (N := some 52) (v := undef) (a' := ?_) #[true, true, true, true, true, true, true, true, true, true, true, false, false, false, false, false] rfl rfl (any_of HT_.out (by kernel_rfl)) (fun _ _ _ h => h) (Or.inr ⟨by rfl, rfl⟩) ?_ ?_
          rotate_left
          ·simp only [Act.put, List.setIfInBounds_toArray, List.set_cons_zero, List.set_cons_succ, i64_w, i32_w]
           rfl
          refine pure_ (i := 11) (N := some 53) (v := undef) (a' := ?_) #[true, true, true, true, true, true, true, true, true, true, true, true, false, false, false, false] rfl rfl (any_of HT_.out (by kernel_rfl)) (fun _ _ _ h => h) (Or.inr ⟨by rfl, rfl⟩) ?_ ?_
          rotate_left
          ·simp only [Act.put, List.setIfInBounds_toArray, List.set_cons_zero, List.set_cons_succ, i64_w, i32_w]
           rfl
          refine pure_ (i := 12) (N := some 54) (v := undef) (a' := ?_) #[true, true, true, true, true, true, true, true, true, true, true, true, true, false, false, false] rfl rfl (any_of HT_.out (by kernel_rfl)) (fun _ _ _ h => h) (Or.inr ⟨by rfl, rfl⟩) ?_ ?_
          rotate_left
          ·simp only [Act.put, List.setIfInBounds_toArray, List.set_cons_zero, List.set_cons_succ, i64_w, i32_w]
           rfl
          refine pure_ (i := 13) (N := some 55) (v := undef) (a' := ?_) #[true, true, true, true, true, true, true, true, true, true, true, true, true, true, false, false] rfl rfl (any_of HT_.out (by kernel_rfl)) (fun _ _ _ h => h) (Or.inr ⟨by rfl, rfl⟩) ?_ ?_
          rotate_left
          ·simp only [Act.put, List.setIfInBounds_toArray, List.set_cons_zero, List.set_cons_succ, i64_w, i32_w]
           rfl
          refine pure_ (i := 14) (N := some 56) (v := undef) (a' := ?_) #[true, true, true, true, true, true, true, true, true, true, true, true, true, true, true, false] rfl rfl (any_of HT_.out (by kernel_rfl)) (fun _ _ _ h => h) (Or.inr ⟨by rfl, rfl⟩) ?_ ?_
          rotate_left
          ·simp only [Act.put, List.setIfInBounds_toArray, List.set_cons_zero, List.set_cons_succ, i64_w, i32_w]
           rfl
          refine pure_ (i := 15) (N := some 57) (v := ?_) (a' := ?_) #[true, true, true, true, true, true, true, true, true, true, true, true, true, true, true, true] rfl rfl (any_of HT_.out (by kernel_rfl)) (fun _ _ _ h => h) (Or.inl ⟨by rfl, ?_⟩) ?_ ?_
          rotate_left
          ·intro w'
           go_simp
           with_reducible rfl
          rotate_left
          ·simp only [Act.put, List.setIfInBounds_toArray, List.set_cons_zero, List.set_cons_succ, i64_w, i32_w]
           rfl
          refine done_ (done_of HT_.out (by kernel_rfl)) ?_
          try go_wp2
          go_meet
          case rel => exact ⟨_, (true), (by first | rfl | (simp; done) | (simp [*]; done)), H', ⟨by have := HJ4.out; have := HK2.out; first | omega | exact Nat.le_refl _⟩, ⟨by (with_reducible repeat (first | refine blk_drewN ?_ _ | refine blk_drew ?_ | refine blk_alloc ?_ _)); exact BK215.out⟩, ⟨by repeat (first | (with_reducible first | exact HB.out | apply below_alloc | apply pw_below_drewN | apply below_drew1 | refine below_set ?_ GE215.out) | exact HB.out)⟩⟩
        case rest =>
         clear HC16
         try clear c1
         try clear c2
         try clear p2
         try clear q2
         try clear hx2
         try clear c9
         try clear c11
         try clear c12
         try clear c12b0
         try clear c13
         try clear c13b0
         try clear c20
         try clear c20b0
         try clear c20b1
         try clear c21
         try clear p21
         try clear q21
         try clear hx21
         try clear p22
         try clear q22
         try clear hx22
         try clear hcz10_0
         try clear hcz10_1
         try clear hcz10_2
         try clear hcz10_3
         try clear hcz10_4
         try clear hcz7_0
         try clear hcz7_1
         try clear hcz7_2
         try clear hcz7_3
         try clear hcz7_4
         try clear hfz10_0
         try clear hfz10_1
         try clear hfz10_2
         try clear hfz10_3
         try clear hfz10_4
         try clear hfz7_0
         try clear hfz7_1
         try clear hfz7_2
         try clear hfz7_3
         try clear hfz7_4
         try clear hx217_0
         try clear hx217_1
         try clear hx217_2
         try clear hx217_3
         try clear hx217_4
         try clear hx220_0
         try clear hx220_1
         try clear hx220_2
         try clear hx220_3
         try clear hx220_4
         try clear hx222_0
         try clear hx222_1
         try clear hx222_2
         try clear hx222_3
         try clear hx222_4
         try clear p2
         try clear p217
         try clear p220
         try clear p222
         try clear q217
         try clear q220
         try clear q222
         obtain ⟨kq, x57_15, rfl, HA, HJ15, BK215, HB⟩ := hcut
         cases kq with
         | zero => exact absurd HA.out (by simp [latticeref12_Place.j2])
         | succ kj15 =>
          have H := HA.out
          clear HA
          simp only [latticeref12_Place.j2] at H
          by_cases c25 : x57_15 = true
          ·subst c25
           have H1 : (latticeref12_Place.l0 kj15 l1 a2 x8_2 (wrap64 (x9_2 + 1)) a0_0 a0_1 a0_2 a0_3 a0_4) = some r := by rw [if_pos rfl] at H; exact H
           clear H
           have H := H1
           clear H1
           have H' := Aside0.mk H
           clear H
           go_wp2
           go_roundg kj15
           case measure => have := HJ4.out; have := HK2.out; have := HJ15.out; omega
           case rel => exact ⟨(x8_2), (wrap64 (x9_2 + 1)), (by first | rfl | (simp; done) | (simp [*]; done)), (by first | rfl | (simp; done) | (simp [*]; done)), H', ⟨by have := HJ4.out; have := HK2.out; have := HJ15.out; omega⟩, ⟨by (with_reducible repeat (first | refine blk_drewN ?_ _ | refine blk_drew ?_ | refine blk_alloc ?_ _)); exact BK215.out⟩, ⟨by repeat (first | (with_reducible first | exact HB.out | apply below_alloc | apply pw_below_drewN | apply below_drew1 | refine below_set ?_ GE215.out) | exact HB.out)⟩⟩
          ·replace c25 := Bool.eq_false_iff.mpr c25
           subst c25
           have H1 : (if a2 = 0 then (if t218 = 0 then (latticeref12_Place.j3 kj15 l1 a2 x8_2 x9_2 (x8_2 == 0) a0_0 a0_1 a0_2 a0_3 a0_4) else (latticeref12_Place.j3 kj15 l1 a2 x8_2 x9_2 false a0_0 a0_1 a0_2 a0_3 a0_4)) else (if a2 > 0 then (if t218 = 1 then (if a2 < 0 then (if t218 = (-1) then (latticeref12_Place.l0 kj15 l1 a2 x8_2 (wrap64 (x9_2 + 1)) a0_0 a0_1 a0_2 a0_3 a0_4) else (latticeref12_Place.l0 kj15 l1 a2 (wrap64 (x9_2 + 1)) (wrap64 (x9_2 + 1)) a0_0 a0_1 a0_2 a0_3 a0_4)) else (latticeref12_Place.l0 kj15 l1 a2 x8_2 (wrap64 (x9_2 + 1)) a0_0 a0_1 a0_2 a0_3 a0_4)) else (latticeref12_Place.l0 kj15 l1 a2 (wrap64 (x9_2 + 1)) (wrap64 (x9_2 + 1)) a0_0 a0_1 a0_2 a0_3 a0_4)) else (if a2 < 0 then (if t218 = (-1) then (latticeref12_Place.l0 kj15 l1 a2 x8_2 (wrap64 (x9_2 + 1)) a0_0 a0_1 a0_2 a0_3 a0_4) else (latticeref12_Place.l0 kj15 l1 a2 (wrap64 (x9_2 + 1)) (wrap64 (x9_2 + 1)) a0_0 a0_1 a0_2 a0_3 a0_4)) else (latticeref12_Place.l0 kj15 l1 a2 x8_2 (wrap64 (x9_2 + 1)) a0_0 a0_1 a0_2 a0_3 a0_4)))) = some r := by rw [if_neg (show ¬ (false = true) by decide)] at H; exact H
           clear H
           have H := H1
           clear H1
           by_cases c26 : a2 = 0
           ·rw [if_pos c26] at H
            have c26b0 : (a2 == 0) = true := beq_iff_eq.mpr c26
            have c26b1 : (a2 != 0) = false := bne_eq_false_iff_eq.mpr c26
            clear c26
            have HC27 := Aside0.mk H
            clear H
            go_upto_region 12 with (fail)
            go_cut [65] (fun v65 wc => ∃ (kq : Nat) (x65_26 : Bool), v65 = .bool x65_26 ∧ Aside0 (latticeref12_Place.j3 kq l1 a2 x8_2 x9_2 x65_26 a0_0 a0_1 a0_2 a0_3 a0_4 = some r) ∧ Aside0 (kq ≤ kj15) ∧ Aside0 (wc.heap[gb215]? = some (.cells #[.int .i64 a0_0, .int .i64 a0_1, .string a0_2, .bool a0_3, .int .i64 a0_4] 30 (0, 0))) ∧ Aside0 (Below w.heap.size w wc))
            case first =>
             have H := HC27.out
             clear HC27
             by_cases c28 : t218 = 0
             ·rw [if_pos c28] at H
              have c28b0 : (t218 == 0) = true := beq_iff_eq.mpr c28
              have c28b1 : (t218 != 0) = false := bne_eq_false_iff_eq.mpr c28
              clear c28
              (first | rw [c28b0] | (simp only [i64_w, i32_w]; rw [c28b0]) | rw [c28b1] | skip)
              have H' := Aside0.mk H
              clear H
              go_wp2
              go_meet
              case rel => exact ⟨_, ((x8_2 == 0)), (by first | rfl | (simp; done) | (simp [*]; done)), H', ⟨by have := HJ4.out; have := HK2.out; have := HJ15.out; first | omega | exact Nat.le_refl _⟩, ⟨by (with_reducible repeat (first | refine blk_drewN ?_ _ | refine blk_drew ?_ | refine blk_alloc ?_ _)); exact BK215.out⟩, ⟨by repeat (first | (with_reducible first | exact HB.out | apply below_alloc | apply pw_below_drewN | apply below_drew1 | refine below_set ?_ GE215.out) | exact HB.out)⟩⟩
             ·rw [if_neg c28] at H
              have c28b0 : (t218 == 0) = false := beq_eq_false_iff_ne.mpr c28
              have c28b1 : (t218 != 0) = true := bne_iff_ne.mpr c28
              (first | rw [c28b0] | (simp only [i64_w, i32_w]; rw [c28b0]) | rw [c28b1] | skip)
              have H' := Aside0.mk H
              clear H
              go_wp2
              go_meet
              case rel => exact ⟨_, (false), (by first | rfl | (simp; done) | (simp [*]; done)), H', ⟨by have := HJ4.out; have := HK2.out; have := HJ15.out; first | omega | exact Nat.le_refl _⟩, ⟨by (with_reducible repeat (first | refine blk_drewN ?_ _ | refine blk_drew ?_ | refine blk_alloc ?_ _)); exact BK215.out⟩, ⟨by repeat (first | (with_reducible first | exact HB.out | apply below_alloc | apply pw_below_drewN | apply below_drew1 | refine below_set ?_ GE215.out) | exact HB.out)⟩⟩
            case rest =>
             clear HC27
             try clear c1
             try clear c2
             try clear p2
             try clear q2
             try clear hx2
             try clear p6
             try clear c9
             try clear c11
             try clear c12
             try clear c12b0
             try clear c13
             try clear c13b0
             try clear c20
             try clear c20b0
             try clear c20b1
             try clear c21
             try clear p21
             try clear q21
             try clear hx21
             try clear p22
             try clear q22
             try clear hx22
             try clear c25
             try clear c26
             try clear c26b0
             try clear c26b1
             try clear c28
             try clear c28b0
             try clear c28b1
             try clear hcz10_0
             try clear hcz10_1
             try clear hcz10_2
             try clear hcz10_3
             try clear hcz10_4
             try clear hcz7_0
             try clear hcz7_1
             try clear hcz7_2
             try clear hcz7_3
             try clear hcz7_4
             try clear hfz10_0
             try clear hfz10_1
             try clear hfz10_2
             try clear hfz10_3
             try clear hfz10_4
             try clear hfz7_0
             try clear hfz7_1
             try clear hfz7_2
             try clear hfz7_3
             try clear hfz7_4
             try clear hx217_0
             try clear hx217_1
             try clear hx217_2
             try clear hx217_3
             try clear hx217_4
             try clear hx220_0
             try clear hx220_1
             try clear hx220_2
             try clear hx220_3
             try clear hx220_4
             try clear hx222_0
             try clear hx222_1
             try clear hx222_2
             try clear hx222_3
             try clear hx222_4
             try clear p2
             try clear p21
             try clear p217
             try clear p22
             try clear p220
             try clear p222
             try clear q2
             try clear q21
             try clear q217
             try clear q22
             try clear q220
             try clear q222
             obtain ⟨kq, x65_26, rfl, HA, HJ26, BK215, HB⟩ := hcut
             cases kq with
             | zero => exact absurd HA.out (by simp [latticeref12_Place.j3])
             | succ kj26 =>
              have H := HA.out
              clear HA
              simp only [latticeref12_Place.j3] at H
              by_cases c29 : x65_26 = true
              ·subst c29
               have H1 : (latticeref12_Place.l0 kj26 l1 a2 (wrap64 (x9_2 + 1)) (wrap64 (x9_2 + 1)) a0_0 a0_1 a0_2 a0_3 a0_4) = some r := by rw [if_pos rfl] at H; exact H
               clear H
               have H := H1
               clear H1
               have H' := Aside0.mk H
               clear H
               go_wp2
               go_roundg kj26
               case measure => have := HJ4.out; have := HK2.out; have := HJ15.out; have := HJ26.out; omega
               case rel => exact ⟨(wrap64 (x9_2 + 1)), (wrap64 (x9_2 + 1)), (by first | rfl | (simp; done) | (simp [*]; done)), (by first | rfl | (simp; done) | (simp [*]; done)), H', ⟨by have := HJ4.out; have := HK2.out; have := HJ15.out; have := HJ26.out; omega⟩, ⟨by (with_reducible repeat (first | refine blk_drewN ?_ _ | refine blk_drew ?_ | refine blk_alloc ?_ _)); exact BK215.out⟩, ⟨by repeat (first | (with_reducible first | exact HB.out | apply below_alloc | apply pw_below_drewN | apply below_drew1 | refine below_set ?_ GE215.out) | exact HB.out)⟩⟩
              ·replace c29 := Bool.eq_false_iff.mpr c29
               subst c29
               have H1 : (latticeref12_Place.l0 kj26 l1 a2 x8_2 (wrap64 (x9_2 + 1)) a0_0 a0_1 a0_2 a0_3 a0_4) = some r := by rw [if_neg (show ¬ (false = true) by decide)] at H; exact H
               clear H
               have H := H1
               clear H1
               have H' := Aside0.mk H
               clear H
               go_wp2
               go_roundg kj26
               case measure => have := HJ4.out; have := HK2.out; have := HJ15.out; have := HJ26.out; omega
               case rel => exact ⟨(x8_2), (wrap64 (x9_2 + 1)), (by first | rfl | (simp; done) | (simp [*]; done)), (by first | rfl | (simp; done) | (simp [*]; done)), H', ⟨by have := HJ4.out; have := HK2.out; have := HJ15.out; have := HJ26.out; omega⟩, ⟨by (with_reducible repeat (first | refine blk_drewN ?_ _ | refine blk_drew ?_ | refine blk_alloc ?_ _)); exact BK215.out⟩, ⟨by repeat (first | (with_reducible first | exact HB.out | apply below_alloc | apply pw_below_drewN | apply below_drew1 | refine below_set ?_ GE215.out) | exact HB.out)⟩⟩
           ·rw [if_neg c26] at H
            have c26b0 : (a2 == 0) = false := beq_eq_false_iff_ne.mpr c26
            have c26b1 : (a2 != 0) = true := bne_iff_ne.mpr c26
            by_cases c30 : a2 > 0
            ·rw [if_pos c30] at H
             have c30b0 : decide (0 < a2) = true := decide_eq_true c30
             clear c30
             by_cases c31 : t218 = 1
             ·rw [if_pos c31] at H
              have c31b0 : (t218 == 1) = true := beq_iff_eq.mpr c31
              have c31b1 : (t218 != 1) = false := bne_eq_false_iff_eq.mpr c31
              clear c31
              by_cases c32 : a2 < 0
              ·rw [if_pos c32] at H
               have c32b0 : decide (a2 < 0) = true := decide_eq_true c32
               clear c32
               by_cases c33 : t218 = (-1)
               ·rw [if_pos c33] at H
                have c33b0 : (t218 == (-1)) = true := beq_iff_eq.mpr c33
                have c33b1 : (t218 != (-1)) = false := bne_eq_false_iff_eq.mpr c33
                clear c33
                have H' := Aside0.mk H
                clear H
                go_wp2
                go_roundg kj15
                case measure => have := HJ4.out; have := HK2.out; have := HJ15.out; omega
                case rel => exact ⟨(x8_2), (wrap64 (x9_2 + 1)), (by first | rfl | (simp; done) | (simp [*]; done)), (by first | rfl | (simp; done) | (simp [*]; done)), H', ⟨by have := HJ4.out; have := HK2.out; have := HJ15.out; omega⟩, ⟨by (with_reducible repeat (first | refine blk_drewN ?_ _ | refine blk_drew ?_ | refine blk_alloc ?_ _)); exact BK215.out⟩, ⟨by repeat (first | (with_reducible first | exact HB.out | apply below_alloc | apply pw_below_drewN | apply below_drew1 | refine below_set ?_ GE215.out) | exact HB.out)⟩⟩
               ·rw [if_neg c33] at H
                have c33b0 : (t218 == (-1)) = false := beq_eq_false_iff_ne.mpr c33
                have c33b1 : (t218 != (-1)) = true := bne_iff_ne.mpr c33
                have H' := Aside0.mk H
                clear H
                go_wp2
                go_roundg kj15
                case measure => have := HJ4.out; have := HK2.out; have := HJ15.out; omega
                case rel => exact ⟨(wrap64 (x9_2 + 1)), (wrap64 (x9_2 + 1)), (by first | rfl | (simp; done) | (simp [*]; done)), (by first | rfl | (simp; done) | (simp [*]; done)), H', ⟨by have := HJ4.out; have := HK2.out; have := HJ15.out; omega⟩, ⟨by (with_reducible repeat (first | refine blk_drewN ?_ _ | refine blk_drew ?_ | refine blk_alloc ?_ _)); exact BK215.out⟩, ⟨by repeat (first | (with_reducible first | exact HB.out | apply below_alloc | apply pw_below_drewN | apply below_drew1 | refine below_set ?_ GE215.out) | exact HB.out)⟩⟩
              ·rw [if_neg c32] at H
               have c32b0 : decide (a2 < 0) = false := decide_eq_false c32
               clear c32
               have H' := Aside0.mk H
               clear H
               go_wp2
               go_roundg kj15
               case measure => have := HJ4.out; have := HK2.out; have := HJ15.out; omega
               case rel => exact ⟨(x8_2), (wrap64 (x9_2 + 1)), (by first | rfl | (simp; done) | (simp [*]; done)), (by first | rfl | (simp; done) | (simp [*]; done)), H', ⟨by have := HJ4.out; have := HK2.out; have := HJ15.out; omega⟩, ⟨by (with_reducible repeat (first | refine blk_drewN ?_ _ | refine blk_drew ?_ | refine blk_alloc ?_ _)); exact BK215.out⟩, ⟨by repeat (first | (with_reducible first | exact HB.out | apply below_alloc | apply pw_below_drewN | apply below_drew1 | refine below_set ?_ GE215.out) | exact HB.out)⟩⟩
             ·rw [if_neg c31] at H
              have c31b0 : (t218 == 1) = false := beq_eq_false_iff_ne.mpr c31
              have c31b1 : (t218 != 1) = true := bne_iff_ne.mpr c31
              have H' := Aside0.mk H
              clear H
              go_wp2
              go_roundg kj15
              case measure => have := HJ4.out; have := HK2.out; have := HJ15.out; omega
              case rel => exact ⟨(wrap64 (x9_2 + 1)), (wrap64 (x9_2 + 1)), (by first | rfl | (simp; done) | (simp [*]; done)), (by first | rfl | (simp; done) | (simp [*]; done)), H', ⟨by have := HJ4.out; have := HK2.out; have := HJ15.out; omega⟩, ⟨by (with_reducible repeat (first | refine blk_drewN ?_ _ | refine blk_drew ?_ | refine blk_alloc ?_ _)); exact BK215.out⟩, ⟨by repeat (first | (with_reducible first | exact HB.out | apply below_alloc | apply pw_below_drewN | apply below_drew1 | refine below_set ?_ GE215.out) | exact HB.out)⟩⟩
            ·rw [if_neg c30] at H
             have c30b0 : decide (0 < a2) = false := decide_eq_false c30
             clear c30
             by_cases c34 : a2 < 0
             ·rw [if_pos c34] at H
              have c34b0 : decide (a2 < 0) = true := decide_eq_true c34
              clear c34
              by_cases c35 : t218 = (-1)
              ·rw [if_pos c35] at H
               have c35b0 : (t218 == (-1)) = true := beq_iff_eq.mpr c35
               have c35b1 : (t218 != (-1)) = false := bne_eq_false_iff_eq.mpr c35
               clear c35
               have H' := Aside0.mk H
               clear H
               go_wp2
               go_roundg kj15
               case measure => have := HJ4.out; have := HK2.out; have := HJ15.out; omega
               case rel => exact ⟨(x8_2), (wrap64 (x9_2 + 1)), (by first | rfl | (simp; done) | (simp [*]; done)), (by first | rfl | (simp; done) | (simp [*]; done)), H', ⟨by have := HJ4.out; have := HK2.out; have := HJ15.out; omega⟩, ⟨by (with_reducible repeat (first | refine blk_drewN ?_ _ | refine blk_drew ?_ | refine blk_alloc ?_ _)); exact BK215.out⟩, ⟨by repeat (first | (with_reducible first | exact HB.out | apply below_alloc | apply pw_below_drewN | apply below_drew1 | refine below_set ?_ GE215.out) | exact HB.out)⟩⟩
              ·rw [if_neg c35] at H
               have c35b0 : (t218 == (-1)) = false := beq_eq_false_iff_ne.mpr c35
               have c35b1 : (t218 != (-1)) = true := bne_iff_ne.mpr c35
               have H' := Aside0.mk H
               clear H
               go_wp2
               go_roundg kj15
               case measure => have := HJ4.out; have := HK2.out; have := HJ15.out; omega
               case rel => exact ⟨(wrap64 (x9_2 + 1)), (wrap64 (x9_2 + 1)), (by first | rfl | (simp; done) | (simp [*]; done)), (by first | rfl | (simp; done) | (simp [*]; done)), H', ⟨by have := HJ4.out; have := HK2.out; have := HJ15.out; omega⟩, ⟨by (with_reducible repeat (first | refine blk_drewN ?_ _ | refine blk_drew ?_ | refine blk_alloc ?_ _)); exact BK215.out⟩, ⟨by repeat (first | (with_reducible first | exact HB.out | apply below_alloc | apply pw_below_drewN | apply below_drew1 | refine below_set ?_ GE215.out) | exact HB.out)⟩⟩
             ·rw [if_neg c34] at H
              have c34b0 : decide (a2 < 0) = false := decide_eq_false c34
              clear c34
              have H' := Aside0.mk H
              clear H
              go_wp2
              go_roundg kj15
              case measure => have := HJ4.out; have := HK2.out; have := HJ15.out; omega
              case rel => exact ⟨(x8_2), (wrap64 (x9_2 + 1)), (by first | rfl | (simp; done) | (simp [*]; done)), (by first | rfl | (simp; done) | (simp [*]; done)), H', ⟨by have := HJ4.out; have := HK2.out; have := HJ15.out; omega⟩, ⟨by (with_reducible repeat (first | refine blk_drewN ?_ _ | refine blk_drew ?_ | refine blk_alloc ?_ _)); exact BK215.out⟩, ⟨by repeat (first | (with_reducible first | exact HB.out | apply below_alloc | apply pw_below_drewN | apply below_drew1 | refine below_set ?_ GE215.out) | exact HB.out)⟩⟩
       ·rw [if_neg c13] at H
        exact absurd H (by simp)
      ·rw [if_neg c12] at H
       have c12b0 : decide (x9_2 < (l1.length : Int)) = false := decide_eq_false c12
       clear c12
       obtain rfl := Option.some.inj H
       go_wp2
       go_ret
       exact ⟨by first | rfl | (simp [errW_none, errW_some] <;> rfl) | (simp [*, errW_none, errW_some] <;> rfl), be⟩
end Go.Proofs.YtcihleahjnpaaaaGreatDoor.P
namespace Go.Proofs.YtcihleahjnpaaaaGreatDoor.H
open Go.RowKit Go.Proofs.YtcihleahjnpaaaaGreatDoor.P Go.Proofs.YtcihleahjnpaaaaGreatDoor.T Go.Proofs.YtcihleahjnpaaaaGreatDoorW.PrintWords Go.Proofs.YtcihleahjnpaaaaGreatDoorW.PrintLast Go.Proofs.YtcihleahjnpaaaaGreatDoorW.PrintMore
set_option linter.unusedVariables false
set_option linter.unusedSimpArgs false
def refL (x : V) (m : Int) : List V → Nat → Int → Int
  | [], _, a => a
  | v :: t, i, a =>
    if v.f0 ≠ x.f0 ∨ (ordV v x).2 ≠ 0 then refL x m t (i + 1) a
    else if m = 0 then (if (ordV v x).1 = 0 ∧ a = 0 then refL x m t (i + 1) ((i + 1 : Nat) : Int) else refL x m t (i + 1) a)
    else if (0 < m ∧ (ordV v x).1 ≠ 1) ∨ (m < 0 ∧ (ordV v x).1 ≠ -1) then refL x m t (i + 1) ((i + 1 : Nat) : Int)
    else refL x m t (i + 1) a
theorem refL_zero (x : V) : ∀ (l : List V) (i : Nat) (a : Int), a ≠ 0 → refL x 0 l i a = a
  | [], i, a, h => rfl
  | v :: t, i, a, h => by
    unfold refL
    rw [if_pos (show (0 : Int) = 0 from rfl), if_neg (show ¬ ((ordV v x).1 = 0 ∧ a = 0) from fun hh => h hh.2), refL_zero x t (i + 1) a h]
    simp
theorem refL_eq (x : V) (m : Int) : ∀ (l : List V) (i : Nat) (a : Int), (m = 0 → a = 0) → refL x m l i a = placeL x m l i a
  | [], i, a, h => rfl
  | v :: t, i, a, h => by
    have ho := ord_range v x
    unfold refL placeL
    generalize (ordV v x).1 = o at *
    by_cases h1 : v.f0 ≠ x.f0 ∨ (ordV v x).2 ≠ 0
    · rw [if_pos h1, if_pos h1]; exact refL_eq x m t (i + 1) a h
    rw [if_neg h1, if_neg h1]
    by_cases h2 : m = 0
    · have ha := h h2
      subst h2 ha
      rw [if_pos rfl]
      by_cases h3 : o = 0
      · rw [if_pos ⟨h3, rfl⟩, if_pos ⟨rfl, h3⟩]
        exact refL_zero x t (i + 1) _ (by omega)
      · rw [if_neg (fun hh => h3 hh.1), if_neg (fun hh => h3 hh.2), if_neg (by omega)]
        exact refL_eq x 0 t (i + 1) 0 (fun _ => rfl)
    · rw [if_neg h2, if_neg (show ¬ (m = 0 ∧ o = 0) from fun hh => h2 hh.1)]
      by_cases h4 : (0 < m ∧ o ≠ 1) ∨ (m < 0 ∧ o ≠ -1)
      · rw [if_pos h4, if_pos (by omega)]
        exact refL_eq x m t (i + 1) _ (fun hh => absurd hh h2)
      · rw [if_neg h4, if_neg (by omega)]
        exact refL_eq x m t (i + 1) a (fun hh => absurd hh h2)
theorem rl0_eq (x : V) (m : Int) (l : List V) (hl : l.length ≤ 4096) (hx : x.f2.size ≤ 300) (hs : ∀ v ∈ l, v.f2.size ≤ 300) : ∀ (d i : Nat) (a : Int) (K : Nat), l.length - i = d → i ≤ l.length → 3 * d + 700 ≤ K →
    latticeref12_Place.l0 K (l.map rr) m a (i : Int) x.f0 x.f1 x.f2 x.f3 x.f4 = some (refL x m (l.drop i) i a)
  | 0, i, a, K, hd, hi, hK => by
    have hi' : i = l.length := by omega
    subst hi'
    obtain ⟨K, rfl⟩ : ∃ k, K = k + 1 := ⟨K - 1, by omega⟩
    rw [latticeref12_Place.l0, if_neg (by simp), List.drop_length]
    rfl
  | d + 1, i, a, K, hd, hi, hK => by
    have hlt : i < l.length := by omega
    obtain ⟨K, rfl⟩ : ∃ k, K = k + 3 := ⟨K - 3, by omega⟩
    have IH := fun b k h => rl0_eq x m l hl hx hs d (i + 1) b k (by omega) (by omega) h
    have hw := wrap_nat i l.length hlt hl
    have hr : rd_T30 (l.map rr) (i : Int) = rr l[i] := by unfold rd_T30; simp [List.getD, hlt]
    have hdr : l.drop i = l[i] :: l.drop (i + 1) := List.drop_eq_getElem_cons hlt
    have hsz := hs l[i] (List.getElem_mem hlt)
    rw [hdr, latticeref12_Place.l0, if_pos (by simp; omega), if_pos (by omega), hr]
    generalize l[i] = v at *
    have ho := rOrder_f v x (K + 2) (by omega) (by omega) (by omega)
    have hg := rGood_f v
    unfold rr
    simp only
    rw [ho, hg]
    simp only [Option.bind_some]
    have hrg := ord_range v x
    have hog := ord_good v x
    unfold refL
    generalize ordV v x = o at *
    obtain ⟨o, f⟩ := o
    simp only at hrg hog ⊢
    by_cases h1 : f = 0
    · rw [if_pos h1, if_pos (hog h1)]
      by_cases h2 : v.f0 = x.f0
      · rw [show (v.f0 != x.f0) = false by simpa using h2, latticeref12_Place.j2, if_neg (by simp), if_neg (show ¬ (v.f0 ≠ x.f0 ∨ f ≠ 0) from fun h => h.elim (fun h => h h2) (fun h => h h1)), hw]
        by_cases h3 : m = 0
        · rw [if_pos h3, if_pos h3]
          by_cases h4 : o = 0
          · rw [if_pos h4, latticeref12_Place.j3, hw]
            by_cases h5 : a = 0
            · rw [if_pos (by simpa using h5), if_pos ⟨h4, h5⟩]; exact IH _ _ (by omega)
            · rw [if_neg (by simpa using h5), if_neg (fun h => h5 h.2)]; exact IH _ _ (by omega)
          · rw [if_neg h4, latticeref12_Place.j3, if_neg (by simp), if_neg (fun h => h4 h.1), hw]; exact IH _ _ (by omega)
        · rw [if_neg h3, if_neg h3]
          by_cases h4 : m > 0
          · rw [if_pos h4]
            by_cases h5 : o = 1
            · rw [if_pos h5, if_neg (by omega), if_neg (by omega)]; exact IH _ _ (by omega)
            · rw [if_neg h5, if_pos (by omega)]; exact IH _ _ (by omega)
          · rw [if_neg h4, if_pos (by omega)]
            by_cases h5 : o = -1
            · rw [if_pos h5, if_neg (by omega)]; exact IH _ _ (by omega)
            · rw [if_neg h5, if_pos (by omega)]; exact IH _ _ (by omega)
      · rw [show (v.f0 != x.f0) = true by simpa using h2, latticeref12_Place.j2, if_pos rfl, if_pos (.inl h2), hw]; exact IH _ _ (by omega)
    · rw [if_neg h1, latticeref12_Place.j2, if_pos rfl, if_pos (.inr h1), hw]; exact IH _ _ (by omega)
theorem rPlace_f (x : V) (l : List V) (m : Int) (hl : l.length ≤ 4096) (hx : x.f2.size ≤ 300) (hs : ∀ v ∈ l, v.f2.size ≤ 300) (K : Nat) (hK : 3 * l.length + 701 ≤ K) :
    latticeref12_Place.f K x.f0 x.f1 x.f2 x.f3 x.f4 (l.map rr) m = some (placeS x l m) := by
  obtain ⟨K, rfl⟩ : ∃ k, K = k + 1 := ⟨K - 1, by omega⟩
  have h0 := rl0_eq x m l hl hx hs l.length 0 0 K (by omega) (by omega) (by omega)
  rw [List.drop_zero, refL_eq x m l 0 0 (fun _ => rfl)] at h0
  unfold latticeref12_Place.f placeS
  rw [rGood_f, Option.bind_some]
  by_cases h1 : okV x = true
  · rw [if_pos h1]
    by_cases h2 : x.f0 = 4
    · rw [show (x.f0 == 4) = true by simpa using h2, if_neg (fun h => h.2 h2), latticeref12_Place.j0, if_pos rfl]
    · rw [show (x.f0 == 4) = false by simpa using h2, if_pos ⟨h1, h2⟩, latticeref12_Place.j0, if_neg (by simp)]
      exact h0
  · rw [if_neg h1, if_neg (fun h => h1 h.1), latticeref12_Place.j0, if_pos rfl]
end Go.Proofs.YtcihleahjnpaaaaGreatDoor.H
namespace Go.Proofs.YtcihleahjnpaaaaGreatDoor.H
open Go.RowKit Go.Proofs.YtcihleahjnpaaaaGreatDoor.P Go.Proofs.YtcihleahjnpaaaaGreatDoor.T Go.Proofs.YtcihleahjnpaaaaGreatDoorW.PrintWords Go.Proofs.YtcihleahjnpaaaaGreatDoorW.PrintLast Go.Proofs.YtcihleahjnpaaaaGreatDoorW.PrintMore
set_option linter.unusedVariables false
set_option linter.unusedSimpArgs false
theorem Rd.reads {w0 w : World} {g : Nat} {A : Option Addr} {c : Nat} {l : List AR} {i : Nat} {f : Int} (h : Rd w0 w g A c l i f) {A' : Option Addr} {v : List V} (hK : Kd.C kV w0 A' v.length v) : Kd.C kV w A' v.length v := Kd.C_below hK h.b
theorem nextS_len (l : List AR) (i : Nat) (hok : ∀ a ∈ l, okA a = true) : (nextS l i).1.f0.length ≤ 4096 := by
  unfold nextS
  rcases Nat.lt_or_ge i l.length with h | h
  · rw [List.getElem?_eq_getElem h]; exact (okA_len _ (hok _ (List.getElem_mem h))).2.2.2
  · rw [List.getElem?_eq_none h]; simp [noArg]
theorem listS_len (l : List AR) (i : Nat) (f : Int) (hok : ∀ a ∈ l, okA a = true) : (listS l i f).1.length ≤ 4096 := nextS_len l i hok
theorem placeL_le (x : V) (m : Int) : ∀ (l : List V) (i : Nat) (a : Int), 0 ≤ a → a ≤ i → 0 ≤ placeL x m l i a ∧ placeL x m l i a ≤ i + l.length
  | [], i, a, h0, h1 => by unfold placeL; simp; omega
  | v :: t, i, a, h0, h1 => by
    unfold placeL
    have H1 := placeL_le x m t (i + 1) a h0 (by omega)
    have H2 := placeL_le x m t (i + 1) ((i + 1 : Nat) : Int) (by omega) (by omega)
    simp only [List.length_cons]
    split
    · omega
    · split
      · omega
      · split <;> omega
theorem placeS_le (x : V) (l : List V) (m : Int) : 0 ≤ placeS x l m ∧ placeS x l m ≤ l.length := by
  unfold placeS
  split
  · have := placeL_le x m l 0 0 (by omega) (by omega); omega
  · omega
theorem below_undrew {w w' : World} (h : Below w.drew.heap.size w.drew w') : Below w.heap.size w w' := ⟨h.os, h.tape, h.output, h.size, h.block⟩
def matchS (l : List AR) : V × Int :=
  let x := thingS l 0 0
  let k := listS l x.2.1 x.2.2
  let m := countS 0 l k.2.1 k.2.2
  let p := placeS x.1 k.1 (wayS m.1)
  (if p = 0 then eV 6 else wholeV p, m.2.2.2)
set_option maxHeartbeats 2000000 in
set_option maxRecDepth 100000 in
theorem match_rd {w0 w : World} {g : Nat} {A : Option Addr} {c : Nat} {l : List AR} (hc : Cx w0 g A l) (h : Rd w0 w g A c l 0 0) :
    Calls Tryz.prog 56 #[.pointer (some ⟨g, 0, none⟩)] w fun e w' => e = .returned (vv (matchS l).1) ∧ w.grownBy w' (some g) ∧ ∃ j, Rd w0 w' g A c l j (matchS l).2 := by
  have hne := h.ne
  have hlen := fun i f => listS_len l i f hc.ok
  unfold matchS
  simp only
  have HT := fun (W : World) (h : Rd w0 W g A c l 0 0) => thing_rd hc h
  generalize thingS l 0 0 = x at *
  obtain ⟨x, i1, f1⟩ := x
  have HL := fun (W : World) (h : Rd w0 W g A c l i1 f1) => list_rd hc h
  simp only at HT ⊢
  have hlen := hlen i1 f1
  generalize listS l i1 f1 = k at *
  obtain ⟨k, i2, f2⟩ := k
  have HN := fun (W : World) (h : Rd w0 W g A c l i2 f2) => count_rd 0 hc h
  simp only at HL hlen ⊢
  generalize countS 0 l i2 f2 = m at *
  obtain ⟨m, b, i3, f3⟩ := m
  simp only at HN ⊢
  have hp := placeS_le x k (wayS m)
  have HT := Lib.hid HT
  have HL := Lib.hid HL
  have HN := Lib.hid HN
  have HC := Lib.hid hc
  have HD := Lib.hid h
  clear hc h
  generalize hE : (if placeS x k (wayS m) = 0 then eV 6 else wholeV (placeS x k (wayS m))) = E
  go_enter Tryz.func56, Tryz.ntmps56
  go_wp2_with (fail)
  have HA0 := Lib.hid (gr_alloc (gr_refl w none) (.cells #[.int .i64 0, .int .i64 0, .string ⟨#[]⟩, .bool false, .int .i64 0] 29))
  refine (HT.out _ (HD.out.grow HC.out HA0.out)).mono ?_
  rintro y w2 ⟨rfl, h2, h3⟩
  have HG := Lib.hid (gr_then (gr_alloc (gr_refl w (some g)) _) h2)
  have HX := Lib.hid h2
  have HR := Lib.hid h3
  have hne2 := h3.ne
  clear h2 h3
  unfold vv
  go_wp2_with (fail)
  refine (HL.out _ HR.out).mono ?_
  rintro y w3 ⟨A', c', rfl, hcc, hK, h4, h5⟩
  have HG3 := Lib.hid (gr_then HG.out h4)
  have HX3 := Lib.hid (gr_then HX.out h4)
  have HR3 := Lib.hid h5
  have HK := Lib.hid hK
  clear h4 h5 hK
  go_wp2_with (fail)
  refine (HN.out _ (HR3.out.grow HC.out (gr_alloc (gr_refl w3 none) _))).mono ?_
  rintro y w4 ⟨rfl, h4, h5⟩
  have HG4 := Lib.hid (gr_then (gr_alloc HG3.out _) h4)
  have HX4 := Lib.hid (gr_then (gr_alloc HX3.out _) h4)
  have HL4 := Lib.hid h4
  have HR4 := Lib.hid h5
  have hne3 := HR3.out.ne
  obtain ⟨x0, x1, x2, x3, x4, u0, u1, u2, u3, u4⟩ := loc5 h4 hne3
  clear h4 h5
  go_wp2_with (fail)
  refine start_ (n := 6) (S := fun w' => w'.cell? ⟨w3.heap.size, 0, none⟩ = some (.int .i64 x.f0) ∧ w'.cell? ⟨w3.heap.size, 1, none⟩ = some (.int .i64 x.f1) ∧ w'.cell? ⟨w3.heap.size, 2, none⟩ = some (.string x.f2) ∧ w'.cell? ⟨w3.heap.size, 3, none⟩ = some (.bool x.f3) ∧ w'.cell? ⟨w3.heap.size, 4, none⟩ = some (.int .i64 x.f4)) (ds := []) #[false, false, false, false, false, false] (by kernel_rfl) rfl rfl ⟨x0, x1, x2, x3, x4⟩ (fun hHeld => ?_)
  refine take_ (i := 0) (N := some 17) (v := ?_) (a' := ?_) #[true, false, false, false, false, false] rfl rfl (by kernel_rfl) (fun _ _ _ h => h) (Or.inl ⟨by rfl, ?_⟩) hHeld ?_ ?_
  rotate_left
  · rintro w' ⟨s0, s1, s2, s3, s4⟩
    go_simp
    with_reducible rfl
  rotate_left
  · simp only [Act.put, List.setIfInBounds_toArray, List.set_cons_zero, List.set_cons_succ, i64_w, i32_w]
    rfl
  refine pure_ (i := 1) (N := some 18) (v := ?_) (a' := ?_) #[true, true, false, false, false, false] rfl rfl (by kernel_rfl) (fun _ _ _ h => h) (Or.inl ⟨by rfl, ?_⟩) ?_ ?_
  rotate_left
  · intro w'
    go_simp
    with_reducible rfl
  rotate_left
  · simp only [Act.put, List.setIfInBounds_toArray, List.set_cons_zero, List.set_cons_succ, i64_w, i32_w]
    rfl
  refine pure_ (i := 2) (N := some 19) (v := ?_) (a' := ?_) #[true, true, true, false, false, false] rfl rfl (by kernel_rfl) (fun _ _ _ h => h) (Or.inl ⟨by rfl, ?_⟩) ?_ ?_
  rotate_left
  · intro w'
    go_simp
    with_reducible rfl
  rotate_left
  · simp only [Act.put, List.setIfInBounds_toArray, List.set_cons_zero, List.set_cons_succ, i64_w, i32_w]
    rfl
  refine one_ (i := 3) (N := some 20) #[true, true, true, true, false, false] rfl rfl (by kernel_rfl) (by decide) (fun K hK => ?_)
  refine goes_ Tryz.func78 (by kernel_rfl) rfl #[.int .i64 m] (by rfl) rfl rfl (by (try simp only [List.map_toArray, List.map_cons, List.map_nil]); first | done | rfl) ?_
  with_reducible refine (way_any m _).mono ?_
  rintro e w5 ⟨rfl, hb5⟩
  refine ⟨_, rfl, ?_⟩
  replace hb5 := below_undrew hb5
  have p0 := pw_cell_below hb5 x0
  have p1 := pw_cell_below hb5 x1
  have p2 := pw_cell_below hb5 x2
  have p3 := pw_cell_below hb5 x3
  have p4 := pw_cell_below hb5 x4
  refine hK.out _ _ ⟨p0, p1, p2, p3, p4⟩ (fun hHeld => ?_)
  clear hK K
  refine norm_ (a' := ?_) ?_ ?_
  rotate_left
  · show Act.put _ (some 20) _ = _
    simp only [Act.put, List.setIfInBounds_toArray, List.set_cons_zero, List.set_cons_succ, i64_w, i32_w]
    rfl
  refine one_ (i := 4) (N := some 21) #[true, true, true, true, true, false] rfl rfl (by kernel_rfl) (by decide) (fun K hK => ?_)
  refine goes_ Tryz.func10 (by kernel_rfl) rfl #[.agg #[.int .i64 x.f0, .int .i64 x.f1, .string x.f2, .bool x.f3, .int .i64 x.f4], .slice A' k.length c', .int .i64 (wayS m)] (by rfl) rfl rfl (by (try simp only [List.map_toArray, List.map_cons, List.map_nil]); first | done | rfl) ?_
  refine (place_any x A' c' k (wayS m) _ (Kd.C_below (HR4.out.reads HK.out) hb5) hcc hlen).mono ?_
  rintro e w6 ⟨rfl, hb6⟩
  refine ⟨_, rfl, ?_⟩
  have q0 := pw_cell_below hb6 p0
  have q1 := pw_cell_below hb6 p1
  have q2 := pw_cell_below hb6 p2
  have q3 := pw_cell_below hb6 p3
  have q4 := pw_cell_below hb6 p4
  refine hK.out _ _ ⟨q0, q1, q2, q3, q4⟩ (fun hHeld => ?_)
  clear hK K
  refine norm_ (a' := ?_) ?_ ?_
  rotate_left
  · show Act.put _ (some 21) _ = _
    simp only [Act.put, List.setIfInBounds_toArray, List.set_cons_zero, List.set_cons_succ, i64_w, i32_w]
    rfl
  refine pure_ (i := 5) (N := some 7) (v := ?_) (a' := ?_) #[true, true, true, true, true, true] rfl rfl (by kernel_rfl) (fun _ _ _ h => h) (Or.inl ⟨by rfl, ?_⟩) ?_ ?_
  rotate_left
  · intro w'
    go_simp
    with_reducible rfl
  rotate_left
  · simp only [Act.put, List.setIfInBounds_toArray, List.set_cons_zero, List.set_cons_succ, i64_w, i32_w]
    rfl
  refine done_ (by kernel_rfl) ?_
  have hd5 := gr_then (gr_of_below hb5 none) (gr_of_below hb6 none)
  have HR6 := Lib.hid (HR4.out.grow HC.out hd5)
  have HG6 := Lib.hid (gr_then HG4.out (gr_then (gr_of_below hb5 (some g)) (gr_of_below hb6 (some g))))
  have HX6 := Lib.hid (gr_then HX4.out (gr_then (gr_of_below hb5 (some g)) (gr_of_below hb6 (some g))))
  clear hd5
  clear HK HT HL HN HX HX3 HX4 HL4 HG HG3 HG4 HR HR3 HR4
  clear q0 q1 q2 q3 q4 p0 p1 p2 p3 p4 x0 x1 x2 x3 x4 u0 u1 u2 u3 u4
  clear hb5 hb6
  have hne1 : ¬ w.heap.size = g := hne
  by_cases hz : placeS x k (wayS m) = 0
  · rw [if_pos hz] at hE
    subst hE
    have hz1 : (placeS x k (wayS m) == 0) = true := by simpa using hz
    go_wp2_with (fail)
    refine (e_any _ 6).mono ?_
    rintro y w7 ⟨rfl, h7⟩
    obtain ⟨z0, z1, z2, z3, z4, y0, y1, y2, y3, y4⟩ := loc5 (gr_then HX6.out (gr_of_below h7 (some g))) hne
    have HR7 := Lib.hid (HR6.out.grow HC.out (gr_of_below h7 none))
    have HG7 := Lib.hid (gr_then HG6.out (gr_of_below h7 (some g)))
    clear h7
    generalize hv : eV 6 = v at *
    have HV := Lib.hid hv
    clear hv
    unfold vv
    go_wp2_with (fail)
    have HE := end5 HD.out HC.out HG7.out HR7.out (.int .i64 v.f0) (.int .i64 v.f1) (.string v.f2) (.bool v.f3) (.int .i64 v.f4)
    refine bodyPost_ret (v := vv v) (by simp [results, Tryz.results56, go_sem, vv, z0, z1, z2, z3, z4]) rfl ⟨by rw [HV.out], HE.1, _, HE.2⟩
  · rw [if_neg hz] at hE
    subst hE
    have hz1 : (placeS x k (wayS m) == 0) = false := by simpa using hz
    go_wp2_with (fail)
    refine (wholev_any (placeS x k (wayS m)) hp.1 (by omega) _).mono ?_
    rintro y w7 ⟨rfl, h7⟩
    obtain ⟨z0, z1, z2, z3, z4, y0, y1, y2, y3, y4⟩ := loc5 (gr_then HX6.out (gr_of_below h7 (some g))) hne
    have HR7 := Lib.hid (HR6.out.grow HC.out (gr_of_below h7 none))
    have HG7 := Lib.hid (gr_then HG6.out (gr_of_below h7 (some g)))
    clear h7
    generalize hv : wholeV (placeS x k (wayS m)) = v at *
    have HV := Lib.hid hv
    clear hv
    unfold vv
    go_wp2_with (fail)
    have HE := end5 HD.out HC.out HG7.out HR7.out (.int .i64 v.f0) (.int .i64 v.f1) (.string v.f2) (.bool v.f3) (.int .i64 v.f4)
    refine bodyPost_ret (v := vv v) (by simp [results, Tryz.results56, go_sem, vv, z0, z1, z2, z3, z4]) rfl ⟨by rw [HV.out], HE.1, _, HE.2⟩
end Go.Proofs.YtcihleahjnpaaaaGreatDoor.H
namespace Go.Proofs.YtcihleahjnpaaaaGreatDoor.H
open Go.RowKit Go.Proofs.YtcihleahjnpaaaaGreatDoor.P Go.Proofs.YtcihleahjnpaaaaGreatDoor.T Go.Proofs.YtcihleahjnpaaaaGreatDoorW.PrintWords Go.Proofs.YtcihleahjnpaaaaGreatDoorW.PrintLast Go.Proofs.YtcihleahjnpaaaaGreatDoorW.PrintMore
set_option linter.unusedVariables false
set_option linter.unusedSimpArgs false
def indexS (l : List AR) : V × Int :=
  let t := nextS l 0
  let r := countS 0 l t.2 0
  let k := countS 1 l r.2.2.1 r.2.2.2
  (if k.2.1 = false ∧ rowsA t.1 = 1 then atS t.1 1 r.1 else atS t.1 r.1 k.1, k.2.2.2)
set_option maxHeartbeats 2000000 in
set_option maxRecDepth 100000 in
theorem index_rd {w0 w : World} {g : Nat} {A : Option Addr} {c : Nat} {l : List AR} (hc : Cx w0 g A l) (h : Rd w0 w g A c l 0 0) (hl : 0 < l.length) :
    Calls Tryz.prog 57 #[.pointer (some ⟨g, 0, none⟩)] w fun e w' => e = .returned (vv (indexS l).1) ∧ w.grownBy w' (some g) ∧ ∃ j, Rd w0 w' g A c l j (indexS l).2 := by
  have hne := h.ne
  have hok : okA (nextS l 0).1 = true := by
    unfold nextS
    rw [List.getElem?_eq_getElem hl]
    exact hc.ok _ (List.getElem_mem hl)
  unfold indexS
  simp only
  have HT := fun (W : World) (h : Rd w0 W g A c l 0 0) => table_rd hc h
  generalize nextS l 0 = t at *
  obtain ⟨t, i1⟩ := t
  have HL := fun (W : World) (h : Rd w0 W g A c l i1 0) => count_rd 0 hc h
  simp only at HT hok ⊢
  generalize countS 0 l i1 0 = r at *
  obtain ⟨r, rb, i2, f2⟩ := r
  have HN := fun (W : World) (h : Rd w0 W g A c l i2 f2) => count_rd 1 hc h
  simp only at HL ⊢
  generalize countS 1 l i2 f2 = k at *
  obtain ⟨k, b, i3, f3⟩ := k
  simp only at HN ⊢
  have HT := Lib.hid HT
  have HL := Lib.hid HL
  have HN := Lib.hid HN
  have HC := Lib.hid hc
  have HD := Lib.hid h
  clear hc h
  generalize hE : (if b = false ∧ rowsA t = 1 then atS t 1 r else atS t r k) = E
  go_enter Tryz.func57, Tryz.ntmps57
  go_wp2_with (fail)
  have HA0 := Lib.hid (gr_alloc (gr_refl w none) (.cells #[.int .i64 0, .int .i64 0, .string ⟨#[]⟩, .bool false, .int .i64 0] 29))
  refine (HT.out _ (HD.out.grow HC.out HA0.out)).mono ?_
  rintro y w2 ⟨A', c', rfl, hcc, hK, h2, h3⟩
  have HG := Lib.hid (gr_then (gr_alloc (gr_refl w (some g)) _) h2)
  have HX := Lib.hid h2
  have HR := Lib.hid h3
  have hne2 := h3.ne
  have HK := Lib.hid hK
  clear h2 h3 hK
  unfold tbv
  go_wp2_with (fail)
  refine (HL.out _ (HR.out.grow HC.out (gr_alloc (gr_refl w2 none) _))).mono ?_
  rintro y w3 ⟨rfl, h4, h5⟩
  have HG3 := Lib.hid (gr_then (gr_alloc HG.out _) h4)
  have HX3 := Lib.hid (gr_then (gr_alloc HX.out _) h4)
  have HL3 := Lib.hid h4
  have HR3 := Lib.hid h5
  clear h4 h5
  go_wp2_with (fail)
  refine (HN.out _ HR3.out).mono ?_
  rintro y w4 ⟨rfl, h4, h5⟩
  have HG4 := Lib.hid (gr_then HG3.out h4)
  have HX4 := Lib.hid (gr_then HX3.out h4)
  have HR4 := Lib.hid h5
  obtain ⟨x0, x1, x2, u0, u1, u2⟩ := loc3 (gr_then HL3.out h4) hne2
  clear h4 h5
  cases b
  · by_cases h1 : rowsA t = 1
    · rw [if_pos ⟨rfl, h1⟩] at hE
      have t1 : (rowsA t == 1) = true := by simpa using h1
      go_wp2_with (fail)
      subst hE
      have hat := at_any t hok 1 r A' c' w4 (HR4.out.reads HK.out) hcc
      unfold tbv at hat
      rw [h1] at hat
      refine (hat).mono ?_
      rintro y w7 ⟨rfl, h7⟩
      obtain ⟨z0, z1, z2, z3, z4, y0, y1, y2, y3, y4⟩ := loc5 (gr_then HX4.out (gr_of_below h7 (some g))) hne
      have HR7 := Lib.hid (HR4.out.grow HC.out (gr_of_below h7 none))
      have HG7 := Lib.hid (gr_then HG4.out (gr_of_below h7 (some g)))
      clear h7
      generalize hv : atS t 1 r = v at *
      have HV := Lib.hid hv
      clear hv
      unfold vv
      go_wp2_with (fail)
      have HE := end5 HD.out HC.out HG7.out HR7.out (.int .i64 v.f0) (.int .i64 v.f1) (.string v.f2) (.bool v.f3) (.int .i64 v.f4)
      refine bodyPost_ret (v := vv v) (by simp [results, Tryz.results57, go_sem, vv, z0, z1, z2, z3, z4]) rfl ⟨by rw [HV.out], HE.1, _, HE.2⟩
    · rw [if_neg (fun h => h1 h.2)] at hE
      have t1 : (rowsA t == 1) = false := by simpa using h1
      go_wp2_with (fail)
      subst hE
      have hat := at_any t hok r k A' c' w4 (HR4.out.reads HK.out) hcc
      unfold tbv at hat
      refine (hat).mono ?_
      rintro y w7 ⟨rfl, h7⟩
      obtain ⟨z0, z1, z2, z3, z4, y0, y1, y2, y3, y4⟩ := loc5 (gr_then HX4.out (gr_of_below h7 (some g))) hne
      have HR7 := Lib.hid (HR4.out.grow HC.out (gr_of_below h7 none))
      have HG7 := Lib.hid (gr_then HG4.out (gr_of_below h7 (some g)))
      clear h7
      generalize hv : atS t r k = v at *
      have HV := Lib.hid hv
      clear hv
      unfold vv
      go_wp2_with (fail)
      have HE := end5 HD.out HC.out HG7.out HR7.out (.int .i64 v.f0) (.int .i64 v.f1) (.string v.f2) (.bool v.f3) (.int .i64 v.f4)
      refine bodyPost_ret (v := vv v) (by simp [results, Tryz.results57, go_sem, vv, z0, z1, z2, z3, z4]) rfl ⟨by rw [HV.out], HE.1, _, HE.2⟩
  · rw [if_neg (fun h => absurd h.1 (by simp))] at hE
    go_wp2_with (fail)
    subst hE
    have hat := at_any t hok r k A' c' w4 (HR4.out.reads HK.out) hcc
    unfold tbv at hat
    refine (hat).mono ?_
    rintro y w7 ⟨rfl, h7⟩
    obtain ⟨z0, z1, z2, z3, z4, y0, y1, y2, y3, y4⟩ := loc5 (gr_then HX4.out (gr_of_below h7 (some g))) hne
    have HR7 := Lib.hid (HR4.out.grow HC.out (gr_of_below h7 none))
    have HG7 := Lib.hid (gr_then HG4.out (gr_of_below h7 (some g)))
    clear h7
    generalize hv : atS t r k = v at *
    have HV := Lib.hid hv
    clear hv
    unfold vv
    go_wp2_with (fail)
    have HE := end5 HD.out HC.out HG7.out HR7.out (.int .i64 v.f0) (.int .i64 v.f1) (.string v.f2) (.bool v.f3) (.int .i64 v.f4)
    refine bodyPost_ret (v := vv v) (by simp [results, Tryz.results57, go_sem, vv, z0, z1, z2, z3, z4]) rfl ⟨by rw [HV.out], HE.1, _, HE.2⟩
end Go.Proofs.YtcihleahjnpaaaaGreatDoor.H
namespace Go.Proofs.YtcihleahjnpaaaaGreatDoor.H
open Go.RowKit Go.Proofs.YtcihleahjnpaaaaGreatDoor.P Go.Proofs.YtcihleahjnpaaaaGreatDoor.T Go.Proofs.YtcihleahjnpaaaaGreatDoorW.PrintWords Go.Proofs.YtcihleahjnpaaaaGreatDoorW.PrintLast Go.Proofs.YtcihleahjnpaaaaGreatDoorW.PrintMore
set_option linter.unusedVariables false
set_option linter.unusedSimpArgs false
def besideS (l : List AR) : V × Int :=
  let x := thingS l 0 0
  let k := listS l x.2.1 x.2.2
  let o := listS l k.2.1 k.2.2
  let p := placeS x.1 k.1 1
  (if p = 0 ∨ (o.1.length : Int) < p then eV 6 else o.1.getD (p - 1).toNat zV, o.2.2)
set_option maxHeartbeats 2000000 in
set_option maxRecDepth 100000 in
theorem look_rd {w0 w : World} {g : Nat} {A : Option Addr} {c : Nat} {l : List AR} (hc : Cx w0 g A l) (h : Rd w0 w g A c l 0 0) :
    Calls Tryz.prog 59 #[.pointer (some ⟨g, 0, none⟩)] w fun e w' => e = .returned (vv (besideS l).1) ∧ w.grownBy w' (some g) ∧ ∃ j, Rd w0 w' g A c l j (besideS l).2 := by
  have hne := h.ne
  have hlen := fun i f => listS_len l i f hc.ok
  unfold besideS
  simp only
  have HT := fun (W : World) (h : Rd w0 W g A c l 0 0) => thing_rd hc h
  generalize thingS l 0 0 = x at *
  obtain ⟨x, i1, f1⟩ := x
  have HL := fun (W : World) (h : Rd w0 W g A c l i1 f1) => list_rd hc h
  simp only at HT ⊢
  have hlen1 := hlen i1 f1
  generalize listS l i1 f1 = k at *
  obtain ⟨k, i2, f2⟩ := k
  have HN := fun (W : World) (h : Rd w0 W g A c l i2 f2) => list_rd hc h
  simp only at HL hlen1 ⊢
  have hlen2 := hlen i2 f2
  generalize listS l i2 f2 = m at *
  obtain ⟨m, i3, f3⟩ := m
  simp only at HN hlen2 ⊢
  have hp := placeS_le x k 1
  have HT := Lib.hid HT
  have HL := Lib.hid HL
  have HN := Lib.hid HN
  have HC := Lib.hid hc
  have HD := Lib.hid h
  clear hc h hlen
  generalize hE : (if placeS x k 1 = 0 ∨ (m.length : Int) < placeS x k 1 then eV 6 else m.getD (placeS x k 1 - 1).toNat zV) = E
  go_enter Tryz.func59, Tryz.ntmps59
  go_wp2_with (fail)
  have HA0 := Lib.hid (gr_alloc (gr_refl w none) (.cells #[.int .i64 0, .int .i64 0, .string ⟨#[]⟩, .bool false, .int .i64 0] 29))
  refine (HT.out _ (HD.out.grow HC.out HA0.out)).mono ?_
  rintro y w2 ⟨rfl, h2, h3⟩
  have HG := Lib.hid (gr_then (gr_alloc (gr_refl w (some g)) _) h2)
  have HX := Lib.hid h2
  have HR := Lib.hid h3
  clear h2 h3
  unfold vv
  go_wp2_with (fail)
  refine (HL.out _ HR.out).mono ?_
  rintro y w3 ⟨A', c', rfl, hcc, hK, h4, h5⟩
  have HG3 := Lib.hid (gr_then HG.out h4)
  have HX3 := Lib.hid (gr_then HX.out h4)
  have HR3 := Lib.hid h5
  have HK := Lib.hid hK
  clear h4 h5 hK
  go_wp2_with (fail)
  refine (HN.out _ HR3.out).mono ?_
  rintro y w4 ⟨A2, c2, rfl, hcc2, hK2, h4, h5⟩
  have HG4 := Lib.hid (gr_then HG3.out h4)
  have HX4 := Lib.hid (gr_then HX3.out h4)
  have HR4 := Lib.hid h5
  have HK2 := Lib.hid hK2
  clear h4 h5 hK2
  go_wp2_with (fail)
  refine (place_any x A' c' k 1 _ ((HR4.out.grow HC.out (gr_alloc (gr_refl w4 none) _)).reads HK.out) hcc hlen1).mono ?_
  rintro y w6 ⟨rfl, h6⟩
  have HR6 := Lib.hid (HR4.out.grow HC.out (gr_then (gr_alloc (gr_refl w4 none) _) (gr_of_below h6 none)))
  have HG6 := Lib.hid (gr_then (gr_alloc HG4.out _) (gr_of_below h6 (some g)))
  have HX6 := Lib.hid (gr_then (gr_alloc HX4.out _) (gr_of_below h6 (some g)))
  clear h6
  have hne1 : ¬ w.heap.size = g := hne
  by_cases hz : placeS x k 1 = 0
  · rw [if_pos (.inl hz)] at hE
    subst hE
    have hz1 : (placeS x k 1 == 0) = true := by simpa using hz
    go_wp2_with (fail)
    refine (e_any _ 6).mono ?_
    rintro y w7 ⟨rfl, h7⟩
    obtain ⟨z0, z1, z2, z3, z4, y0, y1, y2, y3, y4⟩ := loc5 (gr_then HX6.out (gr_of_below h7 (some g))) hne
    have HR7 := Lib.hid (HR6.out.grow HC.out (gr_of_below h7 none))
    have HG7 := Lib.hid (gr_then HG6.out (gr_of_below h7 (some g)))
    clear h7
    generalize hv : eV 6 = v at *
    have HV := Lib.hid hv
    clear hv
    unfold vv
    go_wp2_with (fail)
    have HE := end5 HD.out HC.out HG7.out HR7.out (.int .i64 v.f0) (.int .i64 v.f1) (.string v.f2) (.bool v.f3) (.int .i64 v.f4)
    refine bodyPost_ret (v := vv v) (by simp [results, Tryz.results59, go_sem, vv, z0, z1, z2, z3, z4]) rfl ⟨by rw [HV.out], HE.1, _, HE.2⟩
  · have hz1 : (placeS x k 1 == 0) = false := by simpa using hz
    by_cases hm : (m.length : Int) < placeS x k 1
    · rw [if_pos (.inr hm)] at hE
      subst hE
      have hm1 : decide ((m.length : Int) < placeS x k 1) = true := by simpa using hm
      go_wp2_with (fail)
      refine (e_any _ 6).mono ?_
      rintro y w7 ⟨rfl, h7⟩
      obtain ⟨z0, z1, z2, z3, z4, y0, y1, y2, y3, y4⟩ := loc5 (gr_then HX6.out (gr_of_below h7 (some g))) hne
      have HR7 := Lib.hid (HR6.out.grow HC.out (gr_of_below h7 none))
      have HG7 := Lib.hid (gr_then HG6.out (gr_of_below h7 (some g)))
      clear h7
      generalize hv : eV 6 = v at *
      have HV := Lib.hid hv
      clear hv
      unfold vv
      go_wp2_with (fail)
      have HE := end5 HD.out HC.out HG7.out HR7.out (.int .i64 v.f0) (.int .i64 v.f1) (.string v.f2) (.bool v.f3) (.int .i64 v.f4)
      refine bodyPost_ret (v := vv v) (by simp [results, Tryz.results59, go_sem, vv, z0, z1, z2, z3, z4]) rfl ⟨by rw [HV.out], HE.1, _, HE.2⟩
    · rw [if_neg (fun h => h.elim hz hm)] at hE
      subst hE
      have hm1 : decide ((m.length : Int) < placeS x k 1) = false := by simpa using hm
      obtain ⟨p, hpp⟩ : ∃ p : Nat, placeS x k 1 = ((p + 1 : Nat) : Int) := ⟨(placeS x k 1 - 1).toNat, by omega⟩
      rw [hpp] at hz1 hm1 hm hp ⊢
      have hpm : p < m.length := by omega
      have hgd : m.getD (((p + 1 : Nat) : Int) - 1).toNat zV = m[p] := by
        rw [show (((p + 1 : Nat) : Int) - 1).toNat = p by omega]
        simp [List.getD, hpm]
      obtain ⟨ad, rfl, hb, q0, q1, q2, q3, q4⟩ := val_cells HK2.out HR6.out.b p hpm
      have hw : wrap64 (((p + 1 : Nat) : Int) - 1) = (p : Int) := by unfold wrap64; omega
      obtain ⟨z0, z1, z2, z3, z4, y0, y1, y2, y3, y4⟩ := loc5 HX6.out hne
      have HV := Lib.hid hgd
      clear hgd
      generalize m[p] = v at *
      have hz2 : ((p : Int) + 1 == 0) = false := by simp; omega
      have hz3 : ¬ ((p : Int) + 1 = 0) := by omega
      have hm2 : decide ((m.length : Int) < (p : Int) + 1) = false := by simp; omega
      have hm3 : ¬ ((m.length : Int) < (p : Int) + 1) := by omega
      go_wp2_with (fail)
      have HE := end5 HD.out HC.out HG6.out HR6.out (.int .i64 v.f0) (.int .i64 v.f1) (.string v.f2) (.bool v.f3) (.int .i64 v.f4)
      refine bodyPost_ret (v := vv v) (by simp [results, Tryz.results59, go_sem, vv, z0, z1, z2, z3, z4]) rfl ⟨by rw [hpp, HV.out], HE.1, _, HE.2⟩
end Go.Proofs.YtcihleahjnpaaaaGreatDoor.H
namespace Go.Proofs.YtcihleahjnpaaaaGreatDoor.H
open Go.RowKit Go.Proofs.YtcihleahjnpaaaaGreatDoor.P Go.Proofs.YtcihleahjnpaaaaGreatDoor.T Go.Proofs.YtcihleahjnpaaaaGreatDoorW.PrintWords Go.Proofs.YtcihleahjnpaaaaGreatDoorW.PrintLast Go.Proofs.YtcihleahjnpaaaaGreatDoorW.PrintMore
set_option linter.unusedVariables false
set_option linter.unusedSimpArgs false
theorem unfrozen {w : World} {b i : Nat} {cs : Array Value} {T : Nat} (h : w.heap[b]? = some (.cells cs T (0, 0))) : w.frozen? ⟨b, i, none⟩ = false := by simp [World.frozen?, h]
def chooseS (l : List AR) : V × Int :=
  let k := countS 0 l 0 0
  (if 1 ≤ k.1 ∧ k.1 ≤ (l.length : Int) - k.2.2.1 then
    let x := thingS [l.getD (k.2.2.1 + (k.1 - 1).toNat) noArg] 0 0
    if x.2.2 = 0 then x.1 else eV x.2.2
  else eV 3, k.2.2.2)
set_option maxHeartbeats 2000000 in
set_option maxRecDepth 100000 in
theorem choose_rd {w0 w : World} {g : Nat} {A : Option Addr} {c : Nat} {l : List AR} (hc : Cx w0 g A l) (h : Rd w0 w g A c l 0 0) (hcap : l.length ≤ c) :
    Calls Tryz.prog 60 #[.pointer (some ⟨g, 0, none⟩)] w fun e w' => e = .returned (vv (chooseS l).1) ∧ w.grownBy w' (some g) ∧ ∃ j, Rd w0 w' g A c l j (chooseS l).2 := by
  have hne := h.ne
  unfold chooseS
  simp only
  have HT := fun (W : World) (h : Rd w0 W g A c l 0 0) => count_rd 0 hc h
  generalize countS 0 l 0 0 = k at *
  obtain ⟨k, b, i1, f1⟩ := k
  simp only at HT ⊢
  have HT := Lib.hid HT
  have HC := Lib.hid hc
  have HD := Lib.hid h
  clear hc h
  generalize hE : (if 1 ≤ k ∧ k ≤ (l.length : Int) - i1 then
    if (thingS [l.getD (i1 + (k - 1).toNat) noArg] 0 0).2.2 = 0 then (thingS [l.getD (i1 + (k - 1).toNat) noArg] 0 0).1 else eV (thingS [l.getD (i1 + (k - 1).toNat) noArg] 0 0).2.2
  else eV 3) = E
  go_enter Tryz.func60, Tryz.ntmps60
  go_wp2_with (fail)
  have HA0 := Lib.hid (gr_alloc (gr_refl w none) (.cells #[.int .i64 0, .int .i64 0, .string ⟨#[]⟩, .bool false, .int .i64 0] 29))
  refine (HT.out _ (HD.out.grow HC.out HA0.out)).mono ?_
  rintro y w2 ⟨rfl, h2, h3⟩
  have HG := Lib.hid (gr_then (gr_alloc (gr_refl w (some g)) _) h2)
  have HX := Lib.hid h2
  have HR := Lib.hid h3
  obtain ⟨a0, a1, a2, b0, b1, b2, hlt⟩ := h3.r
  have hi := h3.hi
  have hl0 : (0 : Int) ≤ (i1 : Int) := by omega
  have hl1 : (i1 : Int) ≤ (l.length : Int) := by omega
  clear h2 h3
  go_wp2_with (fail)
  have hcl : (l.length : Int) ≤ c := by omega
  have hcc : Kd.C kA w0 (if c = i1 then A else Option.map (fun x => x.add (i1 * 3)) A) (l.drop i1).length (l.drop i1) := Kd.C_drop HC.out.hr hi hcap
  go_region
  have HG6 := Lib.hid (show w.grownBy w2.drew (some g) from gr_drewN HG.out 1)
  have HX6 := Lib.hid (show (w.alloc (.cells #[.int .i64 0, .int .i64 0, .string ⟨#[]⟩, .bool false, .int .i64 0] 29)).grownBy w2.drew (some g) from gr_drewN HX.out 1)
  have HR6 := Lib.hid (show Rd w0 w2.drew g A c l i1 f1 from HR.out.grow HC.out (gr_drewN (gr_refl w2 none) 1))
  have hne1 : ¬ w.heap.size = g := hne
  clear a0 a1 a2 b0 b1 b2 HG HX HR HT
  have hlen : l.length - i1 = (l.drop i1).length := by simp
  have hlenI : (l.length : Int) - i1 = ((l.drop i1).length : Int) := by simp; omega
  have hget : ∀ n, l.getD (i1 + n) noArg = (l.drop i1).getD n noArg := fun n => by simp [List.getD]
  rw [hlenI] at hE
  simp only [hget] at hE
  rw [hlen]
  have hcap2 : (l.drop i1).length ≤ c - i1 := by simp; omega
  have hl2 : (l.drop i1).length ≤ 4096 := by have := HC.out.hl; simp; omega
  have hok2 : ∀ a ∈ l.drop i1, okA a = true := fun a ha => HC.out.ok a (List.mem_of_mem_drop ha)
  clear hget hlen hlenI hcl hcap
  generalize (if c = i1 then A else Option.map (fun x => x.add (i1 * 3)) A) = A2 at *
  generalize l.drop i1 = R at *
  generalize c - i1 = c2 at *
  generalize w2.drew = w3 at *
  by_cases h1 : 1 ≤ k
  · by_cases h2 : k ≤ (R.length : Int)
    · rw [if_pos ⟨h1, h2⟩] at hE
      obtain ⟨p, rfl⟩ : ∃ p : Nat, k = ((p + 1 : Nat) : Int) := ⟨(k - 1).toNat, by omega⟩
      have hp : p < R.length := by omega
      rw [show (((p + 1 : Nat) : Int) - 1).toNat = p by omega] at hE
      have hgd : R.getD p noArg = R[p] := by simp [List.getD, hp]
      rw [hgd] at hE
      have hmid : Kd.C kA w0 (if c2 = p then A2 else Option.map (fun x => x.add (p * 3)) A2) ((R.take (p + 1)).drop p).length ((R.take (p + 1)).drop p) := Kd.C_mid (lo := p) (hi := p + 1) hcc (by omega) (by omega) hcap2
      have hone : (R.take (p + 1)).drop p = [R[p]] := by
        rw [List.take_succ_eq_append_getElem hp, List.drop_append_of_le_length (by simp; omega)]
        simp
      rw [hone, if_neg (by omega)] at hmid
      have hoka := hok2 R[p] (List.getElem_mem hp)
      generalize R[p] = a at *
      have t1 : ¬ ((p + 1 : Nat) : Int) < 1 := by omega
      have t2 : decide (((p : Int) + 1) < 1) = false := by simp; omega
      have t3 : decide ((R.length : Int) < ((p : Int) + 1)) = false := by simp; omega
      have t4 : wrap64 (((p + 1 : Nat) : Int) - 1) = (p : Int) := by unfold wrap64; omega
      have hb0 := HR6.out.b.size
      have hC2 : Cx w0 w3.heap.size (Option.map (fun x => x.add (p * 3)) A2) [a] := ⟨hmid, hb0, by simp, fun b hb => by rw [List.mem_singleton] at hb; rw [hb]; exact hoka⟩
      have hY : (w3.alloc (.cells #[.slice (Option.map (fun x => x.add (p * 3)) A2) 1 (c2 - p), .int .i64 0, .int .i64 0] 87)).heap[w3.heap.size]? = some (.cells #[.slice (Option.map (fun x => x.add (p * 3)) A2) 1 (c2 - p), .int .i64 0, .int .i64 0] 87 (0, 0)) := heap_alloc_new w3 _
      have hD2 : Rd w0 (w3.alloc (.cells #[.slice (Option.map (fun x => x.add (p * 3)) A2) 1 (c2 - p), .int .i64 0, .int .i64 0] 87)) w3.heap.size (Option.map (fun x => x.add (p * 3)) A2) (c2 - p) [a] 0 0 :=
        ⟨HR6.out.b.grown (gr_alloc (gr_refl w3 none) _) hb0 (fun _ e => by cases e), ⟨cell_of_row _ _ 0 _ _ _ hY, cell_of_row _ _ 1 _ _ _ hY, cell_of_row _ _ 2 _ _ _ hY, unfrozen hY, unfrozen hY, unfrozen hY, by simp⟩, by simp⟩
      have HT2 := Lib.hid (thing_rd hC2 hD2)
      have hne6 := HR6.out.ne
      clear hY hC2 hD2 hmid hone hcc
      go_wp2_with (fail)
      refine HT2.out.mono ?_
      rintro y w5 ⟨rfl, h3, h4⟩
      have hfr : w3.grownBy w5 none := ⟨h3.os, h3.tape, h3.output, Nat.le_trans (by simp) h3.size, fun i hi _ => (h3.block i (by simp; omega) (by simp; omega)).trans (Below.heap_alloc w3 _ i hi)⟩
      have hfr2 : w3.grownBy w5 (some g) := ⟨hfr.os, hfr.tape, hfr.output, hfr.size, fun i hi _ => hfr.block i hi (by simp)⟩
      have HX8 := Lib.hid (gr_then HX6.out hfr2)
      have HG8 := Lib.hid (gr_then HG6.out hfr2)
      have HR8 := Lib.hid (HR6.out.grow HC.out hfr)
      obtain ⟨q0, q1, q2, v0, v1, v2, hq⟩ := h4.r
      clear h3 h4 hfr hfr2
      generalize hx : thingS [a] 0 0 = x at *
      obtain ⟨x, j, e⟩ := x
      simp only at q0 q1 q2 hE ⊢
      have HX9 := Lib.hid (gr_alloc HX8.out (.cells #[.int .i64 x.f0, .int .i64 x.f1, .string x.f2, .bool x.f3, .int .i64 x.f4] 29))
      have HG9 := Lib.hid (gr_alloc HG8.out (.cells #[.int .i64 x.f0, .int .i64 x.f1, .string x.f2, .bool x.f3, .int .i64 x.f4] 29))
      have HR9 := Lib.hid (HR8.out.grow HC.out (gr_alloc (gr_refl w5 none) (.cells #[.int .i64 x.f0, .int .i64 x.f1, .string x.f2, .bool x.f3, .int .i64 x.f4] 29)))
      obtain ⟨z0, z1, z2, z3, z4, y0, y1, y2, y3, y4⟩ := loc5 HX9.out hne
      by_cases he : e = 0
      · rw [if_pos he] at hE
        have he1 : (e == 0) = true := by simpa using he
        unfold vv
        subst hE
        go_wp2_with (fail)
        have HE := end5 HD.out HC.out HG9.out HR9.out (.int .i64 x.f0) (.int .i64 x.f1) (.string x.f2) (.bool x.f3) (.int .i64 x.f4)
        refine bodyPost_ret (v := vv x) (by simp [results, Tryz.results60, go_sem, vv, z0, z1, z2, z3, z4]) rfl ⟨rfl, HE.1, _, HE.2⟩
      · rw [if_neg he] at hE
        subst hE
        have he1 : (e == 0) = false := by simpa using he
        unfold vv
        go_wp2_with (fail)
        refine (e_any _ e).mono ?_
        rintro y w7 ⟨rfl, h7⟩
        obtain ⟨z0, z1, z2, z3, z4, y0, y1, y2, y3, y4⟩ := loc5 (gr_then HX9.out (gr_of_below h7 (some g))) hne
        have HR7 := Lib.hid (HR9.out.grow HC.out (gr_of_below h7 none))
        have HG7 := Lib.hid (gr_then HG9.out (gr_of_below h7 (some g)))
        clear h7
        generalize hv : eV e = v at *
        have HV := Lib.hid hv
        clear hv
        unfold vv
        go_wp2_with (fail)
        have HE := end5 HD.out HC.out HG7.out HR7.out (.int .i64 v.f0) (.int .i64 v.f1) (.string v.f2) (.bool v.f3) (.int .i64 v.f4)
        refine bodyPost_ret (v := vv v) (by simp [results, Tryz.results60, go_sem, vv, z0, z1, z2, z3, z4]) rfl ⟨by rw [HV.out], HE.1, _, HE.2⟩
    · rw [if_neg (fun h => h2 h.2)] at hE
      subst hE
      have t1 : decide (k < 1) = false := by simp; omega
      have t2 : decide ((R.length : Int) < k) = true := by simp; omega
      go_wp2_with (fail)
      refine (e_any _ 3).mono ?_
      rintro y w7 ⟨rfl, h7⟩
      obtain ⟨z0, z1, z2, z3, z4, y0, y1, y2, y3, y4⟩ := loc5 (gr_then HX6.out (gr_of_below h7 (some g))) hne
      have HR7 := Lib.hid (HR6.out.grow HC.out (gr_of_below h7 none))
      have HG7 := Lib.hid (gr_then HG6.out (gr_of_below h7 (some g)))
      clear h7
      generalize hv : eV 3 = v at *
      have HV := Lib.hid hv
      clear hv
      unfold vv
      go_wp2_with (fail)
      have HE := end5 HD.out HC.out HG7.out HR7.out (.int .i64 v.f0) (.int .i64 v.f1) (.string v.f2) (.bool v.f3) (.int .i64 v.f4)
      refine bodyPost_ret (v := vv v) (by simp [results, Tryz.results60, go_sem, vv, z0, z1, z2, z3, z4]) rfl ⟨by rw [HV.out], HE.1, _, HE.2⟩
  · rw [if_neg (fun h => h1 h.1)] at hE
    subst hE
    have t1 : decide (k < 1) = true := by simp; omega
    go_wp2_with (fail)
    refine (e_any _ 3).mono ?_
    rintro y w7 ⟨rfl, h7⟩
    obtain ⟨z0, z1, z2, z3, z4, y0, y1, y2, y3, y4⟩ := loc5 (gr_then HX6.out (gr_of_below h7 (some g))) hne
    have HR7 := Lib.hid (HR6.out.grow HC.out (gr_of_below h7 none))
    have HG7 := Lib.hid (gr_then HG6.out (gr_of_below h7 (some g)))
    clear h7
    generalize hv : eV 3 = v at *
    have HV := Lib.hid hv
    clear hv
    unfold vv
    go_wp2_with (fail)
    have HE := end5 HD.out HC.out HG7.out HR7.out (.int .i64 v.f0) (.int .i64 v.f1) (.string v.f2) (.bool v.f3) (.int .i64 v.f4)
    refine bodyPost_ret (v := vv v) (by simp [results, Tryz.results60, go_sem, vv, z0, z1, z2, z3, z4]) rfl ⟨by rw [HV.out], HE.1, _, HE.2⟩
end Go.Proofs.YtcihleahjnpaaaaGreatDoor.H
namespace Go.Proofs.YtcihleahjnpaaaaGreatDoor.H
open Go.RowKit Go.Proofs.YtcihleahjnpaaaaGreatDoorW.PrintWords Go.Proofs.YtcihleahjnpaaaaGreatDoorW.PrintLast Go.Proofs.YtcihleahjnpaaaaGreatDoorW.PrintMore
set_option linter.unusedVariables false
set_option linter.unusedSimpArgs false
section
variable {P : Program} {ops : Array Oper} {rest : List Oper} {o : Oper} {a : Act} {Q : Exit → Act → World → Prop} {α : Type} {W : World} {Kc : Act → World → Prop}
theorem R_of_made (d : Kd α) (base e : Nat) {xs : List α} {inner : List Value} {ok okp : Nat → Prop} (hrep : Reps (d.M W base okp) d.sz xs inner) (hok : ∀ k, okp k → ok k) (hfresh : ok W.heap.size) (hbase : base ≤ W.heap.size) (hm : xs.length ≤ 9223372036854775807) :
    d.R e (W.alloc (.cells inner.toArray e)) base ok (.slice (some ⟨W.heap.size, 0, none⟩) xs.length xs.length) xs := by
  refine ⟨fun k hk => ?_, inner, ?_, ?_⟩
  · have : W.heap.size = k := by simpa [Value.ownBlock] using hk
    subst this
    exact hfresh
  · have h2 := World.ownsRow_lit (base := base) (e := e) (size := d.sz) W inner.toArray xs.length hbase (by simpa [maxLen] using hm) (by simpa using hrep.1)
    simpa using h2
  · refine hrep.imp_ (fun p c hp => d.M_mono (fun k hk => ⟨hok k hk.1, fun he => ?_⟩) (Kd.M_below (d.M_bound hp) (below_alloc (Below.refl _ _) _)))
    have h3 : k = W.heap.size := by simpa [Value.ownBlock] using he
    have := hk.2.2.1
    omega
theorem R_make0_step (d : Kd α) {w0 W : World} (base e : Nat) (hw : Region.wanted o (yielded ops a.tmps) = true) {N : Tmp} (hd : o.dst = some N) (t : TypeId) (x y : Operand) (ho : o.op = .makeSlice t x y) (n : Int) (hx : a.eval x = .int .i64 0) (hy : a.eval y = .int .i64 n)
    (ht : P.underlying t = some (.slice e)) (z : Value) (bytes : Nat) (hinfo : (P.info? e).map (fun i => (i.zero, i.size, i.bytes)) = some (some z, d.sz, bytes)) (hz : z.cells.size = d.sz) (hs0 : 0 < d.sz) (hb0 : 0 < bytes)
    (z0 : α) {ok okp : Nat → Prop} (hzero : d.M W base okp z0 z.cells.toList) (hok : ∀ k, okp k → ok k) (hfresh : ok W.heap.size) (h0 : 0 ≤ n) (hl : n.toNat * bytes ≤ 281474976710656) (HB : Below base w0 W) (hbase : base ≤ W.heap.size)
    (h : ∀ v1 w1, d.R e w1 base ok v1 (List.replicate 0 z0) → Below base w0 w1 → W.grownBy w1 none → (∃ b, v1.ownBlock = some b ∧ W.heap.size ≤ b) → Kc (a.put o.dst v1) w1) : if Region.wanted o (yielded ops a.tmps) = true then Oper.wp P o a W Kc Q else Kc (a.put o.dst undef) W := by
  obtain ⟨m, rfl⟩ := Int.eq_ofNat_of_zero_le h0
  simp only [Int.toNat_natCast] at hl
  obtain ⟨i0, hi, hzz⟩ := Option.map_eq_some_iff.1 hinfo
  simp only [Prod.mk.injEq] at hzz
  obtain ⟨hz0, hz1, hz2⟩ := hzz
  have hm : m ≤ 281474976710656 := Nat.le_trans (Nat.le_mul_of_pos_right _ hb0) hl
  have hr := run_make (P := P) W t e i0 z ht hi hz0 .i64 .i64 0 (m : Int) (by omega) (by omega)
    (by
      have h3 : ((i0.bytes * m : Nat) : Int) ≤ 281474976710656 := by rw [hz2, Nat.mul_comm]; omega
      rwa [Int.natCast_mul] at h3) (by omega)
  simp only [Int.toNat_natCast] at hr
  rw [hz1] at hr
  have hR := R_of_made (W := W) d base e (xs := List.replicate m z0) (inner := (madeCells z.cells (m * d.sz)).toList) (okp := okp) (ok := ok) (Kd.reps_made hz hs0 hzero m) hok hfresh hbase (by simp; omega)
  have hT := Kd.R_take (m := 0) hR (Nat.zero_le _)
  refine event_step hw (W := W) (v := .slice (some ⟨W.heap.size, 0, none⟩) 0 m) (w1 := W.alloc (.cells (madeCells z.cells (m * d.sz)) e)) ?_ (h _ _ (by simpa using hT) (HB.alloc hbase _) (World.grownBy_alloc W _ none) ⟨W.heap.size, by simp [Value.ownBlock], Nat.le_refl _⟩)
  simp [execOp, ho, hx, hy, hr]
end
end Go.Proofs.YtcihleahjnpaaaaGreatDoor.H
