/- Texts of this claim, put together by a program of this session: Px14, Px71, Px72, Px73, Px74, Place. -/
import Derived.Test.YtcihleahjnpaaaaGreatDoorC5
namespace Go.Proofs.YtcihleahjnpaaaaGreatDoor.P
open Go.RowKit Go.Proofs.YtcihleahjnpaaaaGreatDoor.Q Go.Proofs.YtcihleahjnpaaaaGreatDoor.H Go.Proofs.YtcihleahjnpaaaaGreatDoorW.PrintWords Go.Proofs.YtcihleahjnpaaaaGreatDoorW.PrintLast Go.Proofs.YtcihleahjnpaaaaGreatDoorW.PrintMore
attribute [local go_sem] max2_int min2_int max_two min_two max_three min_three max_four min_four   -- for this text's walks alone
set_option linter.unusedVariables false
set_option linter.unusedSimpArgs false
mutual
def looks_Place.j0 : Nat → List (S29) → Int → Bool → Int → Int → ByteArray → Bool → Int → Option (Int)
 | 0, _, _, _, _, _, _, _, _ => none
 | k + 1, x1, x2, x19, x181000, x181001, x181002, x181003, x181004 => if x19 = true then (some 0) else (looks_Place.l0 k x2 0 x1 (x1.length : Int) 0 x181000 x181001 x181002 x181003 x181004)
def looks_Place.l0 : Nat → Int → Int → List (S29) → Int → Int → Int → Int → ByteArray → Bool → Int → Option (Int)
 | 0, _, _, _, _, _, _, _, _, _, _ => none
 | k + 1, x2, x7, x20, x21, x22, x181000, x181001, x181002, x181003, x181004 => if x22 < x21 then (if 0 ≤ x22 then (if x22 < (x20.length : Int) then ((value_Order.f ((rd_T29 x20 x22).f0) ((rd_T29 x20 x22).f1) ((rd_T29 x20 x22).f2) ((rd_T29 x20 x22).f3) ((rd_T29 x20 x22).f4) x181000 x181001 x181002 x181003 x181004).bind fun bt184 => (if ((rd_T29 x20 x22).f0) = x181000 then (looks_Place.j2 k x2 x7 x22 bt184.1 x20 x21 x22 (bt184.2 != 0) x181000 x181001 x181002 x181003 x181004) else (looks_Place.j2 k x2 x7 x22 bt184.1 x20 x21 x22 true x181000 x181001 x181002 x181003 x181004))) else (none)) else (none)) else (some x7)
def looks_Place.j2 : Nat → Int → Int → Int → Int → List (S29) → Int → Int → Bool → Int → Int → ByteArray → Bool → Int → Option (Int)
 | 0, _, _, _, _, _, _, _, _, _, _, _, _, _ => none
 | k + 1, x2, x7, x8, x10, x20, x21, x22, x33, x181000, x181001, x181002, x181003, x181004 => if x33 = true then (looks_Place.l0 k x2 x7 x20 x21 (wrap64 (x22 + 1)) x181000 x181001 x181002 x181003 x181004) else (if x2 = 0 then (looks_Place.j3 k x2 x7 x8 x10 x20 x21 x22 (x10 == 0) x181000 x181001 x181002 x181003 x181004) else (looks_Place.j3 k x2 x7 x8 x10 x20 x21 x22 false x181000 x181001 x181002 x181003 x181004))
def looks_Place.j3 : Nat → Int → Int → Int → Int → List (S29) → Int → Int → Bool → Int → Int → ByteArray → Bool → Int → Option (Int)
 | 0, _, _, _, _, _, _, _, _, _, _, _, _, _ => none
 | k + 1, x2, x7, x8, x10, x20, x21, x22, x43, x181000, x181001, x181002, x181003, x181004 => if x43 = true then (some (wrap64 (x8 + 1))) else (if x2 > 0 then (looks_Place.j4 k x2 x7 x8 x10 x20 x21 x22 (decide (x10 ≤ 0)) x181000 x181001 x181002 x181003 x181004) else (looks_Place.j4 k x2 x7 x8 x10 x20 x21 x22 false x181000 x181001 x181002 x181003 x181004))
def looks_Place.j4 : Nat → Int → Int → Int → Int → List (S29) → Int → Int → Bool → Int → Int → ByteArray → Bool → Int → Option (Int)
 | 0, _, _, _, _, _, _, _, _, _, _, _, _, _ => none
 | k + 1, x2, x7, x8, x10, x20, x21, x22, x52, x181000, x181001, x181002, x181003, x181004 => if x52 = true then (looks_Place.l0 k x2 (wrap64 (x8 + 1)) x20 x21 (wrap64 (x22 + 1)) x181000 x181001 x181002 x181003 x181004) else (if x2 < 0 then (if x10 ≥ 0 then (looks_Place.l0 k x2 (wrap64 (x8 + 1)) x20 x21 (wrap64 (x22 + 1)) x181000 x181001 x181002 x181003 x181004) else (looks_Place.l0 k x2 x7 x20 x21 (wrap64 (x22 + 1)) x181000 x181001 x181002 x181003 x181004)) else (looks_Place.l0 k x2 x7 x20 x21 (wrap64 (x22 + 1)) x181000 x181001 x181002 x181003 x181004))
end
def looks_Place.f (k : Nat) (a0_0 : Int) (a0_1 : Int) (a0_2 : ByteArray) (a0_3 : Bool) (a0_4 : Int) (l1 : List (S29)) (a2 : Int) : Option (Int) := (value_Value_Good.f k a0_0 a0_1 a0_2 a0_3 a0_4).bind fun t181 => (if t181 = true then (looks_Place.j0 k l1 a2 (a0_0 == 4) a0_0 a0_1 a0_2 a0_3 a0_4) else (looks_Place.j0 k l1 a2 true a0_0 a0_1 a0_2 a0_3 a0_4))
set_option maxHeartbeats 8000000 in
set_option maxRecDepth 100000 in
theorem looks_Place.calls (k : Nat) (a0_0 : Int) (a0_1 : Int) (a0_2 : ByteArray) (a0_3 : Bool) (a0_4 : Int) (A1 : Option Addr) (c1 : Nat) (l1 : List (S29)) (a2 : Int) (r : Int) (w : World) (hr1 : Kd.C k29 w A1 l1.length l1) (hc1 : l1.length ≤ c1) (h : looks_Place.f k a0_0 a0_1 a0_2 a0_3 a0_4 l1 a2 = some r) :
  Calls Tryz.prog 10 #[.agg #[.int .i64 a0_0, .int .i64 a0_1, .string a0_2, .bool a0_3, .int .i64 a0_4], .slice A1 l1.length c1, .int .i64 a2] w fun e w' => e = .returned (.int .i64 r) ∧ Below w.heap.size w w' := by
 have hu29 := Tryz.underlying29
 have HR1 := Aside0.mk hr1
 have HC1 := Aside0.mk hc1
 clear hr1 hc1
 have HB := Aside0.mk (Below.refl w.heap.size w)
 have H : ((value_Value_Good.f k a0_0 a0_1 a0_2 a0_3 a0_4).bind fun t181 => (if t181 = true then (looks_Place.j0 k l1 a2 (a0_0 == 4) a0_0 a0_1 a0_2 a0_3 a0_4) else (looks_Place.j0 k l1 a2 true a0_0 a0_1 a0_2 a0_3 a0_4))) = some r := h
 clear h
 have HC4 := Aside0.mk H
 clear H
 go_enter Tryz.func10, Tryz.ntmps10
 go_upto_region 1 with (first | ((with_reducible refine gate_dst (N := 3) rfl ?_); refine bx (N := 3) (cs := #[.int .i64 a0_0, .int .i64 a0_1, .string a0_2, .bool a0_3, .int .i64 a0_4]) (t := 29) ?_; intro gb180 hg w5 hbox hb; have BK180 := Aside0.mk (hbox); have GW180 := (bw hg); have GE180 := (bw hg); replace HB := (bs hb); clear hb hbox hg))
 (try simp only [Act.put, List.setIfInBounds_toArray, List.set_cons_zero, List.set_cons_succ])
 go_cut [19] (fun v19 wc => ∃ (kq : Nat) (x19_3 : Bool), v19 = .bool x19_3 ∧ Aside0 (looks_Place.j0 kq l1 a2 x19_3 a0_0 a0_1 a0_2 a0_3 a0_4 = some r) ∧ Aside0 (kq ≤ k) ∧ Aside0 (wc.heap[gb180]? = some (.cells #[.int .i64 a0_0, .int .i64 a0_1, .string a0_2, .bool a0_3, .int .i64 a0_4] 29 (0, 0))) ∧ Aside0 (Below w.heap.size w wc))
 case first =>
  have H := HC4.out
  clear HC4
  replace H := Option.bind_eq_some_iff.mp H
  obtain ⟨t181, A60, H⟩ := H
  replace H : (if t181 = true then (looks_Place.j0 k l1 a2 (a0_0 == 4) a0_0 a0_1 a0_2 a0_3 a0_4) else (looks_Place.j0 k l1 a2 true a0_0 a0_1 a0_2 a0_3 a0_4)) = some r := H
  have A6 := Aside0.mk A60
  clear A60
  by_cases c7 : t181 = true
  ·subst c7
   have H1 : (looks_Place.j0 k l1 a2 (a0_0 == 4) a0_0 a0_1 a0_2 a0_3 a0_4) = some r := by rw [if_pos rfl] at H; exact H
   clear H
   have H := H1
   clear H1
   have H' := Aside0.mk H
   clear H
   have hcz8_0 : w5.cell? ⟨gb180, 0, none⟩ = some (.int .i64 a0_0) := (blk_cell BK180.out 0).trans rfl
   have hcz8_1 : w5.cell? ⟨gb180, 1, none⟩ = some (.int .i64 a0_1) := (blk_cell BK180.out 1).trans rfl
   have hcz8_2 : w5.cell? ⟨gb180, 2, none⟩ = some (.string a0_2) := (blk_cell BK180.out 2).trans rfl
   have hcz8_3 : w5.cell? ⟨gb180, 3, none⟩ = some (.bool a0_3) := (blk_cell BK180.out 3).trans rfl
   have hcz8_4 : w5.cell? ⟨gb180, 4, none⟩ = some (.int .i64 a0_4) := (blk_cell BK180.out 4).trans rfl
   have hfz8_0 := blk_frozen BK180.out 0
   have hfz8_1 := blk_frozen BK180.out 1
   have hfz8_2 := blk_frozen BK180.out 2
   have hfz8_3 := blk_frozen BK180.out 3
   have hfz8_4 := blk_frozen BK180.out 4
   go_wp2_with (first | ((with_reducible refine gate_callee (f := 24) rfl ?_); refine gL (some 13) Tryz.func24 #[.agg #[.int .i64 a0_0, .int .i64 a0_1, .string a0_2, .bool a0_3, .int .i64 a0_4]] ?_; (with_reducible refine (value_Value_Good.calls k a0_0 a0_1 a0_2 a0_3 a0_4 true _ A6.out).mono ?_); rintro e w9 ⟨rfl, hb⟩; refine ⟨_, rfl, ?_⟩; replace BK180 := (bb BK180 hb); replace HB := (bs hb); (try clear hb); obtain ⟨hcz10_0, hcz10_1, hcz10_2, hcz10_3, hcz10_4, hfz10_0, hfz10_1, hfz10_2, hfz10_3, hfz10_4⟩ := bc5 BK180))
   go_meet
   case rel => exact ⟨_, ((a0_0 == 4)), (by first | rfl | (simp; done) | (simp [*]; done)), H', ⟨by first | omega | exact Nat.le_refl _⟩, ⟨by (with_reducible repeat (first | refine blk_drewN ?_ _ | refine blk_drew ?_ | refine blk_alloc ?_ _)); exact BK180.out⟩, ⟨by repeat (first | (with_reducible first | exact HB.out | apply below_alloc | apply pw_below_drewN | apply below_drew1 | refine below_set ?_ GE180.out) | exact HB.out)⟩⟩
  ·replace c7 := Bool.eq_false_iff.mpr c7
   subst c7
   have H1 : (looks_Place.j0 k l1 a2 true a0_0 a0_1 a0_2 a0_3 a0_4) = some r := by rw [if_neg (show ¬ (false = true) by decide)] at H; exact H
   clear H
   have H := H1
   clear H1
   have H' := Aside0.mk H
   clear H
   have hcz11_0 : w5.cell? ⟨gb180, 0, none⟩ = some (.int .i64 a0_0) := (blk_cell BK180.out 0).trans rfl
   have hcz11_1 : w5.cell? ⟨gb180, 1, none⟩ = some (.int .i64 a0_1) := (blk_cell BK180.out 1).trans rfl
   have hcz11_2 : w5.cell? ⟨gb180, 2, none⟩ = some (.string a0_2) := (blk_cell BK180.out 2).trans rfl
   have hcz11_3 : w5.cell? ⟨gb180, 3, none⟩ = some (.bool a0_3) := (blk_cell BK180.out 3).trans rfl
   have hcz11_4 : w5.cell? ⟨gb180, 4, none⟩ = some (.int .i64 a0_4) := (blk_cell BK180.out 4).trans rfl
   have hfz11_0 := blk_frozen BK180.out 0
   have hfz11_1 := blk_frozen BK180.out 1
   have hfz11_2 := blk_frozen BK180.out 2
   have hfz11_3 := blk_frozen BK180.out 3
   have hfz11_4 := blk_frozen BK180.out 4
   go_wp2_with (first | ((with_reducible refine gate_callee (f := 24) rfl ?_); refine gL (some 13) Tryz.func24 #[.agg #[.int .i64 a0_0, .int .i64 a0_1, .string a0_2, .bool a0_3, .int .i64 a0_4]] ?_; (with_reducible refine (value_Value_Good.calls k a0_0 a0_1 a0_2 a0_3 a0_4 false _ A6.out).mono ?_); rintro e w12 ⟨rfl, hb⟩; refine ⟨_, rfl, ?_⟩; replace BK180 := (bb BK180 hb); replace HB := (bs hb); (try clear hb)))
   go_meet
   case rel => exact ⟨_, (true), (by first | rfl | (simp; done) | (simp [*]; done)), H', ⟨by first | omega | exact Nat.le_refl _⟩, ⟨by (with_reducible repeat (first | refine blk_drewN ?_ _ | refine blk_drew ?_ | refine blk_alloc ?_ _)); exact BK180.out⟩, ⟨by repeat (first | (with_reducible first | exact HB.out | apply below_alloc | apply pw_below_drewN | apply below_drew1 | refine below_set ?_ GE180.out) | exact HB.out)⟩⟩
 case rest =>
  clear HC4
  try clear c1
  try clear c2
  try clear p2
  try clear c7
  try clear c10
  try clear hcz10_0
  try clear hcz10_1
  try clear hcz10_2
  try clear hcz10_3
  try clear hcz10_4
  try clear hcz11_0
  try clear hcz11_1
  try clear hcz11_2
  try clear hcz11_3
  try clear hcz11_4
  try clear hcz8_0
  try clear hcz8_1
  try clear hcz8_2
  try clear hcz8_3
  try clear hcz8_4
  try clear hfz10_0
  try clear hfz10_1
  try clear hfz10_2
  try clear hfz10_3
  try clear hfz10_4
  try clear hfz11_0
  try clear hfz11_1
  try clear hfz11_2
  try clear hfz11_3
  try clear hfz11_4
  try clear hfz8_0
  try clear hfz8_1
  try clear hfz8_2
  try clear hfz8_3
  try clear hfz8_4
  obtain ⟨kq, x19_3, rfl, HA, HJ3, BK180, HB⟩ := hcut
  cases kq with
  | zero => exact absurd HA.out (by simp [looks_Place.j0])
  | succ kj3 =>
   have H := HA.out
   clear HA
   simp only [looks_Place.j0] at H
   by_cases c13 : x19_3 = true
   ·subst c13
    have H1 : (some 0) = some r := by rw [if_pos rfl] at H; exact H
    clear H
    have H := H1
    clear H1
    obtain rfl := Option.some.inj H
    go_wp2
    go_ret
    exact ⟨by first | rfl | (simp [errW_none, errW_some] <;> rfl) | (simp [*, errW_none, errW_some] <;> rfl), be⟩
   ·replace c13 := Bool.eq_false_iff.mpr c13
    subst c13
    have H1 : (looks_Place.l0 kj3 a2 0 l1 (l1.length : Int) 0 a0_0 a0_1 a0_2 a0_3 a0_4) = some r := by rw [if_neg (show ¬ (false = true) by decide)] at H; exact H
    clear H
    have H := H1
    clear H1
    have H' := Aside0.mk H
    clear H
    go_wp2
    go_loopg [7, 22] kj3 (fun kq v7 v22 w' => ∃ (x7_2 : Int) (x22_2 : Int), v7 = .int .i64 x7_2 ∧ v22 = .int .i64 x22_2 ∧ Aside0 (looks_Place.l0 kq a2 x7_2 l1 (l1.length : Int) x22_2 a0_0 a0_1 a0_2 a0_3 a0_4 = some r) ∧ Aside0 (kq ≤ kj3) ∧ Aside0 (w'.heap[gb180]? = some (.cells #[.int .i64 a0_0, .int .i64 a0_1, .string a0_2, .bool a0_3, .int .i64 a0_4] 29 (0, 0))) ∧ Aside0 (Below w.heap.size w w'))
    case atStart => exact ⟨(0), (0), (by first | rfl | (simp; done) | (simp [*]; done)), (by first | rfl | (simp; done) | (simp [*]; done)), H', ⟨Nat.le_refl _⟩, ⟨by (with_reducible repeat (first | refine blk_drewN ?_ _ | refine blk_drew ?_ | refine blk_alloc ?_ _)); exact BK180.out⟩, ⟨by repeat (first | (with_reducible first | exact HB.out | apply below_alloc | apply pw_below_drewN | apply below_drew1 | refine below_set ?_ GE180.out) | exact HB.out)⟩⟩
    case round =>
     clear H'
     try clear c1
     try clear c2
     try clear p2
     try clear c7
     try clear c10
     try clear c13
     try clear hcz10_0
     try clear hcz10_1
     try clear hcz10_2
     try clear hcz10_3
     try clear hcz10_4
     try clear hcz11_0
     try clear hcz11_1
     try clear hcz11_2
     try clear hcz11_3
     try clear hcz11_4
     try clear hcz8_0
     try clear hcz8_1
     try clear hcz8_2
     try clear hcz8_3
     try clear hcz8_4
     try clear hfz10_0
     try clear hfz10_1
     try clear hfz10_2
     try clear hfz10_3
     try clear hfz10_4
     try clear hfz11_0
     try clear hfz11_1
     try clear hfz11_2
     try clear hfz11_3
     try clear hfz11_4
     try clear hfz8_0
     try clear hfz8_1
     try clear hfz8_2
     try clear hfz8_3
     try clear hfz8_4
     try clear p2
     obtain ⟨x7_2, x22_2, rfl, rfl, HA, HK2, BK180, HB⟩ := hrel
     cases gk with
     | zero => exact absurd HA.out (by simp [looks_Place.l0])
     | succ k2 =>
      have H := HA.out
      clear HA
      simp only [looks_Place.l0] at H
      by_cases c14 : x22_2 < (l1.length : Int)
      ·rw [if_pos c14] at H
       have c14b0 : decide (x22_2 < (l1.length : Int)) = true := decide_eq_true c14
       clear c14
       by_cases c15 : 0 ≤ x22_2
       ·rw [if_pos c15] at H
        have c15b0 : decide (0 ≤ x22_2) = true := decide_eq_true c15
        clear c15
        by_cases c16 : x22_2 < (l1.length : Int)
        ·rw [if_pos c16] at H
         have c16b0 : decide (x22_2 < (l1.length : Int)) = true := decide_eq_true c16
         clear c16
         replace H := Option.bind_eq_some_iff.mp H
         obtain ⟨⟨t184, t185⟩, A170, H⟩ := H
         replace H : (if ((rd_T29 l1 x22_2).f0) = a0_0 then (looks_Place.j2 k2 a2 x7_2 x22_2 t184 l1 (l1.length : Int) x22_2 (t185 != 0) a0_0 a0_1 a0_2 a0_3 a0_4) else (looks_Place.j2 k2 a2 x7_2 x22_2 t184 l1 (l1.length : Int) x22_2 true a0_0 a0_1 a0_2 a0_3 a0_4)) = some r := H
         have A17 := Aside0.mk A170
         clear A170
         have HC18 := Aside0.mk H
         clear H
         have p182 : 0 ≤ (x22_2 : Int) := of_decide_eq_true (by first | (with_reducible assumption) | assumption)
         have q182 : x22_2 < (l1.length : Int) := of_decide_eq_true (by first | (with_reducible assumption) | assumption)
         obtain ⟨ad182, e182, hx182_0, hx182_1, hx182_2, hx182_3, hx182_4⟩ := at_T29 HR1.out x22_2 p182 q182
         cases e182
         replace hx182_0 := (HB.out.cell (World.block_lt_of_cell? w _ hx182_0)).trans hx182_0
         replace hx182_1 := (HB.out.cell (World.block_lt_of_cell? w _ hx182_1)).trans hx182_1
         replace hx182_2 := (HB.out.cell (World.block_lt_of_cell? w _ hx182_2)).trans hx182_2
         replace hx182_3 := (HB.out.cell (World.block_lt_of_cell? w _ hx182_3)).trans hx182_3
         replace hx182_4 := (HB.out.cell (World.block_lt_of_cell? w _ hx182_4)).trans hx182_4
         replace p182 := eq_true p182
         replace q182 := eq_true q182
         go_upto_region 8 with (first | ((with_reducible refine gate_dst (N := 9) rfl ?_); refine bx (N := 9) (cs := #[.int .i64 0, .int .i64 0, .string (⟨#[]⟩ : ByteArray), .bool false, .int .i64 0]) (t := 29) ?_; intro gb183 hg w19 hbox hb; have BK183 := Aside0.mk (hbox); have GW183 := (bw hg); have GE183 := (bw hg); replace HB := (bs hb); have NB180_183 := Aside0.mk ((by rw [hg]; exact Nat.ne_of_lt (blk_lt (g := gb180) (o := .cells #[.int .i64 a0_0, .int .i64 a0_1, .string a0_2, .bool a0_3, .int .i64 a0_4] 29 (0, 0)) (by (with_reducible repeat (first | refine blk_drewN ?_ _ | refine blk_drew ?_ | refine blk_alloc ?_ _)); exact BK180.out)) : gb180 ≠ gb183)); have NB183_180 := Aside0.mk ((by rw [hg]; exact Nat.ne_of_gt (blk_lt (g := gb180) (o := .cells #[.int .i64 a0_0, .int .i64 a0_1, .string a0_2, .bool a0_3, .int .i64 a0_4] 29 (0, 0)) (by (with_reducible repeat (first | refine blk_drewN ?_ _ | refine blk_drew ?_ | refine blk_alloc ?_ _)); exact BK180.out)) : gb183 ≠ gb180)); replace BK180 := (bb BK180 hb); clear hb hbox hg; have hnb20 := NB183_180.out; have hnc20 := NB180_183.out; obtain ⟨hcz21_0, hcz21_1, hcz21_2, hcz21_3, hcz21_4, hfz21_0, hfz21_1, hfz21_2, hfz21_3, hfz21_4⟩ := bc5 BK183; obtain ⟨hcz22_0, hcz22_1, hcz22_2, hcz22_3, hcz22_4, hfz22_0, hfz22_1, hfz22_2, hfz22_3, hfz22_4⟩ := bc5 BK180) | ((with_reducible refine gate_callee (f := 19) rfl ?_); refine gL (some 30) Tryz.func19 #[.agg #[.int .i64 ((rd_T29 l1 x22_2).f0), .int .i64 ((rd_T29 l1 x22_2).f1), .string ((rd_T29 l1 x22_2).f2), .bool ((rd_T29 l1 x22_2).f3), .int .i64 ((rd_T29 l1 x22_2).f4)], .agg #[.int .i64 a0_0, .int .i64 a0_1, .string a0_2, .bool a0_3, .int .i64 a0_4]] ?_; (with_reducible refine (value_Order.calls ((rd_T29 l1 x22_2).f0) ((rd_T29 l1 x22_2).f1) ((rd_T29 l1 x22_2).f2) ((rd_T29 l1 x22_2).f3) ((rd_T29 l1 x22_2).f4) a0_0 a0_1 a0_2 a0_3 a0_4 t184 t185 _ A17.out).mono ?_); rintro e w23 ⟨rfl, hb⟩; refine ⟨_, rfl, ?_⟩; replace BK180 := Aside0.mk (blk_below (g := gb180) (o := .cells #[.int .i64 a0_0, .int .i64 a0_1, .string a0_2, .bool a0_3, .int .i64 a0_4] 29 (0, 0)) (by (with_reducible repeat (first | refine blk_drewN ?_ _ | refine blk_drew ?_ | refine blk_alloc ?_ _)); refine blk_far ?_ NB180_183.out _; (with_reducible repeat (first | refine blk_drewN ?_ _ | refine blk_drew ?_ | refine blk_alloc ?_ _)); refine blk_far ?_ NB180_183.out _; (with_reducible repeat (first | refine blk_drewN ?_ _ | refine blk_drew ?_ | refine blk_alloc ?_ _)); refine blk_far ?_ NB180_183.out _; (with_reducible repeat (first | refine blk_drewN ?_ _ | refine blk_drew ?_ | refine blk_alloc ?_ _)); refine blk_far ?_ NB180_183.out _; (with_reducible repeat (first | refine blk_drewN ?_ _ | refine blk_drew ?_ | refine blk_alloc ?_ _)); refine blk_far ?_ NB180_183.out _; (with_reducible repeat (first | refine blk_drewN ?_ _ | refine blk_drew ?_ | refine blk_alloc ?_ _)); exact BK180.out) hb); replace BK183 := Aside0.mk (blk_below (g := gb183) (o := .cells #[.int .i64 ((rd_T29 l1 x22_2).f0), .int .i64 ((rd_T29 l1 x22_2).f1), .string ((rd_T29 l1 x22_2).f2), .bool ((rd_T29 l1 x22_2).f3), .int .i64 ((rd_T29 l1 x22_2).f4)] 29 (0, 0)) (by (with_reducible repeat (first | refine blk_drewN ?_ _ | refine blk_drew ?_ | refine blk_alloc ?_ _)); refine blk_put (cs := #[.int .i64 ((rd_T29 l1 x22_2).f0), .int .i64 ((rd_T29 l1 x22_2).f1), .string ((rd_T29 l1 x22_2).f2), .bool ((rd_T29 l1 x22_2).f3), .int .i64 0]) ?_ 4 _ rfl; (with_reducible repeat (first | refine blk_drewN ?_ _ | refine blk_drew ?_ | refine blk_alloc ?_ _)); refine blk_put (cs := #[.int .i64 ((rd_T29 l1 x22_2).f0), .int .i64 ((rd_T29 l1 x22_2).f1), .string ((rd_T29 l1 x22_2).f2), .bool false, .int .i64 0]) ?_ 3 _ rfl; (with_reducible repeat (first | refine blk_drewN ?_ _ | refine blk_drew ?_ | refine blk_alloc ?_ _)); refine blk_put (cs := #[.int .i64 ((rd_T29 l1 x22_2).f0), .int .i64 ((rd_T29 l1 x22_2).f1), .string (⟨#[]⟩ : ByteArray), .bool false, .int .i64 0]) ?_ 2 _ rfl; (with_reducible repeat (first | refine blk_drewN ?_ _ | refine blk_drew ?_ | refine blk_alloc ?_ _)); refine blk_put (cs := #[.int .i64 ((rd_T29 l1 x22_2).f0), .int .i64 0, .string (⟨#[]⟩ : ByteArray), .bool false, .int .i64 0]) ?_ 1 _ rfl; (with_reducible repeat (first | refine blk_drewN ?_ _ | refine blk_drew ?_ | refine blk_alloc ?_ _)); refine blk_put (cs := #[.int .i64 0, .int .i64 0, .string (⟨#[]⟩ : ByteArray), .bool false, .int .i64 0]) ?_ 0 _ rfl; (with_reducible repeat (first | refine blk_drewN ?_ _ | refine blk_drew ?_ | refine blk_alloc ?_ _)); exact BK183.out) hb); replace HB := (bs hb); (try clear hb)))
         (try simp only [Act.put, List.setIfInBounds_toArray, List.set_cons_zero, List.set_cons_succ])
         go_cut [33] (fun v33 wc => ∃ (kq : Nat) (x33_17 : Bool), v33 = .bool x33_17 ∧ Aside0 (looks_Place.j2 kq a2 x7_2 x22_2 t184 l1 (l1.length : Int) x22_2 x33_17 a0_0 a0_1 a0_2 a0_3 a0_4 = some r) ∧ Aside0 (kq ≤ k2) ∧ Aside0 (wc.heap[gb180]? = some (.cells #[.int .i64 a0_0, .int .i64 a0_1, .string a0_2, .bool a0_3, .int .i64 a0_4] 29 (0, 0))) ∧ Aside0 (wc.heap[gb183]? = some (.cells #[.int .i64 ((rd_T29 l1 x22_2).f0), .int .i64 ((rd_T29 l1 x22_2).f1), .string ((rd_T29 l1 x22_2).f2), .bool ((rd_T29 l1 x22_2).f3), .int .i64 ((rd_T29 l1 x22_2).f4)] 29 (0, 0))) ∧ Aside0 (Below w.heap.size w wc))
         case first =>
          have H := HC18.out
          clear HC18
          by_cases c24 : ((rd_T29 l1 x22_2).f0) = a0_0
          ·rw [if_pos c24] at H
           have c24b0 : (((rd_T29 l1 x22_2).f0) == a0_0) = true := beq_iff_eq.mpr c24
           have c24b1 : (((rd_T29 l1 x22_2).f0) != a0_0) = false := bne_eq_false_iff_eq.mpr c24
           clear c24
           (first | rw [c24b0] | (simp only [i64_w, i32_w]; rw [c24b0]) | rw [c24b1] | skip)
           have H' := Aside0.mk H
           clear H
           have hnb25 := NB183_180.out
           have hnc25 := NB180_183.out
           have hcz26_0 : w23.cell? ⟨gb183, 0, none⟩ = some (.int .i64 ((rd_T29 l1 x22_2).f0)) := (blk_cell BK183.out 0).trans rfl
           have hcz26_1 : w23.cell? ⟨gb183, 1, none⟩ = some (.int .i64 ((rd_T29 l1 x22_2).f1)) := (blk_cell BK183.out 1).trans rfl
           have hcz26_2 : w23.cell? ⟨gb183, 2, none⟩ = some (.string ((rd_T29 l1 x22_2).f2)) := (blk_cell BK183.out 2).trans rfl
           have hcz26_3 : w23.cell? ⟨gb183, 3, none⟩ = some (.bool ((rd_T29 l1 x22_2).f3)) := (blk_cell BK183.out 3).trans rfl
           have hcz26_4 : w23.cell? ⟨gb183, 4, none⟩ = some (.int .i64 ((rd_T29 l1 x22_2).f4)) := (blk_cell BK183.out 4).trans rfl
           have hfz26_0 := blk_frozen BK183.out 0
           have hfz26_1 := blk_frozen BK183.out 1
           have hfz26_2 := blk_frozen BK183.out 2
           have hfz26_3 := blk_frozen BK183.out 3
           have hfz26_4 := blk_frozen BK183.out 4
           have hcz27_0 : w23.cell? ⟨gb180, 0, none⟩ = some (.int .i64 a0_0) := (blk_cell BK180.out 0).trans rfl
           have hcz27_1 : w23.cell? ⟨gb180, 1, none⟩ = some (.int .i64 a0_1) := (blk_cell BK180.out 1).trans rfl
           have hcz27_2 : w23.cell? ⟨gb180, 2, none⟩ = some (.string a0_2) := (blk_cell BK180.out 2).trans rfl
           have hcz27_3 : w23.cell? ⟨gb180, 3, none⟩ = some (.bool a0_3) := (blk_cell BK180.out 3).trans rfl
           have hcz27_4 : w23.cell? ⟨gb180, 4, none⟩ = some (.int .i64 a0_4) := (blk_cell BK180.out 4).trans rfl
           have hfz27_0 := blk_frozen BK180.out 0
           have hfz27_1 := blk_frozen BK180.out 1
           have hfz27_2 := blk_frozen BK180.out 2
           have hfz27_3 := blk_frozen BK180.out 3
           have hfz27_4 := blk_frozen BK180.out 4
           go_wp2
           go_meet
           case rel => exact ⟨_, ((t185 != 0)), (by first | rfl | (simp; done) | (simp [*]; done)), H', ⟨by have := HJ3.out; have := HK2.out; first | omega | exact Nat.le_refl _⟩, ⟨by (with_reducible repeat (first | refine blk_drewN ?_ _ | refine blk_drew ?_ | refine blk_alloc ?_ _)); exact BK180.out⟩, ⟨by (with_reducible repeat (first | refine blk_drewN ?_ _ | refine blk_drew ?_ | refine blk_alloc ?_ _)); exact BK183.out⟩, ⟨by repeat (first | (with_reducible first | exact HB.out | apply below_alloc | apply pw_below_drewN | apply below_drew1 | refine below_set ?_ GE180.out | refine below_set ?_ GE183.out) | exact HB.out)⟩⟩
          ·rw [if_neg c24] at H
           have c24b0 : (((rd_T29 l1 x22_2).f0) == a0_0) = false := beq_eq_false_iff_ne.mpr c24
           have c24b1 : (((rd_T29 l1 x22_2).f0) != a0_0) = true := bne_iff_ne.mpr c24
           (first | rw [c24b0] | (simp only [i64_w, i32_w]; rw [c24b0]) | rw [c24b1] | skip)
           have H' := Aside0.mk H
           clear H
           have hnb28 := NB183_180.out
           have hnc28 := NB180_183.out
           have hcz29_0 : w23.cell? ⟨gb183, 0, none⟩ = some (.int .i64 ((rd_T29 l1 x22_2).f0)) := (blk_cell BK183.out 0).trans rfl
           have hcz29_1 : w23.cell? ⟨gb183, 1, none⟩ = some (.int .i64 ((rd_T29 l1 x22_2).f1)) := (blk_cell BK183.out 1).trans rfl
           have hcz29_2 : w23.cell? ⟨gb183, 2, none⟩ = some (.string ((rd_T29 l1 x22_2).f2)) := (blk_cell BK183.out 2).trans rfl
           have hcz29_3 : w23.cell? ⟨gb183, 3, none⟩ = some (.bool ((rd_T29 l1 x22_2).f3)) := (blk_cell BK183.out 3).trans rfl
           have hcz29_4 : w23.cell? ⟨gb183, 4, none⟩ = some (.int .i64 ((rd_T29 l1 x22_2).f4)) := (blk_cell BK183.out 4).trans rfl
           have hfz29_0 := blk_frozen BK183.out 0
           have hfz29_1 := blk_frozen BK183.out 1
           have hfz29_2 := blk_frozen BK183.out 2
           have hfz29_3 := blk_frozen BK183.out 3
           have hfz29_4 := blk_frozen BK183.out 4
           have hcz30_0 : w23.cell? ⟨gb180, 0, none⟩ = some (.int .i64 a0_0) := (blk_cell BK180.out 0).trans rfl
           have hcz30_1 : w23.cell? ⟨gb180, 1, none⟩ = some (.int .i64 a0_1) := (blk_cell BK180.out 1).trans rfl
           have hcz30_2 : w23.cell? ⟨gb180, 2, none⟩ = some (.string a0_2) := (blk_cell BK180.out 2).trans rfl
           have hcz30_3 : w23.cell? ⟨gb180, 3, none⟩ = some (.bool a0_3) := (blk_cell BK180.out 3).trans rfl
           have hcz30_4 : w23.cell? ⟨gb180, 4, none⟩ = some (.int .i64 a0_4) := (blk_cell BK180.out 4).trans rfl
           have hfz30_0 := blk_frozen BK180.out 0
           have hfz30_1 := blk_frozen BK180.out 1
           have hfz30_2 := blk_frozen BK180.out 2
           have hfz30_3 := blk_frozen BK180.out 3
           have hfz30_4 := blk_frozen BK180.out 4
           go_wp2
           go_meet
           case rel => exact ⟨_, (true), (by first | rfl | (simp; done) | (simp [*]; done)), H', ⟨by have := HJ3.out; have := HK2.out; first | omega | exact Nat.le_refl _⟩, ⟨by (with_reducible repeat (first | refine blk_drewN ?_ _ | refine blk_drew ?_ | refine blk_alloc ?_ _)); exact BK180.out⟩, ⟨by (with_reducible repeat (first | refine blk_drewN ?_ _ | refine blk_drew ?_ | refine blk_alloc ?_ _)); exact BK183.out⟩, ⟨by repeat (first | (with_reducible first | exact HB.out | apply below_alloc | apply pw_below_drewN | apply below_drew1 | refine below_set ?_ GE180.out | refine below_set ?_ GE183.out) | exact HB.out)⟩⟩
         case rest =>
          clear HC18
          try clear c1
          try clear p1
          try clear q1
          try clear hx1
          try clear c2
          try clear p2
          try clear c7
          try clear c10
          try clear c13
          try clear c14
          try clear c14b0
          try clear c15
          try clear c15b0
          try clear c16
          try clear c16b0
          try clear p18
          try clear q18
          try clear hx18
          try clear c19
          try clear c20
          try clear c24
          try clear c24b0
          try clear c24b1
          try clear c25
          try clear c28
          try clear hcz10_0
          try clear hcz10_1
          try clear hcz10_2
          try clear hcz10_3
          try clear hcz10_4
          try clear hcz11_0
          try clear hcz11_1
          try clear hcz11_2
          try clear hcz11_3
          try clear hcz11_4
          try clear hcz21_0
          try clear hcz21_1
          try clear hcz21_2
          try clear hcz21_3
          try clear hcz21_4
          try clear hcz22_0
          try clear hcz22_1
          try clear hcz22_2
          try clear hcz22_3
          try clear hcz22_4
          try clear hcz26_0
          try clear hcz26_1
          try clear hcz26_2
          try clear hcz26_3
          try clear hcz26_4
          try clear hcz27_0
          try clear hcz27_1
          try clear hcz27_2
          try clear hcz27_3
          try clear hcz27_4
          try clear hcz29_0
          try clear hcz29_1
          try clear hcz29_2
          try clear hcz29_3
          try clear hcz29_4
          try clear hcz30_0
          try clear hcz30_1
          try clear hcz30_2
          try clear hcz30_3
          try clear hcz30_4
          try clear hcz8_0
          try clear hcz8_1
          try clear hcz8_2
          try clear hcz8_3
          try clear hcz8_4
          try clear hfz10_0
          try clear hfz10_1
          try clear hfz10_2
          try clear hfz10_3
          try clear hfz10_4
          try clear hfz11_0
          try clear hfz11_1
          try clear hfz11_2
          try clear hfz11_3
          try clear hfz11_4
          try clear hfz21_0
          try clear hfz21_1
          try clear hfz21_2
          try clear hfz21_3
          try clear hfz21_4
          try clear hfz22_0
          try clear hfz22_1
          try clear hfz22_2
          try clear hfz22_3
          try clear hfz22_4
          try clear hfz26_0
          try clear hfz26_1
          try clear hfz26_2
          try clear hfz26_3
          try clear hfz26_4
          try clear hfz27_0
          try clear hfz27_1
          try clear hfz27_2
          try clear hfz27_3
          try clear hfz27_4
          try clear hfz29_0
          try clear hfz29_1
          try clear hfz29_2
          try clear hfz29_3
          try clear hfz29_4
          try clear hfz30_0
          try clear hfz30_1
          try clear hfz30_2
          try clear hfz30_3
          try clear hfz30_4
          try clear hfz8_0
          try clear hfz8_1
          try clear hfz8_2
          try clear hfz8_3
          try clear hfz8_4
          try clear hx182_0
          try clear hx182_1
          try clear hx182_2
          try clear hx182_3
          try clear hx182_4
          try clear p182
          try clear p2
          try clear q182
          obtain ⟨kq, x33_17, rfl, HA, HJ17, BK180, BK183, HB⟩ := hcut
          cases kq with
          | zero => exact absurd HA.out (by simp [looks_Place.j2])
          | succ kj17 =>
           have H := HA.out
           clear HA
           simp only [looks_Place.j2] at H
           by_cases c31 : x33_17 = true
           ·subst c31
            have H1 : (looks_Place.l0 kj17 a2 x7_2 l1 (l1.length : Int) (wrap64 (x22_2 + 1)) a0_0 a0_1 a0_2 a0_3 a0_4) = some r := by rw [if_pos rfl] at H; exact H
            clear H
            have H := H1
            clear H1
            have H' := Aside0.mk H
            clear H
            go_wp2
            go_roundg kj17
            case measure => have := HJ3.out; have := HK2.out; have := HJ17.out; omega
            case rel => exact ⟨(x7_2), (wrap64 (x22_2 + 1)), (by first | rfl | (simp; done) | (simp [*]; done)), (by first | rfl | (simp; done) | (simp [*]; done)), H', ⟨by have := HJ3.out; have := HK2.out; have := HJ17.out; omega⟩, ⟨by (with_reducible repeat (first | refine blk_drewN ?_ _ | refine blk_drew ?_ | refine blk_alloc ?_ _)); exact BK180.out⟩, ⟨by repeat (first | (with_reducible first | exact HB.out | apply below_alloc | apply pw_below_drewN | apply below_drew1 | refine below_set ?_ GE180.out | refine below_set ?_ GE183.out) | exact HB.out)⟩⟩
           ·replace c31 := Bool.eq_false_iff.mpr c31
            subst c31
            have H1 : (if a2 = 0 then (looks_Place.j3 kj17 a2 x7_2 x22_2 t184 l1 (l1.length : Int) x22_2 (t184 == 0) a0_0 a0_1 a0_2 a0_3 a0_4) else (looks_Place.j3 kj17 a2 x7_2 x22_2 t184 l1 (l1.length : Int) x22_2 false a0_0 a0_1 a0_2 a0_3 a0_4)) = some r := by rw [if_neg (show ¬ (false = true) by decide)] at H; exact H
            clear H
            have H := H1
            clear H1
            have HC32 := Aside0.mk H
            clear H
            go_upto_region 9 with (fail)
            go_cut [43] (fun v43 wc => ∃ (kq : Nat) (x43_31 : Bool), v43 = .bool x43_31 ∧ Aside0 (looks_Place.j3 kq a2 x7_2 x22_2 t184 l1 (l1.length : Int) x22_2 x43_31 a0_0 a0_1 a0_2 a0_3 a0_4 = some r) ∧ Aside0 (kq ≤ kj17) ∧ Aside0 (wc.heap[gb180]? = some (.cells #[.int .i64 a0_0, .int .i64 a0_1, .string a0_2, .bool a0_3, .int .i64 a0_4] 29 (0, 0))) ∧ Aside0 (wc.heap[gb183]? = some (.cells #[.int .i64 ((rd_T29 l1 x22_2).f0), .int .i64 ((rd_T29 l1 x22_2).f1), .string ((rd_T29 l1 x22_2).f2), .bool ((rd_T29 l1 x22_2).f3), .int .i64 ((rd_T29 l1 x22_2).f4)] 29 (0, 0))) ∧ Aside0 (Below w.heap.size w wc))
            case first =>
             have H := HC32.out
             clear HC32
             by_cases c33 : a2 = 0
             ·rw [if_pos c33] at H
              have c33b0 : (a2 == 0) = true := beq_iff_eq.mpr c33
              have c33b1 : (a2 != 0) = false := bne_eq_false_iff_eq.mpr c33
              clear c33
              (first | rw [c33b0] | (simp only [i64_w, i32_w]; rw [c33b0]) | rw [c33b1] | skip)
              have H' := Aside0.mk H
              clear H
              go_wp2
              go_meet
              case rel => exact ⟨_, ((t184 == 0)), (by first | rfl | (simp; done) | (simp [*]; done)), H', ⟨by have := HJ3.out; have := HK2.out; have := HJ17.out; first | omega | exact Nat.le_refl _⟩, ⟨by (with_reducible repeat (first | refine blk_drewN ?_ _ | refine blk_drew ?_ | refine blk_alloc ?_ _)); exact BK180.out⟩, ⟨by (with_reducible repeat (first | refine blk_drewN ?_ _ | refine blk_drew ?_ | refine blk_alloc ?_ _)); exact BK183.out⟩, ⟨by repeat (first | (with_reducible first | exact HB.out | apply below_alloc | apply pw_below_drewN | apply below_drew1 | refine below_set ?_ GE180.out | refine below_set ?_ GE183.out) | exact HB.out)⟩⟩
             ·rw [if_neg c33] at H
              have c33b0 : (a2 == 0) = false := beq_eq_false_iff_ne.mpr c33
              have c33b1 : (a2 != 0) = true := bne_iff_ne.mpr c33
              (first | rw [c33b0] | (simp only [i64_w, i32_w]; rw [c33b0]) | rw [c33b1] | skip)
              have H' := Aside0.mk H
              clear H
              go_wp2
              go_meet
              case rel => exact ⟨_, (false), (by first | rfl | (simp; done) | (simp [*]; done)), H', ⟨by have := HJ3.out; have := HK2.out; have := HJ17.out; first | omega | exact Nat.le_refl _⟩, ⟨by (with_reducible repeat (first | refine blk_drewN ?_ _ | refine blk_drew ?_ | refine blk_alloc ?_ _)); exact BK180.out⟩, ⟨by (with_reducible repeat (first | refine blk_drewN ?_ _ | refine blk_drew ?_ | refine blk_alloc ?_ _)); exact BK183.out⟩, ⟨by repeat (first | (with_reducible first | exact HB.out | apply below_alloc | apply pw_below_drewN | apply below_drew1 | refine below_set ?_ GE180.out | refine below_set ?_ GE183.out) | exact HB.out)⟩⟩
            case rest =>
             clear HC32
             try clear c1
             try clear p1
             try clear q1
             try clear hx1
             try clear c2
             try clear p2
             try clear c3
             try clear p6
             try clear c7
             try clear c10
             try clear c13
             try clear c14
             try clear c14b0
             try clear c15
             try clear c15b0
             try clear c16
             try clear c16b0
             try clear p18
             try clear q18
             try clear hx18
             try clear c19
             try clear c20
             try clear c24
             try clear c24b0
             try clear c24b1
             try clear c25
             try clear c28
             try clear c31
             try clear c33
             try clear c33b0
             try clear c33b1
             try clear hcz10_0
             try clear hcz10_1
             try clear hcz10_2
             try clear hcz10_3
             try clear hcz10_4
             try clear hcz11_0
             try clear hcz11_1
             try clear hcz11_2
             try clear hcz11_3
             try clear hcz11_4
             try clear hcz21_0
             try clear hcz21_1
             try clear hcz21_2
             try clear hcz21_3
             try clear hcz21_4
             try clear hcz22_0
             try clear hcz22_1
             try clear hcz22_2
             try clear hcz22_3
             try clear hcz22_4
             try clear hcz26_0
             try clear hcz26_1
             try clear hcz26_2
             try clear hcz26_3
             try clear hcz26_4
             try clear hcz27_0
             try clear hcz27_1
             try clear hcz27_2
             try clear hcz27_3
             try clear hcz27_4
             try clear hcz29_0
             try clear hcz29_1
             try clear hcz29_2
             try clear hcz29_3
             try clear hcz29_4
             try clear hcz30_0
             try clear hcz30_1
             try clear hcz30_2
             try clear hcz30_3
             try clear hcz30_4
             try clear hcz8_0
             try clear hcz8_1
             try clear hcz8_2
             try clear hcz8_3
             try clear hcz8_4
             try clear hfz10_0
             try clear hfz10_1
             try clear hfz10_2
             try clear hfz10_3
             try clear hfz10_4
             try clear hfz11_0
             try clear hfz11_1
             try clear hfz11_2
             try clear hfz11_3
             try clear hfz11_4
             try clear hfz21_0
             try clear hfz21_1
             try clear hfz21_2
             try clear hfz21_3
             try clear hfz21_4
             try clear hfz22_0
             try clear hfz22_1
             try clear hfz22_2
             try clear hfz22_3
             try clear hfz22_4
             try clear hfz26_0
             try clear hfz26_1
             try clear hfz26_2
             try clear hfz26_3
             try clear hfz26_4
             try clear hfz27_0
             try clear hfz27_1
             try clear hfz27_2
             try clear hfz27_3
             try clear hfz27_4
             try clear hfz29_0
             try clear hfz29_1
             try clear hfz29_2
             try clear hfz29_3
             try clear hfz29_4
             try clear hfz30_0
             try clear hfz30_1
             try clear hfz30_2
             try clear hfz30_3
             try clear hfz30_4
             try clear hfz8_0
             try clear hfz8_1
             try clear hfz8_2
             try clear hfz8_3
             try clear hfz8_4
             try clear hx182_0
             try clear hx182_1
             try clear hx182_2
             try clear hx182_3
             try clear hx182_4
             try clear p1
             try clear p18
             try clear p182
             try clear p2
             try clear q1
             try clear q18
             try clear q182
             obtain ⟨kq, x43_31, rfl, HA, HJ31, BK180, BK183, HB⟩ := hcut
             cases kq with
             | zero => exact absurd HA.out (by simp [looks_Place.j3])
             | succ kj31 =>
              have H := HA.out
              clear HA
              simp only [looks_Place.j3] at H
              by_cases c34 : x43_31 = true
              ·subst c34
               have H1 : (some (wrap64 (x22_2 + 1))) = some r := by rw [if_pos rfl] at H; exact H
               clear H
               have H := H1
               clear H1
               obtain rfl := Option.some.inj H
               go_wp2
               go_ret
               exact ⟨by first | rfl | (simp [errW_none, errW_some] <;> rfl) | (simp [*, errW_none, errW_some] <;> rfl), be⟩
              ·replace c34 := Bool.eq_false_iff.mpr c34
               subst c34
               have H1 : (if a2 > 0 then (looks_Place.j4 kj31 a2 x7_2 x22_2 t184 l1 (l1.length : Int) x22_2 (decide (t184 ≤ 0)) a0_0 a0_1 a0_2 a0_3 a0_4) else (looks_Place.j4 kj31 a2 x7_2 x22_2 t184 l1 (l1.length : Int) x22_2 false a0_0 a0_1 a0_2 a0_3 a0_4)) = some r := by rw [if_neg (show ¬ (false = true) by decide)] at H; exact H
               clear H
               have H := H1
               clear H1
               have HC35 := Aside0.mk H
               clear H
               go_upto_region 11 with (fail)
               go_cut [52] (fun v52 wc => ∃ (kq : Nat) (x52_34 : Bool), v52 = .bool x52_34 ∧ Aside0 (looks_Place.j4 kq a2 x7_2 x22_2 t184 l1 (l1.length : Int) x22_2 x52_34 a0_0 a0_1 a0_2 a0_3 a0_4 = some r) ∧ Aside0 (kq ≤ kj31) ∧ Aside0 (wc.heap[gb180]? = some (.cells #[.int .i64 a0_0, .int .i64 a0_1, .string a0_2, .bool a0_3, .int .i64 a0_4] 29 (0, 0))) ∧ Aside0 (wc.heap[gb183]? = some (.cells #[.int .i64 ((rd_T29 l1 x22_2).f0), .int .i64 ((rd_T29 l1 x22_2).f1), .string ((rd_T29 l1 x22_2).f2), .bool ((rd_T29 l1 x22_2).f3), .int .i64 ((rd_T29 l1 x22_2).f4)] 29 (0, 0))) ∧ Aside0 (Below w.heap.size w wc))
               case first =>
                have H := HC35.out
                clear HC35
                by_cases c36 : a2 > 0
                ·rw [if_pos c36] at H
                 have c36b0 : decide (0 < a2) = true := decide_eq_true c36
                 clear c36
                 (first | rw [c36b0] | (simp only [i64_w, i32_w]; rw [c36b0]) | skip)
                 have H' := Aside0.mk H
                 clear H
                 go_wp2
                 go_meet
                 case rel => exact ⟨_, (decide (t184 ≤ 0)), (by first | rfl | (simp; done) | (simp [*]; done)), H', ⟨by have := HJ3.out; have := HK2.out; have := HJ17.out; have := HJ31.out; first | omega | exact Nat.le_refl _⟩, ⟨by (with_reducible repeat (first | refine blk_drewN ?_ _ | refine blk_drew ?_ | refine blk_alloc ?_ _)); exact BK180.out⟩, ⟨by (with_reducible repeat (first | refine blk_drewN ?_ _ | refine blk_drew ?_ | refine blk_alloc ?_ _)); exact BK183.out⟩, ⟨by repeat (first | (with_reducible first | exact HB.out | apply below_alloc | apply pw_below_drewN | apply below_drew1 | refine below_set ?_ GE180.out | refine below_set ?_ GE183.out) | exact HB.out)⟩⟩
                ·rw [if_neg c36] at H
                 have c36b0 : decide (0 < a2) = false := decide_eq_false c36
                 clear c36
                 (first | rw [c36b0] | (simp only [i64_w, i32_w]; rw [c36b0]) | skip)
                 have H' := Aside0.mk H
                 clear H
                 go_wp2
                 go_meet
                 case rel => exact ⟨_, (false), (by first | rfl | (simp; done) | (simp [*]; done)), H', ⟨by have := HJ3.out; have := HK2.out; have := HJ17.out; have := HJ31.out; first | omega | exact Nat.le_refl _⟩, ⟨by (with_reducible repeat (first | refine blk_drewN ?_ _ | refine blk_drew ?_ | refine blk_alloc ?_ _)); exact BK180.out⟩, ⟨by (with_reducible repeat (first | refine blk_drewN ?_ _ | refine blk_drew ?_ | refine blk_alloc ?_ _)); exact BK183.out⟩, ⟨by repeat (first | (with_reducible first | exact HB.out | apply below_alloc | apply pw_below_drewN | apply below_drew1 | refine below_set ?_ GE180.out | refine below_set ?_ GE183.out) | exact HB.out)⟩⟩
               case rest =>
                clear HC35
                try clear c1
                try clear p1
                try clear q1
                try clear hx1
                try clear c2
                try clear p2
                try clear c3
                try clear p6
                try clear c7
                try clear c10
                try clear c13
                try clear c14
                try clear c14b0
                try clear c15
                try clear c15b0
                try clear c16
                try clear c16b0
                try clear p18
                try clear q18
                try clear hx18
                try clear c19
                try clear c20
                try clear c24
                try clear c24b0
                try clear c24b1
                try clear c25
                try clear c28
                try clear c31
                try clear c33
                try clear c33b0
                try clear c33b1
                try clear c34
                try clear c36
                try clear c36b0
                try clear hcz10_0
                try clear hcz10_1
                try clear hcz10_2
                try clear hcz10_3
                try clear hcz10_4
                try clear hcz11_0
                try clear hcz11_1
                try clear hcz11_2
                try clear hcz11_3
                try clear hcz11_4
                try clear hcz21_0
                try clear hcz21_1
                try clear hcz21_2
                try clear hcz21_3
                try clear hcz21_4
                try clear hcz22_0
                try clear hcz22_1
                try clear hcz22_2
                try clear hcz22_3
                try clear hcz22_4
                try clear hcz26_0
                try clear hcz26_1
                try clear hcz26_2
                try clear hcz26_3
                try clear hcz26_4
                try clear hcz27_0
                try clear hcz27_1
                try clear hcz27_2
                try clear hcz27_3
                try clear hcz27_4
                try clear hcz29_0
                try clear hcz29_1
                try clear hcz29_2
                try clear hcz29_3
                try clear hcz29_4
                try clear hcz30_0
                try clear hcz30_1
                try clear hcz30_2
                try clear hcz30_3
                try clear hcz30_4
                try clear hcz8_0
                try clear hcz8_1
                try clear hcz8_2
                try clear hcz8_3
                try clear hcz8_4
                try clear hfz10_0
                try clear hfz10_1
                try clear hfz10_2
                try clear hfz10_3
                try clear hfz10_4
                try clear hfz11_0
                try clear hfz11_1
                try clear hfz11_2
                try clear hfz11_3
                try clear hfz11_4
                try clear hfz21_0
                try clear hfz21_1
                try clear hfz21_2
                try clear hfz21_3
                try clear hfz21_4
                try clear hfz22_0
                try clear hfz22_1
                try clear hfz22_2
                try clear hfz22_3
                try clear hfz22_4
                try clear hfz26_0
                try clear hfz26_1
                try clear hfz26_2
                try clear hfz26_3
                try clear hfz26_4
                try clear hfz27_0
                try clear hfz27_1
                try clear hfz27_2
                try clear hfz27_3
                try clear hfz27_4
                try clear hfz29_0
                try clear hfz29_1
                try clear hfz29_2
                try clear hfz29_3
                try clear hfz29_4
                try clear hfz30_0
                try clear hfz30_1
                try clear hfz30_2
                try clear hfz30_3
                try clear hfz30_4
                try clear hfz8_0
                try clear hfz8_1
                try clear hfz8_2
                try clear hfz8_3
                try clear hfz8_4
                try clear hx182_0
                try clear hx182_1
                try clear hx182_2
                try clear hx182_3
                try clear hx182_4
                try clear p1
                try clear p18
                try clear p182
                try clear p2
                try clear p6
                try clear q1
                try clear q18
                try clear q182
                obtain ⟨kq, x52_34, rfl, HA, HJ34, BK180, BK183, HB⟩ := hcut
                cases kq with
                | zero => exact absurd HA.out (by simp [looks_Place.j4])
                | succ kj34 =>
                 have H := HA.out
                 clear HA
                 simp only [looks_Place.j4] at H
                 by_cases c37 : x52_34 = true
                 ·subst c37
                  have H1 : (looks_Place.l0 kj34 a2 (wrap64 (x22_2 + 1)) l1 (l1.length : Int) (wrap64 (x22_2 + 1)) a0_0 a0_1 a0_2 a0_3 a0_4) = some r := by rw [if_pos rfl] at H; exact H
                  clear H
                  have H := H1
                  clear H1
                  have H' := Aside0.mk H
                  clear H
                  go_wp2
                  go_roundg kj34
                  case measure => have := HJ3.out; have := HK2.out; have := HJ17.out; have := HJ31.out; have := HJ34.out; omega
                  case rel => exact ⟨(wrap64 (x22_2 + 1)), (wrap64 (x22_2 + 1)), (by first | rfl | (simp; done) | (simp [*]; done)), (by first | rfl | (simp; done) | (simp [*]; done)), H', ⟨by have := HJ3.out; have := HK2.out; have := HJ17.out; have := HJ31.out; have := HJ34.out; omega⟩, ⟨by (with_reducible repeat (first | refine blk_drewN ?_ _ | refine blk_drew ?_ | refine blk_alloc ?_ _)); exact BK180.out⟩, ⟨by repeat (first | (with_reducible first | exact HB.out | apply below_alloc | apply pw_below_drewN | apply below_drew1 | refine below_set ?_ GE180.out | refine below_set ?_ GE183.out) | exact HB.out)⟩⟩
                 ·replace c37 := Bool.eq_false_iff.mpr c37
                  subst c37
                  have H1 : (if a2 < 0 then (if t184 ≥ 0 then (looks_Place.l0 kj34 a2 (wrap64 (x22_2 + 1)) l1 (l1.length : Int) (wrap64 (x22_2 + 1)) a0_0 a0_1 a0_2 a0_3 a0_4) else (looks_Place.l0 kj34 a2 x7_2 l1 (l1.length : Int) (wrap64 (x22_2 + 1)) a0_0 a0_1 a0_2 a0_3 a0_4)) else (looks_Place.l0 kj34 a2 x7_2 l1 (l1.length : Int) (wrap64 (x22_2 + 1)) a0_0 a0_1 a0_2 a0_3 a0_4)) = some r := by rw [if_neg (show ¬ (false = true) by decide)] at H; exact H
                  clear H
                  have H := H1
                  clear H1
                  by_cases c38 : a2 < 0
                  ·rw [if_pos c38] at H
                   have c38b0 : decide (a2 < 0) = true := decide_eq_true c38
                   clear c38
                   by_cases c39 : t184 ≥ 0
                   ·rw [if_pos c39] at H
                    have c39b0 : decide (0 ≤ t184) = true := decide_eq_true c39
                    clear c39
                    have H' := Aside0.mk H
                    clear H
                    go_wp2
                    go_roundg kj34
                    case measure => have := HJ3.out; have := HK2.out; have := HJ17.out; have := HJ31.out; have := HJ34.out; omega
                    case rel => exact ⟨(wrap64 (x22_2 + 1)), (wrap64 (x22_2 + 1)), (by first | rfl | (simp; done) | (simp [*]; done)), (by first | rfl | (simp; done) | (simp [*]; done)), H', ⟨by have := HJ3.out; have := HK2.out; have := HJ17.out; have := HJ31.out; have := HJ34.out; omega⟩, ⟨by (with_reducible repeat (first | refine blk_drewN ?_ _ | refine blk_drew ?_ | refine blk_alloc ?_ _)); exact BK180.out⟩, ⟨by repeat (first | (with_reducible first | exact HB.out | apply below_alloc | apply pw_below_drewN | apply below_drew1 | refine below_set ?_ GE180.out | refine below_set ?_ GE183.out) | exact HB.out)⟩⟩
                   ·rw [if_neg c39] at H
                    have c39b0 : decide (0 ≤ t184) = false := decide_eq_false c39
                    clear c39
                    have H' := Aside0.mk H
                    clear H
                    go_wp2
                    go_roundg kj34
                    case measure => have := HJ3.out; have := HK2.out; have := HJ17.out; have := HJ31.out; have := HJ34.out; omega
                    case rel => exact ⟨(x7_2), (wrap64 (x22_2 + 1)), (by first | rfl | (simp; done) | (simp [*]; done)), (by first | rfl | (simp; done) | (simp [*]; done)), H', ⟨by have := HJ3.out; have := HK2.out; have := HJ17.out; have := HJ31.out; have := HJ34.out; omega⟩, ⟨by (with_reducible repeat (first | refine blk_drewN ?_ _ | refine blk_drew ?_ | refine blk_alloc ?_ _)); exact BK180.out⟩, ⟨by repeat (first | (with_reducible first | exact HB.out | apply below_alloc | apply pw_below_drewN | apply below_drew1 | refine below_set ?_ GE180.out | refine below_set ?_ GE183.out) | exact HB.out)⟩⟩
                  ·rw [if_neg c38] at H
                   have c38b0 : decide (a2 < 0) = false := decide_eq_false c38
                   clear c38
                   have H' := Aside0.mk H
                   clear H
                   go_wp2
                   go_roundg kj34
                   case measure => have := HJ3.out; have := HK2.out; have := HJ17.out; have := HJ31.out; have := HJ34.out; omega
                   case rel => exact ⟨(x7_2), (wrap64 (x22_2 + 1)), (by first | rfl | (simp; done) | (simp [*]; done)), (by first | rfl | (simp; done) | (simp [*]; done)), H', ⟨by have := HJ3.out; have := HK2.out; have := HJ17.out; have := HJ31.out; have := HJ34.out; omega⟩, ⟨by (with_reducible repeat (first | refine blk_drewN ?_ _ | refine blk_drew ?_ | refine blk_alloc ?_ _)); exact BK180.out⟩, ⟨by repeat (first | (with_reducible first | exact HB.out | apply below_alloc | apply pw_below_drewN | apply below_drew1 | refine below_set ?_ GE180.out | refine below_set ?_ GE183.out) | exact HB.out)⟩⟩
        ·rw [if_neg c16] at H
         exact absurd H (by simp)
       ·rw [if_neg c15] at H
        exact absurd H (by simp)
      ·rw [if_neg c14] at H
       have c14b0 : decide (x22_2 < (l1.length : Int)) = false := decide_eq_false c14
       clear c14
       obtain rfl := Option.some.inj H
       go_wp2
       go_ret
       exact ⟨by first | rfl | (simp [errW_none, errW_some] <;> rfl) | (simp [*, errW_none, errW_some] <;> rfl), be⟩
end Go.Proofs.YtcihleahjnpaaaaGreatDoor.P
namespace Go.Proofs.YtcihleahjnpaaaaGreatDoor.P
open Go.RowKit Go.Proofs.YtcihleahjnpaaaaGreatDoor.Q Go.Proofs.YtcihleahjnpaaaaGreatDoor.H Go.Proofs.YtcihleahjnpaaaaGreatDoorW.PrintWords Go.Proofs.YtcihleahjnpaaaaGreatDoorW.PrintLast Go.Proofs.YtcihleahjnpaaaaGreatDoorW.PrintMore
attribute [local go_sem] max2_int min2_int max_two min_two max_three min_three max_four min_four   -- for this text's walks alone
set_option linter.unusedVariables false
set_option linter.unusedSimpArgs false
def fixed_Of.f (a0 : Int) : Option (Int × Int) := if a0 > 900000000000000 then (some (0, 5)) else (if a0 < (-900000000000000) then (some (0, 5)) else (some (wrap64 (a0 * 10000), 0)))
set_option maxHeartbeats 8000000 in
set_option maxRecDepth 100000 in
theorem fixed_Of.calls (a0 : Int) (r1 : Int) (r2 : Int) (w : World) (h : fixed_Of.f a0 = some (r1, r2)) :
  Calls Tryz.prog 82 #[.int .i64 a0] w fun e w' => e = .returned (.tuple #[.int .i64 r1, .int .i64 r2]) ∧ Drawn0 w w' := by
 have H : (if a0 > 900000000000000 then (some (0, 5)) else (if a0 < (-900000000000000) then (some (0, 5)) else (some (wrap64 (a0 * 10000), 0)))) = some (r1, r2) := h
 clear h
 by_cases c2 : a0 > 900000000000000
 ·rw [if_pos c2] at H
  have c2b0 : decide (900000000000000 < a0) = true := decide_eq_true c2
  clear c2
  simp only [Option.some.injEq, Prod.mk.injEq] at H
  obtain ⟨rfl, rfl⟩ := H
  go_enter Tryz.func82, Tryz.ntmps82
  go_wp2
  go_ret2
  exact ⟨by first | rfl | (simp; done) | (simp [*]; done), by repeat (first | exact Drawn0.refl _ | apply Drawn0.step)⟩
 ·rw [if_neg c2] at H
  have c2b0 : decide (900000000000000 < a0) = false := decide_eq_false c2
  clear c2
  by_cases c3 : a0 < (-900000000000000)
  ·rw [if_pos c3] at H
   have c3b0 : decide (a0 < (-900000000000000)) = true := decide_eq_true c3
   clear c3
   simp only [Option.some.injEq, Prod.mk.injEq] at H
   obtain ⟨rfl, rfl⟩ := H
   go_enter Tryz.func82, Tryz.ntmps82
   go_wp2
   go_ret2
   exact ⟨by first | rfl | (simp; done) | (simp [*]; done), by repeat (first | exact Drawn0.refl _ | apply Drawn0.step)⟩
  ·rw [if_neg c3] at H
   have c3b0 : decide (a0 < (-900000000000000)) = false := decide_eq_false c3
   clear c3
   simp only [Option.some.injEq, Prod.mk.injEq] at H
   obtain ⟨rfl, rfl⟩ := H
   go_enter Tryz.func82, Tryz.ntmps82
   go_wp2
   go_ret2
   exact ⟨by first | rfl | (simp; done) | (simp [*]; done), by repeat (first | exact Drawn0.refl _ | apply Drawn0.step)⟩
end Go.Proofs.YtcihleahjnpaaaaGreatDoor.P
namespace Go.Proofs.YtcihleahjnpaaaaGreatDoor.P
open Go.RowKit Go.Proofs.YtcihleahjnpaaaaGreatDoor.Q Go.Proofs.YtcihleahjnpaaaaGreatDoor.H Go.Proofs.YtcihleahjnpaaaaGreatDoorW.PrintWords Go.Proofs.YtcihleahjnpaaaaGreatDoorW.PrintLast Go.Proofs.YtcihleahjnpaaaaGreatDoorW.PrintMore
attribute [local go_sem] max2_int min2_int max_two min_two max_three min_three max_four min_four   -- for this text's walks alone
set_option linter.unusedVariables false
set_option linter.unusedSimpArgs false
def looks_whole.f (k : Nat) (a0 : Int) : Option (Int × Int × ByteArray × Bool × Int) := (fixed_Of.f a0).bind fun bt737 => ((value_N.f k bt737.1).bind fun bt739 => (some (bt739.1, bt739.2.1, bt739.2.2.1, bt739.2.2.2.1, bt739.2.2.2.2)))
set_option maxHeartbeats 8000000 in
set_option maxRecDepth 100000 in
theorem looks_whole.calls (k : Nat) (a0 : Int) (r1 : Int) (r2 : Int) (r3 : ByteArray) (r4 : Bool) (r5 : Int) (w : World) (h : looks_whole.f k a0 = some (r1, r2, r3, r4, r5)) :
  Calls Tryz.prog 61 #[.int .i64 a0] w fun e w' => e = .returned (.agg #[.int .i64 r1, .int .i64 r2, .string r3, .bool r4, .int .i64 r5]) ∧ Below w.heap.size w w' := by
 have hu29 := Tryz.underlying29
 have HB := Aside0.mk (Below.refl w.heap.size w)
 have H : ((fixed_Of.f a0).bind fun bt737 => ((value_N.f k bt737.1).bind fun bt739 => (some (bt739.1, bt739.2.1, bt739.2.2.1, bt739.2.2.2.1, bt739.2.2.2.2)))) = some (r1, r2, r3, r4, r5) := h
 clear h
 replace H := Option.bind_eq_some_iff.mp H
 obtain ⟨⟨t737, t738⟩, A20, H⟩ := H
 replace H : ((value_N.f k t737).bind fun bt739 => (some (bt739.1, bt739.2.1, bt739.2.2.1, bt739.2.2.2.1, bt739.2.2.2.2))) = some (r1, r2, r3, r4, r5) := H
 have A2 := Aside0.mk A20
 clear A20
 replace H := Option.bind_eq_some_iff.mp H
 obtain ⟨⟨t739, t740, t741, t742, t743⟩, A30, H⟩ := H
 replace H : (some (t739, t740, t741, t742, t743)) = some (r1, r2, r3, r4, r5) := H
 have A3 := Aside0.mk A30
 clear A30
 simp only [Option.some.injEq, Prod.mk.injEq] at H
 obtain ⟨rfl, rfl, rfl, rfl, rfl⟩ := H
 go_enter Tryz.func61, Tryz.ntmps61
 go_wp2_with (first | ((with_reducible refine gate_dst (N := 2) rfl ?_); refine bx (N := 2) (cs := #[.int .i64 0, .int .i64 0, .string (⟨#[]⟩ : ByteArray), .bool false, .int .i64 0]) (t := 29) ?_; intro gb736 hg w4 hbox hb; have BK736 := Aside0.mk (hbox); have GW736 := (bw hg); have GE736 := (bw hg); replace HB := (bs hb); clear hb hbox hg) | ((with_reducible refine gate_callee (f := 82) rfl ?_); refine gL (some 7) Tryz.func82 #[.int .i64 a0] ?_; (with_reducible refine (fixed_Of.calls a0 t737 t738 _ A2.out).mono ?_); rintro e w' ⟨rfl, ⟨nd, rfl⟩⟩; refine ⟨_, rfl, ?_⟩; (try (rw [drewN_self w4]; generalize hq_ : World.drewN w4 _ = w4; have n0_ : Aside0 (w4.heap[gb736]? = some (.cells #[.int .i64 0, .int .i64 0, .string (⟨#[]⟩ : ByteArray), .bool false, .int .i64 0] 29 (0, 0))) := ⟨by rw [← hq_]; exact (by (with_reducible repeat (first | refine blk_drewN ?_ _ | refine blk_drew ?_ | refine blk_alloc ?_ _)); exact BK736.out)⟩; have n1_ : Aside0 (Below w.heap.size w w4) := ⟨by rw [← hq_]; exact be⟩; clear BK736 HB hq_; have BK736 := n0_; have HB := n1_; clear n0_ n1_))) | ((with_reducible refine gate_callee (f := 29) rfl ?_); refine gL (some 11) Tryz.func29 #[.int .i64 t737] ?_; (with_reducible refine (value_N.calls k t737 t739 t740 t741 t742 t743 _ A3.out).mono ?_); rintro e w5 ⟨rfl, hb⟩; refine ⟨_, rfl, ?_⟩; replace BK736 := (bb BK736 hb); replace HB := (bs hb); (try clear hb); obtain ⟨hcz6_0, hcz6_1, hcz6_2, hcz6_3, hcz6_4, hfz6_0, hfz6_1, hfz6_2, hfz6_3, hfz6_4⟩ := bc5 BK736))
 refine bodyPost_ret (results_cell_row rfl _ _ gb736 29 #[.int .i64 t739, .int .i64 t740, .string t741, .bool t742, .int .i64 t743] (0, 0) _ rfl (by (with_reducible repeat (first | refine blk_drewN ?_ _ | refine blk_drew ?_ | refine blk_alloc ?_ _)); refine blk_put (cs := #[.int .i64 t739, .int .i64 t740, .string t741, .bool t742, .int .i64 0]) ?_ 4 _ rfl; (with_reducible repeat (first | refine blk_drewN ?_ _ | refine blk_drew ?_ | refine blk_alloc ?_ _)); refine blk_put (cs := #[.int .i64 t739, .int .i64 t740, .string t741, .bool false, .int .i64 0]) ?_ 3 _ rfl; (with_reducible repeat (first | refine blk_drewN ?_ _ | refine blk_drew ?_ | refine blk_alloc ?_ _)); refine blk_put (cs := #[.int .i64 t739, .int .i64 t740, .string (⟨#[]⟩ : ByteArray), .bool false, .int .i64 0]) ?_ 2 _ rfl; (with_reducible repeat (first | refine blk_drewN ?_ _ | refine blk_drew ?_ | refine blk_alloc ?_ _)); refine blk_put (cs := #[.int .i64 t739, .int .i64 0, .string (⟨#[]⟩ : ByteArray), .bool false, .int .i64 0]) ?_ 1 _ rfl; (with_reducible repeat (first | refine blk_drewN ?_ _ | refine blk_drew ?_ | refine blk_alloc ?_ _)); refine blk_put (cs := #[.int .i64 0, .int .i64 0, .string (⟨#[]⟩ : ByteArray), .bool false, .int .i64 0]) ?_ 0 _ rfl; (with_reducible repeat (first | refine blk_drewN ?_ _ | refine blk_drew ?_ | refine blk_alloc ?_ _)); exact BK736.out) Tryz.underlying29 rfl (by kernel_rfl)) rfl ?_
 exact ⟨by first | rfl | (simp [errW_none, errW_some] <;> rfl) | (simp [*, errW_none, errW_some] <;> rfl), be⟩
end Go.Proofs.YtcihleahjnpaaaaGreatDoor.P
namespace Go.Proofs.YtcihleahjnpaaaaGreatDoor.P
open Go.RowKit Go.Proofs.YtcihleahjnpaaaaGreatDoor.Q Go.Proofs.YtcihleahjnpaaaaGreatDoor.H Go.Proofs.YtcihleahjnpaaaaGreatDoorW.PrintWords Go.Proofs.YtcihleahjnpaaaaGreatDoorW.PrintLast Go.Proofs.YtcihleahjnpaaaaGreatDoorW.PrintMore
attribute [local go_sem] max2_int min2_int max_two min_two max_three min_three max_four min_four   -- for this text's walks alone
set_option linter.unusedVariables false
set_option linter.unusedSimpArgs false
def looks_way.f (a0 : Int) : Option (Int) := if a0 > 0 then (some 1) else (if a0 < 0 then (some (-1)) else (some 0))
set_option maxHeartbeats 8000000 in
set_option maxRecDepth 100000 in
theorem looks_way.calls (a0 : Int) (r : Int) (w : World) (h : looks_way.f a0 = some r) :
  Calls Tryz.prog 78 #[.int .i64 a0] w fun e w' => e = .returned (.int .i64 r) ∧ Drawn0 w w' := by
 have H : (if a0 > 0 then (some 1) else (if a0 < 0 then (some (-1)) else (some 0))) = some r := h
 clear h
 by_cases c2 : a0 > 0
 ·rw [if_pos c2] at H
  have c2b0 : decide (0 < a0) = true := decide_eq_true c2
  clear c2
  obtain rfl := Option.some.inj H
  go_enter Tryz.func78, Tryz.ntmps78
  go_wp2
  go_ret
  exact ⟨by first | rfl | (simp; done) | (simp [*]; done), by repeat (first | exact Drawn0.refl _ | apply Drawn0.step)⟩
 ·rw [if_neg c2] at H
  have c2b0 : decide (0 < a0) = false := decide_eq_false c2
  clear c2
  by_cases c3 : a0 < 0
  ·rw [if_pos c3] at H
   have c3b0 : decide (a0 < 0) = true := decide_eq_true c3
   clear c3
   obtain rfl := Option.some.inj H
   go_enter Tryz.func78, Tryz.ntmps78
   go_wp2
   go_ret
   exact ⟨by first | rfl | (simp; done) | (simp [*]; done), by repeat (first | exact Drawn0.refl _ | apply Drawn0.step)⟩
  ·rw [if_neg c3] at H
   have c3b0 : decide (a0 < 0) = false := decide_eq_false c3
   clear c3
   obtain rfl := Option.some.inj H
   go_enter Tryz.func78, Tryz.ntmps78
   go_wp2
   go_ret
   exact ⟨by first | rfl | (simp; done) | (simp [*]; done), by repeat (first | exact Drawn0.refl _ | apply Drawn0.step)⟩
end Go.Proofs.YtcihleahjnpaaaaGreatDoor.P
namespace Go.Proofs.YtcihleahjnpaaaaGreatDoor.P
open Go.RowKit Go.Proofs.YtcihleahjnpaaaaGreatDoor.Q Go.Proofs.YtcihleahjnpaaaaGreatDoor.H Go.Proofs.YtcihleahjnpaaaaGreatDoorW.PrintWords Go.Proofs.YtcihleahjnpaaaaGreatDoorW.PrintLast Go.Proofs.YtcihleahjnpaaaaGreatDoorW.PrintMore
attribute [local go_sem] max2_int min2_int max_two min_two max_three min_three max_four min_four   -- for this text's walks alone
set_option linter.unusedVariables false
set_option linter.unusedSimpArgs false
def looks_table_at.f (l0_0 : List (S29)) (a0_1 : Int) (a0_2 : Int) (a1 : Int) (a2 : Int) : Option (Int × Int × ByteArray × Bool × Int) := if a1 < 1 then ((value_E.f 4).bind fun bt746 => (some (bt746.1, bt746.2.1, bt746.2.2.1, bt746.2.2.2.1, bt746.2.2.2.2))) else (if a1 > a0_1 then ((value_E.f 4).bind fun bt751 => (some (bt751.1, bt751.2.1, bt751.2.2.1, bt751.2.2.2.1, bt751.2.2.2.2))) else (if a2 < 1 then ((value_E.f 4).bind fun bt756 => (some (bt756.1, bt756.2.1, bt756.2.2.1, bt756.2.2.2.1, bt756.2.2.2.2))) else (if a2 > a0_2 then ((value_E.f 4).bind fun bt761 => (some (bt761.1, bt761.2.1, bt761.2.2.1, bt761.2.2.2.1, bt761.2.2.2.2))) else (if 0 ≤ (wrap64 ((wrap64 ((wrap64 ((wrap64 (a1 - 1)) * a0_2)) + a2)) - 1)) then (if (wrap64 ((wrap64 ((wrap64 ((wrap64 (a1 - 1)) * a0_2)) + a2)) - 1)) < (l0_0.length : Int) then (some ((rd_T29 l0_0 (wrap64 ((wrap64 ((wrap64 ((wrap64 (a1 - 1)) * a0_2)) + a2)) - 1))).f0, (rd_T29 l0_0 (wrap64 ((wrap64 ((wrap64 ((wrap64 (a1 - 1)) * a0_2)) + a2)) - 1))).f1, (rd_T29 l0_0 (wrap64 ((wrap64 ((wrap64 ((wrap64 (a1 - 1)) * a0_2)) + a2)) - 1))).f2, (rd_T29 l0_0 (wrap64 ((wrap64 ((wrap64 ((wrap64 (a1 - 1)) * a0_2)) + a2)) - 1))).f3, (rd_T29 l0_0 (wrap64 ((wrap64 ((wrap64 ((wrap64 (a1 - 1)) * a0_2)) + a2)) - 1))).f4)) else (none)) else (none)))))
set_option maxHeartbeats 8000000 in
set_option maxRecDepth 100000 in
theorem looks_table_at.calls (A0_0 : Option Addr) (c0_0 : Nat) (l0_0 : List (S29)) (a0_1 : Int) (a0_2 : Int) (a1 : Int) (a2 : Int) (r1 : Int) (r2 : Int) (r3 : ByteArray) (r4 : Bool) (r5 : Int) (w : World) (hr0_0 : Kd.C k29 w A0_0 l0_0.length l0_0) (hc0_0 : l0_0.length ≤ c0_0) (h : looks_table_at.f l0_0 a0_1 a0_2 a1 a2 = some (r1, r2, r3, r4, r5)) :
  Calls Tryz.prog 79 #[.agg #[.slice A0_0 l0_0.length c0_0, .int .i64 a0_1, .int .i64 a0_2], .int .i64 a1, .int .i64 a2] w fun e w' => e = .returned (.agg #[.int .i64 r1, .int .i64 r2, .string r3, .bool r4, .int .i64 r5]) ∧ Below w.heap.size w w' := by
 have hu110 := Tryz.underlying110
 have hu29 := Tryz.underlying29
 have HR0_0 := Aside0.mk hr0_0
 have HC0_0 := Aside0.mk hc0_0
 clear hr0_0 hc0_0
 have HB := Aside0.mk (Below.refl w.heap.size w)
 have H : (if a1 < 1 then ((value_E.f 4).bind fun bt746 => (some (bt746.1, bt746.2.1, bt746.2.2.1, bt746.2.2.2.1, bt746.2.2.2.2))) else (if a1 > a0_1 then ((value_E.f 4).bind fun bt751 => (some (bt751.1, bt751.2.1, bt751.2.2.1, bt751.2.2.2.1, bt751.2.2.2.2))) else (if a2 < 1 then ((value_E.f 4).bind fun bt756 => (some (bt756.1, bt756.2.1, bt756.2.2.1, bt756.2.2.2.1, bt756.2.2.2.2))) else (if a2 > a0_2 then ((value_E.f 4).bind fun bt761 => (some (bt761.1, bt761.2.1, bt761.2.2.1, bt761.2.2.2.1, bt761.2.2.2.2))) else (if 0 ≤ (wrap64 ((wrap64 ((wrap64 ((wrap64 (a1 - 1)) * a0_2)) + a2)) - 1)) then (if (wrap64 ((wrap64 ((wrap64 ((wrap64 (a1 - 1)) * a0_2)) + a2)) - 1)) < (l0_0.length : Int) then (some ((rd_T29 l0_0 (wrap64 ((wrap64 ((wrap64 ((wrap64 (a1 - 1)) * a0_2)) + a2)) - 1))).f0, (rd_T29 l0_0 (wrap64 ((wrap64 ((wrap64 ((wrap64 (a1 - 1)) * a0_2)) + a2)) - 1))).f1, (rd_T29 l0_0 (wrap64 ((wrap64 ((wrap64 ((wrap64 (a1 - 1)) * a0_2)) + a2)) - 1))).f2, (rd_T29 l0_0 (wrap64 ((wrap64 ((wrap64 ((wrap64 (a1 - 1)) * a0_2)) + a2)) - 1))).f3, (rd_T29 l0_0 (wrap64 ((wrap64 ((wrap64 ((wrap64 (a1 - 1)) * a0_2)) + a2)) - 1))).f4)) else (none)) else (none)))))) = some (r1, r2, r3, r4, r5) := h
 clear h
 by_cases c4 : a1 < 1
 ·rw [if_pos c4] at H
  have c4b0 : decide (a1 < 1) = true := decide_eq_true c4
  clear c4
  replace H := Option.bind_eq_some_iff.mp H
  obtain ⟨⟨t746, t747, t748, t749, t750⟩, A50, H⟩ := H
  replace H : (some (t746, t747, t748, t749, t750)) = some (r1, r2, r3, r4, r5) := H
  have A5 := Aside0.mk A50
  clear A50
  simp only [Option.some.injEq, Prod.mk.injEq] at H
  obtain ⟨rfl, rfl, rfl, rfl, rfl⟩ := H
  go_enter Tryz.func79, Tryz.ntmps79
  go_wp2_with (first | ((with_reducible refine gate_dst (N := 3) rfl ?_); refine bx (N := 3) (cs := #[.slice A0_0 l0_0.length c0_0, .int .i64 a0_1, .int .i64 a0_2]) (t := 110) ?_; intro gb744 hg w6 hbox hb; have BK744 := Aside0.mk (hbox); have GW744 := (bw hg); have GE744 := (bw hg); replace HB := (bs hb); clear hb hbox hg) | ((with_reducible refine gate_dst (N := 6) rfl ?_); refine bx (N := 6) (cs := #[.int .i64 0, .int .i64 0, .string (⟨#[]⟩ : ByteArray), .bool false, .int .i64 0]) (t := 29) ?_; intro gb745 hg w7 hbox hb; have BK745 := Aside0.mk (hbox); have GW745 := (bw hg); have GE745 := (bw hg); replace HB := (bs hb); have NB744_745 := Aside0.mk ((by rw [hg]; exact Nat.ne_of_lt (blk_lt (g := gb744) (o := .cells #[.slice A0_0 l0_0.length c0_0, .int .i64 a0_1, .int .i64 a0_2] 110 (0, 0)) (by (with_reducible repeat (first | refine blk_drewN ?_ _ | refine blk_drew ?_ | refine blk_alloc ?_ _)); exact BK744.out)) : gb744 ≠ gb745)); have NB745_744 := Aside0.mk ((by rw [hg]; exact Nat.ne_of_gt (blk_lt (g := gb744) (o := .cells #[.slice A0_0 l0_0.length c0_0, .int .i64 a0_1, .int .i64 a0_2] 110 (0, 0)) (by (with_reducible repeat (first | refine blk_drewN ?_ _ | refine blk_drew ?_ | refine blk_alloc ?_ _)); exact BK744.out)) : gb745 ≠ gb744)); replace BK744 := (bb BK744 hb); clear hb hbox hg) | ((with_reducible refine gate_callee (f := 25) rfl ?_); refine gL (some 25) Tryz.func25 #[.int .i64 4] ?_; (with_reducible refine (value_E.calls 4 t746 t747 t748 t749 t750 _ A5.out).mono ?_); rintro e w8 ⟨rfl, hb⟩; refine ⟨_, rfl, ?_⟩; replace BK744 := (bb BK744 hb); replace BK745 := (bb BK745 hb); replace HB := (bs hb); (try clear hb); have hnb9 := NB745_744.out; have hnc9 := NB744_745.out; obtain ⟨hcz10_0, hcz10_1, hcz10_2, hcz10_3, hcz10_4, hfz10_0, hfz10_1, hfz10_2, hfz10_3, hfz10_4⟩ := bc5 BK745))
  refine bodyPost_ret (results_cell_row rfl _ _ gb745 29 #[.int .i64 t746, .int .i64 t747, .string t748, .bool t749, .int .i64 t750] (0, 0) _ rfl (by (with_reducible repeat (first | refine blk_drewN ?_ _ | refine blk_drew ?_ | refine blk_alloc ?_ _)); refine blk_put (cs := #[.int .i64 t746, .int .i64 t747, .string t748, .bool t749, .int .i64 0]) ?_ 4 _ rfl; (with_reducible repeat (first | refine blk_drewN ?_ _ | refine blk_drew ?_ | refine blk_alloc ?_ _)); refine blk_put (cs := #[.int .i64 t746, .int .i64 t747, .string t748, .bool false, .int .i64 0]) ?_ 3 _ rfl; (with_reducible repeat (first | refine blk_drewN ?_ _ | refine blk_drew ?_ | refine blk_alloc ?_ _)); refine blk_put (cs := #[.int .i64 t746, .int .i64 t747, .string (⟨#[]⟩ : ByteArray), .bool false, .int .i64 0]) ?_ 2 _ rfl; (with_reducible repeat (first | refine blk_drewN ?_ _ | refine blk_drew ?_ | refine blk_alloc ?_ _)); refine blk_put (cs := #[.int .i64 t746, .int .i64 0, .string (⟨#[]⟩ : ByteArray), .bool false, .int .i64 0]) ?_ 1 _ rfl; (with_reducible repeat (first | refine blk_drewN ?_ _ | refine blk_drew ?_ | refine blk_alloc ?_ _)); refine blk_put (cs := #[.int .i64 0, .int .i64 0, .string (⟨#[]⟩ : ByteArray), .bool false, .int .i64 0]) ?_ 0 _ rfl; (with_reducible repeat (first | refine blk_drewN ?_ _ | refine blk_drew ?_ | refine blk_alloc ?_ _)); exact BK745.out) Tryz.underlying29 rfl (by kernel_rfl)) rfl ?_
  exact ⟨by first | rfl | (simp [errW_none, errW_some] <;> rfl) | (simp [*, errW_none, errW_some] <;> rfl), be⟩
 ·rw [if_neg c4] at H
  have c4b0 : decide (a1 < 1) = false := decide_eq_false c4
  clear c4
  by_cases c11 : a1 > a0_1
  ·rw [if_pos c11] at H
   have c11b0 : decide (a0_1 < a1) = true := decide_eq_true c11
   clear c11
   replace H := Option.bind_eq_some_iff.mp H
   obtain ⟨⟨t751, t752, t753, t754, t755⟩, A120, H⟩ := H
   replace H : (some (t751, t752, t753, t754, t755)) = some (r1, r2, r3, r4, r5) := H
   have A12 := Aside0.mk A120
   clear A120
   simp only [Option.some.injEq, Prod.mk.injEq] at H
   obtain ⟨rfl, rfl, rfl, rfl, rfl⟩ := H
   go_enter Tryz.func79, Tryz.ntmps79
   go_wp2_with (first | ((with_reducible refine gate_dst (N := 3) rfl ?_); refine bx (N := 3) (cs := #[.slice A0_0 l0_0.length c0_0, .int .i64 a0_1, .int .i64 a0_2]) (t := 110) ?_; intro gb744 hg w13 hbox hb; have BK744 := Aside0.mk (hbox); have GW744 := (bw hg); have GE744 := (bw hg); replace HB := (bs hb); clear hb hbox hg) | ((with_reducible refine gate_dst (N := 6) rfl ?_); refine bx (N := 6) (cs := #[.int .i64 0, .int .i64 0, .string (⟨#[]⟩ : ByteArray), .bool false, .int .i64 0]) (t := 29) ?_; intro gb745 hg w14 hbox hb; have BK745 := Aside0.mk (hbox); have GW745 := (bw hg); have GE745 := (bw hg); replace HB := (bs hb); have NB744_745 := Aside0.mk ((by rw [hg]; exact Nat.ne_of_lt (blk_lt (g := gb744) (o := .cells #[.slice A0_0 l0_0.length c0_0, .int .i64 a0_1, .int .i64 a0_2] 110 (0, 0)) (by (with_reducible repeat (first | refine blk_drewN ?_ _ | refine blk_drew ?_ | refine blk_alloc ?_ _)); exact BK744.out)) : gb744 ≠ gb745)); have NB745_744 := Aside0.mk ((by rw [hg]; exact Nat.ne_of_gt (blk_lt (g := gb744) (o := .cells #[.slice A0_0 l0_0.length c0_0, .int .i64 a0_1, .int .i64 a0_2] 110 (0, 0)) (by (with_reducible repeat (first | refine blk_drewN ?_ _ | refine blk_drew ?_ | refine blk_alloc ?_ _)); exact BK744.out)) : gb745 ≠ gb744)); replace BK744 := (bb BK744 hb); clear hb hbox hg; have hnb15 := NB744_745.out; have hnc15 := NB745_744.out; obtain ⟨hcz16_0, hcz16_1, hcz16_2, hfz16_0, hfz16_1, hfz16_2⟩ := bc3 BK744) | ((with_reducible refine gate_callee (f := 25) rfl ?_); refine gL (some 25) Tryz.func25 #[.int .i64 4] ?_; (with_reducible refine (value_E.calls 4 t751 t752 t753 t754 t755 _ A12.out).mono ?_); rintro e w17 ⟨rfl, hb⟩; refine ⟨_, rfl, ?_⟩; replace BK744 := (bb BK744 hb); replace BK745 := (bb BK745 hb); replace HB := (bs hb); (try clear hb); obtain ⟨hcz18_0, hcz18_1, hcz18_2, hcz18_3, hcz18_4, hfz18_0, hfz18_1, hfz18_2, hfz18_3, hfz18_4⟩ := bc5 BK745))
   refine bodyPost_ret (results_cell_row rfl _ _ gb745 29 #[.int .i64 t751, .int .i64 t752, .string t753, .bool t754, .int .i64 t755] (0, 0) _ rfl (by (with_reducible repeat (first | refine blk_drewN ?_ _ | refine blk_drew ?_ | refine blk_alloc ?_ _)); refine blk_put (cs := #[.int .i64 t751, .int .i64 t752, .string t753, .bool t754, .int .i64 0]) ?_ 4 _ rfl; (with_reducible repeat (first | refine blk_drewN ?_ _ | refine blk_drew ?_ | refine blk_alloc ?_ _)); refine blk_put (cs := #[.int .i64 t751, .int .i64 t752, .string t753, .bool false, .int .i64 0]) ?_ 3 _ rfl; (with_reducible repeat (first | refine blk_drewN ?_ _ | refine blk_drew ?_ | refine blk_alloc ?_ _)); refine blk_put (cs := #[.int .i64 t751, .int .i64 t752, .string (⟨#[]⟩ : ByteArray), .bool false, .int .i64 0]) ?_ 2 _ rfl; (with_reducible repeat (first | refine blk_drewN ?_ _ | refine blk_drew ?_ | refine blk_alloc ?_ _)); refine blk_put (cs := #[.int .i64 t751, .int .i64 0, .string (⟨#[]⟩ : ByteArray), .bool false, .int .i64 0]) ?_ 1 _ rfl; (with_reducible repeat (first | refine blk_drewN ?_ _ | refine blk_drew ?_ | refine blk_alloc ?_ _)); refine blk_put (cs := #[.int .i64 0, .int .i64 0, .string (⟨#[]⟩ : ByteArray), .bool false, .int .i64 0]) ?_ 0 _ rfl; (with_reducible repeat (first | refine blk_drewN ?_ _ | refine blk_drew ?_ | refine blk_alloc ?_ _)); exact BK745.out) Tryz.underlying29 rfl (by kernel_rfl)) rfl ?_
   exact ⟨by first | rfl | (simp [errW_none, errW_some] <;> rfl) | (simp [*, errW_none, errW_some] <;> rfl), be⟩
  ·rw [if_neg c11] at H
   have c11b0 : decide (a0_1 < a1) = false := decide_eq_false c11
   clear c11
   by_cases c19 : a2 < 1
   ·rw [if_pos c19] at H
    have c19b0 : decide (a2 < 1) = true := decide_eq_true c19
    clear c19
    replace H := Option.bind_eq_some_iff.mp H
    obtain ⟨⟨t756, t757, t758, t759, t760⟩, A200, H⟩ := H
    replace H : (some (t756, t757, t758, t759, t760)) = some (r1, r2, r3, r4, r5) := H
    have A20 := Aside0.mk A200
    clear A200
    simp only [Option.some.injEq, Prod.mk.injEq] at H
    obtain ⟨rfl, rfl, rfl, rfl, rfl⟩ := H
    go_enter Tryz.func79, Tryz.ntmps79
    go_wp2_with (first | ((with_reducible refine gate_dst (N := 3) rfl ?_); refine bx (N := 3) (cs := #[.slice A0_0 l0_0.length c0_0, .int .i64 a0_1, .int .i64 a0_2]) (t := 110) ?_; intro gb744 hg w21 hbox hb; have BK744 := Aside0.mk (hbox); have GW744 := (bw hg); have GE744 := (bw hg); replace HB := (bs hb); clear hb hbox hg) | ((with_reducible refine gate_dst (N := 6) rfl ?_); refine bx (N := 6) (cs := #[.int .i64 0, .int .i64 0, .string (⟨#[]⟩ : ByteArray), .bool false, .int .i64 0]) (t := 29) ?_; intro gb745 hg w22 hbox hb; have BK745 := Aside0.mk (hbox); have GW745 := (bw hg); have GE745 := (bw hg); replace HB := (bs hb); have NB744_745 := Aside0.mk ((by rw [hg]; exact Nat.ne_of_lt (blk_lt (g := gb744) (o := .cells #[.slice A0_0 l0_0.length c0_0, .int .i64 a0_1, .int .i64 a0_2] 110 (0, 0)) (by (with_reducible repeat (first | refine blk_drewN ?_ _ | refine blk_drew ?_ | refine blk_alloc ?_ _)); exact BK744.out)) : gb744 ≠ gb745)); have NB745_744 := Aside0.mk ((by rw [hg]; exact Nat.ne_of_gt (blk_lt (g := gb744) (o := .cells #[.slice A0_0 l0_0.length c0_0, .int .i64 a0_1, .int .i64 a0_2] 110 (0, 0)) (by (with_reducible repeat (first | refine blk_drewN ?_ _ | refine blk_drew ?_ | refine blk_alloc ?_ _)); exact BK744.out)) : gb745 ≠ gb744)); replace BK744 := (bb BK744 hb); clear hb hbox hg; have hnb23 := NB744_745.out; have hnc23 := NB745_744.out; obtain ⟨hcz24_0, hcz24_1, hcz24_2, hfz24_0, hfz24_1, hfz24_2⟩ := bc3 BK744) | ((with_reducible refine gate_callee (f := 25) rfl ?_); refine gL (some 25) Tryz.func25 #[.int .i64 4] ?_; (with_reducible refine (value_E.calls 4 t756 t757 t758 t759 t760 _ A20.out).mono ?_); rintro e w25 ⟨rfl, hb⟩; refine ⟨_, rfl, ?_⟩; replace BK744 := (bb BK744 hb); replace BK745 := (bb BK745 hb); replace HB := (bs hb); (try clear hb); obtain ⟨hcz26_0, hcz26_1, hcz26_2, hcz26_3, hcz26_4, hfz26_0, hfz26_1, hfz26_2, hfz26_3, hfz26_4⟩ := bc5 BK745))
    refine bodyPost_ret (results_cell_row rfl _ _ gb745 29 #[.int .i64 t756, .int .i64 t757, .string t758, .bool t759, .int .i64 t760] (0, 0) _ rfl (by (with_reducible repeat (first | refine blk_drewN ?_ _ | refine blk_drew ?_ | refine blk_alloc ?_ _)); refine blk_put (cs := #[.int .i64 t756, .int .i64 t757, .string t758, .bool t759, .int .i64 0]) ?_ 4 _ rfl; (with_reducible repeat (first | refine blk_drewN ?_ _ | refine blk_drew ?_ | refine blk_alloc ?_ _)); refine blk_put (cs := #[.int .i64 t756, .int .i64 t757, .string t758, .bool false, .int .i64 0]) ?_ 3 _ rfl; (with_reducible repeat (first | refine blk_drewN ?_ _ | refine blk_drew ?_ | refine blk_alloc ?_ _)); refine blk_put (cs := #[.int .i64 t756, .int .i64 t757, .string (⟨#[]⟩ : ByteArray), .bool false, .int .i64 0]) ?_ 2 _ rfl; (with_reducible repeat (first | refine blk_drewN ?_ _ | refine blk_drew ?_ | refine blk_alloc ?_ _)); refine blk_put (cs := #[.int .i64 t756, .int .i64 0, .string (⟨#[]⟩ : ByteArray), .bool false, .int .i64 0]) ?_ 1 _ rfl; (with_reducible repeat (first | refine blk_drewN ?_ _ | refine blk_drew ?_ | refine blk_alloc ?_ _)); refine blk_put (cs := #[.int .i64 0, .int .i64 0, .string (⟨#[]⟩ : ByteArray), .bool false, .int .i64 0]) ?_ 0 _ rfl; (with_reducible repeat (first | refine blk_drewN ?_ _ | refine blk_drew ?_ | refine blk_alloc ?_ _)); exact BK745.out) Tryz.underlying29 rfl (by kernel_rfl)) rfl ?_
    exact ⟨by first | rfl | (simp [errW_none, errW_some] <;> rfl) | (simp [*, errW_none, errW_some] <;> rfl), be⟩
   ·rw [if_neg c19] at H
    have c19b0 : decide (a2 < 1) = false := decide_eq_false c19
    clear c19
    by_cases c27 : a2 > a0_2
    ·rw [if_pos c27] at H
     have c27b0 : decide (a0_2 < a2) = true := decide_eq_true c27
     clear c27
     replace H := Option.bind_eq_some_iff.mp H
     obtain ⟨⟨t761, t762, t763, t764, t765⟩, A280, H⟩ := H
     replace H : (some (t761, t762, t763, t764, t765)) = some (r1, r2, r3, r4, r5) := H
     have A28 := Aside0.mk A280
     clear A280
     simp only [Option.some.injEq, Prod.mk.injEq] at H
     obtain ⟨rfl, rfl, rfl, rfl, rfl⟩ := H
     go_enter Tryz.func79, Tryz.ntmps79
     go_wp2_with (first | ((with_reducible refine gate_dst (N := 3) rfl ?_); refine bx (N := 3) (cs := #[.slice A0_0 l0_0.length c0_0, .int .i64 a0_1, .int .i64 a0_2]) (t := 110) ?_; intro gb744 hg w29 hbox hb; have BK744 := Aside0.mk (hbox); have GW744 := (bw hg); have GE744 := (bw hg); replace HB := (bs hb); clear hb hbox hg) | ((with_reducible refine gate_dst (N := 6) rfl ?_); refine bx (N := 6) (cs := #[.int .i64 0, .int .i64 0, .string (⟨#[]⟩ : ByteArray), .bool false, .int .i64 0]) (t := 29) ?_; intro gb745 hg w30 hbox hb; have BK745 := Aside0.mk (hbox); have GW745 := (bw hg); have GE745 := (bw hg); replace HB := (bs hb); have NB744_745 := Aside0.mk ((by rw [hg]; exact Nat.ne_of_lt (blk_lt (g := gb744) (o := .cells #[.slice A0_0 l0_0.length c0_0, .int .i64 a0_1, .int .i64 a0_2] 110 (0, 0)) (by (with_reducible repeat (first | refine blk_drewN ?_ _ | refine blk_drew ?_ | refine blk_alloc ?_ _)); exact BK744.out)) : gb744 ≠ gb745)); have NB745_744 := Aside0.mk ((by rw [hg]; exact Nat.ne_of_gt (blk_lt (g := gb744) (o := .cells #[.slice A0_0 l0_0.length c0_0, .int .i64 a0_1, .int .i64 a0_2] 110 (0, 0)) (by (with_reducible repeat (first | refine blk_drewN ?_ _ | refine blk_drew ?_ | refine blk_alloc ?_ _)); exact BK744.out)) : gb745 ≠ gb744)); replace BK744 := (bb BK744 hb); clear hb hbox hg; have hnb31 := NB744_745.out; have hnc31 := NB745_744.out; obtain ⟨hcz32_0, hcz32_1, hcz32_2, hfz32_0, hfz32_1, hfz32_2⟩ := bc3 BK744) | ((with_reducible refine gate_callee (f := 25) rfl ?_); refine gL (some 25) Tryz.func25 #[.int .i64 4] ?_; (with_reducible refine (value_E.calls 4 t761 t762 t763 t764 t765 _ A28.out).mono ?_); rintro e w33 ⟨rfl, hb⟩; refine ⟨_, rfl, ?_⟩; replace BK744 := (bb BK744 hb); replace BK745 := (bb BK745 hb); replace HB := (bs hb); (try clear hb); obtain ⟨hcz34_0, hcz34_1, hcz34_2, hcz34_3, hcz34_4, hfz34_0, hfz34_1, hfz34_2, hfz34_3, hfz34_4⟩ := bc5 BK745))
     refine bodyPost_ret (results_cell_row rfl _ _ gb745 29 #[.int .i64 t761, .int .i64 t762, .string t763, .bool t764, .int .i64 t765] (0, 0) _ rfl (by (with_reducible repeat (first | refine blk_drewN ?_ _ | refine blk_drew ?_ | refine blk_alloc ?_ _)); refine blk_put (cs := #[.int .i64 t761, .int .i64 t762, .string t763, .bool t764, .int .i64 0]) ?_ 4 _ rfl; (with_reducible repeat (first | refine blk_drewN ?_ _ | refine blk_drew ?_ | refine blk_alloc ?_ _)); refine blk_put (cs := #[.int .i64 t761, .int .i64 t762, .string t763, .bool false, .int .i64 0]) ?_ 3 _ rfl; (with_reducible repeat (first | refine blk_drewN ?_ _ | refine blk_drew ?_ | refine blk_alloc ?_ _)); refine blk_put (cs := #[.int .i64 t761, .int .i64 t762, .string (⟨#[]⟩ : ByteArray), .bool false, .int .i64 0]) ?_ 2 _ rfl; (with_reducible repeat (first | refine blk_drewN ?_ _ | refine blk_drew ?_ | refine blk_alloc ?_ _)); refine blk_put (cs := #[.int .i64 t761, .int .i64 0, .string (⟨#[]⟩ : ByteArray), .bool false, .int .i64 0]) ?_ 1 _ rfl; (with_reducible repeat (first | refine blk_drewN ?_ _ | refine blk_drew ?_ | refine blk_alloc ?_ _)); refine blk_put (cs := #[.int .i64 0, .int .i64 0, .string (⟨#[]⟩ : ByteArray), .bool false, .int .i64 0]) ?_ 0 _ rfl; (with_reducible repeat (first | refine blk_drewN ?_ _ | refine blk_drew ?_ | refine blk_alloc ?_ _)); exact BK745.out) Tryz.underlying29 rfl (by kernel_rfl)) rfl ?_
     exact ⟨by first | rfl | (simp [errW_none, errW_some] <;> rfl) | (simp [*, errW_none, errW_some] <;> rfl), be⟩
    ·rw [if_neg c27] at H
     have c27b0 : decide (a0_2 < a2) = false := decide_eq_false c27
     clear c27
     obtain ⟨ji35, hji35⟩ : ∃ j_ : Int, (wrap64 ((wrap64 ((wrap64 ((wrap64 (a1 - 1)) * a0_2)) + a2)) - 1)) = j_ := ⟨_, rfl⟩
     replace H : (if 0 ≤ (ji35) then (if (ji35) < (l0_0.length : Int) then (some ((rd_T29 l0_0 (ji35)).f0, (rd_T29 l0_0 (ji35)).f1, (rd_T29 l0_0 (ji35)).f2, (rd_T29 l0_0 (ji35)).f3, (rd_T29 l0_0 (ji35)).f4)) else (none)) else (none)) = some (r1, r2, r3, r4, r5) := by first | (rw [hji35] at H; exact H) | (simp only [hji35] at H ⊢; exact H)
     have hji35w : (IntKind.i64.wrap ((wrap64 ((wrap64 ((wrap64 (a1 - 1)) * a0_2)) + a2)) - 1)) = ji35 := (i64_w _).trans hji35
     by_cases c36 : 0 ≤ (ji35)
     ·rw [if_pos c36] at H
      have c36b0 : decide (0 ≤ (ji35)) = true := decide_eq_true c36
      clear c36
      by_cases c37 : (ji35) < (l0_0.length : Int)
      ·rw [if_pos c37] at H
       have c37b0 : decide ((ji35) < (l0_0.length : Int)) = true := decide_eq_true c37
       clear c37
       simp only [Option.some.injEq, Prod.mk.injEq] at H
       obtain ⟨rfl, rfl, rfl, rfl, rfl⟩ := H
       go_enter Tryz.func79, Tryz.ntmps79
       go_wp2_with (first | ((with_reducible refine gate_dst (N := 3) rfl ?_); refine bx (N := 3) (cs := #[.slice A0_0 l0_0.length c0_0, .int .i64 a0_1, .int .i64 a0_2]) (t := 110) ?_; intro gb744 hg w38 hbox hb; have BK744 := Aside0.mk (hbox); have GW744 := (bw hg); have GE744 := (bw hg); replace HB := (bs hb); clear hb hbox hg) | ((with_reducible refine gate_dst (N := 6) rfl ?_); refine bx (N := 6) (cs := #[.int .i64 0, .int .i64 0, .string (⟨#[]⟩ : ByteArray), .bool false, .int .i64 0]) (t := 29) ?_; intro gb745 hg w39 hbox hb; have BK745 := Aside0.mk (hbox); have GW745 := (bw hg); have GE745 := (bw hg); replace HB := (bs hb); have NB744_745 := Aside0.mk ((by rw [hg]; exact Nat.ne_of_lt (blk_lt (g := gb744) (o := .cells #[.slice A0_0 l0_0.length c0_0, .int .i64 a0_1, .int .i64 a0_2] 110 (0, 0)) (by (with_reducible repeat (first | refine blk_drewN ?_ _ | refine blk_drew ?_ | refine blk_alloc ?_ _)); exact BK744.out)) : gb744 ≠ gb745)); have NB745_744 := Aside0.mk ((by rw [hg]; exact Nat.ne_of_gt (blk_lt (g := gb744) (o := .cells #[.slice A0_0 l0_0.length c0_0, .int .i64 a0_1, .int .i64 a0_2] 110 (0, 0)) (by (with_reducible repeat (first | refine blk_drewN ?_ _ | refine blk_drew ?_ | refine blk_alloc ?_ _)); exact BK744.out)) : gb745 ≠ gb744)); replace BK744 := (bb BK744 hb); clear hb hbox hg; have hnb40 := NB744_745.out; have hnc40 := NB745_744.out; obtain ⟨hcz41_0, hcz41_1, hcz41_2, hfz41_0, hfz41_1, hfz41_2⟩ := bc3 BK744; have p766 : 0 ≤ ((ji35) : Int) := of_decide_eq_true (by first | (with_reducible assumption) | assumption); have q766 : (ji35) < (l0_0.length : Int) := of_decide_eq_true (by first | (with_reducible assumption) | assumption); obtain ⟨ad766, e766, hx766_0, hx766_1, hx766_2, hx766_3, hx766_4⟩ := at_T29 HR0_0.out (ji35) p766 q766; cases e766; replace hx766_0 := (HB.out.cell (World.block_lt_of_cell? w _ hx766_0)).trans hx766_0; replace hx766_1 := (HB.out.cell (World.block_lt_of_cell? w _ hx766_1)).trans hx766_1; replace hx766_2 := (HB.out.cell (World.block_lt_of_cell? w _ hx766_2)).trans hx766_2; replace hx766_3 := (HB.out.cell (World.block_lt_of_cell? w _ hx766_3)).trans hx766_3; replace hx766_4 := (HB.out.cell (World.block_lt_of_cell? w _ hx766_4)).trans hx766_4; replace p766 := eq_true p766; replace q766 := eq_true q766; obtain ⟨hcz42_0, hcz42_1, hcz42_2, hcz42_3, hcz42_4, hfz42_0, hfz42_1, hfz42_2, hfz42_3, hfz42_4⟩ := bc5 BK745))
       refine bodyPost_ret (results_cell_row rfl _ _ gb745 29 #[.int .i64 ((rd_T29 l0_0 (ji35)).f0), .int .i64 ((rd_T29 l0_0 (ji35)).f1), .string ((rd_T29 l0_0 (ji35)).f2), .bool ((rd_T29 l0_0 (ji35)).f3), .int .i64 ((rd_T29 l0_0 (ji35)).f4)] (0, 0) _ rfl (by (with_reducible repeat (first | refine blk_drewN ?_ _ | refine blk_drew ?_ | refine blk_alloc ?_ _)); refine blk_put (cs := #[.int .i64 ((rd_T29 l0_0 (ji35)).f0), .int .i64 ((rd_T29 l0_0 (ji35)).f1), .string ((rd_T29 l0_0 (ji35)).f2), .bool ((rd_T29 l0_0 (ji35)).f3), .int .i64 0]) ?_ 4 _ rfl; (with_reducible repeat (first | refine blk_drewN ?_ _ | refine blk_drew ?_ | refine blk_alloc ?_ _)); refine blk_put (cs := #[.int .i64 ((rd_T29 l0_0 (ji35)).f0), .int .i64 ((rd_T29 l0_0 (ji35)).f1), .string ((rd_T29 l0_0 (ji35)).f2), .bool false, .int .i64 0]) ?_ 3 _ rfl; (with_reducible repeat (first | refine blk_drewN ?_ _ | refine blk_drew ?_ | refine blk_alloc ?_ _)); refine blk_put (cs := #[.int .i64 ((rd_T29 l0_0 (ji35)).f0), .int .i64 ((rd_T29 l0_0 (ji35)).f1), .string (⟨#[]⟩ : ByteArray), .bool false, .int .i64 0]) ?_ 2 _ rfl; (with_reducible repeat (first | refine blk_drewN ?_ _ | refine blk_drew ?_ | refine blk_alloc ?_ _)); refine blk_put (cs := #[.int .i64 ((rd_T29 l0_0 (ji35)).f0), .int .i64 0, .string (⟨#[]⟩ : ByteArray), .bool false, .int .i64 0]) ?_ 1 _ rfl; (with_reducible repeat (first | refine blk_drewN ?_ _ | refine blk_drew ?_ | refine blk_alloc ?_ _)); refine blk_put (cs := #[.int .i64 0, .int .i64 0, .string (⟨#[]⟩ : ByteArray), .bool false, .int .i64 0]) ?_ 0 _ rfl; (with_reducible repeat (first | refine blk_drewN ?_ _ | refine blk_drew ?_ | refine blk_alloc ?_ _)); exact BK745.out) Tryz.underlying29 rfl (by kernel_rfl)) rfl ?_
       exact ⟨by first | rfl | (simp [errW_none, errW_some] <;> rfl) | (simp only [← hji35]; first | rfl | (simp [errW_none, errW_some] <;> rfl)) | (simp [*, errW_none, errW_some] <;> rfl), be⟩
      ·rw [if_neg c37] at H
       exact absurd H (by simp)
     ·rw [if_neg c36] at H
      exact absurd H (by simp)
end Go.Proofs.YtcihleahjnpaaaaGreatDoor.P
namespace Go.Proofs.YtcihleahjnpaaaaGreatDoor.H
open Go.RowKit Go.Proofs.YtcihleahjnpaaaaGreatDoor.P Go.Proofs.YtcihleahjnpaaaaGreatDoor.T Go.Proofs.YtcihleahjnpaaaaGreatDoorW.PrintWords Go.Proofs.YtcihleahjnpaaaaGreatDoorW.PrintLast Go.Proofs.YtcihleahjnpaaaaGreatDoorW.PrintMore
set_option linter.unusedVariables false
set_option linter.unusedSimpArgs false
def placeL (x : V) (m : Int) : List V → Nat → Int → Int
  | [], _, a => a
  | v :: t, i, a =>
    if v.f0 ≠ x.f0 ∨ (ordV v x).2 ≠ 0 then placeL x m t (i + 1) a
    else if m = 0 ∧ (ordV v x).1 = 0 then ((i + 1 : Nat) : Int)
    else if (0 < m ∧ (ordV v x).1 ≤ 0) ∨ (m < 0 ∧ 0 ≤ (ordV v x).1) then placeL x m t (i + 1) ((i + 1 : Nat) : Int)
    else placeL x m t (i + 1) a
def placeS (x : V) (l : List V) (m : Int) : Int := if okV x = true ∧ x.f0 ≠ 4 then placeL x m l 0 0 else 0
theorem wrap_nat (i n : Nat) (h : i < n) (hn : n ≤ 4096) : wrap64 ((i : Int) + 1) = ((i + 1 : Nat) : Int) := by unfold wrap64; omega
theorem l0_eq (x : V) (m : Int) (l : List V) (hl : l.length ≤ 4096) : ∀ (d i : Nat) (a : Int) (K : Nat), l.length - i = d → i ≤ l.length → 4 * d + 1 ≤ K →
    looks_Place.l0 K m a l (l.length : Int) (i : Int) x.f0 x.f1 x.f2 x.f3 x.f4 = some (placeL x m (l.drop i) i a)
  | 0, i, a, K, hd, hi, hK => by
    have hi' : i = l.length := by omega
    subst hi'
    obtain ⟨K, rfl⟩ : ∃ k, K = k + 1 := ⟨K - 1, by omega⟩
    unfold looks_Place.l0
    rw [if_neg (by omega), List.drop_length]
    rfl
  | d + 1, i, a, K, hd, hi, hK => by
    have hlt : i < l.length := by omega
    obtain ⟨K, rfl⟩ : ∃ k, K = k + 4 := ⟨K - 4, by omega⟩
    have IH := fun b => l0_eq x m l hl d (i + 1) b
    have hw := wrap_nat i l.length hlt hl
    have hr : rd_T29 l (i : Int) = l[i] := by unfold rd_T29; simp [List.getD, hlt]
    have hdr : l.drop i = l[i] :: l.drop (i + 1) := List.drop_eq_getElem_cons hlt
    rw [hdr]
    unfold looks_Place.l0
    rw [if_pos (by omega), if_pos (by omega), if_pos (by omega), hr]
    generalize l[i] = v
    unfold placeL value_Order.f
    simp only [Option.bind_some]
    rw [show ordV ⟨v.f0, v.f1, v.f2, v.f3, v.f4⟩ ⟨x.f0, x.f1, x.f2, x.f3, x.f4⟩ = ordV v x from rfl]
    generalize ordV v x = o
    obtain ⟨o, f⟩ := o
    simp only
    by_cases h1 : v.f0 = x.f0
    · by_cases h2 : f = 0
      · subst h2
        rw [if_pos h1, if_neg (by simp [h1])]
        unfold looks_Place.j2
        rw [if_neg (by simp)]
        by_cases h3 : m = 0
        · subst h3
          rw [if_pos rfl]
          unfold looks_Place.j3
          by_cases h4 : o = 0
          · subst h4
            rw [if_pos (by simp), if_pos (by simp), hw]
          · rw [if_neg (by simpa using h4), if_neg (by simp), if_neg (by simpa using h4), if_neg (by omega)]
            unfold looks_Place.j4
            rw [if_neg (by simp), if_neg (by simp), hw]
            exact IH _ _ (by omega) (by omega) (by omega)
        · rw [if_neg h3]
          unfold looks_Place.j3
          rw [if_neg (by simp), if_neg (show ¬ (m = 0 ∧ o = 0) from fun h => h3 h.1)]
          by_cases h5 : m > 0
          · rw [if_pos h5]
            unfold looks_Place.j4
            by_cases h6 : o ≤ 0
            · rw [if_pos (by simpa using h6), if_pos (.inl ⟨h5, h6⟩), hw]
              exact IH _ _ (by omega) (by omega) (by omega)
            · rw [if_neg (by simpa using h6), if_neg (by omega), if_neg (by omega), hw]
              exact IH _ _ (by omega) (by omega) (by omega)
          · rw [if_neg h5]
            unfold looks_Place.j4
            rw [if_neg (by simp), if_pos (by omega), hw]
            by_cases h6 : o ≥ 0
            · rw [if_pos h6, if_pos (.inr ⟨by omega, h6⟩)]
              exact IH _ _ (by omega) (by omega) (by omega)
            · rw [if_neg h6, if_neg (by omega)]
              exact IH _ _ (by omega) (by omega) (by omega)
      · rw [if_pos h1, if_pos (.inr h2)]
        unfold looks_Place.j2
        rw [if_pos (by simpa using h2), hw]
        exact IH _ _ (by omega) (by omega) (by omega)
    · rw [if_neg h1, if_pos (.inl h1)]
      unfold looks_Place.j2
      rw [if_pos rfl, hw]
      exact IH _ _ (by omega) (by omega) (by omega)
theorem Place_f (x : V) (l : List V) (m : Int) (hl : l.length ≤ 4096) (K : Nat) : looks_Place.f (4 * l.length + 2 + K) x.f0 x.f1 x.f2 x.f3 x.f4 l m = some (placeS x l m) := by
  have h0 := fun k => l0_eq x m l hl l.length 0 0 k (by omega) (by omega)
  obtain ⟨K2, hK2⟩ : ∃ k, 4 * l.length + 2 + K = k + 2 := ⟨4 * l.length + K, by omega⟩
  unfold looks_Place.f placeS
  rw [hK2, Good_f x K2]
  simp only [Option.bind_some]
  by_cases h1 : okV x = true
  · rw [if_pos h1]
    by_cases h2 : x.f0 = 4
    · rw [show (x.f0 == 4) = true by simpa using h2, if_neg (fun h => h.2 h2)]
      simp [looks_Place.j0]
    · rw [show (x.f0 == 4) = false by simpa using h2, if_pos ⟨h1, h2⟩]
      simp only [looks_Place.j0]
      rw [if_neg (by simp)]
      exact h0 _ (by omega)
  · rw [if_neg h1, if_neg (fun h => h1 h.1)]
    simp [looks_Place.j0]
theorem place_any (x : V) (A : Option Addr) (c : Nat) (l : List V) (m : Int) (w : World) (hr : Kd.C kV w A l.length l) (hc : l.length ≤ c) (hl : l.length ≤ 4096) :
    Calls Tryz.prog 10 #[vv x, .slice A l.length c, .int .i64 m] w fun e w' => e = .returned (.int .i64 (placeS x l m)) ∧ Below w.heap.size w w' :=
  looks_Place.calls (4 * l.length + 2 + 0) x.f0 x.f1 x.f2 x.f3 x.f4 A c l m _ w hr hc (Place_f x l m hl 0)
theorem Below_drawn {w w' : World} (h : ∃ n, w' = w.drewN n) : Below w.heap.size w w' := by
  obtain ⟨n, rfl⟩ := h
  exact ⟨rfl, rfl, rfl, Nat.le_refl _, fun _ _ => rfl⟩
def wayS (m : Int) : Int := if m > 0 then 1 else if m < 0 then -1 else 0
theorem way_any (m : Int) (w : World) : Calls Tryz.prog 78 #[.int .i64 m] w fun e w' => e = .returned (.int .i64 (wayS m)) ∧ Below w.heap.size w w' :=
  (looks_way.calls m _ w (by unfold looks_way.f wayS; split; rfl; split <;> rfl)).mono fun _ _ h => ⟨h.1, Below_drawn h.2.out⟩
def wholeV (n : Int) : V := nV (n * 10000)
theorem whole_f (n : Int) (h0 : 0 ≤ n) (h1 : n ≤ 4096) (k : Nat) : looks_whole.f (k + 2) n = some (tup (wholeV n)) := by
  have hw : wrap64 (n * 10000) = n * 10000 := by unfold wrap64; omega
  unfold looks_whole.f fixed_Of.f wholeV
  rw [if_neg (by omega), if_neg (by omega), hw]
  simp only [Option.bind_some]
  rw [N_f]
  rfl
theorem wholev_any (n : Int) (h0 : 0 ≤ n) (h1 : n ≤ 4096) (w : World) : Calls Tryz.prog 61 #[.int .i64 n] w fun e w' => e = .returned (vv (wholeV n)) ∧ Below w.heap.size w w' :=
  looks_whole.calls 2 n _ _ _ _ _ w (whole_f n h0 h1 0)
def atS (a : AR) (row col : Int) : V := if 1 ≤ row ∧ row ≤ rowsA a ∧ 1 ≤ col ∧ col ≤ colsA a then a.f0.getD ((row - 1) * colsA a + col - 1).toNat zV else eV 4
theorem okA_len (a : AR) (h : okA a = true) : rowsA a * colsA a = (a.f0.length : Int) ∧ 1 ≤ colsA a ∧ 1 ≤ rowsA a ∧ a.f0.length ≤ 4096 := by
  unfold okA at h
  unfold rowsA colsA
  by_cases hw : a.f2 = true
  · rw [if_pos hw] at h
    simp only [Bool.and_eq_true, decide_eq_true_eq] at h
    obtain ⟨h1, h2, h3, h4⟩ := h
    rw [if_pos hw, if_pos hw]
    have h5 : (a.f0.length : Int) / a.f1 * a.f1 = a.f0.length := Int.ediv_mul_cancel (Int.dvd_of_emod_eq_zero h4)
    refine ⟨h5, by omega, ?_, h3⟩
    by_cases hz : 1 ≤ (a.f0.length : Int) / a.f1
    · exact hz
    · exfalso
      have : (a.f0.length : Int) / a.f1 * a.f1 ≤ 0 := Int.mul_nonpos_of_nonpos_of_nonneg (by omega) (by omega)
      omega
  · rw [if_neg hw] at h
    simp only [Bool.and_eq_true, beq_iff_eq] at h
    rw [if_neg hw, if_neg hw, h.1]
    decide
theorem cell_lt (a : AR) (h : okA a = true) (row col : Int) (h1 : 1 ≤ row) (h2 : row ≤ rowsA a) (h3 : 1 ≤ col) (h4 : col ≤ colsA a) :
    0 ≤ (row - 1) * colsA a ∧ (row - 1) * colsA a + col - 1 < (a.f0.length : Int) := by
  obtain ⟨e, hc, hr, hl⟩ := okA_len a h
  have p1 : 0 ≤ (row - 1) * colsA a := Int.mul_nonneg (by omega) (by omega)
  have p2 : (row - 1) * colsA a ≤ (rowsA a - 1) * colsA a := Int.mul_le_mul_of_nonneg_right (by omega) (by omega)
  have p3 : (rowsA a - 1) * colsA a = rowsA a * colsA a - colsA a := by rw [Int.sub_mul, Int.one_mul]
  omega
theorem at_f (a : AR) (h : okA a = true) (row col : Int) : looks_table_at.f a.f0 (rowsA a) (colsA a) row col = some (tup (atS a row col)) := by
  unfold looks_table_at.f atS
  rw [E_f]
  simp only [Option.bind_some]
  by_cases h1 : row < 1
  · rw [if_pos h1, if_neg (show ¬ (1 ≤ row ∧ _) from fun h => by omega)]
  rw [if_neg h1]
  by_cases h2 : row > rowsA a
  · rw [if_pos h2, if_neg (show ¬ (1 ≤ row ∧ row ≤ rowsA a ∧ _) from fun h => by omega)]
  rw [if_neg h2]
  by_cases h3 : col < 1
  · rw [if_pos h3, if_neg (show ¬ (1 ≤ row ∧ row ≤ rowsA a ∧ 1 ≤ col ∧ _) from fun h => by omega)]
  rw [if_neg h3]
  by_cases h4 : col > colsA a
  · rw [if_pos h4, if_neg (show ¬ (1 ≤ row ∧ row ≤ rowsA a ∧ 1 ≤ col ∧ col ≤ colsA a) from fun h => by omega)]
  rw [if_neg h4]
  obtain ⟨p1, p2⟩ := cell_lt a h row col (by omega) (by omega) (by omega) (by omega)
  obtain ⟨e, hc, hr, hl⟩ := okA_len a h
  have hrl : rowsA a ≤ 4096 := by
    have : rowsA a * 1 ≤ rowsA a * colsA a := Int.mul_le_mul_of_nonneg_left hc (by omega)
    omega
  have w1 : wrap64 (row - 1) = row - 1 := by unfold wrap64; omega
  rw [w1]
  generalize hz : (row - 1) * colsA a = z at *
  have w2 : wrap64 z = z := by unfold wrap64; omega
  have w3 : wrap64 (z + col) = z + col := by unfold wrap64; omega
  have w4 : wrap64 (z + col - 1) = z + col - 1 := by unfold wrap64; omega
  rw [w2, w3, w4, if_pos (by omega), if_pos (by omega), if_pos ⟨by omega, by omega, by omega, by omega⟩]
  rfl
theorem at_any (a : AR) (h : okA a = true) (row col : Int) (A : Option Addr) (c : Nat) (w : World) (hr : Kd.C kV w A a.f0.length a.f0) (hc : a.f0.length ≤ c) :
    Calls Tryz.prog 79 #[tbv A c a, .int .i64 row, .int .i64 col] w fun e w' => e = .returned (vv (atS a row col)) ∧ Below w.heap.size w w' :=
  looks_table_at.calls A c a.f0 _ _ row col _ _ _ _ _ w hr hc (at_f a h row col)
end Go.Proofs.YtcihleahjnpaaaaGreatDoor.H
