/- Texts of this claim, put together by a program of this session: Px3, Lists, Read, Sing, Thing, Table, Count. -/
import Derived.Test.YtcihleahjnpaaaaGreatDoorProg
import Derived.WalkLawsBesides
import Derived.BigQuiet
import Derived.Deep.QuietTactic
import Derived.Lib.Hide
import Derived.Outline
import Derived.Test.YtcihleahjnpaaaaGreatDoorC4
namespace Go.Proofs.YtcihleahjnpaaaaGreatDoor.P
open Go.RowKit Go.Proofs.YtcihleahjnpaaaaGreatDoor.Q Go.Proofs.YtcihleahjnpaaaaGreatDoor.H Go.Proofs.YtcihleahjnpaaaaGreatDoorW.PrintWords Go.Proofs.YtcihleahjnpaaaaGreatDoorW.PrintLast Go.Proofs.YtcihleahjnpaaaaGreatDoorW.PrintMore
attribute [local go_sem] max2_int min2_int max_two min_two max_three min_three max_four min_four   -- for this text's walks alone
set_option linter.unusedVariables false
set_option linter.unusedSimpArgs false
def latticelaw12_list.l0 : Nat → List (S29) → List (S30) → List (S23) → Int → Int → Option ((List (S29)) × (List (S30)))
 | 0, _, _, _, _, _ => none
 | k + 1, x4, x5, x14, x15, x16 => if x16 < x15 then (if 0 ≤ x16 then (if x16 < (x14.length : Int) then ((latticelaw12_values.f ((rd_T23 x14 x16).f0) ((rd_T23 x14 x16).f1) ((rd_T23 x14 x16).f2) ((rd_T23 x14 x16).f3) ((rd_T23 x14 x16).f4)).bind fun bt110 => ((some (([(⟨bt110.1, bt110.2.1, bt110.2.2.1, bt110.2.2.2.1, bt110.2.2.2.2.1⟩ : S29)] : List (S29)) : List (S29))).bind fun y122 => (if x4.length + y122.length < 2932031007402 then ((some (([(⟨bt110.2.2.2.2.2.1, bt110.2.2.2.2.2.2.1, bt110.2.2.2.2.2.2.2.1, bt110.2.2.2.2.2.2.2.2.1, bt110.2.2.2.2.2.2.2.2.2⟩ : S30)] : List (S30)) : List (S30))).bind fun y128 => (if x5.length + y128.length < 2932031007402 then (latticelaw12_list.l0 k (x4 ++ y122) (x5 ++ y128) x14 x15 (wrap64 (x16 + 1))) else (none))) else (none)))) else (none)) else (none)) else (some (x4, x5))
def latticelaw12_list.f (k : Nat) (l0 : List (S23)) : Option ((List (S29)) × (List (S30))) := if 0 ≤ (mn (l0.length : Int) 40) then (if (mn (l0.length : Int) 40) ≤ (l0.length : Int) then ((some (l0.take ((mn (l0.length : Int) 40) : Int).toNat : List (S23))).bind fun y104 => (latticelaw12_list.l0 k ([] : List (S29)) ([] : List (S30)) y104 (y104.length : Int) 0)) else (none)) else (none)
def latticelaw12_list.T7 : Bool × List (List Nat × List Nat) := (true, [([], []), ([], []), ([1], [1]), ([0, 2], [0, 2]), ([], []), ([], []), ([5], [5]), ([4, 6, 3], [4, 6]), ([3, 7, 0, 1, 2, 3], [0, 3]), ([7, 8, 0, 1, 2, 3, 4, 5, 6, 7, 8], [4, 7])])
def latticelaw12_list.B7 : List Nat := [0, 0, 2, 7, 0, 0, 32, 127, 255, 511]
theorem latticelaw12_list.tab7 : rtab .any (opsOf Tryz.f9 7) = latticelaw12_list.T7 := by kernel_rfl
theorem latticelaw12_list.bits7 : waitsOk latticelaw12_list.T7.2 latticelaw12_list.B7 = true := by kernel_rfl
set_option maxHeartbeats 8000000 in
set_option maxRecDepth 100000 in
theorem latticelaw12_list.calls (k : Nat) (A0 : Option Addr) (c0 : Nat) (l0 : List (S23)) (r1 : List (S29)) (r2 : List (S30)) (w : World) (hr0 : Kd.C k23 w A0 l0.length l0) (hc0 : l0.length ≤ c0) (h : latticelaw12_list.f k l0 = some (r1, r2)) :
  Calls Tryz.prog 9 #[.slice A0 l0.length c0] w fun e w' => ∃ v0_ v1_ : Value, e = .returned (.tuple #[v0_, v1_]) ∧ Kd.R k29 29 w' w.heap.size (fun _ => True) v0_ r1 ∧ Kd.R k30 30 w' w.heap.size (fun _ => True) v1_ r2 ∧ Below w.heap.size w w' := by
 have hu23 := Tryz.underlying23
 have hu29 := Tryz.underlying29
 have hu30 := Tryz.underlying30
 have HR0 := Aside0.mk hr0
 have HC0 := Aside0.mk hc0
 clear hr0 hc0
 have HB := Aside0.mk (Below.refl w.heap.size w)
 have H : (if 0 ≤ (mn (l0.length : Int) 40) then (if (mn (l0.length : Int) 40) ≤ (l0.length : Int) then ((some (l0.take ((mn (l0.length : Int) 40) : Int).toNat : List (S23))).bind fun y104 => (latticelaw12_list.l0 k ([] : List (S29)) ([] : List (S30)) y104 (y104.length : Int) 0)) else (none)) else (none)) = some (r1, r2) := h
 clear h
 obtain ⟨ji2, hji2⟩ : ∃ j_ : Int, (mn (l0.length : Int) 40) = j_ := ⟨_, rfl⟩
 replace H : (if 0 ≤ (ji2) then (if (ji2) ≤ (l0.length : Int) then ((some (l0.take ((ji2) : Int).toNat : List (S23))).bind fun y104 => (latticelaw12_list.l0 k ([] : List (S29)) ([] : List (S30)) y104 (y104.length : Int) 0)) else (none)) else (none)) = some (r1, r2) := by first | (rw [hji2] at H; exact H) | (simp only [hji2] at H ⊢; exact H)
 (try (have hji2h : ji2 ≤ 40 := by (rw [← hji2]; unfold mn; (repeat' split) <;> omega)))
 (try (have hji2g : ji2 ≤ 64 := by omega))
 (try (have hji2l : 0 ≤ ji2 := by (rw [← hji2]; unfold mn; (repeat' split) <;> omega)))
 (try (have hji2m : 0 ≤ ji2 := by omega))
 have hji2_ : (if 40 < (l0.length : Int) then 40 else (l0.length : Int)) = ji2 := hji2
 by_cases c3 : 0 ≤ (ji2)
 ·rw [if_pos c3] at H
  have c3b0 := eq_true c3
  have c3b1 : decide (0 ≤ (ji2)) = true := decide_eq_true c3
  clear c3
  by_cases c4 : (ji2) ≤ (l0.length : Int)
  ·rw [if_pos c4] at H
   have c4b0 := eq_true c4
   have c4b1 : decide ((ji2) ≤ (l0.length : Int)) = true := decide_eq_true c4
   clear c4
   obtain ⟨y104, hy104⟩ : ∃ y_ : List (S23), y_ = (l0.take ((ji2) : Int).toNat) := ⟨_, rfl⟩
   replace H : (latticelaw12_list.l0 k ([] : List (S29)) ([] : List (S30)) y104 (y104.length : Int) 0) = some (r1, r2) := by first | (rw [hy104]; with_reducible exact H) | (have H2_ := (Option.bind_some _ _).symm.trans H; rw [hy104]; with_reducible exact H2_) | (have H2_ := (Option.bind_some _ _).symm.trans H; with_reducible exact H2_) | with_reducible exact H | (rw [hy104]; exact H) | exact H
   have Ny104 := Aside0.mk hy104
   clear hy104
   have H' := Aside0.mk H
   clear H
   have q5 : ((ji2) : Int) ≤ ((l0.length : Int) : Int) := of_decide_eq_true (by first | (with_reducible assumption) | assumption)
   obtain ⟨i05, hi05, _, hsz5, _⟩ := info_parts info23
   have hroom5 : l0.length ≤ c0 := HC0.out
   have hC5 : Kd.C k23 _ A0 l0.length l0 := HR0.out
   have hcut5 := cut_to (P := Tryz.prog) 24 23 .i64 Tryz.underlying24 hi05 A0 l0.length c0 (ji2) (of_decide_eq_true (by first | (with_reducible assumption) | assumption)) q5 hroom5
   have hr5 := Kd.C_take (m := ((ji2) : Int).toNat) hC5 (by omega)
   have hy5 : y104.length = ((ji2) : Int).toNat := (by rw [Ny104.out, List.length_take]; omega)
   rw [← Ny104.out] at hr5
   rw [← hy5] at hcut5
   have HR107 := Aside0.mk hr5
   have HC107 := Aside0.mk (show y104.length ≤ c0 from by omega)
   clear hr5 hC5 hroom5 hi05 hsz5
   have KY5 := Aside0.mk hy5
   clear hy5
   replace q5 := eq_true q5
   go_enter Tryz.func9, Tryz.ntmps9
   go_wp2
   go_loopg [4, 5, 16] k (fun kq v4 v5 v16 w' => ∃ (x4_1 : List (S29)) (x5_1 : List (S30)) (x16_1 : Int), v16 = .int .i64 x16_1 ∧ Aside0 (latticelaw12_list.l0 kq x4_1 x5_1 y104 (y104.length : Int) x16_1 = some (r1, r2)) ∧ Aside0 (kq ≤ k) ∧ Aside0 (Kd.R k29 29 w' w.heap.size (fun _ => True) v4 x4_1) ∧ Aside0 (Kd.R k30 30 w' w.heap.size (fun _ => True) v5 x5_1) ∧ Aside0 (Below w.heap.size w w'))
   case atStart => exact ⟨(([] : List (S29))), (([] : List (S30))), (0), (by first | rfl | (simp; done) | (simp [*]; done)), H', ⟨Nat.le_refl _⟩, ⟨by first | exact Kd.R_nil _ _ _ _ _ | exact Kd.N_nil _ _ _ _ _ | exact Kd.V_nil _ _ _ _ _ | exact Kd.Q_nil _ _ _ _ _ | exact Kd.S_nil _ _ _ _ _⟩, ⟨by first | exact Kd.R_nil _ _ _ _ _ | exact Kd.N_nil _ _ _ _ _ | exact Kd.V_nil _ _ _ _ _ | exact Kd.Q_nil _ _ _ _ _ | exact Kd.S_nil _ _ _ _ _⟩, ⟨by repeat (first | (with_reducible first | exact HB.out | apply below_alloc | apply pw_below_drewN | apply below_drew1) | exact HB.out)⟩⟩
   case round =>
    clear H'
    try clear p2
    try clear c3
    try clear c3b0
    try clear c3b1
    try clear c4
    try clear c4b0
    try clear c4b1
    try clear q5
    try clear q5
    obtain ⟨x4_1, x5_1, x16_1, rfl, HA, HK1, HO_4, HO_5, HB⟩ := hrel
    cases gk with
    | zero => exact absurd HA.out (by simp [latticelaw12_list.l0])
    | succ k1 =>
     have H := HA.out
     clear HA
     simp only [latticelaw12_list.l0] at H
     by_cases c6 : x16_1 < (y104.length : Int)
     ·rw [if_pos c6] at H
      have c6b0 : decide (x16_1 < (y104.length : Int)) = true := decide_eq_true c6
      clear c6
      by_cases c7 : 0 ≤ x16_1
      ·rw [if_pos c7] at H
       have c7b0 : decide (0 ≤ x16_1) = true := decide_eq_true c7
       clear c7
       by_cases c8 : x16_1 < (y104.length : Int)
       ·rw [if_pos c8] at H
        have c8b0 : decide (x16_1 < (y104.length : Int)) = true := decide_eq_true c8
        clear c8
        replace H := Option.bind_eq_some_iff.mp H
        obtain ⟨⟨t110, t111, t112, t113, t114, t115, t116, t117, t118, t119⟩, A90, H⟩ := H
        replace H : ((some (([(⟨t110, t111, t112, t113, t114⟩ : S29)] : List (S29)) : List (S29))).bind fun y122 => (if x4_1.length + y122.length < 2932031007402 then ((some (([(⟨t115, t116, t117, t118, t119⟩ : S30)] : List (S30)) : List (S30))).bind fun y128 => (if x5_1.length + y128.length < 2932031007402 then (latticelaw12_list.l0 k1 (x4_1 ++ y122) (x5_1 ++ y128) y104 (y104.length : Int) (wrap64 (x16_1 + 1))) else (none))) else (none))) = some (r1, r2) := H
        have A9 := Aside0.mk A90
        clear A90
        obtain ⟨y122, hy122⟩ : ∃ y_ : List (S29), y_ = (([(⟨t110, t111, t112, t113, t114⟩ : S29)] : List (S29))) := ⟨_, rfl⟩
        replace H : (if x4_1.length + y122.length < 2932031007402 then ((some (([(⟨t115, t116, t117, t118, t119⟩ : S30)] : List (S30)) : List (S30))).bind fun y128 => (if x5_1.length + y128.length < 2932031007402 then (latticelaw12_list.l0 k1 (x4_1 ++ y122) (x5_1 ++ y128) y104 (y104.length : Int) (wrap64 (x16_1 + 1))) else (none))) else (none)) = some (r1, r2) := by first | (rw [hy122]; with_reducible exact H) | (have H2_ := (Option.bind_some _ _).symm.trans H; rw [hy122]; with_reducible exact H2_) | (have H2_ := (Option.bind_some _ _).symm.trans H; with_reducible exact H2_) | with_reducible exact H | (rw [hy122]; exact H) | exact H
        have Ny122 := Aside0.mk hy122
        clear hy122
        by_cases c10 : x4_1.length + y122.length < 2932031007402
        ·rw [if_pos c10] at H
         have LMc10 := Aside0.mk c10
         clear c10
         obtain ⟨y125, hy125⟩ : ∃ y_ : List (S29), y_ = (x4_1 ++ y122) := ⟨_, rfl⟩
         replace H : ((some (([(⟨t115, t116, t117, t118, t119⟩ : S30)] : List (S30)) : List (S30))).bind fun y128 => (if x5_1.length + y128.length < 2932031007402 then (latticelaw12_list.l0 k1 y125 (x5_1 ++ y128) y104 (y104.length : Int) (wrap64 (x16_1 + 1))) else (none))) = some (r1, r2) := by first | (rw [hy125]; with_reducible exact H) | (have H2_ := (Option.bind_some _ _).symm.trans H; rw [hy125]; with_reducible exact H2_) | (have H2_ := (Option.bind_some _ _).symm.trans H; with_reducible exact H2_) | with_reducible exact H | (rw [hy125]; exact H) | exact H
         have Ny125 := Aside0.mk hy125
         clear hy125
         obtain ⟨y128, hy128⟩ : ∃ y_ : List (S30), y_ = (([(⟨t115, t116, t117, t118, t119⟩ : S30)] : List (S30))) := ⟨_, rfl⟩
         replace H : (if x5_1.length + y128.length < 2932031007402 then (latticelaw12_list.l0 k1 y125 (x5_1 ++ y128) y104 (y104.length : Int) (wrap64 (x16_1 + 1))) else (none)) = some (r1, r2) := by first | (rw [hy128]; with_reducible exact H) | (have H2_ := (Option.bind_some _ _).symm.trans H; rw [hy128]; with_reducible exact H2_) | (have H2_ := (Option.bind_some _ _).symm.trans H; with_reducible exact H2_) | with_reducible exact H | (rw [hy128]; exact H) | exact H
         have Ny128 := Aside0.mk hy128
         clear hy128
         by_cases c11 : x5_1.length + y128.length < 2932031007402
         ·rw [if_pos c11] at H
          have LMc11 := Aside0.mk c11
          clear c11
          obtain ⟨y131, hy131⟩ : ∃ y_ : List (S30), y_ = (x5_1 ++ y128) := ⟨_, rfl⟩
          replace H : (latticelaw12_list.l0 k1 y125 y131 y104 (y104.length : Int) (wrap64 (x16_1 + 1))) = some (r1, r2) := by first | (rw [hy131]; with_reducible exact H) | (have H2_ := (Option.bind_some _ _).symm.trans H; rw [hy131]; with_reducible exact H2_) | (have H2_ := (Option.bind_some _ _).symm.trans H; with_reducible exact H2_) | with_reducible exact H | (rw [hy131]; exact H) | exact H
          have Ny131 := Aside0.mk hy131
          clear hy131
          have H' := Aside0.mk H
          clear H
          have p108 : 0 ≤ (x16_1 : Int) := of_decide_eq_true (by first | (with_reducible assumption) | assumption)
          have q108 : x16_1 < (y104.length : Int) := of_decide_eq_true (by first | (with_reducible assumption) | assumption)
          obtain ⟨ad108, e108, hx108_0, hx108_1, hx108_2, hx108_3, hx108_4⟩ := at_T23 HR107.out x16_1 p108 q108
          cases e108
          replace hx108_0 := (HB.out.cell (World.block_lt_of_cell? w _ hx108_0)).trans hx108_0
          replace hx108_1 := (HB.out.cell (World.block_lt_of_cell? w _ hx108_1)).trans hx108_1
          replace hx108_2 := (HB.out.cell (World.block_lt_of_cell? w _ hx108_2)).trans hx108_2
          replace hx108_3 := (HB.out.cell (World.block_lt_of_cell? w _ hx108_3)).trans hx108_3
          replace hx108_4 := (HB.out.cell (World.block_lt_of_cell? w _ hx108_4)).trans hx108_4
          replace p108 := eq_true p108
          replace q108 := eq_true q108
          try go_wp2_with (first | ((with_reducible refine gate_dst (N := 7) rfl ?_); refine bx (N := 7) (cs := #[.int .i64 0, .int .i64 0, .string (⟨#[]⟩ : ByteArray), .bool false, .int .i64 0]) (t := 23) ?_; intro gb109 hg w12 hbox hb; replace HO_4 := Aside0.mk (Kd.R_below (by (with_reducible repeat (first | apply Kd.R_alloc | apply Kd.R_drewN | apply Kd.R_drew)); exact HO_4.out) hb); replace HO_5 := Aside0.mk (Kd.R_below (by (with_reducible repeat (first | apply Kd.R_alloc | apply Kd.R_drewN | apply Kd.R_drew)); exact HO_5.out) hb); have BK109 := Aside0.mk (hbox); have GW109 := (bw hg); have GE109 := (bw hg); replace HB := (bs hb); clear hb hbox hg; obtain ⟨hcz13_0, hcz13_1, hcz13_2, hcz13_3, hcz13_4, hfz13_0, hfz13_1, hfz13_2, hfz13_3, hfz13_4⟩ := bc5 BK109) | ((with_reducible refine gate_callee (f := 8) rfl ?_); refine gL (some 22) Tryz.func8 #[.agg #[.int .i64 ((rd_T23 y104 x16_1).f0), .int .i64 ((rd_T23 y104 x16_1).f1), .string ((rd_T23 y104 x16_1).f2), .bool ((rd_T23 y104 x16_1).f3), .int .i64 ((rd_T23 y104 x16_1).f4)]] ?_; (with_reducible refine (latticelaw12_values.calls ((rd_T23 y104 x16_1).f0) ((rd_T23 y104 x16_1).f1) ((rd_T23 y104 x16_1).f2) ((rd_T23 y104 x16_1).f3) ((rd_T23 y104 x16_1).f4) t110 t111 t112 t113 t114 t115 t116 t117 t118 t119 _ A9.out).mono ?_); rintro e w14 ⟨rfl, hb⟩; refine ⟨_, rfl, ?_⟩; replace HO_4 := Aside0.mk (Kd.R_below (by (with_reducible repeat (first | apply Kd.R_alloc | apply Kd.R_drewN | apply Kd.R_drew)); exact (Kd.R_mono (Kd.R_far (p := ⟨gb109, 4, none⟩) (Kd.R_far (p := ⟨gb109, 3, none⟩) (Kd.R_far (p := ⟨gb109, 2, none⟩) (Kd.R_far (p := ⟨gb109, 1, none⟩) (Kd.R_far (p := ⟨gb109, 0, none⟩) (Kd.R_types HO_4.out BK109.out (by decide)) (fun _ hk => hk.2) (.int .i64 ((rd_T23 y104 x16_1).f0))) (fun _ hk => hk.2) (.int .i64 ((rd_T23 y104 x16_1).f1))) (fun _ hk => hk.2) (.string ((rd_T23 y104 x16_1).f2))) (fun _ hk => hk.2) (.bool ((rd_T23 y104 x16_1).f3))) (fun _ hk => hk.2) (.int .i64 ((rd_T23 y104 x16_1).f4))) (fun _ h_ => h_.1))) hb); replace HO_5 := Aside0.mk (Kd.R_below (by (with_reducible repeat (first | apply Kd.R_alloc | apply Kd.R_drewN | apply Kd.R_drew)); exact (Kd.R_mono (Kd.R_far (p := ⟨gb109, 4, none⟩) (Kd.R_far (p := ⟨gb109, 3, none⟩) (Kd.R_far (p := ⟨gb109, 2, none⟩) (Kd.R_far (p := ⟨gb109, 1, none⟩) (Kd.R_far (p := ⟨gb109, 0, none⟩) (Kd.R_types HO_5.out BK109.out (by decide)) (fun _ hk => hk.2) (.int .i64 ((rd_T23 y104 x16_1).f0))) (fun _ hk => hk.2) (.int .i64 ((rd_T23 y104 x16_1).f1))) (fun _ hk => hk.2) (.string ((rd_T23 y104 x16_1).f2))) (fun _ hk => hk.2) (.bool ((rd_T23 y104 x16_1).f3))) (fun _ hk => hk.2) (.int .i64 ((rd_T23 y104 x16_1).f4))) (fun _ h_ => h_.1))) hb); replace BK109 := Aside0.mk (blk_below (g := gb109) (o := .cells #[.int .i64 ((rd_T23 y104 x16_1).f0), .int .i64 ((rd_T23 y104 x16_1).f1), .string ((rd_T23 y104 x16_1).f2), .bool ((rd_T23 y104 x16_1).f3), .int .i64 ((rd_T23 y104 x16_1).f4)] 23 (0, 0)) (by (with_reducible repeat (first | refine blk_drewN ?_ _ | refine blk_drew ?_ | refine blk_alloc ?_ _)); refine blk_put (cs := #[.int .i64 ((rd_T23 y104 x16_1).f0), .int .i64 ((rd_T23 y104 x16_1).f1), .string ((rd_T23 y104 x16_1).f2), .bool ((rd_T23 y104 x16_1).f3), .int .i64 0]) ?_ 4 _ rfl; (with_reducible repeat (first | refine blk_drewN ?_ _ | refine blk_drew ?_ | refine blk_alloc ?_ _)); refine blk_put (cs := #[.int .i64 ((rd_T23 y104 x16_1).f0), .int .i64 ((rd_T23 y104 x16_1).f1), .string ((rd_T23 y104 x16_1).f2), .bool false, .int .i64 0]) ?_ 3 _ rfl; (with_reducible repeat (first | refine blk_drewN ?_ _ | refine blk_drew ?_ | refine blk_alloc ?_ _)); refine blk_put (cs := #[.int .i64 ((rd_T23 y104 x16_1).f0), .int .i64 ((rd_T23 y104 x16_1).f1), .string (⟨#[]⟩ : ByteArray), .bool false, .int .i64 0]) ?_ 2 _ rfl; (with_reducible repeat (first | refine blk_drewN ?_ _ | refine blk_drew ?_ | refine blk_alloc ?_ _)); refine blk_put (cs := #[.int .i64 ((rd_T23 y104 x16_1).f0), .int .i64 0, .string (⟨#[]⟩ : ByteArray), .bool false, .int .i64 0]) ?_ 1 _ rfl; (with_reducible repeat (first | refine blk_drewN ?_ _ | refine blk_drew ?_ | refine blk_alloc ?_ _)); refine blk_put (cs := #[.int .i64 0, .int .i64 0, .string (⟨#[]⟩ : ByteArray), .bool false, .int .i64 0]) ?_ 0 _ rfl; (with_reducible repeat (first | refine blk_drewN ?_ _ | refine blk_drew ?_ | refine blk_alloc ?_ _)); exact BK109.out) hb); replace HB := (bs hb); (try clear hb); (try clear hb2); (try clear hk); (try clear hi)) | ((with_reducible refine gate_dst (N := 8) rfl ?_); refine bx (N := 8) (cs := #[.int .i64 0, .int .i64 0, .string (⟨#[]⟩ : ByteArray), .bool false, .int .i64 0]) (t := 29) ?_; intro gb120 hg w15 hbox hb; replace HO_4 := Aside0.mk (Kd.R_below (Kd.R_elderB (by (with_reducible repeat (first | apply Kd.R_alloc | apply Kd.R_drewN | apply Kd.R_drew)); exact HO_4.out) gb120 (Nat.le_of_eq hg.symm)) hb); replace HO_5 := Aside0.mk (Kd.R_below (by (with_reducible repeat (first | apply Kd.R_alloc | apply Kd.R_drewN | apply Kd.R_drew)); exact HO_5.out) hb); have BK120 := Aside0.mk (hbox); have GW120 := (bw hg); have GE120 := (bw hg); replace HB := (bs hb); have NB109_120 := Aside0.mk ((by rw [hg]; exact Nat.ne_of_lt (blk_lt (g := gb109) (o := .cells #[.int .i64 ((rd_T23 y104 x16_1).f0), .int .i64 ((rd_T23 y104 x16_1).f1), .string ((rd_T23 y104 x16_1).f2), .bool ((rd_T23 y104 x16_1).f3), .int .i64 ((rd_T23 y104 x16_1).f4)] 23 (0, 0)) (by (with_reducible repeat (first | refine blk_drewN ?_ _ | refine blk_drew ?_ | refine blk_alloc ?_ _)); exact BK109.out)) : gb109 ≠ gb120)); have NB120_109 := Aside0.mk ((by rw [hg]; exact Nat.ne_of_gt (blk_lt (g := gb109) (o := .cells #[.int .i64 ((rd_T23 y104 x16_1).f0), .int .i64 ((rd_T23 y104 x16_1).f1), .string ((rd_T23 y104 x16_1).f2), .bool ((rd_T23 y104 x16_1).f3), .int .i64 ((rd_T23 y104 x16_1).f4)] 23 (0, 0)) (by (with_reducible repeat (first | refine blk_drewN ?_ _ | refine blk_drew ?_ | refine blk_alloc ?_ _)); exact BK109.out)) : gb120 ≠ gb109)); replace BK109 := (bb BK109 hb); clear hb hbox hg) | ((with_reducible refine gate_dst (N := 9) rfl ?_); refine bx (N := 9) (cs := #[.int .i64 0, .int .i64 0, .string (⟨#[]⟩ : ByteArray), .bool false, .int .i64 0]) (t := 30) ?_; intro gb121 hg w16 hbox hb; replace HO_4 := Aside0.mk (Kd.R_below (by (with_reducible repeat (first | apply Kd.R_alloc | apply Kd.R_drewN | apply Kd.R_drew)); exact HO_4.out) hb); replace HO_5 := Aside0.mk (Kd.R_below (Kd.R_elderB (by (with_reducible repeat (first | apply Kd.R_alloc | apply Kd.R_drewN | apply Kd.R_drew)); exact HO_5.out) gb121 (Nat.le_of_eq hg.symm)) hb); have BK121 := Aside0.mk (hbox); have GW121 := (bw hg); have GE121 := (bw hg); replace HB := (bs hb); have NB109_121 := Aside0.mk ((by rw [hg]; exact Nat.ne_of_lt (blk_lt (g := gb109) (o := .cells #[.int .i64 ((rd_T23 y104 x16_1).f0), .int .i64 ((rd_T23 y104 x16_1).f1), .string ((rd_T23 y104 x16_1).f2), .bool ((rd_T23 y104 x16_1).f3), .int .i64 ((rd_T23 y104 x16_1).f4)] 23 (0, 0)) (by (with_reducible repeat (first | refine blk_drewN ?_ _ | refine blk_drew ?_ | refine blk_alloc ?_ _)); exact BK109.out)) : gb109 ≠ gb121)); have NB121_109 := Aside0.mk ((by rw [hg]; exact Nat.ne_of_gt (blk_lt (g := gb109) (o := .cells #[.int .i64 ((rd_T23 y104 x16_1).f0), .int .i64 ((rd_T23 y104 x16_1).f1), .string ((rd_T23 y104 x16_1).f2), .bool ((rd_T23 y104 x16_1).f3), .int .i64 ((rd_T23 y104 x16_1).f4)] 23 (0, 0)) (by (with_reducible repeat (first | refine blk_drewN ?_ _ | refine blk_drew ?_ | refine blk_alloc ?_ _)); exact BK109.out)) : gb121 ≠ gb109)); replace BK109 := (bb BK109 hb); have NB120_121 := Aside0.mk ((by rw [hg]; exact Nat.ne_of_lt (blk_lt (g := gb120) (o := .cells #[.int .i64 0, .int .i64 0, .string (⟨#[]⟩ : ByteArray), .bool false, .int .i64 0] 29 (0, 0)) (by (with_reducible repeat (first | refine blk_drewN ?_ _ | refine blk_drew ?_ | refine blk_alloc ?_ _)); exact BK120.out)) : gb120 ≠ gb121)); have NB121_120 := Aside0.mk ((by rw [hg]; exact Nat.ne_of_gt (blk_lt (g := gb120) (o := .cells #[.int .i64 0, .int .i64 0, .string (⟨#[]⟩ : ByteArray), .bool false, .int .i64 0] 29 (0, 0)) (by (with_reducible repeat (first | refine blk_drewN ?_ _ | refine blk_drew ?_ | refine blk_alloc ?_ _)); exact BK120.out)) : gb121 ≠ gb120)); replace BK120 := (bb BK120 hb); clear hb hbox hg; have hnb17 := NB120_109.out; have hnc17 := NB109_120.out; have hnb18 := NB120_121.out; have hnc18 := NB121_120.out; obtain ⟨hcz19_0, hcz19_1, hcz19_2, hcz19_3, hcz19_4, hfz19_0, hfz19_1, hfz19_2, hfz19_3, hfz19_4⟩ := bc5 BK120; have hnb20 := NB121_109.out; have hnc20 := NB109_121.out; obtain ⟨hcz21_0, hcz21_1, hcz21_2, hcz21_3, hcz21_4, hfz21_0, hfz21_1, hfz21_2, hfz21_3, hfz21_4⟩ := bc5 BK121; obtain ⟨Ao22, co22, eo22⟩ := Kd.R_slice HO_4.out; subst eo22; obtain ⟨Ao23, co23, eo23⟩ := Kd.R_slice HO_5.out; subst eo23))
          have n0_ : Aside0 (Kd.R k29 29 ((((((((((w16.setCell ⟨gb120, 0, none⟩ (.int .i64 t110)).setCell ⟨gb120, 1, none⟩ (.int .i64 t111)).setCell ⟨gb120, 2, none⟩ (.string t112)).setCell ⟨gb120, 3, none⟩ (.bool t113)).setCell ⟨gb120, 4, none⟩ (.int .i64 t114)).setCell ⟨gb121, 0, none⟩ (.int .i64 t115)).setCell ⟨gb121, 1, none⟩ (.int .i64 t116)).setCell ⟨gb121, 2, none⟩ (.string t117)).setCell ⟨gb121, 3, none⟩ (.bool t118)).setCell ⟨gb121, 4, none⟩ (.int .i64 t119)) w.heap.size (fun k_ => k_ ≠ gb120) (.slice Ao22 x4_1.length co22) x4_1) := ⟨by (with_reducible repeat (first | apply Kd.R_alloc | apply Kd.R_drewN | apply Kd.R_drew)); exact Kd.R_mono (Kd.R_far (p := ⟨gb121, 4, none⟩) (Kd.R_far (p := ⟨gb121, 3, none⟩) (Kd.R_far (p := ⟨gb121, 2, none⟩) (Kd.R_far (p := ⟨gb121, 1, none⟩) (Kd.R_far (p := ⟨gb121, 0, none⟩) (Kd.R_far (p := ⟨gb120, 4, none⟩) (Kd.R_far (p := ⟨gb120, 3, none⟩) (Kd.R_far (p := ⟨gb120, 2, none⟩) (Kd.R_far (p := ⟨gb120, 1, none⟩) (Kd.R_far (p := ⟨gb120, 0, none⟩) (Kd.R_types (Kd.R_mono HO_4.out (fun k_ hk => (⟨hk, hk.2⟩ : _ ∧ k_ ≠ gb120))) BK121.out (by decide)) (fun _ hk => hk.1.2) (.int .i64 t110)) (fun _ hk => hk.1.2) (.int .i64 t111)) (fun _ hk => hk.1.2) (.string t112)) (fun _ hk => hk.1.2) (.bool t113)) (fun _ hk => hk.1.2) (.int .i64 t114)) (fun _ hk => hk.2) (.int .i64 t115)) (fun _ hk => hk.2) (.int .i64 t116)) (fun _ hk => hk.2) (.string t117)) (fun _ hk => hk.2) (.bool t118)) (fun _ hk => hk.2) (.int .i64 t119)) (fun _ hk => hk.1.1.2)⟩
          have n1_ : Aside0 (Kd.R k30 30 ((((((((((w16.setCell ⟨gb120, 0, none⟩ (.int .i64 t110)).setCell ⟨gb120, 1, none⟩ (.int .i64 t111)).setCell ⟨gb120, 2, none⟩ (.string t112)).setCell ⟨gb120, 3, none⟩ (.bool t113)).setCell ⟨gb120, 4, none⟩ (.int .i64 t114)).setCell ⟨gb121, 0, none⟩ (.int .i64 t115)).setCell ⟨gb121, 1, none⟩ (.int .i64 t116)).setCell ⟨gb121, 2, none⟩ (.string t117)).setCell ⟨gb121, 3, none⟩ (.bool t118)).setCell ⟨gb121, 4, none⟩ (.int .i64 t119)) w.heap.size (fun k_ => k_ ≠ gb121) (.slice Ao23 x5_1.length co23) x5_1) := ⟨by (with_reducible repeat (first | apply Kd.R_alloc | apply Kd.R_drewN | apply Kd.R_drew)); exact Kd.R_mono (Kd.R_far (p := ⟨gb121, 4, none⟩) (Kd.R_far (p := ⟨gb121, 3, none⟩) (Kd.R_far (p := ⟨gb121, 2, none⟩) (Kd.R_far (p := ⟨gb121, 1, none⟩) (Kd.R_far (p := ⟨gb121, 0, none⟩) (Kd.R_far (p := ⟨gb120, 4, none⟩) (Kd.R_far (p := ⟨gb120, 3, none⟩) (Kd.R_far (p := ⟨gb120, 2, none⟩) (Kd.R_far (p := ⟨gb120, 1, none⟩) (Kd.R_far (p := ⟨gb120, 0, none⟩) (Kd.R_mono (Kd.R_types HO_5.out BK120.out (by decide)) (fun k_ hk => (⟨hk, hk.1.2⟩ : _ ∧ k_ ≠ gb121))) (fun _ hk => hk.1.2) (.int .i64 t110)) (fun _ hk => hk.1.2) (.int .i64 t111)) (fun _ hk => hk.1.2) (.string t112)) (fun _ hk => hk.1.2) (.bool t113)) (fun _ hk => hk.1.2) (.int .i64 t114)) (fun _ hk => hk.2) (.int .i64 t115)) (fun _ hk => hk.2) (.int .i64 t116)) (fun _ hk => hk.2) (.string t117)) (fun _ hk => hk.2) (.bool t118)) (fun _ hk => hk.2) (.int .i64 t119)) (fun _ hk => hk.1.1.2)⟩
          have n2_ : Aside0 (((((((((((w16.setCell ⟨gb120, 0, none⟩ (.int .i64 t110)).setCell ⟨gb120, 1, none⟩ (.int .i64 t111)).setCell ⟨gb120, 2, none⟩ (.string t112)).setCell ⟨gb120, 3, none⟩ (.bool t113)).setCell ⟨gb120, 4, none⟩ (.int .i64 t114)).setCell ⟨gb121, 0, none⟩ (.int .i64 t115)).setCell ⟨gb121, 1, none⟩ (.int .i64 t116)).setCell ⟨gb121, 2, none⟩ (.string t117)).setCell ⟨gb121, 3, none⟩ (.bool t118)).setCell ⟨gb121, 4, none⟩ (.int .i64 t119)).heap[gb109]? = some (.cells #[.int .i64 ((rd_T23 y104 x16_1).f0), .int .i64 ((rd_T23 y104 x16_1).f1), .string ((rd_T23 y104 x16_1).f2), .bool ((rd_T23 y104 x16_1).f3), .int .i64 ((rd_T23 y104 x16_1).f4)] 23 (0, 0))) := ⟨by (with_reducible repeat (first | refine blk_drewN ?_ _ | refine blk_drew ?_ | refine blk_alloc ?_ _)); refine blk_far ?_ NB109_121.out _; (with_reducible repeat (first | refine blk_drewN ?_ _ | refine blk_drew ?_ | refine blk_alloc ?_ _)); refine blk_far ?_ NB109_121.out _; (with_reducible repeat (first | refine blk_drewN ?_ _ | refine blk_drew ?_ | refine blk_alloc ?_ _)); refine blk_far ?_ NB109_121.out _; (with_reducible repeat (first | refine blk_drewN ?_ _ | refine blk_drew ?_ | refine blk_alloc ?_ _)); refine blk_far ?_ NB109_121.out _; (with_reducible repeat (first | refine blk_drewN ?_ _ | refine blk_drew ?_ | refine blk_alloc ?_ _)); refine blk_far ?_ NB109_121.out _; (with_reducible repeat (first | refine blk_drewN ?_ _ | refine blk_drew ?_ | refine blk_alloc ?_ _)); refine blk_far ?_ NB109_120.out _; (with_reducible repeat (first | refine blk_drewN ?_ _ | refine blk_drew ?_ | refine blk_alloc ?_ _)); refine blk_far ?_ NB109_120.out _; (with_reducible repeat (first | refine blk_drewN ?_ _ | refine blk_drew ?_ | refine blk_alloc ?_ _)); refine blk_far ?_ NB109_120.out _; (with_reducible repeat (first | refine blk_drewN ?_ _ | refine blk_drew ?_ | refine blk_alloc ?_ _)); refine blk_far ?_ NB109_120.out _; (with_reducible repeat (first | refine blk_drewN ?_ _ | refine blk_drew ?_ | refine blk_alloc ?_ _)); refine blk_far ?_ NB109_120.out _; (with_reducible repeat (first | refine blk_drewN ?_ _ | refine blk_drew ?_ | refine blk_alloc ?_ _)); exact BK109.out⟩
          have n3_ : Aside0 (((((((((((w16.setCell ⟨gb120, 0, none⟩ (.int .i64 t110)).setCell ⟨gb120, 1, none⟩ (.int .i64 t111)).setCell ⟨gb120, 2, none⟩ (.string t112)).setCell ⟨gb120, 3, none⟩ (.bool t113)).setCell ⟨gb120, 4, none⟩ (.int .i64 t114)).setCell ⟨gb121, 0, none⟩ (.int .i64 t115)).setCell ⟨gb121, 1, none⟩ (.int .i64 t116)).setCell ⟨gb121, 2, none⟩ (.string t117)).setCell ⟨gb121, 3, none⟩ (.bool t118)).setCell ⟨gb121, 4, none⟩ (.int .i64 t119)).heap[gb120]? = some (.cells #[.int .i64 t110, .int .i64 t111, .string t112, .bool t113, .int .i64 t114] 29 (0, 0))) := ⟨by (with_reducible repeat (first | refine blk_drewN ?_ _ | refine blk_drew ?_ | refine blk_alloc ?_ _)); refine blk_far ?_ NB120_121.out _; (with_reducible repeat (first | refine blk_drewN ?_ _ | refine blk_drew ?_ | refine blk_alloc ?_ _)); refine blk_far ?_ NB120_121.out _; (with_reducible repeat (first | refine blk_drewN ?_ _ | refine blk_drew ?_ | refine blk_alloc ?_ _)); refine blk_far ?_ NB120_121.out _; (with_reducible repeat (first | refine blk_drewN ?_ _ | refine blk_drew ?_ | refine blk_alloc ?_ _)); refine blk_far ?_ NB120_121.out _; (with_reducible repeat (first | refine blk_drewN ?_ _ | refine blk_drew ?_ | refine blk_alloc ?_ _)); refine blk_far ?_ NB120_121.out _; (with_reducible repeat (first | refine blk_drewN ?_ _ | refine blk_drew ?_ | refine blk_alloc ?_ _)); refine blk_put (cs := #[.int .i64 t110, .int .i64 t111, .string t112, .bool t113, .int .i64 0]) ?_ 4 _ rfl; (with_reducible repeat (first | refine blk_drewN ?_ _ | refine blk_drew ?_ | refine blk_alloc ?_ _)); refine blk_put (cs := #[.int .i64 t110, .int .i64 t111, .string t112, .bool false, .int .i64 0]) ?_ 3 _ rfl; (with_reducible repeat (first | refine blk_drewN ?_ _ | refine blk_drew ?_ | refine blk_alloc ?_ _)); refine blk_put (cs := #[.int .i64 t110, .int .i64 t111, .string (⟨#[]⟩ : ByteArray), .bool false, .int .i64 0]) ?_ 2 _ rfl; (with_reducible repeat (first | refine blk_drewN ?_ _ | refine blk_drew ?_ | refine blk_alloc ?_ _)); refine blk_put (cs := #[.int .i64 t110, .int .i64 0, .string (⟨#[]⟩ : ByteArray), .bool false, .int .i64 0]) ?_ 1 _ rfl; (with_reducible repeat (first | refine blk_drewN ?_ _ | refine blk_drew ?_ | refine blk_alloc ?_ _)); refine blk_put (cs := #[.int .i64 0, .int .i64 0, .string (⟨#[]⟩ : ByteArray), .bool false, .int .i64 0]) ?_ 0 _ rfl; (with_reducible repeat (first | refine blk_drewN ?_ _ | refine blk_drew ?_ | refine blk_alloc ?_ _)); exact BK120.out⟩
          have n4_ : Aside0 (((((((((((w16.setCell ⟨gb120, 0, none⟩ (.int .i64 t110)).setCell ⟨gb120, 1, none⟩ (.int .i64 t111)).setCell ⟨gb120, 2, none⟩ (.string t112)).setCell ⟨gb120, 3, none⟩ (.bool t113)).setCell ⟨gb120, 4, none⟩ (.int .i64 t114)).setCell ⟨gb121, 0, none⟩ (.int .i64 t115)).setCell ⟨gb121, 1, none⟩ (.int .i64 t116)).setCell ⟨gb121, 2, none⟩ (.string t117)).setCell ⟨gb121, 3, none⟩ (.bool t118)).setCell ⟨gb121, 4, none⟩ (.int .i64 t119)).heap[gb121]? = some (.cells #[.int .i64 t115, .int .i64 t116, .string t117, .bool t118, .int .i64 t119] 30 (0, 0))) := ⟨by (with_reducible repeat (first | refine blk_drewN ?_ _ | refine blk_drew ?_ | refine blk_alloc ?_ _)); refine blk_put (cs := #[.int .i64 t115, .int .i64 t116, .string t117, .bool t118, .int .i64 0]) ?_ 4 _ rfl; (with_reducible repeat (first | refine blk_drewN ?_ _ | refine blk_drew ?_ | refine blk_alloc ?_ _)); refine blk_put (cs := #[.int .i64 t115, .int .i64 t116, .string t117, .bool false, .int .i64 0]) ?_ 3 _ rfl; (with_reducible repeat (first | refine blk_drewN ?_ _ | refine blk_drew ?_ | refine blk_alloc ?_ _)); refine blk_put (cs := #[.int .i64 t115, .int .i64 t116, .string (⟨#[]⟩ : ByteArray), .bool false, .int .i64 0]) ?_ 2 _ rfl; (with_reducible repeat (first | refine blk_drewN ?_ _ | refine blk_drew ?_ | refine blk_alloc ?_ _)); refine blk_put (cs := #[.int .i64 t115, .int .i64 0, .string (⟨#[]⟩ : ByteArray), .bool false, .int .i64 0]) ?_ 1 _ rfl; (with_reducible repeat (first | refine blk_drewN ?_ _ | refine blk_drew ?_ | refine blk_alloc ?_ _)); refine blk_put (cs := #[.int .i64 0, .int .i64 0, .string (⟨#[]⟩ : ByteArray), .bool false, .int .i64 0]) ?_ 0 _ rfl; (with_reducible repeat (first | refine blk_drewN ?_ _ | refine blk_drew ?_ | refine blk_alloc ?_ _)); refine blk_far ?_ NB121_120.out _; (with_reducible repeat (first | refine blk_drewN ?_ _ | refine blk_drew ?_ | refine blk_alloc ?_ _)); refine blk_far ?_ NB121_120.out _; (with_reducible repeat (first | refine blk_drewN ?_ _ | refine blk_drew ?_ | refine blk_alloc ?_ _)); refine blk_far ?_ NB121_120.out _; (with_reducible repeat (first | refine blk_drewN ?_ _ | refine blk_drew ?_ | refine blk_alloc ?_ _)); refine blk_far ?_ NB121_120.out _; (with_reducible repeat (first | refine blk_drewN ?_ _ | refine blk_drew ?_ | refine blk_alloc ?_ _)); refine blk_far ?_ NB121_120.out _; (with_reducible repeat (first | refine blk_drewN ?_ _ | refine blk_drew ?_ | refine blk_alloc ?_ _)); exact BK121.out⟩
          have n5_ : Aside0 (Below w.heap.size w ((((((((((w16.setCell ⟨gb120, 0, none⟩ (.int .i64 t110)).setCell ⟨gb120, 1, none⟩ (.int .i64 t111)).setCell ⟨gb120, 2, none⟩ (.string t112)).setCell ⟨gb120, 3, none⟩ (.bool t113)).setCell ⟨gb120, 4, none⟩ (.int .i64 t114)).setCell ⟨gb121, 0, none⟩ (.int .i64 t115)).setCell ⟨gb121, 1, none⟩ (.int .i64 t116)).setCell ⟨gb121, 2, none⟩ (.string t117)).setCell ⟨gb121, 3, none⟩ (.bool t118)).setCell ⟨gb121, 4, none⟩ (.int .i64 t119))) := ⟨by repeat (first | (with_reducible first | exact HB.out | apply below_alloc | apply pw_below_drewN | apply below_drew1 | refine below_set ?_ GE109.out | refine below_set ?_ GE120.out | refine below_set ?_ GE121.out) | exact HB.out)⟩
          (try clear HO_4)
          (try clear HO_5)
          (try clear BK109)
          (try clear BK120)
          (try clear BK121)
          (try clear HB)
          generalize ((((((((((w16.setCell ⟨gb120, 0, none⟩ (.int .i64 t110)).setCell ⟨gb120, 1, none⟩ (.int .i64 t111)).setCell ⟨gb120, 2, none⟩ (.string t112)).setCell ⟨gb120, 3, none⟩ (.bool t113)).setCell ⟨gb120, 4, none⟩ (.int .i64 t114)).setCell ⟨gb121, 0, none⟩ (.int .i64 t115)).setCell ⟨gb121, 1, none⟩ (.int .i64 t116)).setCell ⟨gb121, 2, none⟩ (.string t117)).setCell ⟨gb121, 3, none⟩ (.bool t118)).setCell ⟨gb121, 4, none⟩ (.int .i64 t119)) = w24 at n0_ n1_ n2_ n3_ n4_ n5_ ⊢
          have HO_4 := n0_
          have HO_5 := n1_
          have BK109 := n2_
          have BK120 := n3_
          have BK121 := n4_
          have HB := n5_
          clear n0_ n1_ n2_ n3_ n4_ n5_
          have n0_ := Aside0.mk (Kd.R_drew HO_4.out)
          have n1_ := Aside0.mk (Kd.R_drew HO_5.out)
          have n2_ := Aside0.mk (blk_drew BK109.out)
          have n3_ := Aside0.mk (blk_drew BK120.out)
          have n4_ := Aside0.mk (blk_drew BK121.out)
          have n5_ := Aside0.mk (below_drew1 HB.out)
          clear HO_4
          clear HO_5
          clear BK109
          clear BK120
          clear BK121
          clear HB
          have HO_4 := n0_
          have HO_5 := n1_
          have BK109 := n2_
          have BK120 := n3_
          have BK121 := n4_
          have HB := n5_
          clear n0_ n1_ n2_ n3_ n4_ n5_
          refine start_ (n := 10) (S := fun w' => w'.cell? ⟨gb120, 0, none⟩ = some (.int .i64 t110) ∧ w'.cell? ⟨gb120, 1, none⟩ = some (.int .i64 t111) ∧ w'.cell? ⟨gb120, 2, none⟩ = some (.string t112) ∧ w'.cell? ⟨gb120, 3, none⟩ = some (.bool t113) ∧ w'.cell? ⟨gb120, 4, none⟩ = some (.int .i64 t114) ∧ w'.cell? ⟨gb121, 0, none⟩ = some (.int .i64 t115) ∧ w'.cell? ⟨gb121, 1, none⟩ = some (.int .i64 t116) ∧ w'.cell? ⟨gb121, 2, none⟩ = some (.string t117) ∧ w'.cell? ⟨gb121, 3, none⟩ = some (.bool t118) ∧ w'.cell? ⟨gb121, 4, none⟩ = some (.int .i64 t119)) (ds := []) #[false, false, false, false, false, false, false, false, false, false] (by kernel_rfl) rfl rfl ⟨(blk_cell BK120.out 0).trans rfl, (blk_cell BK120.out 1).trans rfl, (blk_cell BK120.out 2).trans rfl, (blk_cell BK120.out 3).trans rfl, (blk_cell BK120.out 4).trans rfl, (blk_cell BK121.out 0).trans rfl, (blk_cell BK121.out 1).trans rfl, (blk_cell BK121.out 2).trans rfl, (blk_cell BK121.out 3).trans rfl, (blk_cell BK121.out 4).trans rfl⟩ (fun hHeld => ?_); refine with_tabW latticelaw12_list.tab7 latticelaw12_list.bits7 (fun HT_ HW_ => ?_)
          generalize w24.drew = w25 at HO_4 HO_5 BK109 BK120 BK121 HB hHeld ⊢
          refine pure_ (i := 0) (N := some 25) (v := ?_) (a' := ?_) #[true, false, false, false, false, false, false, false, false, false] rfl rfl (any_of HT_.out (by kernel_rfl)) (fun _ _ _ h => h) (Or.inl ⟨by rfl, ?_⟩) ?_ ?_
          rotate_left
          ·intro w'
           go_simp
           with_reducible rfl
          rotate_left
          ·simp only [Act.put, List.setIfInBounds_toArray, List.set_cons_zero, List.set_cons_succ, i64_w, i32_w]
           rfl
          refine pure_ (i := 4) (N := some 29) (v := ?_) (a' := ?_) #[true, false, false, false, true, false, false, false, false, false] rfl rfl (any_of HT_.out (by kernel_rfl)) (fun _ _ _ h => h) (Or.inl ⟨by rfl, ?_⟩) ?_ ?_
          rotate_left
          ·intro w'
           go_simp
           with_reducible rfl
          rotate_left
          ·simp only [Act.put, List.setIfInBounds_toArray, List.set_cons_zero, List.set_cons_succ, i64_w, i32_w]
           rfl
          refine take_ (i := 1) (N := some 26) (v := ?_) (a' := ?_) #[true, true, false, false, true, false, false, false, false, false] rfl rfl (take_ofW HT_.out HW_.out (by kernel_rfl)) (fun _ _ _ h => h) (Or.inl ⟨by rfl, ?_⟩) hHeld ?_ ?_
          rotate_left
          ·rintro w' ⟨s0, s1, s2, s3, s4, s5, s6, s7, s8, s9⟩
           go_simp
           with_reducible rfl
          rotate_left
          ·simp only [Act.put, List.setIfInBounds_toArray, List.set_cons_zero, List.set_cons_succ, i64_w, i32_w]
           rfl
          refine take_ (i := 5) (N := some 30) (v := ?_) (a' := ?_) #[true, true, false, false, true, true, false, false, false, false] rfl rfl (take_ofW HT_.out HW_.out (by kernel_rfl)) (fun _ _ _ h => h) (Or.inl ⟨by rfl, ?_⟩) hHeld ?_ ?_
          rotate_left
          ·rintro w' ⟨s0, s1, s2, s3, s4, s5, s6, s7, s8, s9⟩
           go_simp
           with_reducible rfl
          rotate_left
          ·simp only [Act.put, List.setIfInBounds_toArray, List.set_cons_zero, List.set_cons_succ, i64_w, i32_w]
           rfl
          refine join_ (σ := Value × Value × Value) 3 #[true, true, true, true, true, true, true, false, false, false] (fun s_ => [(27, s_.1), (28, s_.2.1), (31, s_.2.2)]) (fun s_ w' => (w'.cell? ⟨gb120, 0, none⟩ = some (.int .i64 t110) ∧ w'.cell? ⟨gb120, 1, none⟩ = some (.int .i64 t111) ∧ w'.cell? ⟨gb120, 2, none⟩ = some (.string t112) ∧ w'.cell? ⟨gb120, 3, none⟩ = some (.bool t113) ∧ w'.cell? ⟨gb120, 4, none⟩ = some (.int .i64 t114) ∧ w'.cell? ⟨gb121, 0, none⟩ = some (.int .i64 t115) ∧ w'.cell? ⟨gb121, 1, none⟩ = some (.int .i64 t116) ∧ w'.cell? ⟨gb121, 2, none⟩ = some (.string t117) ∧ w'.cell? ⟨gb121, 3, none⟩ = some (.bool t118) ∧ w'.cell? ⟨gb121, 4, none⟩ = some (.int .i64 t119)) ∧ (Kd.R k29 29 w' w.heap.size (fun k_ => some k_ ≠ (s_.2.1 : Value).ownBlock ∧ k_ ≠ gb120) s_.1 y122) ∧ (Kd.R k29 29 w' w.heap.size (fun k_ => some k_ ≠ (s_.1 : Value).ownBlock ∧ k_ ≠ gb120) s_.2.1 y125) ∧ (Kd.R k30 30 w' w.heap.size (fun k_ => some k_ ≠ (.slice Ao23 x5_1.length co23 : Value).ownBlock ∧ k_ ≠ gb121) s_.2.2 y128) ∧ (Kd.R k30 30 w' w.heap.size (fun k_ => some k_ ≠ (s_.2.2 : Value).ownBlock ∧ k_ ≠ gb121) (.slice Ao23 x5_1.length co23) x5_1) ∧ (w'.heap[gb109]? = some (.cells #[.int .i64 ((rd_T23 y104 x16_1).f0), .int .i64 ((rd_T23 y104 x16_1).f1), .string ((rd_T23 y104 x16_1).f2), .bool ((rd_T23 y104 x16_1).f3), .int .i64 ((rd_T23 y104 x16_1).f4)] 23 (0, 0))) ∧ (w'.heap[gb120]? = some (.cells #[.int .i64 t110, .int .i64 t111, .string t112, .bool t113, .int .i64 t114] 29 (0, 0))) ∧ (w'.heap[gb121]? = some (.cells #[.int .i64 t115, .int .i64 t116, .string t117, .bool t118, .int .i64 t119] 30 (0, 0))) ∧ (Below w.heap.size w w')) ?_ ?_
          rotate_left
          ·intro hCont
           refine two_ (i := 2) (j := 6) (Ni := some 27) (Nj := some 31) #[true, true, true, false, true, true, false, false, false, false] #[true, true, false, false, true, true, true, false, false, false] rfl rfl rfl rfl (two_of HT_.out (by kernel_rfl)) (by decide) (by decide) (fun K hK => ?_) (fun K hK => ?_)
           ·skip
            refine Kd.R_lit_step k29 _ 29 ?hg (N := 27) ?hd (xs := ([(⟨t110, t111, t112, t113, t114⟩ : S29)] : List (S29))) (inner := [.int .i64 t110, .int .i64 t111, .string t112, .bool t113, .int .i64 t114]) (ok := fun _ => True) (okp := fun _ => True) ?hr ?hp (fun _ hk => hk) trivial (Below.refl _ _) (Nat.le_refl _) (by simp) ?_; (case hd => rfl); (case hg => rfl); (case hr => first | (go_simp; done) | (go_simp; rfl)); (case hp => exact (Reps.c5 (show Kd.M k29 _ _ _ (⟨t110, t111, t112, t113, t114⟩ : S29) [.int .i64 t110, .int .i64 t111, .string t112, .bool t113, .int .i64 t114] from (k29_mkM _ _ _ (⟨t110, t111, t112, t113, t114⟩ : S29) )) (Reps.none _ _)))
            intro v123 w26 ho27 hb hg_ hnew_
            clear hg_ hnew_
            (first | rw [← Ny122.out] at ho27 | (simp only [Int.reduceToNat] at ho27; rw [← Ny122.out] at ho27))
            have n0_ := Aside0.mk (Kd.R_elder' (by (with_reducible repeat (first | apply Kd.R_alloc | apply Kd.R_drewN | apply Kd.R_drew)); exact HO_4.out) (Kd.R_base ho27) hb)
            have n1_ := Aside0.mk (Kd.R_below (by (with_reducible repeat (first | apply Kd.R_alloc | apply Kd.R_drewN | apply Kd.R_drew)); exact HO_5.out) hb)
            have n2_ := Aside0.mk (Kd.R_lower (Kd.R_newB (Kd.R_new' ho27 (Kd.R_lt (by (with_reducible repeat (first | apply Kd.R_alloc | apply Kd.R_drewN | apply Kd.R_drew)); exact HO_4.out))) (g := gb120) (o := .cells #[.int .i64 t110, .int .i64 t111, .string t112, .bool t113, .int .i64 t114] 29 (0, 0)) (by (with_reducible repeat (first | refine blk_drewN ?_ _ | refine blk_drew ?_ | refine blk_alloc ?_ _)); exact BK120.out)) (bz))
            have n3_ := (bb BK109 hb)
            have n4_ := (bb BK120 hb)
            have n5_ := (bb BK121 hb)
            have n6_ := (bs hb)
            clear HO_4
            clear HO_5
            clear BK109
            clear BK120
            clear BK121
            clear HB
            have HO_4 := n0_
            have HO_5 := n1_
            have HO124 := n2_
            have BK109 := n3_
            have BK120 := n4_
            have BK121 := n5_
            have HB := n6_
            clear n0_ n1_ n2_ n3_ n4_ n5_ n6_
            clear hb ho27
            obtain ⟨Ao29, co29, eo29⟩ := Kd.R_slice HO124.out
            (first | subst eo29 | (injection eo29 with f1_ f2_ f3_; have f4_ := f1_.symm; have f5_ := f3_.symm; clear f1_ f2_ f3_; subst f4_; subst f5_))
            refine hK.out _ _ ⟨(blk_cell BK120.out 0).trans rfl, (blk_cell BK120.out 1).trans rfl, (blk_cell BK120.out 2).trans rfl, (blk_cell BK120.out 3).trans rfl, (blk_cell BK120.out 4).trans rfl, (blk_cell BK121.out 0).trans rfl, (blk_cell BK121.out 1).trans rfl, (blk_cell BK121.out 2).trans rfl, (blk_cell BK121.out 3).trans rfl, (blk_cell BK121.out 4).trans rfl⟩ (fun hHeld => ?_)
            clear hK K
            refine norm_ (a' := ?_) ?_ ?_
            rotate_left
            ·show Act.put _ (some 27) _ = _
             simp only [Act.put, List.setIfInBounds_toArray, List.set_cons_zero, List.set_cons_succ, i64_w, i32_w]
             rfl
            refine two_ (i := 3) (j := 6) (Ni := some 28) (Nj := some 31) #[true, true, true, true, true, true, false, false, false, false] #[true, true, true, false, true, true, true, false, false, false] rfl rfl rfl rfl (two_of HT_.out (by kernel_rfl)) (by decide) (by decide) (fun K hK => ?_) (fun K hK => ?_)
            ·skip
             refine Kd.R_append_rows_step k29 (w0 := w) w.heap.size (by rfl) (.tmp 25) (.tmp 27) 33 29 (.agg #[(.int .i64 0), (.int .i64 0), (.string ⟨#[]⟩), (.bool false), (.int .i64 0)]) 48 rfl Tryz.underlying33 info29 rfl (by decide) (by omega) (.slice Ao22 x4_1.length co22) x4_1 y122 _ _ _ (fun k_ => some k_ ≠ (.slice Ao29 y122.length co29 : Value).ownBlock ∧ k_ ≠ gb120) (fun _ => False) rfl rfl ?aO ?aR (fun _ _ h => h) (fun _ h => h.elim) ?aF ?aB ?aS ?aL ?_
             (case aR => repeat (first | exact (Kd.R_reads' HO124.out).2.2 | (with_reducible refine Kd.C_alloc ?_ _) | (with_reducible refine Kd.C_drewN ?_ _) | (with_reducible refine Kd.C_drew ?_)))
             (case aB => exact be)
             (case aF => exact (fun k_ hk => ⟨Kd.fresh' (Kd.R_lt (by (with_reducible repeat (first | apply Kd.R_alloc | apply Kd.R_drewN | apply Kd.R_drew)); exact HO124.out)) k_ hk, Kd.freshB (g := gb120) (o := .cells #[.int .i64 t110, .int .i64 t111, .string t112, .bool t113, .int .i64 t114] 29 (0, 0)) (by (with_reducible repeat (first | refine blk_drewN ?_ _ | refine blk_drew ?_ | refine blk_alloc ?_ _)); exact BK120.out) k_ hk⟩))
             (case aO => exact (by (with_reducible repeat (first | apply Kd.R_alloc | apply Kd.R_drewN | apply Kd.R_drew)); exact Kd.R_mono HO_4.out (fun _ hk => ⟨hk.2, hk.1⟩)))
             (case aS => exact (bz))
             (case aL => have := LMc10.out; omega)
             intro v126 w28 ho hb hg hat
             rw [← Ny125.out] at ho
             have n0_ := Aside0.mk (Kd.R_over' (by (with_reducible repeat (first | apply Kd.R_alloc | apply Kd.R_drewN | apply Kd.R_drew)); exact HO_5.out) (Kd.R_typed (by (with_reducible repeat (first | apply Kd.R_alloc | apply Kd.R_drewN | apply Kd.R_drew)); exact HO_4.out)) (by decide) hg)
             have n1_ := Aside0.mk (blk_grown (g := gb109) (o := .cells #[.int .i64 ((rd_T23 y104 x16_1).f0), .int .i64 ((rd_T23 y104 x16_1).f1), .string ((rd_T23 y104 x16_1).f2), .bool ((rd_T23 y104 x16_1).f3), .int .i64 ((rd_T23 y104 x16_1).f4)] 23 (0, 0)) (by (with_reducible repeat (first | refine blk_drewN ?_ _ | refine blk_drew ?_ | refine blk_alloc ?_ _)); exact BK109.out) hg (Kd.R_ne HO_4.out BK109.out (by decide)))
             have n2_ := Aside0.mk (blk_grown (g := gb120) (o := .cells #[.int .i64 t110, .int .i64 t111, .string t112, .bool t113, .int .i64 t114] 29 (0, 0)) (by (with_reducible repeat (first | refine blk_drewN ?_ _ | refine blk_drew ?_ | refine blk_alloc ?_ _)); exact BK120.out) hg (Kd.R_away HO_4.out (fun _ hk => hk.1)))
             have n3_ := Aside0.mk (blk_grown (g := gb121) (o := .cells #[.int .i64 t115, .int .i64 t116, .string t117, .bool t118, .int .i64 t119] 30 (0, 0)) (by (with_reducible repeat (first | refine blk_drewN ?_ _ | refine blk_drew ?_ | refine blk_alloc ?_ _)); exact BK121.out) hg (Kd.R_ne HO_4.out BK121.out (by decide)))
             have n4_ := Aside0.mk (Kd.R_after (ok := (fun k_ => k_ ≠ gb120)) (by (with_reducible repeat (first | apply Kd.R_alloc | apply Kd.R_drewN | apply Kd.R_drew)); exact Kd.R_mono HO124.out (fun _ hk => ⟨hk.2, hk.1.2⟩)) hg hat)
             have n5_ := Aside0.mk (hb)
             have n6_ := Aside0.mk (ho)
             clear HO_5
             clear BK109
             clear BK120
             clear BK121
             clear HO124
             clear HB
             clear HO_4
             have HO_5 := n0_
             have BK109 := n1_
             have BK120 := n2_
             have BK121 := n3_
             have HO124 := n4_
             have HB := n5_
             have HO127 := n6_
             clear n0_ n1_ n2_ n3_ n4_ n5_ n6_
             clear ho hb hg hat
             refine hK.out _ _ ⟨(blk_cell BK120.out 0).trans rfl, (blk_cell BK120.out 1).trans rfl, (blk_cell BK120.out 2).trans rfl, (blk_cell BK120.out 3).trans rfl, (blk_cell BK120.out 4).trans rfl, (blk_cell BK121.out 0).trans rfl, (blk_cell BK121.out 1).trans rfl, (blk_cell BK121.out 2).trans rfl, (blk_cell BK121.out 3).trans rfl, (blk_cell BK121.out 4).trans rfl⟩ (fun hHeld => ?_)
             clear hK K
             refine norm_ (a' := ?_) ?_ ?_
             rotate_left
             ·show Act.put _ (some 28) _ = _
              simp only [Act.put, List.setIfInBounds_toArray, List.set_cons_zero, List.set_cons_succ, i64_w, i32_w]
              rfl
             refine one_ (i := 6) (N := some 31) #[true, true, true, true, true, true, true, false, false, false] rfl rfl (one_of HT_.out (by kernel_rfl)) (by decide) (fun K hK => ?_)
             refine Kd.R_lit_step k30 _ 30 ?hg (N := 31) ?hd (xs := ([(⟨t115, t116, t117, t118, t119⟩ : S30)] : List (S30))) (inner := [.int .i64 t115, .int .i64 t116, .string t117, .bool t118, .int .i64 t119]) (ok := fun _ => True) (okp := fun _ => True) ?hr ?hp (fun _ hk => hk) trivial (Below.refl _ _) (Nat.le_refl _) (by simp) ?_; (case hd => rfl); (case hg => rfl); (case hr => first | (go_simp; done) | (go_simp; rfl)); (case hp => exact (Reps.c5 (show Kd.M k30 _ _ _ (⟨t115, t116, t117, t118, t119⟩ : S30) [.int .i64 t115, .int .i64 t116, .string t117, .bool t118, .int .i64 t119] from (k30_mkM _ _ _ (⟨t115, t116, t117, t118, t119⟩ : S30) )) (Reps.none _ _)))
             intro v129 w30 ho31 hb hg_ hnew_
             clear hg_ hnew_
             (first | rw [← Ny128.out] at ho31 | (simp only [Int.reduceToNat] at ho31; rw [← Ny128.out] at ho31))
             have n0_ := Aside0.mk (Kd.R_elder' (by (with_reducible repeat (first | apply Kd.R_alloc | apply Kd.R_drewN | apply Kd.R_drew)); exact HO_5.out) (Kd.R_base ho31) hb)
             have n1_ := Aside0.mk (Kd.R_below (by (with_reducible repeat (first | apply Kd.R_alloc | apply Kd.R_drewN | apply Kd.R_drew)); exact HO124.out) hb)
             have n2_ := Aside0.mk (Kd.R_below (by (with_reducible repeat (first | apply Kd.R_alloc | apply Kd.R_drewN | apply Kd.R_drew)); exact HO127.out) hb)
             have n3_ := Aside0.mk (Kd.R_lower (Kd.R_newB (Kd.R_new' ho31 (Kd.R_lt (by (with_reducible repeat (first | apply Kd.R_alloc | apply Kd.R_drewN | apply Kd.R_drew)); exact HO_5.out))) (g := gb121) (o := .cells #[.int .i64 t115, .int .i64 t116, .string t117, .bool t118, .int .i64 t119] 30 (0, 0)) (by (with_reducible repeat (first | refine blk_drewN ?_ _ | refine blk_drew ?_ | refine blk_alloc ?_ _)); exact BK121.out)) (bz))
             have n4_ := (bb BK109 hb)
             have n5_ := (bb BK120 hb)
             have n6_ := (bb BK121 hb)
             have n7_ := (bs hb)
             clear HO_5
             clear HO124
             clear HO127
             clear BK109
             clear BK120
             clear BK121
             clear HB
             have HO_5 := n0_
             have HO124 := n1_
             have HO127 := n2_
             have HO130 := n3_
             have BK109 := n4_
             have BK120 := n5_
             have BK121 := n6_
             have HB := n7_
             clear n0_ n1_ n2_ n3_ n4_ n5_ n6_ n7_
             clear hb ho31
             refine hK.out _ _ ⟨(blk_cell BK120.out 0).trans rfl, (blk_cell BK120.out 1).trans rfl, (blk_cell BK120.out 2).trans rfl, (blk_cell BK120.out 3).trans rfl, (blk_cell BK120.out 4).trans rfl, (blk_cell BK121.out 0).trans rfl, (blk_cell BK121.out 1).trans rfl, (blk_cell BK121.out 2).trans rfl, (blk_cell BK121.out 3).trans rfl, (blk_cell BK121.out 4).trans rfl⟩ (fun hHeld => ?_)
             clear hK K
             refine norm_ (a' := ?_) ?_ ?_
             rotate_left
             ·show Act.put _ (some 31) _ = _
              simp only [Act.put, List.setIfInBounds_toArray, List.set_cons_zero, List.set_cons_succ, i64_w, i32_w]
              rfl
             exact norm_ (by simp only [putAll, Act.put, List.setIfInBounds_toArray, List.set_cons_zero, List.set_cons_succ]) (hCont (.slice Ao29 y122.length co29, v126, v129) _ ⟨hHeld, (by (with_reducible repeat (first | apply Kd.R_alloc | apply Kd.R_drewN | apply Kd.R_drew)); exact Kd.R_mono HO124.out (fun _ hk => ⟨hk.2, hk.1⟩)), (by (with_reducible repeat (first | apply Kd.R_alloc | apply Kd.R_drewN | apply Kd.R_drew)); exact HO127.out), (by (with_reducible repeat (first | apply Kd.R_alloc | apply Kd.R_drewN | apply Kd.R_drew)); exact Kd.R_mono HO130.out (fun _ hk => ⟨hk.1.2, hk.2⟩)), (by (with_reducible repeat (first | apply Kd.R_alloc | apply Kd.R_drewN | apply Kd.R_drew)); exact Kd.R_mono HO_5.out (fun _ hk => ⟨hk.2, hk.1⟩)), (by (with_reducible repeat (first | refine blk_drewN ?_ _ | refine blk_drew ?_ | refine blk_alloc ?_ _)); exact BK109.out), (by (with_reducible repeat (first | refine blk_drewN ?_ _ | refine blk_drew ?_ | refine blk_alloc ?_ _)); exact BK120.out), (by (with_reducible repeat (first | refine blk_drewN ?_ _ | refine blk_drew ?_ | refine blk_alloc ?_ _)); exact BK121.out), be⟩)
            ·skip
             refine Kd.R_lit_step k30 _ 30 ?hg (N := 31) ?hd (xs := ([(⟨t115, t116, t117, t118, t119⟩ : S30)] : List (S30))) (inner := [.int .i64 t115, .int .i64 t116, .string t117, .bool t118, .int .i64 t119]) (ok := fun _ => True) (okp := fun _ => True) ?hr ?hp (fun _ hk => hk) trivial (Below.refl _ _) (Nat.le_refl _) (by simp) ?_; (case hd => rfl); (case hg => rfl); (case hr => first | (go_simp; done) | (go_simp; rfl)); (case hp => exact (Reps.c5 (show Kd.M k30 _ _ _ (⟨t115, t116, t117, t118, t119⟩ : S30) [.int .i64 t115, .int .i64 t116, .string t117, .bool t118, .int .i64 t119] from (k30_mkM _ _ _ (⟨t115, t116, t117, t118, t119⟩ : S30) )) (Reps.none _ _)))
             intro v129 w28 ho29 hb hg_ hnew_
             clear hg_ hnew_
             (first | rw [← Ny128.out] at ho29 | (simp only [Int.reduceToNat] at ho29; rw [← Ny128.out] at ho29))
             have n0_ := Aside0.mk (Kd.R_below (by (with_reducible repeat (first | apply Kd.R_alloc | apply Kd.R_drewN | apply Kd.R_drew)); exact HO_4.out) hb)
             have n1_ := Aside0.mk (Kd.R_elder' (by (with_reducible repeat (first | apply Kd.R_alloc | apply Kd.R_drewN | apply Kd.R_drew)); exact HO_5.out) (Kd.R_base ho29) hb)
             have n2_ := Aside0.mk (Kd.R_below (by (with_reducible repeat (first | apply Kd.R_alloc | apply Kd.R_drewN | apply Kd.R_drew)); exact HO124.out) hb)
             have n3_ := Aside0.mk (Kd.R_lower (Kd.R_newB (Kd.R_new' ho29 (Kd.R_lt (by (with_reducible repeat (first | apply Kd.R_alloc | apply Kd.R_drewN | apply Kd.R_drew)); exact HO_5.out))) (g := gb121) (o := .cells #[.int .i64 t115, .int .i64 t116, .string t117, .bool t118, .int .i64 t119] 30 (0, 0)) (by (with_reducible repeat (first | refine blk_drewN ?_ _ | refine blk_drew ?_ | refine blk_alloc ?_ _)); exact BK121.out)) (bz))
             have n4_ := (bb BK109 hb)
             have n5_ := (bb BK120 hb)
             have n6_ := (bb BK121 hb)
             have n7_ := (bs hb)
             clear HO_4
             clear HO_5
             clear HO124
             clear BK109
             clear BK120
             clear BK121
             clear HB
             have HO_4 := n0_
             have HO_5 := n1_
             have HO124 := n2_
             have HO130 := n3_
             have BK109 := n4_
             have BK120 := n5_
             have BK121 := n6_
             have HB := n7_
             clear n0_ n1_ n2_ n3_ n4_ n5_ n6_ n7_
             clear hb ho29
             obtain ⟨Ao31, co31, eo31⟩ := Kd.R_slice HO124.out
             (first | subst eo31 | (injection eo31 with f1_ f2_ f3_; have f4_ := f1_.symm; have f5_ := f3_.symm; clear f1_ f2_ f3_; subst f4_; subst f5_))
             refine hK.out _ _ ⟨(blk_cell BK120.out 0).trans rfl, (blk_cell BK120.out 1).trans rfl, (blk_cell BK120.out 2).trans rfl, (blk_cell BK120.out 3).trans rfl, (blk_cell BK120.out 4).trans rfl, (blk_cell BK121.out 0).trans rfl, (blk_cell BK121.out 1).trans rfl, (blk_cell BK121.out 2).trans rfl, (blk_cell BK121.out 3).trans rfl, (blk_cell BK121.out 4).trans rfl⟩ (fun hHeld => ?_)
             clear hK K
             refine norm_ (a' := ?_) ?_ ?_
             rotate_left
             ·show Act.put _ (some 31) _ = _
              simp only [Act.put, List.setIfInBounds_toArray, List.set_cons_zero, List.set_cons_succ, i64_w, i32_w]
              rfl
             refine one_ (i := 3) (N := some 28) #[true, true, true, true, true, true, true, false, false, false] rfl rfl (one_of HT_.out (by kernel_rfl)) (by decide) (fun K hK => ?_)
             refine Kd.R_append_rows_step k29 (w0 := w) w.heap.size (by rfl) (.tmp 25) (.tmp 27) 33 29 (.agg #[(.int .i64 0), (.int .i64 0), (.string ⟨#[]⟩), (.bool false), (.int .i64 0)]) 48 rfl Tryz.underlying33 info29 rfl (by decide) (by omega) (.slice Ao22 x4_1.length co22) x4_1 y122 _ _ _ (fun k_ => some k_ ≠ (.slice Ao31 y122.length co31 : Value).ownBlock ∧ k_ ≠ gb120) (fun _ => False) rfl rfl ?aO ?aR (fun _ _ h => h) (fun _ h => h.elim) ?aF ?aB ?aS ?aL ?_
             (case aR => repeat (first | exact (Kd.R_reads' HO124.out).2.2 | (with_reducible refine Kd.C_alloc ?_ _) | (with_reducible refine Kd.C_drewN ?_ _) | (with_reducible refine Kd.C_drew ?_)))
             (case aB => exact be)
             (case aF => exact (fun k_ hk => ⟨Kd.fresh' (Kd.R_lt (by (with_reducible repeat (first | apply Kd.R_alloc | apply Kd.R_drewN | apply Kd.R_drew)); exact HO124.out)) k_ hk, Kd.freshB (g := gb120) (o := .cells #[.int .i64 t110, .int .i64 t111, .string t112, .bool t113, .int .i64 t114] 29 (0, 0)) (by (with_reducible repeat (first | refine blk_drewN ?_ _ | refine blk_drew ?_ | refine blk_alloc ?_ _)); exact BK120.out) k_ hk⟩))
             (case aO => exact (by (with_reducible repeat (first | apply Kd.R_alloc | apply Kd.R_drewN | apply Kd.R_drew)); exact Kd.R_mono HO_4.out (fun _ hk => ⟨hk.2, hk.1⟩)))
             (case aS => exact (bz))
             (case aL => have := LMc10.out; omega)
             intro v126 w30 ho hb hg hat
             rw [← Ny125.out] at ho
             have n0_ := Aside0.mk (Kd.R_over' (by (with_reducible repeat (first | apply Kd.R_alloc | apply Kd.R_drewN | apply Kd.R_drew)); exact HO_5.out) (Kd.R_typed (by (with_reducible repeat (first | apply Kd.R_alloc | apply Kd.R_drewN | apply Kd.R_drew)); exact HO_4.out)) (by decide) hg)
             have n1_ := Aside0.mk (blk_grown (g := gb109) (o := .cells #[.int .i64 ((rd_T23 y104 x16_1).f0), .int .i64 ((rd_T23 y104 x16_1).f1), .string ((rd_T23 y104 x16_1).f2), .bool ((rd_T23 y104 x16_1).f3), .int .i64 ((rd_T23 y104 x16_1).f4)] 23 (0, 0)) (by (with_reducible repeat (first | refine blk_drewN ?_ _ | refine blk_drew ?_ | refine blk_alloc ?_ _)); exact BK109.out) hg (Kd.R_ne HO_4.out BK109.out (by decide)))
             have n2_ := Aside0.mk (blk_grown (g := gb120) (o := .cells #[.int .i64 t110, .int .i64 t111, .string t112, .bool t113, .int .i64 t114] 29 (0, 0)) (by (with_reducible repeat (first | refine blk_drewN ?_ _ | refine blk_drew ?_ | refine blk_alloc ?_ _)); exact BK120.out) hg (Kd.R_away HO_4.out (fun _ hk => hk.1)))
             have n3_ := Aside0.mk (blk_grown (g := gb121) (o := .cells #[.int .i64 t115, .int .i64 t116, .string t117, .bool t118, .int .i64 t119] 30 (0, 0)) (by (with_reducible repeat (first | refine blk_drewN ?_ _ | refine blk_drew ?_ | refine blk_alloc ?_ _)); exact BK121.out) hg (Kd.R_ne HO_4.out BK121.out (by decide)))
             have n4_ := Aside0.mk (Kd.R_after (ok := (fun k_ => k_ ≠ gb120)) (by (with_reducible repeat (first | apply Kd.R_alloc | apply Kd.R_drewN | apply Kd.R_drew)); exact Kd.R_mono HO124.out (fun _ hk => ⟨hk.2, hk.1.2⟩)) hg hat)
             have n5_ := Aside0.mk (Kd.R_over' (by (with_reducible repeat (first | apply Kd.R_alloc | apply Kd.R_drewN | apply Kd.R_drew)); exact HO130.out) (Kd.R_typed (by (with_reducible repeat (first | apply Kd.R_alloc | apply Kd.R_drewN | apply Kd.R_drew)); exact HO_4.out)) (by decide) hg)
             have n6_ := Aside0.mk (hb)
             have n7_ := Aside0.mk (ho)
             clear HO_5
             clear BK109
             clear BK120
             clear BK121
             clear HO124
             clear HO130
             clear HB
             clear HO_4
             have HO_5 := n0_
             have BK109 := n1_
             have BK120 := n2_
             have BK121 := n3_
             have HO124 := n4_
             have HO130 := n5_
             have HB := n6_
             have HO127 := n7_
             clear n0_ n1_ n2_ n3_ n4_ n5_ n6_ n7_
             clear ho hb hg hat
             refine hK.out _ _ ⟨(blk_cell BK120.out 0).trans rfl, (blk_cell BK120.out 1).trans rfl, (blk_cell BK120.out 2).trans rfl, (blk_cell BK120.out 3).trans rfl, (blk_cell BK120.out 4).trans rfl, (blk_cell BK121.out 0).trans rfl, (blk_cell BK121.out 1).trans rfl, (blk_cell BK121.out 2).trans rfl, (blk_cell BK121.out 3).trans rfl, (blk_cell BK121.out 4).trans rfl⟩ (fun hHeld => ?_)
             clear hK K
             refine norm_ (a' := ?_) ?_ ?_
             rotate_left
             ·show Act.put _ (some 28) _ = _
              simp only [Act.put, List.setIfInBounds_toArray, List.set_cons_zero, List.set_cons_succ, i64_w, i32_w]
              rfl
             exact norm_ (by simp only [putAll, Act.put, List.setIfInBounds_toArray, List.set_cons_zero, List.set_cons_succ]) (hCont (.slice Ao31 y122.length co31, v126, v129) _ ⟨hHeld, (by (with_reducible repeat (first | apply Kd.R_alloc | apply Kd.R_drewN | apply Kd.R_drew)); exact Kd.R_mono HO124.out (fun _ hk => ⟨hk.2, hk.1⟩)), (by (with_reducible repeat (first | apply Kd.R_alloc | apply Kd.R_drewN | apply Kd.R_drew)); exact HO127.out), (by (with_reducible repeat (first | apply Kd.R_alloc | apply Kd.R_drewN | apply Kd.R_drew)); exact Kd.R_mono HO130.out (fun _ hk => ⟨hk.1.2, hk.2⟩)), (by (with_reducible repeat (first | apply Kd.R_alloc | apply Kd.R_drewN | apply Kd.R_drew)); exact Kd.R_mono HO_5.out (fun _ hk => ⟨hk.2, hk.1⟩)), (by (with_reducible repeat (first | refine blk_drewN ?_ _ | refine blk_drew ?_ | refine blk_alloc ?_ _)); exact BK109.out), (by (with_reducible repeat (first | refine blk_drewN ?_ _ | refine blk_drew ?_ | refine blk_alloc ?_ _)); exact BK120.out), (by (with_reducible repeat (first | refine blk_drewN ?_ _ | refine blk_drew ?_ | refine blk_alloc ?_ _)); exact BK121.out), be⟩)
           ·skip
            refine Kd.R_lit_step k30 _ 30 ?hg (N := 31) ?hd (xs := ([(⟨t115, t116, t117, t118, t119⟩ : S30)] : List (S30))) (inner := [.int .i64 t115, .int .i64 t116, .string t117, .bool t118, .int .i64 t119]) (ok := fun _ => True) (okp := fun _ => True) ?hr ?hp (fun _ hk => hk) trivial (Below.refl _ _) (Nat.le_refl _) (by simp) ?_; (case hd => rfl); (case hg => rfl); (case hr => first | (go_simp; done) | (go_simp; rfl)); (case hp => exact (Reps.c5 (show Kd.M k30 _ _ _ (⟨t115, t116, t117, t118, t119⟩ : S30) [.int .i64 t115, .int .i64 t116, .string t117, .bool t118, .int .i64 t119] from (k30_mkM _ _ _ (⟨t115, t116, t117, t118, t119⟩ : S30) )) (Reps.none _ _)))
            intro v129 w26 ho27 hb hg_ hnew_
            clear hg_ hnew_
            (first | rw [← Ny128.out] at ho27 | (simp only [Int.reduceToNat] at ho27; rw [← Ny128.out] at ho27))
            have n0_ := Aside0.mk (Kd.R_below (by (with_reducible repeat (first | apply Kd.R_alloc | apply Kd.R_drewN | apply Kd.R_drew)); exact HO_4.out) hb)
            have n1_ := Aside0.mk (Kd.R_elder' (by (with_reducible repeat (first | apply Kd.R_alloc | apply Kd.R_drewN | apply Kd.R_drew)); exact HO_5.out) (Kd.R_base ho27) hb)
            have n2_ := Aside0.mk (Kd.R_lower (Kd.R_newB (Kd.R_new' ho27 (Kd.R_lt (by (with_reducible repeat (first | apply Kd.R_alloc | apply Kd.R_drewN | apply Kd.R_drew)); exact HO_5.out))) (g := gb121) (o := .cells #[.int .i64 t115, .int .i64 t116, .string t117, .bool t118, .int .i64 t119] 30 (0, 0)) (by (with_reducible repeat (first | refine blk_drewN ?_ _ | refine blk_drew ?_ | refine blk_alloc ?_ _)); exact BK121.out)) (bz))
            have n3_ := (bb BK109 hb)
            have n4_ := (bb BK120 hb)
            have n5_ := (bb BK121 hb)
            have n6_ := (bs hb)
            clear HO_4
            clear HO_5
            clear BK109
            clear BK120
            clear BK121
            clear HB
            have HO_4 := n0_
            have HO_5 := n1_
            have HO130 := n2_
            have BK109 := n3_
            have BK120 := n4_
            have BK121 := n5_
            have HB := n6_
            clear n0_ n1_ n2_ n3_ n4_ n5_ n6_
            clear hb ho27
            refine hK.out _ _ ⟨(blk_cell BK120.out 0).trans rfl, (blk_cell BK120.out 1).trans rfl, (blk_cell BK120.out 2).trans rfl, (blk_cell BK120.out 3).trans rfl, (blk_cell BK120.out 4).trans rfl, (blk_cell BK121.out 0).trans rfl, (blk_cell BK121.out 1).trans rfl, (blk_cell BK121.out 2).trans rfl, (blk_cell BK121.out 3).trans rfl, (blk_cell BK121.out 4).trans rfl⟩ (fun hHeld => ?_)
            clear hK K
            refine norm_ (a' := ?_) ?_ ?_
            rotate_left
            ·show Act.put _ (some 31) _ = _
             simp only [Act.put, List.setIfInBounds_toArray, List.set_cons_zero, List.set_cons_succ, i64_w, i32_w]
             rfl
            refine one_ (i := 2) (N := some 27) #[true, true, true, false, true, true, true, false, false, false] rfl rfl (one_of HT_.out (by kernel_rfl)) (by decide) (fun K hK => ?_)
            refine Kd.R_lit_step k29 _ 29 ?hg (N := 27) ?hd (xs := ([(⟨t110, t111, t112, t113, t114⟩ : S29)] : List (S29))) (inner := [.int .i64 t110, .int .i64 t111, .string t112, .bool t113, .int .i64 t114]) (ok := fun _ => True) (okp := fun _ => True) ?hr ?hp (fun _ hk => hk) trivial (Below.refl _ _) (Nat.le_refl _) (by simp) ?_; (case hd => rfl); (case hg => rfl); (case hr => first | (go_simp; done) | (go_simp; rfl)); (case hp => exact (Reps.c5 (show Kd.M k29 _ _ _ (⟨t110, t111, t112, t113, t114⟩ : S29) [.int .i64 t110, .int .i64 t111, .string t112, .bool t113, .int .i64 t114] from (k29_mkM _ _ _ (⟨t110, t111, t112, t113, t114⟩ : S29) )) (Reps.none _ _)))
            intro v123 w28 ho29 hb hg_ hnew_
            clear hg_ hnew_
            (first | rw [← Ny122.out] at ho29 | (simp only [Int.reduceToNat] at ho29; rw [← Ny122.out] at ho29))
            have n0_ := Aside0.mk (Kd.R_elder' (by (with_reducible repeat (first | apply Kd.R_alloc | apply Kd.R_drewN | apply Kd.R_drew)); exact HO_4.out) (Kd.R_base ho29) hb)
            have n1_ := Aside0.mk (Kd.R_below (by (with_reducible repeat (first | apply Kd.R_alloc | apply Kd.R_drewN | apply Kd.R_drew)); exact HO_5.out) hb)
            have n2_ := Aside0.mk (Kd.R_below (by (with_reducible repeat (first | apply Kd.R_alloc | apply Kd.R_drewN | apply Kd.R_drew)); exact HO130.out) hb)
            have n3_ := Aside0.mk (Kd.R_lower (Kd.R_newB (Kd.R_new' ho29 (Kd.R_lt (by (with_reducible repeat (first | apply Kd.R_alloc | apply Kd.R_drewN | apply Kd.R_drew)); exact HO_4.out))) (g := gb120) (o := .cells #[.int .i64 t110, .int .i64 t111, .string t112, .bool t113, .int .i64 t114] 29 (0, 0)) (by (with_reducible repeat (first | refine blk_drewN ?_ _ | refine blk_drew ?_ | refine blk_alloc ?_ _)); exact BK120.out)) (bz))
            have n4_ := (bb BK109 hb)
            have n5_ := (bb BK120 hb)
            have n6_ := (bb BK121 hb)
            have n7_ := (bs hb)
            clear HO_4
            clear HO_5
            clear HO130
            clear BK109
            clear BK120
            clear BK121
            clear HB
            have HO_4 := n0_
            have HO_5 := n1_
            have HO130 := n2_
            have HO124 := n3_
            have BK109 := n4_
            have BK120 := n5_
            have BK121 := n6_
            have HB := n7_
            clear n0_ n1_ n2_ n3_ n4_ n5_ n6_ n7_
            clear hb ho29
            obtain ⟨Ao31, co31, eo31⟩ := Kd.R_slice HO124.out
            (first | subst eo31 | (injection eo31 with f1_ f2_ f3_; have f4_ := f1_.symm; have f5_ := f3_.symm; clear f1_ f2_ f3_; subst f4_; subst f5_))
            refine hK.out _ _ ⟨(blk_cell BK120.out 0).trans rfl, (blk_cell BK120.out 1).trans rfl, (blk_cell BK120.out 2).trans rfl, (blk_cell BK120.out 3).trans rfl, (blk_cell BK120.out 4).trans rfl, (blk_cell BK121.out 0).trans rfl, (blk_cell BK121.out 1).trans rfl, (blk_cell BK121.out 2).trans rfl, (blk_cell BK121.out 3).trans rfl, (blk_cell BK121.out 4).trans rfl⟩ (fun hHeld => ?_)
            clear hK K
            refine norm_ (a' := ?_) ?_ ?_
            rotate_left
            ·show Act.put _ (some 27) _ = _
             simp only [Act.put, List.setIfInBounds_toArray, List.set_cons_zero, List.set_cons_succ, i64_w, i32_w]
             rfl
            refine one_ (i := 3) (N := some 28) #[true, true, true, true, true, true, true, false, false, false] rfl rfl (one_of HT_.out (by kernel_rfl)) (by decide) (fun K hK => ?_)
            refine Kd.R_append_rows_step k29 (w0 := w) w.heap.size (by rfl) (.tmp 25) (.tmp 27) 33 29 (.agg #[(.int .i64 0), (.int .i64 0), (.string ⟨#[]⟩), (.bool false), (.int .i64 0)]) 48 rfl Tryz.underlying33 info29 rfl (by decide) (by omega) (.slice Ao22 x4_1.length co22) x4_1 y122 _ _ _ (fun k_ => some k_ ≠ (.slice Ao31 y122.length co31 : Value).ownBlock ∧ k_ ≠ gb120) (fun _ => False) rfl rfl ?aO ?aR (fun _ _ h => h) (fun _ h => h.elim) ?aF ?aB ?aS ?aL ?_
            (case aR => repeat (first | exact (Kd.R_reads' HO124.out).2.2 | (with_reducible refine Kd.C_alloc ?_ _) | (with_reducible refine Kd.C_drewN ?_ _) | (with_reducible refine Kd.C_drew ?_)))
            (case aB => exact be)
            (case aF => exact (fun k_ hk => ⟨Kd.fresh' (Kd.R_lt (by (with_reducible repeat (first | apply Kd.R_alloc | apply Kd.R_drewN | apply Kd.R_drew)); exact HO124.out)) k_ hk, Kd.freshB (g := gb120) (o := .cells #[.int .i64 t110, .int .i64 t111, .string t112, .bool t113, .int .i64 t114] 29 (0, 0)) (by (with_reducible repeat (first | refine blk_drewN ?_ _ | refine blk_drew ?_ | refine blk_alloc ?_ _)); exact BK120.out) k_ hk⟩))
            (case aO => exact (by (with_reducible repeat (first | apply Kd.R_alloc | apply Kd.R_drewN | apply Kd.R_drew)); exact Kd.R_mono HO_4.out (fun _ hk => ⟨hk.2, hk.1⟩)))
            (case aS => exact (bz))
            (case aL => have := LMc10.out; omega)
            intro v126 w30 ho hb hg hat
            rw [← Ny125.out] at ho
            have n0_ := Aside0.mk (Kd.R_over' (by (with_reducible repeat (first | apply Kd.R_alloc | apply Kd.R_drewN | apply Kd.R_drew)); exact HO_5.out) (Kd.R_typed (by (with_reducible repeat (first | apply Kd.R_alloc | apply Kd.R_drewN | apply Kd.R_drew)); exact HO_4.out)) (by decide) hg)
            have n1_ := Aside0.mk (blk_grown (g := gb109) (o := .cells #[.int .i64 ((rd_T23 y104 x16_1).f0), .int .i64 ((rd_T23 y104 x16_1).f1), .string ((rd_T23 y104 x16_1).f2), .bool ((rd_T23 y104 x16_1).f3), .int .i64 ((rd_T23 y104 x16_1).f4)] 23 (0, 0)) (by (with_reducible repeat (first | refine blk_drewN ?_ _ | refine blk_drew ?_ | refine blk_alloc ?_ _)); exact BK109.out) hg (Kd.R_ne HO_4.out BK109.out (by decide)))
            have n2_ := Aside0.mk (blk_grown (g := gb120) (o := .cells #[.int .i64 t110, .int .i64 t111, .string t112, .bool t113, .int .i64 t114] 29 (0, 0)) (by (with_reducible repeat (first | refine blk_drewN ?_ _ | refine blk_drew ?_ | refine blk_alloc ?_ _)); exact BK120.out) hg (Kd.R_away HO_4.out (fun _ hk => hk.1)))
            have n3_ := Aside0.mk (blk_grown (g := gb121) (o := .cells #[.int .i64 t115, .int .i64 t116, .string t117, .bool t118, .int .i64 t119] 30 (0, 0)) (by (with_reducible repeat (first | refine blk_drewN ?_ _ | refine blk_drew ?_ | refine blk_alloc ?_ _)); exact BK121.out) hg (Kd.R_ne HO_4.out BK121.out (by decide)))
            have n4_ := Aside0.mk (Kd.R_over' (by (with_reducible repeat (first | apply Kd.R_alloc | apply Kd.R_drewN | apply Kd.R_drew)); exact HO130.out) (Kd.R_typed (by (with_reducible repeat (first | apply Kd.R_alloc | apply Kd.R_drewN | apply Kd.R_drew)); exact HO_4.out)) (by decide) hg)
            have n5_ := Aside0.mk (Kd.R_after (ok := (fun k_ => k_ ≠ gb120)) (by (with_reducible repeat (first | apply Kd.R_alloc | apply Kd.R_drewN | apply Kd.R_drew)); exact Kd.R_mono HO124.out (fun _ hk => ⟨hk.2, hk.1.2⟩)) hg hat)
            have n6_ := Aside0.mk (hb)
            have n7_ := Aside0.mk (ho)
            clear HO_5
            clear BK109
            clear BK120
            clear BK121
            clear HO130
            clear HO124
            clear HB
            clear HO_4
            have HO_5 := n0_
            have BK109 := n1_
            have BK120 := n2_
            have BK121 := n3_
            have HO130 := n4_
            have HO124 := n5_
            have HB := n6_
            have HO127 := n7_
            clear n0_ n1_ n2_ n3_ n4_ n5_ n6_ n7_
            clear ho hb hg hat
            refine hK.out _ _ ⟨(blk_cell BK120.out 0).trans rfl, (blk_cell BK120.out 1).trans rfl, (blk_cell BK120.out 2).trans rfl, (blk_cell BK120.out 3).trans rfl, (blk_cell BK120.out 4).trans rfl, (blk_cell BK121.out 0).trans rfl, (blk_cell BK121.out 1).trans rfl, (blk_cell BK121.out 2).trans rfl, (blk_cell BK121.out 3).trans rfl, (blk_cell BK121.out 4).trans rfl⟩ (fun hHeld => ?_)
            clear hK K
            refine norm_ (a' := ?_) ?_ ?_
            rotate_left
            ·show Act.put _ (some 28) _ = _
             simp only [Act.put, List.setIfInBounds_toArray, List.set_cons_zero, List.set_cons_succ, i64_w, i32_w]
             rfl
            exact norm_ (by simp only [putAll, Act.put, List.setIfInBounds_toArray, List.set_cons_zero, List.set_cons_succ]) (hCont (.slice Ao31 y122.length co31, v126, v129) _ ⟨hHeld, (by (with_reducible repeat (first | apply Kd.R_alloc | apply Kd.R_drewN | apply Kd.R_drew)); exact Kd.R_mono HO124.out (fun _ hk => ⟨hk.2, hk.1⟩)), (by (with_reducible repeat (first | apply Kd.R_alloc | apply Kd.R_drewN | apply Kd.R_drew)); exact HO127.out), (by (with_reducible repeat (first | apply Kd.R_alloc | apply Kd.R_drewN | apply Kd.R_drew)); exact Kd.R_mono HO130.out (fun _ hk => ⟨hk.1.2, hk.2⟩)), (by (with_reducible repeat (first | apply Kd.R_alloc | apply Kd.R_drewN | apply Kd.R_drew)); exact Kd.R_mono HO_5.out (fun _ hk => ⟨hk.2, hk.1⟩)), (by (with_reducible repeat (first | refine blk_drewN ?_ _ | refine blk_drew ?_ | refine blk_alloc ?_ _)); exact BK109.out), (by (with_reducible repeat (first | refine blk_drewN ?_ _ | refine blk_drew ?_ | refine blk_alloc ?_ _)); exact BK120.out), (by (with_reducible repeat (first | refine blk_drewN ?_ _ | refine blk_drew ?_ | refine blk_alloc ?_ _)); exact BK121.out), be⟩)
          rintro ⟨v123, v126, v129⟩ w32 ⟨hS_, h0_, h1_, h2_, h3_, h4_, h5_, h6_, h7_⟩
          have n0_ : Aside0 (Kd.R k29 29 w32 w.heap.size (fun k_ => some k_ ≠ (v126 : Value).ownBlock ∧ k_ ≠ gb120) v123 y122) := ⟨h0_⟩
          have n1_ : Aside0 (Kd.R k29 29 w32 w.heap.size (fun k_ => some k_ ≠ (v123 : Value).ownBlock ∧ k_ ≠ gb120) v126 y125) := ⟨h1_⟩
          have n2_ : Aside0 (Kd.R k30 30 w32 w.heap.size (fun k_ => some k_ ≠ (.slice Ao23 x5_1.length co23 : Value).ownBlock ∧ k_ ≠ gb121) v129 y128) := ⟨h2_⟩
          have n3_ : Aside0 (Kd.R k30 30 w32 w.heap.size (fun k_ => some k_ ≠ (v129 : Value).ownBlock ∧ k_ ≠ gb121) (.slice Ao23 x5_1.length co23) x5_1) := ⟨h3_⟩
          have n4_ : Aside0 (w32.heap[gb109]? = some (.cells #[.int .i64 ((rd_T23 y104 x16_1).f0), .int .i64 ((rd_T23 y104 x16_1).f1), .string ((rd_T23 y104 x16_1).f2), .bool ((rd_T23 y104 x16_1).f3), .int .i64 ((rd_T23 y104 x16_1).f4)] 23 (0, 0))) := ⟨h4_⟩
          have n5_ : Aside0 (w32.heap[gb120]? = some (.cells #[.int .i64 t110, .int .i64 t111, .string t112, .bool t113, .int .i64 t114] 29 (0, 0))) := ⟨h5_⟩
          have n6_ : Aside0 (w32.heap[gb121]? = some (.cells #[.int .i64 t115, .int .i64 t116, .string t117, .bool t118, .int .i64 t119] 30 (0, 0))) := ⟨h6_⟩
          have n7_ : Aside0 (Below w.heap.size w w32) := ⟨h7_⟩
          clear HO_4
          clear HO_5
          clear BK109
          clear BK120
          clear BK121
          clear HB
          clear h0_ h1_ h2_ h3_ h4_ h5_ h6_ h7_
          have HO124 := n0_
          have HO127 := n1_
          have HO130 := n2_
          have HO_5 := n3_
          have BK109 := n4_
          have BK120 := n5_
          have BK121 := n6_
          have HB := n7_
          clear n0_ n1_ n2_ n3_ n4_ n5_ n6_ n7_
          have hHeld : w32.cell? ⟨gb120, 0, none⟩ = some (.int .i64 t110) ∧ w32.cell? ⟨gb120, 1, none⟩ = some (.int .i64 t111) ∧ w32.cell? ⟨gb120, 2, none⟩ = some (.string t112) ∧ w32.cell? ⟨gb120, 3, none⟩ = some (.bool t113) ∧ w32.cell? ⟨gb120, 4, none⟩ = some (.int .i64 t114) ∧ w32.cell? ⟨gb121, 0, none⟩ = some (.int .i64 t115) ∧ w32.cell? ⟨gb121, 1, none⟩ = some (.int .i64 t116) ∧ w32.cell? ⟨gb121, 2, none⟩ = some (.string t117) ∧ w32.cell? ⟨gb121, 3, none⟩ = some (.bool t118) ∧ w32.cell? ⟨gb121, 4, none⟩ = some (.int .i64 t119) := hS_
          obtain ⟨Ao34, co34, eo34⟩ := Kd.R_slice HO130.out
          (first | subst eo34 | (injection eo34 with f1_ f2_ f3_; have f4_ := f1_.symm; have f5_ := f3_.symm; clear f1_ f2_ f3_; subst f4_; subst f5_))
          refine norm_ (a' := ?_) ?_ ?_
          rotate_left
          ·simp only [putAll, Act.put, List.setIfInBounds_toArray, List.set_cons_zero, List.set_cons_succ]
           rfl
          refine one_ (i := 7) (N := some 32) #[true, true, true, true, true, true, true, true, false, false] rfl rfl (one_of HT_.out (by kernel_rfl)) (by decide) (fun K hK => ?_)
          refine Kd.R_append_rows_step k30 (w0 := w) w.heap.size (by rfl) (.tmp 29) (.tmp 31) 34 30 (.agg #[(.int .i64 0), (.int .i64 0), (.string ⟨#[]⟩), (.bool false), (.int .i64 0)]) 48 rfl Tryz.underlying34 info30 rfl (by decide) (by omega) (.slice Ao23 x5_1.length co23) x5_1 y128 _ _ _ (fun k_ => some k_ ≠ (.slice Ao34 y128.length co34 : Value).ownBlock ∧ k_ ≠ gb121) (fun _ => False) rfl rfl ?aO ?aR (fun _ _ h => h) (fun _ h => h.elim) ?aF ?aB ?aS ?aL ?_
          (case aR => repeat (first | exact (Kd.R_reads' HO130.out).2.2 | (with_reducible refine Kd.C_alloc ?_ _) | (with_reducible refine Kd.C_drewN ?_ _) | (with_reducible refine Kd.C_drew ?_)))
          (case aB => exact be)
          (case aF => exact (fun k_ hk => ⟨Kd.fresh' (Kd.R_lt (by (with_reducible repeat (first | apply Kd.R_alloc | apply Kd.R_drewN | apply Kd.R_drew)); exact HO130.out)) k_ hk, Kd.freshB (g := gb121) (o := .cells #[.int .i64 t115, .int .i64 t116, .string t117, .bool t118, .int .i64 t119] 30 (0, 0)) (by (with_reducible repeat (first | refine blk_drewN ?_ _ | refine blk_drew ?_ | refine blk_alloc ?_ _)); exact BK121.out) k_ hk⟩))
          (case aO => exact (by (with_reducible repeat (first | apply Kd.R_alloc | apply Kd.R_drewN | apply Kd.R_drew)); exact HO_5.out))
          (case aS => exact (bz))
          (case aL => have := LMc11.out; omega)
          intro v132 w33 ho hb hg hat
          rw [← Ny131.out] at ho
          have n0_ := Aside0.mk (blk_grown (g := gb109) (o := .cells #[.int .i64 ((rd_T23 y104 x16_1).f0), .int .i64 ((rd_T23 y104 x16_1).f1), .string ((rd_T23 y104 x16_1).f2), .bool ((rd_T23 y104 x16_1).f3), .int .i64 ((rd_T23 y104 x16_1).f4)] 23 (0, 0)) (by (with_reducible repeat (first | refine blk_drewN ?_ _ | refine blk_drew ?_ | refine blk_alloc ?_ _)); exact BK109.out) hg (Kd.R_ne HO_5.out BK109.out (by decide)))
          have n1_ := Aside0.mk (blk_grown (g := gb120) (o := .cells #[.int .i64 t110, .int .i64 t111, .string t112, .bool t113, .int .i64 t114] 29 (0, 0)) (by (with_reducible repeat (first | refine blk_drewN ?_ _ | refine blk_drew ?_ | refine blk_alloc ?_ _)); exact BK120.out) hg (Kd.R_ne HO_5.out BK120.out (by decide)))
          have n2_ := Aside0.mk (blk_grown (g := gb121) (o := .cells #[.int .i64 t115, .int .i64 t116, .string t117, .bool t118, .int .i64 t119] 30 (0, 0)) (by (with_reducible repeat (first | refine blk_drewN ?_ _ | refine blk_drew ?_ | refine blk_alloc ?_ _)); exact BK121.out) hg (Kd.R_away HO_5.out (fun _ hk => hk.2)))
          have n3_ := Aside0.mk (Kd.R_over' (by (with_reducible repeat (first | apply Kd.R_alloc | apply Kd.R_drewN | apply Kd.R_drew)); exact HO124.out) (Kd.R_typed (by (with_reducible repeat (first | apply Kd.R_alloc | apply Kd.R_drewN | apply Kd.R_drew)); exact HO_5.out)) (by decide) hg)
          have n4_ := Aside0.mk (Kd.R_over' (by (with_reducible repeat (first | apply Kd.R_alloc | apply Kd.R_drewN | apply Kd.R_drew)); exact HO127.out) (Kd.R_typed (by (with_reducible repeat (first | apply Kd.R_alloc | apply Kd.R_drewN | apply Kd.R_drew)); exact HO_5.out)) (by decide) hg)
          have n5_ := Aside0.mk (Kd.R_after (ok := (fun k_ => k_ ≠ gb121)) (by (with_reducible repeat (first | apply Kd.R_alloc | apply Kd.R_drewN | apply Kd.R_drew)); exact Kd.R_mono HO130.out (fun _ hk => ⟨hk.2, hk.1⟩)) hg hat)
          have n6_ := Aside0.mk (hb)
          have n7_ := Aside0.mk (ho)
          clear BK109
          clear BK120
          clear BK121
          clear HO124
          clear HO127
          clear HO130
          clear HB
          clear HO_5
          have BK109 := n0_
          have BK120 := n1_
          have BK121 := n2_
          have HO124 := n3_
          have HO127 := n4_
          have HO130 := n5_
          have HB := n6_
          have HO133 := n7_
          clear n0_ n1_ n2_ n3_ n4_ n5_ n6_ n7_
          clear ho hb hg hat
          refine hK.out _ _ ⟨(blk_cell BK120.out 0).trans rfl, (blk_cell BK120.out 1).trans rfl, (blk_cell BK120.out 2).trans rfl, (blk_cell BK120.out 3).trans rfl, (blk_cell BK120.out 4).trans rfl, (blk_cell BK121.out 0).trans rfl, (blk_cell BK121.out 1).trans rfl, (blk_cell BK121.out 2).trans rfl, (blk_cell BK121.out 3).trans rfl, (blk_cell BK121.out 4).trans rfl⟩ (fun hHeld => ?_)
          clear hK K
          refine norm_ (a' := ?_) ?_ ?_
          rotate_left
          ·show Act.put _ (some 32) _ = _
           simp only [Act.put, List.setIfInBounds_toArray, List.set_cons_zero, List.set_cons_succ, i64_w, i32_w]
           rfl
          refine pure_ (i := 8) (N := some 4) (v := ?_) (a' := ?_) #[true, true, true, true, true, true, true, true, true, false] rfl rfl (any_of HT_.out (by kernel_rfl)) (fun _ _ _ h => h) (Or.inl ⟨by rfl, ?_⟩) ?_ ?_
          rotate_left
          ·intro w'
           go_simp
           with_reducible rfl
          rotate_left
          ·simp only [Act.put, List.setIfInBounds_toArray, List.set_cons_zero, List.set_cons_succ, i64_w, i32_w]
           rfl
          refine pure_ (i := 9) (N := some 5) (v := ?_) (a' := ?_) #[true, true, true, true, true, true, true, true, true, true] rfl rfl (any_of HT_.out (by kernel_rfl)) (fun _ _ _ h => h) (Or.inl ⟨by rfl, ?_⟩) ?_ ?_
          rotate_left
          ·intro w'
           go_simp
           with_reducible rfl
          rotate_left
          ·simp only [Act.put, List.setIfInBounds_toArray, List.set_cons_zero, List.set_cons_succ, i64_w, i32_w]
           rfl
          refine done_ (done_of HT_.out (by kernel_rfl)) ?_
          try go_wp2
          go_roundg k1
          case measure => have := HK1.out; omega
          case rel => exact ⟨(y125), (y131), (wrap64 (x16_1 + 1)), (by first | rfl | (simp; done) | (simp [*]; done)), H', ⟨by have := HK1.out; omega⟩, ⟨by (with_reducible repeat (first | apply Kd.R_alloc | apply Kd.R_drewN | apply Kd.R_drew)); exact Kd.R_mono HO127.out (fun _ hk => trivial)⟩, ⟨by (with_reducible repeat (first | apply Kd.R_alloc | apply Kd.R_drewN | apply Kd.R_drew)); exact Kd.R_mono HO133.out (fun _ hk => trivial)⟩, ⟨by repeat (first | (with_reducible first | exact HB.out | apply below_alloc | apply pw_below_drewN | apply below_drew1 | refine below_set ?_ GE109.out | refine below_set ?_ GE120.out | refine below_set ?_ GE121.out) | exact HB.out)⟩⟩
         ·rw [if_neg c11] at H
          exact absurd H (by simp)
        ·rw [if_neg c10] at H
         exact absurd H (by simp)
       ·rw [if_neg c8] at H
        exact absurd H (by simp)
      ·rw [if_neg c7] at H
       exact absurd H (by simp)
     ·rw [if_neg c6] at H
      have c6b0 : decide (x16_1 < (y104.length : Int)) = false := decide_eq_false c6
      clear c6
      simp only [Option.some.injEq, Prod.mk.injEq] at H
      obtain ⟨rfl, rfl⟩ := H
      go_wp2
      go_ret2
      exact ⟨_, _, by first | rfl | (simp [errW_none, errW_some] <;> rfl) | (simp only [← hji2]; first | rfl | (simp [errW_none, errW_some] <;> rfl)) | (simp [*, errW_none, errW_some] <;> rfl), by (with_reducible repeat (first | apply Kd.R_alloc | apply Kd.R_drewN | apply Kd.R_drew)); exact HO_4.out, by (with_reducible repeat (first | apply Kd.R_alloc | apply Kd.R_drewN | apply Kd.R_drew)); exact HO_5.out, be⟩
  ·rw [if_neg c4] at H
   exact absurd H (by simp)
 ·rw [if_neg c3] at H
  exact absurd H (by simp)
end Go.Proofs.YtcihleahjnpaaaaGreatDoor.P
namespace Go.Proofs.YtcihleahjnpaaaaGreatDoor.H
open Go.RowKit Go.Proofs.YtcihleahjnpaaaaGreatDoor.P Go.Proofs.YtcihleahjnpaaaaGreatDoor.T Go.Proofs.YtcihleahjnpaaaaGreatDoorW.PrintWords Go.Proofs.YtcihleahjnpaaaaGreatDoorW.PrintLast Go.Proofs.YtcihleahjnpaaaaGreatDoorW.PrintMore
set_option linter.unusedVariables false
set_option linter.unusedSimpArgs false
abbrev LV := S23
def cutB (s : ByteArray) : ByteArray := s.extract 0 (min s.size 300)
theorem cutB_size (s : ByteArray) : (cutB s).size ≤ 300 := by unfold cutB; rw [ByteArray.size_extract]; omega
def cutV (x : LV) : V := ⟨x.f0, x.f1, cutB x.f2, x.f3, x.f4⟩
theorem mn_nat (a b : Nat) : mn (a : Int) (b : Int) = ((min a b : Nat) : Int) := by unfold mn; split <;> omega
abbrev tup2 (x y : V) : Int × Int × ByteArray × Bool × Int × Int × Int × ByteArray × Bool × Int := (x.f0, x.f1, x.f2, x.f3, x.f4, y.f0, y.f1, y.f2, y.f3, y.f4)
theorem values_f (x : LV) : latticelaw12_values.f x.f0 x.f1 x.f2 x.f3 x.f4 = some (tup2 (cutV x) (cutV x)) := by
  unfold latticelaw12_values.f
  rw [show (300 : Int) = ((300 : Nat) : Int) from rfl, mn_nat, if_pos (by omega), if_pos (by omega), Int.toNat_natCast]
  rfl
def listP (l : List LV) : List V := (l.take 40).map cutV
def listR (l : List LV) : List R := (listP l).map rr
theorem listP_len (l : List LV) : (listP l).length ≤ 40 := by unfold listP; rw [List.length_map, List.length_take]; omega
theorem listP_size (l : List LV) : ∀ v ∈ listP l, v.f2.size ≤ 300 := by
  intro v hv
  unfold listP at hv
  obtain ⟨x, _, rfl⟩ := List.mem_map.1 hv
  exact cutB_size _
theorem list_l0 (t : List LV) (ht : t.length ≤ 40) : ∀ (d i k : Nat) (a : List V) (b : List R), t.length - i = d → i ≤ t.length → a.length ≤ i → b.length ≤ i → d + 1 ≤ k →
    latticelaw12_list.l0 k a b t (t.length : Int) (i : Int) = some (a ++ (t.drop i).map cutV, b ++ ((t.drop i).map cutV).map rr)
  | 0, i, k, a, b, hd, hi, ha, hb, hk => by
    obtain ⟨k, rfl⟩ : ∃ m, k = m + 1 := ⟨k - 1, by omega⟩
    obtain rfl : i = t.length := by omega
    rw [latticelaw12_list.l0, if_neg (by omega), List.drop_length]
    simp
  | d + 1, i, k, a, b, hd, hi, ha, hb, hk => by
    obtain ⟨k, rfl⟩ : ∃ m, k = m + 1 := ⟨k - 1, by omega⟩
    have hlt : i < t.length := by omega
    have hr : rd_T23 t (i : Int) = t[i] := by unfold rd_T23; simp [List.getD, hlt]
    rw [latticelaw12_list.l0, if_pos (by omega), if_pos (by omega), if_pos (by omega), hr, values_f]
    simp only [Option.bind_some, List.length_singleton]
    rw [if_pos (by omega), if_pos (by omega), wrap_up i t.length hlt (by omega)]
    rw [list_l0 t ht d (i + 1) k _ _ (by omega) (by omega) (by simp; omega) (by simp; omega) (by omega), List.drop_eq_getElem_cons hlt, List.map_cons, List.map_cons, List.append_assoc, List.append_assoc]
    rfl
theorem list_f (l : List LV) (k : Nat) (hk : 41 ≤ k) : latticelaw12_list.f k l = some (listP l, listR l) := by
  unfold latticelaw12_list.f
  rw [show (40 : Int) = ((40 : Nat) : Int) from rfl, mn_nat, if_pos (by omega), if_pos (by omega), Int.toNat_natCast]
  simp only [Option.bind_some]
  have e : l.take (min l.length 40) = l.take 40 := by
    rcases Nat.le_total l.length 40 with h | h
    · rw [Nat.min_eq_left h, List.take_length, List.take_of_length_le h]
    · rw [Nat.min_eq_right h]
  rw [e]
  have hl : (l.take 40).length ≤ 40 := by rw [List.length_take]; omega
  have := list_l0 (l.take 40) hl (l.take 40).length 0 k [] [] (by omega) (by omega) (by simp) (by simp) (by omega)
  rw [List.drop_zero] at this
  exact this
end Go.Proofs.YtcihleahjnpaaaaGreatDoor.H
namespace Go.Proofs.YtcihleahjnpaaaaGreatDoor.H
open Go.RowKit Go.Proofs.YtcihleahjnpaaaaGreatDoor.P Go.Proofs.YtcihleahjnpaaaaGreatDoor.T Go.Proofs.YtcihleahjnpaaaaGreatDoorW.PrintWords Go.Proofs.YtcihleahjnpaaaaGreatDoorW.PrintLast Go.Proofs.YtcihleahjnpaaaaGreatDoorW.PrintMore
set_option linter.unusedVariables false
set_option linter.unusedSimpArgs false
abbrev AR := S67
abbrev kA := k67
abbrev kV := k29
def RB (w : World) (g : Nat) (A : Option Addr) (n c : Nat) (at_ f : Int) : Prop :=
  w.cell? ⟨g, 0, none⟩ = some (.slice A n c) ∧ w.cell? ⟨g, 1, none⟩ = some (.int .i64 at_) ∧ w.cell? ⟨g, 2, none⟩ = some (.int .i64 f) ∧ w.frozen? ⟨g, 0, none⟩ = false ∧ w.frozen? ⟨g, 1, none⟩ = false ∧ w.frozen? ⟨g, 2, none⟩ = false ∧ g < w.heap.size
section
variable {w w' : World} {g : Nat} {A : Option Addr} {n c : Nat} {at_ f : Int}
theorem RB.grown {row : Option Nat} (h : RB w g A n c at_ f) (hg : w.grownBy w' row) (hne : some g ≠ row) : RB w' g A n c at_ f := by
  obtain ⟨a0, a1, a2, b0, b1, b2, hl⟩ := h
  have hk := hg.block g hl hne
  refine ⟨?_, ?_, ?_, ?_, ?_, ?_, Nat.lt_of_lt_of_le hl hg.size⟩
  all_goals first | exact (World.cell?_of_block hk).trans (by assumption) | exact (World.frozen?_of_block hk).trans (by assumption)
theorem RB.setAt (h : RB w g A n c at_ f) (v : Int) : RB (w.setCell ⟨g, 1, none⟩ (.int .i64 v)) g A n c v f := by
  obtain ⟨a0, a1, a2, b0, b1, b2, hl⟩ := h
  refine ⟨?_, World.cell?_setCell_same _ _ _ a1, ?_, ?_, ?_, ?_, by simpa using hl⟩
  all_goals first | (rw [World.frozen?_setCell]; assumption) | (rw [World.cell?_setCell_other _ _ _ _ (fun he => absurd he (by simp))]; assumption)
theorem RB.far (h : RB w g A n c at_ f) {p : Addr} (hp : p.block ≠ g) (v : Value) : RB (w.setCell p v) g A n c at_ f := by
  obtain ⟨a0, a1, a2, b0, b1, b2, hl⟩ := h
  refine ⟨?_, ?_, ?_, ?_, ?_, ?_, by simpa using hl⟩
  all_goals first | (rw [World.frozen?_setCell]; assumption) | (rw [World.cell?_setCell_other _ _ _ _ (fun he => hp (by rw [he]))]; assumption)
theorem RB.setFail (h : RB w g A n c at_ f) (v : Int) : RB (w.setCell ⟨g, 2, none⟩ (.int .i64 v)) g A n c at_ v := by
  obtain ⟨a0, a1, a2, b0, b1, b2, hl⟩ := h
  refine ⟨?_, ?_, World.cell?_setCell_same _ _ _ a2, ?_, ?_, ?_, by simpa using hl⟩
  all_goals first | (rw [World.frozen?_setCell]; assumption) | (rw [World.cell?_setCell_other _ _ _ _ (fun he => absurd he (by simp))]; assumption)
end
theorem gr_set {w w1 : World} {g : Nat} (h : w.grownBy w1 (some g)) {p : Addr} (hp : p.block = g ∨ w.heap.size ≤ p.block) (u : Value) : w.grownBy (w1.setCell p u) (some g) :=
  ⟨h.os, h.tape, h.output, by simpa [World.setCell] using h.size, fun i hi hne => (Below.heap_setCell w1 p u i (by
    rintro rfl
    rcases hp with hp | hp
    · exact hne (by rw [hp])
    · omega)).trans (h.block i hi hne)⟩
theorem gr_alloc {w w1 : World} {row : Option Nat} (h : w.grownBy w1 row) (o : Obj) : w.grownBy (w1.alloc o) row :=
  ⟨h.os, h.tape, h.output, Nat.le_trans h.size (by simp), fun i hi hne => (Below.heap_alloc w1 o i (Nat.lt_of_lt_of_le hi h.size)).trans (h.block i hi hne)⟩
theorem gr_drewN {w w1 : World} {row : Option Nat} (h : w.grownBy w1 row) (n : Nat) : w.grownBy (w1.drewN n) row := ⟨h.os, h.tape, h.output, h.size, h.block⟩
theorem gr_then {w w1 w2 : World} {row : Option Nat} (h : w.grownBy w1 row) (k : w1.grownBy w2 row) : w.grownBy w2 row :=
  ⟨k.os.trans h.os, k.tape.trans h.tape, k.output.trans h.output, Nat.le_trans h.size k.size, fun i hi hne => (k.block i (Nat.lt_of_lt_of_le hi h.size) hne).trans (h.block i hi hne)⟩
theorem gr_refl (w : World) (row : Option Nat) : w.grownBy w row := ⟨rfl, rfl, rfl, Nat.le_refl _, fun _ _ _ => rfl⟩
theorem below_gr {B g : Nat} {w0 w w' : World} (h : Below B w0 w) (k : w.grownBy w' (some g)) (hg : B ≤ g) (hB : B ≤ w.heap.size) : Below B w0 w' := h.grown k hB (fun _ e => by injection e with e; omega)
theorem gr_set5 {w w1 : World} {g m : Nat} (h : w.grownBy w1 (some g)) (hm : w.heap.size ≤ m) (a b c d e : Value) : w.grownBy (((((w1.setCell ⟨m, 0, none⟩ a).setCell ⟨m, 1, none⟩ b).setCell ⟨m, 2, none⟩ c).setCell ⟨m, 3, none⟩ d).setCell ⟨m, 4, none⟩ e) (some g) :=
  gr_set (gr_set (gr_set (gr_set (gr_set h (.inr hm) _) (.inr hm) _) (.inr hm) _) (.inr hm) _) (.inr hm) _
theorem RB.far5 {w : World} {g m : Nat} {A : Option Addr} {n k : Nat} {at_ f : Int} (h : RB w g A n k at_ f) (hm : m ≠ g) (a b c d e : Value) : RB (((((w.setCell ⟨m, 0, none⟩ a).setCell ⟨m, 1, none⟩ b).setCell ⟨m, 2, none⟩ c).setCell ⟨m, 3, none⟩ d).setCell ⟨m, 4, none⟩ e) g A n k at_ f :=
  ((((h.far hm _).far hm _).far hm _).far hm _).far hm _
theorem loc5 {w w2 : World} {g : Nat} {a b c d e : Value} {T : Nat} (h : (w.alloc (.cells #[a, b, c, d, e] T)).grownBy w2 (some g)) (hne : w.heap.size ≠ g) :
    w2.cell? ⟨w.heap.size, 0, none⟩ = some a ∧ w2.cell? ⟨w.heap.size, 1, none⟩ = some b ∧ w2.cell? ⟨w.heap.size, 2, none⟩ = some c ∧ w2.cell? ⟨w.heap.size, 3, none⟩ = some d ∧ w2.cell? ⟨w.heap.size, 4, none⟩ = some e ∧ w2.frozen? ⟨w.heap.size, 0, none⟩ = false ∧ w2.frozen? ⟨w.heap.size, 1, none⟩ = false ∧ w2.frozen? ⟨w.heap.size, 2, none⟩ = false ∧ w2.frozen? ⟨w.heap.size, 3, none⟩ = false ∧ w2.frozen? ⟨w.heap.size, 4, none⟩ = false := by
  have hY : w2.heap[w.heap.size]? = some (.cells #[a, b, c, d, e] T (0, 0)) := (h.block _ (by simp) (by simpa using hne)).trans (heap_alloc_new w _)
  exact ⟨cell_of_row _ _ 0 _ _ _ hY, cell_of_row _ _ 1 _ _ _ hY, cell_of_row _ _ 2 _ _ _ hY, cell_of_row _ _ 3 _ _ _ hY, cell_of_row _ _ 4 _ _ _ hY, by simp [World.frozen?, hY], by simp [World.frozen?, hY], by simp [World.frozen?, hY], by simp [World.frozen?, hY], by simp [World.frozen?, hY]⟩
theorem val_cells {w0 w : World} {A : Option Addr} {l : List V} (HR : Kd.C kV w0 A l.length l) (hB : Below w0.heap.size w0 w) (i : Nat) (hi : i < l.length) :
    ∃ ad, A = some ad ∧ ad.block < w0.heap.size ∧ w.cell? (ad.add (i * 5)) = some (.int .i64 (l[i]).f0) ∧ w.cell? ⟨(ad.add (i * 5)).block, (ad.add (i * 5)).off + 1, none⟩ = some (.int .i64 (l[i]).f1) ∧ w.cell? ⟨(ad.add (i * 5)).block, (ad.add (i * 5)).off + 2, none⟩ = some (.string (l[i]).f2) ∧ w.cell? ⟨(ad.add (i * 5)).block, (ad.add (i * 5)).off + 3, none⟩ = some (.bool (l[i]).f3) ∧ w.cell? ⟨(ad.add (i * 5)).block, (ad.add (i * 5)).off + 4, none⟩ = some (.int .i64 (l[i]).f4) := by
  obtain ⟨ad, e, h0, h1, h2, h3, h4⟩ := at_T29 HR (i : Int) (by omega) (by omega)
  have er : rd_T29 l (i : Int) = l[i] := by unfold rd_T29; simp [List.getD, hi]
  rw [er] at h0 h1 h2 h3 h4
  simp only [Int.toNat_natCast] at h0 h1 h2 h3 h4
  have hb : ad.block < w0.heap.size := by
    have := World.block_lt_of_cell? w0 _ h0
    unfold Addr.add at this; split at this <;> exact this
  exact ⟨ad, e, hb, pw_cell_below hB h0, pw_cell_below hB h1, pw_cell_below hB h2, pw_cell_below hB h3, pw_cell_below hB h4⟩
def argv (A : Option Addr) (c : Nat) (a : AR) : Value := .agg #[.slice A a.f0.length c, .int .i64 a.f1, .bool a.f2]
theorem next_cells {w0 w : World} {A : Option Addr} {l : List AR} (HR : Kd.C kA w0 A l.length l) (hB : Below w0.heap.size w0 w) (i : Nat) (hi : i < l.length) :
    ∃ ad A' c', A = some ad ∧ ad.block < w0.heap.size ∧ w.cell? (ad.add (i * 3)) = some (.slice A' (l[i]).f0.length c') ∧ w.cell? ⟨(ad.add (i * 3)).block, (ad.add (i * 3)).off + 1, none⟩ = some (.int .i64 (l[i]).f1) ∧ w.cell? ⟨(ad.add (i * 3)).block, (ad.add (i * 3)).off + 2, none⟩ = some (.bool (l[i]).f2) ∧ (l[i]).f0.length ≤ c' ∧ Kd.C kV w0 A' (l[i]).f0.length (l[i]).f0 := by
  obtain ⟨ad, A', c', e, h1, h2, h3, h4, h5⟩ := at_T67 HR (i : Int) (by omega) (by omega)
  have er : rd_T67 l (i : Int) = l[i] := by unfold rd_T67; simp [List.getD, hi]
  rw [er] at h1 h2 h3 h4 h5
  simp only [Int.toNat_natCast] at h1 h2 h3
  have hb : ad.block < w0.heap.size := by
    have := World.block_lt_of_cell? w0 _ h1
    unfold Addr.add at this; split at this <;> exact this
  exact ⟨ad, A', c', e, hb, pw_cell_below hB h1, pw_cell_below hB h2, pw_cell_below hB h3, h4, h5⟩
set_option maxHeartbeats 2000000 in
set_option maxRecDepth 100000 in
theorem next_yes (w0 w : World) (g : Nat) (A : Option Addr) (c : Nat) (l : List AR) (i : Nat) (f : Int) (HR : Kd.C kA w0 A l.length l) (hB : Below w0.heap.size w0 w) (hg : w0.heap.size ≤ g) (hr : RB w g A l.length c i f) (hi : i < l.length) (hl : l.length ≤ 4096) :
    Calls Tryz.prog 83 #[.pointer (some ⟨g, 0, none⟩)] w fun e w' => ∃ A' c', e = .returned (.tuple #[argv A' c' l[i], .bool true]) ∧ (l[i]).f0.length ≤ c' ∧ Kd.C kV w0 A' (l[i]).f0.length (l[i]).f0 ∧ w.grownBy w' (some g) ∧ RB w' g A l.length c ((i + 1 : Nat) : Int) f := by
  obtain ⟨ad, A', c', rfl, hb, k0, k1, k2, k3, k4⟩ := next_cells HR hB i hi
  have R := Lib.hid hr
  obtain ⟨a0, a1, a2, b0, b1, b2, hlt⟩ := hr
  have t1 : ((i : Int) == (l.length : Int)) = false := by simp; omega
  have t2 : ((i : Int) != (l.length : Int)) = true := by simp; omega
  have t3 : ¬ i = l.length := by omega
  go_enter Tryz.func83, Tryz.ntmps83
  go_wp2_with (fail)
  go_quiet (fail)
  go_wp2_with (fail)
  have hW : w.grownBy (((w.alloc (.cells #[.slice none 0 0, .int .i64 0, .bool false] 67)).drewN nq).setCell ⟨g, 1, none⟩ (.int .i64 ((i : Int) + 1))) (some g) := gr_set (gr_drewN (gr_alloc (gr_refl w _) _) nq) (.inl rfl) _
  have hX : RB (((w.alloc (.cells #[.slice none 0 0, .int .i64 0, .bool false] 67)).drewN nq).setCell ⟨g, 1, none⟩ (.int .i64 ((i : Int) + 1))) g (some ad) l.length c ((i : Int) + 1) f := RB.setAt (RB.grown R.out (gr_drewN (gr_alloc (gr_refl w none) _) nq) (by simp)) _
  have hne : w.heap.size ≠ g := by have := R.out.2.2.2.2.2.2; omega
  have hY : ∃ n0 n1 n2, (((w.alloc (.cells #[.slice none 0 0, .int .i64 0, .bool false] 67)).drewN nq).setCell ⟨g, 1, none⟩ (.int .i64 ((i : Int) + 1))).heap[w.heap.size]? = some (.cells #[n0, n1, n2] 67 (0, 0)) := ⟨.slice none 0 0, .int .i64 0, .bool false, (Below.heap_setCell _ _ _ _ hne).trans (heap_alloc_new w _)⟩
  have kb : ∀ j, (⟨(ad.add (i * 3)).block, (ad.add (i * 3)).off + j, none⟩ : Addr).block ≠ g := fun j => by
    show (ad.add (i * 3)).block ≠ g
    unfold Addr.add; split <;> simp <;> omega
  have kb0 : (ad.add (i * 3)).block ≠ g := kb 0
  have q0 := hW.cell k0 (by simp; exact kb0)
  have q1 := hW.cell k1 (by simp; exact kb0)
  have q2 := hW.cell k2 (by simp; exact kb0)
  have hsz : w.heap.size < (((w.alloc (.cells #[.slice none 0 0, .int .i64 0, .bool false] 67)).drewN nq).setCell ⟨g, 1, none⟩ (.int .i64 ((i : Int) + 1))).heap.size := by simp
  clear k0 k1 k2 a0 a1 a2 b0 b1 b2
  generalize (((w.alloc (.cells #[.slice none 0 0, .int .i64 0, .bool false] 67)).drewN nq).setCell ⟨g, 1, none⟩ (.int .i64 ((i : Int) + 1))) = wx at *
  have HX := Lib.hid hX
  have HW := Lib.hid hW
  have HK := Lib.hid k4
  obtain ⟨a0, a1, a2, b0, b1, b2, hlt2⟩ := hX
  clear hW k4 R HR hB
  have hl0 : (0 : Int) ≤ (i : Int) := by omega
  have hl1 : (i : Int) < (l.length : Int) := by omega
  obtain ⟨n0, n1, n2, hY⟩ := hY
  have HY := Lib.hid hY
  have z0 : wx.cell? ⟨w.heap.size, 0, none⟩ = some n0 := cell_of_row _ _ 0 _ _ _ hY
  have z1 : wx.cell? ⟨w.heap.size, 1, none⟩ = some n1 := cell_of_row _ _ 1 _ _ _ hY
  have z2 : wx.cell? ⟨w.heap.size, 2, none⟩ = some n2 := cell_of_row _ _ 2 _ _ _ hY
  have y0 : wx.frozen? ⟨w.heap.size, 0, none⟩ = false := by simp [World.frozen?, hY]
  have y1 : wx.frozen? ⟨w.heap.size, 1, none⟩ = false := by simp [World.frozen?, hY]
  have y2 : wx.frozen? ⟨w.heap.size, 2, none⟩ = false := by simp [World.frozen?, hY]
  clear hY kb kb0
  generalize hm : w.heap.size = m at *
  have M := Lib.hid hm
  clear hm
  go_region
  go_wp2
  refine bodyPost_ret (v := .tuple #[argv A' c' l[i], .bool true]) (by simp [results, Tryz.results83, go_sem, argv, z0, z1, z2]) rfl ⟨A', c', rfl, k3, HK.out, ?_, ?_⟩
  · have h0 : w.grownBy wx.drew (some g) := gr_drewN HW.out 1
    exact gr_set (gr_set (gr_set h0 (p := ⟨m, 0, none⟩) (.inr (by rw [M.out]; exact Nat.le_refl _)) _) (p := ⟨m, 1, none⟩) (.inr (by rw [M.out]; exact Nat.le_refl _)) _) (p := ⟨m, 2, none⟩) (.inr (by rw [M.out]; exact Nat.le_refl _)) _
  · have h0 : RB wx.drew g (some ad) l.length c ((i : Int) + 1) f := HX.out
    exact ((h0.far (p := ⟨m, 0, none⟩) hne _).far (p := ⟨m, 1, none⟩) hne _).far (p := ⟨m, 2, none⟩) hne _
def noArg : AR := ⟨[], 0, false⟩
set_option maxHeartbeats 2000000 in
set_option maxRecDepth 100000 in
theorem next_no (w : World) (g : Nat) (A : Option Addr) (n c : Nat) (f : Int) (hr : RB w g A n c n f) (hn : n ≤ 4096) :
    Calls Tryz.prog 83 #[.pointer (some ⟨g, 0, none⟩)] w fun e w' => e = .returned (.tuple #[.agg #[.slice none 0 0, .int .i64 0, .bool false], .bool false]) ∧ w.grownBy w' (some g) ∧ RB w' g A n c n f := by
  have R := Lib.hid hr
  obtain ⟨a0, a1, a2, b0, b1, b2, hlt⟩ := hr
  have hne : w.heap.size ≠ g := by omega
  have t1 : ((n : Int) == (n : Int)) = true := by simp
  go_enter Tryz.func83, Tryz.ntmps83
  go_wp2_with (fail)
  go_quiet (fail)
  go_wp2
  refine bodyPost_ret (v := .tuple #[.agg #[.slice none 0 0, .int .i64 0, .bool false], .bool false]) (by simp [results, Tryz.results83, go_sem]) rfl ⟨rfl, ?_, ?_⟩
  · exact gr_set (gr_set (gr_set (gr_drewN (gr_alloc (gr_refl w _) _) nq) (p := ⟨w.heap.size, 0, none⟩) (.inr (Nat.le_refl _)) _) (p := ⟨w.heap.size, 1, none⟩) (.inr (Nat.le_refl _)) _) (p := ⟨w.heap.size, 2, none⟩) (.inr (Nat.le_refl _)) _
  · exact (((RB.grown R.out (gr_drewN (gr_alloc (gr_refl w none) _) nq) (by simp)).far (p := ⟨w.heap.size, 0, none⟩) hne _).far (p := ⟨w.heap.size, 1, none⟩) hne _).far (p := ⟨w.heap.size, 2, none⟩) hne _
def badF (f x : Int) : Int := if f = 0 then x else f
set_option maxRecDepth 100000 in
theorem bad_any (w : World) (g : Nat) (A : Option Addr) (n c : Nat) (i f x : Int) (hr : RB w g A n c i f) :
    Calls Tryz.prog 91 #[.pointer (some ⟨g, 0, none⟩), .int .i64 x] w fun e w' => e = .returned (.tuple #[]) ∧ w.grownBy w' (some g) ∧ RB w' g A n c i (badF f x) := by
  have R := Lib.hid hr
  obtain ⟨a0, a1, a2, b0, b1, b2, hlt⟩ := hr
  by_cases h : f = 0
  · subst h
    go_enter Tryz.func91, Tryz.ntmps91
    go_wp2
    go_end0
    exact ⟨rfl, gr_set (gr_refl w _) (.inl rfl) _, R.out.setFail x⟩
  · have h1 : (f == 0) = false := by simpa using h
    have hb : badF f x = f := by unfold badF; rw [if_neg h]
    rw [hb]
    clear h hb
    go_enter Tryz.func91, Tryz.ntmps91
    go_wp2
    go_end0
    exact ⟨rfl, gr_refl w _, R.out⟩
end Go.Proofs.YtcihleahjnpaaaaGreatDoor.H
namespace Go.Proofs.YtcihleahjnpaaaaGreatDoor.H
open Go.RowKit Go.Proofs.YtcihleahjnpaaaaGreatDoor.P Go.Proofs.YtcihleahjnpaaaaGreatDoor.T Go.Proofs.YtcihleahjnpaaaaGreatDoorW.PrintWords Go.Proofs.YtcihleahjnpaaaaGreatDoorW.PrintLast Go.Proofs.YtcihleahjnpaaaaGreatDoorW.PrintMore
set_option linter.unusedVariables false
set_option linter.unusedSimpArgs false
def singleS (l : List AR) (i : Nat) (f : Int) : V × Bool × Nat × Int :=
  match l[i]? with
  | some a => if a.f2 = true then (zV, false, i + 1, badF f 3) else (a.f0.headD zV, true, i + 1, f)
  | none => (zV, false, i, f)
def okA (a : AR) : Bool := if a.f2 = true then decide (0 < a.f1) && (decide (1 ≤ a.f0.length) && (decide (a.f0.length ≤ 4096) && decide ((a.f0.length : Int) % a.f1 = 0))) else a.f0.length == 1 && a.f1 == 0
set_option maxHeartbeats 2000000 in
set_option maxRecDepth 100000 in
theorem single_any (w0 w : World) (g : Nat) (A : Option Addr) (c : Nat) (l : List AR) (i : Nat) (f : Int) (HR : Kd.C kA w0 A l.length l) (hB : Below w0.heap.size w0 w) (hg : w0.heap.size ≤ g) (hr : RB w g A l.length c i f) (hi : i ≤ l.length) (hl : l.length ≤ 4096) (hok : ∀ a ∈ l, okA a = true) :
    Calls Tryz.prog 90 #[.pointer (some ⟨g, 0, none⟩)] w fun e w' => e = .returned (.tuple #[vv (singleS l i f).1, .bool (singleS l i f).2.1]) ∧ w.grownBy w' (some g) ∧ RB w' g A l.length c (singleS l i f).2.2.1 (singleS l i f).2.2.2 := by
  have hne : w.heap.size ≠ g := by have := hr.2.2.2.2.2.2; omega
  have hlt : g < w.heap.size := hr.2.2.2.2.2.2
  rcases Nat.lt_or_ge i l.length with hil | hil
  · have hN := fun (W : World) (h1 : Below w0.heap.size w0 W) (h2 : RB W g A l.length c i f) => next_yes w0 W g A c l i f HR h1 hg h2 hil hl
    have hm := hok l[i] (List.getElem_mem hil)
    have hs : l[i]? = some l[i] := List.getElem?_eq_getElem hil
    unfold singleS
    rw [hs]
    simp only
    generalize l[i] = a at *
    have hW1 : w.grownBy (w.alloc (.cells #[.int .i64 0, .int .i64 0, .string ⟨#[]⟩, .bool false, .int .i64 0] 29)) (some g) := gr_alloc (gr_refl w _) _
    have hR1 := RB.grown hr (gr_alloc (gr_refl w none) (.cells #[.int .i64 0, .int .i64 0, .string ⟨#[]⟩, .bool false, .int .i64 0] 29)) (by simp)
    have hN1 := hN _ (below_gr hB hW1 hg hB.size) hR1
    by_cases hw : a.f2 = true
    · rw [if_pos hw]
      unfold argv at hN1
      rw [hw] at hN1
      have HW1 := Lib.hid hW1
      have HN := Lib.hid hN1
      have HB := Lib.hid hB
      clear hN hW1 hR1 hN1 hr hs hm hok HR hB
      go_enter Tryz.func90, Tryz.ntmps90
      go_wp2_with (fail)
      refine HN.out.mono ?_
      rintro e w1 ⟨A', c', rfl, _, _, h3, h4⟩
      go_wp2_with (fail)
      refine (bad_any _ g A _ c _ f 3 (RB.grown h4 (gr_alloc (gr_refl w1 none) _) (by simp))).mono ?_
      rintro e w2 ⟨rfl, h5, h6⟩
      have hg2 : (w.alloc (.cells #[.int .i64 0, .int .i64 0, .string ⟨#[]⟩, .bool false, .int .i64 0] 29)).grownBy w2 (some g) := gr_then (gr_alloc h3 _) h5
      have hG := Lib.hid (gr_then HW1.out hg2)
      have hR := Lib.hid h6
      obtain ⟨z0, z1, z2, z3, z4, y0, y1, y2, y3, y4⟩ := loc5 hg2 hne
      clear h3 h4 h5 h6 hg2
      have hne2 : ¬ w.heap.size = g := hne
      go_wp2_with (fail)
      refine bodyPost_ret (v := .tuple #[vv zV, .bool false]) (by simp [results, Tryz.results90, go_sem, vv, zV, mt, z0, z1, z2, z3, z4]) rfl ⟨rfl, gr_set5 hG.out (Nat.le_refl _) _ _ _ _ _, hR.out.far5 hne _ _ _ _ _⟩
    · have hw' : a.f2 = false := by simpa using hw
      rw [if_neg hw]
      have hone : a.f0.length = 1 := by
        unfold okA at hm
        rw [if_neg hw] at hm
        simp only [Bool.and_eq_true, beq_iff_eq] at hm
        exact hm.1
      obtain ⟨x, hx⟩ := List.length_eq_one_iff.mp hone
      obtain ⟨av, ak, ab⟩ := a
      simp only at hx hw'
      subst hx hw'
      have HW1 := Lib.hid hW1
      have HN := Lib.hid hN1
      have HB := Lib.hid hB
      clear hN hW1 hR1 hN1 hr hs hm hok HR hB hone hw
      show Calls Tryz.prog 90 #[.pointer (some ⟨g, 0, none⟩)] w fun e w' => e = .returned (.tuple #[vv x, .bool true]) ∧ w.grownBy w' (some g) ∧ RB w' g A l.length c ((i + 1 : Nat) : Int) f
      go_enter Tryz.func90, Tryz.ntmps90
      go_wp2_with (fail)
      refine HN.out.mono ?_
      rintro e w2 ⟨A', c', rfl, hcc, hK, h3, h4⟩
      have hG := gr_then HW1.out h3
      have hb2 := below_gr HB.out hG hg HB.out.size
      obtain ⟨ad, rfl, hb, q0, q1, q2, q3, q4⟩ := val_cells hK hb2 0 (by simp)
      have had : ad.add 0 = ad := by unfold Addr.add; split <;> simp_all
      simp only [Nat.zero_mul, List.getElem_cons_zero, had] at q0 q1 q2 q3 q4
      have HG := Lib.hid hG
      have HR4 := Lib.hid h4
      simp only [argv, List.length_singleton] at hcc ⊢
      have hA := gr_alloc (gr_refl w2 none) (.cells #[.slice (some ad) 1 c', .int .i64 ak, .bool false] 67)
      obtain ⟨z0, z1, z2, z3, z4, y0, y1, y2, y3, y4⟩ := loc5 (gr_alloc h3 (.cells #[.slice (some ad) 1 c', .int .i64 ak, .bool false] 67)) hne
      have p0 := hA.cell q0 (by simp)
      have p1 := hA.cell q1 (by simp)
      have p2 := hA.cell q2 (by simp)
      have p3 := hA.cell q3 (by simp)
      have p4 := hA.cell q4 (by simp)
      clear h3 h4 hG hb2 hK hA
      have hne2 : ¬ w.heap.size = g := hne
      have hne3 : ¬ ad.block = w.heap.size := by have := HB.out.size; omega
      go_wp2_with (fail)
      refine bodyPost_ret (v := .tuple #[vv x, .bool true]) (by simp [results, Tryz.results90, go_sem, vv, z0, z1, z2, z3, z4]) rfl ⟨rfl, gr_set5 (gr_alloc HG.out _) (Nat.le_refl _) _ _ _ _ _, (RB.grown HR4.out (gr_alloc (gr_refl w2 none) _) (by simp)).far5 hne _ _ _ _ _⟩
  · have hil' : i = l.length := by omega
    have hs : l[i]? = none := List.getElem?_eq_none hil
    unfold singleS
    rw [hs]
    have hW1 : w.grownBy (w.alloc (.cells #[.int .i64 0, .int .i64 0, .string ⟨#[]⟩, .bool false, .int .i64 0] 29)) (some g) := gr_alloc (gr_refl w _) _
    have hR1 := RB.grown hr (gr_alloc (gr_refl w none) (.cells #[.int .i64 0, .int .i64 0, .string ⟨#[]⟩, .bool false, .int .i64 0] 29)) (by simp)
    rw [hil'] at hR1 ⊢
    have HN := Lib.hid (next_no _ g A l.length c f hR1 hl)
    have HW1 := Lib.hid hW1
    clear hW1 hR1 hr hs hok HR hB
    go_enter Tryz.func90, Tryz.ntmps90
    go_wp2_with (fail)
    refine HN.out.mono ?_
    rintro e w2 ⟨rfl, h3, h4⟩
    have HG := Lib.hid (gr_then HW1.out h3)
    have HR4 := Lib.hid h4
    obtain ⟨z0, z1, z2, z3, z4, y0, y1, y2, y3, y4⟩ := loc5 (gr_alloc h3 (.cells #[.slice none 0 0, .int .i64 0, .bool false] 67)) hne
    have hne2 : ¬ w.heap.size = g := hne
    clear h3 h4
    go_wp2_with (fail)
    refine bodyPost_ret (v := .tuple #[vv zV, .bool false]) (by simp [results, Tryz.results90, go_sem, vv, zV, mt, z0, z1, z2, z3, z4]) rfl ⟨rfl, gr_set5 (gr_alloc HG.out _) (Nat.le_refl _) _ _ _ _ _, (RB.grown HR4.out (gr_alloc (gr_refl w2 none) _) (by simp)).far5 hne _ _ _ _ _⟩
end Go.Proofs.YtcihleahjnpaaaaGreatDoor.H
namespace Go.Proofs.YtcihleahjnpaaaaGreatDoor.H
open Go.RowKit Go.Proofs.YtcihleahjnpaaaaGreatDoor.P Go.Proofs.YtcihleahjnpaaaaGreatDoor.T Go.Proofs.YtcihleahjnpaaaaGreatDoorW.PrintWords Go.Proofs.YtcihleahjnpaaaaGreatDoorW.PrintLast Go.Proofs.YtcihleahjnpaaaaGreatDoorW.PrintMore
set_option linter.unusedVariables false
set_option linter.unusedSimpArgs false
structure Cx (w0 : World) (g : Nat) (A : Option Addr) (l : List AR) : Prop where
  hr : Kd.C kA w0 A l.length l
  hg : w0.heap.size ≤ g
  hl : l.length ≤ 4096
  ok : ∀ a ∈ l, okA a = true
structure Rd (w0 w : World) (g : Nat) (A : Option Addr) (c : Nat) (l : List AR) (i : Nat) (f : Int) : Prop where
  b : Below w0.heap.size w0 w
  r : RB w g A l.length c i f
  hi : i ≤ l.length
section
variable {w0 w w' : World} {g : Nat} {A : Option Addr} {c : Nat} {l : List AR} {i j : Nat} {f e : Int}
theorem Rd.next (h : Rd w0 w g A c l i f) (hc : Cx w0 g A l) (hg : w.grownBy w' (some g)) (hr : RB w' g A l.length c j e) (hj : j ≤ l.length) : Rd w0 w' g A c l j e := ⟨below_gr h.b hg hc.hg h.b.size, hr, hj⟩
theorem Rd.grow (h : Rd w0 w g A c l i f) (hc : Cx w0 g A l) (hg : w.grownBy w' none) : Rd w0 w' g A c l i f := ⟨h.b.grown hg h.b.size (fun _ e => by cases e), h.r.grown hg (by simp), h.hi⟩
theorem Rd.ne (h : Rd w0 w g A c l i f) : w.heap.size ≠ g := by have := h.r.2.2.2.2.2.2; omega
theorem singleS_le (l : List AR) (i : Nat) (f : Int) (hi : i ≤ l.length) : (singleS l i f).2.2.1 ≤ l.length := by
  unfold singleS
  rcases Nat.lt_or_ge i l.length with h | h
  · rw [List.getElem?_eq_getElem h]; simp only; split <;> exact h
  · rw [List.getElem?_eq_none h]; exact hi
theorem single_rd (hc : Cx w0 g A l) (h : Rd w0 w g A c l i f) :
    Calls Tryz.prog 90 #[.pointer (some ⟨g, 0, none⟩)] w fun e w' => e = .returned (.tuple #[vv (singleS l i f).1, .bool (singleS l i f).2.1]) ∧ w.grownBy w' (some g) ∧ Rd w0 w' g A c l (singleS l i f).2.2.1 (singleS l i f).2.2.2 :=
  (single_any w0 w g A c l i f hc.hr h.b hc.hg h.r h.hi hc.hl hc.ok).mono (fun _ _ ⟨a, b, c⟩ => ⟨a, b, h.next hc b c (singleS_le l i f h.hi)⟩)
theorem bad_rd (hc : Cx w0 g A l) (h : Rd w0 w g A c l i f) (x : Int) :
    Calls Tryz.prog 91 #[.pointer (some ⟨g, 0, none⟩), .int .i64 x] w fun e w' => e = .returned (.tuple #[]) ∧ w.grownBy w' (some g) ∧ Rd w0 w' g A c l i (badF f x) :=
  (bad_any w g A _ c i f x h.r).mono (fun _ _ ⟨a, b, c⟩ => ⟨a, b, h.next hc b c h.hi⟩)
end
theorem gr_of_below {w w' : World} (h : Below w.heap.size w w') (row : Option Nat) : w.grownBy w' row := ⟨h.os, h.tape, h.output, h.size, fun i hi _ => h.block i hi⟩
theorem end5 {w0 w w1 : World} {g : Nat} {A : Option Addr} {c : Nat} {l : List AR} {i j : Nat} {f e : Int} (hd : Rd w0 w g A c l i f) (hc : Cx w0 g A l) (hg : w.grownBy w1 (some g)) (hr : Rd w0 w1 g A c l j e) (p q r s t : Value) :
    w.grownBy (((((w1.setCell ⟨w.heap.size, 0, none⟩ p).setCell ⟨w.heap.size, 1, none⟩ q).setCell ⟨w.heap.size, 2, none⟩ r).setCell ⟨w.heap.size, 3, none⟩ s).setCell ⟨w.heap.size, 4, none⟩ t) (some g) ∧ Rd w0 (((((w1.setCell ⟨w.heap.size, 0, none⟩ p).setCell ⟨w.heap.size, 1, none⟩ q).setCell ⟨w.heap.size, 2, none⟩ r).setCell ⟨w.heap.size, 3, none⟩ s).setCell ⟨w.heap.size, 4, none⟩ t) g A c l j e :=
  ⟨gr_set5 hg (Nat.le_refl _) p q r s t, hd.next hc (gr_set5 hg (Nat.le_refl _) p q r s t) (hr.r.far5 hd.ne p q r s t) hr.hi⟩
def thingS (l : List AR) (i : Nat) (f : Int) : V × Nat × Int :=
  let s := singleS l i f
  (s.1, s.2.2.1, if okV s.1 = true then if s.1.f0 = 4 then badF s.2.2.2 s.1.f4 else s.2.2.2 else badF s.2.2.2 3)
set_option maxHeartbeats 2000000 in
set_option maxRecDepth 100000 in
theorem thing_rd {w0 w : World} {g : Nat} {A : Option Addr} {c : Nat} {l : List AR} {i : Nat} {f : Int} (hc : Cx w0 g A l) (h : Rd w0 w g A c l i f) :
    Calls Tryz.prog 75 #[.pointer (some ⟨g, 0, none⟩)] w fun e w' => e = .returned (vv (thingS l i f).1) ∧ w.grownBy w' (some g) ∧ Rd w0 w' g A c l (thingS l i f).2.1 (thingS l i f).2.2 := by
  have HS := single_rd hc (h.grow hc (gr_alloc (gr_refl w none) (.cells #[.int .i64 0, .int .i64 0, .string ⟨#[]⟩, .bool false, .int .i64 0] 29)))
  have hne := h.ne
  unfold thingS
  generalize singleS l i f = s at *
  obtain ⟨v, b, j, e⟩ := s
  simp only at HS ⊢
  generalize hE : (if okV v = true then if v.f0 = 4 then badF e v.f4 else e else badF e 3) = E
  have HH := Lib.hid HS
  have HC := Lib.hid hc
  have HD := Lib.hid h
  clear HS hc h
  go_enter Tryz.func75, Tryz.ntmps75
  go_wp2_with (fail)
  refine HH.out.mono ?_
  rintro x w2 ⟨rfl, h2, h3⟩
  have HG := Lib.hid (gr_then (gr_alloc (gr_refl w (some g)) _) h2)
  have HR := Lib.hid h3
  have HX := Lib.hid h2
  obtain ⟨z0, z1, z2, z3, z4, y0, y1, y2, y3, y4⟩ := loc5 h2 hne
  clear h2 h3
  have hne2 : ¬ w.heap.size = g := hne
  unfold vv
  go_wp2_with (fail)
  refine (good_any _ v).mono ?_
  rintro x w3 ⟨rfl, h4⟩
  have hg4 := gr_alloc (gr_refl w2 (some g)) (.cells #[.int .i64 v.f0, .int .i64 v.f1, .string v.f2, .bool v.f3, .int .i64 v.f4] 29)
  have hr4 : Rd w0 w3 g A c l j e := HR.out.grow HC.out (gr_then (gr_alloc (gr_refl w2 none) _) (gr_of_below h4 none))
  have hne4 := HR.out.ne
  have hgr := gr_then (gr_then HG.out hg4) (gr_of_below h4 (some g))
  have hA := gr_of_below h4 (some g)
  have HA := Lib.hid hA
  have HZ := Lib.hid (gr_then (gr_then HX.out hg4) hA)
  obtain ⟨x0, x1, x2, x3, x4, u0, u1, u2, u3, u4⟩ := loc5 hA hne4
  obtain ⟨z0, z1, z2, z3, z4, y0, y1, y2, y3, y4⟩ := loc5 (gr_then (gr_then HX.out hg4) (gr_of_below h4 (some g))) hne
  clear h4 hg4 hA
  by_cases hk : okV v = true
  · rw [if_pos hk] at hE
    have HR4 := Lib.hid hr4
    have HG4 := Lib.hid hgr
    clear hr4 hgr
    rw [hk]
    by_cases hf : v.f0 = 4
    · rw [if_pos hf] at hE
      subst hE
      have hf1 : (v.f0 == 4) = true := by simpa using hf
      go_wp2_with (fail)
      refine (bad_rd HC.out HR4.out _).mono ?_
      rintro x w4 ⟨rfl, h5, h6⟩
      obtain ⟨x0, x1, x2, x3, x4, u0, u1, u2, u3, u4⟩ := loc5 (gr_then HA.out h5) hne4
      obtain ⟨z0, z1, z2, z3, z4, y0, y1, y2, y3, y4⟩ := loc5 (gr_then HZ.out h5) hne
      have HG5 := Lib.hid (gr_then HG4.out h5)
      have HR5 := Lib.hid h6
      clear h5 h6
      go_wp2_with (fail)
      refine bodyPost_ret (v := vv v) (by simp [results, Tryz.results75, go_sem, vv, z0, z1, z2, z3, z4, hf]) rfl ⟨rfl, end5 HD.out HC.out HG5.out HR5.out _ _ _ _ _⟩
    · rw [if_neg hf] at hE
      subst hE
      have hf1 : (v.f0 == 4) = false := by simpa using hf
      go_wp2_with (fail)
      refine bodyPost_ret (v := vv v) (by simp [results, Tryz.results75, go_sem, vv, z0, z1, z2, z3, z4]) rfl ⟨rfl, end5 HD.out HC.out HG4.out HR4.out _ _ _ _ _⟩
  · rw [if_neg hk] at hE
    subst hE
    have hk' : okV v = false := by simpa using hk
    rw [hk']
    have HR4 := Lib.hid hr4
    have HG4 := Lib.hid hgr
    clear hr4 hgr
    go_wp2_with (fail)
    refine (bad_rd HC.out HR4.out _).mono ?_
    rintro x w4 ⟨rfl, h5, h6⟩
    obtain ⟨x0, x1, x2, x3, x4, u0, u1, u2, u3, u4⟩ := loc5 (gr_then HA.out h5) hne4
    obtain ⟨z0, z1, z2, z3, z4, y0, y1, y2, y3, y4⟩ := loc5 (gr_then HZ.out h5) hne
    have HG5 := Lib.hid (gr_then HG4.out h5)
    have HR5 := Lib.hid h6
    clear h5 h6
    go_wp2_with (fail)
    refine bodyPost_ret (v := vv v) (by simp [results, Tryz.results75, go_sem, vv, z0, z1, z2, z3, z4]) rfl ⟨rfl, end5 HD.out HC.out HG5.out HR5.out _ _ _ _ _⟩
end Go.Proofs.YtcihleahjnpaaaaGreatDoor.H
namespace Go.Proofs.YtcihleahjnpaaaaGreatDoor.H
open Go.RowKit Go.Proofs.YtcihleahjnpaaaaGreatDoor.P Go.Proofs.YtcihleahjnpaaaaGreatDoor.T Go.Proofs.YtcihleahjnpaaaaGreatDoorW.PrintWords Go.Proofs.YtcihleahjnpaaaaGreatDoorW.PrintLast Go.Proofs.YtcihleahjnpaaaaGreatDoorW.PrintMore
set_option linter.unusedVariables false
set_option linter.unusedSimpArgs false
theorem below_of_gr {w w' : World} (h : w.grownBy w' none) : Below w.heap.size w w' := ⟨h.os, h.tape, h.output, h.size, fun i hi => h.block i hi (by simp)⟩
set_option maxHeartbeats 2000000 in
set_option maxRecDepth 100000 in
theorem tabled_wide (w : World) (A : Option Addr) (n c : Nat) (k : Int) (hk : 0 < k) (hn : n ≤ 4096) :
    Calls Tryz.prog 84 #[.agg #[.slice A n c, .int .i64 k, .bool true]] w fun e w' => e = .returned (.agg #[.slice A n c, .int .i64 ((n : Int) / k), .int .i64 k]) ∧ Below w.heap.size w w' := by
  have hk0 : ¬ k = 0 := by omega
  have hk1 : (k == 0) = false := by simpa using hk0
  have hw : wrap64 ((n : Int) / k) = (n : Int) / k := by
    have h1 : (n : Int) / k ≤ n := Int.ediv_le_self _ (by omega)
    have h2 : 0 ≤ (n : Int) / k := Int.ediv_nonneg (by omega) (by omega)
    generalize (n : Int) / k = z at *
    unfold wrap64
    omega
  go_enter Tryz.func84, Tryz.ntmps84
  go_wp2_with (fail)
  go_region
  go_wp2_with (fail)
  refine bodyPost_ret (v := .agg #[.slice A n c, .int .i64 ((n : Int) / k), .int .i64 k]) (by simp [results, Tryz.results84, go_sem]) rfl ⟨rfl, below_of_gr (gr_drewN (gr_alloc (gr_alloc (gr_refl w none) _) _) 1)⟩
theorem tabled_one (w : World) (A : Option Addr) (n c : Nat) (k : Int) :
    Calls Tryz.prog 84 #[.agg #[.slice A n c, .int .i64 k, .bool false]] w fun e w' => e = .returned (.agg #[.slice A n c, .int .i64 1, .int .i64 1]) ∧ Below w.heap.size w w' := by
  go_enter Tryz.func84, Tryz.ntmps84
  go_wp2_with (fail)
  refine bodyPost_ret (v := .agg #[.slice A n c, .int .i64 1, .int .i64 1]) (by simp [results, Tryz.results84, go_sem]) rfl ⟨rfl, below_of_gr (gr_alloc (gr_alloc (gr_refl w none) _) _)⟩
def rowsA (a : AR) : Int := if a.f2 = true then (a.f0.length : Int) / a.f1 else 1
def colsA (a : AR) : Int := if a.f2 = true then a.f1 else 1
def tbv (A : Option Addr) (c : Nat) (a : AR) : Value := .agg #[.slice A a.f0.length c, .int .i64 (rowsA a), .int .i64 (colsA a)]
theorem tabled_any (w : World) (A : Option Addr) (c : Nat) (a : AR) (hok : okA a = true ∨ a.f2 = false) :
    Calls Tryz.prog 84 #[argv A c a] w fun e w' => e = .returned (tbv A c a) ∧ Below w.heap.size w w' := by
  unfold argv tbv rowsA colsA
  by_cases hw : a.f2 = true
  · rw [if_pos hw, if_pos hw, hw]
    rcases hok with hok | hok
    · unfold okA at hok
      rw [if_pos hw] at hok
      simp only [Bool.and_eq_true, decide_eq_true_eq] at hok
      exact tabled_wide w A _ c _ hok.1 hok.2.2.1
    · rw [hw] at hok; exact absurd hok (by simp)
  · rw [if_neg hw, if_neg hw]
    have hw' : a.f2 = false := by simpa using hw
    rw [hw']
    exact tabled_one w A _ c _
def nextS (l : List AR) (i : Nat) : AR × Nat := match l[i]? with
  | some a => (a, i + 1)
  | none => (noArg, i)
theorem nextS_ok (l : List AR) (i : Nat) (hok : ∀ a ∈ l, okA a = true) : okA (nextS l i).1 = true ∨ (nextS l i).1.f2 = false := by
  unfold nextS
  rcases Nat.lt_or_ge i l.length with h | h
  · rw [List.getElem?_eq_getElem h]; exact .inl (hok _ (List.getElem_mem h))
  · rw [List.getElem?_eq_none h]; exact .inr rfl
theorem next_rd {w0 w : World} {g : Nat} {A : Option Addr} {c : Nat} {l : List AR} {i : Nat} {f : Int} (hc : Cx w0 g A l) (h : Rd w0 w g A c l i f) :
    Calls Tryz.prog 83 #[.pointer (some ⟨g, 0, none⟩)] w fun e w' => ∃ A' c' b, e = .returned (.tuple #[argv A' c' (nextS l i).1, .bool b]) ∧ (nextS l i).1.f0.length ≤ c' ∧ Kd.C kV w0 A' (nextS l i).1.f0.length (nextS l i).1.f0 ∧ w.grownBy w' (some g) ∧ Rd w0 w' g A c l (nextS l i).2 f := by
  unfold nextS
  rcases Nat.lt_or_ge i l.length with hil | hil
  · rw [List.getElem?_eq_getElem hil]
    refine (next_yes w0 w g A c l i f hc.hr h.b hc.hg h.r hil hc.hl).mono ?_
    rintro e w' ⟨A', c', rfl, h1, h2, h3, h4⟩
    exact ⟨A', c', true, rfl, h1, h2, h3, h.next hc h3 h4 hil⟩
  · rw [List.getElem?_eq_none hil]
    have hil' : i = l.length := by have := h.hi; omega
    subst hil'
    refine (next_no w g A _ c f h.r hc.hl).mono ?_
    rintro e w' ⟨rfl, h3, h4⟩
    exact ⟨none, 0, false, rfl, Nat.le_refl _, by simp [noArg]; exact Kd.C_nil _ _, h3, h.next hc h3 h4 (Nat.le_refl _)⟩
theorem loc3 {w w2 : World} {g : Nat} {a b c : Value} {T : Nat} (h : (w.alloc (.cells #[a, b, c] T)).grownBy w2 (some g)) (hne : w.heap.size ≠ g) :
    w2.cell? ⟨w.heap.size, 0, none⟩ = some a ∧ w2.cell? ⟨w.heap.size, 1, none⟩ = some b ∧ w2.cell? ⟨w.heap.size, 2, none⟩ = some c ∧ w2.frozen? ⟨w.heap.size, 0, none⟩ = false ∧ w2.frozen? ⟨w.heap.size, 1, none⟩ = false ∧ w2.frozen? ⟨w.heap.size, 2, none⟩ = false := by
  have hY : w2.heap[w.heap.size]? = some (.cells #[a, b, c] T (0, 0)) := (h.block _ (by simp) (by simpa using hne)).trans (heap_alloc_new w _)
  exact ⟨cell_of_row _ _ 0 _ _ _ hY, cell_of_row _ _ 1 _ _ _ hY, cell_of_row _ _ 2 _ _ _ hY, by simp [World.frozen?, hY], by simp [World.frozen?, hY], by simp [World.frozen?, hY]⟩
theorem end3 {w0 w w1 : World} {g : Nat} {A : Option Addr} {c : Nat} {l : List AR} {i j : Nat} {f e : Int} (hd : Rd w0 w g A c l i f) (hc : Cx w0 g A l) (hg : w.grownBy w1 (some g)) (hr : Rd w0 w1 g A c l j e) (p q r : Value) :
    w.grownBy (((w1.setCell ⟨w.heap.size, 0, none⟩ p).setCell ⟨w.heap.size, 1, none⟩ q).setCell ⟨w.heap.size, 2, none⟩ r) (some g) ∧ Rd w0 (((w1.setCell ⟨w.heap.size, 0, none⟩ p).setCell ⟨w.heap.size, 1, none⟩ q).setCell ⟨w.heap.size, 2, none⟩ r) g A c l j e := by
  have h1 := gr_set (gr_set (gr_set hg (p := ⟨w.heap.size, 0, none⟩) (.inr (Nat.le_refl _)) p) (p := ⟨w.heap.size, 1, none⟩) (.inr (Nat.le_refl _)) q) (p := ⟨w.heap.size, 2, none⟩) (.inr (Nat.le_refl _)) r
  exact ⟨h1, hd.next hc h1 (((hr.r.far (p := ⟨w.heap.size, 0, none⟩) hd.ne p).far (p := ⟨w.heap.size, 1, none⟩) hd.ne q).far (p := ⟨w.heap.size, 2, none⟩) hd.ne r) hr.hi⟩
set_option maxHeartbeats 2000000 in
set_option maxRecDepth 100000 in
theorem table_rd {w0 w : World} {g : Nat} {A : Option Addr} {c : Nat} {l : List AR} {i : Nat} {f : Int} (hc : Cx w0 g A l) (h : Rd w0 w g A c l i f) :
    Calls Tryz.prog 62 #[.pointer (some ⟨g, 0, none⟩)] w fun e w' => ∃ A' c', e = .returned (tbv A' c' (nextS l i).1) ∧ (nextS l i).1.f0.length ≤ c' ∧ Kd.C kV w0 A' (nextS l i).1.f0.length (nextS l i).1.f0 ∧ w.grownBy w' (some g) ∧ Rd w0 w' g A c l (nextS l i).2 f := by
  have HS := Lib.hid (next_rd hc (h.grow hc (gr_alloc (gr_refl w none) (.cells #[.slice none 0 0, .int .i64 0, .int .i64 0] 110))))
  have hne := h.ne
  have hok := nextS_ok l i hc.ok
  generalize nextS l i = s at *
  obtain ⟨a, j⟩ := s
  simp only at hok ⊢
  have HC := Lib.hid hc
  have HD := Lib.hid h
  clear hc h
  go_enter Tryz.func62, Tryz.ntmps62
  go_wp2_with (fail)
  refine HS.out.mono ?_
  rintro x w2 ⟨A', c', b, rfl, hcc, hK, h2, h3⟩
  have HK := Lib.hid hK
  have HR := Lib.hid h3
  have HX := Lib.hid h2
  have HG := Lib.hid (gr_then (gr_alloc (gr_refl w (some g)) _) h2)
  obtain ⟨z0, z1, z2, y0, y1, y2⟩ := loc3 h2 hne
  have hne2 : ¬ w.heap.size = g := hne
  clear hK h2 h3
  unfold argv
  go_wp2_with (fail)
  refine (tabled_any _ A' c' a hok).mono ?_
  rintro x w3 ⟨rfl, h4⟩
  have HR4 := Lib.hid (HR.out.grow HC.out (gr_then (gr_alloc (gr_refl w2 none) _) (gr_of_below h4 none)))
  have HG4 := Lib.hid (gr_then (gr_alloc HG.out _) (gr_of_below h4 (some g)))
  obtain ⟨z0, z1, z2, y0, y1, y2⟩ := loc3 (gr_then (gr_alloc HX.out _) (gr_of_below h4 (some g))) hne
  clear h4
  unfold tbv
  go_wp2_with (fail)
  refine bodyPost_ret (v := tbv A' c' a) (by simp [results, Tryz.results62, go_sem, tbv, z0, z1, z2]) rfl ⟨A', c', rfl, hcc, HK.out, end3 HD.out HC.out HG4.out HR4.out _ _ _⟩
def listS (l : List AR) (i : Nat) (f : Int) : List V × Nat × Int :=
  let s := nextS l i
  (s.1.f0, s.2, if rowsA s.1 ≠ 1 ∧ colsA s.1 ≠ 1 then badF f 6 else f)
set_option maxHeartbeats 2000000 in
set_option maxRecDepth 100000 in
theorem list_rd {w0 w : World} {g : Nat} {A : Option Addr} {c : Nat} {l : List AR} {i : Nat} {f : Int} (hc : Cx w0 g A l) (h : Rd w0 w g A c l i f) :
    Calls Tryz.prog 76 #[.pointer (some ⟨g, 0, none⟩)] w fun e w' => ∃ A' c', e = .returned (.slice A' (listS l i f).1.length c') ∧ (listS l i f).1.length ≤ c' ∧ Kd.C kV w0 A' (listS l i f).1.length (listS l i f).1 ∧ w.grownBy w' (some g) ∧ Rd w0 w' g A c l (listS l i f).2.1 (listS l i f).2.2 := by
  have HS := Lib.hid (table_rd hc h)
  unfold listS
  generalize nextS l i = s at *
  obtain ⟨a, j⟩ := s
  simp only at HS ⊢
  have HC := Lib.hid hc
  have HD := Lib.hid h
  clear hc h
  generalize hE : (if rowsA a ≠ 1 ∧ colsA a ≠ 1 then badF f 6 else f) = E
  go_enter Tryz.func76, Tryz.ntmps76
  go_wp2_with (fail)
  refine HS.out.mono ?_
  rintro x w2 ⟨A', c', rfl, hcc, hK, h2, h3⟩
  have HK := Lib.hid hK
  have HR := Lib.hid h3
  have HG := Lib.hid h2
  clear hK h2 h3
  unfold tbv
  by_cases h1 : rowsA a = 1
  · have t1 : (rowsA a != 1) = false := by simpa using h1
    rw [if_neg (fun h => h.1 h1)] at hE
    subst hE
    go_wp2_with (fail)
    refine bodyPost_ret (v := .slice A' a.f0.length c') (by simp [results, Tryz.results76, go_sem]) rfl ⟨A', c', rfl, hcc, HK.out, gr_alloc HG.out _, HR.out.grow HC.out (gr_alloc (gr_refl _ none) _)⟩
  · have t1 : (rowsA a != 1) = true := by simpa using h1
    by_cases h2 : colsA a = 1
    · have t2 : (colsA a != 1) = false := by simpa using h2
      rw [if_neg (fun h => h.2 h2)] at hE
      subst hE
      go_wp2_with (fail)
      refine bodyPost_ret (v := .slice A' a.f0.length c') (by simp [results, Tryz.results76, go_sem]) rfl ⟨A', c', rfl, hcc, HK.out, gr_alloc HG.out _, HR.out.grow HC.out (gr_alloc (gr_refl _ none) _)⟩
    · have t2 : (colsA a != 1) = true := by simpa using h2
      rw [if_pos ⟨h1, h2⟩] at hE
      subst hE
      go_wp2_with (fail)
      refine (bad_rd HC.out (HR.out.grow HC.out (gr_alloc (gr_refl w2 none) _)) _).mono ?_
      rintro x w4 ⟨rfl, h5, h6⟩
      obtain ⟨x0, x1, x2, u0, u1, u2⟩ := loc3 h5 HR.out.ne
      have HG5 := Lib.hid (gr_then (gr_alloc HG.out _) h5)
      have HR5 := Lib.hid h6
      clear h5 h6
      go_wp2_with (fail)
      refine bodyPost_ret (v := .slice A' a.f0.length c') (by simp [results, Tryz.results76, go_sem]) rfl ⟨A', c', rfl, hcc, HK.out, HG5.out, HR5.out⟩
end Go.Proofs.YtcihleahjnpaaaaGreatDoor.H
namespace Go.Proofs.YtcihleahjnpaaaaGreatDoor.H
open Go.RowKit Go.Proofs.YtcihleahjnpaaaaGreatDoor.P Go.Proofs.YtcihleahjnpaaaaGreatDoor.T Go.Proofs.YtcihleahjnpaaaaGreatDoorW.PrintWords Go.Proofs.YtcihleahjnpaaaaGreatDoorW.PrintLast Go.Proofs.YtcihleahjnpaaaaGreatDoorW.PrintMore
set_option linter.unusedVariables false
set_option linter.unusedSimpArgs false
def countS (o : Int) (l : List AR) (i : Nat) (f : Int) : Int × Bool × Nat × Int :=
  let s := singleS l i f
  if s.2.1 = true then (wholeN (numV s.1).1, true, s.2.2.1, if (numV s.1).2 = 0 then s.2.2.2 else badF s.2.2.2 (numV s.1).2) else (o, false, s.2.2.1, s.2.2.2)
set_option maxHeartbeats 2000000 in
set_option maxRecDepth 100000 in
theorem count_rd {w0 w : World} {g : Nat} {A : Option Addr} {c : Nat} {l : List AR} {i : Nat} {f : Int} (o : Int) (hc : Cx w0 g A l) (h : Rd w0 w g A c l i f) :
    Calls Tryz.prog 77 #[.pointer (some ⟨g, 0, none⟩), .int .i64 o] w fun e w' => e = .returned (.tuple #[.int .i64 (countS o l i f).1, .bool (countS o l i f).2.1]) ∧ w.grownBy w' (some g) ∧ Rd w0 w' g A c l (countS o l i f).2.2.1 (countS o l i f).2.2.2 := by
  have HS := single_rd hc h
  have hne := h.ne
  unfold countS
  generalize singleS l i f = s at *
  obtain ⟨v, b, j, e⟩ := s
  simp only at HS ⊢
  have HH := Lib.hid HS
  have HC := Lib.hid hc
  have HD := Lib.hid h
  clear HS hc h
  cases b
  · rw [if_neg (by simp)]
    simp only
    go_enter Tryz.func77, Tryz.ntmps77
    go_wp2_with (fail)
    refine HH.out.mono ?_
    rintro x w2 ⟨rfl, h2, h3⟩
    have HG := Lib.hid h2
    have HR := Lib.hid h3
    clear h2 h3
    unfold vv
    go_wp2_with (fail)
    refine bodyPost_ret (v := .tuple #[.int .i64 o, .bool false]) (by simp [results, Tryz.results77, go_sem]) rfl ⟨rfl, gr_alloc HG.out _, HR.out.grow HC.out (gr_alloc (gr_refl _ none) _)⟩
  · rw [if_pos rfl]
    simp only
    generalize hE : (if (numV v).2 = 0 then e else badF e (numV v).2) = E
    go_enter Tryz.func77, Tryz.ntmps77
    go_wp2_with (fail)
    refine HH.out.mono ?_
    rintro x w2 ⟨rfl, h2, h3⟩
    have HG := Lib.hid h2
    have HR := Lib.hid h3
    clear h2 h3
    unfold vv
    go_wp2_with (fail)
    refine (asnum_any _ v).mono ?_
    rintro x w3 ⟨rfl, h4⟩
    have hR4 : Rd w0 w3 g A c l j e := HR.out.grow HC.out (gr_then (gr_alloc (gr_refl w2 none) _) (gr_of_below h4 none))
    have hG4 := gr_then (gr_alloc HG.out _) (gr_of_below h4 (some g))
    have HR4 := Lib.hid hR4
    have HG4 := Lib.hid hG4
    clear h4 hR4 hG4
    by_cases hf : (numV v).2 = 0
    · rw [if_pos hf] at hE
      subst hE
      have hf1 : ((numV v).2 == 0) = true := by simpa using hf
      go_wp2_with (fail)
      refine (whole_any _ (numV v).1).mono ?_
      rintro x w4 ⟨rfl, h5⟩
      have HR5 := Lib.hid (HR4.out.grow HC.out (gr_of_below h5 none))
      have HG5 := Lib.hid (gr_then HG4.out (gr_of_below h5 (some g)))
      clear h5
      go_wp2_with (fail)
      refine bodyPost_ret (v := .tuple #[.int .i64 (wholeN (numV v).1), .bool true]) (by simp [results, Tryz.results77, go_sem]) rfl ⟨rfl, HG5.out, HR5.out⟩
    · rw [if_neg hf] at hE
      subst hE
      have hf1 : ((numV v).2 == 0) = false := by simpa using hf
      go_wp2_with (fail)
      refine (bad_rd HC.out HR4.out _).mono ?_
      rintro x w5 ⟨rfl, h6, h7⟩
      have HR6 := Lib.hid h7
      have HG6 := Lib.hid (gr_then HG4.out h6)
      clear h6 h7
      go_wp2_with (fail)
      refine (whole_any _ (numV v).1).mono ?_
      rintro x w4 ⟨rfl, h5⟩
      have HR5 := Lib.hid (HR6.out.grow HC.out (gr_of_below h5 none))
      have HG5 := Lib.hid (gr_then HG6.out (gr_of_below h5 (some g)))
      clear h5
      go_wp2_with (fail)
      refine bodyPost_ret (v := .tuple #[.int .i64 (wholeN (numV v).1), .bool true]) (by simp [results, Tryz.results77, go_sem]) rfl ⟨rfl, HG5.out, HR5.out⟩
end Go.Proofs.YtcihleahjnpaaaaGreatDoor.H
