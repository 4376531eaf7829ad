/- Texts of this claim, put together by a program of this session: Px77, Px78, Turn, Lookup, Px75, Good, Told. -/
import Derived.WalkLawsBesides
import Derived.BigQuiet
import Derived.Deep.QuietTactic
import Derived.Lib.Hide
import Derived.Outline
import Derived.Test.YtcihleahjnpaaaaGreatDoorC7
namespace Go.Proofs.YtcihleahjnpaaaaGreatDoor.P
open Go.RowKit Go.Proofs.YtcihleahjnpaaaaGreatDoor.Q Go.Proofs.YtcihleahjnpaaaaGreatDoor.H Go.Proofs.YtcihleahjnpaaaaGreatDoorW.PrintWords Go.Proofs.YtcihleahjnpaaaaGreatDoorW.PrintLast Go.Proofs.YtcihleahjnpaaaaGreatDoorW.PrintMore
attribute [local go_sem] max2_int min2_int max_two min_two max_three min_three max_four min_four   -- for this text's walks alone
set_option linter.unusedVariables false
set_option linter.unusedSimpArgs false
mutual
def looks_table_turned.l0 : Nat → Int → Int → List (S29) → Int → Int → List (S29) → Int → Int → Option ((List (S29)) × Int × Int)
 | 0, _, _, _, _, _, _, _, _ => none
 | k + 1, x16, x17, x771000, x771001, x771002, x776000, x776001, x776002 => if x17 < x16 then (looks_table_turned.l1 k x17 x16 x17 x771001 0 x771000 x771001 x771002 x776000 x776001 x776002) else (some (x776000, x776001, x776002))
def looks_table_turned.l1 : Nat → Int → Int → Int → Int → Int → List (S29) → Int → Int → List (S29) → Int → Int → Option ((List (S29)) × Int × Int)
 | 0, _, _, _, _, _, _, _, _, _, _, _ => none
 | k + 1, x4, x16, x17, x21, x22, x771000, x771001, x771002, x776000, x776001, x776002 => if x22 < x21 then (if 0 ≤ (wrap64 ((wrap64 (x22 * x771002)) + x4)) then (if (wrap64 ((wrap64 (x22 * x771002)) + x4)) < (x771000.length : Int) then (if x776000.length < 2932031007402 then (looks_table_turned.l1 k x4 x16 x17 x21 (wrap64 (x22 + 1)) x771000 x771001 x771002 (x776000 ++ [(⟨(rd_T29 x771000 (wrap64 ((wrap64 (x22 * x771002)) + x4))).f0, (rd_T29 x771000 (wrap64 ((wrap64 (x22 * x771002)) + x4))).f1, (rd_T29 x771000 (wrap64 ((wrap64 (x22 * x771002)) + x4))).f2, (rd_T29 x771000 (wrap64 ((wrap64 (x22 * x771002)) + x4))).f3, (rd_T29 x771000 (wrap64 ((wrap64 (x22 * x771002)) + x4))).f4⟩ : S29)]) x776001 x776002) else (none)) else (none)) else (none)) else (looks_table_turned.l0 k x16 (wrap64 (x17 + 1)) x771000 x771001 x771002 x776000 x776001 x776002)
end
def looks_table_turned.f (k : Nat) (l0_0 : List (S29)) (a0_1 : Int) (a0_2 : Int) : Option ((List (S29)) × Int × Int) := if 0 ≤ (l0_0.length : Int) then (if ((l0_0.length : Int) : Int).toNat ≤ 5864062014805 then (looks_table_turned.l0 k a0_2 0 l0_0 a0_1 a0_2 (List.replicate 0 z29) a0_2 a0_1) else (none)) else (none)
def looks_table_turned.T1 : Bool × List (List Nat × List Nat) := (true, [([], []), ([0], [0]), ([1], [1]), ([2], [2]), ([], []), ([4], [4]), ([], []), ([6], [6]), ([3, 5, 7], [3, 5, 7]), ([], []), ([9, 8, 0, 1, 2, 3, 4, 5, 6, 7, 8, 9], [8, 9])])
def looks_table_turned.B1 : List Nat := [0, 1, 3, 7, 0, 16, 0, 64, 255, 0, 1023]
theorem looks_table_turned.tab1 : rtab .any (opsOf Tryz.f80 1) = looks_table_turned.T1 := by kernel_rfl
theorem looks_table_turned.bits1 : waitsOk looks_table_turned.T1.2 looks_table_turned.B1 = true := by kernel_rfl
def looks_table_turned.T8 : Bool × List (List Nat × List Nat) := (true, [([], []), ([0], [0]), ([], []), ([2], [2]), ([], []), ([], []), ([5], [5]), ([4, 6], [4, 6]), ([], []), ([7, 8], [7, 8]), ([3, 9], [3, 9]), ([10], [10]), ([11], [11]), ([1, 12], [1, 12]), ([0, 1, 2, 3, 4, 5, 6, 7, 8, 9, 10, 11, 12, 13], []), ([14, 13, 13, 0, 1, 2, 3, 4, 5, 6, 7, 8, 9, 10, 11, 12, 13], [13, 14])])
def looks_table_turned.B8 : List Nat := [0, 1, 0, 4, 0, 0, 32, 112, 0, 496, 1020, 2044, 4092, 8191, 16383, 32767]
theorem looks_table_turned.tab8 : rtab .any (opsOf Tryz.f80 8) = looks_table_turned.T8 := by kernel_rfl
theorem looks_table_turned.bits8 : waitsOk looks_table_turned.T8.2 looks_table_turned.B8 = true := by kernel_rfl
set_option maxHeartbeats 8000000 in
set_option maxRecDepth 100000 in
theorem looks_table_turned.calls (k : Nat) (A0_0 : Option Addr) (c0_0 : Nat) (l0_0 : List (S29)) (a0_1 : Int) (a0_2 : Int) (r1 : List (S29)) (r2 : Int) (r3 : Int) (w : World) (hr0_0 : Kd.C k29 w A0_0 l0_0.length l0_0) (hc0_0 : l0_0.length ≤ c0_0) (h : looks_table_turned.f k l0_0 a0_1 a0_2 = some (r1, r2, r3)) :
  Calls Tryz.prog 80 #[.agg #[.slice A0_0 l0_0.length c0_0, .int .i64 a0_1, .int .i64 a0_2]] w fun e w' => ∃ v0_ : Value, e = .returned (.agg #[v0_, .int .i64 r2, .int .i64 r3]) ∧ Kd.R k29 29 w' w.heap.size (fun _ => True) v0_ r1 ∧ Below w.heap.size w w' := by
 have hu110 := Tryz.underlying110
 have hu29 := Tryz.underlying29
 have HR0_0 := Aside0.mk hr0_0
 have HC0_0 := Aside0.mk hc0_0
 clear hr0_0 hc0_0
 have HB := Aside0.mk (Below.refl w.heap.size w)
 have H : (if 0 ≤ (l0_0.length : Int) then (if ((l0_0.length : Int) : Int).toNat ≤ 5864062014805 then (looks_table_turned.l0 k a0_2 0 l0_0 a0_1 a0_2 (List.replicate 0 z29) a0_2 a0_1) else (none)) else (none)) = some (r1, r2, r3) := h
 clear h
 by_cases c2 : 0 ≤ (l0_0.length : Int)
 ·rw [if_pos c2] at H
  have c2b0 := eq_true c2
  have c2b1 : decide (0 ≤ (l0_0.length : Int)) = true := decide_eq_true c2
  clear c2
  by_cases c3 : ((l0_0.length : Int) : Int).toNat ≤ 5864062014805
  ·rw [if_pos c3] at H
   have c3b0 := eq_true c3
   have c3b1 : decide (((l0_0.length : Int) : Int).toNat ≤ 5864062014805) = true := decide_eq_true c3
   clear c3
   obtain ⟨y772, hy772⟩ : ∃ y_ : List (S29), y_ = (List.replicate 0 z29) := ⟨_, rfl⟩
   replace H : (looks_table_turned.l0 k a0_2 0 l0_0 a0_1 a0_2 y772 a0_2 a0_1) = some (r1, r2, r3) := by first | (rw [hy772]; with_reducible exact H) | (have H2_ := (Option.bind_some _ _).symm.trans H; rw [hy772]; with_reducible exact H2_) | (have H2_ := (Option.bind_some _ _).symm.trans H; with_reducible exact H2_) | with_reducible exact H | (rw [hy772]; exact H) | exact H
   have Ny772 := Aside0.mk hy772
   clear hy772
   have H' := Aside0.mk H
   clear H
   go_enter Tryz.func80, Tryz.ntmps80
   try go_wp2_with (first | ((with_reducible refine gate_dst (N := 1) rfl ?_); refine bx (N := 1) (cs := #[.slice A0_0 l0_0.length c0_0, .int .i64 a0_1, .int .i64 a0_2]) (t := 110) ?_; intro gb770 hg w4 hbox hb; have BK770 := Aside0.mk (hbox); have GW770 := (bw hg); have GE770 := (bw hg); replace HB := (bs hb); clear hb hbox hg) | ((with_reducible refine gate_dst (N := 2) rfl ?_); refine bx (N := 2) (cs := #[.slice none 0 0, .int .i64 0, .int .i64 0]) (t := 110) ?_; intro gb771 hg w5 hbox hb; have BK771 := Aside0.mk (hbox); have GW771 := (bw hg); have GE771 := (bw hg); replace HB := (bs hb); have NB770_771 := Aside0.mk ((by rw [hg]; exact Nat.ne_of_lt (blk_lt (g := gb770) (o := .cells #[.slice A0_0 l0_0.length c0_0, .int .i64 a0_1, .int .i64 a0_2] 110 (0, 0)) (by (with_reducible repeat (first | refine blk_drewN ?_ _ | refine blk_drew ?_ | refine blk_alloc ?_ _)); exact BK770.out)) : gb770 ≠ gb771)); have NB771_770 := Aside0.mk ((by rw [hg]; exact Nat.ne_of_gt (blk_lt (g := gb770) (o := .cells #[.slice A0_0 l0_0.length c0_0, .int .i64 a0_1, .int .i64 a0_2] 110 (0, 0)) (by (with_reducible repeat (first | refine blk_drewN ?_ _ | refine blk_drew ?_ | refine blk_alloc ?_ _)); exact BK770.out)) : gb771 ≠ gb770)); replace BK770 := (bb BK770 hb); clear hb hbox hg))
   have n0_ := Aside0.mk (blk_drew BK770.out)
   have n1_ := Aside0.mk (blk_drew BK771.out)
   have n2_ := Aside0.mk (below_drew1 HB.out)
   clear BK770
   clear BK771
   clear HB
   have BK770 := n0_
   have BK771 := n1_
   have HB := n2_
   clear n0_ n1_ n2_
   refine start_ (n := 11) (S := fun w' => w'.cell? ⟨gb770, 0, none⟩ = some (.slice A0_0 l0_0.length c0_0) ∧ w'.cell? ⟨gb770, 1, none⟩ = some (.int .i64 a0_1) ∧ w'.cell? ⟨gb770, 2, none⟩ = some (.int .i64 a0_2)) (ds := []) #[false, false, false, false, false, false, false, false, false, false, false] (by kernel_rfl) rfl rfl ⟨(blk_cell BK770.out 0).trans rfl, (blk_cell BK770.out 1).trans rfl, (blk_cell BK770.out 2).trans rfl⟩ (fun hHeld => ?_); refine with_tabW looks_table_turned.tab1 looks_table_turned.bits1 (fun HT_ HW_ => ?_)
   generalize w5.drew = w6 at BK770 BK771 HB hHeld ⊢
   refine pure_ (i := 0) (N := some 6) (v := ?_) (a' := ?_) #[true, false, false, false, false, false, false, false, false, false, false] rfl rfl (any_of HT_.out (by kernel_rfl)) (fun _ _ _ h => h) (Or.inl ⟨by rfl, ?_⟩) ?_ ?_
   rotate_left
   ·intro w'
    go_simp
    with_reducible rfl
   rotate_left
   ·simp only [Act.put, List.setIfInBounds_toArray, List.set_cons_zero, List.set_cons_succ, i64_w, i32_w]
    rfl
   refine pure_ (i := 4) (N := some 10) (v := ?_) (a' := ?_) #[true, false, false, false, true, false, false, false, false, false, false] rfl rfl (any_of HT_.out (by kernel_rfl)) (fun _ _ _ h => h) (Or.inl ⟨by rfl, ?_⟩) ?_ ?_
   rotate_left
   ·intro w'
    go_simp
    with_reducible rfl
   rotate_left
   ·simp only [Act.put, List.setIfInBounds_toArray, List.set_cons_zero, List.set_cons_succ, i64_w, i32_w]
    rfl
   refine pure_ (i := 6) (N := some 12) (v := ?_) (a' := ?_) #[true, false, false, false, true, false, true, false, false, false, false] rfl rfl (any_of HT_.out (by kernel_rfl)) (fun _ _ _ h => h) (Or.inl ⟨by rfl, ?_⟩) ?_ ?_
   rotate_left
   ·intro w'
    go_simp
    with_reducible rfl
   rotate_left
   ·simp only [Act.put, List.setIfInBounds_toArray, List.set_cons_zero, List.set_cons_succ, i64_w, i32_w]
    rfl
   refine take_ (i := 1) (N := some 7) (v := ?_) (a' := ?_) #[true, true, false, false, true, false, true, false, false, false, false] rfl rfl (take_ofW HT_.out HW_.out (by kernel_rfl)) (fun _ _ _ h => h) (Or.inl ⟨by rfl, ?_⟩) hHeld ?_ ?_
   rotate_left
   ·rintro w' ⟨s0, s1, s2⟩
    go_simp
    with_reducible rfl
   rotate_left
   ·simp only [Act.put, List.setIfInBounds_toArray, List.set_cons_zero, List.set_cons_succ, i64_w, i32_w]
    rfl
   refine pure_ (i := 2) (N := some 8) (v := ?_) (a' := ?_) #[true, true, true, false, true, false, true, false, false, false, false] rfl rfl (any_of HT_.out (by kernel_rfl)) (fun _ _ _ h => h) (Or.inl ⟨by rfl, ?_⟩) ?_ ?_
   rotate_left
   ·intro w'
    go_simp
    with_reducible rfl
   rotate_left
   ·simp only [Act.put, List.setIfInBounds_toArray, List.set_cons_zero, List.set_cons_succ, i64_w, i32_w]
    rfl
   refine take_ (i := 5) (N := some 11) (v := ?_) (a' := ?_) #[true, true, true, false, true, true, true, false, false, false, false] rfl rfl (take_ofW HT_.out HW_.out (by kernel_rfl)) (fun _ _ _ h => h) (Or.inl ⟨by rfl, ?_⟩) hHeld ?_ ?_
   rotate_left
   ·rintro w' ⟨s0, s1, s2⟩
    go_simp
    with_reducible rfl
   rotate_left
   ·simp only [Act.put, List.setIfInBounds_toArray, List.set_cons_zero, List.set_cons_succ, i64_w, i32_w]
    rfl
   refine take_ (i := 7) (N := some 13) (v := ?_) (a' := ?_) #[true, true, true, false, true, true, true, true, false, false, false] rfl rfl (take_ofW HT_.out HW_.out (by kernel_rfl)) (fun _ _ _ h => h) (Or.inl ⟨by rfl, ?_⟩) hHeld ?_ ?_
   rotate_left
   ·rintro w' ⟨s0, s1, s2⟩
    go_simp
    with_reducible rfl
   rotate_left
   ·simp only [Act.put, List.setIfInBounds_toArray, List.set_cons_zero, List.set_cons_succ, i64_w, i32_w]
    rfl
   refine join_ (σ := Value × Nat) 1 #[true, true, true, true, true, true, true, true, true, true, false] (fun s_ => [(9, s_.1), (3, .pointer (some ⟨s_.2, 0, none⟩)), (14, .agg #[s_.1, .int .i64 a0_2, .int .i64 a0_1])]) (fun s_ w' => (w'.cell? ⟨gb770, 0, none⟩ = some (.slice A0_0 l0_0.length c0_0) ∧ w'.cell? ⟨gb770, 1, none⟩ = some (.int .i64 a0_1) ∧ w'.cell? ⟨gb770, 2, none⟩ = some (.int .i64 a0_2)) ∧ (Kd.R k29 29 w' w.heap.size (fun _ => True) s_.1 y772) ∧ (w'.heap[gb770]? = some (.cells #[.slice A0_0 l0_0.length c0_0, .int .i64 a0_1, .int .i64 a0_2] 110 (0, 0))) ∧ (w'.heap[gb771]? = some (.cells #[.slice none 0 0, .int .i64 0, .int .i64 0] 110 (0, 0))) ∧ (w'.heap[s_.2]? = some (.cells #[.slice none 0 0, .int .i64 0, .int .i64 0] 110 (0, 0))) ∧ (w.heap.size ≤ s_.2) ∧ (w.heap.size ≤ s_.2) ∧ (gb770 ≠ s_.2) ∧ (s_.2 ≠ gb770) ∧ (gb771 ≠ s_.2) ∧ (s_.2 ≠ gb771) ∧ (Below w.heap.size w w')) ?_ ?_
   rotate_left
   ·intro hCont
    refine two_ (i := 3) (j := 9) (Ni := some 9) (Nj := some 3) #[true, true, true, true, true, true, true, true, false, false, false] #[true, true, true, false, true, true, true, true, false, true, false] rfl rfl rfl rfl (two_of HT_.out (by kernel_rfl)) (by decide) (by decide) (fun K hK => ?_) (fun K hK => ?_)
    ·skip
     refine R_make0_step k29 _ 29 (by rfl) (N := 9) rfl 33 _ _ rfl (l0_0.length : Int) rfl rfl Tryz.underlying33 (.agg #[(.int .i64 0), (.int .i64 0), (.string ⟨#[]⟩), (.bool false), (.int .i64 0)]) 48 info29 rfl (by decide) (by omega) z29 (ok := fun _ => True) (okp := fun _ => True) (k29_mkM _ _ _ z29 ) (fun _ hk => hk) trivial (of_decide_eq_true (by first | (with_reducible assumption) | assumption)) (Nat.le_trans (Nat.mul_le_mul_right _ (of_decide_eq_true (by first | (with_reducible assumption) | assumption) : (l0_0.length : Int).toNat ≤ 5864062014805)) (by omega)) (Below.refl _ _) (Nat.le_refl _) ?_
     intro v773 w7 ho8 hb hg_ hnew_
     clear hg_ hnew_
     (first | rw [← Ny772.out] at ho8 | (simp only [Int.reduceToNat] at ho8; rw [← Ny772.out] at ho8))
     have n0_ := Aside0.mk (Kd.R_lower ho8 (bz))
     have n1_ := (bb BK770 hb)
     have n2_ := (bb BK771 hb)
     have n3_ := (bs hb)
     clear BK770
     clear BK771
     clear HB
     have HO774 := n0_
     have BK770 := n1_
     have BK771 := n2_
     have HB := n3_
     clear n0_ n1_ n2_ n3_
     clear hb ho8
     obtain ⟨Ao9, co9, eo9⟩ := Kd.R_slice HO774.out
     (first | subst eo9 | (injection eo9 with f1_ f2_ f3_; have f4_ := f1_.symm; have f5_ := f3_.symm; clear f1_ f2_ f3_; subst f4_; subst f5_))
     refine hK.out _ _ ⟨(blk_cell BK770.out 0).trans rfl, (blk_cell BK770.out 1).trans rfl, (blk_cell BK770.out 2).trans rfl⟩ (fun hHeld => ?_)
     clear hK K
     refine norm_ (a' := ?_) ?_ ?_
     rotate_left
     ·show Act.put _ (some 9) _ = _
      simp only [Act.put, List.setIfInBounds_toArray, List.set_cons_zero, List.set_cons_succ, i64_w, i32_w]
      rfl
     refine pure_ (i := 8) (N := some 14) (v := ?_) (a' := ?_) #[true, true, true, true, true, true, true, true, true, false, false] rfl rfl (any_of HT_.out (by kernel_rfl)) (fun _ _ _ h => h) (Or.inl ⟨by rfl, ?_⟩) ?_ ?_
     rotate_left
     ·intro w'
      go_simp
      with_reducible rfl
     rotate_left
     ·simp only [Act.put, List.setIfInBounds_toArray, List.set_cons_zero, List.set_cons_succ, i64_w, i32_w]
      rfl
     refine one_ (i := 9) (N := some 3) #[true, true, true, true, true, true, true, true, true, true, false] rfl rfl (one_of HT_.out (by kernel_rfl)) (by decide) (fun K hK => ?_)
     refine box_step ?hg (N := 3) ?hd (cs := #[.slice none 0 0, .int .i64 0, .int .i64 0]) (t := 110) ?hr ?_; (case hd => rfl); (case hg => rfl); (case hr => first | (go_simp; done) | (go_simp; rfl))
     intro gb775 hg w10 hbox hb
     have n0_ := Aside0.mk (Kd.R_below (by (with_reducible repeat (first | apply Kd.R_alloc | apply Kd.R_drewN | apply Kd.R_drew)); exact HO774.out) hb)
     have n1_ := (bb BK770 hb)
     have n2_ := (bb BK771 hb)
     have n3_ := (bs hb)
     have n4_ := Aside0.mk (hbox)
     have n5_ := (bw hg)
     have n6_ := (bw hg)
     have n7_ := Aside0.mk ((by rw [hg]; exact Nat.ne_of_lt (blk_lt (g := gb770) (o := .cells #[.slice A0_0 l0_0.length c0_0, .int .i64 a0_1, .int .i64 a0_2] 110 (0, 0)) (by (with_reducible repeat (first | refine blk_drewN ?_ _ | refine blk_drew ?_ | refine blk_alloc ?_ _)); exact BK770.out)) : gb770 ≠ gb775))
     have n8_ := Aside0.mk ((by rw [hg]; exact Nat.ne_of_gt (blk_lt (g := gb770) (o := .cells #[.slice A0_0 l0_0.length c0_0, .int .i64 a0_1, .int .i64 a0_2] 110 (0, 0)) (by (with_reducible repeat (first | refine blk_drewN ?_ _ | refine blk_drew ?_ | refine blk_alloc ?_ _)); exact BK770.out)) : gb775 ≠ gb770))
     have n9_ := Aside0.mk ((by rw [hg]; exact Nat.ne_of_lt (blk_lt (g := gb771) (o := .cells #[.slice none 0 0, .int .i64 0, .int .i64 0] 110 (0, 0)) (by (with_reducible repeat (first | refine blk_drewN ?_ _ | refine blk_drew ?_ | refine blk_alloc ?_ _)); exact BK771.out)) : gb771 ≠ gb775))
     have n10_ := Aside0.mk ((by rw [hg]; exact Nat.ne_of_gt (blk_lt (g := gb771) (o := .cells #[.slice none 0 0, .int .i64 0, .int .i64 0] 110 (0, 0)) (by (with_reducible repeat (first | refine blk_drewN ?_ _ | refine blk_drew ?_ | refine blk_alloc ?_ _)); exact BK771.out)) : gb775 ≠ gb771))
     clear HO774
     clear BK770
     clear BK771
     clear HB
     have HO774 := n0_
     have BK770 := n1_
     have BK771 := n2_
     have HB := n3_
     have BK775 := n4_
     have GW775 := n5_
     have GE775 := n6_
     have NB770_775 := n7_
     have NB775_770 := n8_
     have NB771_775 := n9_
     have NB775_771 := n10_
     clear n0_ n1_ n2_ n3_ n4_ n5_ n6_ n7_ n8_ n9_ n10_
     clear hb hbox hg
     refine hK.out _ _ ⟨(blk_cell BK770.out 0).trans rfl, (blk_cell BK770.out 1).trans rfl, (blk_cell BK770.out 2).trans rfl⟩ (fun hHeld => ?_)
     clear hK K
     refine norm_ (a' := ?_) ?_ ?_
     rotate_left
     ·show Act.put _ (some 3) _ = _
      simp only [Act.put, List.setIfInBounds_toArray, List.set_cons_zero, List.set_cons_succ, i64_w, i32_w]
      rfl
     exact norm_ (by simp only [putAll, Act.put, List.setIfInBounds_toArray, List.set_cons_zero, List.set_cons_succ]) (hCont (.slice Ao9 y772.length co9, gb775) _ ⟨hHeld, (by (with_reducible repeat (first | apply Kd.R_alloc | apply Kd.R_drewN | apply Kd.R_drew)); exact HO774.out), (by (with_reducible repeat (first | refine blk_drewN ?_ _ | refine blk_drew ?_ | refine blk_alloc ?_ _)); exact BK770.out), (by (with_reducible repeat (first | refine blk_drewN ?_ _ | refine blk_drew ?_ | refine blk_alloc ?_ _)); exact BK771.out), (by (with_reducible repeat (first | refine blk_drewN ?_ _ | refine blk_drew ?_ | refine blk_alloc ?_ _)); exact BK775.out), GW775.out, GE775.out, NB770_775.out, NB775_770.out, NB771_775.out, NB775_771.out, be⟩)
    ·skip
     refine box_step ?hg (N := 3) ?hd (cs := #[.slice none 0 0, .int .i64 0, .int .i64 0]) (t := 110) ?hr ?_; (case hd => rfl); (case hg => rfl); (case hr => first | (go_simp; done) | (go_simp; rfl))
     intro gb775 hg w7 hbox hb
     have n0_ := (bb BK770 hb)
     have n1_ := (bb BK771 hb)
     have n2_ := (bs hb)
     have n3_ := Aside0.mk (hbox)
     have n4_ := (bw hg)
     have n5_ := (bw hg)
     have n6_ := Aside0.mk ((by rw [hg]; exact Nat.ne_of_lt (blk_lt (g := gb770) (o := .cells #[.slice A0_0 l0_0.length c0_0, .int .i64 a0_1, .int .i64 a0_2] 110 (0, 0)) (by (with_reducible repeat (first | refine blk_drewN ?_ _ | refine blk_drew ?_ | refine blk_alloc ?_ _)); exact BK770.out)) : gb770 ≠ gb775))
     have n7_ := Aside0.mk ((by rw [hg]; exact Nat.ne_of_gt (blk_lt (g := gb770) (o := .cells #[.slice A0_0 l0_0.length c0_0, .int .i64 a0_1, .int .i64 a0_2] 110 (0, 0)) (by (with_reducible repeat (first | refine blk_drewN ?_ _ | refine blk_drew ?_ | refine blk_alloc ?_ _)); exact BK770.out)) : gb775 ≠ gb770))
     have n8_ := Aside0.mk ((by rw [hg]; exact Nat.ne_of_lt (blk_lt (g := gb771) (o := .cells #[.slice none 0 0, .int .i64 0, .int .i64 0] 110 (0, 0)) (by (with_reducible repeat (first | refine blk_drewN ?_ _ | refine blk_drew ?_ | refine blk_alloc ?_ _)); exact BK771.out)) : gb771 ≠ gb775))
     have n9_ := Aside0.mk ((by rw [hg]; exact Nat.ne_of_gt (blk_lt (g := gb771) (o := .cells #[.slice none 0 0, .int .i64 0, .int .i64 0] 110 (0, 0)) (by (with_reducible repeat (first | refine blk_drewN ?_ _ | refine blk_drew ?_ | refine blk_alloc ?_ _)); exact BK771.out)) : gb775 ≠ gb771))
     clear BK770
     clear BK771
     clear HB
     have BK770 := n0_
     have BK771 := n1_
     have HB := n2_
     have BK775 := n3_
     have GW775 := n4_
     have GE775 := n5_
     have NB770_775 := n6_
     have NB775_770 := n7_
     have NB771_775 := n8_
     have NB775_771 := n9_
     clear n0_ n1_ n2_ n3_ n4_ n5_ n6_ n7_ n8_ n9_
     clear hb hbox hg
     refine hK.out _ _ ⟨(blk_cell BK770.out 0).trans rfl, (blk_cell BK770.out 1).trans rfl, (blk_cell BK770.out 2).trans rfl⟩ (fun hHeld => ?_)
     clear hK K
     refine norm_ (a' := ?_) ?_ ?_
     rotate_left
     ·show Act.put _ (some 3) _ = _
      simp only [Act.put, List.setIfInBounds_toArray, List.set_cons_zero, List.set_cons_succ, i64_w, i32_w]
      rfl
     refine one_ (i := 3) (N := some 9) #[true, true, true, true, true, true, true, true, false, true, false] rfl rfl (one_of HT_.out (by kernel_rfl)) (by decide) (fun K hK => ?_)
     refine R_make0_step k29 _ 29 (by rfl) (N := 9) rfl 33 _ _ rfl (l0_0.length : Int) rfl rfl Tryz.underlying33 (.agg #[(.int .i64 0), (.int .i64 0), (.string ⟨#[]⟩), (.bool false), (.int .i64 0)]) 48 info29 rfl (by decide) (by omega) z29 (ok := fun _ => True) (okp := fun _ => True) (k29_mkM _ _ _ z29 ) (fun _ hk => hk) trivial (of_decide_eq_true (by first | (with_reducible assumption) | assumption)) (Nat.le_trans (Nat.mul_le_mul_right _ (of_decide_eq_true (by first | (with_reducible assumption) | assumption) : (l0_0.length : Int).toNat ≤ 5864062014805)) (by omega)) (Below.refl _ _) (Nat.le_refl _) ?_
     intro v773 w8 ho9 hb hg_ hnew_
     clear hg_ hnew_
     (first | rw [← Ny772.out] at ho9 | (simp only [Int.reduceToNat] at ho9; rw [← Ny772.out] at ho9))
     have n0_ := Aside0.mk (Kd.R_lower ho9 (bz))
     have n1_ := (bb BK770 hb)
     have n2_ := (bb BK771 hb)
     have n3_ := (bb BK775 hb)
     have n4_ := (bs hb)
     clear BK770
     clear BK771
     clear BK775
     clear HB
     have HO774 := n0_
     have BK770 := n1_
     have BK771 := n2_
     have BK775 := n3_
     have HB := n4_
     clear n0_ n1_ n2_ n3_ n4_
     clear hb ho9
     obtain ⟨Ao10, co10, eo10⟩ := Kd.R_slice HO774.out
     (first | subst eo10 | (injection eo10 with f1_ f2_ f3_; have f4_ := f1_.symm; have f5_ := f3_.symm; clear f1_ f2_ f3_; subst f4_; subst f5_))
     refine hK.out _ _ ⟨(blk_cell BK770.out 0).trans rfl, (blk_cell BK770.out 1).trans rfl, (blk_cell BK770.out 2).trans rfl⟩ (fun hHeld => ?_)
     clear hK K
     refine norm_ (a' := ?_) ?_ ?_
     rotate_left
     ·show Act.put _ (some 9) _ = _
      simp only [Act.put, List.setIfInBounds_toArray, List.set_cons_zero, List.set_cons_succ, i64_w, i32_w]
      rfl
     refine pure_ (i := 8) (N := some 14) (v := ?_) (a' := ?_) #[true, true, true, true, true, true, true, true, true, true, false] rfl rfl (any_of HT_.out (by kernel_rfl)) (fun _ _ _ h => h) (Or.inl ⟨by rfl, ?_⟩) ?_ ?_
     rotate_left
     ·intro w'
      go_simp
      with_reducible rfl
     rotate_left
     ·simp only [Act.put, List.setIfInBounds_toArray, List.set_cons_zero, List.set_cons_succ, i64_w, i32_w]
      rfl
     exact norm_ (by simp only [putAll, Act.put, List.setIfInBounds_toArray, List.set_cons_zero, List.set_cons_succ]) (hCont (.slice Ao10 y772.length co10, gb775) _ ⟨hHeld, (by (with_reducible repeat (first | apply Kd.R_alloc | apply Kd.R_drewN | apply Kd.R_drew)); exact HO774.out), (by (with_reducible repeat (first | refine blk_drewN ?_ _ | refine blk_drew ?_ | refine blk_alloc ?_ _)); exact BK770.out), (by (with_reducible repeat (first | refine blk_drewN ?_ _ | refine blk_drew ?_ | refine blk_alloc ?_ _)); exact BK771.out), (by (with_reducible repeat (first | refine blk_drewN ?_ _ | refine blk_drew ?_ | refine blk_alloc ?_ _)); exact BK775.out), GW775.out, GE775.out, NB770_775.out, NB775_770.out, NB771_775.out, NB775_771.out, be⟩)
   rintro ⟨v773, gb775⟩ w11 ⟨hS_, h0_, h1_, h2_, h3_, h4_, h5_, h6_, h7_, h8_, h9_, h10_⟩
   have n0_ : Aside0 (Kd.R k29 29 w11 w.heap.size (fun _ => True) v773 y772) := ⟨h0_⟩
   have n1_ : Aside0 (w11.heap[gb770]? = some (.cells #[.slice A0_0 l0_0.length c0_0, .int .i64 a0_1, .int .i64 a0_2] 110 (0, 0))) := ⟨h1_⟩
   have n2_ : Aside0 (w11.heap[gb771]? = some (.cells #[.slice none 0 0, .int .i64 0, .int .i64 0] 110 (0, 0))) := ⟨h2_⟩
   have n3_ : Aside0 (w11.heap[gb775]? = some (.cells #[.slice none 0 0, .int .i64 0, .int .i64 0] 110 (0, 0))) := ⟨h3_⟩
   have n4_ : Aside0 (w.heap.size ≤ gb775) := ⟨h4_⟩
   have n5_ : Aside0 (w.heap.size ≤ gb775) := ⟨h5_⟩
   have n6_ : Aside0 (gb770 ≠ gb775) := ⟨h6_⟩
   have n7_ : Aside0 (gb775 ≠ gb770) := ⟨h7_⟩
   have n8_ : Aside0 (gb771 ≠ gb775) := ⟨h8_⟩
   have n9_ : Aside0 (gb775 ≠ gb771) := ⟨h9_⟩
   have n10_ : Aside0 (Below w.heap.size w w11) := ⟨h10_⟩
   clear BK770
   clear BK771
   clear HB
   clear h0_ h1_ h2_ h3_ h4_ h5_ h6_ h7_ h8_ h9_ h10_
   have HO774 := n0_
   have BK770 := n1_
   have BK771 := n2_
   have BK775 := n3_
   have GW775 := n4_
   have GE775 := n5_
   have NB770_775 := n6_
   have NB775_770 := n7_
   have NB771_775 := n8_
   have NB775_771 := n9_
   have HB := n10_
   clear n0_ n1_ n2_ n3_ n4_ n5_ n6_ n7_ n8_ n9_ n10_
   have hHeld : w11.cell? ⟨gb770, 0, none⟩ = some (.slice A0_0 l0_0.length c0_0) ∧ w11.cell? ⟨gb770, 1, none⟩ = some (.int .i64 a0_1) ∧ w11.cell? ⟨gb770, 2, none⟩ = some (.int .i64 a0_2) := hS_
   obtain ⟨Ao12, co12, eo12⟩ := Kd.R_slice HO774.out
   (first | subst eo12 | (injection eo12 with f1_ f2_ f3_; have f4_ := f1_.symm; have f5_ := f3_.symm; clear f1_ f2_ f3_; subst f4_; subst f5_))
   refine norm_ (a' := ?_) ?_ ?_
   rotate_left
   ·simp only [putAll, Act.put, List.setIfInBounds_toArray, List.set_cons_zero, List.set_cons_succ]
    rfl
   refine one_ (i := 10) (N := none) #[true, true, true, true, true, true, true, true, true, true, true] rfl rfl (one_of HT_.out (by kernel_rfl)) (by decide) (fun K hK => ?_)
   have hs13 : w11.cell? ⟨gb775, 0, none⟩ = some (.slice none 0 0) := (blk_cell BK775.out 0).trans rfl
   have hfs13 := blk_frozen BK775.out 0
   have hns13_0 := NB770_775.out
   have hns13_1 := NB771_775.out
   have hms13_0 := NB775_770.out
   have hms13_1 := NB775_771.out
   have hs14 : w11.cell? ⟨gb775, 1, none⟩ = some (.int .i64 0) := (blk_cell BK775.out 1).trans rfl
   have hfs14 := blk_frozen BK775.out 1
   have hns14_0 := NB770_775.out
   have hns14_1 := NB771_775.out
   have hms14_0 := NB775_770.out
   have hms14_1 := NB775_771.out
   have hs15 : w11.cell? ⟨gb775, 2, none⟩ = some (.int .i64 0) := (blk_cell BK775.out 2).trans rfl
   have hfs15 := blk_frozen BK775.out 2
   have hns15_0 := NB770_775.out
   have hns15_1 := NB771_775.out
   have hms15_0 := NB775_770.out
   have hms15_1 := NB775_771.out
   refine skip_ (w1 := ?_) (by rfl) rfl ?_ ?_
   rotate_left
   ·go_simp
    rfl
   refine hK.out _ _ ⟨((cell_far (p := ⟨gb775, _, none⟩) NB770_775.out _).trans (((cell_far (p := ⟨gb775, _, none⟩) NB770_775.out _).trans (((cell_far (p := ⟨gb775, _, none⟩) NB770_775.out _).trans (hHeld.1)))))), ((cell_far (p := ⟨gb775, _, none⟩) NB770_775.out _).trans (((cell_far (p := ⟨gb775, _, none⟩) NB770_775.out _).trans (((cell_far (p := ⟨gb775, _, none⟩) NB770_775.out _).trans (hHeld.2.1)))))), ((cell_far (p := ⟨gb775, _, none⟩) NB770_775.out _).trans (((cell_far (p := ⟨gb775, _, none⟩) NB770_775.out _).trans (((cell_far (p := ⟨gb775, _, none⟩) NB770_775.out _).trans (hHeld.2.2))))))⟩ (fun hHeld => ?_)
   clear hK K
   refine done_ (done_of HT_.out (by kernel_rfl)) ?_
   have hnb16 := NB770_771.out
   have hnc16 := NB771_770.out
   have hnb17 := NB770_775.out
   have hnc17 := NB775_770.out
   have hcz18_0 : w11.cell? ⟨gb770, 0, none⟩ = some (.slice A0_0 l0_0.length c0_0) := (blk_cell BK770.out 0).trans rfl
   have hcz18_1 : w11.cell? ⟨gb770, 1, none⟩ = some (.int .i64 a0_1) := (blk_cell BK770.out 1).trans rfl
   have hcz18_2 : w11.cell? ⟨gb770, 2, none⟩ = some (.int .i64 a0_2) := (blk_cell BK770.out 2).trans rfl
   have hfz18_0 := blk_frozen BK770.out 0
   have hfz18_1 := blk_frozen BK770.out 1
   have hfz18_2 := blk_frozen BK770.out 2
   try go_wp2
   go_loopg [17] k (fun kq v17 w' => ∃ (x17_1 : Int) (x776000_1 : List (S29)) (u776000 : Value), v17 = .int .i64 x17_1 ∧ Aside0 (looks_table_turned.l0 kq a0_2 x17_1 l0_0 a0_1 a0_2 x776000_1 a0_2 a0_1 = some (r1, r2, r3)) ∧ Aside0 (kq ≤ k) ∧ Aside0 (Kd.R k29 29 w' w.heap.size (fun _ => True) u776000 x776000_1) ∧ Aside0 (w'.heap[gb770]? = some (.cells #[(.slice A0_0 l0_0.length c0_0), .int .i64 a0_1, .int .i64 a0_2] 110 (0, 0))) ∧ Aside0 (w'.heap[gb771]? = some (.cells #[(.slice none 0 0), .int .i64 0, .int .i64 0] 110 (0, 0))) ∧ Aside0 (w'.heap[gb775]? = some (.cells #[u776000, .int .i64 a0_2, .int .i64 a0_1] 110 (0, 0))) ∧ Aside0 (Below w.heap.size w w'))
   case atStart => exact ⟨(0), (y772), (.slice Ao12 y772.length co12), (by first | rfl | (simp; done) | (simp [*]; done)), H', ⟨Nat.le_refl _⟩, ⟨by (with_reducible repeat (first | apply Kd.R_alloc | apply Kd.R_drewN | apply Kd.R_drew)); exact Kd.R_mono (Kd.R_far (p := ⟨gb775, 2, none⟩) (Kd.R_far (p := ⟨gb775, 1, none⟩) (Kd.R_far (p := ⟨gb775, 0, none⟩) (Kd.R_types HO774.out BK775.out (by decide)) (fun _ hk => hk.2) (.slice Ao12 y772.length co12)) (fun _ hk => hk.2) (.int .i64 a0_2)) (fun _ hk => hk.2) (.int .i64 a0_1)) (fun _ hk => trivial)⟩, ⟨by (with_reducible repeat (first | refine blk_drewN ?_ _ | refine blk_drew ?_ | refine blk_alloc ?_ _)); refine blk_far ?_ NB770_775.out _; (with_reducible repeat (first | refine blk_drewN ?_ _ | refine blk_drew ?_ | refine blk_alloc ?_ _)); refine blk_far ?_ NB770_775.out _; (with_reducible repeat (first | refine blk_drewN ?_ _ | refine blk_drew ?_ | refine blk_alloc ?_ _)); refine blk_far ?_ NB770_775.out _; (with_reducible repeat (first | refine blk_drewN ?_ _ | refine blk_drew ?_ | refine blk_alloc ?_ _)); exact BK770.out⟩, ⟨by (with_reducible repeat (first | refine blk_drewN ?_ _ | refine blk_drew ?_ | refine blk_alloc ?_ _)); refine blk_far ?_ NB771_775.out _; (with_reducible repeat (first | refine blk_drewN ?_ _ | refine blk_drew ?_ | refine blk_alloc ?_ _)); refine blk_far ?_ NB771_775.out _; (with_reducible repeat (first | refine blk_drewN ?_ _ | refine blk_drew ?_ | refine blk_alloc ?_ _)); refine blk_far ?_ NB771_775.out _; (with_reducible repeat (first | refine blk_drewN ?_ _ | refine blk_drew ?_ | refine blk_alloc ?_ _)); exact BK771.out⟩, ⟨by (with_reducible repeat (first | refine blk_drewN ?_ _ | refine blk_drew ?_ | refine blk_alloc ?_ _)); refine blk_put (cs := #[.slice Ao12 y772.length co12, .int .i64 a0_2, .int .i64 0]) ?_ 2 _ rfl; (with_reducible repeat (first | refine blk_drewN ?_ _ | refine blk_drew ?_ | refine blk_alloc ?_ _)); refine blk_put (cs := #[.slice Ao12 y772.length co12, .int .i64 0, .int .i64 0]) ?_ 1 _ rfl; (with_reducible repeat (first | refine blk_drewN ?_ _ | refine blk_drew ?_ | refine blk_alloc ?_ _)); refine blk_put (cs := #[.slice none 0 0, .int .i64 0, .int .i64 0]) ?_ 0 _ rfl; (with_reducible repeat (first | refine blk_drewN ?_ _ | refine blk_drew ?_ | refine blk_alloc ?_ _)); exact BK775.out⟩, ⟨by repeat (first | (with_reducible first | exact HB.out | apply below_alloc | apply pw_below_drewN | apply below_drew1 | refine below_set ?_ GE770.out | refine below_set ?_ GE771.out | refine below_set ?_ GE775.out) | exact HB.out)⟩⟩
   case round =>
    clear H'
    try clear c1
    try clear c2
    try clear c2b0
    try clear c2b1
    try clear p2
    try clear c3
    try clear c3b0
    try clear c3b1
    try clear c8
    try clear c16
    try clear c17
    try clear hcz18_0
    try clear hcz18_1
    try clear hcz18_2
    try clear hfz18_0
    try clear hfz18_1
    try clear hfz18_2
    obtain ⟨x17_1, x776000_1, u776000, rfl, HA, HK1, HO_776000, BK770, BK771, BK775, HB⟩ := hrel
    cases gk with
    | zero => exact absurd HA.out (by simp [looks_table_turned.l0])
    | succ k1 =>
     have H := HA.out
     clear HA
     simp only [looks_table_turned.l0] at H
     by_cases c19 : x17_1 < a0_2
     ·rw [if_pos c19] at H
      have c19b0 : decide (x17_1 < a0_2) = true := decide_eq_true c19
      clear c19
      have H' := Aside0.mk H
      clear H
      have hnb20 := NB770_771.out
      have hnc20 := NB771_770.out
      have hnb21 := NB770_775.out
      have hnc21 := NB775_770.out
      have hcz22_0 : wr.cell? ⟨gb770, 0, none⟩ = some (.slice A0_0 l0_0.length c0_0) := (blk_cell BK770.out 0).trans rfl
      have hcz22_1 : wr.cell? ⟨gb770, 1, none⟩ = some (.int .i64 a0_1) := (blk_cell BK770.out 1).trans rfl
      have hcz22_2 : wr.cell? ⟨gb770, 2, none⟩ = some (.int .i64 a0_2) := (blk_cell BK770.out 2).trans rfl
      have hfz22_0 := blk_frozen BK770.out 0
      have hfz22_1 := blk_frozen BK770.out 1
      have hfz22_2 := blk_frozen BK770.out 2
      go_wp2
      go_loopg [22] k1 (fun kq v22 w' => ∃ (x22_2 : Int) (x776000_2 : List (S29)) (u776000 : Value), v22 = .int .i64 x22_2 ∧ Aside0 (looks_table_turned.l1 kq x17_1 a0_2 x17_1 a0_1 x22_2 l0_0 a0_1 a0_2 x776000_2 a0_2 a0_1 = some (r1, r2, r3)) ∧ Aside0 (kq ≤ k1) ∧ Aside0 (Kd.R k29 29 w' w.heap.size (fun _ => True) u776000 x776000_2) ∧ Aside0 (w'.heap[gb770]? = some (.cells #[(.slice A0_0 l0_0.length c0_0), .int .i64 a0_1, .int .i64 a0_2] 110 (0, 0))) ∧ Aside0 (w'.heap[gb771]? = some (.cells #[(.slice none 0 0), .int .i64 0, .int .i64 0] 110 (0, 0))) ∧ Aside0 (w'.heap[gb775]? = some (.cells #[u776000, .int .i64 a0_2, .int .i64 a0_1] 110 (0, 0))) ∧ Aside0 (Below w.heap.size w w'))
      case atStart => exact ⟨(0), (x776000_1), (u776000), (by first | rfl | (simp; done) | (simp [*]; done)), H', ⟨Nat.le_refl _⟩, ⟨by (with_reducible repeat (first | apply Kd.R_alloc | apply Kd.R_drewN | apply Kd.R_drew)); exact HO_776000.out⟩, ⟨by (with_reducible repeat (first | refine blk_drewN ?_ _ | refine blk_drew ?_ | refine blk_alloc ?_ _)); exact BK770.out⟩, ⟨by (with_reducible repeat (first | refine blk_drewN ?_ _ | refine blk_drew ?_ | refine blk_alloc ?_ _)); exact BK771.out⟩, ⟨by (with_reducible repeat (first | refine blk_drewN ?_ _ | refine blk_drew ?_ | refine blk_alloc ?_ _)); exact BK775.out⟩, ⟨by repeat (first | (with_reducible first | exact HB.out | apply below_alloc | apply pw_below_drewN | apply below_drew1 | refine below_set ?_ GE770.out | refine below_set ?_ GE771.out | refine below_set ?_ GE775.out) | exact HB.out)⟩⟩
      case round =>
       clear H'
       try clear c1
       try clear c2
       try clear c2b0
       try clear c2b1
       try clear p2
       try clear c3
       try clear c3b0
       try clear c3b1
       try clear c8
       try clear c16
       try clear c17
       try clear c19
       try clear c19b0
       try clear c20
       try clear c21
       try clear hcz18_0
       try clear hcz18_1
       try clear hcz18_2
       try clear hcz22_0
       try clear hcz22_1
       try clear hcz22_2
       try clear hfz18_0
       try clear hfz18_1
       try clear hfz18_2
       try clear hfz22_0
       try clear hfz22_1
       try clear hfz22_2
       try clear p2
       obtain ⟨x22_2, x776000_2, u776000, rfl, HA, HK2, HO_776000, BK770, BK771, BK775, HB⟩ := hrel
       cases gk with
       | zero => exact absurd HA.out (by simp [looks_table_turned.l1])
       | succ k2 =>
        have H := HA.out
        clear HA
        simp only [looks_table_turned.l1] at H
        by_cases c23 : x22_2 < a0_1
        ·rw [if_pos c23] at H
         have c23b0 : decide (x22_2 < a0_1) = true := decide_eq_true c23
         clear c23
         obtain ⟨ji24, hji24⟩ : ∃ j_ : Int, (wrap64 ((wrap64 (x22_2 * a0_2)) + x17_1)) = j_ := ⟨_, rfl⟩
         replace H : (if 0 ≤ (ji24) then (if (ji24) < (l0_0.length : Int) then (if x776000_2.length < 2932031007402 then (looks_table_turned.l1 k2 x17_1 a0_2 x17_1 a0_1 (wrap64 (x22_2 + 1)) l0_0 a0_1 a0_2 (x776000_2 ++ [(⟨(rd_T29 l0_0 (ji24)).f0, (rd_T29 l0_0 (ji24)).f1, (rd_T29 l0_0 (ji24)).f2, (rd_T29 l0_0 (ji24)).f3, (rd_T29 l0_0 (ji24)).f4⟩ : S29)]) a0_2 a0_1) else (none)) else (none)) else (none)) = some (r1, r2, r3) := by first | (rw [hji24] at H; exact H) | (simp only [hji24] at H ⊢; exact H)
         have hji24w : (IntKind.i64.wrap ((wrap64 (x22_2 * a0_2)) + x17_1)) = ji24 := (i64_w _).trans hji24
         by_cases c25 : 0 ≤ (ji24)
         ·rw [if_pos c25] at H
          have c25b0 : decide (0 ≤ (ji24)) = true := decide_eq_true c25
          clear c25
          by_cases c26 : (ji24) < (l0_0.length : Int)
          ·rw [if_pos c26] at H
           have c26b0 : decide ((ji24) < (l0_0.length : Int)) = true := decide_eq_true c26
           clear c26
           by_cases c27 : x776000_2.length < 2932031007402
           ·rw [if_pos c27] at H
            have LMc27 := Aside0.mk c27
            clear c27
            obtain ⟨y777, hy777⟩ : ∃ y_ : List (S29), y_ = (x776000_2 ++ [(⟨(rd_T29 l0_0 (ji24)).f0, (rd_T29 l0_0 (ji24)).f1, (rd_T29 l0_0 (ji24)).f2, (rd_T29 l0_0 (ji24)).f3, (rd_T29 l0_0 (ji24)).f4⟩ : S29)]) := ⟨_, rfl⟩
            replace H : (looks_table_turned.l1 k2 x17_1 a0_2 x17_1 a0_1 (wrap64 (x22_2 + 1)) l0_0 a0_1 a0_2 y777 a0_2 a0_1) = some (r1, r2, r3) := by first | (rw [hy777]; with_reducible exact H) | (have H2_ := (Option.bind_some _ _).symm.trans H; rw [hy777]; with_reducible exact H2_) | (have H2_ := (Option.bind_some _ _).symm.trans H; with_reducible exact H2_) | with_reducible exact H | (rw [hy777]; exact H) | exact H
            have Ny777 := Aside0.mk hy777
            clear hy777
            have H' := Aside0.mk H
            clear H
            try go_wp2
            have n0_ := Aside0.mk (Kd.R_drew HO_776000.out)
            have n1_ := Aside0.mk (blk_drew BK770.out)
            have n2_ := Aside0.mk (blk_drew BK771.out)
            have n3_ := Aside0.mk (blk_drew BK775.out)
            have n4_ := Aside0.mk (below_drew1 HB.out)
            clear HO_776000
            clear BK770
            clear BK771
            clear BK775
            clear HB
            have HO_776000 := n0_
            have BK770 := n1_
            have BK771 := n2_
            have BK775 := n3_
            have HB := n4_
            clear n0_ n1_ n2_ n3_ n4_
            have p776 : 0 ≤ ((ji24) : Int) := of_decide_eq_true (by first | (with_reducible assumption) | assumption)
            have q776 : (ji24) < (l0_0.length : Int) := of_decide_eq_true (by first | (with_reducible assumption) | assumption)
            obtain ⟨ad776, e776, hx776_0, hx776_1, hx776_2, hx776_3, hx776_4⟩ := at_T29 HR0_0.out (ji24) p776 q776
            have hw776_4 := hx776_4
            have hw776_3 := hx776_3
            have hw776_2 := hx776_2
            have hw776_1 := hx776_1
            have hw776_0 := hx776_0
            cases e776
            replace hx776_0 := (HB.out.cell (World.block_lt_of_cell? w _ hx776_0)).trans hx776_0
            replace hx776_1 := (HB.out.cell (World.block_lt_of_cell? w _ hx776_1)).trans hx776_1
            replace hx776_2 := (HB.out.cell (World.block_lt_of_cell? w _ hx776_2)).trans hx776_2
            replace hx776_3 := (HB.out.cell (World.block_lt_of_cell? w _ hx776_3)).trans hx776_3
            replace hx776_4 := (HB.out.cell (World.block_lt_of_cell? w _ hx776_4)).trans hx776_4
            replace p776 := eq_true p776
            replace q776 := eq_true q776
            refine start_ (n := 16) (S := fun w' => w'.cell? ⟨gb775, 0, none⟩ = some (u776000) ∧ w'.cell? ⟨gb775, 1, none⟩ = some (.int .i64 a0_2) ∧ w'.cell? ⟨gb775, 2, none⟩ = some (.int .i64 a0_1) ∧ w'.cell? ⟨gb770, 0, none⟩ = some (.slice (some ad776) l0_0.length c0_0) ∧ w'.cell? ⟨gb770, 1, none⟩ = some (.int .i64 a0_1) ∧ w'.cell? ⟨gb770, 2, none⟩ = some (.int .i64 a0_2) ∧ w'.cell? (ad776.add (((ji24)).toNat * 5)) = some (.int .i64 ((rd_T29 l0_0 (ji24)).f0)) ∧ w'.cell? ⟨(ad776.add (((ji24)).toNat * 5)).block, (ad776.add (((ji24)).toNat * 5)).off + 1, none⟩ = some (.int .i64 ((rd_T29 l0_0 (ji24)).f1)) ∧ w'.cell? ⟨(ad776.add (((ji24)).toNat * 5)).block, (ad776.add (((ji24)).toNat * 5)).off + 2, none⟩ = some (.string ((rd_T29 l0_0 (ji24)).f2)) ∧ w'.cell? ⟨(ad776.add (((ji24)).toNat * 5)).block, (ad776.add (((ji24)).toNat * 5)).off + 3, none⟩ = some (.bool ((rd_T29 l0_0 (ji24)).f3)) ∧ w'.cell? ⟨(ad776.add (((ji24)).toNat * 5)).block, (ad776.add (((ji24)).toNat * 5)).off + 4, none⟩ = some (.int .i64 ((rd_T29 l0_0 (ji24)).f4))) (ds := [15]) #[false, false, false, false, false, false, false, false, false, false, false, false, false, false, false, false] (by kernel_rfl) rfl rfl ⟨(blk_cell BK775.out 0).trans rfl, (blk_cell BK775.out 1).trans rfl, (blk_cell BK775.out 2).trans rfl, (blk_cell BK770.out 0).trans rfl, (blk_cell BK770.out 1).trans rfl, (blk_cell BK770.out 2).trans rfl, ((HB.out.cell (World.block_lt_of_cell? w _ hw776_0)).trans hw776_0), ((HB.out.cell (World.block_lt_of_cell? w _ hw776_1)).trans hw776_1), ((HB.out.cell (World.block_lt_of_cell? w _ hw776_2)).trans hw776_2), ((HB.out.cell (World.block_lt_of_cell? w _ hw776_3)).trans hw776_3), ((HB.out.cell (World.block_lt_of_cell? w _ hw776_4)).trans hw776_4)⟩ (fun hHeld => ?_); refine with_tabW looks_table_turned.tab8 looks_table_turned.bits8 (fun HT_ HW_ => ?_)
            generalize wr.drew = w28 at HO_776000 BK770 BK771 BK775 HB hx776_0 hx776_1 hx776_2 hx776_3 hx776_4 hHeld ⊢
            refine pure_ (i := 0) (N := some 25) (v := ?_) (a' := ?_) #[true, false, false, false, false, false, false, false, false, false, false, false, false, false, false, false] rfl rfl (any_of HT_.out (by kernel_rfl)) (fun _ _ _ h => h) (Or.inl ⟨by rfl, ?_⟩) ?_ ?_
            rotate_left
            ·intro w'
             go_simp
             with_reducible rfl
            rotate_left
            ·simp only [Act.put, List.setIfInBounds_toArray, List.set_cons_zero, List.set_cons_succ, i64_w, i32_w]
             rfl
            refine pure_ (i := 2) (N := some 27) (v := ?_) (a' := ?_) #[true, false, true, false, false, false, false, false, false, false, false, false, false, false, false, false] rfl rfl (any_of HT_.out (by kernel_rfl)) (fun _ _ _ h => h) (Or.inl ⟨by rfl, ?_⟩) ?_ ?_
            rotate_left
            ·intro w'
             go_simp
             with_reducible rfl
            rotate_left
            ·simp only [Act.put, List.setIfInBounds_toArray, List.set_cons_zero, List.set_cons_succ, i64_w, i32_w]
             rfl
            refine pure_ (i := 4) (N := some 29) (v := ?_) (a' := ?_) #[true, false, true, false, true, false, false, false, false, false, false, false, false, false, false, false] rfl rfl (any_of HT_.out (by kernel_rfl)) (fun _ _ _ h => h) (Or.inl ⟨by rfl, ?_⟩) ?_ ?_
            rotate_left
            ·intro w'
             go_simp
             with_reducible rfl
            rotate_left
            ·simp only [Act.put, List.setIfInBounds_toArray, List.set_cons_zero, List.set_cons_succ, i64_w, i32_w]
             rfl
            refine pure_ (i := 5) (N := some 30) (v := ?_) (a' := ?_) #[true, false, true, false, true, true, false, false, false, false, false, false, false, false, false, false] rfl rfl (any_of HT_.out (by kernel_rfl)) (fun _ _ _ h => h) (Or.inl ⟨by rfl, ?_⟩) ?_ ?_
            rotate_left
            ·intro w'
             go_simp
             with_reducible rfl
            rotate_left
            ·simp only [Act.put, List.setIfInBounds_toArray, List.set_cons_zero, List.set_cons_succ, i64_w, i32_w]
             rfl
            refine pure_ (i := 8) (N := some 33) (v := ?_) (a' := ?_) #[true, false, true, false, true, true, false, false, true, false, false, false, false, false, false, false] rfl rfl (any_of HT_.out (by kernel_rfl)) (fun _ _ _ h => h) (Or.inl ⟨by rfl, ?_⟩) ?_ ?_
            rotate_left
            ·intro w'
             go_simp
             with_reducible rfl
            rotate_left
            ·simp only [Act.put, List.setIfInBounds_toArray, List.set_cons_zero, List.set_cons_succ, i64_w, i32_w]
             rfl
            refine take_ (i := 1) (N := some 26) (v := ?_) (a' := ?_) #[true, true, true, false, true, true, false, false, true, false, false, false, false, false, false, false] rfl rfl (take_ofW HT_.out HW_.out (by kernel_rfl)) (fun _ _ _ h => h) (Or.inl ⟨by rfl, ?_⟩) hHeld ?_ ?_
            rotate_left
            ·rintro w' ⟨s0, s1, s2, s3, s4, s5, s6, s7, s8, s9, s10⟩
             go_simp
             with_reducible rfl
            rotate_left
            ·simp only [Act.put, List.setIfInBounds_toArray, List.set_cons_zero, List.set_cons_succ, i64_w, i32_w]
             rfl
            refine take_ (i := 3) (N := some 28) (v := ?_) (a' := ?_) #[true, true, true, true, true, true, false, false, true, false, false, false, false, false, false, false] rfl rfl (take_ofW HT_.out HW_.out (by kernel_rfl)) (fun _ _ _ h => h) (Or.inl ⟨by rfl, ?_⟩) hHeld ?_ ?_
            rotate_left
            ·rintro w' ⟨s0, s1, s2, s3, s4, s5, s6, s7, s8, s9, s10⟩
             go_simp
             with_reducible rfl
            rotate_left
            ·simp only [Act.put, List.setIfInBounds_toArray, List.set_cons_zero, List.set_cons_succ, i64_w, i32_w]
             rfl
            refine take_ (i := 6) (N := some 31) (v := ?_) (a' := ?_) #[true, true, true, true, true, true, true, false, true, false, false, false, false, false, false, false] rfl rfl (take_ofW HT_.out HW_.out (by kernel_rfl)) (fun _ _ _ h => h) (Or.inl ⟨by rfl, ?_⟩) hHeld ?_ ?_
            rotate_left
            ·rintro w' ⟨s0, s1, s2, s3, s4, s5, s6, s7, s8, s9, s10⟩
             go_simp
             with_reducible rfl
            rotate_left
            ·simp only [Act.put, List.setIfInBounds_toArray, List.set_cons_zero, List.set_cons_succ, i64_w, i32_w]
             rfl
            refine pure_ (i := 7) (N := some 32) (v := ?_) (a' := ?_) #[true, true, true, true, true, true, true, true, true, false, false, false, false, false, false, false] rfl rfl (any_of HT_.out (by kernel_rfl)) (fun _ _ _ h => h) (Or.inl ⟨by rfl, ?_⟩) ?_ ?_
            rotate_left
            ·intro w'
             go_simp
             with_reducible rfl
            rotate_left
            ·simp only [Act.put, List.setIfInBounds_toArray, List.set_cons_zero, List.set_cons_succ, i64_w, i32_w]
             rfl
            refine pure_ (i := 9) (N := some 34) (v := ?_) (a' := ?_) #[true, true, true, true, true, true, true, true, true, true, false, false, false, false, false, false] rfl rfl (any_of HT_.out (by kernel_rfl)) (fun _ _ _ h => h) (Or.inl ⟨by rfl, ?_⟩) ?_ ?_
            rotate_left
            ·intro w'
             go_simp
             with_reducible rfl
            rotate_left
            ·simp only [Act.put, List.setIfInBounds_toArray, List.set_cons_zero, List.set_cons_succ, i64_w, i32_w]
             rfl
            refine pure_ (i := 10) (N := some 35) (v := ?_) (a' := ?_) #[true, true, true, true, true, true, true, true, true, true, true, false, false, false, false, false] rfl rfl (any_of HT_.out (by kernel_rfl)) (fun _ _ _ h => h) (Or.inl ⟨by rfl, ?_⟩) ?_ ?_
            rotate_left
            ·intro w'
             go_simp
             with_reducible rfl
            rotate_left
            ·simp only [Act.put, List.setIfInBounds_toArray, List.set_cons_zero, List.set_cons_succ, i64_w, i32_w]
             rfl
            refine take_ (i := 11) (N := some 36) (v := ?_) (a' := ?_) #[true, true, true, true, true, true, true, true, true, true, true, true, false, false, false, false] rfl rfl (take_ofW HT_.out HW_.out (by kernel_rfl)) (fun _ _ _ h => h) (Or.inl ⟨by rfl, ?_⟩) hHeld ?_ ?_
            rotate_left
            ·rintro w' ⟨s0, s1, s2, s3, s4, s5, s6, s7, s8, s9, s10⟩
             go_simp
             with_reducible rfl
            rotate_left
            ·simp only [Act.put, List.setIfInBounds_toArray, List.set_cons_zero, List.set_cons_succ, i64_w, i32_w]
             rfl
            refine one_ (i := 12) (N := some 37) #[true, true, true, true, true, true, true, true, true, true, true, true, true, false, false, false] rfl rfl (one_of HT_.out (by kernel_rfl)) (by decide) (fun K hK => ?_)
            refine value_ (w1 := ?_) (v := ?_) (by rfl) rfl ?_ ?_
            rotate_left 2
            ·go_simp
             constructor
             ·rfl
             ·rfl
            refine hK.out _ _ ⟨(blk_cell (blk_alloc BK775.out _) 0).trans rfl, (blk_cell (blk_alloc BK775.out _) 1).trans rfl, (blk_cell (blk_alloc BK775.out _) 2).trans rfl, (blk_cell (blk_alloc BK770.out _) 0).trans rfl, (blk_cell (blk_alloc BK770.out _) 1).trans rfl, (blk_cell (blk_alloc BK770.out _) 2).trans rfl, (World.cell?_alloc_lt _ _ _ (World.block_lt_of_cell? _ _ (((HB.out.cell (World.block_lt_of_cell? w _ hw776_0)).trans hw776_0)))).trans (((HB.out.cell (World.block_lt_of_cell? w _ hw776_0)).trans hw776_0)), (World.cell?_alloc_lt _ _ _ (World.block_lt_of_cell? _ _ (((HB.out.cell (World.block_lt_of_cell? w _ hw776_1)).trans hw776_1)))).trans (((HB.out.cell (World.block_lt_of_cell? w _ hw776_1)).trans hw776_1)), (World.cell?_alloc_lt _ _ _ (World.block_lt_of_cell? _ _ (((HB.out.cell (World.block_lt_of_cell? w _ hw776_2)).trans hw776_2)))).trans (((HB.out.cell (World.block_lt_of_cell? w _ hw776_2)).trans hw776_2)), (World.cell?_alloc_lt _ _ _ (World.block_lt_of_cell? _ _ (((HB.out.cell (World.block_lt_of_cell? w _ hw776_3)).trans hw776_3)))).trans (((HB.out.cell (World.block_lt_of_cell? w _ hw776_3)).trans hw776_3)), (World.cell?_alloc_lt _ _ _ (World.block_lt_of_cell? _ _ (((HB.out.cell (World.block_lt_of_cell? w _ hw776_4)).trans hw776_4)))).trans (((HB.out.cell (World.block_lt_of_cell? w _ hw776_4)).trans hw776_4))⟩ (fun hHeld => ?_)
            clear hK K
            refine norm_ (a' := ?_) ?_ ?_
            rotate_left
            ·show Act.put _ (some 37) _ = _
             simp only [Act.put, List.setIfInBounds_toArray, List.set_cons_zero, List.set_cons_succ, i64_w, i32_w]
             rfl
            refine one_ (i := 13) (N := some 38) #[true, true, true, true, true, true, true, true, true, true, true, true, true, true, false, false] rfl rfl (one_of HT_.out (by kernel_rfl)) (by decide) (fun K hK => ?_)
            refine Kd.R_append_step k29 (w0 := w) w.heap.size (by rfl) (.tmp 26) (.tmp 37) 33 29 (.agg #[(.int .i64 0), (.int .i64 0), (.string ⟨#[]⟩), (.bool false), (.int .i64 0)]) 48 rfl Tryz.underlying33 info29 rfl (by decide) (by omega) u776000 x776000_2 (⟨(rd_T29 l0_0 (ji24)).f0, (rd_T29 l0_0 (ji24)).f1, (rd_T29 l0_0 (ji24)).f2, (rd_T29 l0_0 (ji24)).f3, (rd_T29 l0_0 (ji24)).f4⟩ : S29) [.int .i64 ((rd_T29 l0_0 (ji24)).f0), .int .i64 ((rd_T29 l0_0 (ji24)).f1), .string ((rd_T29 l0_0 (ji24)).f2), .bool ((rd_T29 l0_0 (ji24)).f3), .int .i64 ((rd_T29 l0_0 (ji24)).f4)] (fun _ => True) (fun _ => False) rfl rfl ?aP (fun _ hk => hk.elim) ?aF ?aO ?aB ?aS ?aL ?_
            (case aP => exact k29_mkM _ _ _ (⟨(rd_T29 l0_0 (ji24)).f0, (rd_T29 l0_0 (ji24)).f1, (rd_T29 l0_0 (ji24)).f2, (rd_T29 l0_0 (ji24)).f3, (rd_T29 l0_0 (ji24)).f4⟩ : S29))
            (case aB => exact be)
            (case aF => exact (fun _ _ => trivial))
            (case aO => exact (by (with_reducible repeat (first | apply Kd.R_alloc | apply Kd.R_drewN | apply Kd.R_drew)); exact HO_776000.out))
            (case aS => exact (bz))
            (case aL => have := LMc27.out; omega)
            intro v778 w29 ho hb hg hat
            rw [← Ny777.out] at ho
            have n0_ := Aside0.mk (blk_grown (g := gb770) (o := .cells #[.slice (some ad776) l0_0.length c0_0, .int .i64 a0_1, .int .i64 a0_2] 110 (0, 0)) (by (with_reducible repeat (first | refine blk_drewN ?_ _ | refine blk_drew ?_ | refine blk_alloc ?_ _)); exact BK770.out) hg (Kd.R_ne HO_776000.out BK770.out (by decide)))
            have n1_ := Aside0.mk (blk_grown (g := gb771) (o := .cells #[.slice none 0 0, .int .i64 0, .int .i64 0] 110 (0, 0)) (by (with_reducible repeat (first | refine blk_drewN ?_ _ | refine blk_drew ?_ | refine blk_alloc ?_ _)); exact BK771.out) hg (Kd.R_ne HO_776000.out BK771.out (by decide)))
            have n2_ := Aside0.mk (blk_grown (g := gb775) (o := .cells #[u776000, .int .i64 a0_2, .int .i64 a0_1] 110 (0, 0)) (by (with_reducible repeat (first | refine blk_drewN ?_ _ | refine blk_drew ?_ | refine blk_alloc ?_ _)); exact BK775.out) hg (Kd.R_ne HO_776000.out BK775.out (by decide)))
            have n3_ := Aside0.mk (hb)
            have n4_ := Aside0.mk (ho)
            clear BK770
            clear BK771
            clear BK775
            clear HB
            clear HO_776000
            have BK770 := n0_
            have BK771 := n1_
            have BK775 := n2_
            have HB := n3_
            have HO779 := n4_
            clear n0_ n1_ n2_ n3_ n4_
            clear ho hb hg hat
            obtain ⟨Ao30, co30, eo30⟩ := Kd.R_slice HO779.out
            (first | subst eo30 | (injection eo30 with f1_ f2_ f3_; have f4_ := f1_.symm; have f5_ := f3_.symm; clear f1_ f2_ f3_; subst f4_; subst f5_))
            refine hK.out _ _ ⟨(blk_cell BK775.out 0).trans rfl, (blk_cell BK775.out 1).trans rfl, (blk_cell BK775.out 2).trans rfl, (blk_cell BK770.out 0).trans rfl, (blk_cell BK770.out 1).trans rfl, (blk_cell BK770.out 2).trans rfl, ((HB.out.cell (World.block_lt_of_cell? w _ hw776_0)).trans hw776_0), ((HB.out.cell (World.block_lt_of_cell? w _ hw776_1)).trans hw776_1), ((HB.out.cell (World.block_lt_of_cell? w _ hw776_2)).trans hw776_2), ((HB.out.cell (World.block_lt_of_cell? w _ hw776_3)).trans hw776_3), ((HB.out.cell (World.block_lt_of_cell? w _ hw776_4)).trans hw776_4)⟩ (fun hHeld => ?_)
            clear hK K
            refine norm_ (a' := ?_) ?_ ?_
            rotate_left
            ·show Act.put _ (some 38) _ = _
             simp only [Act.put, List.setIfInBounds_toArray, List.set_cons_zero, List.set_cons_succ, i64_w, i32_w]
             rfl
            refine pure_ (i := 14) (N := some 39) (v := ?_) (a' := ?_) #[true, true, true, true, true, true, true, true, true, true, true, true, true, true, true, false] rfl rfl (any_of HT_.out (by kernel_rfl)) (fun _ _ _ h => h) (Or.inl ⟨by rfl, ?_⟩) ?_ ?_
            rotate_left
            ·intro w'
             go_simp
             with_reducible rfl
            rotate_left
            ·simp only [Act.put, List.setIfInBounds_toArray, List.set_cons_zero, List.set_cons_succ, i64_w, i32_w]
             rfl
            refine last_ (i := 15) (N := none) #[true, true, true, true, true, true, true, true, true, true, true, true, true, true, true, true] rfl rfl (one_of HT_.out (by kernel_rfl)) (by decide) (fun K hK => ?_)
            have hs31 : w29.cell? ⟨gb775, 0, none⟩ = some (u776000) := (blk_cell BK775.out 0).trans rfl
            have hfs31 := blk_frozen BK775.out 0
            have hns31_0 := NB770_775.out
            have hns31_1 := NB771_775.out
            have hms31_0 := NB775_770.out
            have hms31_1 := NB775_771.out
            refine skip_ (w1 := ?_) (by rfl) rfl ?_ ?_
            rotate_left
            ·go_simp
             rfl
            refine hK.out _ _ ?_
            clear hK K
            refine done_ (done_of HT_.out (by kernel_rfl)) ?_
            try go_wp2
            go_roundg k2
            case measure => have := HK1.out; have := HK2.out; omega
            case rel => exact ⟨(wrap64 (x22_2 + 1)), (y777), (.slice Ao30 y777.length co30), (by first | rfl | (simp; done) | (simp [*]; done)), H', ⟨by have := HK1.out; have := HK2.out; omega⟩, ⟨by (with_reducible repeat (first | apply Kd.R_alloc | apply Kd.R_drewN | apply Kd.R_drew)); exact Kd.R_mono (Kd.R_far (p := ⟨gb775, 0, none⟩) (Kd.R_types HO779.out BK775.out (by decide)) (fun _ hk => hk.2) (.slice Ao30 y777.length co30)) (fun _ hk => trivial)⟩, ⟨by (with_reducible repeat (first | refine blk_drewN ?_ _ | refine blk_drew ?_ | refine blk_alloc ?_ _)); refine blk_far ?_ NB770_775.out _; (with_reducible repeat (first | refine blk_drewN ?_ _ | refine blk_drew ?_ | refine blk_alloc ?_ _)); exact BK770.out⟩, ⟨by (with_reducible repeat (first | refine blk_drewN ?_ _ | refine blk_drew ?_ | refine blk_alloc ?_ _)); refine blk_far ?_ NB771_775.out _; (with_reducible repeat (first | refine blk_drewN ?_ _ | refine blk_drew ?_ | refine blk_alloc ?_ _)); exact BK771.out⟩, ⟨by (with_reducible repeat (first | refine blk_drewN ?_ _ | refine blk_drew ?_ | refine blk_alloc ?_ _)); refine blk_put (cs := #[u776000, .int .i64 a0_2, .int .i64 a0_1]) ?_ 0 _ rfl; (with_reducible repeat (first | refine blk_drewN ?_ _ | refine blk_drew ?_ | refine blk_alloc ?_ _)); exact BK775.out⟩, ⟨by repeat (first | (with_reducible first | exact HB.out | apply below_alloc | apply pw_below_drewN | apply below_drew1 | refine below_set ?_ GE770.out | refine below_set ?_ GE771.out | refine below_set ?_ GE775.out) | exact HB.out)⟩⟩
           ·rw [if_neg c27] at H
            exact absurd H (by simp)
          ·rw [if_neg c26] at H
           exact absurd H (by simp)
         ·rw [if_neg c25] at H
          exact absurd H (by simp)
        ·rw [if_neg c23] at H
         have c23b0 : decide (x22_2 < a0_1) = false := decide_eq_false c23
         clear c23
         have H' := Aside0.mk H
         clear H
         go_wp2
         go_roundg k2
         case measure => have := HK1.out; have := HK2.out; omega
         case rel => exact ⟨(wrap64 (x17_1 + 1)), (x776000_2), (u776000), (by first | rfl | (simp; done) | (simp [*]; done)), H', ⟨by have := HK1.out; have := HK2.out; omega⟩, ⟨by (with_reducible repeat (first | apply Kd.R_alloc | apply Kd.R_drewN | apply Kd.R_drew)); exact HO_776000.out⟩, ⟨by (with_reducible repeat (first | refine blk_drewN ?_ _ | refine blk_drew ?_ | refine blk_alloc ?_ _)); exact BK770.out⟩, ⟨by (with_reducible repeat (first | refine blk_drewN ?_ _ | refine blk_drew ?_ | refine blk_alloc ?_ _)); exact BK771.out⟩, ⟨by (with_reducible repeat (first | refine blk_drewN ?_ _ | refine blk_drew ?_ | refine blk_alloc ?_ _)); exact BK775.out⟩, ⟨by repeat (first | (with_reducible first | exact HB.out | apply below_alloc | apply pw_below_drewN | apply below_drew1 | refine below_set ?_ GE770.out | refine below_set ?_ GE771.out | refine below_set ?_ GE775.out) | exact HB.out)⟩⟩
     ·rw [if_neg c19] at H
      have c19b0 : decide (x17_1 < a0_2) = false := decide_eq_false c19
      clear c19
      simp only [Option.some.injEq, Prod.mk.injEq] at H
      obtain ⟨rfl, rfl, rfl⟩ := H
      have hnb32 := NB775_770.out
      have hnc32 := NB770_775.out
      have hnb33 := NB775_771.out
      have hnc33 := NB771_775.out
      have hcz34_0 : wr.cell? ⟨gb775, 0, none⟩ = some (u776000) := (blk_cell BK775.out 0).trans rfl
      have hcz34_1 : wr.cell? ⟨gb775, 1, none⟩ = some (.int .i64 a0_2) := (blk_cell BK775.out 1).trans rfl
      have hcz34_2 : wr.cell? ⟨gb775, 2, none⟩ = some (.int .i64 a0_1) := (blk_cell BK775.out 2).trans rfl
      have hfz34_0 := blk_frozen BK775.out 0
      have hfz34_1 := blk_frozen BK775.out 1
      have hfz34_2 := blk_frozen BK775.out 2
      obtain ⟨Ao35, co35, eo35⟩ := Kd.R_slice HO_776000.out
      subst eo35
      have hnb36 := NB771_770.out
      have hnc36 := NB770_771.out
      have hcz37_0 : wr.cell? ⟨gb771, 0, none⟩ = some (.slice none 0 0) := (blk_cell BK771.out 0).trans rfl
      have hcz37_1 : wr.cell? ⟨gb771, 1, none⟩ = some (.int .i64 0) := (blk_cell BK771.out 1).trans rfl
      have hcz37_2 : wr.cell? ⟨gb771, 2, none⟩ = some (.int .i64 0) := (blk_cell BK771.out 2).trans rfl
      have hfz37_0 := blk_frozen BK771.out 0
      have hfz37_1 := blk_frozen BK771.out 1
      have hfz37_2 := blk_frozen BK771.out 2
      go_wp2
      refine bodyPost_ret (results_cell_row rfl _ _ gb771 110 #[.slice Ao35 x776000_1.length co35, .int .i64 a0_2, .int .i64 a0_1] (0, 0) _ rfl (by (with_reducible repeat (first | refine blk_drewN ?_ _ | refine blk_drew ?_ | refine blk_alloc ?_ _)); refine blk_put (cs := #[.slice Ao35 x776000_1.length co35, .int .i64 a0_2, .int .i64 0]) ?_ 2 _ rfl; (with_reducible repeat (first | refine blk_drewN ?_ _ | refine blk_drew ?_ | refine blk_alloc ?_ _)); refine blk_put (cs := #[.slice Ao35 x776000_1.length co35, .int .i64 0, .int .i64 0]) ?_ 1 _ rfl; (with_reducible repeat (first | refine blk_drewN ?_ _ | refine blk_drew ?_ | refine blk_alloc ?_ _)); refine blk_put (cs := #[.slice none 0 0, .int .i64 0, .int .i64 0]) ?_ 0 _ rfl; (with_reducible repeat (first | refine blk_drewN ?_ _ | refine blk_drew ?_ | refine blk_alloc ?_ _)); exact BK771.out) Tryz.underlying110 rfl (by kernel_rfl)) rfl ?_
      exact ⟨_, by first | rfl | (simp [errW_none, errW_some] <;> rfl) | (simp [*, errW_none, errW_some] <;> rfl), by (with_reducible repeat (first | apply Kd.R_alloc | apply Kd.R_drewN | apply Kd.R_drew)); exact Kd.R_mono (Kd.R_far (p := ⟨gb771, 2, none⟩) (Kd.R_far (p := ⟨gb771, 1, none⟩) (Kd.R_far (p := ⟨gb771, 0, none⟩) (Kd.R_types HO_776000.out BK771.out (by decide)) (fun _ hk => hk.2) (.slice Ao35 x776000_1.length co35)) (fun _ hk => hk.2) (.int .i64 a0_2)) (fun _ hk => hk.2) (.int .i64 a0_1)) (fun _ hk => trivial), be⟩
  ·rw [if_neg c3] at H
   exact absurd H (by simp)
 ·rw [if_neg c2] at H
  exact absurd H (by simp)
end Go.Proofs.YtcihleahjnpaaaaGreatDoor.P
namespace Go.Proofs.YtcihleahjnpaaaaGreatDoor.P
open Go.RowKit Go.Proofs.YtcihleahjnpaaaaGreatDoor.Q Go.Proofs.YtcihleahjnpaaaaGreatDoor.H Go.Proofs.YtcihleahjnpaaaaGreatDoorW.PrintWords Go.Proofs.YtcihleahjnpaaaaGreatDoorW.PrintLast Go.Proofs.YtcihleahjnpaaaaGreatDoorW.PrintMore
attribute [local go_sem] max2_int min2_int max_two min_two max_three min_three max_four min_four   -- for this text's walks alone
set_option linter.unusedVariables false
set_option linter.unusedSimpArgs false
def looks_table_first.f (k : Nat) (l0_0 : List (S29)) (a0_1 : Int) (a0_2 : Int) : Option ((List (S29))) := (looks_table_turned.f k l0_0 a0_1 a0_2).bind fun bt781 => (if 0 ≤ a0_1 then (if a0_1 ≤ (bt781.1.length : Int) then (some (bt781.1.take (a0_1 : Int).toNat)) else (none)) else (none))
set_option maxHeartbeats 8000000 in
set_option maxRecDepth 100000 in
theorem looks_table_first.calls (k : Nat) (A0_0 : Option Addr) (c0_0 : Nat) (l0_0 : List (S29)) (a0_1 : Int) (a0_2 : Int) (r : List (S29)) (w : World) (hr0_0 : Kd.C k29 w A0_0 l0_0.length l0_0) (hc0_0 : l0_0.length ≤ c0_0) (h : looks_table_first.f k l0_0 a0_1 a0_2 = some r) :
  Calls Tryz.prog 81 #[.agg #[.slice A0_0 l0_0.length c0_0, .int .i64 a0_1, .int .i64 a0_2]] w fun e w' => ∃ v0_ : Value, e = .returned (v0_) ∧ Kd.R k29 29 w' w.heap.size (fun _ => True) v0_ r ∧ Below w.heap.size w w' := by
 have hu110 := Tryz.underlying110
 have HR0_0 := Aside0.mk hr0_0
 have HC0_0 := Aside0.mk hc0_0
 clear hr0_0 hc0_0
 have HB := Aside0.mk (Below.refl w.heap.size w)
 have H : ((looks_table_turned.f k l0_0 a0_1 a0_2).bind fun bt781 => (if 0 ≤ a0_1 then (if a0_1 ≤ (bt781.1.length : Int) then (some (bt781.1.take (a0_1 : Int).toNat)) else (none)) else (none))) = some r := h
 clear h
 replace H := Option.bind_eq_some_iff.mp H
 obtain ⟨⟨t781, t784, t785⟩, A20, H⟩ := H
 replace H : (if 0 ≤ a0_1 then (if a0_1 ≤ (t781.length : Int) then (some (t781.take (a0_1 : Int).toNat)) else (none)) else (none)) = some r := H
 have A2 := Aside0.mk A20
 clear A20
 by_cases c3 : 0 ≤ a0_1
 ·rw [if_pos c3] at H
  have c3b0 := eq_true c3
  have c3b1 : decide (0 ≤ a0_1) = true := decide_eq_true c3
  clear c3
  by_cases c4 : a0_1 ≤ (t781.length : Int)
  ·rw [if_pos c4] at H
   have c4b0 := eq_true c4
   have c4b1 : decide (a0_1 ≤ (t781.length : Int)) = true := decide_eq_true c4
   clear c4
   obtain ⟨y786, hy786⟩ : ∃ y_ : List (S29), y_ = (t781.take (a0_1 : Int).toNat) := ⟨_, rfl⟩
   replace H : (some y786) = some r := by first | (rw [hy786]; with_reducible exact H) | (have H2_ := (Option.bind_some _ _).symm.trans H; rw [hy786]; with_reducible exact H2_) | (have H2_ := (Option.bind_some _ _).symm.trans H; with_reducible exact H2_) | with_reducible exact H | (rw [hy786]; exact H) | exact H
   have Ny786 := Aside0.mk hy786
   clear hy786
   obtain rfl := Option.some.inj H
   go_enter Tryz.func81, Tryz.ntmps81
   try go_wp2_with (first | ((with_reducible refine gate_dst (N := 1) rfl ?_); refine bx (N := 1) (cs := #[.slice A0_0 l0_0.length c0_0, .int .i64 a0_1, .int .i64 a0_2]) (t := 110) ?_; intro gb780 hg w5 hbox hb; have BK780 := Aside0.mk (hbox); have GW780 := (bw hg); have GE780 := (bw hg); replace HB := (bs hb); clear hb hbox hg))
   have n0_ := Aside0.mk (blk_drew BK780.out)
   have n1_ := Aside0.mk (below_drew1 HB.out)
   clear BK780
   clear HB
   have BK780 := n0_
   have HB := n1_
   clear n0_ n1_
   refine start_ (n := 7) (S := fun w' => w'.cell? ⟨gb780, 0, none⟩ = some (.slice A0_0 l0_0.length c0_0) ∧ w'.cell? ⟨gb780, 1, none⟩ = some (.int .i64 a0_1) ∧ w'.cell? ⟨gb780, 2, none⟩ = some (.int .i64 a0_2)) (ds := []) #[false, false, false, false, false, false, false] (by kernel_rfl) rfl rfl ⟨(blk_cell BK780.out 0).trans rfl, (blk_cell BK780.out 1).trans rfl, (blk_cell BK780.out 2).trans rfl⟩ (fun hHeld => ?_)
   generalize w5.drew = w6 at BK780 HB hHeld ⊢
   refine pure_ (i := 3) (N := some 6) (v := ?_) (a' := ?_) #[false, false, false, true, false, false, false] rfl rfl (by kernel_rfl) (fun _ _ _ h => h) (Or.inl ⟨by rfl, ?_⟩) ?_ ?_
   rotate_left
   ·intro w'
    go_simp
    first | (with_reducible rfl) | (rw [show ∀ A_ n_ c_ a_ b_ W_, (Instr.field 110 (.agg #[.slice A_ n_ c_, .int .i64 a_, .int .i64 b_]) 0).run Tryz.prog W_ = .ok (.slice A_ n_ c_) W_ from fun _ _ _ _ _ _ => by kernel_rfl]; simp only [Result.andThen_ok]; with_reducible rfl)
   rotate_left
   ·simp only [Act.put, List.setIfInBounds_toArray, List.set_cons_zero, List.set_cons_succ, i64_w, i32_w]
    rfl
   refine take_ (i := 0) (N := some 3) (v := ?_) (a' := ?_) #[true, false, false, true, false, false, false] rfl rfl (by kernel_rfl) (fun _ _ _ h => h) (Or.inl ⟨by rfl, ?_⟩) hHeld ?_ ?_
   rotate_left
   ·rintro w' ⟨s0, s1, s2⟩
    go_simp
    with_reducible rfl
   rotate_left
   ·simp only [Act.put, List.setIfInBounds_toArray, List.set_cons_zero, List.set_cons_succ, i64_w, i32_w]
    rfl
   refine take_ (i := 4) (N := some 7) (v := ?_) (a' := ?_) #[true, false, false, true, true, false, false] rfl rfl (by kernel_rfl) (fun _ _ _ h => h) (Or.inl ⟨by rfl, ?_⟩) hHeld ?_ ?_
   rotate_left
   ·rintro w' ⟨s0, s1, s2⟩
    go_simp
    with_reducible rfl
   rotate_left
   ·simp only [Act.put, List.setIfInBounds_toArray, List.set_cons_zero, List.set_cons_succ, i64_w, i32_w]
    rfl
   refine one_ (i := 1) (N := some 4) #[true, true, false, true, true, false, false] rfl rfl (by kernel_rfl) (by decide) (fun K hK => ?_)
   refine goes_ Tryz.func80 (by kernel_rfl) rfl #[.agg #[.slice A0_0 l0_0.length c0_0, .int .i64 a0_1, .int .i64 a0_2]] (by rfl) rfl rfl (by (try simp only [List.map_toArray, List.map_cons, List.map_nil]); first | done | rfl | (simp only [List.length_drop, List.length_take]; rfl)) ?_
   with_reducible refine (looks_table_turned.calls k _ _ l0_0 a0_1 a0_2 t781 t784 t785 _ ?side1 ?side2 A2.out).mono ?_
   (case side1 => repeat (first | exact (Kd.C_below HR0_0.out HB.out) | (with_reducible refine Kd.C_alloc ?_ _) | (with_reducible refine Kd.C_drewN ?_ _) | (with_reducible refine Kd.C_drew ?_)))
   (case side2 => exact HC0_0.out)
   rintro e w7 ⟨v782, rfl, ho0, hb⟩
   refine ⟨_, rfl, ?_⟩
   have n0_ := Aside0.mk (Kd.R_lower ho0 (bz))
   have n1_ := (bb BK780 hb)
   have n2_ := (bs hb)
   clear BK780
   clear HB
   have HO783 := n0_
   have BK780 := n1_
   have HB := n2_
   clear n0_ n1_ n2_
   (try clear hb)
   (try clear hb2)
   (try clear hk)
   (try clear hi)
   (try clear ho0)
   obtain ⟨Ao8, co8, eo8⟩ := Kd.R_slice HO783.out
   (first | subst eo8 | (injection eo8 with f1_ f2_ f3_; have f4_ := f1_.symm; have f5_ := f3_.symm; clear f1_ f2_ f3_; subst f4_; subst f5_))
   have q9 : (a0_1 : Int) ≤ ((t781.length : Int) : Int) := of_decide_eq_true (by first | (with_reducible assumption) | assumption)
   obtain ⟨i09, hi09, _, hsz9, _⟩ := info_parts info29
   have hcut9 := cut_to (P := Tryz.prog) 33 29 .i64 Tryz.underlying33 hi09 Ao8 t781.length co8 a0_1 (of_decide_eq_true (by first | (with_reducible assumption) | assumption)) q9 (Kd.R_reads' HO783.out).2.1
   have hr9 := Kd.R_take (m := (a0_1 : Int).toNat) HO783.out (by omega)
   have hy9 : y786.length = (a0_1 : Int).toNat := (by rw [Ny786.out, List.length_take]; omega)
   rw [← Ny786.out] at hr9
   rw [← hy9] at hr9 hcut9
   clear hy9 hi09 hsz9 HO783
   have HO788 := Aside0.mk hr9
   clear hr9
   replace q9 := eq_true q9
   refine hK.out _ _ ⟨(blk_cell BK780.out 0).trans rfl, (blk_cell BK780.out 1).trans rfl, (blk_cell BK780.out 2).trans rfl⟩ (fun hHeld => ?_)
   clear hK K
   refine norm_ (a' := ?_) ?_ ?_
   rotate_left
   ·show Act.put _ (some 4) _ = _
    simp only [Act.put, List.setIfInBounds_toArray, List.set_cons_zero, List.set_cons_succ, i64_w, i32_w]
    rfl
   refine pure_ (i := 2) (N := some 5) (v := ?_) (a' := ?_) #[true, true, true, true, true, false, false] rfl rfl (by kernel_rfl) (fun _ _ _ h => h) (Or.inl ⟨by rfl, ?_⟩) ?_ ?_
   rotate_left
   ·intro w'
    go_simp
    first | (with_reducible rfl) | (rw [show ∀ A_ n_ c_ a_ b_ W_, (Instr.field 110 (.agg #[.slice A_ n_ c_, .int .i64 a_, .int .i64 b_]) 0).run Tryz.prog W_ = .ok (.slice A_ n_ c_) W_ from fun _ _ _ _ _ _ => by kernel_rfl]; simp only [Result.andThen_ok]; with_reducible rfl)
   rotate_left
   ·simp only [Act.put, List.setIfInBounds_toArray, List.set_cons_zero, List.set_cons_succ, i64_w, i32_w]
    rfl
   refine pure_ (i := 5) (N := some 8) (v := ?_) (a' := ?_) #[true, true, true, true, true, true, false] rfl rfl (by kernel_rfl) (fun _ _ _ h => h) (Or.inl ⟨by rfl, ?_⟩) ?_ ?_
   rotate_left
   ·intro w'
    go_simp
    first | (with_reducible rfl) | (rw [show ∀ A_ n_ c_ a_ b_ W_, (Instr.field 110 (.agg #[.slice A_ n_ c_, .int .i64 a_, .int .i64 b_]) 0).run Tryz.prog W_ = .ok (.slice A_ n_ c_) W_ from fun _ _ _ _ _ _ => by kernel_rfl]; simp only [Result.andThen_ok]; with_reducible rfl)
   rotate_left
   ·simp only [Act.put, List.setIfInBounds_toArray, List.set_cons_zero, List.set_cons_succ, i64_w, i32_w]
    rfl
   refine pure_ (i := 6) (N := some 2) (v := ?_) (a' := ?_) #[true, true, true, true, true, true, true] rfl rfl (by kernel_rfl) (fun _ _ _ h => h) (Or.inl ⟨by rfl, ?_⟩) ?_ ?_
   rotate_left
   ·intro w'
    go_simp
    first | (with_reducible rfl) | (rw [show ∀ A_ n_ c_ a_ b_ W_, (Instr.field 110 (.agg #[.slice A_ n_ c_, .int .i64 a_, .int .i64 b_]) 0).run Tryz.prog W_ = .ok (.slice A_ n_ c_) W_ from fun _ _ _ _ _ _ => by kernel_rfl]; simp only [Result.andThen_ok]; with_reducible rfl)
   rotate_left
   ·simp only [Act.put, List.setIfInBounds_toArray, List.set_cons_zero, List.set_cons_succ, i64_w, i32_w]
    rfl
   refine done_ (by kernel_rfl) ?_
   try go_wp2
   go_ret
   exact ⟨_, by first | rfl | (simp [errW_none, errW_some] <;> rfl) | (simp [*, errW_none, errW_some] <;> rfl), by (with_reducible repeat (first | apply Kd.R_alloc | apply Kd.R_drewN | apply Kd.R_drew)); exact HO788.out, be⟩
  ·rw [if_neg c4] at H
   exact absurd H (by simp)
 ·rw [if_neg c3] at H
  exact absurd H (by simp)
end Go.Proofs.YtcihleahjnpaaaaGreatDoor.P
namespace Go.Proofs.YtcihleahjnpaaaaGreatDoor.H
open Go.RowKit Go.Proofs.YtcihleahjnpaaaaGreatDoor.P Go.Proofs.YtcihleahjnpaaaaGreatDoor.T Go.Proofs.YtcihleahjnpaaaaGreatDoorW.PrintWords Go.Proofs.YtcihleahjnpaaaaGreatDoorW.PrintLast Go.Proofs.YtcihleahjnpaaaaGreatDoorW.PrintMore
set_option linter.unusedVariables false
set_option linter.unusedSimpArgs false
def colN (l : List V) (R C c i n : Nat) : List V := (List.range' i n).map fun r => l.getD (r * C + c) zV
def restN (l : List V) (R C : Nat) : Nat → Nat → List V
  | _, 0 => []
  | c, n + 1 => colN l R C c 0 R ++ restN l R C (c + 1) n
theorem mul_lt_cell {R C i c : Nat} (hi : i < R) (hc : c < C) : i * C + c < R * C := by
  have : (i + 1) * C ≤ R * C := Nat.mul_le_mul_right _ hi
  rw [Nat.succ_mul] at this
  omega
theorem mul_lt_acc {R C i c : Nat} (hi : i < R) (hc : c < C) : c * R + i < R * C := by
  rw [Nat.mul_comm R C]
  exact mul_lt_cell hc hi
theorem wrap_small (z : Nat) (h : z ≤ 8192) : wrap64 (z : Int) = (z : Int) := by unfold wrap64; omega
theorem l1_eq (l : List V) (R C : Nat) (hR0 : 0 < R) (hl : l.length = R * C) (h4 : R * C ≤ 4096) (c : Nat) (hc : c < C) : ∀ (d i : Nat) (acc : List V) (k : Nat), R - i = d → i ≤ R → acc.length = c * R + i →
    looks_table_turned.l1 (d + 1 + k) (c : Int) (C : Int) (c : Int) (R : Int) (i : Int) l (R : Int) (C : Int) acc (C : Int) (R : Int) = looks_table_turned.l0 k (C : Int) ((c + 1 : Nat) : Int) l (R : Int) (C : Int) (acc ++ colN l R C c i d) (C : Int) (R : Int)
  | 0, i, acc, k, hd, hi, ha => by
    have hcr : C ≤ 4096 ∨ R = 0 := by
      rcases Nat.eq_zero_or_pos R with h | h
      · exact .inr h
      · exact .inl (Nat.le_trans (Nat.le_mul_of_pos_left C h) h4)
    rw [show 0 + 1 + k = k + 1 by omega]
    unfold looks_table_turned.l1
    rw [if_neg (by omega)]
    have hw : wrap64 ((c : Int) + 1) = ((c + 1 : Nat) : Int) ∨ R = 0 := by
      rcases hcr with h | h
      · left; unfold wrap64; omega
      · exact .inr h
    rcases hw with hw | hw
    · rw [hw]; simp [colN]
    · omega
  | d + 1, i, acc, k, hd, hi, ha => by
    have hlt : i < R := by omega
    have h1 := mul_lt_cell hlt hc
    have h2 := mul_lt_acc hlt hc
    have hR : R ≤ 4096 := Nat.le_trans (Nat.le_mul_of_pos_right R (by omega)) h4
    rw [show d + 1 + 1 + k = (d + 1 + k) + 1 by omega]
    unfold looks_table_turned.l1
    have hz : i * C ≤ 4096 := by omega
    have hzc : i * C + c ≤ 4096 := by omega
    have g1 : (i : Int) < (R : Int) := by omega
    have g2 : (0 : Int) ≤ ((i * C + c : Nat) : Int) := Int.natCast_nonneg _
    have g3 : ((i * C + c : Nat) : Int) < (l.length : Int) := by rw [hl]; exact Int.ofNat_lt.mpr h1
    have g5 : acc.length ≤ 4096 := by rw [ha]; exact Nat.le_trans (Nat.le_of_lt h2) h4
    have g4 : acc.length < 2932031007402 := by omega
    have w1 : wrap64 ((i : Int) * (C : Int)) = ((i * C : Nat) : Int) := by rw [← Int.natCast_mul]; exact wrap_small _ (Nat.le_trans hz (by decide))
    have w2 : wrap64 (((i * C : Nat) : Int) + (c : Int)) = ((i * C + c : Nat) : Int) := by rw [← Int.natCast_add]; exact wrap_small _ (Nat.le_trans hzc (by decide))
    have w3 : wrap64 ((i : Int) + 1) = ((i + 1 : Nat) : Int) := wrap_nat i R hlt hR
    rw [if_pos g1, w1, w2, w3, if_pos g2, if_pos g3, if_pos g4]
    clear w1 w2 w3
    have hr : rd_T29 l ((i * C + c : Nat) : Int) = l.getD (i * C + c) zV := rfl
    rw [hr]
    generalize hv : l.getD (i * C + c) zV = v
    have IH := l1_eq l R C hR0 hl h4 c hc d (i + 1) (acc ++ [v]) k (by omega) (by omega) (by simp; omega)
    rw [show ([⟨v.f0, v.f1, v.f2, v.f3, v.f4⟩] : List V) = [v] from rfl, IH]
    unfold colN
    rw [List.range'_succ, List.map_cons, hv, List.append_assoc]
    rfl
theorem colN_len (l : List V) (R C c i n : Nat) : (colN l R C c i n).length = n := by simp [colN]
theorem l0t_eq (l : List V) (R C : Nat) (hR0 : 0 < R) (hl : l.length = R * C) (h4 : R * C ≤ 4096) : ∀ (d c : Nat) (acc : List V) (k : Nat), C - c = d → c ≤ C → acc.length = c * R →
    looks_table_turned.l0 (d * (R + 2) + 1 + k) (C : Int) (c : Int) l (R : Int) (C : Int) acc (C : Int) (R : Int) = some (acc ++ restN l R C c d, (C : Int), (R : Int))
  | 0, c, acc, k, hd, hc, ha => by
    rw [show 0 * (R + 2) + 1 + k = k + 1 by omega]
    unfold looks_table_turned.l0
    rw [if_neg (by omega)]
    simp [restN]
  | d + 1, c, acc, k, hd, hc, ha => by
    rw [show (d + 1) * (R + 2) + 1 + k = (R + 1 + (d * (R + 2) + 1 + k)) + 1 by rw [Nat.succ_mul]; omega]
    unfold looks_table_turned.l0
    rw [if_pos (by omega)]
    have h1 := l1_eq l R C hR0 hl h4 c (by omega) R 0 acc (d * (R + 2) + 1 + k) (by omega) (by omega) (by omega)
    rw [show ((0 : Nat) : Int) = 0 from rfl] at h1
    rw [h1, l0t_eq l R C hR0 hl h4 d (c + 1) _ k (by omega) (by omega) (by rw [List.length_append, colN_len, ha, Nat.succ_mul])]
    simp [restN, List.append_assoc]
def turnedL (a : AR) : List V := restN a.f0 (rowsA a).toNat (colsA a).toNat 0 (colsA a).toNat
theorem turned_f (a : AR) (h : okA a = true) : looks_table_turned.f ((colsA a).toNat * ((rowsA a).toNat + 2) + 1 + 0) a.f0 (rowsA a) (colsA a) = some (turnedL a, colsA a, rowsA a) := by
  obtain ⟨e, hc, hr, hl⟩ := okA_len a h
  unfold turnedL
  generalize rowsA a = r at *
  generalize colsA a = c at *
  obtain ⟨R, rfl⟩ := Int.eq_ofNat_of_zero_le (show 0 ≤ r by omega)
  obtain ⟨C, rfl⟩ := Int.eq_ofNat_of_zero_le (show 0 ≤ c by omega)
  simp only [Int.toNat_natCast]
  have e2 : a.f0.length = R * C := by
    have := e.symm
    rw [← Int.natCast_mul] at this
    exact Int.ofNat.inj this
  unfold looks_table_turned.f
  rw [if_pos (by omega), if_pos (by simp; omega)]
  have := l0t_eq a.f0 R C (by omega) e2 (by omega) C 0 [] 0 (by omega) (by omega) (by simp)
  rw [List.nil_append] at this
  exact this
theorem restN_len (l : List V) (R C : Nat) : ∀ (n c : Nat), (restN l R C c n).length = n * R
  | 0, c => by simp [restN]
  | n + 1, c => by simp [restN, colN_len, restN_len l R C n, Nat.succ_mul, Nat.add_comm]
theorem turnedL_len (a : AR) (h : okA a = true) : (turnedL a).length = a.f0.length := by
  obtain ⟨e, hc, hr, hl⟩ := okA_len a h
  unfold turnedL
  rw [restN_len]
  have h1 : (((colsA a).toNat * (rowsA a).toNat : Nat) : Int) = (a.f0.length : Int) := by
    rw [Int.natCast_mul, Int.toNat_of_nonneg (by omega), Int.toNat_of_nonneg (by omega), Int.mul_comm, e]
  exact Int.ofNat.inj h1
theorem rows_le (a : AR) (h : okA a = true) : rowsA a ≤ (a.f0.length : Int) ∧ colsA a ≤ (a.f0.length : Int) := by
  obtain ⟨e, hc, hr, hl⟩ := okA_len a h
  have h1 : rowsA a * 1 ≤ rowsA a * colsA a := Int.mul_le_mul_of_nonneg_left hc (by omega)
  have h2 : 1 * colsA a ≤ rowsA a * colsA a := Int.mul_le_mul_of_nonneg_right hr (by omega)
  omega
def firstL (a : AR) : List V := (turnedL a).take (rowsA a).toNat
theorem first_f (a : AR) (h : okA a = true) : looks_table_first.f ((colsA a).toNat * ((rowsA a).toNat + 2) + 1 + 0) a.f0 (rowsA a) (colsA a) = some (firstL a) := by
  have h1 := turnedL_len a h
  have h2 := rows_le a h
  have h3 := okA_len a h
  unfold looks_table_first.f
  rw [turned_f a h]
  simp only [Option.bind_some]
  rw [if_pos (by omega), if_pos (by rw [h1]; exact h2.1)]
  rfl
def ta (a : AR) : AR := ⟨turnedL a, rowsA a, true⟩
theorem ta_rows (a : AR) (h : okA a = true) : rowsA (ta a) = colsA a ∧ colsA (ta a) = rowsA a ∧ okA (ta a) = true := by
  have h1 := turnedL_len a h
  obtain ⟨e, hc, hr, hl⟩ := okA_len a h
  have hl1 : 1 ≤ a.f0.length := by
    have := (rows_le a h).1
    omega
  have hd : (a.f0.length : Int) / rowsA a = colsA a := by rw [← e, Int.mul_ediv_cancel_left _ (by omega)]
  have hm : (a.f0.length : Int) % rowsA a = 0 := by rw [← e]; exact Int.mul_emod_right _ _
  refine ⟨?_, ?_, ?_⟩
  · show (if true = true then ((turnedL a).length : Int) / rowsA a else 1) = colsA a
    rw [if_pos rfl, h1, hd]
  · show (if true = true then rowsA a else 1) = rowsA a
    rw [if_pos rfl]
  · show (if true = true then decide (0 < rowsA a) && (decide (1 ≤ (turnedL a).length) && (decide ((turnedL a).length ≤ 4096) && decide (((turnedL a).length : Int) % rowsA a = 0))) else (turnedL a).length == 1 && rowsA a == 0) = true
    rw [if_pos rfl, h1, hm]
    simp
    omega
theorem turned_any (a : AR) (h : okA a = true) (A : Option Addr) (c : Nat) (w : World) (hr : Kd.C kV w A a.f0.length a.f0) (hc : a.f0.length ≤ c) :
    Calls Tryz.prog 80 #[tbv A c a] w fun e w' => ∃ B cB, e = .returned (tbv B cB (ta a)) ∧ (ta a).f0.length ≤ cB ∧ (∀ W1 : World, (∀ k, w.heap.size ≤ k → W1.heap[k]? = w'.heap[k]?) → Kd.C kV W1 B (ta a).f0.length (ta a).f0) ∧ Below w.heap.size w w' := by
  refine (looks_table_turned.calls _ A c a.f0 (rowsA a) (colsA a) _ _ _ w hr hc (turned_f a h)).mono ?_
  rintro e w' ⟨v, rfl, hR, hb⟩
  have hmv := fun (W1 : World) (hk : ∀ k, w.heap.size ≤ k → W1.heap[k]? = w'.heap[k]?) => Kd.R_move (w1 := W1) (Kd.R_bound hR) (fun k h2 => hk k h2.2.1)
  obtain ⟨B, cB, rfl, hcb, hC⟩ := Kd.R_reads hR
  have ht := ta_rows a h
  refine ⟨B, cB, ?_, hcb, fun W1 hk => ?_, hb⟩
  · unfold tbv
    rw [ht.1, ht.2.1]
    rfl
  · obtain ⟨B', cB', e2, _, hC2⟩ := Kd.R_reads (hmv W1 hk)
    injection e2 with e3 _ _
    subst e3
    exact hC2
theorem sets3 (w : World) (b : Nat) (p q r : Value) (k : Nat) (h : k ≠ b) : (((w.setCell ⟨b, 0, none⟩ p).setCell ⟨b, 1, none⟩ q).setCell ⟨b, 2, none⟩ r).heap[k]? = w.heap[k]? := by
  rw [Below.heap_setCell _ _ _ _ h, Below.heap_setCell _ _ _ _ h, Below.heap_setCell _ _ _ _ h]
theorem cell3_other {w : World} {b c i : Nat} (p q r : Value) {v : Value} (h : c ≠ b) (hc : w.cell? ⟨c, i, none⟩ = some v) : (((w.setCell ⟨b, 0, none⟩ p).setCell ⟨b, 1, none⟩ q).setCell ⟨b, 2, none⟩ r).cell? ⟨c, i, none⟩ = some v :=
  (World.cell?_of_block (sets3 w b p q r c h)).trans hc
theorem cell3_same {w : World} {b : Nat} (p q r : Value) {p0 q0 r0 : Value} (h0 : w.cell? ⟨b, 0, none⟩ = some p0) (h1 : w.cell? ⟨b, 1, none⟩ = some q0) (h2 : w.cell? ⟨b, 2, none⟩ = some r0) :
    (((w.setCell ⟨b, 0, none⟩ p).setCell ⟨b, 1, none⟩ q).setCell ⟨b, 2, none⟩ r).cell? ⟨b, 0, none⟩ = some p ∧ (((w.setCell ⟨b, 0, none⟩ p).setCell ⟨b, 1, none⟩ q).setCell ⟨b, 2, none⟩ r).cell? ⟨b, 1, none⟩ = some q ∧ (((w.setCell ⟨b, 0, none⟩ p).setCell ⟨b, 1, none⟩ q).setCell ⟨b, 2, none⟩ r).cell? ⟨b, 2, none⟩ = some r := by
  have n10 : (⟨b, 1, none⟩ : Addr) ≠ ⟨b, 0, none⟩ := by simp
  have n20 : (⟨b, 2, none⟩ : Addr) ≠ ⟨b, 0, none⟩ := by simp
  have n21 : (⟨b, 2, none⟩ : Addr) ≠ ⟨b, 1, none⟩ := by simp
  refine ⟨?_, ?_, ?_⟩
  · rw [World.cell?_setCell_other _ _ _ _ n20, World.cell?_setCell_other _ _ _ _ n10]
    exact World.cell?_setCell_same _ _ _ h0
  · rw [World.cell?_setCell_other _ _ _ _ n21]
    exact World.cell?_setCell_same _ _ _ ((World.cell?_setCell_other _ _ _ _ n10.symm).trans h1)
  · exact World.cell?_setCell_same _ _ _ ((World.cell?_setCell_other _ _ _ _ n21.symm).trans ((World.cell?_setCell_other _ _ _ _ n20.symm).trans h2))
theorem first_any (a : AR) (h : okA a = true) (A : Option Addr) (c : Nat) (w : World) (hr : Kd.C kV w A a.f0.length a.f0) (hc : a.f0.length ≤ c) :
    Calls Tryz.prog 81 #[tbv A c a] w fun e w' => ∃ B cB, e = .returned (.slice B (firstL a).length cB) ∧ (firstL a).length ≤ cB ∧ Kd.C kV w' B (firstL a).length (firstL a) ∧ Below w.heap.size w w' := by
  refine (looks_table_first.calls _ A c a.f0 (rowsA a) (colsA a) _ w hr hc (first_f a h)).mono ?_
  rintro e w' ⟨v, rfl, hR, hb⟩
  obtain ⟨B, cB, rfl, hcb, hC⟩ := Kd.R_reads hR
  exact ⟨B, cB, rfl, hcb, hC, hb⟩
end Go.Proofs.YtcihleahjnpaaaaGreatDoor.H
namespace Go.Proofs.YtcihleahjnpaaaaGreatDoor.H
open Go.RowKit Go.Proofs.YtcihleahjnpaaaaGreatDoor.P Go.Proofs.YtcihleahjnpaaaaGreatDoor.T Go.Proofs.YtcihleahjnpaaaaGreatDoorW.PrintWords Go.Proofs.YtcihleahjnpaaaaGreatDoorW.PrintLast Go.Proofs.YtcihleahjnpaaaaGreatDoorW.PrintMore
set_option linter.unusedVariables false
set_option linter.unusedSimpArgs false
def lookupS (across : Bool) (l : List AR) : V × Int :=
  let x := thingS l 0 0
  let t := nextS l x.2.1
  let k := countS 0 l t.2 x.2.2
  let m := countS 0 l k.2.2.1 k.2.2.2
  let u := if across = true then ta t.1 else t.1
  let p := placeS x.1 (firstL u) (wayS m.1)
  (if m.2.2.2 ≠ 0 ∨ k.1 < 1 ∨ colsA u < k.1 then eV 4 else if p = 0 then eV 6 else atS u p k.1, m.2.2.2)
theorem thingS_at (l : List AR) (f : Int) (h : 0 < l.length) : (thingS l 0 f).2.1 = 1 := by
  unfold thingS singleS
  simp only
  rw [List.getElem?_eq_getElem h]
  simp only
  split <;> rfl
set_option maxHeartbeats 2000000 in
set_option maxRecDepth 100000 in
theorem lookup_rd (across : Bool) {w0 w : World} {g : Nat} {A : Option Addr} {c : Nat} {l : List AR} (hc : Cx w0 g A l) (h : Rd w0 w g A c l 0 0) (hl : 1 < l.length) :
    Calls Tryz.prog 58 #[.pointer (some ⟨g, 0, none⟩), .bool across] w fun e w' => e = .returned (vv (lookupS across l).1) ∧ w.grownBy w' (some g) ∧ ∃ j, Rd w0 w' g A c l j (lookupS across l).2 := by
  have hne := h.ne
  unfold lookupS
  simp only
  have hat := thingS_at l 0 (by omega)
  have hok : okA (nextS l 1).1 = true := by
    unfold nextS
    rw [List.getElem?_eq_getElem hl]
    exact hc.ok _ (List.getElem_mem hl)
  have HT := fun (W : World) (h : Rd w0 W g A c l 0 0) => thing_rd hc h
  generalize thingS l 0 0 = x at *
  obtain ⟨x, i1, f1⟩ := x
  simp only at hat HT ⊢
  subst hat
  have HB := fun (W : World) (h : Rd w0 W g A c l 1 f1) => table_rd hc h
  generalize nextS l 1 = t at *
  obtain ⟨t, i2⟩ := t
  simp only at hok HB ⊢
  have HL := fun (W : World) (h : Rd w0 W g A c l i2 f1) => count_rd 0 hc h
  generalize countS 0 l i2 f1 = k at *
  obtain ⟨k, kb, i3, f3⟩ := k
  simp only at HL ⊢
  have HN := fun (W : World) (h : Rd w0 W g A c l i3 f3) => count_rd 0 hc h
  generalize countS 0 l i3 f3 = m at *
  obtain ⟨m, mb, i4, f4⟩ := m
  simp only at HN ⊢
  have HT := Lib.hid HT
  have HB := Lib.hid HB
  have HL := Lib.hid HL
  have HN := Lib.hid HN
  have HC := Lib.hid hc
  have HD := Lib.hid h
  clear hc h
  generalize hE : (if f4 ≠ 0 ∨ k < 1 ∨ colsA (if across = true then ta t else t) < k then eV 4 else if placeS x (firstL (if across = true then ta t else t)) (wayS m) = 0 then eV 6 else atS (if across = true then ta t else t) (placeS x (firstL (if across = true then ta t else t)) (wayS m)) k) = E
  go_enter Tryz.func58, Tryz.ntmps58
  go_wp2_with (fail)
  have HA0 := Lib.hid (gr_alloc (gr_refl w none) (.cells #[.int .i64 0, .int .i64 0, .string ⟨#[]⟩, .bool false, .int .i64 0] 29))
  refine (HT.out _ (HD.out.grow HC.out HA0.out)).mono ?_
  rintro y w2 ⟨rfl, h2, h3⟩
  have HG := Lib.hid (gr_then (gr_alloc (gr_refl w (some g)) _) h2)
  have HX := Lib.hid h2
  have HR := Lib.hid h3
  clear h2 h3
  unfold vv
  go_wp2_with (fail)
  refine (HB.out _ HR.out).mono ?_
  rintro y w3 ⟨A', c', rfl, hcc, hK, h4, h5⟩
  have HG3 := Lib.hid (gr_then HG.out h4)
  have HX3 := Lib.hid (gr_then HX.out h4)
  have HR3 := Lib.hid h5
  have HK := Lib.hid hK
  clear h4 h5 hK
  unfold tbv
  go_wp2_with (fail)
  have HA1 := Lib.hid (gr_alloc (gr_refl w3 none) (.cells #[.int .i64 x.f0, .int .i64 x.f1, .string x.f2, .bool x.f3, .int .i64 x.f4] 29))
  have HR3' := Lib.hid (HR3.out.grow HC.out HA1.out)
  refine (HL.out _ (HR3'.out.grow HC.out (gr_alloc (gr_refl _ none) _))).mono ?_
  rintro y w4 ⟨rfl, h4, h5⟩
  have HG4 := Lib.hid (gr_then (gr_alloc (gr_alloc HG3.out _) _) h4)
  have HX4 := Lib.hid (gr_then (gr_alloc (gr_alloc HX3.out _) _) h4)
  have HL4 := Lib.hid (gr_then (gr_alloc (gr_refl _ (some g)) _) h4)
  have HT4 := Lib.hid h4
  have HR4 := Lib.hid h5
  clear h4 h5
  go_wp2_with (fail)
  refine (HN.out _ HR4.out).mono ?_
  rintro y w5 ⟨rfl, h4, h5⟩
  have HG5 := Lib.hid (gr_then HG4.out h4)
  have HX5 := Lib.hid (gr_then HX4.out h4)
  have HL5 := Lib.hid (gr_then HL4.out h4)
  have HT5 := Lib.hid (gr_then HT4.out h4)
  have HR5 := Lib.hid h5
  clear h4 h5
  have hne3 := HR3.out.ne
  have hne3' := HR3'.out.ne
  obtain ⟨x0, x1, x2, x3, x4, u0, u1, u2, u3, u4⟩ := loc5 HL5.out hne3
  obtain ⟨t0, t1, t2, v0, v1, v2⟩ := loc3 HT5.out hne3'
  have hsz : (w3.alloc (.cells #[.int .i64 x.f0, .int .i64 x.f1, .string x.f2, .bool x.f3, .int .i64 x.f4] 29)).heap.size = w3.heap.size + 1 := by simp
  rw [hsz] at t0 t1 t2 v0 v1 v2 hne3'
  obtain ⟨r0, r1, r2, s0, s1, s2, hlt⟩ := HR5.out.r
  have hws : w.heap.size ≤ w3.heap.size := HG3.out.size
  clear HT HB HL HN HX HX3 HX4 HL4 HT4 HG HG3 HG4 HR HR3 HR3' HR4 HA0 HA1
  have hne1 : ¬ w.heap.size = g := hne
  have hne1 : ¬ w.heap.size = g := hne
  have hne1 : ¬ w.heap.size = g := hne
  cases across
  · simp only [Bool.false_eq_true, if_false] at hE
    by_cases hf : f4 = 0
    · have hf1 : (f4 != 0) = false := by simpa using hf
      have hf2 : (f4 == 0) = true := by simpa using hf
      have e0 := x0
      have e1 := x1
      have e2 := x2
      have e3 := x3
      have e4 := x4
      have e5 := t0
      have e6 := t1
      have e7 := t2
      clear x0 x1 x2 x3 x4 t0 t1 t2
      have hfl : (firstL t).length ≤ 4096 := by have := turnedL_len t hok; have h4 := (okA_len t hok).2.2.2; unfold firstL; rw [List.length_take]; omega
      have hcl : (colsA t) ≤ 4096 ∧ rowsA t ≤ 4096 := by have h3 := rows_le t hok; have h4 := (okA_len t hok).2.2.2; omega
      have hpl := placeS_le x (firstL t) (wayS m)
      by_cases h1 : k < 1
      · have d1 : decide (k < 1) = true := by simpa using h1
        rw [if_pos (.inr (.inl h1))] at hE
        subst hE
        go_wp2_with (fail)
        refine (e_any _ 4).mono ?_
        rintro y w7 ⟨rfl, h7⟩
        obtain ⟨z0, z1, z2, z3, z4, y0, y1, y2, y3, y4⟩ := loc5 (gr_then HX5.out (gr_of_below h7 (some g))) hne
        have HR7 := Lib.hid (HR5.out.grow HC.out (gr_of_below h7 none))
        have HG7 := Lib.hid (gr_then HG5.out (gr_of_below h7 (some g)))
        clear h7
        generalize hv : eV 4 = v at *
        have HV := Lib.hid hv
        clear hv
        unfold vv
        go_wp2_with (fail)
        have HE := end5 HD.out HC.out HG7.out HR7.out (.int .i64 v.f0) (.int .i64 v.f1) (.string v.f2) (.bool v.f3) (.int .i64 v.f4)
        refine bodyPost_ret (v := vv v) (by simp [results, Tryz.results58, go_sem, vv, z0, z1, z2, z3, z4]) rfl ⟨by rw [HV.out], HE.1, _, HE.2⟩
      · have d1 : decide (k < 1) = false := by simpa using h1
        by_cases h2 : colsA t < k
        · have d2 : decide (colsA t < k) = true := by simpa using h2
          rw [if_pos (.inr (.inr h2))] at hE
          subst hE
          go_wp2_with (fail)
          refine (e_any _ 4).mono ?_
          rintro y w7 ⟨rfl, h7⟩
          obtain ⟨z0, z1, z2, z3, z4, y0, y1, y2, y3, y4⟩ := loc5 (gr_then HX5.out (gr_of_below h7 (some g))) hne
          have HR7 := Lib.hid (HR5.out.grow HC.out (gr_of_below h7 none))
          have HG7 := Lib.hid (gr_then HG5.out (gr_of_below h7 (some g)))
          clear h7
          generalize hv : eV 4 = v at *
          have HV := Lib.hid hv
          clear hv
          unfold vv
          go_wp2_with (fail)
          have HE := end5 HD.out HC.out HG7.out HR7.out (.int .i64 v.f0) (.int .i64 v.f1) (.string v.f2) (.bool v.f3) (.int .i64 v.f4)
          refine bodyPost_ret (v := vv v) (by simp [results, Tryz.results58, go_sem, vv, z0, z1, z2, z3, z4]) rfl ⟨by rw [HV.out], HE.1, _, HE.2⟩
        · have d2 : decide (colsA t < k) = false := by simpa using h2
          rw [if_neg (fun h => h.elim (fun h => h hf) (fun h => h.elim h1 h2))] at hE
          go_wp2_with (fail)
          refine start_ (n := 7) (S := fun w' => w'.cell? ⟨w3.heap.size, 0, none⟩ = some (.int .i64 x.f0) ∧ w'.cell? ⟨w3.heap.size, 1, none⟩ = some (.int .i64 x.f1) ∧ w'.cell? ⟨w3.heap.size, 2, none⟩ = some (.string x.f2) ∧ w'.cell? ⟨w3.heap.size, 3, none⟩ = some (.bool x.f3) ∧ w'.cell? ⟨w3.heap.size, 4, none⟩ = some (.int .i64 x.f4) ∧ w'.cell? ⟨w3.heap.size + 1, 0, none⟩ = some (.slice A' t.f0.length c') ∧ w'.cell? ⟨w3.heap.size + 1, 1, none⟩ = some (.int .i64 (rowsA t)) ∧ w'.cell? ⟨w3.heap.size + 1, 2, none⟩ = some (.int .i64 (colsA t))) (ds := []) #[false, false, false, false, false, false, false] (by kernel_rfl) rfl rfl ⟨e0, e1, e2, e3, e4, e5, e6, e7⟩ (fun hHeld => ?_)
          refine take_ (i := 0) (N := some 52) (v := ?_) (a' := ?_) #[true, false, false, false, false, false, false] rfl rfl (by kernel_rfl) (fun _ _ _ h => h) (Or.inl ⟨by rfl, ?_⟩) hHeld ?_ ?_
          rotate_left
          · rintro w' ⟨s0, s1, s2, s3, s4, s5, s6, s7⟩
            go_simp
            with_reducible rfl
          rotate_left
          · simp only [Act.put, List.setIfInBounds_toArray, List.set_cons_zero, List.set_cons_succ, i64_w, i32_w]
            rfl
          refine take_ (i := 1) (N := some 53) (v := ?_) (a' := ?_) #[true, true, false, false, false, false, false] rfl rfl (by kernel_rfl) (fun _ _ _ h => h) (Or.inl ⟨by rfl, ?_⟩) hHeld ?_ ?_
          rotate_left
          · rintro w' ⟨s0, s1, s2, s3, s4, s5, s6, s7⟩
            go_simp
            with_reducible rfl
          rotate_left
          · simp only [Act.put, List.setIfInBounds_toArray, List.set_cons_zero, List.set_cons_succ, i64_w, i32_w]
            rfl
          refine pure_ (i := 3) (N := some 55) (v := ?_) (a' := ?_) #[true, true, false, true, false, false, false] rfl rfl (by kernel_rfl) (fun _ _ _ h => h) (Or.inl ⟨by rfl, ?_⟩) ?_ ?_
          rotate_left
          · intro w'
            go_simp
            with_reducible rfl
          rotate_left
          · simp only [Act.put, List.setIfInBounds_toArray, List.set_cons_zero, List.set_cons_succ, i64_w, i32_w]
            rfl
          refine one_ (i := 2) (N := some 54) #[true, true, true, true, false, false, false] rfl rfl (by kernel_rfl) (by decide) (fun K hK => ?_)
          refine goes_ Tryz.func81 (by kernel_rfl) rfl #[.agg #[.slice A' t.f0.length c', .int .i64 (rowsA t), .int .i64 (colsA t)]] (by rfl) rfl rfl (by (try simp only [List.map_toArray, List.map_cons, List.map_nil]); first | done | rfl) ?_
          refine (first_any t hok A' c' _ (Kd.C_below (HR5.out.reads HK.out) ((Below.refl _ _).drew)) hcc).mono ?_
          rintro e w6 ⟨B, cB, rfl, hcB, hKB, hb6⟩
          refine ⟨_, rfl, ?_⟩
          replace hb6 := below_undrew hb6
          have p0 := pw_cell_below hb6 e0
          have p1 := pw_cell_below hb6 e1
          have p2 := pw_cell_below hb6 e2
          have p3 := pw_cell_below hb6 e3
          have p4 := pw_cell_below hb6 e4
          have p5 := pw_cell_below hb6 e5
          have p6 := pw_cell_below hb6 e6
          have p7 := pw_cell_below hb6 e7
          refine hK.out _ _ ⟨p0, p1, p2, p3, p4, p5, p6, p7⟩ (fun hHeld => ?_)
          clear hK K
          refine norm_ (a' := ?_) ?_ ?_
          rotate_left
          · show Act.put _ (some 54) _ = _
            simp only [Act.put, List.setIfInBounds_toArray, List.set_cons_zero, List.set_cons_succ, i64_w, i32_w]
            rfl
          refine one_ (i := 4) (N := some 56) #[true, true, true, true, true, false, false] rfl rfl (by kernel_rfl) (by decide) (fun K hK => ?_)
          refine goes_ Tryz.func78 (by kernel_rfl) rfl #[.int .i64 m] (by rfl) rfl rfl (by (try simp only [List.map_toArray, List.map_cons, List.map_nil]); first | done | rfl) ?_
          with_reducible refine (way_any m _).mono ?_
          rintro e w7 ⟨rfl, hb7⟩
          refine ⟨_, rfl, ?_⟩
          have q0 := pw_cell_below hb7 p0
          have q1 := pw_cell_below hb7 p1
          have q2 := pw_cell_below hb7 p2
          have q3 := pw_cell_below hb7 p3
          have q4 := pw_cell_below hb7 p4
          have q5 := pw_cell_below hb7 p5
          have q6 := pw_cell_below hb7 p6
          have q7 := pw_cell_below hb7 p7
          refine hK.out _ _ ⟨q0, q1, q2, q3, q4, q5, q6, q7⟩ (fun hHeld => ?_)
          clear hK K
          refine norm_ (a' := ?_) ?_ ?_
          rotate_left
          · show Act.put _ (some 56) _ = _
            simp only [Act.put, List.setIfInBounds_toArray, List.set_cons_zero, List.set_cons_succ, i64_w, i32_w]
            rfl
          refine one_ (i := 5) (N := some 57) #[true, true, true, true, true, true, false] rfl rfl (by kernel_rfl) (by decide) (fun K hK => ?_)
          refine goes_ Tryz.func10 (by kernel_rfl) rfl #[.agg #[.int .i64 x.f0, .int .i64 x.f1, .string x.f2, .bool x.f3, .int .i64 x.f4], .slice B (firstL t).length cB, .int .i64 (wayS m)] (by rfl) rfl rfl (by (try simp only [List.map_toArray, List.map_cons, List.map_nil]); first | done | rfl) ?_
          refine (place_any x B cB (firstL t) (wayS m) _ (Kd.C_below hKB hb7) hcB hfl).mono ?_
          rintro e w8 ⟨rfl, hb8⟩
          refine ⟨_, rfl, ?_⟩
          have r0 := pw_cell_below hb8 q0
          have r1 := pw_cell_below hb8 q1
          have r2 := pw_cell_below hb8 q2
          have r3 := pw_cell_below hb8 q3
          have r4 := pw_cell_below hb8 q4
          have r5 := pw_cell_below hb8 q5
          have r6 := pw_cell_below hb8 q6
          have r7 := pw_cell_below hb8 q7
          refine hK.out _ _ ⟨r0, r1, r2, r3, r4, r5, r6, r7⟩ (fun hHeld => ?_)
          clear hK K
          refine norm_ (a' := ?_) ?_ ?_
          rotate_left
          · show Act.put _ (some 57) _ = _
            simp only [Act.put, List.setIfInBounds_toArray, List.set_cons_zero, List.set_cons_succ, i64_w, i32_w]
            rfl
          refine pure_ (i := 6) (N := some 11) (v := ?_) (a' := ?_) #[true, true, true, true, true, true, true] rfl rfl (by kernel_rfl) (fun _ _ _ h => h) (Or.inl ⟨by rfl, ?_⟩) ?_ ?_
          rotate_left
          · intro w'
            go_simp
            with_reducible rfl
          rotate_left
          · simp only [Act.put, List.setIfInBounds_toArray, List.set_cons_zero, List.set_cons_succ, i64_w, i32_w]
            rfl
          refine done_ (by kernel_rfl) ?_
          have HR8 := Lib.hid (HR5.out.grow HC.out (gr_then (gr_of_below hb6 none) (gr_then (gr_of_below hb7 none) (gr_of_below hb8 none))))
          have HG8 := Lib.hid (gr_then HG5.out (gr_then (gr_of_below hb6 (some g)) (gr_then (gr_of_below hb7 (some g)) (gr_of_below hb8 (some g)))))
          have HX8 := Lib.hid (gr_then HX5.out (gr_then (gr_of_below hb6 (some g)) (gr_then (gr_of_below hb7 (some g)) (gr_of_below hb8 (some g)))))
          have hrd8 := Kd.C_below (Kd.C_below (Kd.C_below (HR5.out.reads HK.out) hb6) hb7) hb8
          have HRD8 := Lib.hid hrd8
          clear hrd8 hKB hcB hb6 hb7 hb8 p0 p1 p2 p3 p4 p5 p6 p7 q0 q1 q2 q3 q4 q5 q6 q7 r0 r1 r2 r3 r4
          clear e0 e1 e2 e3 e4 e5 e6 e7
          by_cases hz : placeS x (firstL t) (wayS m) = 0
          · rw [if_pos hz] at hE
            subst hE
            have hz1 : (placeS x (firstL t) (wayS m) == 0) = true := by simpa using hz
            go_wp2_with (fail)
            refine (e_any _ 6).mono ?_
            rintro y w7 ⟨rfl, h7⟩
            obtain ⟨z0, z1, z2, z3, z4, y0, y1, y2, y3, y4⟩ := loc5 (gr_then HX8.out (gr_of_below h7 (some g))) hne
            have HR7 := Lib.hid (HR8.out.grow HC.out (gr_of_below h7 none))
            have HG7 := Lib.hid (gr_then HG8.out (gr_of_below h7 (some g)))
            clear h7
            generalize hv : eV 6 = v at *
            have HV := Lib.hid hv
            clear hv
            unfold vv
            go_wp2_with (fail)
            have HE := end5 HD.out HC.out HG7.out HR7.out (.int .i64 v.f0) (.int .i64 v.f1) (.string v.f2) (.bool v.f3) (.int .i64 v.f4)
            refine bodyPost_ret (v := vv v) (by simp [results, Tryz.results58, go_sem, vv, z0, z1, z2, z3, z4]) rfl ⟨by rw [HV.out], HE.1, _, HE.2⟩
          · rw [if_neg hz] at hE
            subst hE
            have hz1 : (placeS x (firstL t) (wayS m) == 0) = false := by simpa using hz
            go_wp2_with (fail)
            have hat := at_any t hok (placeS x (firstL t) (wayS m)) k A' c' w8 HRD8.out hcc
            unfold tbv at hat
            refine (hat).mono ?_
            rintro y w7 ⟨rfl, h7⟩
            obtain ⟨z0, z1, z2, z3, z4, y0, y1, y2, y3, y4⟩ := loc5 (gr_then HX8.out (gr_of_below h7 (some g))) hne
            have HR7 := Lib.hid (HR8.out.grow HC.out (gr_of_below h7 none))
            have HG7 := Lib.hid (gr_then HG8.out (gr_of_below h7 (some g)))
            clear h7
            generalize hv : atS t (placeS x (firstL t) (wayS m)) k = v at *
            have HV := Lib.hid hv
            clear hv
            unfold vv
            go_wp2_with (fail)
            have HE := end5 HD.out HC.out HG7.out HR7.out (.int .i64 v.f0) (.int .i64 v.f1) (.string v.f2) (.bool v.f3) (.int .i64 v.f4)
            refine bodyPost_ret (v := vv v) (by simp [results, Tryz.results58, go_sem, vv, z0, z1, z2, z3, z4]) rfl ⟨by rw [HV.out], HE.1, _, HE.2⟩
    · have hf1 : (f4 != 0) = true := by simpa using hf
      have hf2 : (f4 == 0) = false := by simpa using hf
      rw [if_pos (.inl hf)] at hE
      subst hE
      go_wp2_with (fail)
      refine (e_any _ 4).mono ?_
      rintro y w7 ⟨rfl, h7⟩
      obtain ⟨z0, z1, z2, z3, z4, y0, y1, y2, y3, y4⟩ := loc5 (gr_then HX5.out (gr_of_below h7 (some g))) hne
      have HR7 := Lib.hid (HR5.out.grow HC.out (gr_of_below h7 none))
      have HG7 := Lib.hid (gr_then HG5.out (gr_of_below h7 (some g)))
      clear h7
      generalize hv : eV 4 = v at *
      have HV := Lib.hid hv
      clear hv
      unfold vv
      go_wp2_with (fail)
      have HE := end5 HD.out HC.out HG7.out HR7.out (.int .i64 v.f0) (.int .i64 v.f1) (.string v.f2) (.bool v.f3) (.int .i64 v.f4)
      refine bodyPost_ret (v := vv v) (by simp [results, Tryz.results58, go_sem, vv, z0, z1, z2, z3, z4]) rfl ⟨by rw [HV.out], HE.1, _, HE.2⟩
  · simp only [if_true] at hE
    by_cases hf : f4 = 0
    · have hf1 : (f4 != 0) = false := by simpa using hf
      have hf2 : (f4 == 0) = true := by simpa using hf
      go_wp2_with (fail)
      refine (turned_any t hok A' c' w5 (HR5.out.reads HK.out) hcc).mono ?_
      rintro y w6 ⟨B', cB', rfl, hcB', hKB', hb6'⟩
      have h35 : w3.heap.size + 1 < w5.heap.size := World.block_lt_of_cell? _ _ t0
      have hu := (ta_rows t hok).2.2
      generalize ta t = u at *
      have HR6 := Lib.hid (HR5.out.grow HC.out (gr_of_below hb6' none))
      have HG6 := Lib.hid (gr_then HG5.out (gr_of_below hb6' (some g)))
      have HX6 := Lib.hid (gr_then HX5.out (gr_of_below hb6' (some g)))
      have X0 := pw_cell_below hb6' x0
      have X1 := pw_cell_below hb6' x1
      have X2 := pw_cell_below hb6' x2
      have X3 := pw_cell_below hb6' x3
      have X4 := pw_cell_below hb6' x4
      have T0 := pw_cell_below hb6' t0
      have T1 := pw_cell_below hb6' t1
      have T2 := pw_cell_below hb6' t2
      obtain ⟨_, _, _, V0, V1, V2⟩ := loc3 (gr_then HT5.out (gr_of_below hb6' (some g))) (by rw [hsz]; exact hne3')
      rw [hsz] at V0 V1 V2
      have HK6 := Lib.hid hKB'
      have hw0 : w0.heap.size ≤ w.heap.size := HD.out.b.size
      clear x0 x1 x2 x3 x4 u0 u1 u2 u3 u4 t0 t1 t2 v0 v1 v2 r0 r1 r2 s0 s1 s2 hb6' hKB'
      unfold tbv
      go_upto_region 6 with (fail)
      have hne33 : ¬ w3.heap.size + 1 = g := hne3'
      have HG7 := Lib.hid (gr_set (gr_set (gr_set HG6.out (p := ⟨w3.heap.size + 1, 0, none⟩) (.inr (Nat.le_succ_of_le hws)) (.slice B' u.f0.length cB')) (p := ⟨w3.heap.size + 1, 1, none⟩) (.inr (Nat.le_succ_of_le hws)) (.int .i64 (rowsA u))) (p := ⟨w3.heap.size + 1, 2, none⟩) (.inr (Nat.le_succ_of_le hws)) (.int .i64 (colsA u)))
      have hws1 : (w.alloc (.cells #[.int .i64 0, .int .i64 0, .string ⟨#[]⟩, .bool false, .int .i64 0] 29)).heap.size ≤ w3.heap.size + 1 := by simp; exact hws
      have HX7 := Lib.hid (gr_set (gr_set (gr_set HX6.out (p := ⟨w3.heap.size + 1, 0, none⟩) (.inr hws1) (.slice B' u.f0.length cB')) (p := ⟨w3.heap.size + 1, 1, none⟩) (.inr hws1) (.int .i64 (rowsA u))) (p := ⟨w3.heap.size + 1, 2, none⟩) (.inr hws1) (.int .i64 (colsA u)))
      have hw1 : w0.heap.size ≤ w3.heap.size + 1 := Nat.le_succ_of_le (Nat.le_trans hw0 hws)
      have HR7 : Hid (Rd w0 (((w6.setCell ⟨w3.heap.size + 1, 0, none⟩ (.slice B' u.f0.length cB')).setCell ⟨w3.heap.size + 1, 1, none⟩ (.int .i64 (rowsA u))).setCell ⟨w3.heap.size + 1, 2, none⟩ (.int .i64 (colsA u))) g A c l i4 f4) :=
        Lib.hid ⟨((HR6.out.b.setCell (p := ⟨w3.heap.size + 1, 0, none⟩) hw1 _).setCell (p := ⟨w3.heap.size + 1, 1, none⟩) hw1 _).setCell (p := ⟨w3.heap.size + 1, 2, none⟩) hw1 _, ((HR6.out.r.far (p := ⟨w3.heap.size + 1, 0, none⟩) hne3' _).far (p := ⟨w3.heap.size + 1, 1, none⟩) hne3' _).far (p := ⟨w3.heap.size + 1, 2, none⟩) hne3' _, HR6.out.hi⟩
      have e0 := cell3_other (w := w6) (b := w3.heap.size + 1) (.slice B' u.f0.length cB') (.int .i64 (rowsA u)) (.int .i64 (colsA u)) (Nat.ne_of_lt (Nat.lt_succ_self w3.heap.size)) X0
      have e1 := cell3_other (w := w6) (b := w3.heap.size + 1) (.slice B' u.f0.length cB') (.int .i64 (rowsA u)) (.int .i64 (colsA u)) (Nat.ne_of_lt (Nat.lt_succ_self w3.heap.size)) X1
      have e2 := cell3_other (w := w6) (b := w3.heap.size + 1) (.slice B' u.f0.length cB') (.int .i64 (rowsA u)) (.int .i64 (colsA u)) (Nat.ne_of_lt (Nat.lt_succ_self w3.heap.size)) X2
      have e3 := cell3_other (w := w6) (b := w3.heap.size + 1) (.slice B' u.f0.length cB') (.int .i64 (rowsA u)) (.int .i64 (colsA u)) (Nat.ne_of_lt (Nat.lt_succ_self w3.heap.size)) X3
      have e4 := cell3_other (w := w6) (b := w3.heap.size + 1) (.slice B' u.f0.length cB') (.int .i64 (rowsA u)) (.int .i64 (colsA u)) (Nat.ne_of_lt (Nat.lt_succ_self w3.heap.size)) X4
      obtain ⟨e5, e6, e7⟩ := cell3_same (w := w6) (b := w3.heap.size + 1) (.slice B' u.f0.length cB') (.int .i64 (rowsA u)) (.int .i64 (colsA u)) T0 T1 T2
      have HK7 := Lib.hid (HK6.out (((w6.setCell ⟨w3.heap.size + 1, 0, none⟩ (.slice B' u.f0.length cB')).setCell ⟨w3.heap.size + 1, 1, none⟩ (.int .i64 (rowsA u))).setCell ⟨w3.heap.size + 1, 2, none⟩ (.int .i64 (colsA u))) (fun k hk => sets3 _ _ _ _ _ _ (by omega)))
      obtain ⟨r0, r1, r2, s0, s1, s2, hlt⟩ := HR7.out.r
      clear X0 X1 X2 X3 X4 T0 T1 T2 V0 V1 V2 HK6 HR6 HG6 HX6
      generalize (((w6.setCell ⟨w3.heap.size + 1, 0, none⟩ (.slice B' u.f0.length cB')).setCell ⟨w3.heap.size + 1, 1, none⟩ (.int .i64 (rowsA u))).setCell ⟨w3.heap.size + 1, 2, none⟩ (.int .i64 (colsA u))) = w7 at *
      have hfl : (firstL u).length ≤ 4096 := by have := turnedL_len u hu; have h4 := (okA_len u hu).2.2.2; unfold firstL; rw [List.length_take]; omega
      have hcl : (colsA u) ≤ 4096 ∧ rowsA u ≤ 4096 := by have h3 := rows_le u hu; have h4 := (okA_len u hu).2.2.2; omega
      have hpl := placeS_le x (firstL u) (wayS m)
      by_cases h1 : k < 1
      · have d1 : decide (k < 1) = true := by simpa using h1
        rw [if_pos (.inr (.inl h1))] at hE
        subst hE
        go_wp2_with (fail)
        refine (e_any _ 4).mono ?_
        rintro y w7 ⟨rfl, h7⟩
        obtain ⟨z0, z1, z2, z3, z4, y0, y1, y2, y3, y4⟩ := loc5 (gr_then HX7.out (gr_of_below h7 (some g))) hne
        have HR7 := Lib.hid (HR7.out.grow HC.out (gr_of_below h7 none))
        have HG7 := Lib.hid (gr_then HG7.out (gr_of_below h7 (some g)))
        clear h7
        generalize hv : eV 4 = v at *
        have HV := Lib.hid hv
        clear hv
        unfold vv
        go_wp2_with (fail)
        have HE := end5 HD.out HC.out HG7.out HR7.out (.int .i64 v.f0) (.int .i64 v.f1) (.string v.f2) (.bool v.f3) (.int .i64 v.f4)
        refine bodyPost_ret (v := vv v) (by simp [results, Tryz.results58, go_sem, vv, z0, z1, z2, z3, z4]) rfl ⟨by rw [HV.out], HE.1, _, HE.2⟩
      · have d1 : decide (k < 1) = false := by simpa using h1
        by_cases h2 : colsA u < k
        · have d2 : decide (colsA u < k) = true := by simpa using h2
          rw [if_pos (.inr (.inr h2))] at hE
          subst hE
          go_wp2_with (fail)
          refine (e_any _ 4).mono ?_
          rintro y w7 ⟨rfl, h7⟩
          obtain ⟨z0, z1, z2, z3, z4, y0, y1, y2, y3, y4⟩ := loc5 (gr_then HX7.out (gr_of_below h7 (some g))) hne
          have HR7 := Lib.hid (HR7.out.grow HC.out (gr_of_below h7 none))
          have HG7 := Lib.hid (gr_then HG7.out (gr_of_below h7 (some g)))
          clear h7
          generalize hv : eV 4 = v at *
          have HV := Lib.hid hv
          clear hv
          unfold vv
          go_wp2_with (fail)
          have HE := end5 HD.out HC.out HG7.out HR7.out (.int .i64 v.f0) (.int .i64 v.f1) (.string v.f2) (.bool v.f3) (.int .i64 v.f4)
          refine bodyPost_ret (v := vv v) (by simp [results, Tryz.results58, go_sem, vv, z0, z1, z2, z3, z4]) rfl ⟨by rw [HV.out], HE.1, _, HE.2⟩
        · have d2 : decide (colsA u < k) = false := by simpa using h2
          rw [if_neg (fun h => h.elim (fun h => h hf) (fun h => h.elim h1 h2))] at hE
          go_wp2_with (fail)
          refine start_ (n := 7) (S := fun w' => w'.cell? ⟨w3.heap.size, 0, none⟩ = some (.int .i64 x.f0) ∧ w'.cell? ⟨w3.heap.size, 1, none⟩ = some (.int .i64 x.f1) ∧ w'.cell? ⟨w3.heap.size, 2, none⟩ = some (.string x.f2) ∧ w'.cell? ⟨w3.heap.size, 3, none⟩ = some (.bool x.f3) ∧ w'.cell? ⟨w3.heap.size, 4, none⟩ = some (.int .i64 x.f4) ∧ w'.cell? ⟨w3.heap.size + 1, 0, none⟩ = some (.slice B' u.f0.length cB') ∧ w'.cell? ⟨w3.heap.size + 1, 1, none⟩ = some (.int .i64 (rowsA u)) ∧ w'.cell? ⟨w3.heap.size + 1, 2, none⟩ = some (.int .i64 (colsA u))) (ds := []) #[false, false, false, false, false, false, false] (by kernel_rfl) rfl rfl ⟨e0, e1, e2, e3, e4, e5, e6, e7⟩ (fun hHeld => ?_)
          refine take_ (i := 0) (N := some 52) (v := ?_) (a' := ?_) #[true, false, false, false, false, false, false] rfl rfl (by kernel_rfl) (fun _ _ _ h => h) (Or.inl ⟨by rfl, ?_⟩) hHeld ?_ ?_
          rotate_left
          · rintro w' ⟨s0, s1, s2, s3, s4, s5, s6, s7⟩
            go_simp
            with_reducible rfl
          rotate_left
          · simp only [Act.put, List.setIfInBounds_toArray, List.set_cons_zero, List.set_cons_succ, i64_w, i32_w]
            rfl
          refine take_ (i := 1) (N := some 53) (v := ?_) (a' := ?_) #[true, true, false, false, false, false, false] rfl rfl (by kernel_rfl) (fun _ _ _ h => h) (Or.inl ⟨by rfl, ?_⟩) hHeld ?_ ?_
          rotate_left
          · rintro w' ⟨s0, s1, s2, s3, s4, s5, s6, s7⟩
            go_simp
            with_reducible rfl
          rotate_left
          · simp only [Act.put, List.setIfInBounds_toArray, List.set_cons_zero, List.set_cons_succ, i64_w, i32_w]
            rfl
          refine pure_ (i := 3) (N := some 55) (v := ?_) (a' := ?_) #[true, true, false, true, false, false, false] rfl rfl (by kernel_rfl) (fun _ _ _ h => h) (Or.inl ⟨by rfl, ?_⟩) ?_ ?_
          rotate_left
          · intro w'
            go_simp
            with_reducible rfl
          rotate_left
          · simp only [Act.put, List.setIfInBounds_toArray, List.set_cons_zero, List.set_cons_succ, i64_w, i32_w]
            rfl
          refine one_ (i := 2) (N := some 54) #[true, true, true, true, false, false, false] rfl rfl (by kernel_rfl) (by decide) (fun K hK => ?_)
          refine goes_ Tryz.func81 (by kernel_rfl) rfl #[.agg #[.slice B' u.f0.length cB', .int .i64 (rowsA u), .int .i64 (colsA u)]] (by rfl) rfl rfl (by (try simp only [List.map_toArray, List.map_cons, List.map_nil]); first | done | rfl) ?_
          refine (first_any u hu B' cB' _ (Kd.C_below (HK7.out) ((Below.refl _ _).drew)) hcB').mono ?_
          rintro e w6 ⟨B, cB, rfl, hcB, hKB, hb6⟩
          refine ⟨_, rfl, ?_⟩
          replace hb6 := below_undrew hb6
          have p0 := pw_cell_below hb6 e0
          have p1 := pw_cell_below hb6 e1
          have p2 := pw_cell_below hb6 e2
          have p3 := pw_cell_below hb6 e3
          have p4 := pw_cell_below hb6 e4
          have p5 := pw_cell_below hb6 e5
          have p6 := pw_cell_below hb6 e6
          have p7 := pw_cell_below hb6 e7
          refine hK.out _ _ ⟨p0, p1, p2, p3, p4, p5, p6, p7⟩ (fun hHeld => ?_)
          clear hK K
          refine norm_ (a' := ?_) ?_ ?_
          rotate_left
          · show Act.put _ (some 54) _ = _
            simp only [Act.put, List.setIfInBounds_toArray, List.set_cons_zero, List.set_cons_succ, i64_w, i32_w]
            rfl
          refine one_ (i := 4) (N := some 56) #[true, true, true, true, true, false, false] rfl rfl (by kernel_rfl) (by decide) (fun K hK => ?_)
          refine goes_ Tryz.func78 (by kernel_rfl) rfl #[.int .i64 m] (by rfl) rfl rfl (by (try simp only [List.map_toArray, List.map_cons, List.map_nil]); first | done | rfl) ?_
          with_reducible refine (way_any m _).mono ?_
          rintro e w7 ⟨rfl, hb7⟩
          refine ⟨_, rfl, ?_⟩
          have q0 := pw_cell_below hb7 p0
          have q1 := pw_cell_below hb7 p1
          have q2 := pw_cell_below hb7 p2
          have q3 := pw_cell_below hb7 p3
          have q4 := pw_cell_below hb7 p4
          have q5 := pw_cell_below hb7 p5
          have q6 := pw_cell_below hb7 p6
          have q7 := pw_cell_below hb7 p7
          refine hK.out _ _ ⟨q0, q1, q2, q3, q4, q5, q6, q7⟩ (fun hHeld => ?_)
          clear hK K
          refine norm_ (a' := ?_) ?_ ?_
          rotate_left
          · show Act.put _ (some 56) _ = _
            simp only [Act.put, List.setIfInBounds_toArray, List.set_cons_zero, List.set_cons_succ, i64_w, i32_w]
            rfl
          refine one_ (i := 5) (N := some 57) #[true, true, true, true, true, true, false] rfl rfl (by kernel_rfl) (by decide) (fun K hK => ?_)
          refine goes_ Tryz.func10 (by kernel_rfl) rfl #[.agg #[.int .i64 x.f0, .int .i64 x.f1, .string x.f2, .bool x.f3, .int .i64 x.f4], .slice B (firstL u).length cB, .int .i64 (wayS m)] (by rfl) rfl rfl (by (try simp only [List.map_toArray, List.map_cons, List.map_nil]); first | done | rfl) ?_
          refine (place_any x B cB (firstL u) (wayS m) _ (Kd.C_below hKB hb7) hcB hfl).mono ?_
          rintro e w8 ⟨rfl, hb8⟩
          refine ⟨_, rfl, ?_⟩
          have r0 := pw_cell_below hb8 q0
          have r1 := pw_cell_below hb8 q1
          have r2 := pw_cell_below hb8 q2
          have r3 := pw_cell_below hb8 q3
          have r4 := pw_cell_below hb8 q4
          have r5 := pw_cell_below hb8 q5
          have r6 := pw_cell_below hb8 q6
          have r7 := pw_cell_below hb8 q7
          refine hK.out _ _ ⟨r0, r1, r2, r3, r4, r5, r6, r7⟩ (fun hHeld => ?_)
          clear hK K
          refine norm_ (a' := ?_) ?_ ?_
          rotate_left
          · show Act.put _ (some 57) _ = _
            simp only [Act.put, List.setIfInBounds_toArray, List.set_cons_zero, List.set_cons_succ, i64_w, i32_w]
            rfl
          refine pure_ (i := 6) (N := some 11) (v := ?_) (a' := ?_) #[true, true, true, true, true, true, true] rfl rfl (by kernel_rfl) (fun _ _ _ h => h) (Or.inl ⟨by rfl, ?_⟩) ?_ ?_
          rotate_left
          · intro w'
            go_simp
            with_reducible rfl
          rotate_left
          · simp only [Act.put, List.setIfInBounds_toArray, List.set_cons_zero, List.set_cons_succ, i64_w, i32_w]
            rfl
          refine done_ (by kernel_rfl) ?_
          have HR8 := Lib.hid (HR7.out.grow HC.out (gr_then (gr_of_below hb6 none) (gr_then (gr_of_below hb7 none) (gr_of_below hb8 none))))
          have HG8 := Lib.hid (gr_then HG7.out (gr_then (gr_of_below hb6 (some g)) (gr_then (gr_of_below hb7 (some g)) (gr_of_below hb8 (some g)))))
          have HX8 := Lib.hid (gr_then HX7.out (gr_then (gr_of_below hb6 (some g)) (gr_then (gr_of_below hb7 (some g)) (gr_of_below hb8 (some g)))))
          have hrd8 := Kd.C_below (Kd.C_below (Kd.C_below (HK7.out) hb6) hb7) hb8
          have HRD8 := Lib.hid hrd8
          clear hrd8 hKB hcB hb6 hb7 hb8 p0 p1 p2 p3 p4 p5 p6 p7 q0 q1 q2 q3 q4 q5 q6 q7 r0 r1 r2 r3 r4
          clear e0 e1 e2 e3 e4 e5 e6 e7
          by_cases hz : placeS x (firstL u) (wayS m) = 0
          · rw [if_pos hz] at hE
            subst hE
            have hz1 : (placeS x (firstL u) (wayS m) == 0) = true := by simpa using hz
            go_wp2_with (fail)
            refine (e_any _ 6).mono ?_
            rintro y w7 ⟨rfl, h7⟩
            obtain ⟨z0, z1, z2, z3, z4, y0, y1, y2, y3, y4⟩ := loc5 (gr_then HX8.out (gr_of_below h7 (some g))) hne
            have HR7 := Lib.hid (HR8.out.grow HC.out (gr_of_below h7 none))
            have HG7 := Lib.hid (gr_then HG8.out (gr_of_below h7 (some g)))
            clear h7
            generalize hv : eV 6 = v at *
            have HV := Lib.hid hv
            clear hv
            unfold vv
            go_wp2_with (fail)
            have HE := end5 HD.out HC.out HG7.out HR7.out (.int .i64 v.f0) (.int .i64 v.f1) (.string v.f2) (.bool v.f3) (.int .i64 v.f4)
            refine bodyPost_ret (v := vv v) (by simp [results, Tryz.results58, go_sem, vv, z0, z1, z2, z3, z4]) rfl ⟨by rw [HV.out], HE.1, _, HE.2⟩
          · rw [if_neg hz] at hE
            subst hE
            have hz1 : (placeS x (firstL u) (wayS m) == 0) = false := by simpa using hz
            go_wp2_with (fail)
            have hat := at_any u hu (placeS x (firstL u) (wayS m)) k B' cB' w8 HRD8.out hcB'
            unfold tbv at hat
            refine (hat).mono ?_
            rintro y w7 ⟨rfl, h7⟩
            obtain ⟨z0, z1, z2, z3, z4, y0, y1, y2, y3, y4⟩ := loc5 (gr_then HX8.out (gr_of_below h7 (some g))) hne
            have HR7 := Lib.hid (HR8.out.grow HC.out (gr_of_below h7 none))
            have HG7 := Lib.hid (gr_then HG8.out (gr_of_below h7 (some g)))
            clear h7
            generalize hv : atS u (placeS x (firstL u) (wayS m)) k = v at *
            have HV := Lib.hid hv
            clear hv
            unfold vv
            go_wp2_with (fail)
            have HE := end5 HD.out HC.out HG7.out HR7.out (.int .i64 v.f0) (.int .i64 v.f1) (.string v.f2) (.bool v.f3) (.int .i64 v.f4)
            refine bodyPost_ret (v := vv v) (by simp [results, Tryz.results58, go_sem, vv, z0, z1, z2, z3, z4]) rfl ⟨by rw [HV.out], HE.1, _, HE.2⟩
    · have hf1 : (f4 != 0) = true := by simpa using hf
      have hf2 : (f4 == 0) = false := by simpa using hf
      rw [if_pos (.inl hf)] at hE
      subst hE
      go_wp2_with (fail)
      refine (e_any _ 4).mono ?_
      rintro y w7 ⟨rfl, h7⟩
      obtain ⟨z0, z1, z2, z3, z4, y0, y1, y2, y3, y4⟩ := loc5 (gr_then HX5.out (gr_of_below h7 (some g))) hne
      have HR7 := Lib.hid (HR5.out.grow HC.out (gr_of_below h7 none))
      have HG7 := Lib.hid (gr_then HG5.out (gr_of_below h7 (some g)))
      clear h7
      generalize hv : eV 4 = v at *
      have HV := Lib.hid hv
      clear hv
      unfold vv
      go_wp2_with (fail)
      have HE := end5 HD.out HC.out HG7.out HR7.out (.int .i64 v.f0) (.int .i64 v.f1) (.string v.f2) (.bool v.f3) (.int .i64 v.f4)
      refine bodyPost_ret (v := vv v) (by simp [results, Tryz.results58, go_sem, vv, z0, z1, z2, z3, z4]) rfl ⟨by rw [HV.out], HE.1, _, HE.2⟩
end Go.Proofs.YtcihleahjnpaaaaGreatDoor.H
namespace Go.Proofs.YtcihleahjnpaaaaGreatDoor.P
open Go.RowKit Go.Proofs.YtcihleahjnpaaaaGreatDoor.Q Go.Proofs.YtcihleahjnpaaaaGreatDoor.H Go.Proofs.YtcihleahjnpaaaaGreatDoorW.PrintWords Go.Proofs.YtcihleahjnpaaaaGreatDoorW.PrintLast Go.Proofs.YtcihleahjnpaaaaGreatDoorW.PrintMore
attribute [local go_sem] max2_int min2_int max_two min_two max_three min_three max_four min_four   -- for this text's walks alone
set_option linter.unusedVariables false
set_option linter.unusedSimpArgs false
def sums_Arg_Good.f (l0_0 : List (S29)) (a0_1 : Int) (a0_2 : Bool) : Option (Bool) := if a0_2 = true then (if a0_1 > 0 then (if (l0_0.length : Int) ≥ 1 then (if (l0_0.length : Int) ≤ 4096 then (if a0_1 = 0 then (none) else (some (((l0_0.length : Int) % a0_1) == 0))) else (some false)) else (some false)) else (some false)) else (if (l0_0.length : Int) = 1 then (some (a0_1 == 0)) else (some false))
set_option maxHeartbeats 8000000 in
set_option maxRecDepth 100000 in
theorem sums_Arg_Good.calls (A0_0 : Option Addr) (c0_0 : Nat) (l0_0 : List (S29)) (a0_1 : Int) (a0_2 : Bool) (r : Bool) (w : World) (hr0_0 : Kd.C k29 w A0_0 l0_0.length l0_0) (hc0_0 : l0_0.length ≤ c0_0) (h : sums_Arg_Good.f l0_0 a0_1 a0_2 = some r) :
  Calls Tryz.prog 33 #[.agg #[.slice A0_0 l0_0.length c0_0, .int .i64 a0_1, .bool a0_2]] w fun e w' => e = .returned (.bool r) ∧ Below w.heap.size w w' := by
 have hu67 := Tryz.underlying67
 have HR0_0 := Aside0.mk hr0_0
 have HC0_0 := Aside0.mk hc0_0
 clear hr0_0 hc0_0
 have HB := Aside0.mk (Below.refl w.heap.size w)
 have H : (if a0_2 = true then (if a0_1 > 0 then (if (l0_0.length : Int) ≥ 1 then (if (l0_0.length : Int) ≤ 4096 then (if a0_1 = 0 then (none) else (some (((l0_0.length : Int) % a0_1) == 0))) else (some false)) else (some false)) else (some false)) else (if (l0_0.length : Int) = 1 then (some (a0_1 == 0)) else (some false))) = some r := h
 clear h
 by_cases c2 : a0_2 = true
 ·subst c2
  have H1 : (if a0_1 > 0 then (if (l0_0.length : Int) ≥ 1 then (if (l0_0.length : Int) ≤ 4096 then (if a0_1 = 0 then (none) else (some (((l0_0.length : Int) % a0_1) == 0))) else (some false)) else (some false)) else (some false)) = some r := by rw [if_pos rfl] at H; exact H
  clear H
  have H := H1
  clear H1
  by_cases c3 : a0_1 > 0
  ·rw [if_pos c3] at H
   have c3b0 : decide (0 < a0_1) = true := decide_eq_true c3
   clear c3
   by_cases c4 : (l0_0.length : Int) ≥ 1
   ·rw [if_pos c4] at H
    have c4b0 : decide (1 ≤ (l0_0.length : Int)) = true := decide_eq_true c4
    have c4b1 : decide (1 ≤ l0_0.length) = true := decide_eq_true (by omega)
    clear c4
    by_cases c5 : (l0_0.length : Int) ≤ 4096
    ·rw [if_pos c5] at H
     have c5b0 : decide ((l0_0.length : Int) ≤ 4096) = true := decide_eq_true c5
     have c5b1 : decide (l0_0.length ≤ 4096) = true := decide_eq_true (by omega)
     clear c5
     by_cases c6 : a0_1 = 0
     ·rw [if_pos c6] at H
      exact absurd H (by simp)
     ·rw [if_neg c6] at H
      have c6b0 : (a0_1 == 0) = false := beq_eq_false_iff_ne.mpr c6
      have c6b1 : (a0_1 != 0) = true := bne_iff_ne.mpr c6
      obtain rfl := Option.some.inj H
      go_enter Tryz.func33, Tryz.ntmps33
      go_wp2_with (first | ((with_reducible refine gate_dst (N := 1) rfl ?_); (try (refine gate_guard (by rfl) ?_; dsimp only)); refine bx (N := 1) (cs := #[.slice A0_0 l0_0.length c0_0, .int .i64 a0_1, .bool true]) (t := 67) ?_; intro gb767 hg w7 hbox hb; have BK767 := Aside0.mk (hbox); have GW767 := (bw hg); have GE767 := (bw hg); replace HB := (bs hb); clear hb hbox hg; obtain ⟨hcz8_0, hcz8_1, hcz8_2, hfz8_0, hfz8_1, hfz8_2⟩ := bc3 BK767))
      go_ret
      exact ⟨by first | rfl | (simp [errW_none, errW_some] <;> rfl) | (simp [*, errW_none, errW_some] <;> rfl), be⟩
    ·rw [if_neg c5] at H
     have c5b0 : decide ((l0_0.length : Int) ≤ 4096) = false := decide_eq_false c5
     have c5b1 : decide (l0_0.length ≤ 4096) = false := decide_eq_false (by omega)
     clear c5
     obtain rfl := Option.some.inj H
     go_enter Tryz.func33, Tryz.ntmps33
     go_wp2_with (first | ((with_reducible refine gate_dst (N := 1) rfl ?_); (try (refine gate_guard (by rfl) ?_; dsimp only)); refine bx (N := 1) (cs := #[.slice A0_0 l0_0.length c0_0, .int .i64 a0_1, .bool true]) (t := 67) ?_; intro gb767 hg w9 hbox hb; have BK767 := Aside0.mk (hbox); have GW767 := (bw hg); have GE767 := (bw hg); replace HB := (bs hb); clear hb hbox hg; obtain ⟨hcz10_0, hcz10_1, hcz10_2, hfz10_0, hfz10_1, hfz10_2⟩ := bc3 BK767))
     go_ret
     exact ⟨by first | rfl | (simp [errW_none, errW_some] <;> rfl) | (simp [*, errW_none, errW_some] <;> rfl), be⟩
   ·rw [if_neg c4] at H
    have c4b0 : decide (1 ≤ (l0_0.length : Int)) = false := decide_eq_false c4
    have c4b1 : decide (1 ≤ l0_0.length) = false := decide_eq_false (by omega)
    clear c4
    obtain rfl := Option.some.inj H
    go_enter Tryz.func33, Tryz.ntmps33
    go_wp2_with (first | ((with_reducible refine gate_dst (N := 1) rfl ?_); (try (refine gate_guard (by rfl) ?_; dsimp only)); refine bx (N := 1) (cs := #[.slice A0_0 l0_0.length c0_0, .int .i64 a0_1, .bool true]) (t := 67) ?_; intro gb767 hg w11 hbox hb; have BK767 := Aside0.mk (hbox); have GW767 := (bw hg); have GE767 := (bw hg); replace HB := (bs hb); clear hb hbox hg; obtain ⟨hcz12_0, hcz12_1, hcz12_2, hfz12_0, hfz12_1, hfz12_2⟩ := bc3 BK767))
    go_ret
    exact ⟨by first | rfl | (simp [errW_none, errW_some] <;> rfl) | (simp [*, errW_none, errW_some] <;> rfl), be⟩
  ·rw [if_neg c3] at H
   have c3b0 : decide (0 < a0_1) = false := decide_eq_false c3
   clear c3
   obtain rfl := Option.some.inj H
   go_enter Tryz.func33, Tryz.ntmps33
   go_wp2_with (first | ((with_reducible refine gate_dst (N := 1) rfl ?_); (try (refine gate_guard (by rfl) ?_; dsimp only)); refine bx (N := 1) (cs := #[.slice A0_0 l0_0.length c0_0, .int .i64 a0_1, .bool true]) (t := 67) ?_; intro gb767 hg w13 hbox hb; have BK767 := Aside0.mk (hbox); have GW767 := (bw hg); have GE767 := (bw hg); replace HB := (bs hb); clear hb hbox hg; obtain ⟨hcz14_0, hcz14_1, hcz14_2, hfz14_0, hfz14_1, hfz14_2⟩ := bc3 BK767))
   go_ret
   exact ⟨by first | rfl | (simp [errW_none, errW_some] <;> rfl) | (simp [*, errW_none, errW_some] <;> rfl), be⟩
 ·replace c2 := Bool.eq_false_iff.mpr c2
  subst c2
  have H1 : (if (l0_0.length : Int) = 1 then (some (a0_1 == 0)) else (some false)) = some r := by rw [if_neg (show ¬ (false = true) by decide)] at H; exact H
  clear H
  have H := H1
  clear H1
  by_cases c15 : (l0_0.length : Int) = 1
  ·rw [if_pos c15] at H
   have c15b0 : ((l0_0.length : Int) == 1) = true := beq_iff_eq.mpr c15
   have c15b1 : ((l0_0.length : Int) != 1) = false := bne_eq_false_iff_eq.mpr c15
   clear c15
   obtain rfl := Option.some.inj H
   go_enter Tryz.func33, Tryz.ntmps33
   go_wp2_with (first | ((with_reducible refine gate_dst (N := 1) rfl ?_); (try (refine gate_guard (by rfl) ?_; dsimp only)); refine bx (N := 1) (cs := #[.slice A0_0 l0_0.length c0_0, .int .i64 a0_1, .bool false]) (t := 67) ?_; intro gb767 hg w16 hbox hb; have BK767 := Aside0.mk (hbox); have GW767 := (bw hg); have GE767 := (bw hg); replace HB := (bs hb); clear hb hbox hg; obtain ⟨hcz17_0, hcz17_1, hcz17_2, hfz17_0, hfz17_1, hfz17_2⟩ := bc3 BK767))
   go_ret
   exact ⟨by first | rfl | (simp [errW_none, errW_some] <;> rfl) | (simp [*, errW_none, errW_some] <;> rfl), be⟩
  ·rw [if_neg c15] at H
   have c15b0 : ((l0_0.length : Int) == 1) = false := beq_eq_false_iff_ne.mpr c15
   have c15b1 : ((l0_0.length : Int) != 1) = true := bne_iff_ne.mpr c15
   obtain rfl := Option.some.inj H
   go_enter Tryz.func33, Tryz.ntmps33
   go_wp2_with (first | ((with_reducible refine gate_dst (N := 1) rfl ?_); (try (refine gate_guard (by rfl) ?_; dsimp only)); refine bx (N := 1) (cs := #[.slice A0_0 l0_0.length c0_0, .int .i64 a0_1, .bool false]) (t := 67) ?_; intro gb767 hg w18 hbox hb; have BK767 := Aside0.mk (hbox); have GW767 := (bw hg); have GE767 := (bw hg); replace HB := (bs hb); clear hb hbox hg; obtain ⟨hcz19_0, hcz19_1, hcz19_2, hfz19_0, hfz19_1, hfz19_2⟩ := bc3 BK767))
   go_ret
   exact ⟨by first | rfl | (simp [errW_none, errW_some] <;> rfl) | (simp [*, errW_none, errW_some] <;> rfl), be⟩
end Go.Proofs.YtcihleahjnpaaaaGreatDoor.P
namespace Go.Proofs.YtcihleahjnpaaaaGreatDoor.H
open Go.RowKit Go.Proofs.YtcihleahjnpaaaaGreatDoor.P Go.Proofs.YtcihleahjnpaaaaGreatDoor.T Go.Proofs.YtcihleahjnpaaaaGreatDoorW.PrintWords Go.Proofs.YtcihleahjnpaaaaGreatDoorW.PrintLast Go.Proofs.YtcihleahjnpaaaaGreatDoorW.PrintMore
set_option linter.unusedVariables false
set_option linter.unusedSimpArgs false
theorem okA_f (a : AR) : sums_Arg_Good.f a.f0 a.f1 a.f2 = some (okA a) := by
  unfold sums_Arg_Good.f okA
  by_cases h : a.f2 = true
  · rw [if_pos h, if_pos h]
    by_cases h1 : a.f1 > 0
    · rw [if_pos h1, decide_eq_true (show 0 < a.f1 from h1)]
      by_cases h2 : (a.f0.length : Int) ≥ 1
      · rw [if_pos h2, decide_eq_true (show 1 ≤ a.f0.length by omega)]
        by_cases h3 : (a.f0.length : Int) ≤ 4096
        · rw [if_pos h3, decide_eq_true (show a.f0.length ≤ 4096 by omega), if_neg (by omega)]
          by_cases h4 : (a.f0.length : Int) % a.f1 = 0
          · simp [h4]
          · simp [h4]
        · rw [if_neg h3, decide_eq_false (show ¬ a.f0.length ≤ 4096 by omega)]; rfl
      · rw [if_neg h2, decide_eq_false (show ¬ 1 ≤ a.f0.length by omega)]; rfl
    · rw [if_neg h1, decide_eq_false (show ¬ 0 < a.f1 from h1)]; rfl
  · rw [if_neg h, if_neg h]
    by_cases h1 : (a.f0.length : Int) = 1
    · rw [if_pos h1, show (a.f0.length == 1) = true by rw [beq_iff_eq]; omega]; rfl
    · rw [if_neg h1, show (a.f0.length == 1) = false by rw [beq_eq_false_iff_ne]; omega]; rfl
theorem goodA_any (a : AR) (A : Option Addr) (c : Nat) (w : World) (hr : Kd.C kV w A a.f0.length a.f0) (hc : a.f0.length ≤ c) :
    Calls Tryz.prog 33 #[argv A c a] w fun e w' => e = .returned (.bool (okA a)) ∧ Below w.heap.size w w' :=
  sums_Arg_Good.calls A c a.f0 a.f1 a.f2 _ w hr hc (okA_f a)
set_option maxHeartbeats 1000000 in
theorem bad1_any (a : AR) (A : Option Addr) (c : Nat) (w : World) (hr : Kd.C kV w A a.f0.length a.f0) (hc : a.f0.length ≤ c) :
    Calls Tryz.prog 32 #[argv A c a] w fun e w' => e = .returned (.bool (!okA a)) ∧ Below w.heap.size w w' := by
  have H := Lib.hid (goodA_any a A c (w.alloc (.cells #[.slice A a.f0.length c, .int .i64 a.f1, .bool a.f2] 67)) (Kd.C_below hr (below_alloc (Below.refl _ _) _)) hc)
  clear hr
  unfold argv at *
  go_enter Tryz.func32, Tryz.ntmps32
  go_wp2_with (fail)
  refine H.out.mono ?_
  rintro e w1 ⟨rfl, hb⟩
  go_wp2_with (fail)
  go_ret
  exact ⟨rfl, (below_alloc (Below.refl _ _) _).trans (hb.mono (by simp))⟩
set_option maxHeartbeats 2000000 in
set_option maxRecDepth 100000 in
theorem index_any (l : List AR) (A : Option Addr) (c : Nat) (w : World) (hr : Kd.C kA w A l.length l) (hl : l.length ≤ 4096) :
    Calls Tryz.prog 55 #[.slice A l.length c, .func (.func 32) #[] #[]] w fun e w' => ∃ i : Int, e = .returned (.int .i64 i) ∧ (decide (0 ≤ i) = l.any (fun a => !okA a)) ∧ Below w.heap.size w w' := by
  go_enter Tryz.func55, Tryz.ntmps55
  go_wp2_with (fail)
  have HR := Lib.hid hr
  clear hr
  go_loopw [8] (fun i wr => ∃ k : Nat, k ≤ l.length ∧ i = .int .i64 k ∧ Below w.heap.size w wr ∧ (l.take k).all okA = true) (fun i _ => l.length - (intOf i).toNat)
  case atStart => exact ⟨0, Nat.zero_le _, rfl, Below.refl _ _, rfl⟩
  case round =>
    obtain ⟨k, hk, rfl, hb, hall⟩ := hrel
    have HB := Lib.hid hb
    have HA := Lib.hid hall
    clear hall hb
    by_cases hlt : k < l.length
    · obtain ⟨ad, A', c', rfl, had, k0, k1, k2, k3, k4⟩ := next_cells HR.out HB.out k hlt
      have hl0 : (0 : Int) ≤ (k : Int) := by omega
      have hl1 : (k : Int) < (l.length : Int) := by omega
      have hd1 : decide ((k : Int) < (l.length : Int)) = true := by simpa using hlt
      have K4 := Lib.hid k4
      have hts := Lib.hid (show l.take (k + 1) = l.take k ++ [l[k]] from List.take_succ_eq_append_getElem hlt)
      have hmem : l[k] ∈ l := List.getElem_mem hlt
      clear k4
      generalize l[k] = a at *
      have H := Lib.hid (fun W (h : Below wr.heap.size wr W) => bad1_any a A' c' W (Kd.C_below K4.out (HB.out.trans (h.mono HB.out.size))) k3)
      by_cases hok : okA a = true
      · have hno : (!okA a) = false := by rw [hok]; rfl
        go_wp2_with (fail)
        refine (H.out _ (Below.refl _ _)).mono ?_
        rintro e w1 ⟨rfl, hb1⟩
        rw [hno]
        have HB1 := Lib.hid (HB.out.trans (hb1.mono HB.out.size))
        clear hb1
        go_wp2_with (fail)
        go_roundw
        case rel => exact ⟨k + 1, by omega, by go_num, HB1.out, by rw [hts.out, List.all_append, HA.out]; simp [hok]⟩
        case measure => simp [intOf]; omega
      · have hno : (!okA a) = true := by simpa using hok
        go_wp2_with (fail)
        refine (H.out _ (Below.refl _ _)).mono ?_
        rintro e w1 ⟨rfl, hb1⟩
        rw [hno]
        have HB1 := Lib.hid (HB.out.trans (hb1.mono HB.out.size))
        clear hb1
        go_wp2_with (fail)
        go_ret
        refine ⟨(k : Int), rfl, ?_, HB1.out⟩
        rw [decide_eq_true hl0]
        exact (List.any_eq_true.2 ⟨a, hmem, hno⟩).symm
    · obtain rfl : k = l.length := by omega
      have hd1 : decide ((l.length : Int) < (l.length : Int)) = false := by simp
      go_wp2_with (fail)
      go_ret
      refine ⟨-1, rfl, ?_, HB.out⟩
      have h1 := HA.out
      rw [List.take_length] at h1
      have h2 : l.any (fun a => !okA a) = false := by
        rw [List.any_eq_false]
        intro a ha
        rw [List.all_eq_true.1 h1 a ha]
        simp
      rw [h2]
      rfl
theorem contains_any (l : List AR) (A : Option Addr) (c : Nat) (w : World) (hr : Kd.C kA w A l.length l) (hl : l.length ≤ 4096) :
    Calls Tryz.prog 31 #[.slice A l.length c, .func (.func 32) #[] #[]] w fun e w' => e = .returned (.bool (l.any (fun a => !okA a))) ∧ Below w.heap.size w w' := by
  have H := Lib.hid (index_any l A c w hr hl)
  clear hr
  go_enter Tryz.func31, Tryz.ntmps31
  go_wp2_with (fail)
  refine H.out.mono ?_
  rintro e w1 ⟨i, rfl, hi, hb⟩
  have HI := Lib.hid hi
  clear hi
  go_wp2_with (fail)
  go_ret
  exact ⟨by rw [HI.out]; rfl, hb⟩
end Go.Proofs.YtcihleahjnpaaaaGreatDoor.H
namespace Go.Proofs.YtcihleahjnpaaaaGreatDoor.H
open Go.RowKit Go.Proofs.YtcihleahjnpaaaaGreatDoor.P Go.Proofs.YtcihleahjnpaaaaGreatDoor.T Go.Proofs.YtcihleahjnpaaaaGreatDoorW.PrintWords Go.Proofs.YtcihleahjnpaaaaGreatDoorW.PrintLast Go.Proofs.YtcihleahjnpaaaaGreatDoorW.PrintMore
set_option linter.unusedVariables false
set_option linter.unusedSimpArgs false
def rowsS (l : List AR) : V × Int := (wholeV (rowsA (nextS l 0).1), 0)
def colsS (l : List AR) : V × Int := (wholeV (colsA (nextS l 0).1), 0)
set_option maxHeartbeats 2000000 in
set_option maxRecDepth 100000 in
theorem told_match {w0 w : World} {g : Nat} {A : Option Addr} {c : Nat} {l : List AR} (hc : Cx w0 g A l) (h : Rd w0 w g A c l 0 0) :
    Calls Tryz.prog 34 #[.string ⟨#[77, 65, 84, 67, 72]⟩, .pointer (some ⟨g, 0, none⟩)] w fun e w' => e = .returned (vv (matchS l).1) ∧ w.grownBy w' (some g) ∧ ∃ j, Rd w0 w' g A c l j (matchS l).2 := by
  have hne := h.ne
  have HA0 := Lib.hid (gr_alloc (gr_refl w none) (.cells #[.int .i64 0, .int .i64 0, .string ⟨#[]⟩, .bool false, .int .i64 0] 29))
  have HT := match_rd hc (h.grow hc HA0.out)
  generalize matchS l = s at *
  obtain ⟨v, f⟩ := s
  simp only at HT ⊢
  have HT := Lib.hid HT
  have HC := Lib.hid hc
  have HD := Lib.hid h
  clear hc h
  go_enter Tryz.func34, Tryz.ntmps34
  go_wp2_with (fail)
  refine HT.out.mono ?_
  rintro y w2 ⟨rfl, h2, j, h3⟩
  obtain ⟨z0, z1, z2, z3, z4, y0, y1, y2, y3, y4⟩ := loc5 h2 hne
  have HG3 := Lib.hid (gr_then (gr_alloc (gr_refl w (some g)) (.cells #[.int .i64 0, .int .i64 0, .string ⟨#[]⟩, .bool false, .int .i64 0] 29)) h2)
  have HR3 := Lib.hid h3
  clear h2 h3 HT
  have hne1 : ¬ w.heap.size = g := hne
  unfold vv
  go_wp2_with (fail)
  have HE := end5 HD.out HC.out HG3.out HR3.out (.int .i64 v.f0) (.int .i64 v.f1) (.string v.f2) (.bool v.f3) (.int .i64 v.f4)
  refine bodyPost_ret (v := vv v) (by simp [results, Tryz.results34, go_sem, vv, z0, z1, z2, z3, z4]) rfl ⟨rfl, HE.1, _, HE.2⟩
set_option maxHeartbeats 2000000 in
set_option maxRecDepth 100000 in
theorem told_index {w0 w : World} {g : Nat} {A : Option Addr} {c : Nat} {l : List AR} (hc : Cx w0 g A l) (h : Rd w0 w g A c l 0 0) (hl : 0 < l.length) :
    Calls Tryz.prog 34 #[.string ⟨#[73, 78, 68, 69, 88]⟩, .pointer (some ⟨g, 0, none⟩)] w fun e w' => e = .returned (vv (indexS l).1) ∧ w.grownBy w' (some g) ∧ ∃ j, Rd w0 w' g A c l j (indexS l).2 := by
  have hne := h.ne
  have HA0 := Lib.hid (gr_alloc (gr_refl w none) (.cells #[.int .i64 0, .int .i64 0, .string ⟨#[]⟩, .bool false, .int .i64 0] 29))
  have HT := index_rd hc (h.grow hc HA0.out) hl
  generalize indexS l = s at *
  obtain ⟨v, f⟩ := s
  simp only at HT ⊢
  have HT := Lib.hid HT
  have HC := Lib.hid hc
  have HD := Lib.hid h
  clear hc h
  go_enter Tryz.func34, Tryz.ntmps34
  go_wp2_with (fail)
  refine HT.out.mono ?_
  rintro y w2 ⟨rfl, h2, j, h3⟩
  obtain ⟨z0, z1, z2, z3, z4, y0, y1, y2, y3, y4⟩ := loc5 h2 hne
  have HG3 := Lib.hid (gr_then (gr_alloc (gr_refl w (some g)) (.cells #[.int .i64 0, .int .i64 0, .string ⟨#[]⟩, .bool false, .int .i64 0] 29)) h2)
  have HR3 := Lib.hid h3
  clear h2 h3 HT
  have hne1 : ¬ w.heap.size = g := hne
  unfold vv
  go_wp2_with (fail)
  have HE := end5 HD.out HC.out HG3.out HR3.out (.int .i64 v.f0) (.int .i64 v.f1) (.string v.f2) (.bool v.f3) (.int .i64 v.f4)
  refine bodyPost_ret (v := vv v) (by simp [results, Tryz.results34, go_sem, vv, z0, z1, z2, z3, z4]) rfl ⟨rfl, HE.1, _, HE.2⟩
set_option maxHeartbeats 2000000 in
set_option maxRecDepth 100000 in
theorem told_vl {w0 w : World} {g : Nat} {A : Option Addr} {c : Nat} {l : List AR} (hc : Cx w0 g A l) (h : Rd w0 w g A c l 0 0) (hl : 1 < l.length) :
    Calls Tryz.prog 34 #[.string ⟨#[86, 76, 79, 79, 75, 85, 80]⟩, .pointer (some ⟨g, 0, none⟩)] w fun e w' => e = .returned (vv (lookupS false l).1) ∧ w.grownBy w' (some g) ∧ ∃ j, Rd w0 w' g A c l j (lookupS false l).2 := by
  have hne := h.ne
  have HA0 := Lib.hid (gr_alloc (gr_refl w none) (.cells #[.int .i64 0, .int .i64 0, .string ⟨#[]⟩, .bool false, .int .i64 0] 29))
  have HT := lookup_rd false hc (h.grow hc HA0.out) hl
  generalize lookupS false l = s at *
  obtain ⟨v, f⟩ := s
  simp only at HT ⊢
  have HT := Lib.hid HT
  have HC := Lib.hid hc
  have HD := Lib.hid h
  clear hc h
  go_enter Tryz.func34, Tryz.ntmps34
  go_wp2_with (fail)
  refine HT.out.mono ?_
  rintro y w2 ⟨rfl, h2, j, h3⟩
  obtain ⟨z0, z1, z2, z3, z4, y0, y1, y2, y3, y4⟩ := loc5 h2 hne
  have HG3 := Lib.hid (gr_then (gr_alloc (gr_refl w (some g)) (.cells #[.int .i64 0, .int .i64 0, .string ⟨#[]⟩, .bool false, .int .i64 0] 29)) h2)
  have HR3 := Lib.hid h3
  clear h2 h3 HT
  have hne1 : ¬ w.heap.size = g := hne
  unfold vv
  go_wp2_with (fail)
  have HE := end5 HD.out HC.out HG3.out HR3.out (.int .i64 v.f0) (.int .i64 v.f1) (.string v.f2) (.bool v.f3) (.int .i64 v.f4)
  refine bodyPost_ret (v := vv v) (by simp [results, Tryz.results34, go_sem, vv, z0, z1, z2, z3, z4]) rfl ⟨rfl, HE.1, _, HE.2⟩
set_option maxHeartbeats 2000000 in
set_option maxRecDepth 100000 in
theorem told_hl {w0 w : World} {g : Nat} {A : Option Addr} {c : Nat} {l : List AR} (hc : Cx w0 g A l) (h : Rd w0 w g A c l 0 0) (hl : 1 < l.length) :
    Calls Tryz.prog 34 #[.string ⟨#[72, 76, 79, 79, 75, 85, 80]⟩, .pointer (some ⟨g, 0, none⟩)] w fun e w' => e = .returned (vv (lookupS true l).1) ∧ w.grownBy w' (some g) ∧ ∃ j, Rd w0 w' g A c l j (lookupS true l).2 := by
  have hne := h.ne
  have HA0 := Lib.hid (gr_alloc (gr_refl w none) (.cells #[.int .i64 0, .int .i64 0, .string ⟨#[]⟩, .bool false, .int .i64 0] 29))
  have HT := lookup_rd true hc (h.grow hc HA0.out) hl
  generalize lookupS true l = s at *
  obtain ⟨v, f⟩ := s
  simp only at HT ⊢
  have HT := Lib.hid HT
  have HC := Lib.hid hc
  have HD := Lib.hid h
  clear hc h
  go_enter Tryz.func34, Tryz.ntmps34
  go_wp2_with (fail)
  refine HT.out.mono ?_
  rintro y w2 ⟨rfl, h2, j, h3⟩
  obtain ⟨z0, z1, z2, z3, z4, y0, y1, y2, y3, y4⟩ := loc5 h2 hne
  have HG3 := Lib.hid (gr_then (gr_alloc (gr_refl w (some g)) (.cells #[.int .i64 0, .int .i64 0, .string ⟨#[]⟩, .bool false, .int .i64 0] 29)) h2)
  have HR3 := Lib.hid h3
  clear h2 h3 HT
  have hne1 : ¬ w.heap.size = g := hne
  unfold vv
  go_wp2_with (fail)
  have HE := end5 HD.out HC.out HG3.out HR3.out (.int .i64 v.f0) (.int .i64 v.f1) (.string v.f2) (.bool v.f3) (.int .i64 v.f4)
  refine bodyPost_ret (v := vv v) (by simp [results, Tryz.results34, go_sem, vv, z0, z1, z2, z3, z4]) rfl ⟨rfl, HE.1, _, HE.2⟩
set_option maxHeartbeats 2000000 in
set_option maxRecDepth 100000 in
theorem told_beside {w0 w : World} {g : Nat} {A : Option Addr} {c : Nat} {l : List AR} (hc : Cx w0 g A l) (h : Rd w0 w g A c l 0 0) :
    Calls Tryz.prog 34 #[.string ⟨#[76, 79, 79, 75, 85, 80]⟩, .pointer (some ⟨g, 0, none⟩)] w fun e w' => e = .returned (vv (besideS l).1) ∧ w.grownBy w' (some g) ∧ ∃ j, Rd w0 w' g A c l j (besideS l).2 := by
  have hne := h.ne
  have HA0 := Lib.hid (gr_alloc (gr_refl w none) (.cells #[.int .i64 0, .int .i64 0, .string ⟨#[]⟩, .bool false, .int .i64 0] 29))
  have HT := look_rd hc (h.grow hc HA0.out)
  generalize besideS l = s at *
  obtain ⟨v, f⟩ := s
  simp only at HT ⊢
  have HT := Lib.hid HT
  have HC := Lib.hid hc
  have HD := Lib.hid h
  clear hc h
  go_enter Tryz.func34, Tryz.ntmps34
  go_wp2_with (fail)
  refine HT.out.mono ?_
  rintro y w2 ⟨rfl, h2, j, h3⟩
  obtain ⟨z0, z1, z2, z3, z4, y0, y1, y2, y3, y4⟩ := loc5 h2 hne
  have HG3 := Lib.hid (gr_then (gr_alloc (gr_refl w (some g)) (.cells #[.int .i64 0, .int .i64 0, .string ⟨#[]⟩, .bool false, .int .i64 0] 29)) h2)
  have HR3 := Lib.hid h3
  clear h2 h3 HT
  have hne1 : ¬ w.heap.size = g := hne
  unfold vv
  go_wp2_with (fail)
  have HE := end5 HD.out HC.out HG3.out HR3.out (.int .i64 v.f0) (.int .i64 v.f1) (.string v.f2) (.bool v.f3) (.int .i64 v.f4)
  refine bodyPost_ret (v := vv v) (by simp [results, Tryz.results34, go_sem, vv, z0, z1, z2, z3, z4]) rfl ⟨rfl, HE.1, _, HE.2⟩
set_option maxHeartbeats 2000000 in
set_option maxRecDepth 100000 in
theorem told_choose {w0 w : World} {g : Nat} {A : Option Addr} {c : Nat} {l : List AR} (hc : Cx w0 g A l) (h : Rd w0 w g A c l 0 0) (hcap : l.length ≤ c) :
    Calls Tryz.prog 34 #[.string ⟨#[67, 72, 79, 79, 83, 69]⟩, .pointer (some ⟨g, 0, none⟩)] w fun e w' => e = .returned (vv (chooseS l).1) ∧ w.grownBy w' (some g) ∧ ∃ j, Rd w0 w' g A c l j (chooseS l).2 := by
  have hne := h.ne
  have HA0 := Lib.hid (gr_alloc (gr_refl w none) (.cells #[.int .i64 0, .int .i64 0, .string ⟨#[]⟩, .bool false, .int .i64 0] 29))
  have HT := choose_rd hc (h.grow hc HA0.out) hcap
  generalize chooseS l = s at *
  obtain ⟨v, f⟩ := s
  simp only at HT ⊢
  have HT := Lib.hid HT
  have HC := Lib.hid hc
  have HD := Lib.hid h
  clear hc h
  go_enter Tryz.func34, Tryz.ntmps34
  go_wp2_with (fail)
  refine HT.out.mono ?_
  rintro y w2 ⟨rfl, h2, j, h3⟩
  obtain ⟨z0, z1, z2, z3, z4, y0, y1, y2, y3, y4⟩ := loc5 h2 hne
  have HG3 := Lib.hid (gr_then (gr_alloc (gr_refl w (some g)) (.cells #[.int .i64 0, .int .i64 0, .string ⟨#[]⟩, .bool false, .int .i64 0] 29)) h2)
  have HR3 := Lib.hid h3
  clear h2 h3 HT
  have hne1 : ¬ w.heap.size = g := hne
  unfold vv
  go_wp2_with (fail)
  have HE := end5 HD.out HC.out HG3.out HR3.out (.int .i64 v.f0) (.int .i64 v.f1) (.string v.f2) (.bool v.f3) (.int .i64 v.f4)
  refine bodyPost_ret (v := vv v) (by simp [results, Tryz.results34, go_sem, vv, z0, z1, z2, z3, z4]) rfl ⟨rfl, HE.1, _, HE.2⟩
set_option maxHeartbeats 2000000 in
set_option maxRecDepth 100000 in
theorem told_rows {w0 w : World} {g : Nat} {A : Option Addr} {c : Nat} {l : List AR} (hc : Cx w0 g A l) (h : Rd w0 w g A c l 0 0) (hl : 0 < l.length) :
    Calls Tryz.prog 34 #[.string ⟨#[82, 79, 87, 83]⟩, .pointer (some ⟨g, 0, none⟩)] w fun e w' => e = .returned (vv (rowsS l).1) ∧ w.grownBy w' (some g) ∧ ∃ j, Rd w0 w' g A c l j (rowsS l).2 := by
  have hne := h.ne
  have HA0 := Lib.hid (gr_alloc (gr_refl w none) (.cells #[.int .i64 0, .int .i64 0, .string ⟨#[]⟩, .bool false, .int .i64 0] 29))
  have HT := table_rd hc (h.grow hc HA0.out)
  have hok : okA (nextS l 0).1 = true := by
    unfold nextS
    rw [List.getElem?_eq_getElem hl]
    exact hc.ok _ (List.getElem_mem hl)
  have hok1 := okA_len _ hok
  have hok2 := rows_le _ hok
  unfold rowsS
  generalize nextS l 0 = t at *
  obtain ⟨t, i2⟩ := t
  simp only at hok1 hok2 HT ⊢
  have hf0 := fun (A_ : Option Addr) (n_ c_ : Nat) (a_ b_ : Int) (W_ : World) => (show (Instr.field 110 (.agg #[.slice A_ n_ c_, .int .i64 a_, .int .i64 b_]) 1).run Tryz.prog W_ = .ok (.int .i64 a_) W_ from by kernel_rfl)
  generalize hv : wholeV (rowsA t) = v at *
  have HV := Lib.hid hv
  clear hv
  have HT := Lib.hid HT
  have HC := Lib.hid hc
  have HD := Lib.hid h
  clear hc h
  go_enter Tryz.func34, Tryz.ntmps34
  go_wp2_with (fail)
  refine HT.out.mono ?_
  rintro y w2 ⟨A', c', rfl, hcc, hK, h2, h3⟩
  have HX := Lib.hid h2
  have HG := Lib.hid (gr_then (gr_alloc (gr_refl w (some g)) (.cells #[.int .i64 0, .int .i64 0, .string ⟨#[]⟩, .bool false, .int .i64 0] 29)) h2)
  have HR := Lib.hid h3
  clear hK h2 h3
  unfold tbv
  go_wp2_with (fail)
  clear hf0
  refine (wholev_any (rowsA t) (by omega) (by omega) _).mono ?_
  rintro y w3 ⟨rfl, h4⟩
  obtain ⟨z0, z1, z2, z3, z4, y0, y1, y2, y3, y4⟩ := loc5 (gr_then HX.out (gr_of_below h4 (some g))) hne
  have HR3 := Lib.hid (HR.out.grow HC.out (gr_of_below h4 none))
  have HG3 := Lib.hid (gr_then HG.out (gr_of_below h4 (some g)))
  clear h4
  rw [HV.out]
  have hne1 : ¬ w.heap.size = g := hne
  unfold vv
  go_wp2_with (fail)
  have HE := end5 HD.out HC.out HG3.out HR3.out (.int .i64 v.f0) (.int .i64 v.f1) (.string v.f2) (.bool v.f3) (.int .i64 v.f4)
  refine bodyPost_ret (v := vv v) (by simp [results, Tryz.results34, go_sem, vv, z0, z1, z2, z3, z4]) rfl ⟨rfl, HE.1, _, HE.2⟩
set_option maxHeartbeats 2000000 in
set_option maxRecDepth 100000 in
theorem told_cols {w0 w : World} {g : Nat} {A : Option Addr} {c : Nat} {l : List AR} (hc : Cx w0 g A l) (h : Rd w0 w g A c l 0 0) (hl : 0 < l.length) :
    Calls Tryz.prog 34 #[.string ⟨#[67, 79, 76, 85, 77, 78, 83]⟩, .pointer (some ⟨g, 0, none⟩)] w fun e w' => e = .returned (vv (colsS l).1) ∧ w.grownBy w' (some g) ∧ ∃ j, Rd w0 w' g A c l j (colsS l).2 := by
  have hne := h.ne
  have HA0 := Lib.hid (gr_alloc (gr_refl w none) (.cells #[.int .i64 0, .int .i64 0, .string ⟨#[]⟩, .bool false, .int .i64 0] 29))
  have HT := table_rd hc (h.grow hc HA0.out)
  have hok : okA (nextS l 0).1 = true := by
    unfold nextS
    rw [List.getElem?_eq_getElem hl]
    exact hc.ok _ (List.getElem_mem hl)
  have hok1 := okA_len _ hok
  have hok2 := rows_le _ hok
  unfold colsS
  generalize nextS l 0 = t at *
  obtain ⟨t, i2⟩ := t
  simp only at hok1 hok2 HT ⊢
  have hf0 := fun (A_ : Option Addr) (n_ c_ : Nat) (a_ b_ : Int) (W_ : World) => (show (Instr.field 110 (.agg #[.slice A_ n_ c_, .int .i64 a_, .int .i64 b_]) 2).run Tryz.prog W_ = .ok (.int .i64 b_) W_ from by kernel_rfl)
  generalize hv : wholeV (colsA t) = v at *
  have HV := Lib.hid hv
  clear hv
  have HT := Lib.hid HT
  have HC := Lib.hid hc
  have HD := Lib.hid h
  clear hc h
  go_enter Tryz.func34, Tryz.ntmps34
  go_wp2_with (fail)
  refine HT.out.mono ?_
  rintro y w2 ⟨A', c', rfl, hcc, hK, h2, h3⟩
  have HX := Lib.hid h2
  have HG := Lib.hid (gr_then (gr_alloc (gr_refl w (some g)) (.cells #[.int .i64 0, .int .i64 0, .string ⟨#[]⟩, .bool false, .int .i64 0] 29)) h2)
  have HR := Lib.hid h3
  clear hK h2 h3
  unfold tbv
  go_wp2_with (fail)
  clear hf0
  refine (wholev_any (colsA t) (by omega) (by omega) _).mono ?_
  rintro y w3 ⟨rfl, h4⟩
  obtain ⟨z0, z1, z2, z3, z4, y0, y1, y2, y3, y4⟩ := loc5 (gr_then HX.out (gr_of_below h4 (some g))) hne
  have HR3 := Lib.hid (HR.out.grow HC.out (gr_of_below h4 none))
  have HG3 := Lib.hid (gr_then HG.out (gr_of_below h4 (some g)))
  clear h4
  rw [HV.out]
  have hne1 : ¬ w.heap.size = g := hne
  unfold vv
  go_wp2_with (fail)
  have HE := end5 HD.out HC.out HG3.out HR3.out (.int .i64 v.f0) (.int .i64 v.f1) (.string v.f2) (.bool v.f3) (.int .i64 v.f4)
  refine bodyPost_ret (v := vv v) (by simp [results, Tryz.results34, go_sem, vv, z0, z1, z2, z3, z4]) rfl ⟨rfl, HE.1, _, HE.2⟩
end Go.Proofs.YtcihleahjnpaaaaGreatDoor.H
