/- Texts of this claim, put together by a program of this session: Px13, Px61, Px62, Px69, Px70, Px68, Val, Px63, Px64, Px65, Px66, Px67. -/
import Derived.Test.YtcihleahjnpaaaaGreatDoorProg
import Derived.Test.YtcihleahjnpaaaaGreatDoorC1
namespace Go.Proofs.YtcihleahjnpaaaaGreatDoor.P
open Go.RowKit Go.Proofs.YtcihleahjnpaaaaGreatDoor.Q Go.Proofs.YtcihleahjnpaaaaGreatDoor.H Go.Proofs.YtcihleahjnpaaaaGreatDoorW.PrintWords Go.Proofs.YtcihleahjnpaaaaGreatDoorW.PrintLast Go.Proofs.YtcihleahjnpaaaaGreatDoorW.PrintMore
attribute [local go_sem] max2_int min2_int max_two min_two max_three min_three max_four min_four   -- for this text's walks alone
set_option linter.unusedVariables false
set_option linter.unusedSimpArgs false
attribute [local go_sem high] eqA29
def value_Value_Good.f (k : Nat) (a0_0 : Int) (a0_1 : Int) (a0_2 : ByteArray) (a0_3 : Bool) (a0_4 : Int) : Option (Bool) := if a0_0 = 0 then (some (a0_0 == 0 && (a0_1 == 0 && (a0_2.toList == ([] : List UInt8) && (!a0_3 && (a0_4 == 0)))))) else (if a0_0 = 1 then ((value_N.f k a0_1).bind fun bt160 => (some (a0_0 == bt160.1 && (a0_1 == bt160.2.1 && (a0_2.toList == bt160.2.2.1.toList && (a0_3 == bt160.2.2.2.1 && (a0_4 == bt160.2.2.2.2))))))) else (if a0_0 = 2 then ((value_T.f a0_2).bind fun bt165 => (some (a0_0 == bt165.1 && (a0_1 == bt165.2.1 && (a0_2.toList == bt165.2.2.1.toList && (a0_3 == bt165.2.2.2.1 && (a0_4 == bt165.2.2.2.2))))))) else (if a0_0 = 3 then ((value_B.f a0_3).bind fun bt170 => (some (a0_0 == bt170.1 && (a0_1 == bt170.2.1 && (a0_2.toList == bt170.2.2.1.toList && (a0_3 == bt170.2.2.2.1 && (a0_4 == bt170.2.2.2.2))))))) else (if a0_0 = 4 then ((value_E.f a0_4).bind fun bt175 => (some (a0_0 == bt175.1 && (a0_1 == bt175.2.1 && (a0_2.toList == bt175.2.2.1.toList && (a0_3 == bt175.2.2.2.1 && (a0_4 == bt175.2.2.2.2))))))) else (some false)))))
set_option maxHeartbeats 8000000 in
set_option maxRecDepth 100000 in
theorem value_Value_Good.calls (k : Nat) (a0_0 : Int) (a0_1 : Int) (a0_2 : ByteArray) (a0_3 : Bool) (a0_4 : Int) (r : Bool) (w : World) (h : value_Value_Good.f k a0_0 a0_1 a0_2 a0_3 a0_4 = some r) :
  Calls Tryz.prog 24 #[.agg #[.int .i64 a0_0, .int .i64 a0_1, .string a0_2, .bool a0_3, .int .i64 a0_4]] w fun e w' => e = .returned (.bool r) ∧ Below w.heap.size w w' := by
 have hu29 := Tryz.underlying29
 have HB := Aside0.mk (Below.refl w.heap.size w)
 have H : (if a0_0 = 0 then (some (a0_0 == 0 && (a0_1 == 0 && (a0_2.toList == ([] : List UInt8) && (!a0_3 && (a0_4 == 0)))))) else (if a0_0 = 1 then ((value_N.f k a0_1).bind fun bt160 => (some (a0_0 == bt160.1 && (a0_1 == bt160.2.1 && (a0_2.toList == bt160.2.2.1.toList && (a0_3 == bt160.2.2.2.1 && (a0_4 == bt160.2.2.2.2))))))) else (if a0_0 = 2 then ((value_T.f a0_2).bind fun bt165 => (some (a0_0 == bt165.1 && (a0_1 == bt165.2.1 && (a0_2.toList == bt165.2.2.1.toList && (a0_3 == bt165.2.2.2.1 && (a0_4 == bt165.2.2.2.2))))))) else (if a0_0 = 3 then ((value_B.f a0_3).bind fun bt170 => (some (a0_0 == bt170.1 && (a0_1 == bt170.2.1 && (a0_2.toList == bt170.2.2.1.toList && (a0_3 == bt170.2.2.2.1 && (a0_4 == bt170.2.2.2.2))))))) else (if a0_0 = 4 then ((value_E.f a0_4).bind fun bt175 => (some (a0_0 == bt175.1 && (a0_1 == bt175.2.1 && (a0_2.toList == bt175.2.2.1.toList && (a0_3 == bt175.2.2.2.1 && (a0_4 == bt175.2.2.2.2))))))) else (some false)))))) = some r := h
 clear h
 by_cases c2 : a0_0 = 0
 ·rw [if_pos c2] at H
  have c2b0 : (a0_0 == 0) = true := beq_iff_eq.mpr c2
  have c2b1 : (a0_0 != 0) = false := bne_eq_false_iff_eq.mpr c2
  clear c2
  obtain rfl := Option.some.inj H
  go_enter Tryz.func24, Tryz.ntmps24
  go_wp2_with (first | ((with_reducible refine gate_dst (N := 1) rfl ?_); refine bx (N := 1) (cs := #[.int .i64 a0_0, .int .i64 a0_1, .string a0_2, .bool a0_3, .int .i64 a0_4]) (t := 29) ?_; intro gb159 hg w3 hbox hb; have BK159 := Aside0.mk (hbox); have GW159 := (bw hg); have GE159 := (bw hg); replace HB := (bs hb); clear hb hbox hg; obtain ⟨hcz4_0, hcz4_1, hcz4_2, hcz4_3, hcz4_4, hfz4_0, hfz4_1, hfz4_2, hfz4_3, hfz4_4⟩ := bc5 BK159))
  go_ret
  exact ⟨by first | rfl | (simp [errW_none, errW_some] <;> rfl) | (simp [*, errW_none, errW_some] <;> rfl), be⟩
 ·rw [if_neg c2] at H
  have c2b0 : (a0_0 == 0) = false := beq_eq_false_iff_ne.mpr c2
  have c2b1 : (a0_0 != 0) = true := bne_iff_ne.mpr c2
  by_cases c5 : a0_0 = 1
  ·rw [if_pos c5] at H
   have c5b0 : (a0_0 == 1) = true := beq_iff_eq.mpr c5
   have c5b1 : (a0_0 != 1) = false := bne_eq_false_iff_eq.mpr c5
   clear c5
   replace H := Option.bind_eq_some_iff.mp H
   obtain ⟨⟨t160, t161, t162, t163, t164⟩, A60, H⟩ := H
   replace H : (some (a0_0 == t160 && (a0_1 == t161 && (a0_2.toList == t162.toList && (a0_3 == t163 && (a0_4 == t164)))))) = some r := H
   have A6 := Aside0.mk A60
   clear A60
   obtain rfl := Option.some.inj H
   go_enter Tryz.func24, Tryz.ntmps24
   try go_wp2_with (first | ((with_reducible refine gate_dst (N := 1) rfl ?_); refine bx (N := 1) (cs := #[.int .i64 a0_0, .int .i64 a0_1, .string a0_2, .bool a0_3, .int .i64 a0_4]) (t := 29) ?_; intro gb159 hg w7 hbox hb; have BK159 := Aside0.mk (hbox); have GW159 := (bw hg); have GE159 := (bw hg); replace HB := (bs hb); clear hb hbox hg; obtain ⟨hcz8_0, hcz8_1, hcz8_2, hcz8_3, hcz8_4, hfz8_0, hfz8_1, hfz8_2, hfz8_3, hfz8_4⟩ := bc5 BK159))
   have n0_ := Aside0.mk (blk_drew BK159.out)
   have n1_ := Aside0.mk (below_drew1 HB.out)
   clear BK159
   clear HB
   have BK159 := n0_
   have HB := n1_
   clear n0_ n1_
   refine start_ (n := 6) (S := fun w' => w'.cell? ⟨gb159, 0, none⟩ = some (.int .i64 a0_0) ∧ w'.cell? ⟨gb159, 1, none⟩ = some (.int .i64 a0_1) ∧ w'.cell? ⟨gb159, 2, none⟩ = some (.string a0_2) ∧ w'.cell? ⟨gb159, 3, none⟩ = some (.bool a0_3) ∧ w'.cell? ⟨gb159, 4, none⟩ = some (.int .i64 a0_4)) (ds := []) #[false, false, false, false, false, false] (by kernel_rfl) rfl rfl ⟨(blk_cell BK159.out 0).trans rfl, (blk_cell BK159.out 1).trans rfl, (blk_cell BK159.out 2).trans rfl, (blk_cell BK159.out 3).trans rfl, (blk_cell BK159.out 4).trans rfl⟩ (fun hHeld => ?_)
   generalize w7.drew = w9 at BK159 HB hHeld ⊢
   refine pure_ (i := 1) (N := some 13) (v := ?_) (a' := ?_) #[false, true, false, false, false, false] rfl rfl (by kernel_rfl) (fun _ _ _ h => h) (Or.inl ⟨by rfl, ?_⟩) ?_ ?_
   rotate_left
   ·intro w'
    go_simp
    with_reducible rfl
   rotate_left
   ·simp only [Act.put, List.setIfInBounds_toArray, List.set_cons_zero, List.set_cons_succ, i64_w, i32_w]
    rfl
   refine take_ (i := 0) (N := some 12) (v := ?_) (a' := ?_) #[true, true, false, false, false, false] rfl rfl (by kernel_rfl) (fun _ _ _ h => h) (Or.inl ⟨by rfl, ?_⟩) hHeld ?_ ?_
   rotate_left
   ·rintro w' ⟨s0, s1, s2, s3, s4⟩
    go_simp
    with_reducible rfl
   rotate_left
   ·simp only [Act.put, List.setIfInBounds_toArray, List.set_cons_zero, List.set_cons_succ, i64_w, i32_w]
    rfl
   refine take_ (i := 2) (N := some 14) (v := ?_) (a' := ?_) #[true, true, true, false, false, false] rfl rfl (by kernel_rfl) (fun _ _ _ h => h) (Or.inl ⟨by rfl, ?_⟩) hHeld ?_ ?_
   rotate_left
   ·rintro w' ⟨s0, s1, s2, s3, s4⟩
    go_simp
    with_reducible rfl
   rotate_left
   ·simp only [Act.put, List.setIfInBounds_toArray, List.set_cons_zero, List.set_cons_succ, i64_w, i32_w]
    rfl
   refine one_ (i := 3) (N := some 15) #[true, true, true, true, false, false] rfl rfl (by kernel_rfl) (by decide) (fun K hK => ?_)
   refine goes_ Tryz.func29 (by kernel_rfl) rfl #[.int .i64 a0_1] (by rfl) rfl rfl (by (try simp only [List.map_toArray, List.map_cons, List.map_nil]); first | done | rfl | (simp only [List.length_drop, List.length_take]; rfl)) ?_
   with_reducible refine (value_N.calls k a0_1 t160 t161 t162 t163 t164 _ A6.out).mono ?_
   rintro e w10 ⟨rfl, hb⟩
   refine ⟨_, rfl, ?_⟩
   have n0_ := (bb BK159 hb)
   have n1_ := (bs hb)
   clear BK159
   clear HB
   have BK159 := n0_
   have HB := n1_
   clear n0_ n1_
   (try clear hb)
   (try clear hb2)
   (try clear hk)
   (try clear hi)
   refine hK.out _ _ ⟨(blk_cell BK159.out 0).trans rfl, (blk_cell BK159.out 1).trans rfl, (blk_cell BK159.out 2).trans rfl, (blk_cell BK159.out 3).trans rfl, (blk_cell BK159.out 4).trans rfl⟩ (fun hHeld => ?_)
   clear hK K
   refine norm_ (a' := ?_) ?_ ?_
   rotate_left
   ·show Act.put _ (some 15) _ = _
    simp only [Act.put, List.setIfInBounds_toArray, List.set_cons_zero, List.set_cons_succ, i64_w, i32_w]
    rfl
   refine pure_ (i := 4) (N := some 16) (v := ?_) (a' := ?_) #[true, true, true, true, true, false] rfl rfl (by kernel_rfl) (fun _ _ _ h => h) (Or.inl ⟨by rfl, ?_⟩) ?_ ?_
   rotate_left
   ·intro w'
    go_simp
    with_reducible rfl
   rotate_left
   ·simp only [Act.put, List.setIfInBounds_toArray, List.set_cons_zero, List.set_cons_succ, i64_w, i32_w]
    rfl
   refine pure_ (i := 5) (N := some 2) (v := ?_) (a' := ?_) #[true, true, true, true, true, true] rfl rfl (by kernel_rfl) (fun _ _ _ h => h) (Or.inl ⟨by rfl, ?_⟩) ?_ ?_
   rotate_left
   ·intro w'
    go_simp
    with_reducible rfl
   rotate_left
   ·simp only [Act.put, List.setIfInBounds_toArray, List.set_cons_zero, List.set_cons_succ, i64_w, i32_w]
    rfl
   refine done_ (by kernel_rfl) ?_
   try go_wp2
   go_ret
   exact ⟨by first | rfl | (simp [errW_none, errW_some] <;> rfl) | (simp [*, errW_none, errW_some] <;> rfl), be⟩
  ·rw [if_neg c5] at H
   have c5b0 : (a0_0 == 1) = false := beq_eq_false_iff_ne.mpr c5
   have c5b1 : (a0_0 != 1) = true := bne_iff_ne.mpr c5
   by_cases c11 : a0_0 = 2
   ·rw [if_pos c11] at H
    have c11b0 : (a0_0 == 2) = true := beq_iff_eq.mpr c11
    have c11b1 : (a0_0 != 2) = false := bne_eq_false_iff_eq.mpr c11
    clear c11
    replace H := Option.bind_eq_some_iff.mp H
    obtain ⟨⟨t165, t166, t167, t168, t169⟩, A120, H⟩ := H
    replace H : (some (a0_0 == t165 && (a0_1 == t166 && (a0_2.toList == t167.toList && (a0_3 == t168 && (a0_4 == t169)))))) = some r := H
    have A12 := Aside0.mk A120
    clear A120
    obtain rfl := Option.some.inj H
    go_enter Tryz.func24, Tryz.ntmps24
    try go_wp2_with (first | ((with_reducible refine gate_dst (N := 1) rfl ?_); refine bx (N := 1) (cs := #[.int .i64 a0_0, .int .i64 a0_1, .string a0_2, .bool a0_3, .int .i64 a0_4]) (t := 29) ?_; intro gb159 hg w13 hbox hb; have BK159 := Aside0.mk (hbox); have GW159 := (bw hg); have GE159 := (bw hg); replace HB := (bs hb); clear hb hbox hg; obtain ⟨hcz14_0, hcz14_1, hcz14_2, hcz14_3, hcz14_4, hfz14_0, hfz14_1, hfz14_2, hfz14_3, hfz14_4⟩ := bc5 BK159))
    have n0_ := Aside0.mk (blk_drew BK159.out)
    have n1_ := Aside0.mk (below_drew1 HB.out)
    clear BK159
    clear HB
    have BK159 := n0_
    have HB := n1_
    clear n0_ n1_
    refine start_ (n := 6) (S := fun w' => w'.cell? ⟨gb159, 0, none⟩ = some (.int .i64 a0_0) ∧ w'.cell? ⟨gb159, 1, none⟩ = some (.int .i64 a0_1) ∧ w'.cell? ⟨gb159, 2, none⟩ = some (.string a0_2) ∧ w'.cell? ⟨gb159, 3, none⟩ = some (.bool a0_3) ∧ w'.cell? ⟨gb159, 4, none⟩ = some (.int .i64 a0_4)) (ds := []) #[false, false, false, false, false, false] (by kernel_rfl) rfl rfl ⟨(blk_cell BK159.out 0).trans rfl, (blk_cell BK159.out 1).trans rfl, (blk_cell BK159.out 2).trans rfl, (blk_cell BK159.out 3).trans rfl, (blk_cell BK159.out 4).trans rfl⟩ (fun hHeld => ?_)
    generalize w13.drew = w15 at BK159 HB hHeld ⊢
    refine pure_ (i := 1) (N := some 20) (v := ?_) (a' := ?_) #[false, true, false, false, false, false] rfl rfl (by kernel_rfl) (fun _ _ _ h => h) (Or.inl ⟨by rfl, ?_⟩) ?_ ?_
    rotate_left
    ·intro w'
     go_simp
     with_reducible rfl
    rotate_left
    ·simp only [Act.put, List.setIfInBounds_toArray, List.set_cons_zero, List.set_cons_succ, i64_w, i32_w]
     rfl
    refine take_ (i := 0) (N := some 19) (v := ?_) (a' := ?_) #[true, true, false, false, false, false] rfl rfl (by kernel_rfl) (fun _ _ _ h => h) (Or.inl ⟨by rfl, ?_⟩) hHeld ?_ ?_
    rotate_left
    ·rintro w' ⟨s0, s1, s2, s3, s4⟩
     go_simp
     with_reducible rfl
    rotate_left
    ·simp only [Act.put, List.setIfInBounds_toArray, List.set_cons_zero, List.set_cons_succ, i64_w, i32_w]
     rfl
    refine take_ (i := 2) (N := some 21) (v := ?_) (a' := ?_) #[true, true, true, false, false, false] rfl rfl (by kernel_rfl) (fun _ _ _ h => h) (Or.inl ⟨by rfl, ?_⟩) hHeld ?_ ?_
    rotate_left
    ·rintro w' ⟨s0, s1, s2, s3, s4⟩
     go_simp
     with_reducible rfl
    rotate_left
    ·simp only [Act.put, List.setIfInBounds_toArray, List.set_cons_zero, List.set_cons_succ, i64_w, i32_w]
     rfl
    refine one_ (i := 3) (N := some 22) #[true, true, true, true, false, false] rfl rfl (by kernel_rfl) (by decide) (fun K hK => ?_)
    refine goes_ Tryz.func28 (by kernel_rfl) rfl #[.string a0_2] (by rfl) rfl rfl (by (try simp only [List.map_toArray, List.map_cons, List.map_nil]); first | done | rfl | (simp only [List.length_drop, List.length_take]; rfl)) ?_
    with_reducible refine (value_T.calls a0_2 t165 t166 t167 t168 t169 _ A12.out).mono ?_
    rintro e w16 ⟨rfl, hb⟩
    refine ⟨_, rfl, ?_⟩
    have n0_ := (bb BK159 hb)
    have n1_ := (bs hb)
    clear BK159
    clear HB
    have BK159 := n0_
    have HB := n1_
    clear n0_ n1_
    (try clear hb)
    (try clear hb2)
    (try clear hk)
    (try clear hi)
    refine hK.out _ _ ⟨(blk_cell BK159.out 0).trans rfl, (blk_cell BK159.out 1).trans rfl, (blk_cell BK159.out 2).trans rfl, (blk_cell BK159.out 3).trans rfl, (blk_cell BK159.out 4).trans rfl⟩ (fun hHeld => ?_)
    clear hK K
    refine norm_ (a' := ?_) ?_ ?_
    rotate_left
    ·show Act.put _ (some 22) _ = _
     simp only [Act.put, List.setIfInBounds_toArray, List.set_cons_zero, List.set_cons_succ, i64_w, i32_w]
     rfl
    refine pure_ (i := 4) (N := some 23) (v := ?_) (a' := ?_) #[true, true, true, true, true, false] rfl rfl (by kernel_rfl) (fun _ _ _ h => h) (Or.inl ⟨by rfl, ?_⟩) ?_ ?_
    rotate_left
    ·intro w'
     go_simp
     with_reducible rfl
    rotate_left
    ·simp only [Act.put, List.setIfInBounds_toArray, List.set_cons_zero, List.set_cons_succ, i64_w, i32_w]
     rfl
    refine pure_ (i := 5) (N := some 2) (v := ?_) (a' := ?_) #[true, true, true, true, true, true] rfl rfl (by kernel_rfl) (fun _ _ _ h => h) (Or.inl ⟨by rfl, ?_⟩) ?_ ?_
    rotate_left
    ·intro w'
     go_simp
     with_reducible rfl
    rotate_left
    ·simp only [Act.put, List.setIfInBounds_toArray, List.set_cons_zero, List.set_cons_succ, i64_w, i32_w]
     rfl
    refine done_ (by kernel_rfl) ?_
    try go_wp2
    go_ret
    exact ⟨by first | rfl | (simp [errW_none, errW_some] <;> rfl) | (simp [*, errW_none, errW_some] <;> rfl), be⟩
   ·rw [if_neg c11] at H
    have c11b0 : (a0_0 == 2) = false := beq_eq_false_iff_ne.mpr c11
    have c11b1 : (a0_0 != 2) = true := bne_iff_ne.mpr c11
    by_cases c17 : a0_0 = 3
    ·rw [if_pos c17] at H
     have c17b0 : (a0_0 == 3) = true := beq_iff_eq.mpr c17
     have c17b1 : (a0_0 != 3) = false := bne_eq_false_iff_eq.mpr c17
     clear c17
     replace H := Option.bind_eq_some_iff.mp H
     obtain ⟨⟨t170, t171, t172, t173, t174⟩, A180, H⟩ := H
     replace H : (some (a0_0 == t170 && (a0_1 == t171 && (a0_2.toList == t172.toList && (a0_3 == t173 && (a0_4 == t174)))))) = some r := H
     have A18 := Aside0.mk A180
     clear A180
     obtain rfl := Option.some.inj H
     go_enter Tryz.func24, Tryz.ntmps24
     try go_wp2_with (first | ((with_reducible refine gate_dst (N := 1) rfl ?_); refine bx (N := 1) (cs := #[.int .i64 a0_0, .int .i64 a0_1, .string a0_2, .bool a0_3, .int .i64 a0_4]) (t := 29) ?_; intro gb159 hg w19 hbox hb; have BK159 := Aside0.mk (hbox); have GW159 := (bw hg); have GE159 := (bw hg); replace HB := (bs hb); clear hb hbox hg; obtain ⟨hcz20_0, hcz20_1, hcz20_2, hcz20_3, hcz20_4, hfz20_0, hfz20_1, hfz20_2, hfz20_3, hfz20_4⟩ := bc5 BK159))
     have n0_ := Aside0.mk (blk_drew BK159.out)
     have n1_ := Aside0.mk (below_drew1 HB.out)
     clear BK159
     clear HB
     have BK159 := n0_
     have HB := n1_
     clear n0_ n1_
     refine start_ (n := 6) (S := fun w' => w'.cell? ⟨gb159, 0, none⟩ = some (.int .i64 a0_0) ∧ w'.cell? ⟨gb159, 1, none⟩ = some (.int .i64 a0_1) ∧ w'.cell? ⟨gb159, 2, none⟩ = some (.string a0_2) ∧ w'.cell? ⟨gb159, 3, none⟩ = some (.bool a0_3) ∧ w'.cell? ⟨gb159, 4, none⟩ = some (.int .i64 a0_4)) (ds := []) #[false, false, false, false, false, false] (by kernel_rfl) rfl rfl ⟨(blk_cell BK159.out 0).trans rfl, (blk_cell BK159.out 1).trans rfl, (blk_cell BK159.out 2).trans rfl, (blk_cell BK159.out 3).trans rfl, (blk_cell BK159.out 4).trans rfl⟩ (fun hHeld => ?_)
     generalize w19.drew = w21 at BK159 HB hHeld ⊢
     refine pure_ (i := 1) (N := some 27) (v := ?_) (a' := ?_) #[false, true, false, false, false, false] rfl rfl (by kernel_rfl) (fun _ _ _ h => h) (Or.inl ⟨by rfl, ?_⟩) ?_ ?_
     rotate_left
     ·intro w'
      go_simp
      with_reducible rfl
     rotate_left
     ·simp only [Act.put, List.setIfInBounds_toArray, List.set_cons_zero, List.set_cons_succ, i64_w, i32_w]
      rfl
     refine take_ (i := 0) (N := some 26) (v := ?_) (a' := ?_) #[true, true, false, false, false, false] rfl rfl (by kernel_rfl) (fun _ _ _ h => h) (Or.inl ⟨by rfl, ?_⟩) hHeld ?_ ?_
     rotate_left
     ·rintro w' ⟨s0, s1, s2, s3, s4⟩
      go_simp
      with_reducible rfl
     rotate_left
     ·simp only [Act.put, List.setIfInBounds_toArray, List.set_cons_zero, List.set_cons_succ, i64_w, i32_w]
      rfl
     refine take_ (i := 2) (N := some 28) (v := ?_) (a' := ?_) #[true, true, true, false, false, false] rfl rfl (by kernel_rfl) (fun _ _ _ h => h) (Or.inl ⟨by rfl, ?_⟩) hHeld ?_ ?_
     rotate_left
     ·rintro w' ⟨s0, s1, s2, s3, s4⟩
      go_simp
      with_reducible rfl
     rotate_left
     ·simp only [Act.put, List.setIfInBounds_toArray, List.set_cons_zero, List.set_cons_succ, i64_w, i32_w]
      rfl
     refine one_ (i := 3) (N := some 29) #[true, true, true, true, false, false] rfl rfl (by kernel_rfl) (by decide) (fun K hK => ?_)
     refine goes_ Tryz.func47 (by kernel_rfl) rfl #[.bool a0_3] (by rfl) rfl rfl (by (try simp only [List.map_toArray, List.map_cons, List.map_nil]); first | done | rfl | (simp only [List.length_drop, List.length_take]; rfl)) ?_
     with_reducible refine (value_B.calls a0_3 t170 t171 t172 t173 t174 _ A18.out).mono ?_
     rintro e w22 ⟨rfl, hb⟩
     refine ⟨_, rfl, ?_⟩
     have n0_ := (bb BK159 hb)
     have n1_ := (bs hb)
     clear BK159
     clear HB
     have BK159 := n0_
     have HB := n1_
     clear n0_ n1_
     (try clear hb)
     (try clear hb2)
     (try clear hk)
     (try clear hi)
     refine hK.out _ _ ⟨(blk_cell BK159.out 0).trans rfl, (blk_cell BK159.out 1).trans rfl, (blk_cell BK159.out 2).trans rfl, (blk_cell BK159.out 3).trans rfl, (blk_cell BK159.out 4).trans rfl⟩ (fun hHeld => ?_)
     clear hK K
     refine norm_ (a' := ?_) ?_ ?_
     rotate_left
     ·show Act.put _ (some 29) _ = _
      simp only [Act.put, List.setIfInBounds_toArray, List.set_cons_zero, List.set_cons_succ, i64_w, i32_w]
      rfl
     refine pure_ (i := 4) (N := some 30) (v := ?_) (a' := ?_) #[true, true, true, true, true, false] rfl rfl (by kernel_rfl) (fun _ _ _ h => h) (Or.inl ⟨by rfl, ?_⟩) ?_ ?_
     rotate_left
     ·intro w'
      go_simp
      with_reducible rfl
     rotate_left
     ·simp only [Act.put, List.setIfInBounds_toArray, List.set_cons_zero, List.set_cons_succ, i64_w, i32_w]
      rfl
     refine pure_ (i := 5) (N := some 2) (v := ?_) (a' := ?_) #[true, true, true, true, true, true] rfl rfl (by kernel_rfl) (fun _ _ _ h => h) (Or.inl ⟨by rfl, ?_⟩) ?_ ?_
     rotate_left
     ·intro w'
      go_simp
      with_reducible rfl
     rotate_left
     ·simp only [Act.put, List.setIfInBounds_toArray, List.set_cons_zero, List.set_cons_succ, i64_w, i32_w]
      rfl
     refine done_ (by kernel_rfl) ?_
     try go_wp2
     go_ret
     exact ⟨by first | rfl | (simp [errW_none, errW_some] <;> rfl) | (simp [*, errW_none, errW_some] <;> rfl), be⟩
    ·rw [if_neg c17] at H
     have c17b0 : (a0_0 == 3) = false := beq_eq_false_iff_ne.mpr c17
     have c17b1 : (a0_0 != 3) = true := bne_iff_ne.mpr c17
     by_cases c23 : a0_0 = 4
     ·rw [if_pos c23] at H
      have c23b0 : (a0_0 == 4) = true := beq_iff_eq.mpr c23
      have c23b1 : (a0_0 != 4) = false := bne_eq_false_iff_eq.mpr c23
      clear c23
      replace H := Option.bind_eq_some_iff.mp H
      obtain ⟨⟨t175, t176, t177, t178, t179⟩, A240, H⟩ := H
      replace H : (some (a0_0 == t175 && (a0_1 == t176 && (a0_2.toList == t177.toList && (a0_3 == t178 && (a0_4 == t179)))))) = some r := H
      have A24 := Aside0.mk A240
      clear A240
      obtain rfl := Option.some.inj H
      go_enter Tryz.func24, Tryz.ntmps24
      try go_wp2_with (first | ((with_reducible refine gate_dst (N := 1) rfl ?_); refine bx (N := 1) (cs := #[.int .i64 a0_0, .int .i64 a0_1, .string a0_2, .bool a0_3, .int .i64 a0_4]) (t := 29) ?_; intro gb159 hg w25 hbox hb; have BK159 := Aside0.mk (hbox); have GW159 := (bw hg); have GE159 := (bw hg); replace HB := (bs hb); clear hb hbox hg; obtain ⟨hcz26_0, hcz26_1, hcz26_2, hcz26_3, hcz26_4, hfz26_0, hfz26_1, hfz26_2, hfz26_3, hfz26_4⟩ := bc5 BK159))
      have n0_ := Aside0.mk (blk_drew BK159.out)
      have n1_ := Aside0.mk (below_drew1 HB.out)
      clear BK159
      clear HB
      have BK159 := n0_
      have HB := n1_
      clear n0_ n1_
      refine start_ (n := 6) (S := fun w' => w'.cell? ⟨gb159, 0, none⟩ = some (.int .i64 a0_0) ∧ w'.cell? ⟨gb159, 1, none⟩ = some (.int .i64 a0_1) ∧ w'.cell? ⟨gb159, 2, none⟩ = some (.string a0_2) ∧ w'.cell? ⟨gb159, 3, none⟩ = some (.bool a0_3) ∧ w'.cell? ⟨gb159, 4, none⟩ = some (.int .i64 a0_4)) (ds := []) #[false, false, false, false, false, false] (by kernel_rfl) rfl rfl ⟨(blk_cell BK159.out 0).trans rfl, (blk_cell BK159.out 1).trans rfl, (blk_cell BK159.out 2).trans rfl, (blk_cell BK159.out 3).trans rfl, (blk_cell BK159.out 4).trans rfl⟩ (fun hHeld => ?_)
      generalize w25.drew = w27 at BK159 HB hHeld ⊢
      refine pure_ (i := 1) (N := some 34) (v := ?_) (a' := ?_) #[false, true, false, false, false, false] rfl rfl (by kernel_rfl) (fun _ _ _ h => h) (Or.inl ⟨by rfl, ?_⟩) ?_ ?_
      rotate_left
      ·intro w'
       go_simp
       with_reducible rfl
      rotate_left
      ·simp only [Act.put, List.setIfInBounds_toArray, List.set_cons_zero, List.set_cons_succ, i64_w, i32_w]
       rfl
      refine take_ (i := 0) (N := some 33) (v := ?_) (a' := ?_) #[true, true, false, false, false, false] rfl rfl (by kernel_rfl) (fun _ _ _ h => h) (Or.inl ⟨by rfl, ?_⟩) hHeld ?_ ?_
      rotate_left
      ·rintro w' ⟨s0, s1, s2, s3, s4⟩
       go_simp
       with_reducible rfl
      rotate_left
      ·simp only [Act.put, List.setIfInBounds_toArray, List.set_cons_zero, List.set_cons_succ, i64_w, i32_w]
       rfl
      refine take_ (i := 2) (N := some 35) (v := ?_) (a' := ?_) #[true, true, true, false, false, false] rfl rfl (by kernel_rfl) (fun _ _ _ h => h) (Or.inl ⟨by rfl, ?_⟩) hHeld ?_ ?_
      rotate_left
      ·rintro w' ⟨s0, s1, s2, s3, s4⟩
       go_simp
       with_reducible rfl
      rotate_left
      ·simp only [Act.put, List.setIfInBounds_toArray, List.set_cons_zero, List.set_cons_succ, i64_w, i32_w]
       rfl
      refine one_ (i := 3) (N := some 36) #[true, true, true, true, false, false] rfl rfl (by kernel_rfl) (by decide) (fun K hK => ?_)
      refine goes_ Tryz.func25 (by kernel_rfl) rfl #[.int .i64 a0_4] (by rfl) rfl rfl (by (try simp only [List.map_toArray, List.map_cons, List.map_nil]); first | done | rfl | (simp only [List.length_drop, List.length_take]; rfl)) ?_
      with_reducible refine (value_E.calls a0_4 t175 t176 t177 t178 t179 _ A24.out).mono ?_
      rintro e w28 ⟨rfl, hb⟩
      refine ⟨_, rfl, ?_⟩
      have n0_ := (bb BK159 hb)
      have n1_ := (bs hb)
      clear BK159
      clear HB
      have BK159 := n0_
      have HB := n1_
      clear n0_ n1_
      (try clear hb)
      (try clear hb2)
      (try clear hk)
      (try clear hi)
      refine hK.out _ _ ⟨(blk_cell BK159.out 0).trans rfl, (blk_cell BK159.out 1).trans rfl, (blk_cell BK159.out 2).trans rfl, (blk_cell BK159.out 3).trans rfl, (blk_cell BK159.out 4).trans rfl⟩ (fun hHeld => ?_)
      clear hK K
      refine norm_ (a' := ?_) ?_ ?_
      rotate_left
      ·show Act.put _ (some 36) _ = _
       simp only [Act.put, List.setIfInBounds_toArray, List.set_cons_zero, List.set_cons_succ, i64_w, i32_w]
       rfl
      refine pure_ (i := 4) (N := some 37) (v := ?_) (a' := ?_) #[true, true, true, true, true, false] rfl rfl (by kernel_rfl) (fun _ _ _ h => h) (Or.inl ⟨by rfl, ?_⟩) ?_ ?_
      rotate_left
      ·intro w'
       go_simp
       with_reducible rfl
      rotate_left
      ·simp only [Act.put, List.setIfInBounds_toArray, List.set_cons_zero, List.set_cons_succ, i64_w, i32_w]
       rfl
      refine pure_ (i := 5) (N := some 2) (v := ?_) (a' := ?_) #[true, true, true, true, true, true] rfl rfl (by kernel_rfl) (fun _ _ _ h => h) (Or.inl ⟨by rfl, ?_⟩) ?_ ?_
      rotate_left
      ·intro w'
       go_simp
       with_reducible rfl
      rotate_left
      ·simp only [Act.put, List.setIfInBounds_toArray, List.set_cons_zero, List.set_cons_succ, i64_w, i32_w]
       rfl
      refine done_ (by kernel_rfl) ?_
      try go_wp2
      go_ret
      exact ⟨by first | rfl | (simp [errW_none, errW_some] <;> rfl) | (simp [*, errW_none, errW_some] <;> rfl), be⟩
     ·rw [if_neg c23] at H
      have c23b0 : (a0_0 == 4) = false := beq_eq_false_iff_ne.mpr c23
      have c23b1 : (a0_0 != 4) = true := bne_iff_ne.mpr c23
      obtain rfl := Option.some.inj H
      go_enter Tryz.func24, Tryz.ntmps24
      go_wp2_with (first | ((with_reducible refine gate_dst (N := 1) rfl ?_); refine bx (N := 1) (cs := #[.int .i64 a0_0, .int .i64 a0_1, .string a0_2, .bool a0_3, .int .i64 a0_4]) (t := 29) ?_; intro gb159 hg w29 hbox hb; have BK159 := Aside0.mk (hbox); have GW159 := (bw hg); have GE159 := (bw hg); replace HB := (bs hb); clear hb hbox hg; obtain ⟨hcz30_0, hcz30_1, hcz30_2, hcz30_3, hcz30_4, hfz30_0, hfz30_1, hfz30_2, hfz30_3, hfz30_4⟩ := bc5 BK159))
      go_ret
      exact ⟨by first | rfl | (simp [errW_none, errW_some] <;> rfl) | (simp [*, errW_none, errW_some] <;> rfl), be⟩
end Go.Proofs.YtcihleahjnpaaaaGreatDoor.P
namespace Go.Proofs.YtcihleahjnpaaaaGreatDoor.P
open Go.RowKit Go.Proofs.YtcihleahjnpaaaaGreatDoor.Q Go.Proofs.YtcihleahjnpaaaaGreatDoor.H Go.Proofs.YtcihleahjnpaaaaGreatDoorW.PrintWords Go.Proofs.YtcihleahjnpaaaaGreatDoorW.PrintLast Go.Proofs.YtcihleahjnpaaaaGreatDoorW.PrintMore
attribute [local go_sem] max2_int min2_int max_two min_two max_three min_three max_four min_four   -- for this text's walks alone
set_option linter.unusedVariables false
set_option linter.unusedSimpArgs false
def value_Value_sound.f (k : Nat) (a0_0 : Int) (a0_1 : Int) (a0_2 : ByteArray) (a0_3 : Bool) (a0_4 : Int) : Option (Int × Int × ByteArray × Bool × Int) := (value_Value_Good.f k a0_0 a0_1 a0_2 a0_3 a0_4).bind fun t709 => (if t709 = true then (some (a0_0, a0_1, a0_2, a0_3, a0_4)) else ((value_E.f 3).bind fun bt710 => (some (bt710.1, bt710.2.1, bt710.2.2.1, bt710.2.2.2.1, bt710.2.2.2.2))))
set_option maxHeartbeats 8000000 in
set_option maxRecDepth 100000 in
theorem value_Value_sound.calls (k : Nat) (a0_0 : Int) (a0_1 : Int) (a0_2 : ByteArray) (a0_3 : Bool) (a0_4 : Int) (r1 : Int) (r2 : Int) (r3 : ByteArray) (r4 : Bool) (r5 : Int) (w : World) (h : value_Value_sound.f k a0_0 a0_1 a0_2 a0_3 a0_4 = some (r1, r2, r3, r4, r5)) :
  Calls Tryz.prog 40 #[.agg #[.int .i64 a0_0, .int .i64 a0_1, .string a0_2, .bool a0_3, .int .i64 a0_4]] w fun e w' => e = .returned (.agg #[.int .i64 r1, .int .i64 r2, .string r3, .bool r4, .int .i64 r5]) ∧ Below w.heap.size w w' := by
 have hu29 := Tryz.underlying29
 have HB := Aside0.mk (Below.refl w.heap.size w)
 have H : ((value_Value_Good.f k a0_0 a0_1 a0_2 a0_3 a0_4).bind fun t709 => (if t709 = true then (some (a0_0, a0_1, a0_2, a0_3, a0_4)) else ((value_E.f 3).bind fun bt710 => (some (bt710.1, bt710.2.1, bt710.2.2.1, bt710.2.2.2.1, bt710.2.2.2.2))))) = some (r1, r2, r3, r4, r5) := h
 clear h
 replace H := Option.bind_eq_some_iff.mp H
 obtain ⟨t709, A20, H⟩ := H
 replace H : (if t709 = true then (some (a0_0, a0_1, a0_2, a0_3, a0_4)) else ((value_E.f 3).bind fun bt710 => (some (bt710.1, bt710.2.1, bt710.2.2.1, bt710.2.2.2.1, bt710.2.2.2.2)))) = some (r1, r2, r3, r4, r5) := H
 have A2 := Aside0.mk A20
 clear A20
 by_cases c3 : t709 = true
 ·subst c3
  have H1 : (some (a0_0, a0_1, a0_2, a0_3, a0_4)) = some (r1, r2, r3, r4, r5) := by rw [if_pos rfl] at H; exact H
  clear H
  have H := H1
  clear H1
  simp only [Option.some.injEq, Prod.mk.injEq] at H
  obtain ⟨rfl, rfl, rfl, rfl, rfl⟩ := H
  go_enter Tryz.func40, Tryz.ntmps40
  go_wp2_with (first | ((with_reducible refine gate_dst (N := 1) rfl ?_); refine bx (N := 1) (cs := #[.int .i64 a0_0, .int .i64 a0_1, .string a0_2, .bool a0_3, .int .i64 a0_4]) (t := 29) ?_; intro gb707 hg w4 hbox hb; have BK707 := Aside0.mk (hbox); have GW707 := (bw hg); have GE707 := (bw hg); replace HB := (bs hb); clear hb hbox hg) | ((with_reducible refine gate_dst (N := 2) rfl ?_); refine bx (N := 2) (cs := #[.int .i64 0, .int .i64 0, .string (⟨#[]⟩ : ByteArray), .bool false, .int .i64 0]) (t := 29) ?_; intro gb708 hg w5 hbox hb; have BK708 := Aside0.mk (hbox); have GW708 := (bw hg); have GE708 := (bw hg); replace HB := (bs hb); have NB707_708 := Aside0.mk ((by rw [hg]; exact Nat.ne_of_lt (blk_lt (g := gb707) (o := .cells #[.int .i64 a0_0, .int .i64 a0_1, .string a0_2, .bool a0_3, .int .i64 a0_4] 29 (0, 0)) (by (with_reducible repeat (first | refine blk_drewN ?_ _ | refine blk_drew ?_ | refine blk_alloc ?_ _)); exact BK707.out)) : gb707 ≠ gb708)); have NB708_707 := Aside0.mk ((by rw [hg]; exact Nat.ne_of_gt (blk_lt (g := gb707) (o := .cells #[.int .i64 a0_0, .int .i64 a0_1, .string a0_2, .bool a0_3, .int .i64 a0_4] 29 (0, 0)) (by (with_reducible repeat (first | refine blk_drewN ?_ _ | refine blk_drew ?_ | refine blk_alloc ?_ _)); exact BK707.out)) : gb708 ≠ gb707)); replace BK707 := (bb BK707 hb); clear hb hbox hg; have hnb6 := NB707_708.out; have hnc6 := NB708_707.out; obtain ⟨hcz7_0, hcz7_1, hcz7_2, hcz7_3, hcz7_4, hfz7_0, hfz7_1, hfz7_2, hfz7_3, hfz7_4⟩ := bc5 BK707) | ((with_reducible refine gate_callee (f := 24) rfl ?_); refine gL (some 4) Tryz.func24 #[.agg #[.int .i64 a0_0, .int .i64 a0_1, .string a0_2, .bool a0_3, .int .i64 a0_4]] ?_; (with_reducible refine (value_Value_Good.calls k a0_0 a0_1 a0_2 a0_3 a0_4 true _ A2.out).mono ?_); rintro e w8 ⟨rfl, hb⟩; refine ⟨_, rfl, ?_⟩; replace BK707 := (bb BK707 hb); replace BK708 := (bb BK708 hb); replace HB := (bs hb); (try clear hb); obtain ⟨hcz9_0, hcz9_1, hcz9_2, hcz9_3, hcz9_4, hfz9_0, hfz9_1, hfz9_2, hfz9_3, hfz9_4⟩ := bc5 BK707; obtain ⟨hcz10_0, hcz10_1, hcz10_2, hcz10_3, hcz10_4, hfz10_0, hfz10_1, hfz10_2, hfz10_3, hfz10_4⟩ := bc5 BK708))
  refine bodyPost_ret (results_cell_row rfl _ _ gb708 29 #[.int .i64 a0_0, .int .i64 a0_1, .string a0_2, .bool a0_3, .int .i64 a0_4] (0, 0) _ rfl (by (with_reducible repeat (first | refine blk_drewN ?_ _ | refine blk_drew ?_ | refine blk_alloc ?_ _)); refine blk_put (cs := #[.int .i64 a0_0, .int .i64 a0_1, .string a0_2, .bool a0_3, .int .i64 0]) ?_ 4 _ rfl; (with_reducible repeat (first | refine blk_drewN ?_ _ | refine blk_drew ?_ | refine blk_alloc ?_ _)); refine blk_put (cs := #[.int .i64 a0_0, .int .i64 a0_1, .string a0_2, .bool false, .int .i64 0]) ?_ 3 _ rfl; (with_reducible repeat (first | refine blk_drewN ?_ _ | refine blk_drew ?_ | refine blk_alloc ?_ _)); refine blk_put (cs := #[.int .i64 a0_0, .int .i64 a0_1, .string (⟨#[]⟩ : ByteArray), .bool false, .int .i64 0]) ?_ 2 _ rfl; (with_reducible repeat (first | refine blk_drewN ?_ _ | refine blk_drew ?_ | refine blk_alloc ?_ _)); refine blk_put (cs := #[.int .i64 a0_0, .int .i64 0, .string (⟨#[]⟩ : ByteArray), .bool false, .int .i64 0]) ?_ 1 _ rfl; (with_reducible repeat (first | refine blk_drewN ?_ _ | refine blk_drew ?_ | refine blk_alloc ?_ _)); refine blk_put (cs := #[.int .i64 0, .int .i64 0, .string (⟨#[]⟩ : ByteArray), .bool false, .int .i64 0]) ?_ 0 _ rfl; (with_reducible repeat (first | refine blk_drewN ?_ _ | refine blk_drew ?_ | refine blk_alloc ?_ _)); exact BK708.out) Tryz.underlying29 rfl (by kernel_rfl)) rfl ?_
  exact ⟨by first | rfl | (simp [errW_none, errW_some] <;> rfl) | (simp [*, errW_none, errW_some] <;> rfl), be⟩
 ·replace c3 := Bool.eq_false_iff.mpr c3
  subst c3
  have H1 : ((value_E.f 3).bind fun bt710 => (some (bt710.1, bt710.2.1, bt710.2.2.1, bt710.2.2.2.1, bt710.2.2.2.2))) = some (r1, r2, r3, r4, r5) := by rw [if_neg (show ¬ (false = true) by decide)] at H; exact H
  clear H
  have H := H1
  clear H1
  replace H := Option.bind_eq_some_iff.mp H
  obtain ⟨⟨t710, t711, t712, t713, t714⟩, A110, H⟩ := H
  replace H : (some (t710, t711, t712, t713, t714)) = some (r1, r2, r3, r4, r5) := H
  have A11 := Aside0.mk A110
  clear A110
  simp only [Option.some.injEq, Prod.mk.injEq] at H
  obtain ⟨rfl, rfl, rfl, rfl, rfl⟩ := H
  go_enter Tryz.func40, Tryz.ntmps40
  go_wp2_with (first | ((with_reducible refine gate_dst (N := 1) rfl ?_); refine bx (N := 1) (cs := #[.int .i64 a0_0, .int .i64 a0_1, .string a0_2, .bool a0_3, .int .i64 a0_4]) (t := 29) ?_; intro gb707 hg w12 hbox hb; have BK707 := Aside0.mk (hbox); have GW707 := (bw hg); have GE707 := (bw hg); replace HB := (bs hb); clear hb hbox hg) | ((with_reducible refine gate_dst (N := 2) rfl ?_); refine bx (N := 2) (cs := #[.int .i64 0, .int .i64 0, .string (⟨#[]⟩ : ByteArray), .bool false, .int .i64 0]) (t := 29) ?_; intro gb708 hg w13 hbox hb; have BK708 := Aside0.mk (hbox); have GW708 := (bw hg); have GE708 := (bw hg); replace HB := (bs hb); have NB707_708 := Aside0.mk ((by rw [hg]; exact Nat.ne_of_lt (blk_lt (g := gb707) (o := .cells #[.int .i64 a0_0, .int .i64 a0_1, .string a0_2, .bool a0_3, .int .i64 a0_4] 29 (0, 0)) (by (with_reducible repeat (first | refine blk_drewN ?_ _ | refine blk_drew ?_ | refine blk_alloc ?_ _)); exact BK707.out)) : gb707 ≠ gb708)); have NB708_707 := Aside0.mk ((by rw [hg]; exact Nat.ne_of_gt (blk_lt (g := gb707) (o := .cells #[.int .i64 a0_0, .int .i64 a0_1, .string a0_2, .bool a0_3, .int .i64 a0_4] 29 (0, 0)) (by (with_reducible repeat (first | refine blk_drewN ?_ _ | refine blk_drew ?_ | refine blk_alloc ?_ _)); exact BK707.out)) : gb708 ≠ gb707)); replace BK707 := (bb BK707 hb); clear hb hbox hg; have hnb14 := NB707_708.out; have hnc14 := NB708_707.out; obtain ⟨hcz15_0, hcz15_1, hcz15_2, hcz15_3, hcz15_4, hfz15_0, hfz15_1, hfz15_2, hfz15_3, hfz15_4⟩ := bc5 BK707) | ((with_reducible refine gate_callee (f := 24) rfl ?_); refine gL (some 4) Tryz.func24 #[.agg #[.int .i64 a0_0, .int .i64 a0_1, .string a0_2, .bool a0_3, .int .i64 a0_4]] ?_; (with_reducible refine (value_Value_Good.calls k a0_0 a0_1 a0_2 a0_3 a0_4 false _ A2.out).mono ?_); rintro e w16 ⟨rfl, hb⟩; refine ⟨_, rfl, ?_⟩; replace BK707 := (bb BK707 hb); replace BK708 := (bb BK708 hb); replace HB := (bs hb); (try clear hb)) | ((with_reducible refine gate_callee (f := 25) rfl ?_); refine gL (some 6) Tryz.func25 #[.int .i64 3] ?_; (with_reducible refine (value_E.calls 3 t710 t711 t712 t713 t714 _ A11.out).mono ?_); rintro e w17 ⟨rfl, hb⟩; refine ⟨_, rfl, ?_⟩; replace BK707 := (bb BK707 hb); replace BK708 := (bb BK708 hb); replace HB := (bs hb); (try clear hb); obtain ⟨hcz18_0, hcz18_1, hcz18_2, hcz18_3, hcz18_4, hfz18_0, hfz18_1, hfz18_2, hfz18_3, hfz18_4⟩ := bc5 BK708))
  refine bodyPost_ret (results_cell_row rfl _ _ gb708 29 #[.int .i64 t710, .int .i64 t711, .string t712, .bool t713, .int .i64 t714] (0, 0) _ rfl (by (with_reducible repeat (first | refine blk_drewN ?_ _ | refine blk_drew ?_ | refine blk_alloc ?_ _)); refine blk_put (cs := #[.int .i64 t710, .int .i64 t711, .string t712, .bool t713, .int .i64 0]) ?_ 4 _ rfl; (with_reducible repeat (first | refine blk_drewN ?_ _ | refine blk_drew ?_ | refine blk_alloc ?_ _)); refine blk_put (cs := #[.int .i64 t710, .int .i64 t711, .string t712, .bool false, .int .i64 0]) ?_ 3 _ rfl; (with_reducible repeat (first | refine blk_drewN ?_ _ | refine blk_drew ?_ | refine blk_alloc ?_ _)); refine blk_put (cs := #[.int .i64 t710, .int .i64 t711, .string (⟨#[]⟩ : ByteArray), .bool false, .int .i64 0]) ?_ 2 _ rfl; (with_reducible repeat (first | refine blk_drewN ?_ _ | refine blk_drew ?_ | refine blk_alloc ?_ _)); refine blk_put (cs := #[.int .i64 t710, .int .i64 0, .string (⟨#[]⟩ : ByteArray), .bool false, .int .i64 0]) ?_ 1 _ rfl; (with_reducible repeat (first | refine blk_drewN ?_ _ | refine blk_drew ?_ | refine blk_alloc ?_ _)); refine blk_put (cs := #[.int .i64 0, .int .i64 0, .string (⟨#[]⟩ : ByteArray), .bool false, .int .i64 0]) ?_ 0 _ rfl; (with_reducible repeat (first | refine blk_drewN ?_ _ | refine blk_drew ?_ | refine blk_alloc ?_ _)); exact BK708.out) Tryz.underlying29 rfl (by kernel_rfl)) rfl ?_
  exact ⟨by first | rfl | (simp [errW_none, errW_some] <;> rfl) | (simp [*, errW_none, errW_some] <;> rfl), be⟩
end Go.Proofs.YtcihleahjnpaaaaGreatDoor.P
namespace Go.Proofs.YtcihleahjnpaaaaGreatDoor.P
open Go.RowKit Go.Proofs.YtcihleahjnpaaaaGreatDoor.Q Go.Proofs.YtcihleahjnpaaaaGreatDoor.H Go.Proofs.YtcihleahjnpaaaaGreatDoorW.PrintWords Go.Proofs.YtcihleahjnpaaaaGreatDoorW.PrintLast Go.Proofs.YtcihleahjnpaaaaGreatDoorW.PrintMore
attribute [local go_sem] max2_int min2_int max_two min_two max_three min_three max_four min_four   -- for this text's walks alone
set_option linter.unusedVariables false
set_option linter.unusedSimpArgs false
def value_Value_beside.f (a0_0 : Int) (a0_1 : Int) (a0_2 : ByteArray) (a0_3 : Bool) (a0_4 : Int) (a1_0 : Int) (a1_1 : Int) (a1_2 : ByteArray) (a1_3 : Bool) (a1_4 : Int) : Option (Int × Int × ByteArray × Bool × Int) := if a0_0 = 0 then (some (a1_0, 0, (⟨#[]⟩ : ByteArray), false, 0)) else (some (a0_0, a0_1, a0_2, a0_3, a0_4))
set_option maxHeartbeats 8000000 in
set_option maxRecDepth 100000 in
theorem value_Value_beside.calls (a0_0 : Int) (a0_1 : Int) (a0_2 : ByteArray) (a0_3 : Bool) (a0_4 : Int) (a1_0 : Int) (a1_1 : Int) (a1_2 : ByteArray) (a1_3 : Bool) (a1_4 : Int) (r1 : Int) (r2 : Int) (r3 : ByteArray) (r4 : Bool) (r5 : Int) (w : World) (h : value_Value_beside.f a0_0 a0_1 a0_2 a0_3 a0_4 a1_0 a1_1 a1_2 a1_3 a1_4 = some (r1, r2, r3, r4, r5)) :
  Calls Tryz.prog 41 #[.agg #[.int .i64 a0_0, .int .i64 a0_1, .string a0_2, .bool a0_3, .int .i64 a0_4], .agg #[.int .i64 a1_0, .int .i64 a1_1, .string a1_2, .bool a1_3, .int .i64 a1_4]] w fun e w' => e = .returned (.agg #[.int .i64 r1, .int .i64 r2, .string r3, .bool r4, .int .i64 r5]) ∧ Below w.heap.size w w' := by
 have hu29 := Tryz.underlying29
 have HB := Aside0.mk (Below.refl w.heap.size w)
 have H : (if a0_0 = 0 then (some (a1_0, 0, (⟨#[]⟩ : ByteArray), false, 0)) else (some (a0_0, a0_1, a0_2, a0_3, a0_4))) = some (r1, r2, r3, r4, r5) := h
 clear h
 by_cases c3 : a0_0 = 0
 ·rw [if_pos c3] at H
  have c3b0 : (a0_0 == 0) = true := beq_iff_eq.mpr c3
  have c3b1 : (a0_0 != 0) = false := bne_eq_false_iff_eq.mpr c3
  clear c3
  simp only [Option.some.injEq, Prod.mk.injEq] at H
  obtain ⟨rfl, rfl, rfl, rfl, rfl⟩ := H
  go_enter Tryz.func41, Tryz.ntmps41
  go_wp2_with (first | ((with_reducible refine gate_dst (N := 2) rfl ?_); refine bx (N := 2) (cs := #[.int .i64 a0_0, .int .i64 a0_1, .string a0_2, .bool a0_3, .int .i64 a0_4]) (t := 29) ?_; intro gb715 hg w4 hbox hb; have BK715 := Aside0.mk (hbox); have GW715 := (bw hg); have GE715 := (bw hg); replace HB := (bs hb); clear hb hbox hg) | ((with_reducible refine gate_dst (N := 3) rfl ?_); refine bx (N := 3) (cs := #[.int .i64 a1_0, .int .i64 a1_1, .string a1_2, .bool a1_3, .int .i64 a1_4]) (t := 29) ?_; intro gb716 hg w5 hbox hb; have BK716 := Aside0.mk (hbox); have GW716 := (bw hg); have GE716 := (bw hg); replace HB := (bs hb); have NB715_716 := Aside0.mk ((by rw [hg]; exact Nat.ne_of_lt (blk_lt (g := gb715) (o := .cells #[.int .i64 a0_0, .int .i64 a0_1, .string a0_2, .bool a0_3, .int .i64 a0_4] 29 (0, 0)) (by (with_reducible repeat (first | refine blk_drewN ?_ _ | refine blk_drew ?_ | refine blk_alloc ?_ _)); exact BK715.out)) : gb715 ≠ gb716)); have NB716_715 := Aside0.mk ((by rw [hg]; exact Nat.ne_of_gt (blk_lt (g := gb715) (o := .cells #[.int .i64 a0_0, .int .i64 a0_1, .string a0_2, .bool a0_3, .int .i64 a0_4] 29 (0, 0)) (by (with_reducible repeat (first | refine blk_drewN ?_ _ | refine blk_drew ?_ | refine blk_alloc ?_ _)); exact BK715.out)) : gb716 ≠ gb715)); replace BK715 := (bb BK715 hb); clear hb hbox hg) | ((with_reducible refine gate_dst (N := 4) rfl ?_); refine bx (N := 4) (cs := #[.int .i64 0, .int .i64 0, .string (⟨#[]⟩ : ByteArray), .bool false, .int .i64 0]) (t := 29) ?_; intro gb717 hg w6 hbox hb; have BK717 := Aside0.mk (hbox); have GW717 := (bw hg); have GE717 := (bw hg); replace HB := (bs hb); have NB715_717 := Aside0.mk ((by rw [hg]; exact Nat.ne_of_lt (blk_lt (g := gb715) (o := .cells #[.int .i64 a0_0, .int .i64 a0_1, .string a0_2, .bool a0_3, .int .i64 a0_4] 29 (0, 0)) (by (with_reducible repeat (first | refine blk_drewN ?_ _ | refine blk_drew ?_ | refine blk_alloc ?_ _)); exact BK715.out)) : gb715 ≠ gb717)); have NB717_715 := Aside0.mk ((by rw [hg]; exact Nat.ne_of_gt (blk_lt (g := gb715) (o := .cells #[.int .i64 a0_0, .int .i64 a0_1, .string a0_2, .bool a0_3, .int .i64 a0_4] 29 (0, 0)) (by (with_reducible repeat (first | refine blk_drewN ?_ _ | refine blk_drew ?_ | refine blk_alloc ?_ _)); exact BK715.out)) : gb717 ≠ gb715)); replace BK715 := (bb BK715 hb); have NB716_717 := Aside0.mk ((by rw [hg]; exact Nat.ne_of_lt (blk_lt (g := gb716) (o := .cells #[.int .i64 a1_0, .int .i64 a1_1, .string a1_2, .bool a1_3, .int .i64 a1_4] 29 (0, 0)) (by (with_reducible repeat (first | refine blk_drewN ?_ _ | refine blk_drew ?_ | refine blk_alloc ?_ _)); exact BK716.out)) : gb716 ≠ gb717)); have NB717_716 := Aside0.mk ((by rw [hg]; exact Nat.ne_of_gt (blk_lt (g := gb716) (o := .cells #[.int .i64 a1_0, .int .i64 a1_1, .string a1_2, .bool a1_3, .int .i64 a1_4] 29 (0, 0)) (by (with_reducible repeat (first | refine blk_drewN ?_ _ | refine blk_drew ?_ | refine blk_alloc ?_ _)); exact BK716.out)) : gb717 ≠ gb716)); replace BK716 := (bb BK716 hb); clear hb hbox hg; have hnb7 := NB715_716.out; have hnc7 := NB716_715.out; have hnb8 := NB715_717.out; have hnc8 := NB717_715.out; obtain ⟨hcz9_0, hcz9_1, hcz9_2, hcz9_3, hcz9_4, hfz9_0, hfz9_1, hfz9_2, hfz9_3, hfz9_4⟩ := bc5 BK715; have hnb10 := NB716_717.out; have hnc10 := NB717_716.out; obtain ⟨hcz11_0, hcz11_1, hcz11_2, hcz11_3, hcz11_4, hfz11_0, hfz11_1, hfz11_2, hfz11_3, hfz11_4⟩ := bc5 BK716; obtain ⟨hcz12_0, hcz12_1, hcz12_2, hcz12_3, hcz12_4, hfz12_0, hfz12_1, hfz12_2, hfz12_3, hfz12_4⟩ := bc5 BK717))
  refine bodyPost_ret (results_cell_row rfl _ _ gb717 29 #[.int .i64 a1_0, .int .i64 0, .string (⟨#[]⟩ : ByteArray), .bool false, .int .i64 0] (0, 0) _ rfl (by (with_reducible repeat (first | refine blk_drewN ?_ _ | refine blk_drew ?_ | refine blk_alloc ?_ _)); refine blk_put (cs := #[.int .i64 a1_0, .int .i64 0, .string (⟨#[]⟩ : ByteArray), .bool false, .int .i64 0]) ?_ 4 _ rfl; (with_reducible repeat (first | refine blk_drewN ?_ _ | refine blk_drew ?_ | refine blk_alloc ?_ _)); refine blk_put (cs := #[.int .i64 a1_0, .int .i64 0, .string (⟨#[]⟩ : ByteArray), .bool false, .int .i64 0]) ?_ 3 _ rfl; (with_reducible repeat (first | refine blk_drewN ?_ _ | refine blk_drew ?_ | refine blk_alloc ?_ _)); refine blk_put (cs := #[.int .i64 a1_0, .int .i64 0, .string (⟨#[]⟩ : ByteArray), .bool false, .int .i64 0]) ?_ 2 _ rfl; (with_reducible repeat (first | refine blk_drewN ?_ _ | refine blk_drew ?_ | refine blk_alloc ?_ _)); refine blk_put (cs := #[.int .i64 a1_0, .int .i64 0, .string (⟨#[]⟩ : ByteArray), .bool false, .int .i64 0]) ?_ 1 _ rfl; (with_reducible repeat (first | refine blk_drewN ?_ _ | refine blk_drew ?_ | refine blk_alloc ?_ _)); refine blk_put (cs := #[.int .i64 0, .int .i64 0, .string (⟨#[]⟩ : ByteArray), .bool false, .int .i64 0]) ?_ 0 _ rfl; (with_reducible repeat (first | refine blk_drewN ?_ _ | refine blk_drew ?_ | refine blk_alloc ?_ _)); exact BK717.out) Tryz.underlying29 rfl (by kernel_rfl)) rfl ?_
  exact ⟨by first | rfl | (simp [errW_none, errW_some] <;> rfl) | (simp [*, errW_none, errW_some] <;> rfl), be⟩
 ·rw [if_neg c3] at H
  have c3b0 : (a0_0 == 0) = false := beq_eq_false_iff_ne.mpr c3
  have c3b1 : (a0_0 != 0) = true := bne_iff_ne.mpr c3
  simp only [Option.some.injEq, Prod.mk.injEq] at H
  obtain ⟨rfl, rfl, rfl, rfl, rfl⟩ := H
  go_enter Tryz.func41, Tryz.ntmps41
  go_wp2_with (first | ((with_reducible refine gate_dst (N := 2) rfl ?_); refine bx (N := 2) (cs := #[.int .i64 a0_0, .int .i64 a0_1, .string a0_2, .bool a0_3, .int .i64 a0_4]) (t := 29) ?_; intro gb715 hg w13 hbox hb; have BK715 := Aside0.mk (hbox); have GW715 := (bw hg); have GE715 := (bw hg); replace HB := (bs hb); clear hb hbox hg) | ((with_reducible refine gate_dst (N := 3) rfl ?_); refine bx (N := 3) (cs := #[.int .i64 a1_0, .int .i64 a1_1, .string a1_2, .bool a1_3, .int .i64 a1_4]) (t := 29) ?_; intro gb716 hg w14 hbox hb; have BK716 := Aside0.mk (hbox); have GW716 := (bw hg); have GE716 := (bw hg); replace HB := (bs hb); have NB715_716 := Aside0.mk ((by rw [hg]; exact Nat.ne_of_lt (blk_lt (g := gb715) (o := .cells #[.int .i64 a0_0, .int .i64 a0_1, .string a0_2, .bool a0_3, .int .i64 a0_4] 29 (0, 0)) (by (with_reducible repeat (first | refine blk_drewN ?_ _ | refine blk_drew ?_ | refine blk_alloc ?_ _)); exact BK715.out)) : gb715 ≠ gb716)); have NB716_715 := Aside0.mk ((by rw [hg]; exact Nat.ne_of_gt (blk_lt (g := gb715) (o := .cells #[.int .i64 a0_0, .int .i64 a0_1, .string a0_2, .bool a0_3, .int .i64 a0_4] 29 (0, 0)) (by (with_reducible repeat (first | refine blk_drewN ?_ _ | refine blk_drew ?_ | refine blk_alloc ?_ _)); exact BK715.out)) : gb716 ≠ gb715)); replace BK715 := (bb BK715 hb); clear hb hbox hg) | ((with_reducible refine gate_dst (N := 4) rfl ?_); refine bx (N := 4) (cs := #[.int .i64 0, .int .i64 0, .string (⟨#[]⟩ : ByteArray), .bool false, .int .i64 0]) (t := 29) ?_; intro gb717 hg w15 hbox hb; have BK717 := Aside0.mk (hbox); have GW717 := (bw hg); have GE717 := (bw hg); replace HB := (bs hb); have NB715_717 := Aside0.mk ((by rw [hg]; exact Nat.ne_of_lt (blk_lt (g := gb715) (o := .cells #[.int .i64 a0_0, .int .i64 a0_1, .string a0_2, .bool a0_3, .int .i64 a0_4] 29 (0, 0)) (by (with_reducible repeat (first | refine blk_drewN ?_ _ | refine blk_drew ?_ | refine blk_alloc ?_ _)); exact BK715.out)) : gb715 ≠ gb717)); have NB717_715 := Aside0.mk ((by rw [hg]; exact Nat.ne_of_gt (blk_lt (g := gb715) (o := .cells #[.int .i64 a0_0, .int .i64 a0_1, .string a0_2, .bool a0_3, .int .i64 a0_4] 29 (0, 0)) (by (with_reducible repeat (first | refine blk_drewN ?_ _ | refine blk_drew ?_ | refine blk_alloc ?_ _)); exact BK715.out)) : gb717 ≠ gb715)); replace BK715 := (bb BK715 hb); have NB716_717 := Aside0.mk ((by rw [hg]; exact Nat.ne_of_lt (blk_lt (g := gb716) (o := .cells #[.int .i64 a1_0, .int .i64 a1_1, .string a1_2, .bool a1_3, .int .i64 a1_4] 29 (0, 0)) (by (with_reducible repeat (first | refine blk_drewN ?_ _ | refine blk_drew ?_ | refine blk_alloc ?_ _)); exact BK716.out)) : gb716 ≠ gb717)); have NB717_716 := Aside0.mk ((by rw [hg]; exact Nat.ne_of_gt (blk_lt (g := gb716) (o := .cells #[.int .i64 a1_0, .int .i64 a1_1, .string a1_2, .bool a1_3, .int .i64 a1_4] 29 (0, 0)) (by (with_reducible repeat (first | refine blk_drewN ?_ _ | refine blk_drew ?_ | refine blk_alloc ?_ _)); exact BK716.out)) : gb717 ≠ gb716)); replace BK716 := (bb BK716 hb); clear hb hbox hg; have hnb16 := NB715_716.out; have hnc16 := NB716_715.out; have hnb17 := NB715_717.out; have hnc17 := NB717_715.out; obtain ⟨hcz18_0, hcz18_1, hcz18_2, hcz18_3, hcz18_4, hfz18_0, hfz18_1, hfz18_2, hfz18_3, hfz18_4⟩ := bc5 BK715; have hnb19 := NB717_716.out; have hnc19 := NB716_717.out; obtain ⟨hcz20_0, hcz20_1, hcz20_2, hcz20_3, hcz20_4, hfz20_0, hfz20_1, hfz20_2, hfz20_3, hfz20_4⟩ := bc5 BK717))
  refine bodyPost_ret (results_cell_row rfl _ _ gb717 29 #[.int .i64 a0_0, .int .i64 a0_1, .string a0_2, .bool a0_3, .int .i64 a0_4] (0, 0) _ rfl (by (with_reducible repeat (first | refine blk_drewN ?_ _ | refine blk_drew ?_ | refine blk_alloc ?_ _)); refine blk_put (cs := #[.int .i64 a0_0, .int .i64 a0_1, .string a0_2, .bool a0_3, .int .i64 0]) ?_ 4 _ rfl; (with_reducible repeat (first | refine blk_drewN ?_ _ | refine blk_drew ?_ | refine blk_alloc ?_ _)); refine blk_put (cs := #[.int .i64 a0_0, .int .i64 a0_1, .string a0_2, .bool false, .int .i64 0]) ?_ 3 _ rfl; (with_reducible repeat (first | refine blk_drewN ?_ _ | refine blk_drew ?_ | refine blk_alloc ?_ _)); refine blk_put (cs := #[.int .i64 a0_0, .int .i64 a0_1, .string (⟨#[]⟩ : ByteArray), .bool false, .int .i64 0]) ?_ 2 _ rfl; (with_reducible repeat (first | refine blk_drewN ?_ _ | refine blk_drew ?_ | refine blk_alloc ?_ _)); refine blk_put (cs := #[.int .i64 a0_0, .int .i64 0, .string (⟨#[]⟩ : ByteArray), .bool false, .int .i64 0]) ?_ 1 _ rfl; (with_reducible repeat (first | refine blk_drewN ?_ _ | refine blk_drew ?_ | refine blk_alloc ?_ _)); refine blk_put (cs := #[.int .i64 0, .int .i64 0, .string (⟨#[]⟩ : ByteArray), .bool false, .int .i64 0]) ?_ 0 _ rfl; (with_reducible repeat (first | refine blk_drewN ?_ _ | refine blk_drew ?_ | refine blk_alloc ?_ _)); exact BK717.out) Tryz.underlying29 rfl (by kernel_rfl)) rfl ?_
  exact ⟨by first | rfl | (simp [errW_none, errW_some] <;> rfl) | (simp [*, errW_none, errW_some] <;> rfl), be⟩
end Go.Proofs.YtcihleahjnpaaaaGreatDoor.P
namespace Go.Proofs.YtcihleahjnpaaaaGreatDoor.P
open Go.RowKit Go.Proofs.YtcihleahjnpaaaaGreatDoor.Q Go.Proofs.YtcihleahjnpaaaaGreatDoor.H Go.Proofs.YtcihleahjnpaaaaGreatDoorW.PrintWords Go.Proofs.YtcihleahjnpaaaaGreatDoorW.PrintLast Go.Proofs.YtcihleahjnpaaaaGreatDoorW.PrintMore
attribute [local go_sem] max2_int min2_int max_two min_two max_three min_three max_four min_four   -- for this text's walks alone
set_option linter.unusedVariables false
set_option linter.unusedSimpArgs false
def value_Value_AsNum.f (k : Nat) (a0_0 : Int) (a0_1 : Int) (a0_2 : ByteArray) (a0_3 : Bool) (a0_4 : Int) : Option (Int × Int) := (value_Value_sound.f k a0_0 a0_1 a0_2 a0_3 a0_4).bind fun bt724 => (if bt724.1 = 1 then (some (bt724.2.1, 0)) else (if bt724.1 = 2 then ((strings_Trim.f bt724.2.2.1 (⟨#[32]⟩ : ByteArray)).bind fun t729 => ((fixed_Parse.f t729).bind fun bt730 => (if bt730.2 = 0 then (some (bt730.1, 0)) else (some (0, 3))))) else (if bt724.1 = 3 then (if bt724.2.2.2.1 = true then (some (10000, 0)) else (some (0, 0))) else (if bt724.1 = 4 then (some (0, bt724.2.2.2.2)) else (some (0, 0))))))
set_option maxHeartbeats 8000000 in
set_option maxRecDepth 100000 in
theorem value_Value_AsNum.calls (k : Nat) (a0_0 : Int) (a0_1 : Int) (a0_2 : ByteArray) (a0_3 : Bool) (a0_4 : Int) (r1 : Int) (r2 : Int) (w : World) (h : value_Value_AsNum.f k a0_0 a0_1 a0_2 a0_3 a0_4 = some (r1, r2)) :
  Calls Tryz.prog 92 #[.agg #[.int .i64 a0_0, .int .i64 a0_1, .string a0_2, .bool a0_3, .int .i64 a0_4]] w fun e w' => e = .returned (.tuple #[.int .i64 r1, .int .i64 r2]) ∧ Below w.heap.size w w' := by
 have hu29 := Tryz.underlying29
 have HB := Aside0.mk (Below.refl w.heap.size w)
 have H : ((value_Value_sound.f k a0_0 a0_1 a0_2 a0_3 a0_4).bind fun bt724 => (if bt724.1 = 1 then (some (bt724.2.1, 0)) else (if bt724.1 = 2 then ((strings_Trim.f bt724.2.2.1 (⟨#[32]⟩ : ByteArray)).bind fun t729 => ((fixed_Parse.f t729).bind fun bt730 => (if bt730.2 = 0 then (some (bt730.1, 0)) else (some (0, 3))))) else (if bt724.1 = 3 then (if bt724.2.2.2.1 = true then (some (10000, 0)) else (some (0, 0))) else (if bt724.1 = 4 then (some (0, bt724.2.2.2.2)) else (some (0, 0))))))) = some (r1, r2) := h
 clear h
 replace H := Option.bind_eq_some_iff.mp H
 obtain ⟨⟨t724, t725, t726, t727, t728⟩, A20, H⟩ := H
 replace H : (if t724 = 1 then (some (t725, 0)) else (if t724 = 2 then ((strings_Trim.f t726 (⟨#[32]⟩ : ByteArray)).bind fun t729 => ((fixed_Parse.f t729).bind fun bt730 => (if bt730.2 = 0 then (some (bt730.1, 0)) else (some (0, 3))))) else (if t724 = 3 then (if t727 = true then (some (10000, 0)) else (some (0, 0))) else (if t724 = 4 then (some (0, t728)) else (some (0, 0)))))) = some (r1, r2) := H
 have A2 := Aside0.mk A20
 clear A20
 by_cases c3 : t724 = 1
 ·rw [if_pos c3] at H
  have c3b0 : (t724 == 1) = true := beq_iff_eq.mpr c3
  have c3b1 : (t724 != 1) = false := bne_eq_false_iff_eq.mpr c3
  clear c3
  simp only [Option.some.injEq, Prod.mk.injEq] at H
  obtain ⟨rfl, rfl⟩ := H
  go_enter Tryz.func92, Tryz.ntmps92
  go_wp2_with (first | ((with_reducible refine gate_dst (N := 1) rfl ?_); refine bx (N := 1) (cs := #[.int .i64 a0_0, .int .i64 a0_1, .string a0_2, .bool a0_3, .int .i64 a0_4]) (t := 29) ?_; intro gb723 hg w4 hbox hb; have BK723 := Aside0.mk (hbox); have GW723 := (bw hg); have GE723 := (bw hg); replace HB := (bs hb); clear hb hbox hg; obtain ⟨hcz5_0, hcz5_1, hcz5_2, hcz5_3, hcz5_4, hfz5_0, hfz5_1, hfz5_2, hfz5_3, hfz5_4⟩ := bc5 BK723) | (go_at_call 40; (with_reducible refine (value_Value_sound.calls k a0_0 a0_1 a0_2 a0_3 a0_4 t724 t725 t726 t727 t728 _ A2.out).mono ?_); rintro e w6 ⟨rfl, hb⟩; replace BK723 := (bb BK723 hb); replace HB := (bs hb); (try clear hb); obtain ⟨hcz7_0, hcz7_1, hcz7_2, hcz7_3, hcz7_4, hfz7_0, hfz7_1, hfz7_2, hfz7_3, hfz7_4⟩ := bc5 BK723))
  repeat (go_quiet (first | ((with_reducible refine gate_dst (N := 1) rfl ?_); refine bx (N := 1) (cs := #[.int .i64 a0_0, .int .i64 a0_1, .string a0_2, .bool a0_3, .int .i64 a0_4]) (t := 29) ?_; intro gb723 hg w4 hbox hb; have BK723 := Aside0.mk (hbox); have GW723 := (bw hg); have GE723 := (bw hg); replace HB := (bs hb); clear hb hbox hg; obtain ⟨hcz5_0, hcz5_1, hcz5_2, hcz5_3, hcz5_4, hfz5_0, hfz5_1, hfz5_2, hfz5_3, hfz5_4⟩ := bc5 BK723) | (go_at_call 40; (with_reducible refine (value_Value_sound.calls k a0_0 a0_1 a0_2 a0_3 a0_4 t724 t725 t726 t727 t728 _ A2.out).mono ?_); rintro e w6 ⟨rfl, hb⟩; replace BK723 := (bb BK723 hb); replace HB := (bs hb); (try clear hb); obtain ⟨hcz7_0, hcz7_1, hcz7_2, hcz7_3, hcz7_4, hfz7_0, hfz7_1, hfz7_2, hfz7_3, hfz7_4⟩ := bc5 BK723)); try go_wp2_with (first | ((with_reducible refine gate_dst (N := 1) rfl ?_); refine bx (N := 1) (cs := #[.int .i64 a0_0, .int .i64 a0_1, .string a0_2, .bool a0_3, .int .i64 a0_4]) (t := 29) ?_; intro gb723 hg w4 hbox hb; have BK723 := Aside0.mk (hbox); have GW723 := (bw hg); have GE723 := (bw hg); replace HB := (bs hb); clear hb hbox hg; obtain ⟨hcz5_0, hcz5_1, hcz5_2, hcz5_3, hcz5_4, hfz5_0, hfz5_1, hfz5_2, hfz5_3, hfz5_4⟩ := bc5 BK723) | (go_at_call 40; (with_reducible refine (value_Value_sound.calls k a0_0 a0_1 a0_2 a0_3 a0_4 t724 t725 t726 t727 t728 _ A2.out).mono ?_); rintro e w6 ⟨rfl, hb⟩; replace BK723 := (bb BK723 hb); replace HB := (bs hb); (try clear hb); obtain ⟨hcz7_0, hcz7_1, hcz7_2, hcz7_3, hcz7_4, hfz7_0, hfz7_1, hfz7_2, hfz7_3, hfz7_4⟩ := bc5 BK723)))
  go_ret2
  exact ⟨by first | rfl | (simp [errW_none, errW_some] <;> rfl) | (simp [*, errW_none, errW_some] <;> rfl), be⟩
 ·rw [if_neg c3] at H
  have c3b0 : (t724 == 1) = false := beq_eq_false_iff_ne.mpr c3
  have c3b1 : (t724 != 1) = true := bne_iff_ne.mpr c3
  by_cases c8 : t724 = 2
  ·rw [if_pos c8] at H
   have c8b0 : (t724 == 2) = true := beq_iff_eq.mpr c8
   have c8b1 : (t724 != 2) = false := bne_eq_false_iff_eq.mpr c8
   clear c8
   replace H := Option.bind_eq_some_iff.mp H
   obtain ⟨t729, A90, H⟩ := H
   replace H : ((fixed_Parse.f t729).bind fun bt730 => (if bt730.2 = 0 then (some (bt730.1, 0)) else (some (0, 3)))) = some (r1, r2) := H
   have A9 := Aside0.mk A90
   clear A90
   replace H := Option.bind_eq_some_iff.mp H
   obtain ⟨⟨t730, t731⟩, A100, H⟩ := H
   replace H : (if t731 = 0 then (some (t730, 0)) else (some (0, 3))) = some (r1, r2) := H
   have A10 := Aside0.mk A100
   clear A100
   by_cases c11 : t731 = 0
   ·rw [if_pos c11] at H
    have c11b0 : (t731 == 0) = true := beq_iff_eq.mpr c11
    have c11b1 : (t731 != 0) = false := bne_eq_false_iff_eq.mpr c11
    clear c11
    simp only [Option.some.injEq, Prod.mk.injEq] at H
    obtain ⟨rfl, rfl⟩ := H
    go_enter Tryz.func92, Tryz.ntmps92
    go_wp2_with (first | ((with_reducible refine gate_dst (N := 1) rfl ?_); refine bx (N := 1) (cs := #[.int .i64 a0_0, .int .i64 a0_1, .string a0_2, .bool a0_3, .int .i64 a0_4]) (t := 29) ?_; intro gb723 hg w12 hbox hb; have BK723 := Aside0.mk (hbox); have GW723 := (bw hg); have GE723 := (bw hg); replace HB := (bs hb); clear hb hbox hg; obtain ⟨hcz13_0, hcz13_1, hcz13_2, hcz13_3, hcz13_4, hfz13_0, hfz13_1, hfz13_2, hfz13_3, hfz13_4⟩ := bc5 BK723) | (go_at_call 40; (with_reducible refine (value_Value_sound.calls k a0_0 a0_1 a0_2 a0_3 a0_4 t724 t725 t726 t727 t728 _ A2.out).mono ?_); rintro e w14 ⟨rfl, hb⟩; replace BK723 := (bb BK723 hb); replace HB := (bs hb); (try clear hb); obtain ⟨hcz15_0, hcz15_1, hcz15_2, hcz15_3, hcz15_4, hfz15_0, hfz15_1, hfz15_2, hfz15_3, hfz15_4⟩ := bc5 BK723) | (go_at_call 101; (with_reducible refine (strings_Trim.calls t726 (⟨#[32]⟩ : ByteArray) t729 _ A9.out).mono ?_); rintro e w16 ⟨rfl, hb⟩; replace BK723 := Aside0.mk (blk_below (g := gb723) (o := .cells #[.int .i64 t724, .int .i64 t725, .string t726, .bool t727, .int .i64 t728] 29 (0, 0)) (by (with_reducible repeat (first | refine blk_drewN ?_ _ | refine blk_drew ?_ | refine blk_alloc ?_ _)); refine blk_put (cs := #[.int .i64 t724, .int .i64 t725, .string t726, .bool t727, .int .i64 a0_4]) ?_ 4 _ rfl; (with_reducible repeat (first | refine blk_drewN ?_ _ | refine blk_drew ?_ | refine blk_alloc ?_ _)); refine blk_put (cs := #[.int .i64 t724, .int .i64 t725, .string t726, .bool a0_3, .int .i64 a0_4]) ?_ 3 _ rfl; (with_reducible repeat (first | refine blk_drewN ?_ _ | refine blk_drew ?_ | refine blk_alloc ?_ _)); refine blk_put (cs := #[.int .i64 t724, .int .i64 t725, .string a0_2, .bool a0_3, .int .i64 a0_4]) ?_ 2 _ rfl; (with_reducible repeat (first | refine blk_drewN ?_ _ | refine blk_drew ?_ | refine blk_alloc ?_ _)); refine blk_put (cs := #[.int .i64 t724, .int .i64 a0_1, .string a0_2, .bool a0_3, .int .i64 a0_4]) ?_ 1 _ rfl; (with_reducible repeat (first | refine blk_drewN ?_ _ | refine blk_drew ?_ | refine blk_alloc ?_ _)); refine blk_put (cs := #[.int .i64 a0_0, .int .i64 a0_1, .string a0_2, .bool a0_3, .int .i64 a0_4]) ?_ 0 _ rfl; (with_reducible repeat (first | refine blk_drewN ?_ _ | refine blk_drew ?_ | refine blk_alloc ?_ _)); exact BK723.out) hb); replace HB := (bs hb); (try clear hb)) | (go_at_call 100; (with_reducible refine (fixed_Parse.calls t729 t730 t731 _ A10.out).mono ?_); rintro e w17 ⟨rfl, hb⟩; replace BK723 := (bb BK723 hb); replace HB := (bs hb); (try clear hb)))
    repeat (go_quiet (first | ((with_reducible refine gate_dst (N := 1) rfl ?_); refine bx (N := 1) (cs := #[.int .i64 a0_0, .int .i64 a0_1, .string a0_2, .bool a0_3, .int .i64 a0_4]) (t := 29) ?_; intro gb723 hg w12 hbox hb; have BK723 := Aside0.mk (hbox); have GW723 := (bw hg); have GE723 := (bw hg); replace HB := (bs hb); clear hb hbox hg; obtain ⟨hcz13_0, hcz13_1, hcz13_2, hcz13_3, hcz13_4, hfz13_0, hfz13_1, hfz13_2, hfz13_3, hfz13_4⟩ := bc5 BK723) | (go_at_call 40; (with_reducible refine (value_Value_sound.calls k a0_0 a0_1 a0_2 a0_3 a0_4 t724 t725 t726 t727 t728 _ A2.out).mono ?_); rintro e w14 ⟨rfl, hb⟩; replace BK723 := (bb BK723 hb); replace HB := (bs hb); (try clear hb); obtain ⟨hcz15_0, hcz15_1, hcz15_2, hcz15_3, hcz15_4, hfz15_0, hfz15_1, hfz15_2, hfz15_3, hfz15_4⟩ := bc5 BK723) | (go_at_call 101; (with_reducible refine (strings_Trim.calls t726 (⟨#[32]⟩ : ByteArray) t729 _ A9.out).mono ?_); rintro e w16 ⟨rfl, hb⟩; replace BK723 := Aside0.mk (blk_below (g := gb723) (o := .cells #[.int .i64 t724, .int .i64 t725, .string t726, .bool t727, .int .i64 t728] 29 (0, 0)) (by (with_reducible repeat (first | refine blk_drewN ?_ _ | refine blk_drew ?_ | refine blk_alloc ?_ _)); refine blk_put (cs := #[.int .i64 t724, .int .i64 t725, .string t726, .bool t727, .int .i64 a0_4]) ?_ 4 _ rfl; (with_reducible repeat (first | refine blk_drewN ?_ _ | refine blk_drew ?_ | refine blk_alloc ?_ _)); refine blk_put (cs := #[.int .i64 t724, .int .i64 t725, .string t726, .bool a0_3, .int .i64 a0_4]) ?_ 3 _ rfl; (with_reducible repeat (first | refine blk_drewN ?_ _ | refine blk_drew ?_ | refine blk_alloc ?_ _)); refine blk_put (cs := #[.int .i64 t724, .int .i64 t725, .string a0_2, .bool a0_3, .int .i64 a0_4]) ?_ 2 _ rfl; (with_reducible repeat (first | refine blk_drewN ?_ _ | refine blk_drew ?_ | refine blk_alloc ?_ _)); refine blk_put (cs := #[.int .i64 t724, .int .i64 a0_1, .string a0_2, .bool a0_3, .int .i64 a0_4]) ?_ 1 _ rfl; (with_reducible repeat (first | refine blk_drewN ?_ _ | refine blk_drew ?_ | refine blk_alloc ?_ _)); refine blk_put (cs := #[.int .i64 a0_0, .int .i64 a0_1, .string a0_2, .bool a0_3, .int .i64 a0_4]) ?_ 0 _ rfl; (with_reducible repeat (first | refine blk_drewN ?_ _ | refine blk_drew ?_ | refine blk_alloc ?_ _)); exact BK723.out) hb); replace HB := (bs hb); (try clear hb)) | (go_at_call 100; (with_reducible refine (fixed_Parse.calls t729 t730 t731 _ A10.out).mono ?_); rintro e w17 ⟨rfl, hb⟩; replace BK723 := (bb BK723 hb); replace HB := (bs hb); (try clear hb))); try go_wp2_with (first | ((with_reducible refine gate_dst (N := 1) rfl ?_); refine bx (N := 1) (cs := #[.int .i64 a0_0, .int .i64 a0_1, .string a0_2, .bool a0_3, .int .i64 a0_4]) (t := 29) ?_; intro gb723 hg w12 hbox hb; have BK723 := Aside0.mk (hbox); have GW723 := (bw hg); have GE723 := (bw hg); replace HB := (bs hb); clear hb hbox hg; obtain ⟨hcz13_0, hcz13_1, hcz13_2, hcz13_3, hcz13_4, hfz13_0, hfz13_1, hfz13_2, hfz13_3, hfz13_4⟩ := bc5 BK723) | (go_at_call 40; (with_reducible refine (value_Value_sound.calls k a0_0 a0_1 a0_2 a0_3 a0_4 t724 t725 t726 t727 t728 _ A2.out).mono ?_); rintro e w14 ⟨rfl, hb⟩; replace BK723 := (bb BK723 hb); replace HB := (bs hb); (try clear hb); obtain ⟨hcz15_0, hcz15_1, hcz15_2, hcz15_3, hcz15_4, hfz15_0, hfz15_1, hfz15_2, hfz15_3, hfz15_4⟩ := bc5 BK723) | (go_at_call 101; (with_reducible refine (strings_Trim.calls t726 (⟨#[32]⟩ : ByteArray) t729 _ A9.out).mono ?_); rintro e w16 ⟨rfl, hb⟩; replace BK723 := Aside0.mk (blk_below (g := gb723) (o := .cells #[.int .i64 t724, .int .i64 t725, .string t726, .bool t727, .int .i64 t728] 29 (0, 0)) (by (with_reducible repeat (first | refine blk_drewN ?_ _ | refine blk_drew ?_ | refine blk_alloc ?_ _)); refine blk_put (cs := #[.int .i64 t724, .int .i64 t725, .string t726, .bool t727, .int .i64 a0_4]) ?_ 4 _ rfl; (with_reducible repeat (first | refine blk_drewN ?_ _ | refine blk_drew ?_ | refine blk_alloc ?_ _)); refine blk_put (cs := #[.int .i64 t724, .int .i64 t725, .string t726, .bool a0_3, .int .i64 a0_4]) ?_ 3 _ rfl; (with_reducible repeat (first | refine blk_drewN ?_ _ | refine blk_drew ?_ | refine blk_alloc ?_ _)); refine blk_put (cs := #[.int .i64 t724, .int .i64 t725, .string a0_2, .bool a0_3, .int .i64 a0_4]) ?_ 2 _ rfl; (with_reducible repeat (first | refine blk_drewN ?_ _ | refine blk_drew ?_ | refine blk_alloc ?_ _)); refine blk_put (cs := #[.int .i64 t724, .int .i64 a0_1, .string a0_2, .bool a0_3, .int .i64 a0_4]) ?_ 1 _ rfl; (with_reducible repeat (first | refine blk_drewN ?_ _ | refine blk_drew ?_ | refine blk_alloc ?_ _)); refine blk_put (cs := #[.int .i64 a0_0, .int .i64 a0_1, .string a0_2, .bool a0_3, .int .i64 a0_4]) ?_ 0 _ rfl; (with_reducible repeat (first | refine blk_drewN ?_ _ | refine blk_drew ?_ | refine blk_alloc ?_ _)); exact BK723.out) hb); replace HB := (bs hb); (try clear hb)) | (go_at_call 100; (with_reducible refine (fixed_Parse.calls t729 t730 t731 _ A10.out).mono ?_); rintro e w17 ⟨rfl, hb⟩; replace BK723 := (bb BK723 hb); replace HB := (bs hb); (try clear hb))))
    go_ret2
    exact ⟨by first | rfl | (simp [errW_none, errW_some] <;> rfl) | (simp [*, errW_none, errW_some] <;> rfl), be⟩
   ·rw [if_neg c11] at H
    have c11b0 : (t731 == 0) = false := beq_eq_false_iff_ne.mpr c11
    have c11b1 : (t731 != 0) = true := bne_iff_ne.mpr c11
    simp only [Option.some.injEq, Prod.mk.injEq] at H
    obtain ⟨rfl, rfl⟩ := H
    go_enter Tryz.func92, Tryz.ntmps92
    go_wp2_with (first | ((with_reducible refine gate_dst (N := 1) rfl ?_); refine bx (N := 1) (cs := #[.int .i64 a0_0, .int .i64 a0_1, .string a0_2, .bool a0_3, .int .i64 a0_4]) (t := 29) ?_; intro gb723 hg w18 hbox hb; have BK723 := Aside0.mk (hbox); have GW723 := (bw hg); have GE723 := (bw hg); replace HB := (bs hb); clear hb hbox hg; obtain ⟨hcz19_0, hcz19_1, hcz19_2, hcz19_3, hcz19_4, hfz19_0, hfz19_1, hfz19_2, hfz19_3, hfz19_4⟩ := bc5 BK723) | (go_at_call 40; (with_reducible refine (value_Value_sound.calls k a0_0 a0_1 a0_2 a0_3 a0_4 t724 t725 t726 t727 t728 _ A2.out).mono ?_); rintro e w20 ⟨rfl, hb⟩; replace BK723 := (bb BK723 hb); replace HB := (bs hb); (try clear hb); obtain ⟨hcz21_0, hcz21_1, hcz21_2, hcz21_3, hcz21_4, hfz21_0, hfz21_1, hfz21_2, hfz21_3, hfz21_4⟩ := bc5 BK723) | (go_at_call 101; (with_reducible refine (strings_Trim.calls t726 (⟨#[32]⟩ : ByteArray) t729 _ A9.out).mono ?_); rintro e w22 ⟨rfl, hb⟩; replace BK723 := Aside0.mk (blk_below (g := gb723) (o := .cells #[.int .i64 t724, .int .i64 t725, .string t726, .bool t727, .int .i64 t728] 29 (0, 0)) (by (with_reducible repeat (first | refine blk_drewN ?_ _ | refine blk_drew ?_ | refine blk_alloc ?_ _)); refine blk_put (cs := #[.int .i64 t724, .int .i64 t725, .string t726, .bool t727, .int .i64 a0_4]) ?_ 4 _ rfl; (with_reducible repeat (first | refine blk_drewN ?_ _ | refine blk_drew ?_ | refine blk_alloc ?_ _)); refine blk_put (cs := #[.int .i64 t724, .int .i64 t725, .string t726, .bool a0_3, .int .i64 a0_4]) ?_ 3 _ rfl; (with_reducible repeat (first | refine blk_drewN ?_ _ | refine blk_drew ?_ | refine blk_alloc ?_ _)); refine blk_put (cs := #[.int .i64 t724, .int .i64 t725, .string a0_2, .bool a0_3, .int .i64 a0_4]) ?_ 2 _ rfl; (with_reducible repeat (first | refine blk_drewN ?_ _ | refine blk_drew ?_ | refine blk_alloc ?_ _)); refine blk_put (cs := #[.int .i64 t724, .int .i64 a0_1, .string a0_2, .bool a0_3, .int .i64 a0_4]) ?_ 1 _ rfl; (with_reducible repeat (first | refine blk_drewN ?_ _ | refine blk_drew ?_ | refine blk_alloc ?_ _)); refine blk_put (cs := #[.int .i64 a0_0, .int .i64 a0_1, .string a0_2, .bool a0_3, .int .i64 a0_4]) ?_ 0 _ rfl; (with_reducible repeat (first | refine blk_drewN ?_ _ | refine blk_drew ?_ | refine blk_alloc ?_ _)); exact BK723.out) hb); replace HB := (bs hb); (try clear hb)) | (go_at_call 100; (with_reducible refine (fixed_Parse.calls t729 t730 t731 _ A10.out).mono ?_); rintro e w23 ⟨rfl, hb⟩; replace BK723 := (bb BK723 hb); replace HB := (bs hb); (try clear hb)))
    repeat (go_quiet (first | ((with_reducible refine gate_dst (N := 1) rfl ?_); refine bx (N := 1) (cs := #[.int .i64 a0_0, .int .i64 a0_1, .string a0_2, .bool a0_3, .int .i64 a0_4]) (t := 29) ?_; intro gb723 hg w18 hbox hb; have BK723 := Aside0.mk (hbox); have GW723 := (bw hg); have GE723 := (bw hg); replace HB := (bs hb); clear hb hbox hg; obtain ⟨hcz19_0, hcz19_1, hcz19_2, hcz19_3, hcz19_4, hfz19_0, hfz19_1, hfz19_2, hfz19_3, hfz19_4⟩ := bc5 BK723) | (go_at_call 40; (with_reducible refine (value_Value_sound.calls k a0_0 a0_1 a0_2 a0_3 a0_4 t724 t725 t726 t727 t728 _ A2.out).mono ?_); rintro e w20 ⟨rfl, hb⟩; replace BK723 := (bb BK723 hb); replace HB := (bs hb); (try clear hb); obtain ⟨hcz21_0, hcz21_1, hcz21_2, hcz21_3, hcz21_4, hfz21_0, hfz21_1, hfz21_2, hfz21_3, hfz21_4⟩ := bc5 BK723) | (go_at_call 101; (with_reducible refine (strings_Trim.calls t726 (⟨#[32]⟩ : ByteArray) t729 _ A9.out).mono ?_); rintro e w22 ⟨rfl, hb⟩; replace BK723 := Aside0.mk (blk_below (g := gb723) (o := .cells #[.int .i64 t724, .int .i64 t725, .string t726, .bool t727, .int .i64 t728] 29 (0, 0)) (by (with_reducible repeat (first | refine blk_drewN ?_ _ | refine blk_drew ?_ | refine blk_alloc ?_ _)); refine blk_put (cs := #[.int .i64 t724, .int .i64 t725, .string t726, .bool t727, .int .i64 a0_4]) ?_ 4 _ rfl; (with_reducible repeat (first | refine blk_drewN ?_ _ | refine blk_drew ?_ | refine blk_alloc ?_ _)); refine blk_put (cs := #[.int .i64 t724, .int .i64 t725, .string t726, .bool a0_3, .int .i64 a0_4]) ?_ 3 _ rfl; (with_reducible repeat (first | refine blk_drewN ?_ _ | refine blk_drew ?_ | refine blk_alloc ?_ _)); refine blk_put (cs := #[.int .i64 t724, .int .i64 t725, .string a0_2, .bool a0_3, .int .i64 a0_4]) ?_ 2 _ rfl; (with_reducible repeat (first | refine blk_drewN ?_ _ | refine blk_drew ?_ | refine blk_alloc ?_ _)); refine blk_put (cs := #[.int .i64 t724, .int .i64 a0_1, .string a0_2, .bool a0_3, .int .i64 a0_4]) ?_ 1 _ rfl; (with_reducible repeat (first | refine blk_drewN ?_ _ | refine blk_drew ?_ | refine blk_alloc ?_ _)); refine blk_put (cs := #[.int .i64 a0_0, .int .i64 a0_1, .string a0_2, .bool a0_3, .int .i64 a0_4]) ?_ 0 _ rfl; (with_reducible repeat (first | refine blk_drewN ?_ _ | refine blk_drew ?_ | refine blk_alloc ?_ _)); exact BK723.out) hb); replace HB := (bs hb); (try clear hb)) | (go_at_call 100; (with_reducible refine (fixed_Parse.calls t729 t730 t731 _ A10.out).mono ?_); rintro e w23 ⟨rfl, hb⟩; replace BK723 := (bb BK723 hb); replace HB := (bs hb); (try clear hb))); try go_wp2_with (first | ((with_reducible refine gate_dst (N := 1) rfl ?_); refine bx (N := 1) (cs := #[.int .i64 a0_0, .int .i64 a0_1, .string a0_2, .bool a0_3, .int .i64 a0_4]) (t := 29) ?_; intro gb723 hg w18 hbox hb; have BK723 := Aside0.mk (hbox); have GW723 := (bw hg); have GE723 := (bw hg); replace HB := (bs hb); clear hb hbox hg; obtain ⟨hcz19_0, hcz19_1, hcz19_2, hcz19_3, hcz19_4, hfz19_0, hfz19_1, hfz19_2, hfz19_3, hfz19_4⟩ := bc5 BK723) | (go_at_call 40; (with_reducible refine (value_Value_sound.calls k a0_0 a0_1 a0_2 a0_3 a0_4 t724 t725 t726 t727 t728 _ A2.out).mono ?_); rintro e w20 ⟨rfl, hb⟩; replace BK723 := (bb BK723 hb); replace HB := (bs hb); (try clear hb); obtain ⟨hcz21_0, hcz21_1, hcz21_2, hcz21_3, hcz21_4, hfz21_0, hfz21_1, hfz21_2, hfz21_3, hfz21_4⟩ := bc5 BK723) | (go_at_call 101; (with_reducible refine (strings_Trim.calls t726 (⟨#[32]⟩ : ByteArray) t729 _ A9.out).mono ?_); rintro e w22 ⟨rfl, hb⟩; replace BK723 := Aside0.mk (blk_below (g := gb723) (o := .cells #[.int .i64 t724, .int .i64 t725, .string t726, .bool t727, .int .i64 t728] 29 (0, 0)) (by (with_reducible repeat (first | refine blk_drewN ?_ _ | refine blk_drew ?_ | refine blk_alloc ?_ _)); refine blk_put (cs := #[.int .i64 t724, .int .i64 t725, .string t726, .bool t727, .int .i64 a0_4]) ?_ 4 _ rfl; (with_reducible repeat (first | refine blk_drewN ?_ _ | refine blk_drew ?_ | refine blk_alloc ?_ _)); refine blk_put (cs := #[.int .i64 t724, .int .i64 t725, .string t726, .bool a0_3, .int .i64 a0_4]) ?_ 3 _ rfl; (with_reducible repeat (first | refine blk_drewN ?_ _ | refine blk_drew ?_ | refine blk_alloc ?_ _)); refine blk_put (cs := #[.int .i64 t724, .int .i64 t725, .string a0_2, .bool a0_3, .int .i64 a0_4]) ?_ 2 _ rfl; (with_reducible repeat (first | refine blk_drewN ?_ _ | refine blk_drew ?_ | refine blk_alloc ?_ _)); refine blk_put (cs := #[.int .i64 t724, .int .i64 a0_1, .string a0_2, .bool a0_3, .int .i64 a0_4]) ?_ 1 _ rfl; (with_reducible repeat (first | refine blk_drewN ?_ _ | refine blk_drew ?_ | refine blk_alloc ?_ _)); refine blk_put (cs := #[.int .i64 a0_0, .int .i64 a0_1, .string a0_2, .bool a0_3, .int .i64 a0_4]) ?_ 0 _ rfl; (with_reducible repeat (first | refine blk_drewN ?_ _ | refine blk_drew ?_ | refine blk_alloc ?_ _)); exact BK723.out) hb); replace HB := (bs hb); (try clear hb)) | (go_at_call 100; (with_reducible refine (fixed_Parse.calls t729 t730 t731 _ A10.out).mono ?_); rintro e w23 ⟨rfl, hb⟩; replace BK723 := (bb BK723 hb); replace HB := (bs hb); (try clear hb))))
    go_ret2
    exact ⟨by first | rfl | (simp [errW_none, errW_some] <;> rfl) | (simp [*, errW_none, errW_some] <;> rfl), be⟩
  ·rw [if_neg c8] at H
   have c8b0 : (t724 == 2) = false := beq_eq_false_iff_ne.mpr c8
   have c8b1 : (t724 != 2) = true := bne_iff_ne.mpr c8
   by_cases c24 : t724 = 3
   ·rw [if_pos c24] at H
    have c24b0 : (t724 == 3) = true := beq_iff_eq.mpr c24
    have c24b1 : (t724 != 3) = false := bne_eq_false_iff_eq.mpr c24
    clear c24
    by_cases c25 : t727 = true
    ·subst c25
     have H1 : (some (10000, 0)) = some (r1, r2) := by rw [if_pos rfl] at H; exact H
     clear H
     have H := H1
     clear H1
     simp only [Option.some.injEq, Prod.mk.injEq] at H
     obtain ⟨rfl, rfl⟩ := H
     go_enter Tryz.func92, Tryz.ntmps92
     go_wp2_with (first | ((with_reducible refine gate_dst (N := 1) rfl ?_); refine bx (N := 1) (cs := #[.int .i64 a0_0, .int .i64 a0_1, .string a0_2, .bool a0_3, .int .i64 a0_4]) (t := 29) ?_; intro gb723 hg w26 hbox hb; have BK723 := Aside0.mk (hbox); have GW723 := (bw hg); have GE723 := (bw hg); replace HB := (bs hb); clear hb hbox hg; obtain ⟨hcz27_0, hcz27_1, hcz27_2, hcz27_3, hcz27_4, hfz27_0, hfz27_1, hfz27_2, hfz27_3, hfz27_4⟩ := bc5 BK723) | (go_at_call 40; (with_reducible refine (value_Value_sound.calls k a0_0 a0_1 a0_2 a0_3 a0_4 t724 t725 t726 true t728 _ A2.out).mono ?_); rintro e w28 ⟨rfl, hb⟩; replace BK723 := (bb BK723 hb); replace HB := (bs hb); (try clear hb); obtain ⟨hcz29_0, hcz29_1, hcz29_2, hcz29_3, hcz29_4, hfz29_0, hfz29_1, hfz29_2, hfz29_3, hfz29_4⟩ := bc5 BK723))
     repeat (go_quiet (first | ((with_reducible refine gate_dst (N := 1) rfl ?_); refine bx (N := 1) (cs := #[.int .i64 a0_0, .int .i64 a0_1, .string a0_2, .bool a0_3, .int .i64 a0_4]) (t := 29) ?_; intro gb723 hg w26 hbox hb; have BK723 := Aside0.mk (hbox); have GW723 := (bw hg); have GE723 := (bw hg); replace HB := (bs hb); clear hb hbox hg; obtain ⟨hcz27_0, hcz27_1, hcz27_2, hcz27_3, hcz27_4, hfz27_0, hfz27_1, hfz27_2, hfz27_3, hfz27_4⟩ := bc5 BK723) | (go_at_call 40; (with_reducible refine (value_Value_sound.calls k a0_0 a0_1 a0_2 a0_3 a0_4 t724 t725 t726 true t728 _ A2.out).mono ?_); rintro e w28 ⟨rfl, hb⟩; replace BK723 := (bb BK723 hb); replace HB := (bs hb); (try clear hb); obtain ⟨hcz29_0, hcz29_1, hcz29_2, hcz29_3, hcz29_4, hfz29_0, hfz29_1, hfz29_2, hfz29_3, hfz29_4⟩ := bc5 BK723)); try go_wp2_with (first | ((with_reducible refine gate_dst (N := 1) rfl ?_); refine bx (N := 1) (cs := #[.int .i64 a0_0, .int .i64 a0_1, .string a0_2, .bool a0_3, .int .i64 a0_4]) (t := 29) ?_; intro gb723 hg w26 hbox hb; have BK723 := Aside0.mk (hbox); have GW723 := (bw hg); have GE723 := (bw hg); replace HB := (bs hb); clear hb hbox hg; obtain ⟨hcz27_0, hcz27_1, hcz27_2, hcz27_3, hcz27_4, hfz27_0, hfz27_1, hfz27_2, hfz27_3, hfz27_4⟩ := bc5 BK723) | (go_at_call 40; (with_reducible refine (value_Value_sound.calls k a0_0 a0_1 a0_2 a0_3 a0_4 t724 t725 t726 true t728 _ A2.out).mono ?_); rintro e w28 ⟨rfl, hb⟩; replace BK723 := (bb BK723 hb); replace HB := (bs hb); (try clear hb); obtain ⟨hcz29_0, hcz29_1, hcz29_2, hcz29_3, hcz29_4, hfz29_0, hfz29_1, hfz29_2, hfz29_3, hfz29_4⟩ := bc5 BK723)))
     go_ret2
     exact ⟨by first | rfl | (simp [errW_none, errW_some] <;> rfl) | (simp [*, errW_none, errW_some] <;> rfl), be⟩
    ·replace c25 := Bool.eq_false_iff.mpr c25
     subst c25
     have H1 : (some (0, 0)) = some (r1, r2) := by rw [if_neg (show ¬ (false = true) by decide)] at H; exact H
     clear H
     have H := H1
     clear H1
     simp only [Option.some.injEq, Prod.mk.injEq] at H
     obtain ⟨rfl, rfl⟩ := H
     go_enter Tryz.func92, Tryz.ntmps92
     go_wp2_with (first | ((with_reducible refine gate_dst (N := 1) rfl ?_); refine bx (N := 1) (cs := #[.int .i64 a0_0, .int .i64 a0_1, .string a0_2, .bool a0_3, .int .i64 a0_4]) (t := 29) ?_; intro gb723 hg w30 hbox hb; have BK723 := Aside0.mk (hbox); have GW723 := (bw hg); have GE723 := (bw hg); replace HB := (bs hb); clear hb hbox hg; obtain ⟨hcz31_0, hcz31_1, hcz31_2, hcz31_3, hcz31_4, hfz31_0, hfz31_1, hfz31_2, hfz31_3, hfz31_4⟩ := bc5 BK723) | (go_at_call 40; (with_reducible refine (value_Value_sound.calls k a0_0 a0_1 a0_2 a0_3 a0_4 t724 t725 t726 false t728 _ A2.out).mono ?_); rintro e w32 ⟨rfl, hb⟩; replace BK723 := (bb BK723 hb); replace HB := (bs hb); (try clear hb); obtain ⟨hcz33_0, hcz33_1, hcz33_2, hcz33_3, hcz33_4, hfz33_0, hfz33_1, hfz33_2, hfz33_3, hfz33_4⟩ := bc5 BK723))
     repeat (go_quiet (first | ((with_reducible refine gate_dst (N := 1) rfl ?_); refine bx (N := 1) (cs := #[.int .i64 a0_0, .int .i64 a0_1, .string a0_2, .bool a0_3, .int .i64 a0_4]) (t := 29) ?_; intro gb723 hg w30 hbox hb; have BK723 := Aside0.mk (hbox); have GW723 := (bw hg); have GE723 := (bw hg); replace HB := (bs hb); clear hb hbox hg; obtain ⟨hcz31_0, hcz31_1, hcz31_2, hcz31_3, hcz31_4, hfz31_0, hfz31_1, hfz31_2, hfz31_3, hfz31_4⟩ := bc5 BK723) | (go_at_call 40; (with_reducible refine (value_Value_sound.calls k a0_0 a0_1 a0_2 a0_3 a0_4 t724 t725 t726 false t728 _ A2.out).mono ?_); rintro e w32 ⟨rfl, hb⟩; replace BK723 := (bb BK723 hb); replace HB := (bs hb); (try clear hb); obtain ⟨hcz33_0, hcz33_1, hcz33_2, hcz33_3, hcz33_4, hfz33_0, hfz33_1, hfz33_2, hfz33_3, hfz33_4⟩ := bc5 BK723)); try go_wp2_with (first | ((with_reducible refine gate_dst (N := 1) rfl ?_); refine bx (N := 1) (cs := #[.int .i64 a0_0, .int .i64 a0_1, .string a0_2, .bool a0_3, .int .i64 a0_4]) (t := 29) ?_; intro gb723 hg w30 hbox hb; have BK723 := Aside0.mk (hbox); have GW723 := (bw hg); have GE723 := (bw hg); replace HB := (bs hb); clear hb hbox hg; obtain ⟨hcz31_0, hcz31_1, hcz31_2, hcz31_3, hcz31_4, hfz31_0, hfz31_1, hfz31_2, hfz31_3, hfz31_4⟩ := bc5 BK723) | (go_at_call 40; (with_reducible refine (value_Value_sound.calls k a0_0 a0_1 a0_2 a0_3 a0_4 t724 t725 t726 false t728 _ A2.out).mono ?_); rintro e w32 ⟨rfl, hb⟩; replace BK723 := (bb BK723 hb); replace HB := (bs hb); (try clear hb); obtain ⟨hcz33_0, hcz33_1, hcz33_2, hcz33_3, hcz33_4, hfz33_0, hfz33_1, hfz33_2, hfz33_3, hfz33_4⟩ := bc5 BK723)))
     go_ret2
     exact ⟨by first | rfl | (simp [errW_none, errW_some] <;> rfl) | (simp [*, errW_none, errW_some] <;> rfl), be⟩
   ·rw [if_neg c24] at H
    have c24b0 : (t724 == 3) = false := beq_eq_false_iff_ne.mpr c24
    have c24b1 : (t724 != 3) = true := bne_iff_ne.mpr c24
    by_cases c34 : t724 = 4
    ·rw [if_pos c34] at H
     have c34b0 : (t724 == 4) = true := beq_iff_eq.mpr c34
     have c34b1 : (t724 != 4) = false := bne_eq_false_iff_eq.mpr c34
     clear c34
     simp only [Option.some.injEq, Prod.mk.injEq] at H
     obtain ⟨rfl, rfl⟩ := H
     go_enter Tryz.func92, Tryz.ntmps92
     go_wp2_with (first | ((with_reducible refine gate_dst (N := 1) rfl ?_); refine bx (N := 1) (cs := #[.int .i64 a0_0, .int .i64 a0_1, .string a0_2, .bool a0_3, .int .i64 a0_4]) (t := 29) ?_; intro gb723 hg w35 hbox hb; have BK723 := Aside0.mk (hbox); have GW723 := (bw hg); have GE723 := (bw hg); replace HB := (bs hb); clear hb hbox hg; obtain ⟨hcz36_0, hcz36_1, hcz36_2, hcz36_3, hcz36_4, hfz36_0, hfz36_1, hfz36_2, hfz36_3, hfz36_4⟩ := bc5 BK723) | (go_at_call 40; (with_reducible refine (value_Value_sound.calls k a0_0 a0_1 a0_2 a0_3 a0_4 t724 t725 t726 t727 t728 _ A2.out).mono ?_); rintro e w37 ⟨rfl, hb⟩; replace BK723 := (bb BK723 hb); replace HB := (bs hb); (try clear hb); obtain ⟨hcz38_0, hcz38_1, hcz38_2, hcz38_3, hcz38_4, hfz38_0, hfz38_1, hfz38_2, hfz38_3, hfz38_4⟩ := bc5 BK723))
     repeat (go_quiet (first | ((with_reducible refine gate_dst (N := 1) rfl ?_); refine bx (N := 1) (cs := #[.int .i64 a0_0, .int .i64 a0_1, .string a0_2, .bool a0_3, .int .i64 a0_4]) (t := 29) ?_; intro gb723 hg w35 hbox hb; have BK723 := Aside0.mk (hbox); have GW723 := (bw hg); have GE723 := (bw hg); replace HB := (bs hb); clear hb hbox hg; obtain ⟨hcz36_0, hcz36_1, hcz36_2, hcz36_3, hcz36_4, hfz36_0, hfz36_1, hfz36_2, hfz36_3, hfz36_4⟩ := bc5 BK723) | (go_at_call 40; (with_reducible refine (value_Value_sound.calls k a0_0 a0_1 a0_2 a0_3 a0_4 t724 t725 t726 t727 t728 _ A2.out).mono ?_); rintro e w37 ⟨rfl, hb⟩; replace BK723 := (bb BK723 hb); replace HB := (bs hb); (try clear hb); obtain ⟨hcz38_0, hcz38_1, hcz38_2, hcz38_3, hcz38_4, hfz38_0, hfz38_1, hfz38_2, hfz38_3, hfz38_4⟩ := bc5 BK723)); try go_wp2_with (first | ((with_reducible refine gate_dst (N := 1) rfl ?_); refine bx (N := 1) (cs := #[.int .i64 a0_0, .int .i64 a0_1, .string a0_2, .bool a0_3, .int .i64 a0_4]) (t := 29) ?_; intro gb723 hg w35 hbox hb; have BK723 := Aside0.mk (hbox); have GW723 := (bw hg); have GE723 := (bw hg); replace HB := (bs hb); clear hb hbox hg; obtain ⟨hcz36_0, hcz36_1, hcz36_2, hcz36_3, hcz36_4, hfz36_0, hfz36_1, hfz36_2, hfz36_3, hfz36_4⟩ := bc5 BK723) | (go_at_call 40; (with_reducible refine (value_Value_sound.calls k a0_0 a0_1 a0_2 a0_3 a0_4 t724 t725 t726 t727 t728 _ A2.out).mono ?_); rintro e w37 ⟨rfl, hb⟩; replace BK723 := (bb BK723 hb); replace HB := (bs hb); (try clear hb); obtain ⟨hcz38_0, hcz38_1, hcz38_2, hcz38_3, hcz38_4, hfz38_0, hfz38_1, hfz38_2, hfz38_3, hfz38_4⟩ := bc5 BK723)))
     go_ret2
     exact ⟨by first | rfl | (simp [errW_none, errW_some] <;> rfl) | (simp [*, errW_none, errW_some] <;> rfl), be⟩
    ·rw [if_neg c34] at H
     have c34b0 : (t724 == 4) = false := beq_eq_false_iff_ne.mpr c34
     have c34b1 : (t724 != 4) = true := bne_iff_ne.mpr c34
     simp only [Option.some.injEq, Prod.mk.injEq] at H
     obtain ⟨rfl, rfl⟩ := H
     go_enter Tryz.func92, Tryz.ntmps92
     go_wp2_with (first | ((with_reducible refine gate_dst (N := 1) rfl ?_); refine bx (N := 1) (cs := #[.int .i64 a0_0, .int .i64 a0_1, .string a0_2, .bool a0_3, .int .i64 a0_4]) (t := 29) ?_; intro gb723 hg w39 hbox hb; have BK723 := Aside0.mk (hbox); have GW723 := (bw hg); have GE723 := (bw hg); replace HB := (bs hb); clear hb hbox hg; obtain ⟨hcz40_0, hcz40_1, hcz40_2, hcz40_3, hcz40_4, hfz40_0, hfz40_1, hfz40_2, hfz40_3, hfz40_4⟩ := bc5 BK723) | (go_at_call 40; (with_reducible refine (value_Value_sound.calls k a0_0 a0_1 a0_2 a0_3 a0_4 t724 t725 t726 t727 t728 _ A2.out).mono ?_); rintro e w41 ⟨rfl, hb⟩; replace BK723 := (bb BK723 hb); replace HB := (bs hb); (try clear hb); obtain ⟨hcz42_0, hcz42_1, hcz42_2, hcz42_3, hcz42_4, hfz42_0, hfz42_1, hfz42_2, hfz42_3, hfz42_4⟩ := bc5 BK723))
     repeat (go_quiet (first | ((with_reducible refine gate_dst (N := 1) rfl ?_); refine bx (N := 1) (cs := #[.int .i64 a0_0, .int .i64 a0_1, .string a0_2, .bool a0_3, .int .i64 a0_4]) (t := 29) ?_; intro gb723 hg w39 hbox hb; have BK723 := Aside0.mk (hbox); have GW723 := (bw hg); have GE723 := (bw hg); replace HB := (bs hb); clear hb hbox hg; obtain ⟨hcz40_0, hcz40_1, hcz40_2, hcz40_3, hcz40_4, hfz40_0, hfz40_1, hfz40_2, hfz40_3, hfz40_4⟩ := bc5 BK723) | (go_at_call 40; (with_reducible refine (value_Value_sound.calls k a0_0 a0_1 a0_2 a0_3 a0_4 t724 t725 t726 t727 t728 _ A2.out).mono ?_); rintro e w41 ⟨rfl, hb⟩; replace BK723 := (bb BK723 hb); replace HB := (bs hb); (try clear hb); obtain ⟨hcz42_0, hcz42_1, hcz42_2, hcz42_3, hcz42_4, hfz42_0, hfz42_1, hfz42_2, hfz42_3, hfz42_4⟩ := bc5 BK723)); try go_wp2_with (first | ((with_reducible refine gate_dst (N := 1) rfl ?_); refine bx (N := 1) (cs := #[.int .i64 a0_0, .int .i64 a0_1, .string a0_2, .bool a0_3, .int .i64 a0_4]) (t := 29) ?_; intro gb723 hg w39 hbox hb; have BK723 := Aside0.mk (hbox); have GW723 := (bw hg); have GE723 := (bw hg); replace HB := (bs hb); clear hb hbox hg; obtain ⟨hcz40_0, hcz40_1, hcz40_2, hcz40_3, hcz40_4, hfz40_0, hfz40_1, hfz40_2, hfz40_3, hfz40_4⟩ := bc5 BK723) | (go_at_call 40; (with_reducible refine (value_Value_sound.calls k a0_0 a0_1 a0_2 a0_3 a0_4 t724 t725 t726 t727 t728 _ A2.out).mono ?_); rintro e w41 ⟨rfl, hb⟩; replace BK723 := (bb BK723 hb); replace HB := (bs hb); (try clear hb); obtain ⟨hcz42_0, hcz42_1, hcz42_2, hcz42_3, hcz42_4, hfz42_0, hfz42_1, hfz42_2, hfz42_3, hfz42_4⟩ := bc5 BK723)))
     go_ret2
     exact ⟨by first | rfl | (simp [errW_none, errW_some] <;> rfl) | (simp [*, errW_none, errW_some] <;> rfl), be⟩
end Go.Proofs.YtcihleahjnpaaaaGreatDoor.P
namespace Go.Proofs.YtcihleahjnpaaaaGreatDoor.P
open Go.RowKit Go.Proofs.YtcihleahjnpaaaaGreatDoor.Q Go.Proofs.YtcihleahjnpaaaaGreatDoor.H Go.Proofs.YtcihleahjnpaaaaGreatDoorW.PrintWords Go.Proofs.YtcihleahjnpaaaaGreatDoorW.PrintLast Go.Proofs.YtcihleahjnpaaaaGreatDoorW.PrintMore
attribute [local go_sem] max2_int min2_int max_two min_two max_three min_three max_four min_four   -- for this text's walks alone
set_option linter.unusedVariables false
set_option linter.unusedSimpArgs false
def fixed_Whole.f (k : Nat) (a0 : Int) : Option (Int) := (fixed_good.f k (([a0] : List Int))).bind fun t735 => (if t735 = true then (some (wrap64 (Int.tdiv a0 10000))) else (some 0))
set_option maxHeartbeats 8000000 in
set_option maxRecDepth 100000 in
theorem fixed_Whole.calls (k : Nat) (a0 : Int) (r : Int) (w : World) (h : fixed_Whole.f k a0 = some r) :
  Calls Tryz.prog 93 #[.int .i64 a0] w fun e w' => e = .returned (.int .i64 r) ∧ Below w.heap.size w w' := by
 have HB := Aside0.mk (Below.refl w.heap.size w)
 have H : ((fixed_good.f k (([a0] : List Int))).bind fun t735 => (if t735 = true then (some (wrap64 (Int.tdiv a0 10000))) else (some 0))) = some r := h
 clear h
 obtain ⟨y732, hy732⟩ : ∃ y_ : List Int, y_ = (([a0] : List Int)) := ⟨_, rfl⟩
 replace H : ((fixed_good.f k y732).bind fun t735 => (if t735 = true then (some (wrap64 (Int.tdiv a0 10000))) else (some 0))) = some r := by first | (rw [hy732]; with_reducible exact H) | (have H2_ := (Option.bind_some _ _).symm.trans H; rw [hy732]; with_reducible exact H2_) | (have H2_ := (Option.bind_some _ _).symm.trans H; with_reducible exact H2_) | with_reducible exact H | (rw [hy732]; exact H) | exact H
 have Ny732 := Aside0.mk hy732
 clear hy732
 replace H := Option.bind_eq_some_iff.mp H
 obtain ⟨t735, A20, H⟩ := H
 replace H : (if t735 = true then (some (wrap64 (Int.tdiv a0 10000))) else (some 0)) = some r := H
 have A2 := Aside0.mk A20
 clear A20
 by_cases c3 : t735 = true
 ·subst c3
  have H1 : (some (wrap64 (Int.tdiv a0 10000))) = some r := by rw [if_pos rfl] at H; exact H
  clear H
  have H := H1
  clear H1
  obtain rfl := Option.some.inj H
  go_enter Tryz.func93, Tryz.ntmps93
  go_wp2_with (first | ((with_reducible refine gate_dst (N := 4) rfl ?_); refine Kd.R_lit (Kd.int .i64) _ 26 ?hg (N := 4) ?hd (xs := ([a0] : List Int)) (inner := [.int .i64 a0]) (ok := fun _ => True) (okp := fun _ => True) ?hr ?hp (fun _ hk => hk) trivial (Below.refl _ _) (Nat.le_refl _) (by simp) ?_; (case hd => rfl); (case hg => rfl); (case hr => first | (go_simp; done) | (go_simp; rfl)); (case hp => exact (Reps.one (show Kd.M (Kd.int .i64) _ _ _ a0 [.int .i64 a0] from rfl) (Reps.none _ _))); intro v733 w4 ho5 hb hg_ hnew_; clear hg_ hnew_; (first | rw [← Ny732.out] at ho5 | (simp only [Int.reduceToNat] at ho5; rw [← Ny732.out] at ho5)); have HO734 := Aside0.mk (Kd.R_lower ho5 (bz)); replace HB := (bs hb); clear hb ho5; obtain ⟨Ao6, co6, eo6⟩ := Kd.R_slice HO734.out; subst eo6) | ((with_reducible refine gate_callee (f := 99) rfl ?_); refine gL (some 5) Tryz.func99 #[.slice Ao6 y732.length co6] ?_; (with_reducible refine (fixed_good.calls k _ _ y732 true _ ?side1 ?side2 A2.out).mono ?_); (case side1 => repeat (first | exact (Kd.R_reads' HO734.out).2.2 | (with_reducible refine Kd.C_alloc ?_ _) | (with_reducible refine Kd.C_drewN ?_ _) | (with_reducible refine Kd.C_drew ?_))); (case side2 => exact (Kd.R_reads' HO734.out).2.1); rintro e w' ⟨rfl, ⟨nd, rfl⟩⟩; refine ⟨_, rfl, ?_⟩))
  go_ret
  exact ⟨by first | rfl | (simp [errW_none, errW_some] <;> rfl) | (simp [*, errW_none, errW_some] <;> rfl), be⟩
 ·replace c3 := Bool.eq_false_iff.mpr c3
  subst c3
  have H1 : (some 0) = some r := by rw [if_neg (show ¬ (false = true) by decide)] at H; exact H
  clear H
  have H := H1
  clear H1
  obtain rfl := Option.some.inj H
  go_enter Tryz.func93, Tryz.ntmps93
  go_wp2_with (first | ((with_reducible refine gate_dst (N := 4) rfl ?_); refine Kd.R_lit (Kd.int .i64) _ 26 ?hg (N := 4) ?hd (xs := ([a0] : List Int)) (inner := [.int .i64 a0]) (ok := fun _ => True) (okp := fun _ => True) ?hr ?hp (fun _ hk => hk) trivial (Below.refl _ _) (Nat.le_refl _) (by simp) ?_; (case hd => rfl); (case hg => rfl); (case hr => first | (go_simp; done) | (go_simp; rfl)); (case hp => exact (Reps.one (show Kd.M (Kd.int .i64) _ _ _ a0 [.int .i64 a0] from rfl) (Reps.none _ _))); intro v733 w7 ho8 hb hg_ hnew_; clear hg_ hnew_; (first | rw [← Ny732.out] at ho8 | (simp only [Int.reduceToNat] at ho8; rw [← Ny732.out] at ho8)); have HO734 := Aside0.mk (Kd.R_lower ho8 (bz)); replace HB := (bs hb); clear hb ho8; obtain ⟨Ao9, co9, eo9⟩ := Kd.R_slice HO734.out; subst eo9) | ((with_reducible refine gate_callee (f := 99) rfl ?_); refine gL (some 5) Tryz.func99 #[.slice Ao9 y732.length co9] ?_; (with_reducible refine (fixed_good.calls k _ _ y732 false _ ?side1 ?side2 A2.out).mono ?_); (case side1 => repeat (first | exact (Kd.R_reads' HO734.out).2.2 | (with_reducible refine Kd.C_alloc ?_ _) | (with_reducible refine Kd.C_drewN ?_ _) | (with_reducible refine Kd.C_drew ?_))); (case side2 => exact (Kd.R_reads' HO734.out).2.1); rintro e w' ⟨rfl, ⟨nd, rfl⟩⟩; refine ⟨_, rfl, ?_⟩))
  go_ret
  exact ⟨by first | rfl | (simp [errW_none, errW_some] <;> rfl) | (simp [*, errW_none, errW_some] <;> rfl), be⟩
end Go.Proofs.YtcihleahjnpaaaaGreatDoor.P
namespace Go.Proofs.YtcihleahjnpaaaaGreatDoor.P
open Go.RowKit Go.Proofs.YtcihleahjnpaaaaGreatDoor.Q Go.Proofs.YtcihleahjnpaaaaGreatDoor.H Go.Proofs.YtcihleahjnpaaaaGreatDoorW.PrintWords Go.Proofs.YtcihleahjnpaaaaGreatDoorW.PrintLast Go.Proofs.YtcihleahjnpaaaaGreatDoorW.PrintMore
attribute [local go_sem] max2_int min2_int max_two min_two max_three min_three max_four min_four   -- for this text's walks alone
set_option linter.unusedVariables false
set_option linter.unusedSimpArgs false
def value_Lower.f (a0 : ByteArray) : Option (ByteArray) := (value_letters.f a0 65 32).bind fun t722 => (some t722)
set_option maxHeartbeats 8000000 in
set_option maxRecDepth 100000 in
theorem value_Lower.calls (a0 : ByteArray) (r : ByteArray) (w : World) (h : value_Lower.f a0 = some r) :
  Calls Tryz.prog 45 #[.string a0] w fun e w' => e = .returned (.string r) ∧ Below w.heap.size w w' := by
 have HB := Aside0.mk (Below.refl w.heap.size w)
 have H : ((value_letters.f a0 65 32).bind fun t722 => (some t722)) = some r := h
 clear h
 replace H := Option.bind_eq_some_iff.mp H
 obtain ⟨t722, A20, H⟩ := H
 replace H : (some t722) = some r := H
 have A2 := Aside0.mk A20
 clear A20
 obtain rfl := Option.some.inj H
 go_enter Tryz.func45, Tryz.ntmps45
 go_wp2_with (first | ((with_reducible refine gate_callee (f := 72) rfl ?_); refine gL (some 4) Tryz.func72 #[.string a0, .int .u8 65, .int .i64 32] ?_; (with_reducible refine (value_letters.calls a0 65 32 t722 _ A2.out).mono ?_); rintro e w3 ⟨rfl, hb⟩; refine ⟨_, rfl, ?_⟩; replace HB := (bs hb); (try clear hb)))
 go_ret
 exact ⟨by first | rfl | (simp [errW_none, errW_some] <;> rfl) | (simp [*, errW_none, errW_some] <;> rfl), be⟩
end Go.Proofs.YtcihleahjnpaaaaGreatDoor.P
namespace Go.Proofs.YtcihleahjnpaaaaGreatDoor.H
open Go.RowKit Go.Proofs.YtcihleahjnpaaaaGreatDoor.P Go.Proofs.YtcihleahjnpaaaaGreatDoor.T Go.Proofs.YtcihleahjnpaaaaGreatDoorW.PrintWords Go.Proofs.YtcihleahjnpaaaaGreatDoorW.PrintLast Go.Proofs.YtcihleahjnpaaaaGreatDoorW.PrintMore
abbrev V := S29
def vv (x : V) : Value := .agg #[.int .i64 x.f0, .int .i64 x.f1, .string x.f2, .bool x.f3, .int .i64 x.f4]
def mt : ByteArray := ⟨#[]⟩
def goodN (n : Int) : Bool := decide (-9000000000000000000 ≤ n) && decide (n ≤ 9000000000000000000)
def isF (f : Int) : Bool := decide (0 < f) && decide (f < 9)
def eV (f : Int) : V := ⟨4, 0, mt, false, if isF f then f else 3⟩
def nV (n : Int) : V := if goodN n then ⟨1, n, mt, false, 0⟩ else eV 2
def tV (s : ByteArray) : V := if s.size ≤ 255 then ⟨2, 0, s, false, 0⟩ else eV 3
def bV (b : Bool) : V := ⟨3, 0, mt, b, 0⟩
def zV : V := ⟨0, 0, mt, false, 0⟩
def okV (x : V) : Bool :=
  if x.f0 = 0 then x.f1 == 0 && (x.f2.toList == [] && (!x.f3 && x.f4 == 0))
  else if x.f0 = 1 then goodN x.f1 && (x.f2.toList == [] && (!x.f3 && x.f4 == 0))
  else if x.f0 = 2 then x.f1 == 0 && (decide (x.f2.size ≤ 255) && (!x.f3 && x.f4 == 0))
  else if x.f0 = 3 then x.f1 == 0 && (x.f2.toList == [] && x.f4 == 0)
  else if x.f0 = 4 then x.f1 == 0 && (x.f2.toList == [] && (!x.f3 && isF x.f4))
  else false
def sndV (x : V) : V := if okV x then x else eV 3
theorem good_f (n : Int) (k : Nat) : fixed_good.f (k + 2) [n] = some (goodN n) := by
  unfold fixed_good.f
  simp only [fixed_good.l0, rd, goodN]
  by_cases h1 : n < -9000000000000000000
  · simp [h1]; try omega
  · by_cases h2 : n > 9000000000000000000
    · simp [h1, h2]; try omega
    · simp [h1, h2, wrap64]; try omega
theorem fits_f (n : Int) (k : Nat) : value_fits.f (k + 2) n = some (goodN n) := by
  unfold value_fits.f fixed_Raw.f fixed_told.f
  rw [good_f]
  cases h : goodN n <;> simp
theorem isF_f (f : Int) : value_Fail_is.f f = some (isF f) := by
  unfold value_Fail_is.f isF
  by_cases h : f > 0
  · rw [if_pos h, decide_eq_true (show 0 < f from h)]; simp
  · rw [if_neg h, decide_eq_false (show ¬ 0 < f from h)]; simp
abbrev tup (x : V) : Int × Int × ByteArray × Bool × Int := (x.f0, x.f1, x.f2, x.f3, x.f4)
theorem E_f (f : Int) : value_E.f f = some (tup (eV f)) := by
  unfold value_E.f
  rw [isF_f]
  cases h : isF f <;> simp [tup, eV, mt, h]
theorem N_f (n : Int) (k : Nat) : value_N.f (k + 2) n = some (tup (nV n)) := by
  unfold value_N.f
  rw [fits_f]
  cases h : goodN n
  · simp [nV, h, E_f, tup]
  · simp [nV, h, tup, mt]
theorem T_f (s : ByteArray) : value_T.f s = some (tup (tV s)) := by
  unfold value_T.f tV
  by_cases h : s.size ≤ 255
  · rw [if_neg (by omega), if_pos h]
  · rw [if_pos (by omega), if_neg h, E_f]; rfl
theorem B_f (b : Bool) : value_B.f b = some (tup (bV b)) := rfl
theorem Good_f (x : V) (k : Nat) : value_Value_Good.f (k + 2) x.f0 x.f1 x.f2 x.f3 x.f4 = some (okV x) := by
  obtain ⟨a, b, c, d, e⟩ := x
  unfold value_Value_Good.f okV
  simp only
  by_cases h0 : a = 0
  · subst h0; simp
  rw [if_neg h0, if_neg h0]
  by_cases h1 : a = 1
  · subst h1
    rw [if_pos rfl, if_pos rfl, N_f]
    simp only [Option.bind_some, tup, nV]
    cases h : goodN b
    · simp [eV]
    · simp [mt, ByteArray.toList_eq]
  rw [if_neg h1, if_neg h1]
  by_cases h2 : a = 2
  · subst h2
    rw [if_pos rfl, if_pos rfl, T_f]
    simp only [Option.bind_some, tup, tV]
    by_cases h : c.size ≤ 255
    · simp [h]
    · simp [eV, h]
  rw [if_neg h2, if_neg h2]
  by_cases h3 : a = 3
  · subst h3
    rw [if_pos rfl, if_pos rfl, B_f]
    simp [tup, bV, mt, ByteArray.toList_eq]
  rw [if_neg h3, if_neg h3]
  by_cases h4 : a = 4
  · subst h4
    rw [if_pos rfl, if_pos rfl, E_f]
    simp only [Option.bind_some, tup, eV]
    cases hf : isF e
    · have h3 : e ≠ 3 := by intro h; subst h; exact absurd hf (by decide)
      simp [h3]
    · simp [mt, ByteArray.toList_eq]
  rw [if_neg h4, if_neg h4]
theorem Sound_f (x : V) (k : Nat) : value_Value_sound.f (k + 2) x.f0 x.f1 x.f2 x.f3 x.f4 = some (tup (sndV x)) := by
  unfold value_Value_sound.f
  rw [Good_f, Option.bind_some]
  unfold sndV
  cases h : okV x
  · simp [E_f, tup]
  · simp [tup]
def besV (a b : V) : V := if a.f0 = 0 then ⟨b.f0, 0, mt, false, 0⟩ else a
def numV (x : V) : Int × Int :=
  let s := sndV x
  if s.f0 = 1 then (s.f1, 0)
  else if s.f0 = 2 then (if (readS (Lib.trimB s.f2.data.toList 32)).2 = 0 then ((readS (Lib.trimB s.f2.data.toList 32)).1, 0) else (0, 3))
  else if s.f0 = 3 then (if s.f3 = true then (10000, 0) else (0, 0))
  else if s.f0 = 4 then (0, s.f4)
  else (0, 0)
def wholeN (n : Int) : Int := if goodN n then Int.tdiv n 10000 else 0
theorem okV_text {x : V} (h : okV x = true) (h2 : x.f0 = 2) : x.f2.size ≤ 255 := by
  unfold okV at h
  rw [if_neg (by omega), if_neg (by omega), if_pos h2] at h
  simp at h
  exact h.2.1
theorem sndV_text (x : V) (h2 : (sndV x).f0 = 2) : (sndV x).f2.size ≤ 255 := by
  unfold sndV at h2 ⊢
  cases h : okV x
  · rw [h] at h2; simp [eV] at h2
  · rw [h] at h2; simp at h2 ⊢; exact okV_text h h2
theorem trimB_le (l : List UInt8) (c : UInt8) : (Lib.trimB l c).length ≤ l.length := by
  unfold Lib.trimB Lib.trimLeftB Lib.trimRightB
  have h1 := (List.dropWhile_sublist (fun x => x == c) (l := (List.dropWhile (fun x => x == c) l.reverse).reverse)).length_le
  have h2 := (List.dropWhile_sublist (fun x => x == c) (l := l.reverse)).length_le
  rw [List.length_reverse] at h1 h2
  exact Nat.le_trans h1 h2
theorem AsNum_f (x : V) (k : Nat) : value_Value_AsNum.f (k + 2) x.f0 x.f1 x.f2 x.f3 x.f4 = some (numV x) := by
  unfold value_Value_AsNum.f
  rw [Sound_f, Option.bind_some]
  have hs := sndV_text x
  unfold numV
  generalize sndV x = s at *
  simp only
  by_cases h1 : s.f0 = 1
  · rw [if_pos h1, if_pos h1]
  rw [if_neg h1, if_neg h1]
  by_cases h2 : s.f0 = 2
  · have h3 := hs h2
    rw [if_pos h2, if_pos h2]
    have hz : s.f2.data.toList.length = s.f2.size := by simp
    have ht := trimB_le s.f2.data.toList 32
    unfold strings_Trim.f
    rw [if_pos ⟨by omega, rfl⟩, Option.bind_some]
    unfold fixed_Parse.f
    rw [if_pos (by rw [size_str]; omega), Option.bind_some, data_str]
    split <;> rfl
  rw [if_neg h2, if_neg h2]
  by_cases h3 : s.f0 = 3
  · rw [if_pos h3, if_pos h3]; split <;> rfl
  rw [if_neg h3, if_neg h3]
  split <;> rfl
theorem Whole_f (n : Int) (k : Nat) : fixed_Whole.f (k + 2) n = some (wholeN n) := by
  unfold fixed_Whole.f wholeN
  rw [good_f, Option.bind_some]
  cases h : goodN n
  · rfl
  · have h1 : -9000000000000000000 ≤ n ∧ n ≤ 9000000000000000000 := by unfold goodN at h; simpa using h
    simp only [if_true]
    congr 1
    have h2 : -9000000000000000000 ≤ Int.tdiv n 10000 ∧ Int.tdiv n 10000 ≤ 9000000000000000000 := by
      rw [Int.tdiv_eq_ediv]
      have : Int.sign 10000 = 1 := by decide
      rw [this]
      split <;> omega
    unfold wrap64
    omega
section
variable (w : World)
theorem good_any (x : V) : Calls Tryz.prog 24 #[vv x] w fun e w' => e = .returned (.bool (okV x)) ∧ Below w.heap.size w w' := value_Value_Good.calls 2 _ _ _ _ _ _ w (Good_f x 0)
theorem sound_any (x : V) : Calls Tryz.prog 40 #[vv x] w fun e w' => e = .returned (vv (sndV x)) ∧ Below w.heap.size w w' := value_Value_sound.calls 2 _ _ _ _ _ _ _ _ _ _ w (Sound_f x 0)
theorem e_any (f : Int) : Calls Tryz.prog 25 #[.int .i64 f] w fun e w' => e = .returned (vv (eV f)) ∧ Below w.heap.size w w' := value_E.calls f _ _ _ _ _ w (E_f f)
theorem n_any (n : Int) : Calls Tryz.prog 29 #[.int .i64 n] w fun e w' => e = .returned (vv (nV n)) ∧ Below w.heap.size w w' := value_N.calls 2 n _ _ _ _ _ w (N_f n 0)
theorem t_any (s : ByteArray) : Calls Tryz.prog 28 #[.string s] w fun e w' => e = .returned (vv (tV s)) ∧ Below w.heap.size w w' := value_T.calls s _ _ _ _ _ w (T_f s)
theorem beside_any (a b : V) : Calls Tryz.prog 41 #[vv a, vv b] w fun e w' => e = .returned (vv (besV a b)) ∧ Below w.heap.size w w' :=
  value_Value_beside.calls _ _ _ _ _ _ _ _ _ _ _ _ _ _ _ w (by unfold value_Value_beside.f besV; split <;> rfl)
theorem asnum_any (x : V) : Calls Tryz.prog 92 #[vv x] w fun e w' => e = .returned (.tuple #[.int .i64 (numV x).1, .int .i64 (numV x).2]) ∧ Below w.heap.size w w' := value_Value_AsNum.calls 2 _ _ _ _ _ _ _ w (AsNum_f x 0)
theorem whole_any (n : Int) : Calls Tryz.prog 93 #[.int .i64 n] w fun e w' => e = .returned (.int .i64 (wholeN n)) ∧ Below w.heap.size w w' := fixed_Whole.calls 2 _ _ w (Whole_f n 0)
theorem lower_any (s : ByteArray) (hs : s.size ≤ 9223372036854775807) : Calls Tryz.prog 45 #[.string s] w fun e w' => e = .returned (.string (letS 65 32 s)) ∧ Below w.heap.size w w' :=
  value_Lower.calls s _ w (by unfold value_Lower.f value_letters.f; rw [if_pos ⟨by decide, by decide, hs⟩]; rfl)
end
end Go.Proofs.YtcihleahjnpaaaaGreatDoor.H
namespace Go.Proofs.YtcihleahjnpaaaaGreatDoor.P
open Go.RowKit Go.Proofs.YtcihleahjnpaaaaGreatDoor.Q Go.Proofs.YtcihleahjnpaaaaGreatDoor.H Go.Proofs.YtcihleahjnpaaaaGreatDoorW.PrintWords Go.Proofs.YtcihleahjnpaaaaGreatDoorW.PrintLast Go.Proofs.YtcihleahjnpaaaaGreatDoorW.PrintMore
attribute [local go_sem] max2_int min2_int max_two min_two max_three min_three max_four min_four   -- for this text's walks alone
set_option linter.unusedVariables false
set_option linter.unusedSimpArgs false
def value_Kind_69.f (a0 : Int) : Option (Bool) := some (a0 != a0)
set_option maxHeartbeats 8000000 in
set_option maxRecDepth 100000 in
theorem value_Kind_69.calls (a0 : Int) (r : Bool) (w : World) (h : value_Kind_69.f a0 = some r) :
  Calls Tryz.prog 69 #[.int .i64 a0] w fun e w' => e = .returned (.bool r) ∧ Drawn0 w w' := by
 have H : (some (a0 != a0)) = some r := h
 clear h
 obtain rfl := Option.some.inj H
 go_enter Tryz.func69, Tryz.ntmps69
 go_wp2
 go_ret
 exact ⟨by first | rfl | (simp; done) | (simp [*]; done), by repeat (first | exact Drawn0.refl _ | apply Drawn0.step)⟩
end Go.Proofs.YtcihleahjnpaaaaGreatDoor.P
namespace Go.Proofs.YtcihleahjnpaaaaGreatDoor.P
open Go.RowKit Go.Proofs.YtcihleahjnpaaaaGreatDoor.Q Go.Proofs.YtcihleahjnpaaaaGreatDoor.H Go.Proofs.YtcihleahjnpaaaaGreatDoorW.PrintWords Go.Proofs.YtcihleahjnpaaaaGreatDoorW.PrintLast Go.Proofs.YtcihleahjnpaaaaGreatDoorW.PrintMore
attribute [local go_sem] max2_int min2_int max_two min_two max_three min_three max_four min_four   -- for this text's walks alone
set_option linter.unusedVariables false
set_option linter.unusedSimpArgs false
def value_Kind_42.f (a0 : Int) (a1 : Int) : Option (Int) := (value_Kind_69.f a0).bind fun t718 => ((value_Kind_69.f a1).bind fun t719 => (if t718 = true then (if t719 = true then (some 0) else (some (-1))) else (if t719 = true then (some 1) else (if a0 < a1 then (some (-1)) else (if a0 > a1 then (some 1) else (some 0))))))
set_option maxHeartbeats 8000000 in
set_option maxRecDepth 100000 in
theorem value_Kind_42.calls (a0 : Int) (a1 : Int) (r : Int) (w : World) (h : value_Kind_42.f a0 a1 = some r) :
  Calls Tryz.prog 42 #[.int .i64 a0, .int .i64 a1] w fun e w' => e = .returned (.int .i64 r) ∧ Drawn0 w w' := by
 have H : ((value_Kind_69.f a0).bind fun t718 => ((value_Kind_69.f a1).bind fun t719 => (if t718 = true then (if t719 = true then (some 0) else (some (-1))) else (if t719 = true then (some 1) else (if a0 < a1 then (some (-1)) else (if a0 > a1 then (some 1) else (some 0))))))) = some r := h
 clear h
 replace H := Option.bind_eq_some_iff.mp H
 obtain ⟨t718, A30, H⟩ := H
 replace H : ((value_Kind_69.f a1).bind fun t719 => (if t718 = true then (if t719 = true then (some 0) else (some (-1))) else (if t719 = true then (some 1) else (if a0 < a1 then (some (-1)) else (if a0 > a1 then (some 1) else (some 0)))))) = some r := H
 have A3 := Aside0.mk A30
 clear A30
 replace H := Option.bind_eq_some_iff.mp H
 obtain ⟨t719, A40, H⟩ := H
 replace H : (if t718 = true then (if t719 = true then (some 0) else (some (-1))) else (if t719 = true then (some 1) else (if a0 < a1 then (some (-1)) else (if a0 > a1 then (some 1) else (some 0))))) = some r := H
 have A4 := Aside0.mk A40
 clear A40
 by_cases c5 : t718 = true
 ·subst c5
  have H1 : (if t719 = true then (some 0) else (some (-1))) = some r := by rw [if_pos rfl] at H; exact H
  clear H
  have H := H1
  clear H1
  by_cases c6 : t719 = true
  ·subst c6
   have H1 : (some 0) = some r := by rw [if_pos rfl] at H; exact H
   clear H
   have H := H1
   clear H1
   obtain rfl := Option.some.inj H
   go_enter Tryz.func42, Tryz.ntmps42
   go_wp2_with (first | ((with_reducible refine gate_callee (f := 69) rfl ?_); refine gL (some 8) Tryz.func69 #[.int .i64 a0] ?_; (with_reducible refine (value_Kind_69.calls a0 true _ A3.out).mono ?_); rintro e w' ⟨rfl, ⟨nd, rfl⟩⟩; refine ⟨_, rfl, ?_⟩) | ((with_reducible refine gate_callee (f := 69) rfl ?_); refine gL (some 10) Tryz.func69 #[.int .i64 a1] ?_; (with_reducible refine (value_Kind_69.calls a1 true _ A4.out).mono ?_); rintro e w' ⟨rfl, ⟨nd, rfl⟩⟩; refine ⟨_, rfl, ?_⟩))
   go_ret
   exact ⟨by first | rfl | (simp; done) | (simp [*]; done), by repeat (first | exact Drawn0.refl _ | apply Drawn0.step)⟩
  ·replace c6 := Bool.eq_false_iff.mpr c6
   subst c6
   have H1 : (some (-1)) = some r := by rw [if_neg (show ¬ (false = true) by decide)] at H; exact H
   clear H
   have H := H1
   clear H1
   obtain rfl := Option.some.inj H
   go_enter Tryz.func42, Tryz.ntmps42
   go_wp2_with (first | ((with_reducible refine gate_callee (f := 69) rfl ?_); refine gL (some 8) Tryz.func69 #[.int .i64 a0] ?_; (with_reducible refine (value_Kind_69.calls a0 true _ A3.out).mono ?_); rintro e w' ⟨rfl, ⟨nd, rfl⟩⟩; refine ⟨_, rfl, ?_⟩) | ((with_reducible refine gate_callee (f := 69) rfl ?_); refine gL (some 10) Tryz.func69 #[.int .i64 a1] ?_; (with_reducible refine (value_Kind_69.calls a1 false _ A4.out).mono ?_); rintro e w' ⟨rfl, ⟨nd, rfl⟩⟩; refine ⟨_, rfl, ?_⟩))
   go_ret
   exact ⟨by first | rfl | (simp; done) | (simp [*]; done), by repeat (first | exact Drawn0.refl _ | apply Drawn0.step)⟩
 ·replace c5 := Bool.eq_false_iff.mpr c5
  subst c5
  have H1 : (if t719 = true then (some 1) else (if a0 < a1 then (some (-1)) else (if a0 > a1 then (some 1) else (some 0)))) = some r := by rw [if_neg (show ¬ (false = true) by decide)] at H; exact H
  clear H
  have H := H1
  clear H1
  by_cases c7 : t719 = true
  ·subst c7
   have H1 : (some 1) = some r := by rw [if_pos rfl] at H; exact H
   clear H
   have H := H1
   clear H1
   obtain rfl := Option.some.inj H
   go_enter Tryz.func42, Tryz.ntmps42
   go_wp2_with (first | ((with_reducible refine gate_callee (f := 69) rfl ?_); refine gL (some 8) Tryz.func69 #[.int .i64 a0] ?_; (with_reducible refine (value_Kind_69.calls a0 false _ A3.out).mono ?_); rintro e w' ⟨rfl, ⟨nd, rfl⟩⟩; refine ⟨_, rfl, ?_⟩) | ((with_reducible refine gate_callee (f := 69) rfl ?_); refine gL (some 10) Tryz.func69 #[.int .i64 a1] ?_; (with_reducible refine (value_Kind_69.calls a1 true _ A4.out).mono ?_); rintro e w' ⟨rfl, ⟨nd, rfl⟩⟩; refine ⟨_, rfl, ?_⟩))
   go_ret
   exact ⟨by first | rfl | (simp; done) | (simp [*]; done), by repeat (first | exact Drawn0.refl _ | apply Drawn0.step)⟩
  ·replace c7 := Bool.eq_false_iff.mpr c7
   subst c7
   have H1 : (if a0 < a1 then (some (-1)) else (if a0 > a1 then (some 1) else (some 0))) = some r := by rw [if_neg (show ¬ (false = true) by decide)] at H; exact H
   clear H
   have H := H1
   clear H1
   by_cases c8 : a0 < a1
   ·rw [if_pos c8] at H
    have c8b0 : decide (a0 < a1) = true := decide_eq_true c8
    clear c8
    obtain rfl := Option.some.inj H
    go_enter Tryz.func42, Tryz.ntmps42
    go_wp2_with (first | ((with_reducible refine gate_callee (f := 69) rfl ?_); refine gL (some 8) Tryz.func69 #[.int .i64 a0] ?_; (with_reducible refine (value_Kind_69.calls a0 false _ A3.out).mono ?_); rintro e w' ⟨rfl, ⟨nd, rfl⟩⟩; refine ⟨_, rfl, ?_⟩) | ((with_reducible refine gate_callee (f := 69) rfl ?_); refine gL (some 10) Tryz.func69 #[.int .i64 a1] ?_; (with_reducible refine (value_Kind_69.calls a1 false _ A4.out).mono ?_); rintro e w' ⟨rfl, ⟨nd, rfl⟩⟩; refine ⟨_, rfl, ?_⟩))
    go_ret
    exact ⟨by first | rfl | (simp; done) | (simp [*]; done), by repeat (first | exact Drawn0.refl _ | apply Drawn0.step)⟩
   ·rw [if_neg c8] at H
    have c8b0 : decide (a0 < a1) = false := decide_eq_false c8
    clear c8
    by_cases c9 : a0 > a1
    ·rw [if_pos c9] at H
     have c9b0 : decide (a1 < a0) = true := decide_eq_true c9
     clear c9
     obtain rfl := Option.some.inj H
     go_enter Tryz.func42, Tryz.ntmps42
     go_wp2_with (first | ((with_reducible refine gate_callee (f := 69) rfl ?_); refine gL (some 8) Tryz.func69 #[.int .i64 a0] ?_; (with_reducible refine (value_Kind_69.calls a0 false _ A3.out).mono ?_); rintro e w' ⟨rfl, ⟨nd, rfl⟩⟩; refine ⟨_, rfl, ?_⟩) | ((with_reducible refine gate_callee (f := 69) rfl ?_); refine gL (some 10) Tryz.func69 #[.int .i64 a1] ?_; (with_reducible refine (value_Kind_69.calls a1 false _ A4.out).mono ?_); rintro e w' ⟨rfl, ⟨nd, rfl⟩⟩; refine ⟨_, rfl, ?_⟩))
     go_ret
     exact ⟨by first | rfl | (simp; done) | (simp [*]; done), by repeat (first | exact Drawn0.refl _ | apply Drawn0.step)⟩
    ·rw [if_neg c9] at H
     have c9b0 : decide (a1 < a0) = false := decide_eq_false c9
     clear c9
     obtain rfl := Option.some.inj H
     go_enter Tryz.func42, Tryz.ntmps42
     go_wp2_with (first | ((with_reducible refine gate_callee (f := 69) rfl ?_); refine gL (some 8) Tryz.func69 #[.int .i64 a0] ?_; (with_reducible refine (value_Kind_69.calls a0 false _ A3.out).mono ?_); rintro e w' ⟨rfl, ⟨nd, rfl⟩⟩; refine ⟨_, rfl, ?_⟩) | ((with_reducible refine gate_callee (f := 69) rfl ?_); refine gL (some 10) Tryz.func69 #[.int .i64 a1] ?_; (with_reducible refine (value_Kind_69.calls a1 false _ A4.out).mono ?_); rintro e w' ⟨rfl, ⟨nd, rfl⟩⟩; refine ⟨_, rfl, ?_⟩))
     go_ret
     exact ⟨by first | rfl | (simp; done) | (simp [*]; done), by repeat (first | exact Drawn0.refl _ | apply Drawn0.step)⟩
end Go.Proofs.YtcihleahjnpaaaaGreatDoor.P
namespace Go.Proofs.YtcihleahjnpaaaaGreatDoor.P
open Go.RowKit Go.Proofs.YtcihleahjnpaaaaGreatDoor.Q Go.Proofs.YtcihleahjnpaaaaGreatDoor.H Go.Proofs.YtcihleahjnpaaaaGreatDoorW.PrintWords Go.Proofs.YtcihleahjnpaaaaGreatDoorW.PrintLast Go.Proofs.YtcihleahjnpaaaaGreatDoorW.PrintMore
attribute [local go_sem] max2_int min2_int max_two min_two max_three min_three max_four min_four   -- for this text's walks alone
set_option linter.unusedVariables false
set_option linter.unusedSimpArgs false
def fixed_Num_70.f (a0 : Int) : Option (Bool) := some (a0 != a0)
set_option maxHeartbeats 8000000 in
set_option maxRecDepth 100000 in
theorem fixed_Num_70.calls (a0 : Int) (r : Bool) (w : World) (h : fixed_Num_70.f a0 = some r) :
  Calls Tryz.prog 70 #[.int .i64 a0] w fun e w' => e = .returned (.bool r) ∧ Drawn0 w w' := by
 have H : (some (a0 != a0)) = some r := h
 clear h
 obtain rfl := Option.some.inj H
 go_enter Tryz.func70, Tryz.ntmps70
 go_wp2
 go_ret
 exact ⟨by first | rfl | (simp; done) | (simp [*]; done), by repeat (first | exact Drawn0.refl _ | apply Drawn0.step)⟩
end Go.Proofs.YtcihleahjnpaaaaGreatDoor.P
namespace Go.Proofs.YtcihleahjnpaaaaGreatDoor.P
open Go.RowKit Go.Proofs.YtcihleahjnpaaaaGreatDoor.Q Go.Proofs.YtcihleahjnpaaaaGreatDoor.H Go.Proofs.YtcihleahjnpaaaaGreatDoorW.PrintWords Go.Proofs.YtcihleahjnpaaaaGreatDoorW.PrintLast Go.Proofs.YtcihleahjnpaaaaGreatDoorW.PrintMore
attribute [local go_sem] max2_int min2_int max_two min_two max_three min_three max_four min_four   -- for this text's walks alone
set_option linter.unusedVariables false
set_option linter.unusedSimpArgs false
def fixed_Num_43.f (a0 : Int) (a1 : Int) : Option (Int) := (fixed_Num_70.f a0).bind fun t720 => ((fixed_Num_70.f a1).bind fun t721 => (if t720 = true then (if t721 = true then (some 0) else (some (-1))) else (if t721 = true then (some 1) else (if a0 < a1 then (some (-1)) else (if a0 > a1 then (some 1) else (some 0))))))
set_option maxHeartbeats 8000000 in
set_option maxRecDepth 100000 in
theorem fixed_Num_43.calls (a0 : Int) (a1 : Int) (r : Int) (w : World) (h : fixed_Num_43.f a0 a1 = some r) :
  Calls Tryz.prog 43 #[.int .i64 a0, .int .i64 a1] w fun e w' => e = .returned (.int .i64 r) ∧ Drawn0 w w' := by
 have H : ((fixed_Num_70.f a0).bind fun t720 => ((fixed_Num_70.f a1).bind fun t721 => (if t720 = true then (if t721 = true then (some 0) else (some (-1))) else (if t721 = true then (some 1) else (if a0 < a1 then (some (-1)) else (if a0 > a1 then (some 1) else (some 0))))))) = some r := h
 clear h
 replace H := Option.bind_eq_some_iff.mp H
 obtain ⟨t720, A30, H⟩ := H
 replace H : ((fixed_Num_70.f a1).bind fun t721 => (if t720 = true then (if t721 = true then (some 0) else (some (-1))) else (if t721 = true then (some 1) else (if a0 < a1 then (some (-1)) else (if a0 > a1 then (some 1) else (some 0)))))) = some r := H
 have A3 := Aside0.mk A30
 clear A30
 replace H := Option.bind_eq_some_iff.mp H
 obtain ⟨t721, A40, H⟩ := H
 replace H : (if t720 = true then (if t721 = true then (some 0) else (some (-1))) else (if t721 = true then (some 1) else (if a0 < a1 then (some (-1)) else (if a0 > a1 then (some 1) else (some 0))))) = some r := H
 have A4 := Aside0.mk A40
 clear A40
 by_cases c5 : t720 = true
 ·subst c5
  have H1 : (if t721 = true then (some 0) else (some (-1))) = some r := by rw [if_pos rfl] at H; exact H
  clear H
  have H := H1
  clear H1
  by_cases c6 : t721 = true
  ·subst c6
   have H1 : (some 0) = some r := by rw [if_pos rfl] at H; exact H
   clear H
   have H := H1
   clear H1
   obtain rfl := Option.some.inj H
   go_enter Tryz.func43, Tryz.ntmps43
   go_wp2_with (first | ((with_reducible refine gate_callee (f := 70) rfl ?_); refine gL (some 8) Tryz.func70 #[.int .i64 a0] ?_; (with_reducible refine (fixed_Num_70.calls a0 true _ A3.out).mono ?_); rintro e w' ⟨rfl, ⟨nd, rfl⟩⟩; refine ⟨_, rfl, ?_⟩) | ((with_reducible refine gate_callee (f := 70) rfl ?_); refine gL (some 10) Tryz.func70 #[.int .i64 a1] ?_; (with_reducible refine (fixed_Num_70.calls a1 true _ A4.out).mono ?_); rintro e w' ⟨rfl, ⟨nd, rfl⟩⟩; refine ⟨_, rfl, ?_⟩))
   go_ret
   exact ⟨by first | rfl | (simp; done) | (simp [*]; done), by repeat (first | exact Drawn0.refl _ | apply Drawn0.step)⟩
  ·replace c6 := Bool.eq_false_iff.mpr c6
   subst c6
   have H1 : (some (-1)) = some r := by rw [if_neg (show ¬ (false = true) by decide)] at H; exact H
   clear H
   have H := H1
   clear H1
   obtain rfl := Option.some.inj H
   go_enter Tryz.func43, Tryz.ntmps43
   go_wp2_with (first | ((with_reducible refine gate_callee (f := 70) rfl ?_); refine gL (some 8) Tryz.func70 #[.int .i64 a0] ?_; (with_reducible refine (fixed_Num_70.calls a0 true _ A3.out).mono ?_); rintro e w' ⟨rfl, ⟨nd, rfl⟩⟩; refine ⟨_, rfl, ?_⟩) | ((with_reducible refine gate_callee (f := 70) rfl ?_); refine gL (some 10) Tryz.func70 #[.int .i64 a1] ?_; (with_reducible refine (fixed_Num_70.calls a1 false _ A4.out).mono ?_); rintro e w' ⟨rfl, ⟨nd, rfl⟩⟩; refine ⟨_, rfl, ?_⟩))
   go_ret
   exact ⟨by first | rfl | (simp; done) | (simp [*]; done), by repeat (first | exact Drawn0.refl _ | apply Drawn0.step)⟩
 ·replace c5 := Bool.eq_false_iff.mpr c5
  subst c5
  have H1 : (if t721 = true then (some 1) else (if a0 < a1 then (some (-1)) else (if a0 > a1 then (some 1) else (some 0)))) = some r := by rw [if_neg (show ¬ (false = true) by decide)] at H; exact H
  clear H
  have H := H1
  clear H1
  by_cases c7 : t721 = true
  ·subst c7
   have H1 : (some 1) = some r := by rw [if_pos rfl] at H; exact H
   clear H
   have H := H1
   clear H1
   obtain rfl := Option.some.inj H
   go_enter Tryz.func43, Tryz.ntmps43
   go_wp2_with (first | ((with_reducible refine gate_callee (f := 70) rfl ?_); refine gL (some 8) Tryz.func70 #[.int .i64 a0] ?_; (with_reducible refine (fixed_Num_70.calls a0 false _ A3.out).mono ?_); rintro e w' ⟨rfl, ⟨nd, rfl⟩⟩; refine ⟨_, rfl, ?_⟩) | ((with_reducible refine gate_callee (f := 70) rfl ?_); refine gL (some 10) Tryz.func70 #[.int .i64 a1] ?_; (with_reducible refine (fixed_Num_70.calls a1 true _ A4.out).mono ?_); rintro e w' ⟨rfl, ⟨nd, rfl⟩⟩; refine ⟨_, rfl, ?_⟩))
   go_ret
   exact ⟨by first | rfl | (simp; done) | (simp [*]; done), by repeat (first | exact Drawn0.refl _ | apply Drawn0.step)⟩
  ·replace c7 := Bool.eq_false_iff.mpr c7
   subst c7
   have H1 : (if a0 < a1 then (some (-1)) else (if a0 > a1 then (some 1) else (some 0))) = some r := by rw [if_neg (show ¬ (false = true) by decide)] at H; exact H
   clear H
   have H := H1
   clear H1
   by_cases c8 : a0 < a1
   ·rw [if_pos c8] at H
    have c8b0 : decide (a0 < a1) = true := decide_eq_true c8
    clear c8
    obtain rfl := Option.some.inj H
    go_enter Tryz.func43, Tryz.ntmps43
    go_wp2_with (first | ((with_reducible refine gate_callee (f := 70) rfl ?_); refine gL (some 8) Tryz.func70 #[.int .i64 a0] ?_; (with_reducible refine (fixed_Num_70.calls a0 false _ A3.out).mono ?_); rintro e w' ⟨rfl, ⟨nd, rfl⟩⟩; refine ⟨_, rfl, ?_⟩) | ((with_reducible refine gate_callee (f := 70) rfl ?_); refine gL (some 10) Tryz.func70 #[.int .i64 a1] ?_; (with_reducible refine (fixed_Num_70.calls a1 false _ A4.out).mono ?_); rintro e w' ⟨rfl, ⟨nd, rfl⟩⟩; refine ⟨_, rfl, ?_⟩))
    go_ret
    exact ⟨by first | rfl | (simp; done) | (simp [*]; done), by repeat (first | exact Drawn0.refl _ | apply Drawn0.step)⟩
   ·rw [if_neg c8] at H
    have c8b0 : decide (a0 < a1) = false := decide_eq_false c8
    clear c8
    by_cases c9 : a0 > a1
    ·rw [if_pos c9] at H
     have c9b0 : decide (a1 < a0) = true := decide_eq_true c9
     clear c9
     obtain rfl := Option.some.inj H
     go_enter Tryz.func43, Tryz.ntmps43
     go_wp2_with (first | ((with_reducible refine gate_callee (f := 70) rfl ?_); refine gL (some 8) Tryz.func70 #[.int .i64 a0] ?_; (with_reducible refine (fixed_Num_70.calls a0 false _ A3.out).mono ?_); rintro e w' ⟨rfl, ⟨nd, rfl⟩⟩; refine ⟨_, rfl, ?_⟩) | ((with_reducible refine gate_callee (f := 70) rfl ?_); refine gL (some 10) Tryz.func70 #[.int .i64 a1] ?_; (with_reducible refine (fixed_Num_70.calls a1 false _ A4.out).mono ?_); rintro e w' ⟨rfl, ⟨nd, rfl⟩⟩; refine ⟨_, rfl, ?_⟩))
     go_ret
     exact ⟨by first | rfl | (simp; done) | (simp [*]; done), by repeat (first | exact Drawn0.refl _ | apply Drawn0.step)⟩
    ·rw [if_neg c9] at H
     have c9b0 : decide (a1 < a0) = false := decide_eq_false c9
     clear c9
     obtain rfl := Option.some.inj H
     go_enter Tryz.func43, Tryz.ntmps43
     go_wp2_with (first | ((with_reducible refine gate_callee (f := 70) rfl ?_); refine gL (some 8) Tryz.func70 #[.int .i64 a0] ?_; (with_reducible refine (fixed_Num_70.calls a0 false _ A3.out).mono ?_); rintro e w' ⟨rfl, ⟨nd, rfl⟩⟩; refine ⟨_, rfl, ?_⟩) | ((with_reducible refine gate_callee (f := 70) rfl ?_); refine gL (some 10) Tryz.func70 #[.int .i64 a1] ?_; (with_reducible refine (fixed_Num_70.calls a1 false _ A4.out).mono ?_); rintro e w' ⟨rfl, ⟨nd, rfl⟩⟩; refine ⟨_, rfl, ?_⟩))
     go_ret
     exact ⟨by first | rfl | (simp; done) | (simp [*]; done), by repeat (first | exact Drawn0.refl _ | apply Drawn0.step)⟩
end Go.Proofs.YtcihleahjnpaaaaGreatDoor.P
namespace Go.Proofs.YtcihleahjnpaaaaGreatDoor.P
open Go.RowKit Go.Proofs.YtcihleahjnpaaaaGreatDoor.Q Go.Proofs.YtcihleahjnpaaaaGreatDoor.H Go.Proofs.YtcihleahjnpaaaaGreatDoorW.PrintWords Go.Proofs.YtcihleahjnpaaaaGreatDoorW.PrintLast Go.Proofs.YtcihleahjnpaaaaGreatDoorW.PrintMore
attribute [local go_sem] max2_int min2_int max_two min_two max_three min_three max_four min_four   -- for this text's walks alone
set_option linter.unusedVariables false
set_option linter.unusedSimpArgs false
def value_rank.f (a0 : Bool) : Option (Int) := if a0 = true then (some 1) else (some 0)
set_option maxHeartbeats 8000000 in
set_option maxRecDepth 100000 in
theorem value_rank.calls (a0 : Bool) (r : Int) (w : World) (h : value_rank.f a0 = some r) :
  Calls Tryz.prog 46 #[.bool a0] w fun e w' => e = .returned (.int .i64 r) ∧ Drawn0 w w' := by
 have H : (if a0 = true then (some 1) else (some 0)) = some r := h
 clear h
 by_cases c2 : a0 = true
 ·subst c2
  have H1 : (some 1) = some r := by rw [if_pos rfl] at H; exact H
  clear H
  have H := H1
  clear H1
  obtain rfl := Option.some.inj H
  go_enter Tryz.func46, Tryz.ntmps46
  go_wp2
  go_ret
  exact ⟨by first | rfl | (simp; done) | (simp [*]; done), by repeat (first | exact Drawn0.refl _ | apply Drawn0.step)⟩
 ·replace c2 := Bool.eq_false_iff.mpr c2
  subst c2
  have H1 : (some 0) = some r := by rw [if_neg (show ¬ (false = true) by decide)] at H; exact H
  clear H
  have H := H1
  clear H1
  obtain rfl := Option.some.inj H
  go_enter Tryz.func46, Tryz.ntmps46
  go_wp2
  go_ret
  exact ⟨by first | rfl | (simp; done) | (simp [*]; done), by repeat (first | exact Drawn0.refl _ | apply Drawn0.step)⟩
end Go.Proofs.YtcihleahjnpaaaaGreatDoor.P
