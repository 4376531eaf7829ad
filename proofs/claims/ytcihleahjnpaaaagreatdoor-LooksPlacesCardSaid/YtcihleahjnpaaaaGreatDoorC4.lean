/- Texts of this claim, put together by a program of this session: Px21, Ref. -/
import Derived.Test.YtcihleahjnpaaaaGreatDoorC3
namespace Go.Proofs.YtcihleahjnpaaaaGreatDoor.P
open Go.RowKit Go.Proofs.YtcihleahjnpaaaaGreatDoor.Q Go.Proofs.YtcihleahjnpaaaaGreatDoor.H Go.Proofs.YtcihleahjnpaaaaGreatDoorW.PrintWords Go.Proofs.YtcihleahjnpaaaaGreatDoorW.PrintLast Go.Proofs.YtcihleahjnpaaaaGreatDoorW.PrintMore
attribute [local go_sem] max2_int min2_int max_two min_two max_three min_three max_four min_four   -- for this text's walks alone
set_option linter.unusedVariables false
set_option linter.unusedSimpArgs false
mutual
def latticeref03_Order.j0 : Nat → Int → Int → ByteArray → Bool → Int → Int → Int → ByteArray → Bool → Int → Option (Int × Int)
 | 0, _, _, _, _, _, _, _, _, _, _ => none
 | k + 1, x199000, x199001, x199002, x199003, x199004, x200000, x200001, x200002, x200003, x200004 => if x200000 = 0 then (latticeref03_Order.j1 k x199000 x199001 x199002 x199003 x199004 x199000 0 (⟨#[]⟩ : ByteArray) false 0) else (latticeref03_Order.j1 k x199000 x199001 x199002 x199003 x199004 x200000 x200001 x200002 x200003 x200004)
def latticeref03_Order.j1 : Nat → Int → Int → ByteArray → Bool → Int → Int → Int → ByteArray → Bool → Int → Option (Int × Int)
 | 0, _, _, _, _, _, _, _, _, _, _ => none
 | k + 1, x199000, x199001, x199002, x199003, x199004, x200000, x200001, x200002, x200003, x200004 => if x199000 = x200000 then (if x199000 = 1 then ((latticeref03_numbers.f x199001 x200001).bind fun t211 => (some (t211, 0))) else (if x199000 = 2 then ((latticeref03_Lower.f x199002).bind fun t212 => ((latticeref03_Lower.f x200002).bind fun t213 => ((latticeref03_texts.f k t212 t213).bind fun t214 => (some (t214, 0))))) else (if x199000 = 3 then (if (x199003 == x200003) = true then (some (0, 0)) else (if x200003 = true then (some ((-1), 0)) else (some (1, 0)))) else (some (0, 0))))) else ((latticeref03_numbers.f x199000 x200000).bind fun t210 => (some (t210, 0)))
end
def latticeref03_Order.f (k : Nat) (a0_0 : Int) (a0_1 : Int) (a0_2 : ByteArray) (a0_3 : Bool) (a0_4 : Int) (a1_0 : Int) (a1_1 : Int) (a1_2 : ByteArray) (a1_3 : Bool) (a1_4 : Int) : Option (Int × Int) := (latticeref03_Sound.f a0_0 a0_1 a0_2 a0_3 a0_4).bind fun bt200 => ((latticeref03_Sound.f a1_0 a1_1 a1_2 a1_3 a1_4).bind fun bt205 => (if bt200.1 = 4 then (some (0, bt200.2.2.2.2)) else (if bt205.1 = 4 then (some (0, bt205.2.2.2.2)) else (if bt200.1 = 0 then (latticeref03_Order.j0 k bt205.1 0 (⟨#[]⟩ : ByteArray) false 0 bt205.1 bt205.2.1 bt205.2.2.1 bt205.2.2.2.1 bt205.2.2.2.2) else (latticeref03_Order.j0 k bt200.1 bt200.2.1 bt200.2.2.1 bt200.2.2.2.1 bt200.2.2.2.2 bt205.1 bt205.2.1 bt205.2.2.1 bt205.2.2.2.1 bt205.2.2.2.2)))))
set_option maxHeartbeats 8000000 in
set_option maxRecDepth 100000 in
theorem latticeref03_Order.calls (k : Nat) (a0_0 : Int) (a0_1 : Int) (a0_2 : ByteArray) (a0_3 : Bool) (a0_4 : Int) (a1_0 : Int) (a1_1 : Int) (a1_2 : ByteArray) (a1_3 : Bool) (a1_4 : Int) (r1 : Int) (r2 : Int) (w : World) (h : latticeref03_Order.f k a0_0 a0_1 a0_2 a0_3 a0_4 a1_0 a1_1 a1_2 a1_3 a1_4 = some (r1, r2)) :
  Calls Tryz.prog 27 #[.agg #[.int .i64 a0_0, .int .i64 a0_1, .string a0_2, .bool a0_3, .int .i64 a0_4], .agg #[.int .i64 a1_0, .int .i64 a1_1, .string a1_2, .bool a1_3, .int .i64 a1_4]] w fun e w' => e = .returned (.tuple #[.int .i64 r1, .int .i64 r2]) ∧ Below w.heap.size w w' := by
 have hu30 := Tryz.underlying30
 have HB := Aside0.mk (Below.refl w.heap.size w)
 have H : ((latticeref03_Sound.f a0_0 a0_1 a0_2 a0_3 a0_4).bind fun bt200 => ((latticeref03_Sound.f a1_0 a1_1 a1_2 a1_3 a1_4).bind fun bt205 => (if bt200.1 = 4 then (some (0, bt200.2.2.2.2)) else (if bt205.1 = 4 then (some (0, bt205.2.2.2.2)) else (if bt200.1 = 0 then (latticeref03_Order.j0 k bt205.1 0 (⟨#[]⟩ : ByteArray) false 0 bt205.1 bt205.2.1 bt205.2.2.1 bt205.2.2.2.1 bt205.2.2.2.2) else (latticeref03_Order.j0 k bt200.1 bt200.2.1 bt200.2.2.1 bt200.2.2.2.1 bt200.2.2.2.2 bt205.1 bt205.2.1 bt205.2.2.1 bt205.2.2.2.1 bt205.2.2.2.2)))))) = some (r1, r2) := h
 clear h
 replace H := Option.bind_eq_some_iff.mp H
 obtain ⟨⟨t200, t201, t202, t203, t204⟩, A30, H⟩ := H
 replace H : ((latticeref03_Sound.f a1_0 a1_1 a1_2 a1_3 a1_4).bind fun bt205 => (if t200 = 4 then (some (0, t204)) else (if bt205.1 = 4 then (some (0, bt205.2.2.2.2)) else (if t200 = 0 then (latticeref03_Order.j0 k bt205.1 0 (⟨#[]⟩ : ByteArray) false 0 bt205.1 bt205.2.1 bt205.2.2.1 bt205.2.2.2.1 bt205.2.2.2.2) else (latticeref03_Order.j0 k t200 t201 t202 t203 t204 bt205.1 bt205.2.1 bt205.2.2.1 bt205.2.2.2.1 bt205.2.2.2.2))))) = some (r1, r2) := H
 have A3 := Aside0.mk A30
 clear A30
 replace H := Option.bind_eq_some_iff.mp H
 obtain ⟨⟨t205, t206, t207, t208, t209⟩, A40, H⟩ := H
 replace H : (if t200 = 4 then (some (0, t204)) else (if t205 = 4 then (some (0, t209)) else (if t200 = 0 then (latticeref03_Order.j0 k t205 0 (⟨#[]⟩ : ByteArray) false 0 t205 t206 t207 t208 t209) else (latticeref03_Order.j0 k t200 t201 t202 t203 t204 t205 t206 t207 t208 t209)))) = some (r1, r2) := H
 have A4 := Aside0.mk A40
 clear A40
 by_cases c5 : t200 = 4
 ·rw [if_pos c5] at H
  have c5b0 : (t200 == 4) = true := beq_iff_eq.mpr c5
  have c5b1 : (t200 != 4) = false := bne_eq_false_iff_eq.mpr c5
  clear c5
  simp only [Option.some.injEq, Prod.mk.injEq] at H
  obtain ⟨rfl, rfl⟩ := H
  go_enter Tryz.func27, Tryz.ntmps27
  go_wp2_with (first | ((with_reducible refine gate_dst (N := 2) rfl ?_); refine bx (N := 2) (cs := #[.int .i64 a0_0, .int .i64 a0_1, .string a0_2, .bool a0_3, .int .i64 a0_4]) (t := 30) ?_; intro gb198 hg w6 hbox hb; have BK198 := Aside0.mk (hbox); have GW198 := (bw hg); have GE198 := (bw hg); replace HB := (bs hb); clear hb hbox hg) | ((with_reducible refine gate_dst (N := 3) rfl ?_); refine bx (N := 3) (cs := #[.int .i64 a1_0, .int .i64 a1_1, .string a1_2, .bool a1_3, .int .i64 a1_4]) (t := 30) ?_; intro gb199 hg w7 hbox hb; have BK199 := Aside0.mk (hbox); have GW199 := (bw hg); have GE199 := (bw hg); replace HB := (bs hb); have NB198_199 := Aside0.mk ((by rw [hg]; exact Nat.ne_of_lt (blk_lt (g := gb198) (o := .cells #[.int .i64 a0_0, .int .i64 a0_1, .string a0_2, .bool a0_3, .int .i64 a0_4] 30 (0, 0)) (by (with_reducible repeat (first | refine blk_drewN ?_ _ | refine blk_drew ?_ | refine blk_alloc ?_ _)); exact BK198.out)) : gb198 ≠ gb199)); have NB199_198 := Aside0.mk ((by rw [hg]; exact Nat.ne_of_gt (blk_lt (g := gb198) (o := .cells #[.int .i64 a0_0, .int .i64 a0_1, .string a0_2, .bool a0_3, .int .i64 a0_4] 30 (0, 0)) (by (with_reducible repeat (first | refine blk_drewN ?_ _ | refine blk_drew ?_ | refine blk_alloc ?_ _)); exact BK198.out)) : gb199 ≠ gb198)); replace BK198 := (bb BK198 hb); clear hb hbox hg; have hnb8 := NB198_199.out; have hnc8 := NB199_198.out; obtain ⟨hcz9_0, hcz9_1, hcz9_2, hcz9_3, hcz9_4, hfz9_0, hfz9_1, hfz9_2, hfz9_3, hfz9_4⟩ := bc5 BK198) | (go_at_call 50; (with_reducible refine (latticeref03_Sound.calls a0_0 a0_1 a0_2 a0_3 a0_4 t200 t201 t202 t203 t204 _ A3.out).mono ?_); rintro e w10 ⟨rfl, hb⟩; replace BK198 := (bb BK198 hb); replace BK199 := (bb BK199 hb); replace HB := (bs hb); (try clear hb); obtain ⟨hcz11_0, hcz11_1, hcz11_2, hcz11_3, hcz11_4, hfz11_0, hfz11_1, hfz11_2, hfz11_3, hfz11_4⟩ := bc5 BK198; obtain ⟨hcz12_0, hcz12_1, hcz12_2, hcz12_3, hcz12_4, hfz12_0, hfz12_1, hfz12_2, hfz12_3, hfz12_4⟩ := bc5 BK199) | (go_at_call 50; (with_reducible refine (latticeref03_Sound.calls a1_0 a1_1 a1_2 a1_3 a1_4 t205 t206 t207 t208 t209 _ A4.out).mono ?_); rintro e w13 ⟨rfl, hb⟩; replace BK198 := Aside0.mk (blk_below (g := gb198) (o := .cells #[.int .i64 t200, .int .i64 t201, .string t202, .bool t203, .int .i64 t204] 30 (0, 0)) (by (with_reducible repeat (first | refine blk_drewN ?_ _ | refine blk_drew ?_ | refine blk_alloc ?_ _)); refine blk_put (cs := #[.int .i64 t200, .int .i64 t201, .string t202, .bool t203, .int .i64 a0_4]) ?_ 4 _ rfl; (with_reducible repeat (first | refine blk_drewN ?_ _ | refine blk_drew ?_ | refine blk_alloc ?_ _)); refine blk_put (cs := #[.int .i64 t200, .int .i64 t201, .string t202, .bool a0_3, .int .i64 a0_4]) ?_ 3 _ rfl; (with_reducible repeat (first | refine blk_drewN ?_ _ | refine blk_drew ?_ | refine blk_alloc ?_ _)); refine blk_put (cs := #[.int .i64 t200, .int .i64 t201, .string a0_2, .bool a0_3, .int .i64 a0_4]) ?_ 2 _ rfl; (with_reducible repeat (first | refine blk_drewN ?_ _ | refine blk_drew ?_ | refine blk_alloc ?_ _)); refine blk_put (cs := #[.int .i64 t200, .int .i64 a0_1, .string a0_2, .bool a0_3, .int .i64 a0_4]) ?_ 1 _ rfl; (with_reducible repeat (first | refine blk_drewN ?_ _ | refine blk_drew ?_ | refine blk_alloc ?_ _)); refine blk_put (cs := #[.int .i64 a0_0, .int .i64 a0_1, .string a0_2, .bool a0_3, .int .i64 a0_4]) ?_ 0 _ rfl; (with_reducible repeat (first | refine blk_drewN ?_ _ | refine blk_drew ?_ | refine blk_alloc ?_ _)); exact BK198.out) hb); replace BK199 := Aside0.mk (blk_below (g := gb199) (o := .cells #[.int .i64 a1_0, .int .i64 a1_1, .string a1_2, .bool a1_3, .int .i64 a1_4] 30 (0, 0)) (by (with_reducible repeat (first | refine blk_drewN ?_ _ | refine blk_drew ?_ | refine blk_alloc ?_ _)); refine blk_far ?_ NB199_198.out _; (with_reducible repeat (first | refine blk_drewN ?_ _ | refine blk_drew ?_ | refine blk_alloc ?_ _)); refine blk_far ?_ NB199_198.out _; (with_reducible repeat (first | refine blk_drewN ?_ _ | refine blk_drew ?_ | refine blk_alloc ?_ _)); refine blk_far ?_ NB199_198.out _; (with_reducible repeat (first | refine blk_drewN ?_ _ | refine blk_drew ?_ | refine blk_alloc ?_ _)); refine blk_far ?_ NB199_198.out _; (with_reducible repeat (first | refine blk_drewN ?_ _ | refine blk_drew ?_ | refine blk_alloc ?_ _)); refine blk_far ?_ NB199_198.out _; (with_reducible repeat (first | refine blk_drewN ?_ _ | refine blk_drew ?_ | refine blk_alloc ?_ _)); exact BK199.out) hb); replace HB := (bs hb); (try clear hb); obtain ⟨hcz14_0, hcz14_1, hcz14_2, hcz14_3, hcz14_4, hfz14_0, hfz14_1, hfz14_2, hfz14_3, hfz14_4⟩ := bc5 BK199; obtain ⟨hcz15_0, hcz15_1, hcz15_2, hcz15_3, hcz15_4, hfz15_0, hfz15_1, hfz15_2, hfz15_3, hfz15_4⟩ := bc5 BK198))
  repeat (go_quiet (first | ((with_reducible refine gate_dst (N := 2) rfl ?_); refine bx (N := 2) (cs := #[.int .i64 a0_0, .int .i64 a0_1, .string a0_2, .bool a0_3, .int .i64 a0_4]) (t := 30) ?_; intro gb198 hg w6 hbox hb; have BK198 := Aside0.mk (hbox); have GW198 := (bw hg); have GE198 := (bw hg); replace HB := (bs hb); clear hb hbox hg) | ((with_reducible refine gate_dst (N := 3) rfl ?_); refine bx (N := 3) (cs := #[.int .i64 a1_0, .int .i64 a1_1, .string a1_2, .bool a1_3, .int .i64 a1_4]) (t := 30) ?_; intro gb199 hg w7 hbox hb; have BK199 := Aside0.mk (hbox); have GW199 := (bw hg); have GE199 := (bw hg); replace HB := (bs hb); have NB198_199 := Aside0.mk ((by rw [hg]; exact Nat.ne_of_lt (blk_lt (g := gb198) (o := .cells #[.int .i64 a0_0, .int .i64 a0_1, .string a0_2, .bool a0_3, .int .i64 a0_4] 30 (0, 0)) (by (with_reducible repeat (first | refine blk_drewN ?_ _ | refine blk_drew ?_ | refine blk_alloc ?_ _)); exact BK198.out)) : gb198 ≠ gb199)); have NB199_198 := Aside0.mk ((by rw [hg]; exact Nat.ne_of_gt (blk_lt (g := gb198) (o := .cells #[.int .i64 a0_0, .int .i64 a0_1, .string a0_2, .bool a0_3, .int .i64 a0_4] 30 (0, 0)) (by (with_reducible repeat (first | refine blk_drewN ?_ _ | refine blk_drew ?_ | refine blk_alloc ?_ _)); exact BK198.out)) : gb199 ≠ gb198)); replace BK198 := (bb BK198 hb); clear hb hbox hg; have hnb8 := NB198_199.out; have hnc8 := NB199_198.out; obtain ⟨hcz9_0, hcz9_1, hcz9_2, hcz9_3, hcz9_4, hfz9_0, hfz9_1, hfz9_2, hfz9_3, hfz9_4⟩ := bc5 BK198) | (go_at_call 50; (with_reducible refine (latticeref03_Sound.calls a0_0 a0_1 a0_2 a0_3 a0_4 t200 t201 t202 t203 t204 _ A3.out).mono ?_); rintro e w10 ⟨rfl, hb⟩; replace BK198 := (bb BK198 hb); replace BK199 := (bb BK199 hb); replace HB := (bs hb); (try clear hb); obtain ⟨hcz11_0, hcz11_1, hcz11_2, hcz11_3, hcz11_4, hfz11_0, hfz11_1, hfz11_2, hfz11_3, hfz11_4⟩ := bc5 BK198; obtain ⟨hcz12_0, hcz12_1, hcz12_2, hcz12_3, hcz12_4, hfz12_0, hfz12_1, hfz12_2, hfz12_3, hfz12_4⟩ := bc5 BK199) | (go_at_call 50; (with_reducible refine (latticeref03_Sound.calls a1_0 a1_1 a1_2 a1_3 a1_4 t205 t206 t207 t208 t209 _ A4.out).mono ?_); rintro e w13 ⟨rfl, hb⟩; replace BK198 := Aside0.mk (blk_below (g := gb198) (o := .cells #[.int .i64 t200, .int .i64 t201, .string t202, .bool t203, .int .i64 t204] 30 (0, 0)) (by (with_reducible repeat (first | refine blk_drewN ?_ _ | refine blk_drew ?_ | refine blk_alloc ?_ _)); refine blk_put (cs := #[.int .i64 t200, .int .i64 t201, .string t202, .bool t203, .int .i64 a0_4]) ?_ 4 _ rfl; (with_reducible repeat (first | refine blk_drewN ?_ _ | refine blk_drew ?_ | refine blk_alloc ?_ _)); refine blk_put (cs := #[.int .i64 t200, .int .i64 t201, .string t202, .bool a0_3, .int .i64 a0_4]) ?_ 3 _ rfl; (with_reducible repeat (first | refine blk_drewN ?_ _ | refine blk_drew ?_ | refine blk_alloc ?_ _)); refine blk_put (cs := #[.int .i64 t200, .int .i64 t201, .string a0_2, .bool a0_3, .int .i64 a0_4]) ?_ 2 _ rfl; (with_reducible repeat (first | refine blk_drewN ?_ _ | refine blk_drew ?_ | refine blk_alloc ?_ _)); refine blk_put (cs := #[.int .i64 t200, .int .i64 a0_1, .string a0_2, .bool a0_3, .int .i64 a0_4]) ?_ 1 _ rfl; (with_reducible repeat (first | refine blk_drewN ?_ _ | refine blk_drew ?_ | refine blk_alloc ?_ _)); refine blk_put (cs := #[.int .i64 a0_0, .int .i64 a0_1, .string a0_2, .bool a0_3, .int .i64 a0_4]) ?_ 0 _ rfl; (with_reducible repeat (first | refine blk_drewN ?_ _ | refine blk_drew ?_ | refine blk_alloc ?_ _)); exact BK198.out) hb); replace BK199 := Aside0.mk (blk_below (g := gb199) (o := .cells #[.int .i64 a1_0, .int .i64 a1_1, .string a1_2, .bool a1_3, .int .i64 a1_4] 30 (0, 0)) (by (with_reducible repeat (first | refine blk_drewN ?_ _ | refine blk_drew ?_ | refine blk_alloc ?_ _)); refine blk_far ?_ NB199_198.out _; (with_reducible repeat (first | refine blk_drewN ?_ _ | refine blk_drew ?_ | refine blk_alloc ?_ _)); refine blk_far ?_ NB199_198.out _; (with_reducible repeat (first | refine blk_drewN ?_ _ | refine blk_drew ?_ | refine blk_alloc ?_ _)); refine blk_far ?_ NB199_198.out _; (with_reducible repeat (first | refine blk_drewN ?_ _ | refine blk_drew ?_ | refine blk_alloc ?_ _)); refine blk_far ?_ NB199_198.out _; (with_reducible repeat (first | refine blk_drewN ?_ _ | refine blk_drew ?_ | refine blk_alloc ?_ _)); refine blk_far ?_ NB199_198.out _; (with_reducible repeat (first | refine blk_drewN ?_ _ | refine blk_drew ?_ | refine blk_alloc ?_ _)); exact BK199.out) hb); replace HB := (bs hb); (try clear hb); obtain ⟨hcz14_0, hcz14_1, hcz14_2, hcz14_3, hcz14_4, hfz14_0, hfz14_1, hfz14_2, hfz14_3, hfz14_4⟩ := bc5 BK199; obtain ⟨hcz15_0, hcz15_1, hcz15_2, hcz15_3, hcz15_4, hfz15_0, hfz15_1, hfz15_2, hfz15_3, hfz15_4⟩ := bc5 BK198)); try go_wp2_with (first | ((with_reducible refine gate_dst (N := 2) rfl ?_); refine bx (N := 2) (cs := #[.int .i64 a0_0, .int .i64 a0_1, .string a0_2, .bool a0_3, .int .i64 a0_4]) (t := 30) ?_; intro gb198 hg w6 hbox hb; have BK198 := Aside0.mk (hbox); have GW198 := (bw hg); have GE198 := (bw hg); replace HB := (bs hb); clear hb hbox hg) | ((with_reducible refine gate_dst (N := 3) rfl ?_); refine bx (N := 3) (cs := #[.int .i64 a1_0, .int .i64 a1_1, .string a1_2, .bool a1_3, .int .i64 a1_4]) (t := 30) ?_; intro gb199 hg w7 hbox hb; have BK199 := Aside0.mk (hbox); have GW199 := (bw hg); have GE199 := (bw hg); replace HB := (bs hb); have NB198_199 := Aside0.mk ((by rw [hg]; exact Nat.ne_of_lt (blk_lt (g := gb198) (o := .cells #[.int .i64 a0_0, .int .i64 a0_1, .string a0_2, .bool a0_3, .int .i64 a0_4] 30 (0, 0)) (by (with_reducible repeat (first | refine blk_drewN ?_ _ | refine blk_drew ?_ | refine blk_alloc ?_ _)); exact BK198.out)) : gb198 ≠ gb199)); have NB199_198 := Aside0.mk ((by rw [hg]; exact Nat.ne_of_gt (blk_lt (g := gb198) (o := .cells #[.int .i64 a0_0, .int .i64 a0_1, .string a0_2, .bool a0_3, .int .i64 a0_4] 30 (0, 0)) (by (with_reducible repeat (first | refine blk_drewN ?_ _ | refine blk_drew ?_ | refine blk_alloc ?_ _)); exact BK198.out)) : gb199 ≠ gb198)); replace BK198 := (bb BK198 hb); clear hb hbox hg; have hnb8 := NB198_199.out; have hnc8 := NB199_198.out; obtain ⟨hcz9_0, hcz9_1, hcz9_2, hcz9_3, hcz9_4, hfz9_0, hfz9_1, hfz9_2, hfz9_3, hfz9_4⟩ := bc5 BK198) | (go_at_call 50; (with_reducible refine (latticeref03_Sound.calls a0_0 a0_1 a0_2 a0_3 a0_4 t200 t201 t202 t203 t204 _ A3.out).mono ?_); rintro e w10 ⟨rfl, hb⟩; replace BK198 := (bb BK198 hb); replace BK199 := (bb BK199 hb); replace HB := (bs hb); (try clear hb); obtain ⟨hcz11_0, hcz11_1, hcz11_2, hcz11_3, hcz11_4, hfz11_0, hfz11_1, hfz11_2, hfz11_3, hfz11_4⟩ := bc5 BK198; obtain ⟨hcz12_0, hcz12_1, hcz12_2, hcz12_3, hcz12_4, hfz12_0, hfz12_1, hfz12_2, hfz12_3, hfz12_4⟩ := bc5 BK199) | (go_at_call 50; (with_reducible refine (latticeref03_Sound.calls a1_0 a1_1 a1_2 a1_3 a1_4 t205 t206 t207 t208 t209 _ A4.out).mono ?_); rintro e w13 ⟨rfl, hb⟩; replace BK198 := Aside0.mk (blk_below (g := gb198) (o := .cells #[.int .i64 t200, .int .i64 t201, .string t202, .bool t203, .int .i64 t204] 30 (0, 0)) (by (with_reducible repeat (first | refine blk_drewN ?_ _ | refine blk_drew ?_ | refine blk_alloc ?_ _)); refine blk_put (cs := #[.int .i64 t200, .int .i64 t201, .string t202, .bool t203, .int .i64 a0_4]) ?_ 4 _ rfl; (with_reducible repeat (first | refine blk_drewN ?_ _ | refine blk_drew ?_ | refine blk_alloc ?_ _)); refine blk_put (cs := #[.int .i64 t200, .int .i64 t201, .string t202, .bool a0_3, .int .i64 a0_4]) ?_ 3 _ rfl; (with_reducible repeat (first | refine blk_drewN ?_ _ | refine blk_drew ?_ | refine blk_alloc ?_ _)); refine blk_put (cs := #[.int .i64 t200, .int .i64 t201, .string a0_2, .bool a0_3, .int .i64 a0_4]) ?_ 2 _ rfl; (with_reducible repeat (first | refine blk_drewN ?_ _ | refine blk_drew ?_ | refine blk_alloc ?_ _)); refine blk_put (cs := #[.int .i64 t200, .int .i64 a0_1, .string a0_2, .bool a0_3, .int .i64 a0_4]) ?_ 1 _ rfl; (with_reducible repeat (first | refine blk_drewN ?_ _ | refine blk_drew ?_ | refine blk_alloc ?_ _)); refine blk_put (cs := #[.int .i64 a0_0, .int .i64 a0_1, .string a0_2, .bool a0_3, .int .i64 a0_4]) ?_ 0 _ rfl; (with_reducible repeat (first | refine blk_drewN ?_ _ | refine blk_drew ?_ | refine blk_alloc ?_ _)); exact BK198.out) hb); replace BK199 := Aside0.mk (blk_below (g := gb199) (o := .cells #[.int .i64 a1_0, .int .i64 a1_1, .string a1_2, .bool a1_3, .int .i64 a1_4] 30 (0, 0)) (by (with_reducible repeat (first | refine blk_drewN ?_ _ | refine blk_drew ?_ | refine blk_alloc ?_ _)); refine blk_far ?_ NB199_198.out _; (with_reducible repeat (first | refine blk_drewN ?_ _ | refine blk_drew ?_ | refine blk_alloc ?_ _)); refine blk_far ?_ NB199_198.out _; (with_reducible repeat (first | refine blk_drewN ?_ _ | refine blk_drew ?_ | refine blk_alloc ?_ _)); refine blk_far ?_ NB199_198.out _; (with_reducible repeat (first | refine blk_drewN ?_ _ | refine blk_drew ?_ | refine blk_alloc ?_ _)); refine blk_far ?_ NB199_198.out _; (with_reducible repeat (first | refine blk_drewN ?_ _ | refine blk_drew ?_ | refine blk_alloc ?_ _)); refine blk_far ?_ NB199_198.out _; (with_reducible repeat (first | refine blk_drewN ?_ _ | refine blk_drew ?_ | refine blk_alloc ?_ _)); exact BK199.out) hb); replace HB := (bs hb); (try clear hb); obtain ⟨hcz14_0, hcz14_1, hcz14_2, hcz14_3, hcz14_4, hfz14_0, hfz14_1, hfz14_2, hfz14_3, hfz14_4⟩ := bc5 BK199; obtain ⟨hcz15_0, hcz15_1, hcz15_2, hcz15_3, hcz15_4, hfz15_0, hfz15_1, hfz15_2, hfz15_3, hfz15_4⟩ := bc5 BK198)))
  go_ret2
  exact ⟨by first | rfl | (simp [errW_none, errW_some] <;> rfl) | (simp [*, errW_none, errW_some] <;> rfl), be⟩
 ·rw [if_neg c5] at H
  have c5b0 : (t200 == 4) = false := beq_eq_false_iff_ne.mpr c5
  have c5b1 : (t200 != 4) = true := bne_iff_ne.mpr c5
  by_cases c16 : t205 = 4
  ·rw [if_pos c16] at H
   have c16b0 : (t205 == 4) = true := beq_iff_eq.mpr c16
   have c16b1 : (t205 != 4) = false := bne_eq_false_iff_eq.mpr c16
   clear c16
   simp only [Option.some.injEq, Prod.mk.injEq] at H
   obtain ⟨rfl, rfl⟩ := H
   go_enter Tryz.func27, Tryz.ntmps27
   go_wp2_with (first | ((with_reducible refine gate_dst (N := 2) rfl ?_); refine bx (N := 2) (cs := #[.int .i64 a0_0, .int .i64 a0_1, .string a0_2, .bool a0_3, .int .i64 a0_4]) (t := 30) ?_; intro gb198 hg w17 hbox hb; have BK198 := Aside0.mk (hbox); have GW198 := (bw hg); have GE198 := (bw hg); replace HB := (bs hb); clear hb hbox hg) | ((with_reducible refine gate_dst (N := 3) rfl ?_); refine bx (N := 3) (cs := #[.int .i64 a1_0, .int .i64 a1_1, .string a1_2, .bool a1_3, .int .i64 a1_4]) (t := 30) ?_; intro gb199 hg w18 hbox hb; have BK199 := Aside0.mk (hbox); have GW199 := (bw hg); have GE199 := (bw hg); replace HB := (bs hb); have NB198_199 := Aside0.mk ((by rw [hg]; exact Nat.ne_of_lt (blk_lt (g := gb198) (o := .cells #[.int .i64 a0_0, .int .i64 a0_1, .string a0_2, .bool a0_3, .int .i64 a0_4] 30 (0, 0)) (by (with_reducible repeat (first | refine blk_drewN ?_ _ | refine blk_drew ?_ | refine blk_alloc ?_ _)); exact BK198.out)) : gb198 ≠ gb199)); have NB199_198 := Aside0.mk ((by rw [hg]; exact Nat.ne_of_gt (blk_lt (g := gb198) (o := .cells #[.int .i64 a0_0, .int .i64 a0_1, .string a0_2, .bool a0_3, .int .i64 a0_4] 30 (0, 0)) (by (with_reducible repeat (first | refine blk_drewN ?_ _ | refine blk_drew ?_ | refine blk_alloc ?_ _)); exact BK198.out)) : gb199 ≠ gb198)); replace BK198 := (bb BK198 hb); clear hb hbox hg; have hnb19 := NB198_199.out; have hnc19 := NB199_198.out; obtain ⟨hcz20_0, hcz20_1, hcz20_2, hcz20_3, hcz20_4, hfz20_0, hfz20_1, hfz20_2, hfz20_3, hfz20_4⟩ := bc5 BK198) | (go_at_call 50; (with_reducible refine (latticeref03_Sound.calls a0_0 a0_1 a0_2 a0_3 a0_4 t200 t201 t202 t203 t204 _ A3.out).mono ?_); rintro e w21 ⟨rfl, hb⟩; replace BK198 := (bb BK198 hb); replace BK199 := (bb BK199 hb); replace HB := (bs hb); (try clear hb); obtain ⟨hcz22_0, hcz22_1, hcz22_2, hcz22_3, hcz22_4, hfz22_0, hfz22_1, hfz22_2, hfz22_3, hfz22_4⟩ := bc5 BK198; obtain ⟨hcz23_0, hcz23_1, hcz23_2, hcz23_3, hcz23_4, hfz23_0, hfz23_1, hfz23_2, hfz23_3, hfz23_4⟩ := bc5 BK199) | (go_at_call 50; (with_reducible refine (latticeref03_Sound.calls a1_0 a1_1 a1_2 a1_3 a1_4 t205 t206 t207 t208 t209 _ A4.out).mono ?_); rintro e w24 ⟨rfl, hb⟩; replace BK198 := Aside0.mk (blk_below (g := gb198) (o := .cells #[.int .i64 t200, .int .i64 t201, .string t202, .bool t203, .int .i64 t204] 30 (0, 0)) (by (with_reducible repeat (first | refine blk_drewN ?_ _ | refine blk_drew ?_ | refine blk_alloc ?_ _)); refine blk_put (cs := #[.int .i64 t200, .int .i64 t201, .string t202, .bool t203, .int .i64 a0_4]) ?_ 4 _ rfl; (with_reducible repeat (first | refine blk_drewN ?_ _ | refine blk_drew ?_ | refine blk_alloc ?_ _)); refine blk_put (cs := #[.int .i64 t200, .int .i64 t201, .string t202, .bool a0_3, .int .i64 a0_4]) ?_ 3 _ rfl; (with_reducible repeat (first | refine blk_drewN ?_ _ | refine blk_drew ?_ | refine blk_alloc ?_ _)); refine blk_put (cs := #[.int .i64 t200, .int .i64 t201, .string a0_2, .bool a0_3, .int .i64 a0_4]) ?_ 2 _ rfl; (with_reducible repeat (first | refine blk_drewN ?_ _ | refine blk_drew ?_ | refine blk_alloc ?_ _)); refine blk_put (cs := #[.int .i64 t200, .int .i64 a0_1, .string a0_2, .bool a0_3, .int .i64 a0_4]) ?_ 1 _ rfl; (with_reducible repeat (first | refine blk_drewN ?_ _ | refine blk_drew ?_ | refine blk_alloc ?_ _)); refine blk_put (cs := #[.int .i64 a0_0, .int .i64 a0_1, .string a0_2, .bool a0_3, .int .i64 a0_4]) ?_ 0 _ rfl; (with_reducible repeat (first | refine blk_drewN ?_ _ | refine blk_drew ?_ | refine blk_alloc ?_ _)); exact BK198.out) hb); replace BK199 := Aside0.mk (blk_below (g := gb199) (o := .cells #[.int .i64 a1_0, .int .i64 a1_1, .string a1_2, .bool a1_3, .int .i64 a1_4] 30 (0, 0)) (by (with_reducible repeat (first | refine blk_drewN ?_ _ | refine blk_drew ?_ | refine blk_alloc ?_ _)); refine blk_far ?_ NB199_198.out _; (with_reducible repeat (first | refine blk_drewN ?_ _ | refine blk_drew ?_ | refine blk_alloc ?_ _)); refine blk_far ?_ NB199_198.out _; (with_reducible repeat (first | refine blk_drewN ?_ _ | refine blk_drew ?_ | refine blk_alloc ?_ _)); refine blk_far ?_ NB199_198.out _; (with_reducible repeat (first | refine blk_drewN ?_ _ | refine blk_drew ?_ | refine blk_alloc ?_ _)); refine blk_far ?_ NB199_198.out _; (with_reducible repeat (first | refine blk_drewN ?_ _ | refine blk_drew ?_ | refine blk_alloc ?_ _)); refine blk_far ?_ NB199_198.out _; (with_reducible repeat (first | refine blk_drewN ?_ _ | refine blk_drew ?_ | refine blk_alloc ?_ _)); exact BK199.out) hb); replace HB := (bs hb); (try clear hb); obtain ⟨hcz25_0, hcz25_1, hcz25_2, hcz25_3, hcz25_4, hfz25_0, hfz25_1, hfz25_2, hfz25_3, hfz25_4⟩ := bc5 BK199; obtain ⟨hcz26_0, hcz26_1, hcz26_2, hcz26_3, hcz26_4, hfz26_0, hfz26_1, hfz26_2, hfz26_3, hfz26_4⟩ := bc5 BK198))
   repeat (go_quiet (first | ((with_reducible refine gate_dst (N := 2) rfl ?_); refine bx (N := 2) (cs := #[.int .i64 a0_0, .int .i64 a0_1, .string a0_2, .bool a0_3, .int .i64 a0_4]) (t := 30) ?_; intro gb198 hg w17 hbox hb; have BK198 := Aside0.mk (hbox); have GW198 := (bw hg); have GE198 := (bw hg); replace HB := (bs hb); clear hb hbox hg) | ((with_reducible refine gate_dst (N := 3) rfl ?_); refine bx (N := 3) (cs := #[.int .i64 a1_0, .int .i64 a1_1, .string a1_2, .bool a1_3, .int .i64 a1_4]) (t := 30) ?_; intro gb199 hg w18 hbox hb; have BK199 := Aside0.mk (hbox); have GW199 := (bw hg); have GE199 := (bw hg); replace HB := (bs hb); have NB198_199 := Aside0.mk ((by rw [hg]; exact Nat.ne_of_lt (blk_lt (g := gb198) (o := .cells #[.int .i64 a0_0, .int .i64 a0_1, .string a0_2, .bool a0_3, .int .i64 a0_4] 30 (0, 0)) (by (with_reducible repeat (first | refine blk_drewN ?_ _ | refine blk_drew ?_ | refine blk_alloc ?_ _)); exact BK198.out)) : gb198 ≠ gb199)); have NB199_198 := Aside0.mk ((by rw [hg]; exact Nat.ne_of_gt (blk_lt (g := gb198) (o := .cells #[.int .i64 a0_0, .int .i64 a0_1, .string a0_2, .bool a0_3, .int .i64 a0_4] 30 (0, 0)) (by (with_reducible repeat (first | refine blk_drewN ?_ _ | refine blk_drew ?_ | refine blk_alloc ?_ _)); exact BK198.out)) : gb199 ≠ gb198)); replace BK198 := (bb BK198 hb); clear hb hbox hg; have hnb19 := NB198_199.out; have hnc19 := NB199_198.out; obtain ⟨hcz20_0, hcz20_1, hcz20_2, hcz20_3, hcz20_4, hfz20_0, hfz20_1, hfz20_2, hfz20_3, hfz20_4⟩ := bc5 BK198) | (go_at_call 50; (with_reducible refine (latticeref03_Sound.calls a0_0 a0_1 a0_2 a0_3 a0_4 t200 t201 t202 t203 t204 _ A3.out).mono ?_); rintro e w21 ⟨rfl, hb⟩; replace BK198 := (bb BK198 hb); replace BK199 := (bb BK199 hb); replace HB := (bs hb); (try clear hb); obtain ⟨hcz22_0, hcz22_1, hcz22_2, hcz22_3, hcz22_4, hfz22_0, hfz22_1, hfz22_2, hfz22_3, hfz22_4⟩ := bc5 BK198; obtain ⟨hcz23_0, hcz23_1, hcz23_2, hcz23_3, hcz23_4, hfz23_0, hfz23_1, hfz23_2, hfz23_3, hfz23_4⟩ := bc5 BK199) | (go_at_call 50; (with_reducible refine (latticeref03_Sound.calls a1_0 a1_1 a1_2 a1_3 a1_4 t205 t206 t207 t208 t209 _ A4.out).mono ?_); rintro e w24 ⟨rfl, hb⟩; replace BK198 := Aside0.mk (blk_below (g := gb198) (o := .cells #[.int .i64 t200, .int .i64 t201, .string t202, .bool t203, .int .i64 t204] 30 (0, 0)) (by (with_reducible repeat (first | refine blk_drewN ?_ _ | refine blk_drew ?_ | refine blk_alloc ?_ _)); refine blk_put (cs := #[.int .i64 t200, .int .i64 t201, .string t202, .bool t203, .int .i64 a0_4]) ?_ 4 _ rfl; (with_reducible repeat (first | refine blk_drewN ?_ _ | refine blk_drew ?_ | refine blk_alloc ?_ _)); refine blk_put (cs := #[.int .i64 t200, .int .i64 t201, .string t202, .bool a0_3, .int .i64 a0_4]) ?_ 3 _ rfl; (with_reducible repeat (first | refine blk_drewN ?_ _ | refine blk_drew ?_ | refine blk_alloc ?_ _)); refine blk_put (cs := #[.int .i64 t200, .int .i64 t201, .string a0_2, .bool a0_3, .int .i64 a0_4]) ?_ 2 _ rfl; (with_reducible repeat (first | refine blk_drewN ?_ _ | refine blk_drew ?_ | refine blk_alloc ?_ _)); refine blk_put (cs := #[.int .i64 t200, .int .i64 a0_1, .string a0_2, .bool a0_3, .int .i64 a0_4]) ?_ 1 _ rfl; (with_reducible repeat (first | refine blk_drewN ?_ _ | refine blk_drew ?_ | refine blk_alloc ?_ _)); refine blk_put (cs := #[.int .i64 a0_0, .int .i64 a0_1, .string a0_2, .bool a0_3, .int .i64 a0_4]) ?_ 0 _ rfl; (with_reducible repeat (first | refine blk_drewN ?_ _ | refine blk_drew ?_ | refine blk_alloc ?_ _)); exact BK198.out) hb); replace BK199 := Aside0.mk (blk_below (g := gb199) (o := .cells #[.int .i64 a1_0, .int .i64 a1_1, .string a1_2, .bool a1_3, .int .i64 a1_4] 30 (0, 0)) (by (with_reducible repeat (first | refine blk_drewN ?_ _ | refine blk_drew ?_ | refine blk_alloc ?_ _)); refine blk_far ?_ NB199_198.out _; (with_reducible repeat (first | refine blk_drewN ?_ _ | refine blk_drew ?_ | refine blk_alloc ?_ _)); refine blk_far ?_ NB199_198.out _; (with_reducible repeat (first | refine blk_drewN ?_ _ | refine blk_drew ?_ | refine blk_alloc ?_ _)); refine blk_far ?_ NB199_198.out _; (with_reducible repeat (first | refine blk_drewN ?_ _ | refine blk_drew ?_ | refine blk_alloc ?_ _)); refine blk_far ?_ NB199_198.out _; (with_reducible repeat (first | refine blk_drewN ?_ _ | refine blk_drew ?_ | refine blk_alloc ?_ _)); refine blk_far ?_ NB199_198.out _; (with_reducible repeat (first | refine blk_drewN ?_ _ | refine blk_drew ?_ | refine blk_alloc ?_ _)); exact BK199.out) hb); replace HB := (bs hb); (try clear hb); obtain ⟨hcz25_0, hcz25_1, hcz25_2, hcz25_3, hcz25_4, hfz25_0, hfz25_1, hfz25_2, hfz25_3, hfz25_4⟩ := bc5 BK199; obtain ⟨hcz26_0, hcz26_1, hcz26_2, hcz26_3, hcz26_4, hfz26_0, hfz26_1, hfz26_2, hfz26_3, hfz26_4⟩ := bc5 BK198)); try go_wp2_with (first | ((with_reducible refine gate_dst (N := 2) rfl ?_); refine bx (N := 2) (cs := #[.int .i64 a0_0, .int .i64 a0_1, .string a0_2, .bool a0_3, .int .i64 a0_4]) (t := 30) ?_; intro gb198 hg w17 hbox hb; have BK198 := Aside0.mk (hbox); have GW198 := (bw hg); have GE198 := (bw hg); replace HB := (bs hb); clear hb hbox hg) | ((with_reducible refine gate_dst (N := 3) rfl ?_); refine bx (N := 3) (cs := #[.int .i64 a1_0, .int .i64 a1_1, .string a1_2, .bool a1_3, .int .i64 a1_4]) (t := 30) ?_; intro gb199 hg w18 hbox hb; have BK199 := Aside0.mk (hbox); have GW199 := (bw hg); have GE199 := (bw hg); replace HB := (bs hb); have NB198_199 := Aside0.mk ((by rw [hg]; exact Nat.ne_of_lt (blk_lt (g := gb198) (o := .cells #[.int .i64 a0_0, .int .i64 a0_1, .string a0_2, .bool a0_3, .int .i64 a0_4] 30 (0, 0)) (by (with_reducible repeat (first | refine blk_drewN ?_ _ | refine blk_drew ?_ | refine blk_alloc ?_ _)); exact BK198.out)) : gb198 ≠ gb199)); have NB199_198 := Aside0.mk ((by rw [hg]; exact Nat.ne_of_gt (blk_lt (g := gb198) (o := .cells #[.int .i64 a0_0, .int .i64 a0_1, .string a0_2, .bool a0_3, .int .i64 a0_4] 30 (0, 0)) (by (with_reducible repeat (first | refine blk_drewN ?_ _ | refine blk_drew ?_ | refine blk_alloc ?_ _)); exact BK198.out)) : gb199 ≠ gb198)); replace BK198 := (bb BK198 hb); clear hb hbox hg; have hnb19 := NB198_199.out; have hnc19 := NB199_198.out; obtain ⟨hcz20_0, hcz20_1, hcz20_2, hcz20_3, hcz20_4, hfz20_0, hfz20_1, hfz20_2, hfz20_3, hfz20_4⟩ := bc5 BK198) | (go_at_call 50; (with_reducible refine (latticeref03_Sound.calls a0_0 a0_1 a0_2 a0_3 a0_4 t200 t201 t202 t203 t204 _ A3.out).mono ?_); rintro e w21 ⟨rfl, hb⟩; replace BK198 := (bb BK198 hb); replace BK199 := (bb BK199 hb); replace HB := (bs hb); (try clear hb); obtain ⟨hcz22_0, hcz22_1, hcz22_2, hcz22_3, hcz22_4, hfz22_0, hfz22_1, hfz22_2, hfz22_3, hfz22_4⟩ := bc5 BK198; obtain ⟨hcz23_0, hcz23_1, hcz23_2, hcz23_3, hcz23_4, hfz23_0, hfz23_1, hfz23_2, hfz23_3, hfz23_4⟩ := bc5 BK199) | (go_at_call 50; (with_reducible refine (latticeref03_Sound.calls a1_0 a1_1 a1_2 a1_3 a1_4 t205 t206 t207 t208 t209 _ A4.out).mono ?_); rintro e w24 ⟨rfl, hb⟩; replace BK198 := Aside0.mk (blk_below (g := gb198) (o := .cells #[.int .i64 t200, .int .i64 t201, .string t202, .bool t203, .int .i64 t204] 30 (0, 0)) (by (with_reducible repeat (first | refine blk_drewN ?_ _ | refine blk_drew ?_ | refine blk_alloc ?_ _)); refine blk_put (cs := #[.int .i64 t200, .int .i64 t201, .string t202, .bool t203, .int .i64 a0_4]) ?_ 4 _ rfl; (with_reducible repeat (first | refine blk_drewN ?_ _ | refine blk_drew ?_ | refine blk_alloc ?_ _)); refine blk_put (cs := #[.int .i64 t200, .int .i64 t201, .string t202, .bool a0_3, .int .i64 a0_4]) ?_ 3 _ rfl; (with_reducible repeat (first | refine blk_drewN ?_ _ | refine blk_drew ?_ | refine blk_alloc ?_ _)); refine blk_put (cs := #[.int .i64 t200, .int .i64 t201, .string a0_2, .bool a0_3, .int .i64 a0_4]) ?_ 2 _ rfl; (with_reducible repeat (first | refine blk_drewN ?_ _ | refine blk_drew ?_ | refine blk_alloc ?_ _)); refine blk_put (cs := #[.int .i64 t200, .int .i64 a0_1, .string a0_2, .bool a0_3, .int .i64 a0_4]) ?_ 1 _ rfl; (with_reducible repeat (first | refine blk_drewN ?_ _ | refine blk_drew ?_ | refine blk_alloc ?_ _)); refine blk_put (cs := #[.int .i64 a0_0, .int .i64 a0_1, .string a0_2, .bool a0_3, .int .i64 a0_4]) ?_ 0 _ rfl; (with_reducible repeat (first | refine blk_drewN ?_ _ | refine blk_drew ?_ | refine blk_alloc ?_ _)); exact BK198.out) hb); replace BK199 := Aside0.mk (blk_below (g := gb199) (o := .cells #[.int .i64 a1_0, .int .i64 a1_1, .string a1_2, .bool a1_3, .int .i64 a1_4] 30 (0, 0)) (by (with_reducible repeat (first | refine blk_drewN ?_ _ | refine blk_drew ?_ | refine blk_alloc ?_ _)); refine blk_far ?_ NB199_198.out _; (with_reducible repeat (first | refine blk_drewN ?_ _ | refine blk_drew ?_ | refine blk_alloc ?_ _)); refine blk_far ?_ NB199_198.out _; (with_reducible repeat (first | refine blk_drewN ?_ _ | refine blk_drew ?_ | refine blk_alloc ?_ _)); refine blk_far ?_ NB199_198.out _; (with_reducible repeat (first | refine blk_drewN ?_ _ | refine blk_drew ?_ | refine blk_alloc ?_ _)); refine blk_far ?_ NB199_198.out _; (with_reducible repeat (first | refine blk_drewN ?_ _ | refine blk_drew ?_ | refine blk_alloc ?_ _)); refine blk_far ?_ NB199_198.out _; (with_reducible repeat (first | refine blk_drewN ?_ _ | refine blk_drew ?_ | refine blk_alloc ?_ _)); exact BK199.out) hb); replace HB := (bs hb); (try clear hb); obtain ⟨hcz25_0, hcz25_1, hcz25_2, hcz25_3, hcz25_4, hfz25_0, hfz25_1, hfz25_2, hfz25_3, hfz25_4⟩ := bc5 BK199; obtain ⟨hcz26_0, hcz26_1, hcz26_2, hcz26_3, hcz26_4, hfz26_0, hfz26_1, hfz26_2, hfz26_3, hfz26_4⟩ := bc5 BK198)))
   go_ret2
   exact ⟨by first | rfl | (simp [errW_none, errW_some] <;> rfl) | (simp [*, errW_none, errW_some] <;> rfl), be⟩
  ·rw [if_neg c16] at H
   have c16b0 : (t205 == 4) = false := beq_eq_false_iff_ne.mpr c16
   have c16b1 : (t205 != 4) = true := bne_iff_ne.mpr c16
   have HC27 := Aside0.mk H
   clear H
   go_enter Tryz.func27, Tryz.ntmps27
   go_upto_if 24 with (first | ((with_reducible refine gate_dst (N := 2) rfl ?_); refine bx (N := 2) (cs := #[.int .i64 a0_0, .int .i64 a0_1, .string a0_2, .bool a0_3, .int .i64 a0_4]) (t := 30) ?_; intro gb198 hg w28 hbox hb; have BK198 := Aside0.mk (hbox); have GW198 := (bw hg); have GE198 := (bw hg); replace HB := (bs hb); clear hb hbox hg) | ((with_reducible refine gate_dst (N := 3) rfl ?_); refine bx (N := 3) (cs := #[.int .i64 a1_0, .int .i64 a1_1, .string a1_2, .bool a1_3, .int .i64 a1_4]) (t := 30) ?_; intro gb199 hg w29 hbox hb; have BK199 := Aside0.mk (hbox); have GW199 := (bw hg); have GE199 := (bw hg); replace HB := (bs hb); have NB198_199 := Aside0.mk ((by rw [hg]; exact Nat.ne_of_lt (blk_lt (g := gb198) (o := .cells #[.int .i64 a0_0, .int .i64 a0_1, .string a0_2, .bool a0_3, .int .i64 a0_4] 30 (0, 0)) (by (with_reducible repeat (first | refine blk_drewN ?_ _ | refine blk_drew ?_ | refine blk_alloc ?_ _)); exact BK198.out)) : gb198 ≠ gb199)); have NB199_198 := Aside0.mk ((by rw [hg]; exact Nat.ne_of_gt (blk_lt (g := gb198) (o := .cells #[.int .i64 a0_0, .int .i64 a0_1, .string a0_2, .bool a0_3, .int .i64 a0_4] 30 (0, 0)) (by (with_reducible repeat (first | refine blk_drewN ?_ _ | refine blk_drew ?_ | refine blk_alloc ?_ _)); exact BK198.out)) : gb199 ≠ gb198)); replace BK198 := (bb BK198 hb); clear hb hbox hg; have hnb30 := NB198_199.out; have hnc30 := NB199_198.out; obtain ⟨hcz31_0, hcz31_1, hcz31_2, hcz31_3, hcz31_4, hfz31_0, hfz31_1, hfz31_2, hfz31_3, hfz31_4⟩ := bc5 BK198) | (go_at_call 50; (with_reducible refine (latticeref03_Sound.calls a0_0 a0_1 a0_2 a0_3 a0_4 t200 t201 t202 t203 t204 _ A3.out).mono ?_); rintro e w32 ⟨rfl, hb⟩; replace BK198 := (bb BK198 hb); replace BK199 := (bb BK199 hb); replace HB := (bs hb); (try clear hb); obtain ⟨hcz33_0, hcz33_1, hcz33_2, hcz33_3, hcz33_4, hfz33_0, hfz33_1, hfz33_2, hfz33_3, hfz33_4⟩ := bc5 BK198; obtain ⟨hcz34_0, hcz34_1, hcz34_2, hcz34_3, hcz34_4, hfz34_0, hfz34_1, hfz34_2, hfz34_3, hfz34_4⟩ := bc5 BK199) | (go_at_call 50; (with_reducible refine (latticeref03_Sound.calls a1_0 a1_1 a1_2 a1_3 a1_4 t205 t206 t207 t208 t209 _ A4.out).mono ?_); rintro e w35 ⟨rfl, hb⟩; replace BK198 := Aside0.mk (blk_below (g := gb198) (o := .cells #[.int .i64 t200, .int .i64 t201, .string t202, .bool t203, .int .i64 t204] 30 (0, 0)) (by (with_reducible repeat (first | refine blk_drewN ?_ _ | refine blk_drew ?_ | refine blk_alloc ?_ _)); refine blk_put (cs := #[.int .i64 t200, .int .i64 t201, .string t202, .bool t203, .int .i64 a0_4]) ?_ 4 _ rfl; (with_reducible repeat (first | refine blk_drewN ?_ _ | refine blk_drew ?_ | refine blk_alloc ?_ _)); refine blk_put (cs := #[.int .i64 t200, .int .i64 t201, .string t202, .bool a0_3, .int .i64 a0_4]) ?_ 3 _ rfl; (with_reducible repeat (first | refine blk_drewN ?_ _ | refine blk_drew ?_ | refine blk_alloc ?_ _)); refine blk_put (cs := #[.int .i64 t200, .int .i64 t201, .string a0_2, .bool a0_3, .int .i64 a0_4]) ?_ 2 _ rfl; (with_reducible repeat (first | refine blk_drewN ?_ _ | refine blk_drew ?_ | refine blk_alloc ?_ _)); refine blk_put (cs := #[.int .i64 t200, .int .i64 a0_1, .string a0_2, .bool a0_3, .int .i64 a0_4]) ?_ 1 _ rfl; (with_reducible repeat (first | refine blk_drewN ?_ _ | refine blk_drew ?_ | refine blk_alloc ?_ _)); refine blk_put (cs := #[.int .i64 a0_0, .int .i64 a0_1, .string a0_2, .bool a0_3, .int .i64 a0_4]) ?_ 0 _ rfl; (with_reducible repeat (first | refine blk_drewN ?_ _ | refine blk_drew ?_ | refine blk_alloc ?_ _)); exact BK198.out) hb); replace BK199 := Aside0.mk (blk_below (g := gb199) (o := .cells #[.int .i64 a1_0, .int .i64 a1_1, .string a1_2, .bool a1_3, .int .i64 a1_4] 30 (0, 0)) (by (with_reducible repeat (first | refine blk_drewN ?_ _ | refine blk_drew ?_ | refine blk_alloc ?_ _)); refine blk_far ?_ NB199_198.out _; (with_reducible repeat (first | refine blk_drewN ?_ _ | refine blk_drew ?_ | refine blk_alloc ?_ _)); refine blk_far ?_ NB199_198.out _; (with_reducible repeat (first | refine blk_drewN ?_ _ | refine blk_drew ?_ | refine blk_alloc ?_ _)); refine blk_far ?_ NB199_198.out _; (with_reducible repeat (first | refine blk_drewN ?_ _ | refine blk_drew ?_ | refine blk_alloc ?_ _)); refine blk_far ?_ NB199_198.out _; (with_reducible repeat (first | refine blk_drewN ?_ _ | refine blk_drew ?_ | refine blk_alloc ?_ _)); refine blk_far ?_ NB199_198.out _; (with_reducible repeat (first | refine blk_drewN ?_ _ | refine blk_drew ?_ | refine blk_alloc ?_ _)); exact BK199.out) hb); replace HB := (bs hb); (try clear hb); obtain ⟨hcz36_0, hcz36_1, hcz36_2, hcz36_3, hcz36_4, hfz36_0, hfz36_1, hfz36_2, hfz36_3, hfz36_4⟩ := bc5 BK199; obtain ⟨hcz37_0, hcz37_1, hcz37_2, hcz37_3, hcz37_4, hfz37_0, hfz37_1, hfz37_2, hfz37_3, hfz37_4⟩ := bc5 BK198))
   repeat (go_quiet (first | ((with_reducible refine gate_dst (N := 2) rfl ?_); refine bx (N := 2) (cs := #[.int .i64 a0_0, .int .i64 a0_1, .string a0_2, .bool a0_3, .int .i64 a0_4]) (t := 30) ?_; intro gb198 hg w28 hbox hb; have BK198 := Aside0.mk (hbox); have GW198 := (bw hg); have GE198 := (bw hg); replace HB := (bs hb); clear hb hbox hg) | ((with_reducible refine gate_dst (N := 3) rfl ?_); refine bx (N := 3) (cs := #[.int .i64 a1_0, .int .i64 a1_1, .string a1_2, .bool a1_3, .int .i64 a1_4]) (t := 30) ?_; intro gb199 hg w29 hbox hb; have BK199 := Aside0.mk (hbox); have GW199 := (bw hg); have GE199 := (bw hg); replace HB := (bs hb); have NB198_199 := Aside0.mk ((by rw [hg]; exact Nat.ne_of_lt (blk_lt (g := gb198) (o := .cells #[.int .i64 a0_0, .int .i64 a0_1, .string a0_2, .bool a0_3, .int .i64 a0_4] 30 (0, 0)) (by (with_reducible repeat (first | refine blk_drewN ?_ _ | refine blk_drew ?_ | refine blk_alloc ?_ _)); exact BK198.out)) : gb198 ≠ gb199)); have NB199_198 := Aside0.mk ((by rw [hg]; exact Nat.ne_of_gt (blk_lt (g := gb198) (o := .cells #[.int .i64 a0_0, .int .i64 a0_1, .string a0_2, .bool a0_3, .int .i64 a0_4] 30 (0, 0)) (by (with_reducible repeat (first | refine blk_drewN ?_ _ | refine blk_drew ?_ | refine blk_alloc ?_ _)); exact BK198.out)) : gb199 ≠ gb198)); replace BK198 := (bb BK198 hb); clear hb hbox hg; have hnb30 := NB198_199.out; have hnc30 := NB199_198.out; obtain ⟨hcz31_0, hcz31_1, hcz31_2, hcz31_3, hcz31_4, hfz31_0, hfz31_1, hfz31_2, hfz31_3, hfz31_4⟩ := bc5 BK198) | (go_at_call 50; (with_reducible refine (latticeref03_Sound.calls a0_0 a0_1 a0_2 a0_3 a0_4 t200 t201 t202 t203 t204 _ A3.out).mono ?_); rintro e w32 ⟨rfl, hb⟩; replace BK198 := (bb BK198 hb); replace BK199 := (bb BK199 hb); replace HB := (bs hb); (try clear hb); obtain ⟨hcz33_0, hcz33_1, hcz33_2, hcz33_3, hcz33_4, hfz33_0, hfz33_1, hfz33_2, hfz33_3, hfz33_4⟩ := bc5 BK198; obtain ⟨hcz34_0, hcz34_1, hcz34_2, hcz34_3, hcz34_4, hfz34_0, hfz34_1, hfz34_2, hfz34_3, hfz34_4⟩ := bc5 BK199) | (go_at_call 50; (with_reducible refine (latticeref03_Sound.calls a1_0 a1_1 a1_2 a1_3 a1_4 t205 t206 t207 t208 t209 _ A4.out).mono ?_); rintro e w35 ⟨rfl, hb⟩; replace BK198 := Aside0.mk (blk_below (g := gb198) (o := .cells #[.int .i64 t200, .int .i64 t201, .string t202, .bool t203, .int .i64 t204] 30 (0, 0)) (by (with_reducible repeat (first | refine blk_drewN ?_ _ | refine blk_drew ?_ | refine blk_alloc ?_ _)); refine blk_put (cs := #[.int .i64 t200, .int .i64 t201, .string t202, .bool t203, .int .i64 a0_4]) ?_ 4 _ rfl; (with_reducible repeat (first | refine blk_drewN ?_ _ | refine blk_drew ?_ | refine blk_alloc ?_ _)); refine blk_put (cs := #[.int .i64 t200, .int .i64 t201, .string t202, .bool a0_3, .int .i64 a0_4]) ?_ 3 _ rfl; (with_reducible repeat (first | refine blk_drewN ?_ _ | refine blk_drew ?_ | refine blk_alloc ?_ _)); refine blk_put (cs := #[.int .i64 t200, .int .i64 t201, .string a0_2, .bool a0_3, .int .i64 a0_4]) ?_ 2 _ rfl; (with_reducible repeat (first | refine blk_drewN ?_ _ | refine blk_drew ?_ | refine blk_alloc ?_ _)); refine blk_put (cs := #[.int .i64 t200, .int .i64 a0_1, .string a0_2, .bool a0_3, .int .i64 a0_4]) ?_ 1 _ rfl; (with_reducible repeat (first | refine blk_drewN ?_ _ | refine blk_drew ?_ | refine blk_alloc ?_ _)); refine blk_put (cs := #[.int .i64 a0_0, .int .i64 a0_1, .string a0_2, .bool a0_3, .int .i64 a0_4]) ?_ 0 _ rfl; (with_reducible repeat (first | refine blk_drewN ?_ _ | refine blk_drew ?_ | refine blk_alloc ?_ _)); exact BK198.out) hb); replace BK199 := Aside0.mk (blk_below (g := gb199) (o := .cells #[.int .i64 a1_0, .int .i64 a1_1, .string a1_2, .bool a1_3, .int .i64 a1_4] 30 (0, 0)) (by (with_reducible repeat (first | refine blk_drewN ?_ _ | refine blk_drew ?_ | refine blk_alloc ?_ _)); refine blk_far ?_ NB199_198.out _; (with_reducible repeat (first | refine blk_drewN ?_ _ | refine blk_drew ?_ | refine blk_alloc ?_ _)); refine blk_far ?_ NB199_198.out _; (with_reducible repeat (first | refine blk_drewN ?_ _ | refine blk_drew ?_ | refine blk_alloc ?_ _)); refine blk_far ?_ NB199_198.out _; (with_reducible repeat (first | refine blk_drewN ?_ _ | refine blk_drew ?_ | refine blk_alloc ?_ _)); refine blk_far ?_ NB199_198.out _; (with_reducible repeat (first | refine blk_drewN ?_ _ | refine blk_drew ?_ | refine blk_alloc ?_ _)); refine blk_far ?_ NB199_198.out _; (with_reducible repeat (first | refine blk_drewN ?_ _ | refine blk_drew ?_ | refine blk_alloc ?_ _)); exact BK199.out) hb); replace HB := (bs hb); (try clear hb); obtain ⟨hcz36_0, hcz36_1, hcz36_2, hcz36_3, hcz36_4, hfz36_0, hfz36_1, hfz36_2, hfz36_3, hfz36_4⟩ := bc5 BK199; obtain ⟨hcz37_0, hcz37_1, hcz37_2, hcz37_3, hcz37_4, hfz37_0, hfz37_1, hfz37_2, hfz37_3, hfz37_4⟩ := bc5 BK198)); go_upto_if 24 with (first | ((with_reducible refine gate_dst (N := 2) rfl ?_); refine bx (N := 2) (cs := #[.int .i64 a0_0, .int .i64 a0_1, .string a0_2, .bool a0_3, .int .i64 a0_4]) (t := 30) ?_; intro gb198 hg w28 hbox hb; have BK198 := Aside0.mk (hbox); have GW198 := (bw hg); have GE198 := (bw hg); replace HB := (bs hb); clear hb hbox hg) | ((with_reducible refine gate_dst (N := 3) rfl ?_); refine bx (N := 3) (cs := #[.int .i64 a1_0, .int .i64 a1_1, .string a1_2, .bool a1_3, .int .i64 a1_4]) (t := 30) ?_; intro gb199 hg w29 hbox hb; have BK199 := Aside0.mk (hbox); have GW199 := (bw hg); have GE199 := (bw hg); replace HB := (bs hb); have NB198_199 := Aside0.mk ((by rw [hg]; exact Nat.ne_of_lt (blk_lt (g := gb198) (o := .cells #[.int .i64 a0_0, .int .i64 a0_1, .string a0_2, .bool a0_3, .int .i64 a0_4] 30 (0, 0)) (by (with_reducible repeat (first | refine blk_drewN ?_ _ | refine blk_drew ?_ | refine blk_alloc ?_ _)); exact BK198.out)) : gb198 ≠ gb199)); have NB199_198 := Aside0.mk ((by rw [hg]; exact Nat.ne_of_gt (blk_lt (g := gb198) (o := .cells #[.int .i64 a0_0, .int .i64 a0_1, .string a0_2, .bool a0_3, .int .i64 a0_4] 30 (0, 0)) (by (with_reducible repeat (first | refine blk_drewN ?_ _ | refine blk_drew ?_ | refine blk_alloc ?_ _)); exact BK198.out)) : gb199 ≠ gb198)); replace BK198 := (bb BK198 hb); clear hb hbox hg; have hnb30 := NB198_199.out; have hnc30 := NB199_198.out; obtain ⟨hcz31_0, hcz31_1, hcz31_2, hcz31_3, hcz31_4, hfz31_0, hfz31_1, hfz31_2, hfz31_3, hfz31_4⟩ := bc5 BK198) | (go_at_call 50; (with_reducible refine (latticeref03_Sound.calls a0_0 a0_1 a0_2 a0_3 a0_4 t200 t201 t202 t203 t204 _ A3.out).mono ?_); rintro e w32 ⟨rfl, hb⟩; replace BK198 := (bb BK198 hb); replace BK199 := (bb BK199 hb); replace HB := (bs hb); (try clear hb); obtain ⟨hcz33_0, hcz33_1, hcz33_2, hcz33_3, hcz33_4, hfz33_0, hfz33_1, hfz33_2, hfz33_3, hfz33_4⟩ := bc5 BK198; obtain ⟨hcz34_0, hcz34_1, hcz34_2, hcz34_3, hcz34_4, hfz34_0, hfz34_1, hfz34_2, hfz34_3, hfz34_4⟩ := bc5 BK199) | (go_at_call 50; (with_reducible refine (latticeref03_Sound.calls a1_0 a1_1 a1_2 a1_3 a1_4 t205 t206 t207 t208 t209 _ A4.out).mono ?_); rintro e w35 ⟨rfl, hb⟩; replace BK198 := Aside0.mk (blk_below (g := gb198) (o := .cells #[.int .i64 t200, .int .i64 t201, .string t202, .bool t203, .int .i64 t204] 30 (0, 0)) (by (with_reducible repeat (first | refine blk_drewN ?_ _ | refine blk_drew ?_ | refine blk_alloc ?_ _)); refine blk_put (cs := #[.int .i64 t200, .int .i64 t201, .string t202, .bool t203, .int .i64 a0_4]) ?_ 4 _ rfl; (with_reducible repeat (first | refine blk_drewN ?_ _ | refine blk_drew ?_ | refine blk_alloc ?_ _)); refine blk_put (cs := #[.int .i64 t200, .int .i64 t201, .string t202, .bool a0_3, .int .i64 a0_4]) ?_ 3 _ rfl; (with_reducible repeat (first | refine blk_drewN ?_ _ | refine blk_drew ?_ | refine blk_alloc ?_ _)); refine blk_put (cs := #[.int .i64 t200, .int .i64 t201, .string a0_2, .bool a0_3, .int .i64 a0_4]) ?_ 2 _ rfl; (with_reducible repeat (first | refine blk_drewN ?_ _ | refine blk_drew ?_ | refine blk_alloc ?_ _)); refine blk_put (cs := #[.int .i64 t200, .int .i64 a0_1, .string a0_2, .bool a0_3, .int .i64 a0_4]) ?_ 1 _ rfl; (with_reducible repeat (first | refine blk_drewN ?_ _ | refine blk_drew ?_ | refine blk_alloc ?_ _)); refine blk_put (cs := #[.int .i64 a0_0, .int .i64 a0_1, .string a0_2, .bool a0_3, .int .i64 a0_4]) ?_ 0 _ rfl; (with_reducible repeat (first | refine blk_drewN ?_ _ | refine blk_drew ?_ | refine blk_alloc ?_ _)); exact BK198.out) hb); replace BK199 := Aside0.mk (blk_below (g := gb199) (o := .cells #[.int .i64 a1_0, .int .i64 a1_1, .string a1_2, .bool a1_3, .int .i64 a1_4] 30 (0, 0)) (by (with_reducible repeat (first | refine blk_drewN ?_ _ | refine blk_drew ?_ | refine blk_alloc ?_ _)); refine blk_far ?_ NB199_198.out _; (with_reducible repeat (first | refine blk_drewN ?_ _ | refine blk_drew ?_ | refine blk_alloc ?_ _)); refine blk_far ?_ NB199_198.out _; (with_reducible repeat (first | refine blk_drewN ?_ _ | refine blk_drew ?_ | refine blk_alloc ?_ _)); refine blk_far ?_ NB199_198.out _; (with_reducible repeat (first | refine blk_drewN ?_ _ | refine blk_drew ?_ | refine blk_alloc ?_ _)); refine blk_far ?_ NB199_198.out _; (with_reducible repeat (first | refine blk_drewN ?_ _ | refine blk_drew ?_ | refine blk_alloc ?_ _)); refine blk_far ?_ NB199_198.out _; (with_reducible repeat (first | refine blk_drewN ?_ _ | refine blk_drew ?_ | refine blk_alloc ?_ _)); exact BK199.out) hb); replace HB := (bs hb); (try clear hb); obtain ⟨hcz36_0, hcz36_1, hcz36_2, hcz36_3, hcz36_4, hfz36_0, hfz36_1, hfz36_2, hfz36_3, hfz36_4⟩ := bc5 BK199; obtain ⟨hcz37_0, hcz37_1, hcz37_2, hcz37_3, hcz37_4, hfz37_0, hfz37_1, hfz37_2, hfz37_3, hfz37_4⟩ := bc5 BK198)))
   (try simp only [Act.put, List.setIfInBounds_toArray, List.set_cons_zero, List.set_cons_succ])
   go_cut [] (fun wc => ∃ (kq : Nat) (x199000_26 : Int) (x199001_26 : Int) (x199002_26 : ByteArray) (x199003_26 : Bool) (x199004_26 : Int), Aside0 (latticeref03_Order.j0 kq x199000_26 x199001_26 x199002_26 x199003_26 x199004_26 t205 t206 t207 t208 t209 = some (r1, r2)) ∧ Aside0 (kq ≤ k) ∧ Aside0 (wc.heap[gb198]? = some (.cells #[.int .i64 x199000_26, .int .i64 x199001_26, .string x199002_26, .bool x199003_26, .int .i64 x199004_26] 30 (0, 0))) ∧ Aside0 (wc.heap[gb199]? = some (.cells #[.int .i64 t205, .int .i64 t206, .string t207, .bool t208, .int .i64 t209] 30 (0, 0))) ∧ Aside0 (Below w.heap.size w wc))
   case first =>
    have H := HC27.out
    clear HC27
    by_cases c38 : t200 = 0
    ·rw [if_pos c38] at H
     have c38b0 : (t200 == 0) = true := beq_iff_eq.mpr c38
     have c38b1 : (t200 != 0) = false := bne_eq_false_iff_eq.mpr c38
     clear c38
     (first | rw [c38b0] | (simp only [i64_w, i32_w]; rw [c38b0]) | rw [c38b1] | skip)
     have H' := Aside0.mk H
     clear H
     have hnb39 := NB199_198.out
     have hnc39 := NB198_199.out
     have hcz40_0 : w35.cell? ⟨gb199, 0, none⟩ = some (.int .i64 a1_0) := (blk_cell BK199.out 0).trans rfl
     have hcz40_1 : w35.cell? ⟨gb199, 1, none⟩ = some (.int .i64 a1_1) := (blk_cell BK199.out 1).trans rfl
     have hcz40_2 : w35.cell? ⟨gb199, 2, none⟩ = some (.string a1_2) := (blk_cell BK199.out 2).trans rfl
     have hcz40_3 : w35.cell? ⟨gb199, 3, none⟩ = some (.bool a1_3) := (blk_cell BK199.out 3).trans rfl
     have hcz40_4 : w35.cell? ⟨gb199, 4, none⟩ = some (.int .i64 a1_4) := (blk_cell BK199.out 4).trans rfl
     have hfz40_0 := blk_frozen BK199.out 0
     have hfz40_1 := blk_frozen BK199.out 1
     have hfz40_2 := blk_frozen BK199.out 2
     have hfz40_3 := blk_frozen BK199.out 3
     have hfz40_4 := blk_frozen BK199.out 4
     have hcz41_0 : w35.cell? ⟨gb198, 0, none⟩ = some (.int .i64 t200) := (blk_cell BK198.out 0).trans rfl
     have hcz41_1 : w35.cell? ⟨gb198, 1, none⟩ = some (.int .i64 t201) := (blk_cell BK198.out 1).trans rfl
     have hcz41_2 : w35.cell? ⟨gb198, 2, none⟩ = some (.string t202) := (blk_cell BK198.out 2).trans rfl
     have hcz41_3 : w35.cell? ⟨gb198, 3, none⟩ = some (.bool t203) := (blk_cell BK198.out 3).trans rfl
     have hcz41_4 : w35.cell? ⟨gb198, 4, none⟩ = some (.int .i64 t204) := (blk_cell BK198.out 4).trans rfl
     have hfz41_0 := blk_frozen BK198.out 0
     have hfz41_1 := blk_frozen BK198.out 1
     have hfz41_2 := blk_frozen BK198.out 2
     have hfz41_3 := blk_frozen BK198.out 3
     have hfz41_4 := blk_frozen BK198.out 4
     go_wp2
     repeat (go_quiet (fail); try go_wp2)
     go_meet
     case rel => exact ⟨_, (t205), (0), ((⟨#[]⟩ : ByteArray)), (false), (0), H', ⟨by first | omega | exact Nat.le_refl _⟩, ⟨by (with_reducible repeat (first | refine blk_drewN ?_ _ | refine blk_drew ?_ | refine blk_alloc ?_ _)); refine blk_put (cs := #[.int .i64 t205, .int .i64 0, .string (⟨#[]⟩ : ByteArray), .bool false, .int .i64 t204]) ?_ 4 _ rfl; (with_reducible repeat (first | refine blk_drewN ?_ _ | refine blk_drew ?_ | refine blk_alloc ?_ _)); refine blk_put (cs := #[.int .i64 t205, .int .i64 0, .string (⟨#[]⟩ : ByteArray), .bool t203, .int .i64 t204]) ?_ 3 _ rfl; (with_reducible repeat (first | refine blk_drewN ?_ _ | refine blk_drew ?_ | refine blk_alloc ?_ _)); refine blk_put (cs := #[.int .i64 t205, .int .i64 0, .string t202, .bool t203, .int .i64 t204]) ?_ 2 _ rfl; (with_reducible repeat (first | refine blk_drewN ?_ _ | refine blk_drew ?_ | refine blk_alloc ?_ _)); refine blk_put (cs := #[.int .i64 t205, .int .i64 t201, .string t202, .bool t203, .int .i64 t204]) ?_ 1 _ rfl; (with_reducible repeat (first | refine blk_drewN ?_ _ | refine blk_drew ?_ | refine blk_alloc ?_ _)); refine blk_put (cs := #[.int .i64 t200, .int .i64 t201, .string t202, .bool t203, .int .i64 t204]) ?_ 0 _ rfl; (with_reducible repeat (first | refine blk_drewN ?_ _ | refine blk_drew ?_ | refine blk_alloc ?_ _)); refine blk_far ?_ NB198_199.out _; (with_reducible repeat (first | refine blk_drewN ?_ _ | refine blk_drew ?_ | refine blk_alloc ?_ _)); refine blk_far ?_ NB198_199.out _; (with_reducible repeat (first | refine blk_drewN ?_ _ | refine blk_drew ?_ | refine blk_alloc ?_ _)); refine blk_far ?_ NB198_199.out _; (with_reducible repeat (first | refine blk_drewN ?_ _ | refine blk_drew ?_ | refine blk_alloc ?_ _)); refine blk_far ?_ NB198_199.out _; (with_reducible repeat (first | refine blk_drewN ?_ _ | refine blk_drew ?_ | refine blk_alloc ?_ _)); refine blk_far ?_ NB198_199.out _; (with_reducible repeat (first | refine blk_drewN ?_ _ | refine blk_drew ?_ | refine blk_alloc ?_ _)); exact BK198.out⟩, ⟨by (with_reducible repeat (first | refine blk_drewN ?_ _ | refine blk_drew ?_ | refine blk_alloc ?_ _)); refine blk_far ?_ NB199_198.out _; (with_reducible repeat (first | refine blk_drewN ?_ _ | refine blk_drew ?_ | refine blk_alloc ?_ _)); refine blk_far ?_ NB199_198.out _; (with_reducible repeat (first | refine blk_drewN ?_ _ | refine blk_drew ?_ | refine blk_alloc ?_ _)); refine blk_far ?_ NB199_198.out _; (with_reducible repeat (first | refine blk_drewN ?_ _ | refine blk_drew ?_ | refine blk_alloc ?_ _)); refine blk_far ?_ NB199_198.out _; (with_reducible repeat (first | refine blk_drewN ?_ _ | refine blk_drew ?_ | refine blk_alloc ?_ _)); refine blk_far ?_ NB199_198.out _; (with_reducible repeat (first | refine blk_drewN ?_ _ | refine blk_drew ?_ | refine blk_alloc ?_ _)); refine blk_put (cs := #[.int .i64 t205, .int .i64 t206, .string t207, .bool t208, .int .i64 a1_4]) ?_ 4 _ rfl; (with_reducible repeat (first | refine blk_drewN ?_ _ | refine blk_drew ?_ | refine blk_alloc ?_ _)); refine blk_put (cs := #[.int .i64 t205, .int .i64 t206, .string t207, .bool a1_3, .int .i64 a1_4]) ?_ 3 _ rfl; (with_reducible repeat (first | refine blk_drewN ?_ _ | refine blk_drew ?_ | refine blk_alloc ?_ _)); refine blk_put (cs := #[.int .i64 t205, .int .i64 t206, .string a1_2, .bool a1_3, .int .i64 a1_4]) ?_ 2 _ rfl; (with_reducible repeat (first | refine blk_drewN ?_ _ | refine blk_drew ?_ | refine blk_alloc ?_ _)); refine blk_put (cs := #[.int .i64 t205, .int .i64 a1_1, .string a1_2, .bool a1_3, .int .i64 a1_4]) ?_ 1 _ rfl; (with_reducible repeat (first | refine blk_drewN ?_ _ | refine blk_drew ?_ | refine blk_alloc ?_ _)); refine blk_put (cs := #[.int .i64 a1_0, .int .i64 a1_1, .string a1_2, .bool a1_3, .int .i64 a1_4]) ?_ 0 _ rfl; (with_reducible repeat (first | refine blk_drewN ?_ _ | refine blk_drew ?_ | refine blk_alloc ?_ _)); exact BK199.out⟩, ⟨by repeat (first | (with_reducible first | exact HB.out | apply below_alloc | apply pw_below_drewN | apply below_drew1 | refine below_set ?_ GE198.out | refine below_set ?_ GE199.out) | exact HB.out)⟩⟩
    ·rw [if_neg c38] at H
     have c38b0 : (t200 == 0) = false := beq_eq_false_iff_ne.mpr c38
     have c38b1 : (t200 != 0) = true := bne_iff_ne.mpr c38
     (first | rw [c38b0] | (simp only [i64_w, i32_w]; rw [c38b0]) | rw [c38b1] | skip)
     have H' := Aside0.mk H
     clear H
     go_wp2
     repeat (go_quiet (fail); try go_wp2)
     go_meet
     case rel => exact ⟨_, (t200), (t201), (t202), (t203), (t204), H', ⟨by first | omega | exact Nat.le_refl _⟩, ⟨by (with_reducible repeat (first | refine blk_drewN ?_ _ | refine blk_drew ?_ | refine blk_alloc ?_ _)); refine blk_far ?_ NB198_199.out _; (with_reducible repeat (first | refine blk_drewN ?_ _ | refine blk_drew ?_ | refine blk_alloc ?_ _)); refine blk_far ?_ NB198_199.out _; (with_reducible repeat (first | refine blk_drewN ?_ _ | refine blk_drew ?_ | refine blk_alloc ?_ _)); refine blk_far ?_ NB198_199.out _; (with_reducible repeat (first | refine blk_drewN ?_ _ | refine blk_drew ?_ | refine blk_alloc ?_ _)); refine blk_far ?_ NB198_199.out _; (with_reducible repeat (first | refine blk_drewN ?_ _ | refine blk_drew ?_ | refine blk_alloc ?_ _)); refine blk_far ?_ NB198_199.out _; (with_reducible repeat (first | refine blk_drewN ?_ _ | refine blk_drew ?_ | refine blk_alloc ?_ _)); exact BK198.out⟩, ⟨by (with_reducible repeat (first | refine blk_drewN ?_ _ | refine blk_drew ?_ | refine blk_alloc ?_ _)); refine blk_put (cs := #[.int .i64 t205, .int .i64 t206, .string t207, .bool t208, .int .i64 a1_4]) ?_ 4 _ rfl; (with_reducible repeat (first | refine blk_drewN ?_ _ | refine blk_drew ?_ | refine blk_alloc ?_ _)); refine blk_put (cs := #[.int .i64 t205, .int .i64 t206, .string t207, .bool a1_3, .int .i64 a1_4]) ?_ 3 _ rfl; (with_reducible repeat (first | refine blk_drewN ?_ _ | refine blk_drew ?_ | refine blk_alloc ?_ _)); refine blk_put (cs := #[.int .i64 t205, .int .i64 t206, .string a1_2, .bool a1_3, .int .i64 a1_4]) ?_ 2 _ rfl; (with_reducible repeat (first | refine blk_drewN ?_ _ | refine blk_drew ?_ | refine blk_alloc ?_ _)); refine blk_put (cs := #[.int .i64 t205, .int .i64 a1_1, .string a1_2, .bool a1_3, .int .i64 a1_4]) ?_ 1 _ rfl; (with_reducible repeat (first | refine blk_drewN ?_ _ | refine blk_drew ?_ | refine blk_alloc ?_ _)); refine blk_put (cs := #[.int .i64 a1_0, .int .i64 a1_1, .string a1_2, .bool a1_3, .int .i64 a1_4]) ?_ 0 _ rfl; (with_reducible repeat (first | refine blk_drewN ?_ _ | refine blk_drew ?_ | refine blk_alloc ?_ _)); exact BK199.out⟩, ⟨by repeat (first | (with_reducible first | exact HB.out | apply below_alloc | apply pw_below_drewN | apply below_drew1 | refine below_set ?_ GE198.out | refine below_set ?_ GE199.out) | exact HB.out)⟩⟩
   case rest =>
    clear HC27
    try clear c1
    try clear c2
    try clear p2
    try clear c3
    try clear c5
    try clear c5b0
    try clear c5b1
    try clear c8
    try clear c16
    try clear c16b0
    try clear c16b1
    try clear c19
    try clear c27
    try clear c30
    try clear c38
    try clear c38b0
    try clear c38b1
    try clear c39
    try clear hcz11_0
    try clear hcz11_1
    try clear hcz11_2
    try clear hcz11_3
    try clear hcz11_4
    try clear hcz12_0
    try clear hcz12_1
    try clear hcz12_2
    try clear hcz12_3
    try clear hcz12_4
    try clear hcz14_0
    try clear hcz14_1
    try clear hcz14_2
    try clear hcz14_3
    try clear hcz14_4
    try clear hcz15_0
    try clear hcz15_1
    try clear hcz15_2
    try clear hcz15_3
    try clear hcz15_4
    try clear hcz20_0
    try clear hcz20_1
    try clear hcz20_2
    try clear hcz20_3
    try clear hcz20_4
    try clear hcz22_0
    try clear hcz22_1
    try clear hcz22_2
    try clear hcz22_3
    try clear hcz22_4
    try clear hcz23_0
    try clear hcz23_1
    try clear hcz23_2
    try clear hcz23_3
    try clear hcz23_4
    try clear hcz25_0
    try clear hcz25_1
    try clear hcz25_2
    try clear hcz25_3
    try clear hcz25_4
    try clear hcz26_0
    try clear hcz26_1
    try clear hcz26_2
    try clear hcz26_3
    try clear hcz26_4
    try clear hcz31_0
    try clear hcz31_1
    try clear hcz31_2
    try clear hcz31_3
    try clear hcz31_4
    try clear hcz33_0
    try clear hcz33_1
    try clear hcz33_2
    try clear hcz33_3
    try clear hcz33_4
    try clear hcz34_0
    try clear hcz34_1
    try clear hcz34_2
    try clear hcz34_3
    try clear hcz34_4
    try clear hcz36_0
    try clear hcz36_1
    try clear hcz36_2
    try clear hcz36_3
    try clear hcz36_4
    try clear hcz37_0
    try clear hcz37_1
    try clear hcz37_2
    try clear hcz37_3
    try clear hcz37_4
    try clear hcz40_0
    try clear hcz40_1
    try clear hcz40_2
    try clear hcz40_3
    try clear hcz40_4
    try clear hcz41_0
    try clear hcz41_1
    try clear hcz41_2
    try clear hcz41_3
    try clear hcz41_4
    try clear hcz9_0
    try clear hcz9_1
    try clear hcz9_2
    try clear hcz9_3
    try clear hcz9_4
    try clear hfz11_0
    try clear hfz11_1
    try clear hfz11_2
    try clear hfz11_3
    try clear hfz11_4
    try clear hfz12_0
    try clear hfz12_1
    try clear hfz12_2
    try clear hfz12_3
    try clear hfz12_4
    try clear hfz14_0
    try clear hfz14_1
    try clear hfz14_2
    try clear hfz14_3
    try clear hfz14_4
    try clear hfz15_0
    try clear hfz15_1
    try clear hfz15_2
    try clear hfz15_3
    try clear hfz15_4
    try clear hfz20_0
    try clear hfz20_1
    try clear hfz20_2
    try clear hfz20_3
    try clear hfz20_4
    try clear hfz22_0
    try clear hfz22_1
    try clear hfz22_2
    try clear hfz22_3
    try clear hfz22_4
    try clear hfz23_0
    try clear hfz23_1
    try clear hfz23_2
    try clear hfz23_3
    try clear hfz23_4
    try clear hfz25_0
    try clear hfz25_1
    try clear hfz25_2
    try clear hfz25_3
    try clear hfz25_4
    try clear hfz26_0
    try clear hfz26_1
    try clear hfz26_2
    try clear hfz26_3
    try clear hfz26_4
    try clear hfz31_0
    try clear hfz31_1
    try clear hfz31_2
    try clear hfz31_3
    try clear hfz31_4
    try clear hfz33_0
    try clear hfz33_1
    try clear hfz33_2
    try clear hfz33_3
    try clear hfz33_4
    try clear hfz34_0
    try clear hfz34_1
    try clear hfz34_2
    try clear hfz34_3
    try clear hfz34_4
    try clear hfz36_0
    try clear hfz36_1
    try clear hfz36_2
    try clear hfz36_3
    try clear hfz36_4
    try clear hfz37_0
    try clear hfz37_1
    try clear hfz37_2
    try clear hfz37_3
    try clear hfz37_4
    try clear hfz40_0
    try clear hfz40_1
    try clear hfz40_2
    try clear hfz40_3
    try clear hfz40_4
    try clear hfz41_0
    try clear hfz41_1
    try clear hfz41_2
    try clear hfz41_3
    try clear hfz41_4
    try clear hfz9_0
    try clear hfz9_1
    try clear hfz9_2
    try clear hfz9_3
    try clear hfz9_4
    obtain ⟨kq, x199000_26, x199001_26, x199002_26, x199003_26, x199004_26, HA, HJ26, BK198, BK199, HB⟩ := hcut
    cases kq with
    | zero => exact absurd HA.out (by simp [latticeref03_Order.j0])
    | succ kj26 =>
     have H := HA.out
     clear HA
     simp only [latticeref03_Order.j0] at H
     have HC42 := Aside0.mk H
     clear H
     have hnb43 := NB199_198.out
     have hnc43 := NB198_199.out
     have hcz44_0 : wc.cell? ⟨gb199, 0, none⟩ = some (.int .i64 t205) := (blk_cell BK199.out 0).trans rfl
     have hcz44_1 : wc.cell? ⟨gb199, 1, none⟩ = some (.int .i64 t206) := (blk_cell BK199.out 1).trans rfl
     have hcz44_2 : wc.cell? ⟨gb199, 2, none⟩ = some (.string t207) := (blk_cell BK199.out 2).trans rfl
     have hcz44_3 : wc.cell? ⟨gb199, 3, none⟩ = some (.bool t208) := (blk_cell BK199.out 3).trans rfl
     have hcz44_4 : wc.cell? ⟨gb199, 4, none⟩ = some (.int .i64 t209) := (blk_cell BK199.out 4).trans rfl
     have hfz44_0 := blk_frozen BK199.out 0
     have hfz44_1 := blk_frozen BK199.out 1
     have hfz44_2 := blk_frozen BK199.out 2
     have hfz44_3 := blk_frozen BK199.out 3
     have hfz44_4 := blk_frozen BK199.out 4
     go_upto_if 30 with (fail)
     repeat (go_quiet (fail); go_upto_if 30 with (fail))
     go_cut [] (fun wc => ∃ (kq : Nat) (x200000_41 : Int) (x200001_41 : Int) (x200002_41 : ByteArray) (x200003_41 : Bool) (x200004_41 : Int), Aside0 (latticeref03_Order.j1 kq x199000_26 x199001_26 x199002_26 x199003_26 x199004_26 x200000_41 x200001_41 x200002_41 x200003_41 x200004_41 = some (r1, r2)) ∧ Aside0 (kq ≤ kj26) ∧ Aside0 (wc.heap[gb198]? = some (.cells #[.int .i64 x199000_26, .int .i64 x199001_26, .string x199002_26, .bool x199003_26, .int .i64 x199004_26] 30 (0, 0))) ∧ Aside0 (wc.heap[gb199]? = some (.cells #[.int .i64 x200000_41, .int .i64 x200001_41, .string x200002_41, .bool x200003_41, .int .i64 x200004_41] 30 (0, 0))) ∧ Aside0 (Below w.heap.size w wc))
     case first =>
      have H := HC42.out
      clear HC42
      by_cases c45 : t205 = 0
      ·rw [if_pos c45] at H
       have c45b0 : (t205 == 0) = true := beq_iff_eq.mpr c45
       have c45b1 : (t205 != 0) = false := bne_eq_false_iff_eq.mpr c45
       clear c45
       (first | rw [c45b0] | (simp only [i64_w, i32_w]; rw [c45b0]) | rw [c45b1] | skip)
       have H' := Aside0.mk H
       clear H
       have hnb46 := NB198_199.out
       have hnc46 := NB199_198.out
       have hcz47_0 : wc.cell? ⟨gb198, 0, none⟩ = some (.int .i64 x199000_26) := (blk_cell BK198.out 0).trans rfl
       have hcz47_1 : wc.cell? ⟨gb198, 1, none⟩ = some (.int .i64 x199001_26) := (blk_cell BK198.out 1).trans rfl
       have hcz47_2 : wc.cell? ⟨gb198, 2, none⟩ = some (.string x199002_26) := (blk_cell BK198.out 2).trans rfl
       have hcz47_3 : wc.cell? ⟨gb198, 3, none⟩ = some (.bool x199003_26) := (blk_cell BK198.out 3).trans rfl
       have hcz47_4 : wc.cell? ⟨gb198, 4, none⟩ = some (.int .i64 x199004_26) := (blk_cell BK198.out 4).trans rfl
       have hfz47_0 := blk_frozen BK198.out 0
       have hfz47_1 := blk_frozen BK198.out 1
       have hfz47_2 := blk_frozen BK198.out 2
       have hfz47_3 := blk_frozen BK198.out 3
       have hfz47_4 := blk_frozen BK198.out 4
       have hcz48_0 : wc.cell? ⟨gb199, 0, none⟩ = some (.int .i64 t205) := (blk_cell BK199.out 0).trans rfl
       have hcz48_1 : wc.cell? ⟨gb199, 1, none⟩ = some (.int .i64 t206) := (blk_cell BK199.out 1).trans rfl
       have hcz48_2 : wc.cell? ⟨gb199, 2, none⟩ = some (.string t207) := (blk_cell BK199.out 2).trans rfl
       have hcz48_3 : wc.cell? ⟨gb199, 3, none⟩ = some (.bool t208) := (blk_cell BK199.out 3).trans rfl
       have hcz48_4 : wc.cell? ⟨gb199, 4, none⟩ = some (.int .i64 t209) := (blk_cell BK199.out 4).trans rfl
       have hfz48_0 := blk_frozen BK199.out 0
       have hfz48_1 := blk_frozen BK199.out 1
       have hfz48_2 := blk_frozen BK199.out 2
       have hfz48_3 := blk_frozen BK199.out 3
       have hfz48_4 := blk_frozen BK199.out 4
       go_wp2
       repeat (go_quiet (fail); try go_wp2)
       go_meet
       case rel => exact ⟨_, (x199000_26), (0), ((⟨#[]⟩ : ByteArray)), (false), (0), H', ⟨by have := HJ26.out; first | omega | exact Nat.le_refl _⟩, ⟨by (with_reducible repeat (first | refine blk_drewN ?_ _ | refine blk_drew ?_ | refine blk_alloc ?_ _)); refine blk_far ?_ NB198_199.out _; (with_reducible repeat (first | refine blk_drewN ?_ _ | refine blk_drew ?_ | refine blk_alloc ?_ _)); refine blk_far ?_ NB198_199.out _; (with_reducible repeat (first | refine blk_drewN ?_ _ | refine blk_drew ?_ | refine blk_alloc ?_ _)); refine blk_far ?_ NB198_199.out _; (with_reducible repeat (first | refine blk_drewN ?_ _ | refine blk_drew ?_ | refine blk_alloc ?_ _)); refine blk_far ?_ NB198_199.out _; (with_reducible repeat (first | refine blk_drewN ?_ _ | refine blk_drew ?_ | refine blk_alloc ?_ _)); refine blk_far ?_ NB198_199.out _; (with_reducible repeat (first | refine blk_drewN ?_ _ | refine blk_drew ?_ | refine blk_alloc ?_ _)); exact BK198.out⟩, ⟨by (with_reducible repeat (first | refine blk_drewN ?_ _ | refine blk_drew ?_ | refine blk_alloc ?_ _)); refine blk_put (cs := #[.int .i64 x199000_26, .int .i64 0, .string (⟨#[]⟩ : ByteArray), .bool false, .int .i64 t209]) ?_ 4 _ rfl; (with_reducible repeat (first | refine blk_drewN ?_ _ | refine blk_drew ?_ | refine blk_alloc ?_ _)); refine blk_put (cs := #[.int .i64 x199000_26, .int .i64 0, .string (⟨#[]⟩ : ByteArray), .bool t208, .int .i64 t209]) ?_ 3 _ rfl; (with_reducible repeat (first | refine blk_drewN ?_ _ | refine blk_drew ?_ | refine blk_alloc ?_ _)); refine blk_put (cs := #[.int .i64 x199000_26, .int .i64 0, .string t207, .bool t208, .int .i64 t209]) ?_ 2 _ rfl; (with_reducible repeat (first | refine blk_drewN ?_ _ | refine blk_drew ?_ | refine blk_alloc ?_ _)); refine blk_put (cs := #[.int .i64 x199000_26, .int .i64 t206, .string t207, .bool t208, .int .i64 t209]) ?_ 1 _ rfl; (with_reducible repeat (first | refine blk_drewN ?_ _ | refine blk_drew ?_ | refine blk_alloc ?_ _)); refine blk_put (cs := #[.int .i64 t205, .int .i64 t206, .string t207, .bool t208, .int .i64 t209]) ?_ 0 _ rfl; (with_reducible repeat (first | refine blk_drewN ?_ _ | refine blk_drew ?_ | refine blk_alloc ?_ _)); exact BK199.out⟩, ⟨by repeat (first | (with_reducible first | exact HB.out | apply below_alloc | apply pw_below_drewN | apply below_drew1 | refine below_set ?_ GE198.out | refine below_set ?_ GE199.out) | exact HB.out)⟩⟩
      ·rw [if_neg c45] at H
       have c45b0 : (t205 == 0) = false := beq_eq_false_iff_ne.mpr c45
       have c45b1 : (t205 != 0) = true := bne_iff_ne.mpr c45
       (first | rw [c45b0] | (simp only [i64_w, i32_w]; rw [c45b0]) | rw [c45b1] | skip)
       have H' := Aside0.mk H
       clear H
       go_wp2
       repeat (go_quiet (fail); try go_wp2)
       go_meet
       case rel => exact ⟨_, (t205), (t206), (t207), (t208), (t209), H', ⟨by have := HJ26.out; first | omega | exact Nat.le_refl _⟩, ⟨by (with_reducible repeat (first | refine blk_drewN ?_ _ | refine blk_drew ?_ | refine blk_alloc ?_ _)); exact BK198.out⟩, ⟨by (with_reducible repeat (first | refine blk_drewN ?_ _ | refine blk_drew ?_ | refine blk_alloc ?_ _)); exact BK199.out⟩, ⟨by repeat (first | (with_reducible first | exact HB.out | apply below_alloc | apply pw_below_drewN | apply below_drew1 | refine below_set ?_ GE198.out | refine below_set ?_ GE199.out) | exact HB.out)⟩⟩
     case rest =>
      clear HC42
      try clear c1
      try clear c2
      try clear p2
      try clear c3
      try clear c4
      try clear c5
      try clear c5b0
      try clear c5b1
      try clear c8
      try clear c16
      try clear c16b0
      try clear c16b1
      try clear c19
      try clear c27
      try clear c30
      try clear c38
      try clear c38b0
      try clear c38b1
      try clear c39
      try clear c43
      try clear c45
      try clear c45b0
      try clear c45b1
      try clear c46
      try clear hcz11_0
      try clear hcz11_1
      try clear hcz11_2
      try clear hcz11_3
      try clear hcz11_4
      try clear hcz12_0
      try clear hcz12_1
      try clear hcz12_2
      try clear hcz12_3
      try clear hcz12_4
      try clear hcz14_0
      try clear hcz14_1
      try clear hcz14_2
      try clear hcz14_3
      try clear hcz14_4
      try clear hcz15_0
      try clear hcz15_1
      try clear hcz15_2
      try clear hcz15_3
      try clear hcz15_4
      try clear hcz20_0
      try clear hcz20_1
      try clear hcz20_2
      try clear hcz20_3
      try clear hcz20_4
      try clear hcz22_0
      try clear hcz22_1
      try clear hcz22_2
      try clear hcz22_3
      try clear hcz22_4
      try clear hcz23_0
      try clear hcz23_1
      try clear hcz23_2
      try clear hcz23_3
      try clear hcz23_4
      try clear hcz25_0
      try clear hcz25_1
      try clear hcz25_2
      try clear hcz25_3
      try clear hcz25_4
      try clear hcz26_0
      try clear hcz26_1
      try clear hcz26_2
      try clear hcz26_3
      try clear hcz26_4
      try clear hcz31_0
      try clear hcz31_1
      try clear hcz31_2
      try clear hcz31_3
      try clear hcz31_4
      try clear hcz33_0
      try clear hcz33_1
      try clear hcz33_2
      try clear hcz33_3
      try clear hcz33_4
      try clear hcz34_0
      try clear hcz34_1
      try clear hcz34_2
      try clear hcz34_3
      try clear hcz34_4
      try clear hcz36_0
      try clear hcz36_1
      try clear hcz36_2
      try clear hcz36_3
      try clear hcz36_4
      try clear hcz37_0
      try clear hcz37_1
      try clear hcz37_2
      try clear hcz37_3
      try clear hcz37_4
      try clear hcz40_0
      try clear hcz40_1
      try clear hcz40_2
      try clear hcz40_3
      try clear hcz40_4
      try clear hcz41_0
      try clear hcz41_1
      try clear hcz41_2
      try clear hcz41_3
      try clear hcz41_4
      try clear hcz44_0
      try clear hcz44_1
      try clear hcz44_2
      try clear hcz44_3
      try clear hcz44_4
      try clear hcz47_0
      try clear hcz47_1
      try clear hcz47_2
      try clear hcz47_3
      try clear hcz47_4
      try clear hcz48_0
      try clear hcz48_1
      try clear hcz48_2
      try clear hcz48_3
      try clear hcz48_4
      try clear hcz9_0
      try clear hcz9_1
      try clear hcz9_2
      try clear hcz9_3
      try clear hcz9_4
      try clear hfz11_0
      try clear hfz11_1
      try clear hfz11_2
      try clear hfz11_3
      try clear hfz11_4
      try clear hfz12_0
      try clear hfz12_1
      try clear hfz12_2
      try clear hfz12_3
      try clear hfz12_4
      try clear hfz14_0
      try clear hfz14_1
      try clear hfz14_2
      try clear hfz14_3
      try clear hfz14_4
      try clear hfz15_0
      try clear hfz15_1
      try clear hfz15_2
      try clear hfz15_3
      try clear hfz15_4
      try clear hfz20_0
      try clear hfz20_1
      try clear hfz20_2
      try clear hfz20_3
      try clear hfz20_4
      try clear hfz22_0
      try clear hfz22_1
      try clear hfz22_2
      try clear hfz22_3
      try clear hfz22_4
      try clear hfz23_0
      try clear hfz23_1
      try clear hfz23_2
      try clear hfz23_3
      try clear hfz23_4
      try clear hfz25_0
      try clear hfz25_1
      try clear hfz25_2
      try clear hfz25_3
      try clear hfz25_4
      try clear hfz26_0
      try clear hfz26_1
      try clear hfz26_2
      try clear hfz26_3
      try clear hfz26_4
      try clear hfz31_0
      try clear hfz31_1
      try clear hfz31_2
      try clear hfz31_3
      try clear hfz31_4
      try clear hfz33_0
      try clear hfz33_1
      try clear hfz33_2
      try clear hfz33_3
      try clear hfz33_4
      try clear hfz34_0
      try clear hfz34_1
      try clear hfz34_2
      try clear hfz34_3
      try clear hfz34_4
      try clear hfz36_0
      try clear hfz36_1
      try clear hfz36_2
      try clear hfz36_3
      try clear hfz36_4
      try clear hfz37_0
      try clear hfz37_1
      try clear hfz37_2
      try clear hfz37_3
      try clear hfz37_4
      try clear hfz40_0
      try clear hfz40_1
      try clear hfz40_2
      try clear hfz40_3
      try clear hfz40_4
      try clear hfz41_0
      try clear hfz41_1
      try clear hfz41_2
      try clear hfz41_3
      try clear hfz41_4
      try clear hfz44_0
      try clear hfz44_1
      try clear hfz44_2
      try clear hfz44_3
      try clear hfz44_4
      try clear hfz47_0
      try clear hfz47_1
      try clear hfz47_2
      try clear hfz47_3
      try clear hfz47_4
      try clear hfz48_0
      try clear hfz48_1
      try clear hfz48_2
      try clear hfz48_3
      try clear hfz48_4
      try clear hfz9_0
      try clear hfz9_1
      try clear hfz9_2
      try clear hfz9_3
      try clear hfz9_4
      try clear p2
      obtain ⟨kq, x200000_41, x200001_41, x200002_41, x200003_41, x200004_41, HA, HJ41, BK198, BK199, HB⟩ := hcut
      cases kq with
      | zero => exact absurd HA.out (by simp [latticeref03_Order.j1])
      | succ kj41 =>
       have H := HA.out
       clear HA
       simp only [latticeref03_Order.j1] at H
       by_cases c49 : x199000_26 = x200000_41
       ·rw [if_pos c49] at H
        have c49b0 : (x199000_26 == x200000_41) = true := beq_iff_eq.mpr c49
        have c49b1 : (x199000_26 != x200000_41) = false := bne_eq_false_iff_eq.mpr c49
        clear c49
        by_cases c50 : x199000_26 = 1
        ·rw [if_pos c50] at H
         have c50b0 : (x199000_26 == 1) = true := beq_iff_eq.mpr c50
         have c50b1 : (x199000_26 != 1) = false := bne_eq_false_iff_eq.mpr c50
         clear c50
         replace H := Option.bind_eq_some_iff.mp H
         obtain ⟨t211, A510, H⟩ := H
         replace H : (some (t211, 0)) = some (r1, r2) := H
         have A51 := Aside0.mk A510
         clear A510
         simp only [Option.some.injEq, Prod.mk.injEq] at H
         obtain ⟨rfl, rfl⟩ := H
         have hnb52 := NB198_199.out
         have hnc52 := NB199_198.out
         have hcz53_0 : wc.cell? ⟨gb198, 0, none⟩ = some (.int .i64 x199000_26) := (blk_cell BK198.out 0).trans rfl
         have hcz53_1 : wc.cell? ⟨gb198, 1, none⟩ = some (.int .i64 x199001_26) := (blk_cell BK198.out 1).trans rfl
         have hcz53_2 : wc.cell? ⟨gb198, 2, none⟩ = some (.string x199002_26) := (blk_cell BK198.out 2).trans rfl
         have hcz53_3 : wc.cell? ⟨gb198, 3, none⟩ = some (.bool x199003_26) := (blk_cell BK198.out 3).trans rfl
         have hcz53_4 : wc.cell? ⟨gb198, 4, none⟩ = some (.int .i64 x199004_26) := (blk_cell BK198.out 4).trans rfl
         have hfz53_0 := blk_frozen BK198.out 0
         have hfz53_1 := blk_frozen BK198.out 1
         have hfz53_2 := blk_frozen BK198.out 2
         have hfz53_3 := blk_frozen BK198.out 3
         have hfz53_4 := blk_frozen BK198.out 4
         have hcz54_0 : wc.cell? ⟨gb199, 0, none⟩ = some (.int .i64 x200000_41) := (blk_cell BK199.out 0).trans rfl
         have hcz54_1 : wc.cell? ⟨gb199, 1, none⟩ = some (.int .i64 x200001_41) := (blk_cell BK199.out 1).trans rfl
         have hcz54_2 : wc.cell? ⟨gb199, 2, none⟩ = some (.string x200002_41) := (blk_cell BK199.out 2).trans rfl
         have hcz54_3 : wc.cell? ⟨gb199, 3, none⟩ = some (.bool x200003_41) := (blk_cell BK199.out 3).trans rfl
         have hcz54_4 : wc.cell? ⟨gb199, 4, none⟩ = some (.int .i64 x200004_41) := (blk_cell BK199.out 4).trans rfl
         have hfz54_0 := blk_frozen BK199.out 0
         have hfz54_1 := blk_frozen BK199.out 1
         have hfz54_2 := blk_frozen BK199.out 2
         have hfz54_3 := blk_frozen BK199.out 3
         have hfz54_4 := blk_frozen BK199.out 4
         go_wp2_with (first | (go_at_call 51; (with_reducible refine (latticeref03_numbers.calls x199001_26 x200001_41 t211 _ A51.out).mono ?_); rintro e w' ⟨rfl, ⟨nd, rfl⟩⟩; (try first | exact ⟨rfl, _, World.drewN_drewN _ _ _⟩ | exact ⟨rfl, _, Eq.trans (World.drewN_drewN _ _ _) (congrArg (World.drewN _) (Nat.add_assoc _ _ _))⟩)))
         repeat (go_quiet (first | (go_at_call 51; (with_reducible refine (latticeref03_numbers.calls x199001_26 x200001_41 t211 _ A51.out).mono ?_); rintro e w' ⟨rfl, ⟨nd, rfl⟩⟩; (try first | exact ⟨rfl, _, World.drewN_drewN _ _ _⟩ | exact ⟨rfl, _, Eq.trans (World.drewN_drewN _ _ _) (congrArg (World.drewN _) (Nat.add_assoc _ _ _))⟩))); try go_wp2_with (first | (go_at_call 51; (with_reducible refine (latticeref03_numbers.calls x199001_26 x200001_41 t211 _ A51.out).mono ?_); rintro e w' ⟨rfl, ⟨nd, rfl⟩⟩; (try first | exact ⟨rfl, _, World.drewN_drewN _ _ _⟩ | exact ⟨rfl, _, Eq.trans (World.drewN_drewN _ _ _) (congrArg (World.drewN _) (Nat.add_assoc _ _ _))⟩))))
         go_ret2
         exact ⟨by first | rfl | (simp [errW_none, errW_some] <;> rfl) | (simp [*, errW_none, errW_some] <;> rfl), be⟩
        ·rw [if_neg c50] at H
         have c50b0 : (x199000_26 == 1) = false := beq_eq_false_iff_ne.mpr c50
         have c50b1 : (x199000_26 != 1) = true := bne_iff_ne.mpr c50
         by_cases c55 : x199000_26 = 2
         ·rw [if_pos c55] at H
          have c55b0 : (x199000_26 == 2) = true := beq_iff_eq.mpr c55
          have c55b1 : (x199000_26 != 2) = false := bne_eq_false_iff_eq.mpr c55
          clear c55
          replace H := Option.bind_eq_some_iff.mp H
          obtain ⟨t212, A560, H⟩ := H
          replace H : ((latticeref03_Lower.f x200002_41).bind fun t213 => ((latticeref03_texts.f kj41 t212 t213).bind fun t214 => (some (t214, 0)))) = some (r1, r2) := H
          have A56 := Aside0.mk A560
          clear A560
          replace H := Option.bind_eq_some_iff.mp H
          obtain ⟨t213, A570, H⟩ := H
          replace H : ((latticeref03_texts.f kj41 t212 t213).bind fun t214 => (some (t214, 0))) = some (r1, r2) := H
          have A57 := Aside0.mk A570
          clear A570
          replace H := Option.bind_eq_some_iff.mp H
          obtain ⟨t214, A580, H⟩ := H
          replace H : (some (t214, 0)) = some (r1, r2) := H
          have A58 := Aside0.mk A580
          clear A580
          simp only [Option.some.injEq, Prod.mk.injEq] at H
          obtain ⟨rfl, rfl⟩ := H
          have hnb59 := NB198_199.out
          have hnc59 := NB199_198.out
          have hcz60_0 : wc.cell? ⟨gb198, 0, none⟩ = some (.int .i64 x199000_26) := (blk_cell BK198.out 0).trans rfl
          have hcz60_1 : wc.cell? ⟨gb198, 1, none⟩ = some (.int .i64 x199001_26) := (blk_cell BK198.out 1).trans rfl
          have hcz60_2 : wc.cell? ⟨gb198, 2, none⟩ = some (.string x199002_26) := (blk_cell BK198.out 2).trans rfl
          have hcz60_3 : wc.cell? ⟨gb198, 3, none⟩ = some (.bool x199003_26) := (blk_cell BK198.out 3).trans rfl
          have hcz60_4 : wc.cell? ⟨gb198, 4, none⟩ = some (.int .i64 x199004_26) := (blk_cell BK198.out 4).trans rfl
          have hfz60_0 := blk_frozen BK198.out 0
          have hfz60_1 := blk_frozen BK198.out 1
          have hfz60_2 := blk_frozen BK198.out 2
          have hfz60_3 := blk_frozen BK198.out 3
          have hfz60_4 := blk_frozen BK198.out 4
          have hcz61_0 : wc.cell? ⟨gb199, 0, none⟩ = some (.int .i64 x200000_41) := (blk_cell BK199.out 0).trans rfl
          have hcz61_1 : wc.cell? ⟨gb199, 1, none⟩ = some (.int .i64 x200001_41) := (blk_cell BK199.out 1).trans rfl
          have hcz61_2 : wc.cell? ⟨gb199, 2, none⟩ = some (.string x200002_41) := (blk_cell BK199.out 2).trans rfl
          have hcz61_3 : wc.cell? ⟨gb199, 3, none⟩ = some (.bool x200003_41) := (blk_cell BK199.out 3).trans rfl
          have hcz61_4 : wc.cell? ⟨gb199, 4, none⟩ = some (.int .i64 x200004_41) := (blk_cell BK199.out 4).trans rfl
          have hfz61_0 := blk_frozen BK199.out 0
          have hfz61_1 := blk_frozen BK199.out 1
          have hfz61_2 := blk_frozen BK199.out 2
          have hfz61_3 := blk_frozen BK199.out 3
          have hfz61_4 := blk_frozen BK199.out 4
          go_wp2_with (first | (go_at_call 52; (with_reducible refine (latticeref03_Lower.calls x199002_26 t212 _ A56.out).mono ?_); rintro e w62 ⟨rfl, hb⟩; replace BK198 := (bb BK198 hb); replace BK199 := (bb BK199 hb); replace HB := (bs hb); (try clear hb); obtain ⟨hcz63_0, hcz63_1, hcz63_2, hcz63_3, hcz63_4, hfz63_0, hfz63_1, hfz63_2, hfz63_3, hfz63_4⟩ := bc5 BK199) | (go_at_call 52; (with_reducible refine (latticeref03_Lower.calls x200002_41 t213 _ A57.out).mono ?_); rintro e w64 ⟨rfl, hb⟩; replace BK198 := (bb BK198 hb); replace BK199 := (bb BK199 hb); replace HB := (bs hb); (try clear hb)) | (go_at_call 53; (with_reducible refine (latticeref03_texts.calls kj41 t212 t213 t214 _ A58.out).mono ?_); rintro e w' ⟨rfl, ⟨nd, rfl⟩⟩; (try first | exact ⟨rfl, _, World.drewN_drewN _ _ _⟩ | exact ⟨rfl, _, Eq.trans (World.drewN_drewN _ _ _) (congrArg (World.drewN _) (Nat.add_assoc _ _ _))⟩)))
          repeat (go_quiet (first | (go_at_call 52; (with_reducible refine (latticeref03_Lower.calls x199002_26 t212 _ A56.out).mono ?_); rintro e w62 ⟨rfl, hb⟩; replace BK198 := (bb BK198 hb); replace BK199 := (bb BK199 hb); replace HB := (bs hb); (try clear hb); obtain ⟨hcz63_0, hcz63_1, hcz63_2, hcz63_3, hcz63_4, hfz63_0, hfz63_1, hfz63_2, hfz63_3, hfz63_4⟩ := bc5 BK199) | (go_at_call 52; (with_reducible refine (latticeref03_Lower.calls x200002_41 t213 _ A57.out).mono ?_); rintro e w64 ⟨rfl, hb⟩; replace BK198 := (bb BK198 hb); replace BK199 := (bb BK199 hb); replace HB := (bs hb); (try clear hb)) | (go_at_call 53; (with_reducible refine (latticeref03_texts.calls kj41 t212 t213 t214 _ A58.out).mono ?_); rintro e w' ⟨rfl, ⟨nd, rfl⟩⟩; (try first | exact ⟨rfl, _, World.drewN_drewN _ _ _⟩ | exact ⟨rfl, _, Eq.trans (World.drewN_drewN _ _ _) (congrArg (World.drewN _) (Nat.add_assoc _ _ _))⟩))); try go_wp2_with (first | (go_at_call 52; (with_reducible refine (latticeref03_Lower.calls x199002_26 t212 _ A56.out).mono ?_); rintro e w62 ⟨rfl, hb⟩; replace BK198 := (bb BK198 hb); replace BK199 := (bb BK199 hb); replace HB := (bs hb); (try clear hb); obtain ⟨hcz63_0, hcz63_1, hcz63_2, hcz63_3, hcz63_4, hfz63_0, hfz63_1, hfz63_2, hfz63_3, hfz63_4⟩ := bc5 BK199) | (go_at_call 52; (with_reducible refine (latticeref03_Lower.calls x200002_41 t213 _ A57.out).mono ?_); rintro e w64 ⟨rfl, hb⟩; replace BK198 := (bb BK198 hb); replace BK199 := (bb BK199 hb); replace HB := (bs hb); (try clear hb)) | (go_at_call 53; (with_reducible refine (latticeref03_texts.calls kj41 t212 t213 t214 _ A58.out).mono ?_); rintro e w' ⟨rfl, ⟨nd, rfl⟩⟩; (try first | exact ⟨rfl, _, World.drewN_drewN _ _ _⟩ | exact ⟨rfl, _, Eq.trans (World.drewN_drewN _ _ _) (congrArg (World.drewN _) (Nat.add_assoc _ _ _))⟩))))
          go_ret2
          exact ⟨by first | rfl | (simp [errW_none, errW_some] <;> rfl) | (simp [*, errW_none, errW_some] <;> rfl), be⟩
         ·rw [if_neg c55] at H
          have c55b0 : (x199000_26 == 2) = false := beq_eq_false_iff_ne.mpr c55
          have c55b1 : (x199000_26 != 2) = true := bne_iff_ne.mpr c55
          by_cases c65 : x199000_26 = 3
          ·rw [if_pos c65] at H
           have c65b0 : (x199000_26 == 3) = true := beq_iff_eq.mpr c65
           have c65b1 : (x199000_26 != 3) = false := bne_eq_false_iff_eq.mpr c65
           clear c65
           by_cases c66 : (x199003_26 == x200003_41) = true
           ·rw [if_pos c66] at H
            have c66b0 : (x199003_26 == x200003_41) = true := c66
            (try (have c66b1 : decide (x199003_26 = x200003_41) = true := by simpa using c66))
            (try (have c66b2 : (x199003_26 == x200003_41) = true := by simpa using c66))
            clear c66
            simp only [Option.some.injEq, Prod.mk.injEq] at H
            obtain ⟨rfl, rfl⟩ := H
            have hnb67 := NB198_199.out
            have hnc67 := NB199_198.out
            have hcz68_0 : wc.cell? ⟨gb198, 0, none⟩ = some (.int .i64 x199000_26) := (blk_cell BK198.out 0).trans rfl
            have hcz68_1 : wc.cell? ⟨gb198, 1, none⟩ = some (.int .i64 x199001_26) := (blk_cell BK198.out 1).trans rfl
            have hcz68_2 : wc.cell? ⟨gb198, 2, none⟩ = some (.string x199002_26) := (blk_cell BK198.out 2).trans rfl
            have hcz68_3 : wc.cell? ⟨gb198, 3, none⟩ = some (.bool x199003_26) := (blk_cell BK198.out 3).trans rfl
            have hcz68_4 : wc.cell? ⟨gb198, 4, none⟩ = some (.int .i64 x199004_26) := (blk_cell BK198.out 4).trans rfl
            have hfz68_0 := blk_frozen BK198.out 0
            have hfz68_1 := blk_frozen BK198.out 1
            have hfz68_2 := blk_frozen BK198.out 2
            have hfz68_3 := blk_frozen BK198.out 3
            have hfz68_4 := blk_frozen BK198.out 4
            have hcz69_0 : wc.cell? ⟨gb199, 0, none⟩ = some (.int .i64 x200000_41) := (blk_cell BK199.out 0).trans rfl
            have hcz69_1 : wc.cell? ⟨gb199, 1, none⟩ = some (.int .i64 x200001_41) := (blk_cell BK199.out 1).trans rfl
            have hcz69_2 : wc.cell? ⟨gb199, 2, none⟩ = some (.string x200002_41) := (blk_cell BK199.out 2).trans rfl
            have hcz69_3 : wc.cell? ⟨gb199, 3, none⟩ = some (.bool x200003_41) := (blk_cell BK199.out 3).trans rfl
            have hcz69_4 : wc.cell? ⟨gb199, 4, none⟩ = some (.int .i64 x200004_41) := (blk_cell BK199.out 4).trans rfl
            have hfz69_0 := blk_frozen BK199.out 0
            have hfz69_1 := blk_frozen BK199.out 1
            have hfz69_2 := blk_frozen BK199.out 2
            have hfz69_3 := blk_frozen BK199.out 3
            have hfz69_4 := blk_frozen BK199.out 4
            go_wp2
            repeat (go_quiet (fail); try go_wp2)
            go_ret2
            exact ⟨by first | rfl | (simp [errW_none, errW_some] <;> rfl) | (simp [*, errW_none, errW_some] <;> rfl), be⟩
           ·rw [if_neg c66] at H
            have c66b0 : (x199003_26 == x200003_41) = false := by simpa using c66
            (try (have c66b1 : decide (x199003_26 = x200003_41) = false := by simpa using c66))
            (try (have c66b2 : (x199003_26 == x200003_41) = false := by simpa using c66))
            (try (have c66b3 : ¬ (x199003_26 = x200003_41) := by simpa using c66))
            clear c66
            by_cases c70 : x200003_41 = true
            ·subst c70
             have H1 : (some ((-1), 0)) = some (r1, r2) := by rw [if_pos rfl] at H; exact H
             clear H
             have H := H1
             clear H1
             simp only [Option.some.injEq, Prod.mk.injEq] at H
             obtain ⟨rfl, rfl⟩ := H
             have hnb71 := NB198_199.out
             have hnc71 := NB199_198.out
             have hcz72_0 : wc.cell? ⟨gb198, 0, none⟩ = some (.int .i64 x199000_26) := (blk_cell BK198.out 0).trans rfl
             have hcz72_1 : wc.cell? ⟨gb198, 1, none⟩ = some (.int .i64 x199001_26) := (blk_cell BK198.out 1).trans rfl
             have hcz72_2 : wc.cell? ⟨gb198, 2, none⟩ = some (.string x199002_26) := (blk_cell BK198.out 2).trans rfl
             have hcz72_3 : wc.cell? ⟨gb198, 3, none⟩ = some (.bool x199003_26) := (blk_cell BK198.out 3).trans rfl
             have hcz72_4 : wc.cell? ⟨gb198, 4, none⟩ = some (.int .i64 x199004_26) := (blk_cell BK198.out 4).trans rfl
             have hfz72_0 := blk_frozen BK198.out 0
             have hfz72_1 := blk_frozen BK198.out 1
             have hfz72_2 := blk_frozen BK198.out 2
             have hfz72_3 := blk_frozen BK198.out 3
             have hfz72_4 := blk_frozen BK198.out 4
             have hcz73_0 : wc.cell? ⟨gb199, 0, none⟩ = some (.int .i64 x200000_41) := (blk_cell BK199.out 0).trans rfl
             have hcz73_1 : wc.cell? ⟨gb199, 1, none⟩ = some (.int .i64 x200001_41) := (blk_cell BK199.out 1).trans rfl
             have hcz73_2 : wc.cell? ⟨gb199, 2, none⟩ = some (.string x200002_41) := (blk_cell BK199.out 2).trans rfl
             have hcz73_3 : wc.cell? ⟨gb199, 3, none⟩ = some (.bool true) := (blk_cell BK199.out 3).trans rfl
             have hcz73_4 : wc.cell? ⟨gb199, 4, none⟩ = some (.int .i64 x200004_41) := (blk_cell BK199.out 4).trans rfl
             have hfz73_0 := blk_frozen BK199.out 0
             have hfz73_1 := blk_frozen BK199.out 1
             have hfz73_2 := blk_frozen BK199.out 2
             have hfz73_3 := blk_frozen BK199.out 3
             have hfz73_4 := blk_frozen BK199.out 4
             go_wp2
             repeat (go_quiet (fail); try go_wp2)
             go_ret2
             exact ⟨by first | rfl | (simp [errW_none, errW_some] <;> rfl) | (simp [*, errW_none, errW_some] <;> rfl), be⟩
            ·replace c70 := Bool.eq_false_iff.mpr c70
             subst c70
             have H1 : (some (1, 0)) = some (r1, r2) := by rw [if_neg (show ¬ (false = true) by decide)] at H; exact H
             clear H
             have H := H1
             clear H1
             simp only [Option.some.injEq, Prod.mk.injEq] at H
             obtain ⟨rfl, rfl⟩ := H
             have hnb74 := NB198_199.out
             have hnc74 := NB199_198.out
             have hcz75_0 : wc.cell? ⟨gb198, 0, none⟩ = some (.int .i64 x199000_26) := (blk_cell BK198.out 0).trans rfl
             have hcz75_1 : wc.cell? ⟨gb198, 1, none⟩ = some (.int .i64 x199001_26) := (blk_cell BK198.out 1).trans rfl
             have hcz75_2 : wc.cell? ⟨gb198, 2, none⟩ = some (.string x199002_26) := (blk_cell BK198.out 2).trans rfl
             have hcz75_3 : wc.cell? ⟨gb198, 3, none⟩ = some (.bool x199003_26) := (blk_cell BK198.out 3).trans rfl
             have hcz75_4 : wc.cell? ⟨gb198, 4, none⟩ = some (.int .i64 x199004_26) := (blk_cell BK198.out 4).trans rfl
             have hfz75_0 := blk_frozen BK198.out 0
             have hfz75_1 := blk_frozen BK198.out 1
             have hfz75_2 := blk_frozen BK198.out 2
             have hfz75_3 := blk_frozen BK198.out 3
             have hfz75_4 := blk_frozen BK198.out 4
             have hcz76_0 : wc.cell? ⟨gb199, 0, none⟩ = some (.int .i64 x200000_41) := (blk_cell BK199.out 0).trans rfl
             have hcz76_1 : wc.cell? ⟨gb199, 1, none⟩ = some (.int .i64 x200001_41) := (blk_cell BK199.out 1).trans rfl
             have hcz76_2 : wc.cell? ⟨gb199, 2, none⟩ = some (.string x200002_41) := (blk_cell BK199.out 2).trans rfl
             have hcz76_3 : wc.cell? ⟨gb199, 3, none⟩ = some (.bool false) := (blk_cell BK199.out 3).trans rfl
             have hcz76_4 : wc.cell? ⟨gb199, 4, none⟩ = some (.int .i64 x200004_41) := (blk_cell BK199.out 4).trans rfl
             have hfz76_0 := blk_frozen BK199.out 0
             have hfz76_1 := blk_frozen BK199.out 1
             have hfz76_2 := blk_frozen BK199.out 2
             have hfz76_3 := blk_frozen BK199.out 3
             have hfz76_4 := blk_frozen BK199.out 4
             go_wp2
             repeat (go_quiet (fail); try go_wp2)
             go_ret2
             exact ⟨by first | rfl | (simp [errW_none, errW_some] <;> rfl) | (simp [*, errW_none, errW_some] <;> rfl), be⟩
          ·rw [if_neg c65] at H
           have c65b0 : (x199000_26 == 3) = false := beq_eq_false_iff_ne.mpr c65
           have c65b1 : (x199000_26 != 3) = true := bne_iff_ne.mpr c65
           simp only [Option.some.injEq, Prod.mk.injEq] at H
           obtain ⟨rfl, rfl⟩ := H
           have hnb77 := NB198_199.out
           have hnc77 := NB199_198.out
           have hcz78_0 : wc.cell? ⟨gb198, 0, none⟩ = some (.int .i64 x199000_26) := (blk_cell BK198.out 0).trans rfl
           have hcz78_1 : wc.cell? ⟨gb198, 1, none⟩ = some (.int .i64 x199001_26) := (blk_cell BK198.out 1).trans rfl
           have hcz78_2 : wc.cell? ⟨gb198, 2, none⟩ = some (.string x199002_26) := (blk_cell BK198.out 2).trans rfl
           have hcz78_3 : wc.cell? ⟨gb198, 3, none⟩ = some (.bool x199003_26) := (blk_cell BK198.out 3).trans rfl
           have hcz78_4 : wc.cell? ⟨gb198, 4, none⟩ = some (.int .i64 x199004_26) := (blk_cell BK198.out 4).trans rfl
           have hfz78_0 := blk_frozen BK198.out 0
           have hfz78_1 := blk_frozen BK198.out 1
           have hfz78_2 := blk_frozen BK198.out 2
           have hfz78_3 := blk_frozen BK198.out 3
           have hfz78_4 := blk_frozen BK198.out 4
           have hcz79_0 : wc.cell? ⟨gb199, 0, none⟩ = some (.int .i64 x200000_41) := (blk_cell BK199.out 0).trans rfl
           have hcz79_1 : wc.cell? ⟨gb199, 1, none⟩ = some (.int .i64 x200001_41) := (blk_cell BK199.out 1).trans rfl
           have hcz79_2 : wc.cell? ⟨gb199, 2, none⟩ = some (.string x200002_41) := (blk_cell BK199.out 2).trans rfl
           have hcz79_3 : wc.cell? ⟨gb199, 3, none⟩ = some (.bool x200003_41) := (blk_cell BK199.out 3).trans rfl
           have hcz79_4 : wc.cell? ⟨gb199, 4, none⟩ = some (.int .i64 x200004_41) := (blk_cell BK199.out 4).trans rfl
           have hfz79_0 := blk_frozen BK199.out 0
           have hfz79_1 := blk_frozen BK199.out 1
           have hfz79_2 := blk_frozen BK199.out 2
           have hfz79_3 := blk_frozen BK199.out 3
           have hfz79_4 := blk_frozen BK199.out 4
           go_wp2
           repeat (go_quiet (fail); try go_wp2)
           go_ret2
           exact ⟨by first | rfl | (simp [errW_none, errW_some] <;> rfl) | (simp [*, errW_none, errW_some] <;> rfl), be⟩
       ·rw [if_neg c49] at H
        have c49b0 : (x199000_26 == x200000_41) = false := beq_eq_false_iff_ne.mpr c49
        have c49b1 : (x199000_26 != x200000_41) = true := bne_iff_ne.mpr c49
        replace H := Option.bind_eq_some_iff.mp H
        obtain ⟨t210, A800, H⟩ := H
        replace H : (some (t210, 0)) = some (r1, r2) := H
        have A80 := Aside0.mk A800
        clear A800
        simp only [Option.some.injEq, Prod.mk.injEq] at H
        obtain ⟨rfl, rfl⟩ := H
        have hnb81 := NB198_199.out
        have hnc81 := NB199_198.out
        have hcz82_0 : wc.cell? ⟨gb198, 0, none⟩ = some (.int .i64 x199000_26) := (blk_cell BK198.out 0).trans rfl
        have hcz82_1 : wc.cell? ⟨gb198, 1, none⟩ = some (.int .i64 x199001_26) := (blk_cell BK198.out 1).trans rfl
        have hcz82_2 : wc.cell? ⟨gb198, 2, none⟩ = some (.string x199002_26) := (blk_cell BK198.out 2).trans rfl
        have hcz82_3 : wc.cell? ⟨gb198, 3, none⟩ = some (.bool x199003_26) := (blk_cell BK198.out 3).trans rfl
        have hcz82_4 : wc.cell? ⟨gb198, 4, none⟩ = some (.int .i64 x199004_26) := (blk_cell BK198.out 4).trans rfl
        have hfz82_0 := blk_frozen BK198.out 0
        have hfz82_1 := blk_frozen BK198.out 1
        have hfz82_2 := blk_frozen BK198.out 2
        have hfz82_3 := blk_frozen BK198.out 3
        have hfz82_4 := blk_frozen BK198.out 4
        have hcz83_0 : wc.cell? ⟨gb199, 0, none⟩ = some (.int .i64 x200000_41) := (blk_cell BK199.out 0).trans rfl
        have hcz83_1 : wc.cell? ⟨gb199, 1, none⟩ = some (.int .i64 x200001_41) := (blk_cell BK199.out 1).trans rfl
        have hcz83_2 : wc.cell? ⟨gb199, 2, none⟩ = some (.string x200002_41) := (blk_cell BK199.out 2).trans rfl
        have hcz83_3 : wc.cell? ⟨gb199, 3, none⟩ = some (.bool x200003_41) := (blk_cell BK199.out 3).trans rfl
        have hcz83_4 : wc.cell? ⟨gb199, 4, none⟩ = some (.int .i64 x200004_41) := (blk_cell BK199.out 4).trans rfl
        have hfz83_0 := blk_frozen BK199.out 0
        have hfz83_1 := blk_frozen BK199.out 1
        have hfz83_2 := blk_frozen BK199.out 2
        have hfz83_3 := blk_frozen BK199.out 3
        have hfz83_4 := blk_frozen BK199.out 4
        go_wp2_with (first | (go_at_call 51; (with_reducible refine (latticeref03_numbers.calls x199000_26 x200000_41 t210 _ A80.out).mono ?_); rintro e w' ⟨rfl, ⟨nd, rfl⟩⟩; (try first | exact ⟨rfl, _, World.drewN_drewN _ _ _⟩ | exact ⟨rfl, _, Eq.trans (World.drewN_drewN _ _ _) (congrArg (World.drewN _) (Nat.add_assoc _ _ _))⟩)))
        repeat (go_quiet (first | (go_at_call 51; (with_reducible refine (latticeref03_numbers.calls x199000_26 x200000_41 t210 _ A80.out).mono ?_); rintro e w' ⟨rfl, ⟨nd, rfl⟩⟩; (try first | exact ⟨rfl, _, World.drewN_drewN _ _ _⟩ | exact ⟨rfl, _, Eq.trans (World.drewN_drewN _ _ _) (congrArg (World.drewN _) (Nat.add_assoc _ _ _))⟩))); try go_wp2_with (first | (go_at_call 51; (with_reducible refine (latticeref03_numbers.calls x199000_26 x200000_41 t210 _ A80.out).mono ?_); rintro e w' ⟨rfl, ⟨nd, rfl⟩⟩; (try first | exact ⟨rfl, _, World.drewN_drewN _ _ _⟩ | exact ⟨rfl, _, Eq.trans (World.drewN_drewN _ _ _) (congrArg (World.drewN _) (Nat.add_assoc _ _ _))⟩))))
        go_ret2
        exact ⟨by first | rfl | (simp [errW_none, errW_some] <;> rfl) | (simp [*, errW_none, errW_some] <;> rfl), be⟩
end Go.Proofs.YtcihleahjnpaaaaGreatDoor.P
namespace Go.Proofs.YtcihleahjnpaaaaGreatDoor.H
open Go.RowKit Go.Proofs.YtcihleahjnpaaaaGreatDoor.P Go.Proofs.YtcihleahjnpaaaaGreatDoor.T Go.Proofs.YtcihleahjnpaaaaGreatDoorW.PrintWords Go.Proofs.YtcihleahjnpaaaaGreatDoorW.PrintLast Go.Proofs.YtcihleahjnpaaaaGreatDoorW.PrintMore
set_option linter.unusedVariables false
set_option linter.unusedSimpArgs false
abbrev R := S30
def rr (x : V) : R := ⟨x.f0, x.f1, x.f2, x.f3, x.f4⟩
theorem rgoodN_f (n : Int) : latticeref01_Good.f n = some (goodN n) := by
  unfold latticeref01_Good.f goodN
  by_cases h : n ≥ -9000000000000000000
  · rw [if_pos h, decide_eq_true (show -9000000000000000000 ≤ n from h)]; simp
  · rw [if_neg h, decide_eq_false (show ¬ -9000000000000000000 ≤ n from h)]; simp
theorem rGood_f (x : V) : latticeref03_Good.f x.f0 x.f1 x.f2 x.f3 x.f4 = some (okV x) := by
  obtain ⟨a, b, c, d, e⟩ := x
  unfold latticeref03_Good.f okV isF
  simp only
  rw [rgoodN_f, Option.bind_some]
  by_cases h0 : a = 0
  · subst h0
    rw [if_pos rfl, if_pos rfl]
    by_cases h1 : b = 0 <;> by_cases h2 : c.toList = [] <;> cases d <;> simp [h1, h2]
  rw [if_neg h0, if_neg h0]
  by_cases h1 : a = 1
  · rw [if_pos h1, if_pos h1]
    cases goodN b <;> by_cases h2 : c.toList = [] <;> cases d <;> simp [h2]
  rw [if_neg h1, if_neg h1]
  by_cases h2 : a = 2
  · rw [if_pos h2, if_pos h2]
    by_cases h3 : b = 0 <;> by_cases h4 : c.size ≤ 255
    · rw [if_pos h3, if_pos (by omega)]; cases d <;> simp [h3, h4]
    · rw [if_pos h3, if_neg (by omega)]; simp [h3, h4]
    · rw [if_neg h3]; simp [h3]
    · rw [if_neg h3]; simp [h3]
  rw [if_neg h2, if_neg h2]
  by_cases h3 : a = 3
  · rw [if_pos h3, if_pos h3]
    by_cases h4 : b = 0 <;> by_cases h5 : c.toList = [] <;> simp [h4, h5]
  rw [if_neg h3, if_neg h3]
  by_cases h4 : a = 4
  · rw [if_pos h4, if_pos h4]
    by_cases h5 : b = 0 <;> by_cases h6 : c.toList = [] <;> cases d <;> simp [h5, h6]
    by_cases h7 : e ≥ 1
    · rw [if_pos h7, decide_eq_true (show 0 < e by omega)]
      simp
      constructor <;> intro <;> omega
    · rw [if_neg h7, decide_eq_false (show ¬ 0 < e by omega)]
      simp
  rw [if_neg h4, if_neg h4]
theorem rE_f (f : Int) : latticeref03_E.f f = some (tup (eV f)) := by
  unfold latticeref03_E.f eV isF
  by_cases h1 : f < 1
  · rw [if_pos h1, decide_eq_false (show ¬ 0 < f by omega)]; simp [tup, mt]
  rw [if_neg h1, decide_eq_true (show 0 < f by omega)]
  by_cases h2 : f > 8
  · rw [if_pos h2, decide_eq_false (show ¬ f < 9 by omega)]; simp [tup, mt]
  · rw [if_neg h2, decide_eq_true (show f < 9 by omega)]; simp [tup, mt]
theorem rSound_f (x : V) : latticeref03_Sound.f x.f0 x.f1 x.f2 x.f3 x.f4 = some (tup (sndV x)) := by
  unfold latticeref03_Sound.f sndV
  rw [rGood_f, Option.bind_some]
  cases okV x
  · rw [if_neg (by simp), rE_f]; rfl
  · rw [if_pos rfl]; rfl
theorem numbers_f (a b : Int) : latticeref03_numbers.f a b = some (cmpI a b) := by
  unfold latticeref03_numbers.f cmpI
  by_cases h : a < b
  · rw [if_pos h, if_pos h]
  rw [if_neg h, if_neg h]
  by_cases h2 : b < a
  · rw [if_pos h2, if_pos h2]
  · rw [if_neg h2, if_neg h2]
theorem cmpT_cons (p q : UInt8) (x y : List UInt8) : cmpT (p :: x) (q :: y) = if p.toNat < q.toNat then -1 else if q.toNat < p.toNat then 1 else cmpT x y := by
  unfold cmpT
  simp only [Op.bytesLess]
  by_cases h : p.toNat < q.toNat
  · have : p < q := UInt8.lt_iff_toNat_lt.2 h
    simp [h, this]
  · have h1 : ¬ p < q := fun hh => h (UInt8.lt_iff_toNat_lt.1 hh)
    rw [if_neg h]
    by_cases h2 : q.toNat < p.toNat
    · have h3 : ¬ p = q := by intro e; subst e; omega
      rw [if_pos h2]
      simp [h1, h3]
    · have h3 : p = q := UInt8.toNat_inj.1 (by omega)
      subst h3
      rw [if_neg h2]
      simp [h1]
theorem bt_nat (s : ByteArray) (i : Nat) (h : i < s.size) : bt s (i : Int) = ((s.data.toList[i]'(by simpa using h)).toNat : Int) := by
  unfold bt
  rw [dif_pos (by simpa using h)]
  simp
  rfl
theorem drop_cons (s : ByteArray) (i : Nat) (h : i < s.size) : s.data.toList.drop i = s.data.toList[i]'(by simpa using h) :: s.data.toList.drop (i + 1) := List.drop_eq_getElem_cons (by simpa using h)
theorem wrap_up (i n : Nat) (h : i < n) (hn : n ≤ 9223372036854775807) : wrap64 ((i : Int) + 1) = ((i + 1 : Nat) : Int) := by unfold wrap64; omega
theorem rtexts_eq (a b : ByteArray) (hs : a.size ≤ 9223372036854775807) : ∀ (d i K : Nat), a.size - i = d → i ≤ a.size → i ≤ b.size → 2 * d + 2 ≤ K →
    latticeref03_texts.l0 K a b (i : Int) = some (cmpT (a.data.toList.drop i) (b.data.toList.drop i))
  | d, i, K, hd, hi, hj, hK => by
    obtain ⟨K, rfl⟩ : ∃ k, K = k + 2 := ⟨K - 2, by omega⟩
    have hla : a.data.toList.length = a.size := by simp
    have hlb : b.data.toList.length = b.size := by simp
    unfold latticeref03_texts.l0
    by_cases ha : i < a.size
    · rw [if_pos (by omega)]
      unfold latticeref03_texts.j1
      by_cases hb : i < b.size
      · rw [if_pos (by simpa using hb), if_pos (by omega), if_pos (by omega), if_pos (by omega), bt_nat a i ha, bt_nat b i hb, drop_cons a i ha, drop_cons b i hb, cmpT_cons, wrap_up i a.size ha hs]
        generalize a.data.toList[i]'(by simpa using ha) = p
        generalize b.data.toList[i]'(by simpa using hb) = q
        by_cases h1 : p.toNat < q.toNat
        · rw [if_pos (by omega), if_pos h1]
        · rw [if_neg (by omega), if_neg h1]
          by_cases h2 : q.toNat < p.toNat
          · rw [if_pos (by omega), if_pos h2]
          · rw [if_neg (by omega), if_neg h2]
            obtain ⟨d, rfl⟩ : ∃ e, d = e + 1 := ⟨d - 1, by omega⟩
            exact rtexts_eq a b hs d (i + 1) K (by omega) (by omega) (by omega) (by omega)
      · rw [if_neg (by simpa using hb), numbers_f, Option.bind_some]
        have e : b.data.toList.drop i = [] := List.drop_eq_nil_of_le (by omega)
        rw [e, drop_cons a i ha]
        unfold cmpT cmpI
        rw [if_neg (by omega), if_pos (by omega)]
        simp [Op.bytesLess]
    · rw [if_neg (by omega)]
      unfold latticeref03_texts.j1
      rw [if_neg (by simp), numbers_f, Option.bind_some]
      have e : a.data.toList.drop i = [] := List.drop_eq_nil_of_le (by omega)
      rw [e]
      unfold cmpT cmpI
      by_cases hb : i < b.size
      · rw [if_pos (by omega), drop_cons b i hb]
        simp [Op.bytesLess]
      · have e2 : b.data.toList.drop i = [] := List.drop_eq_nil_of_le (by omega)
        rw [if_neg (by omega), if_neg (by omega), e2]
        simp [Op.bytesLess]
theorem rtexts_f (a b : ByteArray) (hs : a.size ≤ 9223372036854775807) (K : Nat) (hK : 2 * a.size + 2 ≤ K) : latticeref03_texts.f K a b = some (cmpT a.toList b.toList) := by
  have h := rtexts_eq a b hs a.size 0 K (by omega) (by omega) (by omega) hK
  rw [List.drop_zero, List.drop_zero] at h
  rw [ByteArray.toList_eq, ByteArray.toList_eq]
  exact h
theorem strOf_size (l : List Int) : (strOfNums l).size = l.length := by
  unfold strOfNums
  show (List.toArray _).size = _
  rw [List.size_toArray, List.length_map]
theorem letS_size (a d : Int) (s : ByteArray) : (letS a d s).size = s.size := by
  unfold letS
  rw [strOf_size, List.length_map, bytesOf_length]
theorem sndV_cases (x : V) : sndV x = eV 3 ∨ (okV x = true ∧ sndV x = x) := by
  unfold sndV
  cases h : okV x
  · left; simp
  · right; simp
theorem ok_kind {x : V} (h : okV x = true) : x.f0 = 0 ∨ x.f0 = 1 ∨ x.f0 = 2 ∨ x.f0 = 3 ∨ x.f0 = 4 := by
  unfold okV at h
  by_cases h0 : x.f0 = 0
  · exact .inl h0
  rw [if_neg h0] at h
  by_cases h1 : x.f0 = 1
  · exact .inr (.inl h1)
  rw [if_neg h1] at h
  by_cases h2 : x.f0 = 2
  · exact .inr (.inr (.inl h2))
  rw [if_neg h2] at h
  by_cases h3 : x.f0 = 3
  · exact .inr (.inr (.inr (.inl h3)))
  rw [if_neg h3] at h
  by_cases h4 : x.f0 = 4
  · exact .inr (.inr (.inr (.inr h4)))
  rw [if_neg h4] at h
  cases h
theorem ok_blank {x : V} (h : okV x = true) (h0 : x.f0 = 0) : x = zV := by
  unfold okV at h
  rw [if_pos h0] at h
  obtain ⟨a, b, c, d, e⟩ := x
  simp only at h0 h
  simp at h
  obtain ⟨h1, h2, h3, h4⟩ := h
  subst h0 h1 h3 h4
  have : c = mt := by
    apply ByteArray.ext
    rw [ByteArray.toList_eq] at h2
    exact Array.ext' (by simpa [mt] using h2)
  subst this
  rfl
theorem kinds3 {x : V} {P : Prop} (hk : x.f0 = 0 ∨ x.f0 = 1 ∨ x.f0 = 2 ∨ x.f0 = 3 ∨ x.f0 = 4) (h0 : ¬ x.f0 = 0) (h4 : ¬ x.f0 = 4) : x.f0 = 1 ∨ x.f0 = 2 ∨ x.f0 = 3 ∨ P := by
  rcases hk with h | h | h | h | h
  · exact absurd h h0
  · exact .inl h
  · exact .inr (.inl h)
  · exact .inr (.inr (.inl h))
  · exact absurd h h4
theorem rj1_f (x y : V) (K : Nat) (hK : 2 * x.f2.size + 3 ≤ K) (hz : x.f2.size ≤ 9223372036854775807) (hy : y.f2.size ≤ 9223372036854775807) (h0 : x.f0 = y.f0 → x.f0 = 1 ∨ x.f0 = 2 ∨ x.f0 = 3 ∨ x.f3 = y.f3) :
    latticeref03_Order.j1 K x.f0 x.f1 x.f2 x.f3 x.f4 y.f0 y.f1 y.f2 y.f3 y.f4 = some (ordB x y) := by
  obtain ⟨K, rfl⟩ : ∃ k, K = k + 1 := ⟨K - 1, by omega⟩
  unfold ordB
  rw [latticeref03_Order.j1]
  by_cases h1 : x.f0 = y.f0
  · rw [if_pos h1, if_neg (show ¬ (x.f0 ≠ y.f0) from fun h => h h1)]
    by_cases h2 : x.f0 = 1
    · rw [if_pos h2, if_pos h2, numbers_f]; rfl
    rw [if_neg h2, if_neg h2]
    by_cases h3 : x.f0 = 2
    · rw [if_pos h3, if_pos h3]
      unfold latticeref03_Lower.f
      rw [if_pos hz, if_pos hy]
      simp only [Option.bind_some]
      rw [rtexts_f _ _ (by rw [letS_size]; exact hz) K (by rw [letS_size]; omega)]
      rfl
    rw [if_neg h3, if_neg h3]
    by_cases h4 : x.f0 = 3
    · rw [if_pos h4]
      cases x.f3 <;> cases y.f3 <;> simp [rankB]
    rw [if_neg h4]
    have h5 : x.f3 = y.f3 := by
      rcases h0 h1 with h | h | h | h
      · exact absurd h h2
      · exact absurd h h3
      · exact absurd h h4
      · exact h
    rw [h5]; simp
  · rw [if_neg h1, if_pos h1, numbers_f]; rfl
theorem rOrder_f (a b : V) (K : Nat) (ha : a.f2.size ≤ 9223372036854775807) (hb : b.f2.size ≤ 9223372036854775807) (hK : 2 * a.f2.size + 6 ≤ K) : latticeref03_Order.f K a.f0 a.f1 a.f2 a.f3 a.f4 b.f0 b.f1 b.f2 b.f3 b.f4 = some (ordV a b) := by
  unfold latticeref03_Order.f
  rw [rSound_f, rSound_f]
  simp only [Option.bind_some]
  unfold ordV ordS
  rcases sndV_cases a with ea | ⟨oka, ea⟩
  · rw [ea]; rfl
  rcases sndV_cases b with eb | ⟨okb, eb⟩
  · rw [eb, ea]
    by_cases h4 : a.f0 = 4
    · rw [if_pos h4, if_pos h4]
    · rw [if_neg h4, if_neg h4]; rfl
  rw [ea, eb]
  by_cases h4 : a.f0 = 4
  · rw [if_pos h4, if_pos h4]
  rw [if_neg h4, if_neg h4]
  by_cases h5 : b.f0 = 4
  · rw [if_pos h5, if_pos h5]
  rw [if_neg h5, if_neg h5]
  have hka := ok_kind oka
  have hkb := ok_kind okb
  unfold besV
  by_cases h0 : a.f0 = 0
  · rw [if_pos h0, if_pos h0]
    have hz := ok_blank oka h0
    by_cases h1 : b.f0 = 0
    · have hz2 := ok_blank okb h1
      subst hz hz2
      obtain ⟨K, rfl⟩ : ∃ k, K = k + 1 := ⟨K - 1, by omega⟩
      rw [latticeref03_Order.j0, if_pos (show zV.f0 = 0 from rfl), if_pos (show zV.f0 = 0 from rfl)]
      exact rj1_f zV zV K (by simp [zV, mt, ByteArray.size] at hK ⊢; omega) (by simp [zV, mt, ByteArray.size]) (by simp [zV, mt, ByteArray.size]) (fun _ => .inr (.inr (.inr rfl)))
    · obtain ⟨K, rfl⟩ : ∃ k, K = k + 1 := ⟨K - 1, by omega⟩
      rw [if_neg h1, latticeref03_Order.j0, if_neg h1]
      exact rj1_f ⟨b.f0, 0, mt, false, 0⟩ b K (by simp [mt, ByteArray.size]; omega) (by simp [mt, ByteArray.size]) hb (fun _ => kinds3 (x := b) hkb h1 h5)
  · rw [if_neg h0, if_neg h0]
    by_cases h1 : b.f0 = 0
    · have hz := ok_blank okb h1
      subst hz
      obtain ⟨K, rfl⟩ : ∃ k, K = k + 1 := ⟨K - 1, by omega⟩
      rw [latticeref03_Order.j0, if_pos (show zV.f0 = 0 from rfl), if_pos (show zV.f0 = 0 from rfl)]
      exact rj1_f a ⟨a.f0, 0, mt, false, 0⟩ K (by omega) ha (Nat.zero_le _) (fun _ => kinds3 (x := a) hka h0 h4)
    · obtain ⟨K, rfl⟩ : ∃ k, K = k + 1 := ⟨K - 1, by omega⟩
      rw [if_neg h1, latticeref03_Order.j0, if_neg h1]
      exact rj1_f a b K (by omega) ha hb (fun _ => kinds3 (x := a) hka h0 h4)
theorem ord_range (a b : V) : (ordV a b).1 = -1 ∨ (ordV a b).1 = 0 ∨ (ordV a b).1 = 1 := by
  unfold ordV ordS
  split
  · exact .inr (.inl rfl)
  split
  · exact .inr (.inl rfl)
  unfold ordB
  split
  · unfold cmpI; split <;> (try split) <;> simp
  split
  · unfold cmpI; split <;> (try split) <;> simp
  split
  · unfold cmpT; split <;> (try split) <;> simp
  · unfold rankB; split <;> split <;> simp
theorem ord_good (a b : V) (h : (ordV a b).2 = 0) : okV a = true := by
  cases hk : okV a with
  | true => rfl
  | false =>
    exfalso
    unfold ordV ordS sndV at h
    rw [hk] at h
    simp [eV, isF] at h
end Go.Proofs.YtcihleahjnpaaaaGreatDoor.H
