/- Texts of this claim, put together by a program of this session: Order, Px15, Px16, Px17, Px18, Px19, Px20. -/
import Derived.Test.YtcihleahjnpaaaaGreatDoorProg
import Derived.Deep.RegionHeld3
import Derived.Deep.DeepCutAuto
import Derived.Deep.RegionWith
import Derived.WalkLawsBesides
import Derived.BigQuiet
import Derived.Deep.QuietTactic
import Derived.Lib.Hide
import Derived.Outline
import Derived.Test.YtcihleahjnpaaaaGreatDoorC2
namespace Go.Proofs.YtcihleahjnpaaaaGreatDoor.H
open Go.RowKit Go.Proofs.YtcihleahjnpaaaaGreatDoor.P Go.Proofs.YtcihleahjnpaaaaGreatDoor.T Go.Proofs.YtcihleahjnpaaaaGreatDoorW.PrintWords Go.Proofs.YtcihleahjnpaaaaGreatDoorW.PrintLast Go.Proofs.YtcihleahjnpaaaaGreatDoorW.PrintMore
set_option linter.unusedVariables false
set_option linter.unusedSimpArgs false
def cmpI (a b : Int) : Int := if a < b then -1 else if b < a then 1 else 0
def cmpT (a b : List UInt8) : Int := if Op.bytesLess a b = true then -1 else if a = b then 0 else 1
theorem isNaN_any (a : ByteArray) (w : World) : Calls Tryz.prog 71 #[.string a] w fun e w' => e = .returned (.bool false) ∧ w = w' := by
  go_enter Tryz.func71, Tryz.ntmps71
  go_wp2
  go_ret
  exact ⟨by simp, rfl⟩
theorem cmpstr_any (a b : ByteArray) (w : World) : Calls Tryz.prog 44 #[.string a, .string b] w fun e w' => e = .returned (.int .i64 (cmpT a.toList b.toList)) ∧ w = w' := by
  have ha := isNaN_any a w
  have hb := isNaN_any b w
  by_cases h1 : Op.bytesLess a.toList b.toList = true
  · have hr : cmpT a.toList b.toList = -1 := by unfold cmpT; rw [if_pos h1]
    rw [hr]
    clear hr
    go_enter Tryz.func44, Tryz.ntmps44
    go_wp2_with (fail)
    refine ha.mono ?_
    rintro e w1 ⟨rfl, rfl⟩
    go_wp2_with (fail)
    refine hb.mono ?_
    rintro e w1 ⟨rfl, rfl⟩
    go_wp2
    go_ret
    exact ⟨rfl, rfl⟩
  · have h1' : Op.bytesLess a.toList b.toList = false := by cases hq : Op.bytesLess a.toList b.toList with
      | true => exact absurd hq h1
      | false => rfl
    by_cases h2 : a.toList = b.toList
    · have hr : cmpT a.toList b.toList = 0 := by unfold cmpT; rw [if_neg h1, if_pos h2]
      rw [hr]
      have h3 : (a.toList == b.toList) = true := by rw [h2]; simp
      clear hr h1 h2
      go_enter Tryz.func44, Tryz.ntmps44
      go_wp2_with (fail)
      refine ha.mono ?_
      rintro e w1 ⟨rfl, rfl⟩
      go_wp2_with (fail)
      refine hb.mono ?_
      rintro e w1 ⟨rfl, rfl⟩
      go_wp2
      go_ret
      exact ⟨rfl, rfl⟩
    · have hr : cmpT a.toList b.toList = 1 := by unfold cmpT; rw [if_neg h1, if_neg h2]
      rw [hr]
      have h3 : (a.toList == b.toList) = false := by simpa using h2
      clear hr h1
      go_enter Tryz.func44, Tryz.ntmps44
      go_wp2_with (fail)
      refine ha.mono ?_
      rintro e w1 ⟨rfl, rfl⟩
      go_wp2_with (fail)
      refine hb.mono ?_
      rintro e w1 ⟨rfl, rfl⟩
      go_wp2
      go_ret
      exact ⟨rfl, rfl⟩
def rankB (b : Bool) : Int := if b = true then 1 else 0
theorem rank_wrap (a b : Bool) : wrap64 (rankB a - rankB b) = rankB a - rankB b := by cases a <;> cases b <;> simp [rankB, wrap64]
def ordB (x y : V) : Int × Int :=
  if x.f0 ≠ y.f0 then (cmpI x.f0 y.f0, 0)
  else if x.f0 = 1 then (cmpI x.f1 y.f1, 0)
  else if x.f0 = 2 then (cmpT (letS 65 32 x.f2).toList (letS 65 32 y.f2).toList, 0)
  else (rankB x.f3 - rankB y.f3, 0)
def ordS (s t : V) : Int × Int := if s.f0 = 4 then (0, s.f4) else if t.f0 = 4 then (0, t.f4) else ordB (besV s t) (besV t s)
def ordV (a b : V) : Int × Int := ordS (sndV a) (sndV b)
def Box (w : World) (g : Nat) (x : V) : Prop :=
  (w.cell? ⟨g, 0, none⟩ = some (.int .i64 x.f0) ∧ w.cell? ⟨g, 1, none⟩ = some (.int .i64 x.f1) ∧ w.cell? ⟨g, 2, none⟩ = some (.string x.f2) ∧ w.cell? ⟨g, 3, none⟩ = some (.bool x.f3) ∧ w.cell? ⟨g, 4, none⟩ = some (.int .i64 x.f4)) ∧
  (w.frozen? ⟨g, 0, none⟩ = false ∧ w.frozen? ⟨g, 1, none⟩ = false ∧ w.frozen? ⟨g, 2, none⟩ = false ∧ w.frozen? ⟨g, 3, none⟩ = false ∧ w.frozen? ⟨g, 4, none⟩ = false) ∧ g < w.heap.size
theorem kindcmp_any (a b : Int) (w : World) : Calls Tryz.prog 42 #[.int .i64 a, .int .i64 b] w fun e w' => e = .returned (.int .i64 (cmpI a b)) ∧ ∃ n, w' = w.drewN n :=
  (value_Kind_42.calls a b _ w (by unfold value_Kind_42.f value_Kind_69.f cmpI; simp; repeat (first | rfl | split) )).mono fun _ _ h => ⟨h.1, h.2.out⟩
theorem numcmp_any (a b : Int) (w : World) : Calls Tryz.prog 43 #[.int .i64 a, .int .i64 b] w fun e w' => e = .returned (.int .i64 (cmpI a b)) ∧ ∃ n, w' = w.drewN n :=
  (fixed_Num_43.calls a b _ w (by unfold fixed_Num_43.f fixed_Num_70.f cmpI; simp; repeat (first | rfl | split) )).mono fun _ _ h => ⟨h.1, h.2.out⟩
theorem rank_any (b : Bool) (w : World) : Calls Tryz.prog 46 #[.bool b] w fun e w' => e = .returned (.int .i64 (rankB b)) ∧ ∃ n, w' = w.drewN n :=
  (value_rank.calls b _ w (by unfold value_rank.f rankB; split <;> rfl)).mono fun _ _ h => ⟨h.1, h.2.out⟩
def ord_T14 : Bool × List (List Nat × List Nat) := (true, [([], []), ([0], [0]), ([1], [1]), ([], []), ([3], [3]), ([4, 2], [4]), ([2, 5, 5], [2, 5]), ([6, 6, 0, 1, 2, 3, 4, 5, 6], [6]), ([7, 0, 1, 2, 3, 4, 5, 6, 7], [])])
def ord_B14 : List Nat := [0, 1, 3, 0, 8, 31, 63, 127, 255]
theorem ord_tab14 : rtab .any (opsOf Tryz.f19 14) = ord_T14 := by kernel_rfl
theorem ord_bits14 : waitsOk ord_T14.2 ord_B14 = true := by kernel_rfl
def ord_T15 : Bool × List (List Nat × List Nat) := (true, [([], []), ([0], [0]), ([1], [1]), ([], []), ([3], [3]), ([4, 2], [4]), ([2, 5], [2, 5]), ([6, 5, 0, 1, 2, 3, 4, 5, 6], [6]), ([7, 0, 1, 2, 3, 4, 5, 6, 7], [])])
def ord_B15 : List Nat := [0, 1, 3, 0, 8, 31, 63, 127, 255]
theorem ord_tab15 : rtab .any (opsOf Tryz.f19 15) = ord_T15 := by kernel_rfl
theorem ord_bits15 : waitsOk ord_T15.2 ord_B15 = true := by kernel_rfl
def ord_T8 : Bool × List (List Nat × List Nat) := (true, [([], []), ([], []), ([0, 1], [0, 1]), ([], []), ([], []), ([3, 4, 2], [3, 4]), ([2, 5, 0, 1, 2, 4], [2]), ([5, 6, 0, 1, 2, 3, 4, 5, 6], [5])])
def ord_B8 : List Nat := [0, 0, 3, 0, 0, 31, 63, 127]
theorem ord_tab8 : rtab .any (opsOf Tryz.f19 8) = ord_T8 := by kernel_rfl
theorem ord_bits8 : waitsOk ord_T8.2 ord_B8 = true := by kernel_rfl
theorem Box.cell0 {w : World} {g : Nat} {x : V} (h : Box w g x) : w.cell? ⟨g, 0, none⟩ = some (.int .i64 x.f0) := h.1.1
theorem Box.cell1 {w : World} {g : Nat} {x : V} (h : Box w g x) : w.cell? ⟨g, 1, none⟩ = some (.int .i64 x.f1) := h.1.2.1
theorem Box.cell2 {w : World} {g : Nat} {x : V} (h : Box w g x) : w.cell? ⟨g, 2, none⟩ = some (.string x.f2) := h.1.2.2.1
theorem Box.cell3 {w : World} {g : Nat} {x : V} (h : Box w g x) : w.cell? ⟨g, 3, none⟩ = some (.bool x.f3) := h.1.2.2.2.1
theorem Box.cell4 {w : World} {g : Nat} {x : V} (h : Box w g x) : w.cell? ⟨g, 4, none⟩ = some (.int .i64 x.f4) := h.1.2.2.2.2
theorem Box.fr0 {w : World} {g : Nat} {x : V} (h : Box w g x) : w.frozen? ⟨g, 0, none⟩ = false := h.2.1.1
theorem Box.fr1 {w : World} {g : Nat} {x : V} (h : Box w g x) : w.frozen? ⟨g, 1, none⟩ = false := h.2.1.2.1
theorem Box.fr2 {w : World} {g : Nat} {x : V} (h : Box w g x) : w.frozen? ⟨g, 2, none⟩ = false := h.2.1.2.2.1
theorem Box.fr3 {w : World} {g : Nat} {x : V} (h : Box w g x) : w.frozen? ⟨g, 3, none⟩ = false := h.2.1.2.2.2.1
theorem Box.fr4 {w : World} {g : Nat} {x : V} (h : Box w g x) : w.frozen? ⟨g, 4, none⟩ = false := h.2.1.2.2.2.2
theorem Box.lt {w : World} {g : Nat} {x : V} (h : Box w g x) : g < w.heap.size := h.2.2
theorem Box.below {w w' : World} {g : Nat} {x : V} (h : Box w g x) (hb : Below w.heap.size w w') : Box w' g x := by
  obtain ⟨⟨a0, a1, a2, a3, a4⟩, ⟨b0, b1, b2, b3, b4⟩, hl⟩ := h
  have hz := hb.size
  refine ⟨⟨?_, ?_, ?_, ?_, ?_⟩, ⟨?_, ?_, ?_, ?_, ?_⟩, by omega⟩
  all_goals first | (rw [hb.cell hl]; assumption) | (rw [hb.frozen hl]; assumption)
theorem cell_heap {w W : World} (e : W.heap = w.heap) (p : Addr) : W.cell? p = w.cell? p := by unfold World.cell?; rw [e]
theorem frozen_heap {w W : World} (e : W.heap = w.heap) (p : Addr) : W.frozen? p = w.frozen? p := by unfold World.frozen?; rw [e]
theorem Below.call {w w1 W w2 : World} {B : Nat} (h : Below w.heap.size w w1) (hb : Below B W w2) (e : W.os = w1.os ∧ W.tape = w1.tape ∧ W.output = w1.output ∧ W.heap = w1.heap) (hB : B = w1.heap.size) : Below w.heap.size w w2 := by
  subst hB
  obtain ⟨e1, e2, e3, e4⟩ := e
  have h1 := h.size
  exact ⟨hb.os.trans (e1.trans h.os), hb.tape.trans (e2.trans h.tape), hb.output.trans (e3.trans h.output), by have := hb.size; rw [e4] at this; omega, fun i hi => (hb.block i (by omega)).trans (by rw [e4]; exact h.block i hi)⟩
theorem Box.call {w W w1 : World} {B g : Nat} {x : V} (h : Box w g x) (hb : Below B W w1) (e : W.heap = w.heap) (hB : B = w.heap.size) : Box w1 g x := by
  obtain ⟨⟨a0, a1, a2, a3, a4⟩, ⟨b0, b1, b2, b3, b4⟩, hl⟩ := h
  have hz := hb.size
  have hg : g < B := by omega
  rw [e] at hz
  refine ⟨⟨?_, ?_, ?_, ?_, ?_⟩, ⟨?_, ?_, ?_, ?_, ?_⟩, by omega⟩
  all_goals first | (rw [hb.cell hg, cell_heap e]; assumption) | (rw [hb.frozen hg, frozen_heap e]; assumption)
theorem Box.set0 {w : World} {g : Nat} {x : V} (h : Box w g x) (n : Int) : Box (w.setCell ⟨g, 0, none⟩ (.int .i64 n)) g ⟨n, x.f1, x.f2, x.f3, x.f4⟩ := by
  obtain ⟨⟨a0, a1, a2, a3, a4⟩, ⟨b0, b1, b2, b3, b4⟩, hl⟩ := h
  refine ⟨⟨?_, ?_, ?_, ?_, ?_⟩, ⟨?_, ?_, ?_, ?_, ?_⟩, by simpa using hl⟩
  all_goals first | (rw [World.frozen?_setCell]; assumption) | exact World.cell?_setCell_same _ _ _ a0 | (rw [World.cell?_setCell_other _ _ _ _ (fun he => absurd he (by simp))]; assumption)
theorem Box.set1 {w : World} {g : Nat} {x : V} (h : Box w g x) (n : Int) : Box (w.setCell ⟨g, 1, none⟩ (.int .i64 n)) g ⟨x.f0, n, x.f2, x.f3, x.f4⟩ := by
  obtain ⟨⟨a0, a1, a2, a3, a4⟩, ⟨b0, b1, b2, b3, b4⟩, hl⟩ := h
  refine ⟨⟨?_, ?_, ?_, ?_, ?_⟩, ⟨?_, ?_, ?_, ?_, ?_⟩, by simpa using hl⟩
  all_goals first | (rw [World.frozen?_setCell]; assumption) | exact World.cell?_setCell_same _ _ _ a1 | (rw [World.cell?_setCell_other _ _ _ _ (fun he => absurd he (by simp))]; assumption)
theorem Box.set2 {w : World} {g : Nat} {x : V} (h : Box w g x) (n : ByteArray) : Box (w.setCell ⟨g, 2, none⟩ (.string n)) g ⟨x.f0, x.f1, n, x.f3, x.f4⟩ := by
  obtain ⟨⟨a0, a1, a2, a3, a4⟩, ⟨b0, b1, b2, b3, b4⟩, hl⟩ := h
  refine ⟨⟨?_, ?_, ?_, ?_, ?_⟩, ⟨?_, ?_, ?_, ?_, ?_⟩, by simpa using hl⟩
  all_goals first | (rw [World.frozen?_setCell]; assumption) | exact World.cell?_setCell_same _ _ _ a2 | (rw [World.cell?_setCell_other _ _ _ _ (fun he => absurd he (by simp))]; assumption)
theorem Box.set3 {w : World} {g : Nat} {x : V} (h : Box w g x) (n : Bool) : Box (w.setCell ⟨g, 3, none⟩ (.bool n)) g ⟨x.f0, x.f1, x.f2, n, x.f4⟩ := by
  obtain ⟨⟨a0, a1, a2, a3, a4⟩, ⟨b0, b1, b2, b3, b4⟩, hl⟩ := h
  refine ⟨⟨?_, ?_, ?_, ?_, ?_⟩, ⟨?_, ?_, ?_, ?_, ?_⟩, by simpa using hl⟩
  all_goals first | (rw [World.frozen?_setCell]; assumption) | exact World.cell?_setCell_same _ _ _ a3 | (rw [World.cell?_setCell_other _ _ _ _ (fun he => absurd he (by simp))]; assumption)
theorem Box.set4 {w : World} {g : Nat} {x : V} (h : Box w g x) (n : Int) : Box (w.setCell ⟨g, 4, none⟩ (.int .i64 n)) g ⟨x.f0, x.f1, x.f2, x.f3, n⟩ := by
  obtain ⟨⟨a0, a1, a2, a3, a4⟩, ⟨b0, b1, b2, b3, b4⟩, hl⟩ := h
  refine ⟨⟨?_, ?_, ?_, ?_, ?_⟩, ⟨?_, ?_, ?_, ?_, ?_⟩, by simpa using hl⟩
  all_goals first | (rw [World.frozen?_setCell]; assumption) | exact World.cell?_setCell_same _ _ _ a4 | (rw [World.cell?_setCell_other _ _ _ _ (fun he => absurd he (by simp))]; assumption)
theorem Box.far {w : World} {g : Nat} {x : V} (h : Box w g x) {p : Addr} (hp : p.block ≠ g) (v : Value) : Box (w.setCell p v) g x := by
  obtain ⟨⟨a0, a1, a2, a3, a4⟩, ⟨b0, b1, b2, b3, b4⟩, hl⟩ := h
  refine ⟨⟨?_, ?_, ?_, ?_, ?_⟩, ⟨?_, ?_, ?_, ?_, ?_⟩, by simpa using hl⟩
  all_goals first | (rw [World.frozen?_setCell]; assumption) | (rw [World.cell?_setCell_other _ _ _ _ (fun he => hp (by rw [he]))]; assumption)
def put5 (w : World) (g : Nat) (y : V) : World := ((((w.setCell ⟨g, 0, none⟩ (.int .i64 y.f0)).setCell ⟨g, 1, none⟩ (.int .i64 y.f1)).setCell ⟨g, 2, none⟩ (.string y.f2)).setCell ⟨g, 3, none⟩ (.bool y.f3)).setCell ⟨g, 4, none⟩ (.int .i64 y.f4)
theorem Box.put {w : World} {g : Nat} {x : V} (h : Box w g x) (y : V) : Box (put5 w g y) g y := ((((h.set0 y.f0).set1 y.f1).set2 y.f2).set3 y.f3).set4 y.f4
theorem Box.away {w : World} {g k : Nat} {x : V} (h : Box w g x) (hk : k ≠ g) (y : V) : Box (put5 w k y) g x := ((((h.far (p := ⟨k, 0, none⟩) hk _).far (p := ⟨k, 1, none⟩) hk _).far (p := ⟨k, 2, none⟩) hk _).far (p := ⟨k, 3, none⟩) hk _).far (p := ⟨k, 4, none⟩) hk _
theorem below_put {B g : Nat} {a w : World} (h : Below B a w) (hg : B ≤ g) (y : V) : Below B a (put5 w g y) :=
  ((((h.setCell (p := ⟨g, 0, none⟩) hg _).setCell (p := ⟨g, 1, none⟩) hg _).setCell (p := ⟨g, 2, none⟩) hg _).setCell (p := ⟨g, 3, none⟩) hg _).setCell (p := ⟨g, 4, none⟩) hg _
set_option maxHeartbeats 4000000 in
set_option maxRecDepth 100000 in
theorem order_any (a b : V) (w0 : World) : Calls Tryz.prog 19 #[vv a, vv b] w0 fun e w' => e = .returned (.tuple #[.int .i64 (ordV a b).1, .int .i64 (ordV a b).2]) ∧ Below w0.heap.size w0 w' := by
  have hsa := fun w => sound_any w a
  have hsb := fun w => sound_any w b
  unfold vv at *
  obtain ⟨⟨r1, r2⟩, hr⟩ : ∃ r, r = ordV a b := ⟨_, rfl⟩
  rw [← hr]
  unfold ordV at hr
  have R := Lib.hid hr
  clear hr
  go_enter Tryz.func19, Tryz.ntmps19
  go_upto_region 1 with (fail)
  have G : Hid (w0.heap.size = w0.heap.size) := rfl
  have W2 : Below w0.heap.size w0 ((w0.alloc (.cells #[.int .i64 a.f0, .int .i64 a.f1, .string a.f2, .bool a.f3, .int .i64 a.f4] 29)).alloc (.cells #[.int .i64 b.f0, .int .i64 b.f1, .string b.f2, .bool b.f3, .int .i64 b.f4] 29)) := below_alloc (below_alloc (Below.refl _ _) _) _
  have HA2 : Hid (Box ((w0.alloc (.cells #[.int .i64 a.f0, .int .i64 a.f1, .string a.f2, .bool a.f3, .int .i64 a.f4] 29)).alloc (.cells #[.int .i64 b.f0, .int .i64 b.f1, .string b.f2, .bool b.f3, .int .i64 b.f4] 29)) w0.heap.size a) := by
    show Box _ _ _
    refine ⟨⟨?_, ?_, ?_, ?_, ?_⟩, ⟨?_, ?_, ?_, ?_, ?_⟩, ?_⟩ <;> go_simp
  have HB2 : Hid (Box ((w0.alloc (.cells #[.int .i64 a.f0, .int .i64 a.f1, .string a.f2, .bool a.f3, .int .i64 a.f4] 29)).alloc (.cells #[.int .i64 b.f0, .int .i64 b.f1, .string b.f2, .bool b.f3, .int .i64 b.f4] 29)) (w0.heap.size + 1) b) := by
    show Box _ _ _
    refine ⟨⟨?_, ?_, ?_, ?_, ?_⟩, ⟨?_, ?_, ?_, ?_, ?_⟩, ?_⟩ <;> go_simp
  generalize hg : w0.heap.size = g at *
  have G2 := Lib.hid hg
  clear hg G
  generalize ((w0.alloc (.cells #[.int .i64 a.f0, .int .i64 a.f1, .string a.f2, .bool a.f3, .int .i64 a.f4] 29)).alloc (.cells #[.int .i64 b.f0, .int .i64 b.f1, .string b.f2, .bool b.f3, .int .i64 b.f4] 29)) = wx at *
  go_cut [] (fun wc => Box wc g (sndV a) ∧ Box wc (g + 1) (sndV b) ∧ Below g w0 wc)
  case first =>
    refine start_ (n := 6) (S := fun w' => w'.cell? ⟨g, 0, none⟩ = some (.int .i64 a.f0) ∧ w'.cell? ⟨g, 1, none⟩ = some (.int .i64 a.f1) ∧ w'.cell? ⟨g, 2, none⟩ = some (.string a.f2) ∧ w'.cell? ⟨g, 3, none⟩ = some (.bool a.f3) ∧ w'.cell? ⟨g, 4, none⟩ = some (.int .i64 a.f4) ∧ w'.cell? ⟨g + 1, 0, none⟩ = some (.int .i64 b.f0) ∧ w'.cell? ⟨g + 1, 1, none⟩ = some (.int .i64 b.f1) ∧ w'.cell? ⟨g + 1, 2, none⟩ = some (.string b.f2) ∧ w'.cell? ⟨g + 1, 3, none⟩ = some (.bool b.f3) ∧ w'.cell? ⟨g + 1, 4, none⟩ = some (.int .i64 b.f4)) (ds := [4, 5]) #[false, false, false, false, false, false] (by kernel_rfl) rfl rfl ⟨HA2.out.cell0, HA2.out.cell1, HA2.out.cell2, HA2.out.cell3, HA2.out.cell4, HB2.out.cell0, HB2.out.cell1, HB2.out.cell2, HB2.out.cell3, HB2.out.cell4⟩ (fun hHeld => ?_)
    have HA3 : Hid (Box wx.drew g a) := HA2
    have HB3 : Hid (Box wx.drew (g + 1) b) := HB2
    have W3 : Below g w0 wx.drew := W2.drew
    clear HA2 HB2 W2
    generalize wx.drew = wy at HA3 HB3 W3 hHeld ⊢
    refine take_ (i := 0) (N := some 8) (v := ?_) (a' := ?_) #[true, false, false, false, false, false] rfl rfl (by kernel_rfl) (fun _ _ _ h => h) (Or.inl ⟨by rfl, ?_⟩) hHeld ?_ ?_
    rotate_left
    · rintro w' ⟨s0, s1, s2, s3, s4, s5, s6, s7, s8, s9⟩
      go_simp
      with_reducible rfl
    rotate_left
    · simp only [Act.put, List.setIfInBounds_toArray, List.set_cons_zero, List.set_cons_succ, i64_w, i32_w]
      rfl
    refine take_ (i := 2) (N := some 10) (v := ?_) (a' := ?_) #[true, false, true, false, false, false] rfl rfl (by kernel_rfl) (fun _ _ _ h => h) (Or.inl ⟨by rfl, ?_⟩) hHeld ?_ ?_
    rotate_left
    · rintro w' ⟨s0, s1, s2, s3, s4, s5, s6, s7, s8, s9⟩
      go_simp
      with_reducible rfl
    rotate_left
    · simp only [Act.put, List.setIfInBounds_toArray, List.set_cons_zero, List.set_cons_succ, i64_w, i32_w]
      rfl
    refine one_ (i := 1) (N := some 9) #[true, true, true, false, false, false] rfl rfl (by kernel_rfl) (by decide) (fun K hK => ?_)
    refine goes_ Tryz.func40 (by kernel_rfl) rfl #[.agg #[.int .i64 a.f0, .int .i64 a.f1, .string a.f2, .bool a.f3, .int .i64 a.f4]] (by rfl) rfl rfl (by (try simp only [List.map_toArray, List.map_cons, List.map_nil]); first | done | rfl) ?_
    with_reducible refine (hsa _).mono ?_
    rintro e w1 ⟨rfl, hb⟩
    refine ⟨_, rfl, ?_⟩
    have HA4 := Lib.hid (HA3.out.below hb)
    have HB4 := Lib.hid (HB3.out.below hb)
    have W4 : Below g w0 w1 := below_then W3 (Nat.le_of_lt HA3.out.lt) hb
    clear HA3 HB3 W3 hb
    refine hK.out _ _ ⟨HA4.out.cell0, HA4.out.cell1, HA4.out.cell2, HA4.out.cell3, HA4.out.cell4, HB4.out.cell0, HB4.out.cell1, HB4.out.cell2, HB4.out.cell3, HB4.out.cell4⟩ (fun hHeld => ?_)
    clear hK K
    refine norm_ (a' := ?_) ?_ ?_
    rotate_left
    · show Act.put _ (some 9) _ = _
      simp only [Act.put, List.setIfInBounds_toArray, List.set_cons_zero, List.set_cons_succ, i64_w, i32_w]
      rfl
    refine one_ (i := 3) (N := some 11) #[true, true, true, true, false, false] rfl rfl (by kernel_rfl) (by decide) (fun K hK => ?_)
    refine goes_ Tryz.func40 (by kernel_rfl) rfl #[.agg #[.int .i64 b.f0, .int .i64 b.f1, .string b.f2, .bool b.f3, .int .i64 b.f4]] (by rfl) rfl rfl (by (try simp only [List.map_toArray, List.map_cons, List.map_nil]); first | done | rfl) ?_
    with_reducible refine (hsb _).mono ?_
    rintro e w2 ⟨rfl, hb⟩
    refine ⟨_, rfl, ?_⟩
    have HA5 := Lib.hid (HA4.out.below hb)
    have HB5 := Lib.hid (HB4.out.below hb)
    have W5 : Below g w0 w2 := below_then W4 (Nat.le_of_lt HA4.out.lt) hb
    clear HA4 HB4 W4 hb
    refine hK.out _ _ ⟨HA5.out.cell0, HA5.out.cell1, HA5.out.cell2, HA5.out.cell3, HA5.out.cell4, HB5.out.cell0, HB5.out.cell1, HB5.out.cell2, HB5.out.cell3, HB5.out.cell4⟩ (fun hHeld => ?_)
    clear hK K
    refine norm_ (a' := ?_) ?_ ?_
    rotate_left
    · show Act.put _ (some 11) _ = _
      simp only [Act.put, List.setIfInBounds_toArray, List.set_cons_zero, List.set_cons_succ, i64_w, i32_w]
      rfl
    refine last_ (i := 4) (N := none) #[true, true, true, true, true, false] rfl rfl (by kernel_rfl) (by decide) (fun K hK => ?_)
    have zHA5_0 := HA5.out.cell0
    have yHA5_0 := HA5.out.fr0
    have zHA5_1 := HA5.out.cell1
    have yHA5_1 := HA5.out.fr1
    have zHA5_2 := HA5.out.cell2
    have yHA5_2 := HA5.out.fr2
    have zHA5_3 := HA5.out.cell3
    have yHA5_3 := HA5.out.fr3
    have zHA5_4 := HA5.out.cell4
    have yHA5_4 := HA5.out.fr4
    have lHA5 := HA5.out.lt
    refine skip_ (w1 := ?_) (by rfl) rfl ?_ ?_
    rotate_left
    · go_simp
      rfl
    refine hK.out _ _ ?_
    clear hK K
    refine last_ (i := 5) (N := none) #[true, true, true, true, true, true] rfl rfl (by kernel_rfl) (by decide) (fun K hK => ?_)
    have zHB5_0 := HB5.out.cell0
    have yHB5_0 := HB5.out.fr0
    have zHB5_1 := HB5.out.cell1
    have yHB5_1 := HB5.out.fr1
    have zHB5_2 := HB5.out.cell2
    have yHB5_2 := HB5.out.fr2
    have zHB5_3 := HB5.out.cell3
    have yHB5_3 := HB5.out.fr3
    have zHB5_4 := HB5.out.cell4
    have yHB5_4 := HB5.out.fr4
    have lHB5 := HB5.out.lt
    refine skip_ (w1 := ?_) (by rfl) rfl ?_ ?_
    rotate_left
    · go_simp
      rfl
    refine hK.out _ _ ?_
    clear hK K
    refine done_ (by kernel_rfl) ?_
    try go_wp2
    go_meet
    case rel => exact ⟨(HA5.out.put (sndV a)).away (by omega) (sndV b), (HB5.out.away (by omega) (sndV a)).put (sndV b), below_put (below_put W5 (Nat.le_refl _) (sndV a)) (by omega) (sndV b)⟩
  case rest =>
    obtain ⟨hA, hB, hw⟩ := hcut
    clear hsa hsb HA2 HB2 W2
    have tS := sndV_text a
    have tT := sndV_text b
    generalize sndV a = s at *
    generalize sndV b = t at *
    have HA := Lib.hid hA
    have HB := Lib.hid hB
    clear hA hB
    have zHA_0 := HA.out.cell0
    have yHA_0 := HA.out.fr0
    have zHA_1 := HA.out.cell1
    have yHA_1 := HA.out.fr1
    have zHA_2 := HA.out.cell2
    have yHA_2 := HA.out.fr2
    have zHA_3 := HA.out.cell3
    have yHA_3 := HA.out.fr3
    have zHA_4 := HA.out.cell4
    have yHA_4 := HA.out.fr4
    have lHA := HA.out.lt
    have zHB_0 := HB.out.cell0
    have yHB_0 := HB.out.fr0
    have zHB_1 := HB.out.cell1
    have yHB_1 := HB.out.fr1
    have zHB_2 := HB.out.cell2
    have yHB_2 := HB.out.fr2
    have zHB_3 := HB.out.cell3
    have yHB_3 := HB.out.fr3
    have zHB_4 := HB.out.cell4
    have yHB_4 := HB.out.fr4
    have lHB := HB.out.lt
    have i0 : ∀ w, (Instr.index 95 (.agg #[.int .i64 s.f0, .int .i64 s.f1, .string s.f2, .bool s.f3, .int .i64 s.f4, .int .i64 t.f0, .int .i64 t.f1, .string t.f2, .bool t.f3, .int .i64 t.f4]) (.int .i64 0)).run Tryz.prog w = .ok (.agg #[.int .i64 s.f0, .int .i64 s.f1, .string s.f2, .bool s.f3, .int .i64 s.f4]) w := fun _ => by kernel_rfl
    have i1 : ∀ w, (Instr.index 95 (.agg #[.int .i64 s.f0, .int .i64 s.f1, .string s.f2, .bool s.f3, .int .i64 s.f4, .int .i64 t.f0, .int .i64 t.f1, .string t.f2, .bool t.f3, .int .i64 t.f4]) (.int .i64 1)).run Tryz.prog w = .ok (.agg #[.int .i64 t.f0, .int .i64 t.f1, .string t.f2, .bool t.f3, .int .i64 t.f4]) w := fun _ => by kernel_rfl
    by_cases hs4 : s.f0 = 4
    · have e1 : (s.f0 == 4) = true := by simpa using hs4
      clear hs4
      go_wp2_with (fail)
      refine wp_loop_rounds 1 ?_
      rw [rounds_succ]
      go_wp2_with (fail)
      go_quiet (fail)
      go_wp2
      go_ret2
      have h2 := R.out
      have hs : s.f0 = 4 := by simpa using e1
      unfold ordS at h2
      rw [if_pos hs] at h2
      cases h2
      exact ⟨rfl, by first | exact pw_below_drewN (hw.alloc (by omega) _) _ | (rw [G2.out]; exact pw_below_drewN (hw.alloc (by omega) _) _)⟩
    · have e1 : (s.f0 == 4) = false := by simpa using hs4
      by_cases ht4 : t.f0 = 4
      · have e2 : (t.f0 == 4) = true := by simpa using ht4
        clear ht4 hs4
        go_wp2_with (fail)
        refine wp_loop_rounds 2 ?_
        rw [rounds_succ]
        go_wp2_with (fail)
        rw [rounds_succ]
        go_wp2_with (fail)
        go_quiet (fail)
        go_wp2
        go_ret2
        have h2 := R.out
        have hs : ¬ s.f0 = 4 := by simpa using e1
        have ht : t.f0 = 4 := by simpa using e2
        unfold ordS at h2
        rw [if_neg hs, if_pos ht] at h2
        cases h2
        exact ⟨rfl, by first | exact pw_below_drewN ((hw.alloc (by omega) _).alloc (by simp; omega) _) _ | (rw [G2.out]; exact pw_below_drewN ((hw.alloc (by omega) _).alloc (by simp; omega) _) _)⟩
      · have e2 : (t.f0 == 4) = false := by simpa using ht4
        have R2 : Hid ((r1, r2) = ordB (besV s t) (besV t s)) := by
          have h2 := R.out
          unfold ordS at h2
          rw [if_neg hs4, if_neg ht4] at h2
          exact h2
        clear ht4 hs4 R
        have hbs := fun w => beside_any w s t
        have hbt := fun w => beside_any w t s
        unfold vv at hbs hbt
        go_wp2_with (fail)
        refine wp_loop_rounds 3 ?_
        rw [rounds_succ]
        go_wp2_with (fail)
        rw [rounds_succ]
        go_wp2_with (fail)
        rw [rounds_succ]
        go_upto_region 8 with (fail)
        have W2 : Below g w0 ((wc.alloc (.cells #[.int .i64 s.f0, .int .i64 s.f1, .string s.f2, .bool s.f3, .int .i64 s.f4] 29)).alloc (.cells #[.int .i64 t.f0, .int .i64 t.f1, .string t.f2, .bool t.f3, .int .i64 t.f4] 29)) := (hw.alloc (by omega) _).alloc (by simp; omega) _
        have HA2 : Hid (Box ((wc.alloc (.cells #[.int .i64 s.f0, .int .i64 s.f1, .string s.f2, .bool s.f3, .int .i64 s.f4] 29)).alloc (.cells #[.int .i64 t.f0, .int .i64 t.f1, .string t.f2, .bool t.f3, .int .i64 t.f4] 29)) g s) := HA.out.below (below_alloc (below_alloc (Below.refl _ _) _) _)
        have HB2 : Hid (Box ((wc.alloc (.cells #[.int .i64 s.f0, .int .i64 s.f1, .string s.f2, .bool s.f3, .int .i64 s.f4] 29)).alloc (.cells #[.int .i64 t.f0, .int .i64 t.f1, .string t.f2, .bool t.f3, .int .i64 t.f4] 29)) (g + 1) t) := HB.out.below (below_alloc (below_alloc (Below.refl _ _) _) _)
        generalize ((wc.alloc (.cells #[.int .i64 s.f0, .int .i64 s.f1, .string s.f2, .bool s.f3, .int .i64 s.f4] 29)).alloc (.cells #[.int .i64 t.f0, .int .i64 t.f1, .string t.f2, .bool t.f3, .int .i64 t.f4] 29)) = wx at *
        go_cut [] (fun wd => Box wd g (besV s t) ∧ Box wd (g + 1) (besV t s) ∧ Below g w0 wd)
        case first =>
          clear i0 i1 R2 HA HB
          refine start_ (n := 8) (S := fun w' => w'.cell? ⟨g, 0, none⟩ = some (.int .i64 s.f0) ∧ w'.cell? ⟨g, 1, none⟩ = some (.int .i64 s.f1) ∧ w'.cell? ⟨g, 2, none⟩ = some (.string s.f2) ∧ w'.cell? ⟨g, 3, none⟩ = some (.bool s.f3) ∧ w'.cell? ⟨g, 4, none⟩ = some (.int .i64 s.f4) ∧ w'.cell? ⟨g + 1, 0, none⟩ = some (.int .i64 t.f0) ∧ w'.cell? ⟨g + 1, 1, none⟩ = some (.int .i64 t.f1) ∧ w'.cell? ⟨g + 1, 2, none⟩ = some (.string t.f2) ∧ w'.cell? ⟨g + 1, 3, none⟩ = some (.bool t.f3) ∧ w'.cell? ⟨g + 1, 4, none⟩ = some (.int .i64 t.f4)) (ds := [6, 7]) #[false, false, false, false, false, false, false, false] (by kernel_rfl) rfl rfl ⟨HA2.out.cell0, HA2.out.cell1, HA2.out.cell2, HA2.out.cell3, HA2.out.cell4, HB2.out.cell0, HB2.out.cell1, HB2.out.cell2, HB2.out.cell3, HB2.out.cell4⟩ (fun hHeld => ?_)
          refine with_tabW ord_tab8 ord_bits8 (fun HT_ HW_ => ?_)
          have HA3 : Hid (Box wx.drew g s) := HA2
          have HB3 : Hid (Box wx.drew (g + 1) t) := HB2
          have W3 : Below g w0 wx.drew := W2.drew
          clear HA2 HB2 W2
          generalize wx.drew = wy at HA3 HB3 W3 hHeld ⊢
          refine take_ (i := 0) (N := some 24) (v := ?_) (a' := ?_) #[true, false, false, false, false, false, false, false] rfl rfl (take_ofW HT_.out HW_.out (by kernel_rfl)) (fun _ _ _ h => h) (Or.inl ⟨by rfl, ?_⟩) hHeld ?_ ?_
          rotate_left
          · rintro w' ⟨s0, s1, s2, s3, s4, s5, s6, s7, s8, s9⟩
            go_simp
            with_reducible rfl
          rotate_left
          · simp only [Act.put, List.setIfInBounds_toArray, List.set_cons_zero, List.set_cons_succ, i64_w, i32_w]
            rfl
          refine take_ (i := 1) (N := some 25) (v := ?_) (a' := ?_) #[true, true, false, false, false, false, false, false] rfl rfl (take_ofW HT_.out HW_.out (by kernel_rfl)) (fun _ _ _ h => h) (Or.inl ⟨by rfl, ?_⟩) hHeld ?_ ?_
          rotate_left
          · rintro w' ⟨s0, s1, s2, s3, s4, s5, s6, s7, s8, s9⟩
            go_simp
            with_reducible rfl
          rotate_left
          · simp only [Act.put, List.setIfInBounds_toArray, List.set_cons_zero, List.set_cons_succ, i64_w, i32_w]
            rfl
          refine take_ (i := 3) (N := some 27) (v := ?_) (a' := ?_) #[true, true, false, true, false, false, false, false] rfl rfl (take_ofW HT_.out HW_.out (by kernel_rfl)) (fun _ _ _ h => h) (Or.inl ⟨by rfl, ?_⟩) hHeld ?_ ?_
          rotate_left
          · rintro w' ⟨s0, s1, s2, s3, s4, s5, s6, s7, s8, s9⟩
            go_simp
            with_reducible rfl
          rotate_left
          · simp only [Act.put, List.setIfInBounds_toArray, List.set_cons_zero, List.set_cons_succ, i64_w, i32_w]
            rfl
          refine take_ (i := 4) (N := some 28) (v := ?_) (a' := ?_) #[true, true, false, true, true, false, false, false] rfl rfl (take_ofW HT_.out HW_.out (by kernel_rfl)) (fun _ _ _ h => h) (Or.inl ⟨by rfl, ?_⟩) hHeld ?_ ?_
          rotate_left
          · rintro w' ⟨s0, s1, s2, s3, s4, s5, s6, s7, s8, s9⟩
            go_simp
            with_reducible rfl
          rotate_left
          · simp only [Act.put, List.setIfInBounds_toArray, List.set_cons_zero, List.set_cons_succ, i64_w, i32_w]
            rfl
          refine one_ (i := 2) (N := some 26) #[true, true, true, true, true, false, false, false] rfl rfl (one_of HT_.out (by kernel_rfl)) (by decide) (fun K hK => ?_)
          refine goes_ Tryz.func41 (by kernel_rfl) rfl #[.agg #[.int .i64 s.f0, .int .i64 s.f1, .string s.f2, .bool s.f3, .int .i64 s.f4], .agg #[.int .i64 t.f0, .int .i64 t.f1, .string t.f2, .bool t.f3, .int .i64 t.f4]] (by rfl) rfl rfl (by (try simp only [List.map_toArray, List.map_cons, List.map_nil]); first | done | rfl) ?_
          with_reducible refine (hbs _).mono ?_
          rintro e w1 ⟨rfl, hb⟩
          refine ⟨_, rfl, ?_⟩
          have HA4 := Lib.hid (HA3.out.below hb)
          have HB4 := Lib.hid (HB3.out.below hb)
          have W4 : Below g w0 w1 := below_then W3 (Nat.le_of_lt HA3.out.lt) hb
          clear HA3 HB3 W3 hb
          refine hK.out _ _ ⟨HA4.out.cell0, HA4.out.cell1, HA4.out.cell2, HA4.out.cell3, HA4.out.cell4, HB4.out.cell0, HB4.out.cell1, HB4.out.cell2, HB4.out.cell3, HB4.out.cell4⟩ (fun hHeld => ?_)
          clear hK K
          refine norm_ (a' := ?_) ?_ ?_
          rotate_left
          · show Act.put _ (some 26) _ = _
            simp only [Act.put, List.setIfInBounds_toArray, List.set_cons_zero, List.set_cons_succ, i64_w, i32_w]
            rfl
          refine one_ (i := 5) (N := some 29) #[true, true, true, true, true, true, false, false] rfl rfl (one_of HT_.out (by kernel_rfl)) (by decide) (fun K hK => ?_)
          refine goes_ Tryz.func41 (by kernel_rfl) rfl #[.agg #[.int .i64 t.f0, .int .i64 t.f1, .string t.f2, .bool t.f3, .int .i64 t.f4], .agg #[.int .i64 s.f0, .int .i64 s.f1, .string s.f2, .bool s.f3, .int .i64 s.f4]] (by rfl) rfl rfl (by (try simp only [List.map_toArray, List.map_cons, List.map_nil]); first | done | rfl) ?_
          with_reducible refine (hbt _).mono ?_
          rintro e w2 ⟨rfl, hb⟩
          refine ⟨_, rfl, ?_⟩
          have HA5 := Lib.hid (HA4.out.below hb)
          have HB5 := Lib.hid (HB4.out.below hb)
          have W5 : Below g w0 w2 := below_then W4 (Nat.le_of_lt HA4.out.lt) hb
          clear HA4 HB4 W4 hb
          refine hK.out _ _ ⟨HA5.out.cell0, HA5.out.cell1, HA5.out.cell2, HA5.out.cell3, HA5.out.cell4, HB5.out.cell0, HB5.out.cell1, HB5.out.cell2, HB5.out.cell3, HB5.out.cell4⟩ (fun hHeld => ?_)
          clear hK K
          refine norm_ (a' := ?_) ?_ ?_
          rotate_left
          · show Act.put _ (some 29) _ = _
            simp only [Act.put, List.setIfInBounds_toArray, List.set_cons_zero, List.set_cons_succ, i64_w, i32_w]
            rfl
          refine last_ (i := 6) (N := none) #[true, true, true, true, true, true, true, false] rfl rfl (one_of HT_.out (by kernel_rfl)) (by decide) (fun K hK => ?_)
          have zHA5_0 := HA5.out.cell0
          have yHA5_0 := HA5.out.fr0
          have zHA5_1 := HA5.out.cell1
          have yHA5_1 := HA5.out.fr1
          have zHA5_2 := HA5.out.cell2
          have yHA5_2 := HA5.out.fr2
          have zHA5_3 := HA5.out.cell3
          have yHA5_3 := HA5.out.fr3
          have zHA5_4 := HA5.out.cell4
          have yHA5_4 := HA5.out.fr4
          have lHA5 := HA5.out.lt
          refine skip_ (w1 := ?_) (by rfl) rfl ?_ ?_
          rotate_left
          · go_simp
            rfl
          refine hK.out _ _ ?_
          clear hK K
          refine last_ (i := 7) (N := none) #[true, true, true, true, true, true, true, true] rfl rfl (one_of HT_.out (by kernel_rfl)) (by decide) (fun K hK => ?_)
          have zHB5_0 := HB5.out.cell0
          have yHB5_0 := HB5.out.fr0
          have zHB5_1 := HB5.out.cell1
          have yHB5_1 := HB5.out.fr1
          have zHB5_2 := HB5.out.cell2
          have yHB5_2 := HB5.out.fr2
          have zHB5_3 := HB5.out.cell3
          have yHB5_3 := HB5.out.fr3
          have zHB5_4 := HB5.out.cell4
          have yHB5_4 := HB5.out.fr4
          have lHB5 := HB5.out.lt
          refine skip_ (w1 := ?_) (by rfl) rfl ?_ ?_
          rotate_left
          · go_simp
            rfl
          refine hK.out _ _ ?_
          clear hK K
          refine done_ (done_of HT_.out (by kernel_rfl)) ?_
          try go_wp2
          go_meet
          case rel => exact ⟨(HA5.out.put (besV s t)).away (by omega) (besV t s), (HB5.out.away (by omega) (besV s t)).put (besV t s), below_put (below_put W5 (Nat.le_refl _) (besV s t)) (by omega) (besV t s)⟩
        case rest =>
          obtain ⟨hA, hB, hw⟩ := hcut
          clear hbs hbt HA2 HB2 W2 HA HB i0 i1
          have hX : (besV s t).f0 = 2 → (besV s t).f2.size ≤ 9223372036854775807 := by
            intro h; unfold besV at h ⊢; split
            · exact Nat.zero_le _
            · rename_i h0; rw [if_neg h0] at h; have := tS h; omega
          have hY : (besV t s).f0 = 2 → (besV t s).f2.size ≤ 9223372036854775807 := by
            intro h; unfold besV at h ⊢; split
            · exact Nat.zero_le _
            · rename_i h0; rw [if_neg h0] at h; have := tT h; omega
          clear tS tT
          generalize besV s t = x at *
          generalize besV t s = y at *
          have HA2 := Lib.hid hA
          have HB2 := Lib.hid hB
          clear hA hB
          have zHA2_0 := HA2.out.cell0
          have yHA2_0 := HA2.out.fr0
          have zHA2_1 := HA2.out.cell1
          have yHA2_1 := HA2.out.fr1
          have zHA2_2 := HA2.out.cell2
          have yHA2_2 := HA2.out.fr2
          have zHA2_3 := HA2.out.cell3
          have yHA2_3 := HA2.out.fr3
          have zHA2_4 := HA2.out.cell4
          have yHA2_4 := HA2.out.fr4
          have lHA2 := HA2.out.lt
          have zHB2_0 := HB2.out.cell0
          have yHB2_0 := HB2.out.fr0
          have zHB2_1 := HB2.out.cell1
          have yHB2_1 := HB2.out.fr1
          have zHB2_2 := HB2.out.cell2
          have yHB2_2 := HB2.out.fr2
          have zHB2_3 := HB2.out.cell3
          have yHB2_3 := HB2.out.fr3
          have zHB2_4 := HB2.out.cell4
          have yHB2_4 := HB2.out.fr4
          have lHB2 := HB2.out.lt
          by_cases hk : x.f0 = y.f0
          · have c1 : (x.f0 != y.f0) = false := by simpa using hk
            have c1' : (x.f0 == y.f0) = true := by simpa using hk
            by_cases h1 : x.f0 = 1
            · have c2 : (x.f0 == 1) = true := by simpa using h1
              clear hk h1
              go_wp2_with (go_at_call 43; refine (numcmp_any _ _ _).mono ?_; rintro e w' ⟨rfl, ⟨nd, rfl⟩⟩)
              go_ret2
              have h2 := R2.out
              have hk : x.f0 = y.f0 := by simpa using c1'
              have h1 : x.f0 = 1 := by simpa using c2
              unfold ordB at h2
              rw [if_neg (by simpa using hk), if_pos h1] at h2
              cases h2
              exact ⟨rfl, by first | exact pw_below_drewN hw _ | (rw [G2.out]; exact pw_below_drewN hw _)⟩
            · have c2 : (x.f0 == 1) = false := by simpa using h1
              by_cases h3 : x.f0 = 2
              · have c3 : (x.f0 == 2) = true := by simpa using h3
                have hR : (r1, r2) = (cmpT (letS 65 32 x.f2).toList (letS 65 32 y.f2).toList, 0) := by
                  have h2 := R2.out
                  unfold ordB at h2
                  rw [if_neg (by simpa using hk), if_neg h1, if_pos h3] at h2
                  exact h2
                have hx2 := hX h3
                have hy2 := hY (by rw [← hk]; exact h3)
                cases hR
                clear hk h1 h3 R2 hX hY
                go_wp2_with (fail)
                have W2 := hw
                clear hw
                refine start_ (n := 9) (S := fun w' => w'.cell? ⟨g, 0, none⟩ = some (.int .i64 x.f0) ∧ w'.cell? ⟨g, 1, none⟩ = some (.int .i64 x.f1) ∧ w'.cell? ⟨g, 2, none⟩ = some (.string x.f2) ∧ w'.cell? ⟨g, 3, none⟩ = some (.bool x.f3) ∧ w'.cell? ⟨g, 4, none⟩ = some (.int .i64 x.f4) ∧ w'.cell? ⟨g + 1, 0, none⟩ = some (.int .i64 y.f0) ∧ w'.cell? ⟨g + 1, 1, none⟩ = some (.int .i64 y.f1) ∧ w'.cell? ⟨g + 1, 2, none⟩ = some (.string y.f2) ∧ w'.cell? ⟨g + 1, 3, none⟩ = some (.bool y.f3) ∧ w'.cell? ⟨g + 1, 4, none⟩ = some (.int .i64 y.f4)) (ds := []) #[false, false, false, false, false, false, false, false, false] (by kernel_rfl) rfl rfl ⟨HA2.out.cell0, HA2.out.cell1, HA2.out.cell2, HA2.out.cell3, HA2.out.cell4, HB2.out.cell0, HB2.out.cell1, HB2.out.cell2, HB2.out.cell3, HB2.out.cell4⟩ (fun hHeld => ?_)
                refine with_tabW ord_tab14 ord_bits14 (fun HT_ HW_ => ?_)
                have HA3 : Hid (Box wc.drew g x) := HA2
                have HB3 : Hid (Box wc.drew (g + 1) y) := HB2
                have W3 : Below g w0 wc.drew := W2.drew
                clear HA2 HB2 W2
                generalize wc.drew = wy at HA3 HB3 W3 hHeld ⊢
                refine pure_ (i := 0) (N := some 54) (v := ?_) (a' := ?_) #[true, false, false, false, false, false, false, false, false] rfl rfl (any_of HT_.out (by kernel_rfl)) (fun _ _ _ h => h) (Or.inl ⟨by rfl, ?_⟩) ?_ ?_
                rotate_left
                · intro w'
                  go_simp
                  with_reducible rfl
                rotate_left
                · simp only [Act.put, List.setIfInBounds_toArray, List.set_cons_zero, List.set_cons_succ, i64_w, i32_w]
                  rfl
                refine pure_ (i := 3) (N := some 57) (v := ?_) (a' := ?_) #[true, false, false, true, false, false, false, false, false] rfl rfl (any_of HT_.out (by kernel_rfl)) (fun _ _ _ h => h) (Or.inl ⟨by rfl, ?_⟩) ?_ ?_
                rotate_left
                · intro w'
                  go_simp
                  with_reducible rfl
                rotate_left
                · simp only [Act.put, List.setIfInBounds_toArray, List.set_cons_zero, List.set_cons_succ, i64_w, i32_w]
                  rfl
                refine take_ (i := 1) (N := some 55) (v := ?_) (a' := ?_) #[true, true, false, true, false, false, false, false, false] rfl rfl (take_ofW HT_.out HW_.out (by kernel_rfl)) (fun _ _ _ h => h) (Or.inl ⟨by rfl, ?_⟩) hHeld ?_ ?_
                rotate_left
                · rintro w' ⟨s0, s1, s2, s3, s4, s5, s6, s7, s8, s9⟩
                  go_simp
                  with_reducible rfl
                rotate_left
                · simp only [Act.put, List.setIfInBounds_toArray, List.set_cons_zero, List.set_cons_succ, i64_w, i32_w]
                  rfl
                refine take_ (i := 4) (N := some 58) (v := ?_) (a' := ?_) #[true, true, false, true, true, false, false, false, false] rfl rfl (take_ofW HT_.out HW_.out (by kernel_rfl)) (fun _ _ _ h => h) (Or.inl ⟨by rfl, ?_⟩) hHeld ?_ ?_
                rotate_left
                · rintro w' ⟨s0, s1, s2, s3, s4, s5, s6, s7, s8, s9⟩
                  go_simp
                  with_reducible rfl
                rotate_left
                · simp only [Act.put, List.setIfInBounds_toArray, List.set_cons_zero, List.set_cons_succ, i64_w, i32_w]
                  rfl
                refine one_ (i := 2) (N := some 56) #[true, true, true, true, true, false, false, false, false] rfl rfl (one_of HT_.out (by kernel_rfl)) (by decide) (fun K hK => ?_)
                refine goes_ Tryz.func45 (by kernel_rfl) rfl #[.string x.f2] (by rfl) rfl rfl (by (try simp only [List.map_toArray, List.map_cons, List.map_nil]); first | done | rfl) ?_
                with_reducible refine (lower_any _ x.f2 hx2).mono ?_
                rintro e w1 ⟨rfl, hb⟩
                refine ⟨_, rfl, ?_⟩
                have HA4 := Lib.hid (HA3.out.below hb)
                have HB4 := Lib.hid (HB3.out.below hb)
                have W4 : Below g w0 w1 := below_then W3 (Nat.le_of_lt HA3.out.lt) hb
                clear HA3 HB3 W3 hb
                refine hK.out _ _ ⟨HA4.out.cell0, HA4.out.cell1, HA4.out.cell2, HA4.out.cell3, HA4.out.cell4, HB4.out.cell0, HB4.out.cell1, HB4.out.cell2, HB4.out.cell3, HB4.out.cell4⟩ (fun hHeld => ?_)
                clear hK K
                refine norm_ (a' := ?_) ?_ ?_
                rotate_left
                · show Act.put _ (some 56) _ = _
                  simp only [Act.put, List.setIfInBounds_toArray, List.set_cons_zero, List.set_cons_succ, i64_w, i32_w]
                  rfl
                refine one_ (i := 5) (N := some 59) #[true, true, true, true, true, true, false, false, false] rfl rfl (one_of HT_.out (by kernel_rfl)) (by decide) (fun K hK => ?_)
                refine goes_ Tryz.func45 (by kernel_rfl) rfl #[.string y.f2] (by rfl) rfl rfl (by (try simp only [List.map_toArray, List.map_cons, List.map_nil]); first | done | rfl) ?_
                with_reducible refine (lower_any _ y.f2 hy2).mono ?_
                rintro e w2 ⟨rfl, hb⟩
                refine ⟨_, rfl, ?_⟩
                have HA5 := Lib.hid (HA4.out.below hb)
                have HB5 := Lib.hid (HB4.out.below hb)
                have W5 : Below g w0 w2 := below_then W4 (Nat.le_of_lt HA4.out.lt) hb
                clear HA4 HB4 W4 hb
                refine hK.out _ _ ⟨HA5.out.cell0, HA5.out.cell1, HA5.out.cell2, HA5.out.cell3, HA5.out.cell4, HB5.out.cell0, HB5.out.cell1, HB5.out.cell2, HB5.out.cell3, HB5.out.cell4⟩ (fun hHeld => ?_)
                clear hK K
                refine norm_ (a' := ?_) ?_ ?_
                rotate_left
                · show Act.put _ (some 59) _ = _
                  simp only [Act.put, List.setIfInBounds_toArray, List.set_cons_zero, List.set_cons_succ, i64_w, i32_w]
                  rfl
                refine one_ (i := 6) (N := some 60) #[true, true, true, true, true, true, true, false, false] rfl rfl (one_of HT_.out (by kernel_rfl)) (by decide) (fun K hK => ?_)
                refine goes_ Tryz.func44 (by kernel_rfl) rfl #[.string (letS 65 32 x.f2), .string (letS 65 32 y.f2)] (by rfl) rfl rfl (by (try simp only [List.map_toArray, List.map_cons, List.map_nil]); first | done | rfl) ?_
                with_reducible refine (cmpstr_any _ _ _).mono ?_
                rintro e w3 ⟨rfl, rfl⟩
                refine ⟨_, rfl, ?_⟩
                refine hK.out _ _ ⟨HA5.out.cell0, HA5.out.cell1, HA5.out.cell2, HA5.out.cell3, HA5.out.cell4, HB5.out.cell0, HB5.out.cell1, HB5.out.cell2, HB5.out.cell3, HB5.out.cell4⟩ (fun hHeld => ?_)
                clear hK K
                refine norm_ (a' := ?_) ?_ ?_
                rotate_left
                · show Act.put _ (some 60) _ = _
                  simp only [Act.put, List.setIfInBounds_toArray, List.set_cons_zero, List.set_cons_succ, i64_w, i32_w]
                  rfl
                refine pure_ (i := 7) (N := some 4) (v := ?_) (a' := ?_) #[true, true, true, true, true, true, true, true, false] rfl rfl (any_of HT_.out (by kernel_rfl)) (fun _ _ _ h => h) (Or.inl ⟨by rfl, ?_⟩) ?_ ?_
                rotate_left
                · intro w'
                  go_simp
                  with_reducible rfl
                rotate_left
                · simp only [Act.put, List.setIfInBounds_toArray, List.set_cons_zero, List.set_cons_succ, i64_w, i32_w]
                  rfl
                refine pure_ (i := 8) (N := some 5) (v := ?_) (a' := ?_) #[true, true, true, true, true, true, true, true, true] rfl rfl (any_of HT_.out (by kernel_rfl)) (fun _ _ _ h => h) (Or.inl ⟨by rfl, ?_⟩) ?_ ?_
                rotate_left
                · intro w'
                  go_simp
                  with_reducible rfl
                rotate_left
                · simp only [Act.put, List.setIfInBounds_toArray, List.set_cons_zero, List.set_cons_succ, i64_w, i32_w]
                  rfl
                refine done_ (done_of HT_.out (by kernel_rfl)) ?_
                try go_wp2
                go_ret2
                exact ⟨rfl, by first | exact W5 | (rw [G2.out]; exact W5)⟩
              · have c3 : (x.f0 == 2) = false := by simpa using h3
                have hR : (r1, r2) = (rankB x.f3 - rankB y.f3, 0) := by
                  have h2 := R2.out
                  unfold ordB at h2
                  rw [if_neg (by simpa using hk), if_neg h1, if_neg h3] at h2
                  exact h2
                cases hR
                clear hk h1 h3 R2 hX hY
                go_wp2_with (fail)
                have W2 := hw
                clear hw
                refine start_ (n := 9) (S := fun w' => w'.cell? ⟨g, 0, none⟩ = some (.int .i64 x.f0) ∧ w'.cell? ⟨g, 1, none⟩ = some (.int .i64 x.f1) ∧ w'.cell? ⟨g, 2, none⟩ = some (.string x.f2) ∧ w'.cell? ⟨g, 3, none⟩ = some (.bool x.f3) ∧ w'.cell? ⟨g, 4, none⟩ = some (.int .i64 x.f4) ∧ w'.cell? ⟨g + 1, 0, none⟩ = some (.int .i64 y.f0) ∧ w'.cell? ⟨g + 1, 1, none⟩ = some (.int .i64 y.f1) ∧ w'.cell? ⟨g + 1, 2, none⟩ = some (.string y.f2) ∧ w'.cell? ⟨g + 1, 3, none⟩ = some (.bool y.f3) ∧ w'.cell? ⟨g + 1, 4, none⟩ = some (.int .i64 y.f4)) (ds := []) #[false, false, false, false, false, false, false, false, false] (by kernel_rfl) rfl rfl ⟨HA2.out.cell0, HA2.out.cell1, HA2.out.cell2, HA2.out.cell3, HA2.out.cell4, HB2.out.cell0, HB2.out.cell1, HB2.out.cell2, HB2.out.cell3, HB2.out.cell4⟩ (fun hHeld => ?_)
                refine with_tabW ord_tab15 ord_bits15 (fun HT_ HW_ => ?_)
                have HA3 : Hid (Box wc.drew g x) := HA2
                have HB3 : Hid (Box wc.drew (g + 1) y) := HB2
                have W3 : Below g w0 wc.drew := W2.drew
                clear HA2 HB2 W2
                generalize wc.drew = wy at HA3 HB3 W3 hHeld ⊢
                refine pure_ (i := 0) (N := some 61) (v := ?_) (a' := ?_) #[true, false, false, false, false, false, false, false, false] rfl rfl (any_of HT_.out (by kernel_rfl)) (fun _ _ _ h => h) (Or.inl ⟨by rfl, ?_⟩) ?_ ?_
                rotate_left
                · intro w'
                  go_simp
                  with_reducible rfl
                rotate_left
                · simp only [Act.put, List.setIfInBounds_toArray, List.set_cons_zero, List.set_cons_succ, i64_w, i32_w]
                  rfl
                refine pure_ (i := 3) (N := some 64) (v := ?_) (a' := ?_) #[true, false, false, true, false, false, false, false, false] rfl rfl (any_of HT_.out (by kernel_rfl)) (fun _ _ _ h => h) (Or.inl ⟨by rfl, ?_⟩) ?_ ?_
                rotate_left
                · intro w'
                  go_simp
                  with_reducible rfl
                rotate_left
                · simp only [Act.put, List.setIfInBounds_toArray, List.set_cons_zero, List.set_cons_succ, i64_w, i32_w]
                  rfl
                refine take_ (i := 1) (N := some 62) (v := ?_) (a' := ?_) #[true, true, false, true, false, false, false, false, false] rfl rfl (take_ofW HT_.out HW_.out (by kernel_rfl)) (fun _ _ _ h => h) (Or.inl ⟨by rfl, ?_⟩) hHeld ?_ ?_
                rotate_left
                · rintro w' ⟨s0, s1, s2, s3, s4, s5, s6, s7, s8, s9⟩
                  go_simp
                  with_reducible rfl
                rotate_left
                · simp only [Act.put, List.setIfInBounds_toArray, List.set_cons_zero, List.set_cons_succ, i64_w, i32_w]
                  rfl
                refine take_ (i := 4) (N := some 65) (v := ?_) (a' := ?_) #[true, true, false, true, true, false, false, false, false] rfl rfl (take_ofW HT_.out HW_.out (by kernel_rfl)) (fun _ _ _ h => h) (Or.inl ⟨by rfl, ?_⟩) hHeld ?_ ?_
                rotate_left
                · rintro w' ⟨s0, s1, s2, s3, s4, s5, s6, s7, s8, s9⟩
                  go_simp
                  with_reducible rfl
                rotate_left
                · simp only [Act.put, List.setIfInBounds_toArray, List.set_cons_zero, List.set_cons_succ, i64_w, i32_w]
                  rfl
                refine one_ (i := 2) (N := some 63) #[true, true, true, true, true, false, false, false, false] rfl rfl (one_of HT_.out (by kernel_rfl)) (by decide) (fun K hK => ?_)
                refine goes_ Tryz.func46 (by kernel_rfl) rfl #[.bool x.f3] (by rfl) rfl rfl (by (try simp only [List.map_toArray, List.map_cons, List.map_nil]); first | done | rfl) ?_
                with_reducible refine (rank_any _ _).mono ?_
                rintro e w1 ⟨rfl, ⟨n1, rfl⟩⟩
                refine ⟨_, rfl, ?_⟩
                have HA4 : Hid (Box (wy.drewN n1) g x) := HA3
                have HB4 : Hid (Box (wy.drewN n1) (g + 1) y) := HB3
                have W4 : Below g w0 (wy.drewN n1) := pw_below_drewN W3 n1
                clear HA3 HB3 W3
                generalize wy.drewN n1 = w1 at HA4 HB4 W4 ⊢
                refine hK.out _ _ ⟨HA4.out.cell0, HA4.out.cell1, HA4.out.cell2, HA4.out.cell3, HA4.out.cell4, HB4.out.cell0, HB4.out.cell1, HB4.out.cell2, HB4.out.cell3, HB4.out.cell4⟩ (fun hHeld => ?_)
                clear hK K
                refine norm_ (a' := ?_) ?_ ?_
                rotate_left
                · show Act.put _ (some 63) _ = _
                  simp only [Act.put, List.setIfInBounds_toArray, List.set_cons_zero, List.set_cons_succ, i64_w, i32_w]
                  rfl
                refine one_ (i := 5) (N := some 66) #[true, true, true, true, true, true, false, false, false] rfl rfl (one_of HT_.out (by kernel_rfl)) (by decide) (fun K hK => ?_)
                refine goes_ Tryz.func46 (by kernel_rfl) rfl #[.bool y.f3] (by rfl) rfl rfl (by (try simp only [List.map_toArray, List.map_cons, List.map_nil]); first | done | rfl) ?_
                with_reducible refine (rank_any _ _).mono ?_
                rintro e w2 ⟨rfl, ⟨n2, rfl⟩⟩
                refine ⟨_, rfl, ?_⟩
                have HA5 : Hid (Box (w1.drewN n2) g x) := HA4
                have HB5 : Hid (Box (w1.drewN n2) (g + 1) y) := HB4
                have W5 : Below g w0 (w1.drewN n2) := pw_below_drewN W4 n2
                clear HA4 HB4 W4
                generalize w1.drewN n2 = w2 at HA5 HB5 W5 ⊢
                refine hK.out _ _ ⟨HA5.out.cell0, HA5.out.cell1, HA5.out.cell2, HA5.out.cell3, HA5.out.cell4, HB5.out.cell0, HB5.out.cell1, HB5.out.cell2, HB5.out.cell3, HB5.out.cell4⟩ (fun hHeld => ?_)
                clear hK K
                refine norm_ (a' := ?_) ?_ ?_
                rotate_left
                · show Act.put _ (some 66) _ = _
                  simp only [Act.put, List.setIfInBounds_toArray, List.set_cons_zero, List.set_cons_succ, i64_w, i32_w]
                  rfl
                refine pure_ (i := 6) (N := some 67) (v := ?_) (a' := ?_) #[true, true, true, true, true, true, true, false, false] rfl rfl (any_of HT_.out (by kernel_rfl)) (fun _ _ _ h => h) (Or.inl ⟨by rfl, ?_⟩) ?_ ?_
                rotate_left
                · intro w'
                  go_simp
                  with_reducible rfl
                rotate_left
                · simp only [Act.put, List.setIfInBounds_toArray, List.set_cons_zero, List.set_cons_succ, i64_w, i32_w]
                  rfl
                refine pure_ (i := 7) (N := some 4) (v := ?_) (a' := ?_) #[true, true, true, true, true, true, true, true, false] rfl rfl (any_of HT_.out (by kernel_rfl)) (fun _ _ _ h => h) (Or.inl ⟨by rfl, ?_⟩) ?_ ?_
                rotate_left
                · intro w'
                  go_simp
                  with_reducible rfl
                rotate_left
                · simp only [Act.put, List.setIfInBounds_toArray, List.set_cons_zero, List.set_cons_succ, i64_w, i32_w]
                  rfl
                refine pure_ (i := 8) (N := some 5) (v := ?_) (a' := ?_) #[true, true, true, true, true, true, true, true, true] rfl rfl (any_of HT_.out (by kernel_rfl)) (fun _ _ _ h => h) (Or.inl ⟨by rfl, ?_⟩) ?_ ?_
                rotate_left
                · intro w'
                  go_simp
                  with_reducible rfl
                rotate_left
                · simp only [Act.put, List.setIfInBounds_toArray, List.set_cons_zero, List.set_cons_succ, i64_w, i32_w]
                  rfl
                refine done_ (done_of HT_.out (by kernel_rfl)) ?_
                try go_wp2
                go_ret2
                exact ⟨by show Ending.returned (.tuple #[.int .i64 (wrap64 (rankB x.f3 - rankB y.f3)), .int .i64 0]) = _; rw [rank_wrap], by first | exact W5 | (rw [G2.out]; exact W5)⟩
          · have c1 : (x.f0 != y.f0) = true := by simpa using hk
            clear hk
            go_wp2_with (go_at_call 42; refine (kindcmp_any _ _ _).mono ?_; rintro e w' ⟨rfl, ⟨nd, rfl⟩⟩)
            go_ret2
            have h2 := R2.out
            have hk : ¬ x.f0 = y.f0 := by simpa using c1
            unfold ordB at h2
            rw [if_pos (by simpa using hk)] at h2
            cases h2
            exact ⟨rfl, by first | exact pw_below_drewN hw _ | (rw [G2.out]; exact pw_below_drewN hw _)⟩
def value_Order.f (a0_0 : Int) (a0_1 : Int) (a0_2 : ByteArray) (a0_3 : Bool) (a0_4 : Int) (a1_0 : Int) (a1_1 : Int) (a1_2 : ByteArray) (a1_3 : Bool) (a1_4 : Int) : Option (Int × Int) := some (ordV ⟨a0_0, a0_1, a0_2, a0_3, a0_4⟩ ⟨a1_0, a1_1, a1_2, a1_3, a1_4⟩)
theorem value_Order.calls (a0_0 : Int) (a0_1 : Int) (a0_2 : ByteArray) (a0_3 : Bool) (a0_4 : Int) (a1_0 : Int) (a1_1 : Int) (a1_2 : ByteArray) (a1_3 : Bool) (a1_4 : Int) (r1 r2 : Int) (w : World) (h : value_Order.f a0_0 a0_1 a0_2 a0_3 a0_4 a1_0 a1_1 a1_2 a1_3 a1_4 = some (r1, r2)) :
    Calls Tryz.prog 19 #[.agg #[.int .i64 a0_0, .int .i64 a0_1, .string a0_2, .bool a0_3, .int .i64 a0_4], .agg #[.int .i64 a1_0, .int .i64 a1_1, .string a1_2, .bool a1_3, .int .i64 a1_4]] w fun e w' => e = .returned (.tuple #[.int .i64 r1, .int .i64 r2]) ∧ Below w.heap.size w w' := by
  have h1 := Option.some.inj h
  have h2 := order_any ⟨a0_0, a0_1, a0_2, a0_3, a0_4⟩ ⟨a1_0, a1_1, a1_2, a1_3, a1_4⟩ w
  rw [h1] at h2
  exact h2
end Go.Proofs.YtcihleahjnpaaaaGreatDoor.H
namespace Go.Proofs.YtcihleahjnpaaaaGreatDoor.P
open Go.RowKit Go.Proofs.YtcihleahjnpaaaaGreatDoor.Q Go.Proofs.YtcihleahjnpaaaaGreatDoor.H Go.Proofs.YtcihleahjnpaaaaGreatDoorW.PrintWords Go.Proofs.YtcihleahjnpaaaaGreatDoorW.PrintLast Go.Proofs.YtcihleahjnpaaaaGreatDoorW.PrintMore
attribute [local go_sem] max2_int min2_int max_two min_two max_three min_three max_four min_four   -- for this text's walks alone
set_option linter.unusedVariables false
set_option linter.unusedSimpArgs false
def latticeref01_Good.f (a0 : Int) : Option (Bool) := if a0 ≥ (-9000000000000000000) then (some (decide (a0 ≤ 9000000000000000000))) else (some false)
set_option maxHeartbeats 8000000 in
set_option maxRecDepth 100000 in
theorem latticeref01_Good.calls (a0 : Int) (r : Bool) (w : World) (h : latticeref01_Good.f a0 = some r) :
  Calls Tryz.prog 49 #[.int .i64 a0] w fun e w' => e = .returned (.bool r) ∧ Drawn0 w w' := by
 have H : (if a0 ≥ (-9000000000000000000) then (some (decide (a0 ≤ 9000000000000000000))) else (some false)) = some r := h
 clear h
 by_cases c2 : a0 ≥ (-9000000000000000000)
 ·rw [if_pos c2] at H
  have c2b0 : decide ((-9000000000000000000) ≤ a0) = true := decide_eq_true c2
  clear c2
  obtain rfl := Option.some.inj H
  go_enter Tryz.func49, Tryz.ntmps49
  go_wp2
  go_ret
  exact ⟨by first | rfl | (simp; done) | (simp [*]; done), by repeat (first | exact Drawn0.refl _ | apply Drawn0.step)⟩
 ·rw [if_neg c2] at H
  have c2b0 : decide ((-9000000000000000000) ≤ a0) = false := decide_eq_false c2
  clear c2
  obtain rfl := Option.some.inj H
  go_enter Tryz.func49, Tryz.ntmps49
  go_wp2
  go_ret
  exact ⟨by first | rfl | (simp; done) | (simp [*]; done), by repeat (first | exact Drawn0.refl _ | apply Drawn0.step)⟩
end Go.Proofs.YtcihleahjnpaaaaGreatDoor.P
namespace Go.Proofs.YtcihleahjnpaaaaGreatDoor.P
open Go.RowKit Go.Proofs.YtcihleahjnpaaaaGreatDoor.Q Go.Proofs.YtcihleahjnpaaaaGreatDoor.H Go.Proofs.YtcihleahjnpaaaaGreatDoorW.PrintWords Go.Proofs.YtcihleahjnpaaaaGreatDoorW.PrintLast Go.Proofs.YtcihleahjnpaaaaGreatDoorW.PrintMore
attribute [local go_sem] max2_int min2_int max_two min_two max_three min_three max_four min_four   -- for this text's walks alone
set_option linter.unusedVariables false
set_option linter.unusedSimpArgs false
def latticeref03_Good.f (a0_0 : Int) (a0_1 : Int) (a0_2 : ByteArray) (a0_3 : Bool) (a0_4 : Int) : Option (Bool) := if a0_0 = 0 then (if a0_1 = 0 then (if a0_2.toList = ([] : List UInt8) then (if a0_3 = true then (some false) else (some (a0_4 == 0))) else (some false)) else (some false)) else (if a0_0 = 1 then ((latticeref01_Good.f a0_1).bind fun t187 => (if t187 = true then (if a0_2.toList = ([] : List UInt8) then (if a0_3 = true then (some false) else (some (a0_4 == 0))) else (some false)) else (some false))) else (if a0_0 = 2 then (if a0_1 = 0 then (if (a0_2.size : Int) ≤ 255 then (if a0_3 = true then (some false) else (some (a0_4 == 0))) else (some false)) else (some false)) else (if a0_0 = 3 then (if a0_1 = 0 then (if a0_2.toList = ([] : List UInt8) then (some (a0_4 == 0)) else (some false)) else (some false)) else (if a0_0 = 4 then (if a0_1 = 0 then (if a0_2.toList = ([] : List UInt8) then (if a0_3 = true then (some false) else (if a0_4 ≥ 1 then (some (decide (a0_4 ≤ 8))) else (some false))) else (some false)) else (some false)) else (some false)))))
set_option maxHeartbeats 8000000 in
set_option maxRecDepth 100000 in
theorem latticeref03_Good.calls (a0_0 : Int) (a0_1 : Int) (a0_2 : ByteArray) (a0_3 : Bool) (a0_4 : Int) (r : Bool) (w : World) (h : latticeref03_Good.f a0_0 a0_1 a0_2 a0_3 a0_4 = some r) :
  Calls Tryz.prog 26 #[.agg #[.int .i64 a0_0, .int .i64 a0_1, .string a0_2, .bool a0_3, .int .i64 a0_4]] w fun e w' => e = .returned (.bool r) ∧ Below w.heap.size w w' := by
 have hu30 := Tryz.underlying30
 have HB := Aside0.mk (Below.refl w.heap.size w)
 have H : (if a0_0 = 0 then (if a0_1 = 0 then (if a0_2.toList = ([] : List UInt8) then (if a0_3 = true then (some false) else (some (a0_4 == 0))) else (some false)) else (some false)) else (if a0_0 = 1 then ((latticeref01_Good.f a0_1).bind fun t187 => (if t187 = true then (if a0_2.toList = ([] : List UInt8) then (if a0_3 = true then (some false) else (some (a0_4 == 0))) else (some false)) else (some false))) else (if a0_0 = 2 then (if a0_1 = 0 then (if (a0_2.size : Int) ≤ 255 then (if a0_3 = true then (some false) else (some (a0_4 == 0))) else (some false)) else (some false)) else (if a0_0 = 3 then (if a0_1 = 0 then (if a0_2.toList = ([] : List UInt8) then (some (a0_4 == 0)) else (some false)) else (some false)) else (if a0_0 = 4 then (if a0_1 = 0 then (if a0_2.toList = ([] : List UInt8) then (if a0_3 = true then (some false) else (if a0_4 ≥ 1 then (some (decide (a0_4 ≤ 8))) else (some false))) else (some false)) else (some false)) else (some false)))))) = some r := h
 clear h
 by_cases c2 : a0_0 = 0
 ·rw [if_pos c2] at H
  have c2b0 : (a0_0 == 0) = true := beq_iff_eq.mpr c2
  have c2b1 : (a0_0 != 0) = false := bne_eq_false_iff_eq.mpr c2
  clear c2
  by_cases c3 : a0_1 = 0
  ·rw [if_pos c3] at H
   have c3b0 : (a0_1 == 0) = true := beq_iff_eq.mpr c3
   have c3b1 : (a0_1 != 0) = false := bne_eq_false_iff_eq.mpr c3
   clear c3
   by_cases c4 : a0_2.toList = ([] : List UInt8)
   ·rw [if_pos c4] at H
    have c4b0 : (a0_2.toList == ([] : List UInt8)) = true := beq_iff_eq.mpr c4
    have c4b1 : (a0_2.toList != ([] : List UInt8)) = false := bne_eq_false_iff_eq.mpr c4
    clear c4
    by_cases c5 : a0_3 = true
    ·subst c5
     have H1 : (some false) = some r := by rw [if_pos rfl] at H; exact H
     clear H
     have H := H1
     clear H1
     obtain rfl := Option.some.inj H
     go_enter Tryz.func26, Tryz.ntmps26
     go_wp2_with (first | ((with_reducible refine gate_dst (N := 1) rfl ?_); (try (refine gate_guard (by rfl) ?_; dsimp only)); refine bx (N := 1) (cs := #[.int .i64 a0_0, .int .i64 a0_1, .string a0_2, .bool true, .int .i64 a0_4]) (t := 30) ?_; intro gb186 hg w6 hbox hb; have BK186 := Aside0.mk (hbox); have GW186 := (bw hg); have GE186 := (bw hg); replace HB := (bs hb); clear hb hbox hg; obtain ⟨hcz7_0, hcz7_1, hcz7_2, hcz7_3, hcz7_4, hfz7_0, hfz7_1, hfz7_2, hfz7_3, hfz7_4⟩ := bc5 BK186))
     go_ret
     exact ⟨by first | rfl | (simp [errW_none, errW_some] <;> rfl) | (simp [*, errW_none, errW_some] <;> rfl), be⟩
    ·replace c5 := Bool.eq_false_iff.mpr c5
     subst c5
     have H1 : (some (a0_4 == 0)) = some r := by rw [if_neg (show ¬ (false = true) by decide)] at H; exact H
     clear H
     have H := H1
     clear H1
     obtain rfl := Option.some.inj H
     go_enter Tryz.func26, Tryz.ntmps26
     go_wp2_with (first | ((with_reducible refine gate_dst (N := 1) rfl ?_); (try (refine gate_guard (by rfl) ?_; dsimp only)); refine bx (N := 1) (cs := #[.int .i64 a0_0, .int .i64 a0_1, .string a0_2, .bool false, .int .i64 a0_4]) (t := 30) ?_; intro gb186 hg w8 hbox hb; have BK186 := Aside0.mk (hbox); have GW186 := (bw hg); have GE186 := (bw hg); replace HB := (bs hb); clear hb hbox hg; obtain ⟨hcz9_0, hcz9_1, hcz9_2, hcz9_3, hcz9_4, hfz9_0, hfz9_1, hfz9_2, hfz9_3, hfz9_4⟩ := bc5 BK186))
     go_ret
     exact ⟨by first | rfl | (simp [errW_none, errW_some] <;> rfl) | (simp [*, errW_none, errW_some] <;> rfl), be⟩
   ·rw [if_neg c4] at H
    have c4b0 : (a0_2.toList == ([] : List UInt8)) = false := beq_eq_false_iff_ne.mpr c4
    have c4b1 : (a0_2.toList != ([] : List UInt8)) = true := bne_iff_ne.mpr c4
    obtain rfl := Option.some.inj H
    go_enter Tryz.func26, Tryz.ntmps26
    go_wp2_with (first | ((with_reducible refine gate_dst (N := 1) rfl ?_); (try (refine gate_guard (by rfl) ?_; dsimp only)); refine bx (N := 1) (cs := #[.int .i64 a0_0, .int .i64 a0_1, .string a0_2, .bool a0_3, .int .i64 a0_4]) (t := 30) ?_; intro gb186 hg w10 hbox hb; have BK186 := Aside0.mk (hbox); have GW186 := (bw hg); have GE186 := (bw hg); replace HB := (bs hb); clear hb hbox hg; obtain ⟨hcz11_0, hcz11_1, hcz11_2, hcz11_3, hcz11_4, hfz11_0, hfz11_1, hfz11_2, hfz11_3, hfz11_4⟩ := bc5 BK186))
    go_ret
    exact ⟨by first | rfl | (simp [errW_none, errW_some] <;> rfl) | (simp [*, errW_none, errW_some] <;> rfl), be⟩
  ·rw [if_neg c3] at H
   have c3b0 : (a0_1 == 0) = false := beq_eq_false_iff_ne.mpr c3
   have c3b1 : (a0_1 != 0) = true := bne_iff_ne.mpr c3
   obtain rfl := Option.some.inj H
   go_enter Tryz.func26, Tryz.ntmps26
   go_wp2_with (first | ((with_reducible refine gate_dst (N := 1) rfl ?_); (try (refine gate_guard (by rfl) ?_; dsimp only)); refine bx (N := 1) (cs := #[.int .i64 a0_0, .int .i64 a0_1, .string a0_2, .bool a0_3, .int .i64 a0_4]) (t := 30) ?_; intro gb186 hg w12 hbox hb; have BK186 := Aside0.mk (hbox); have GW186 := (bw hg); have GE186 := (bw hg); replace HB := (bs hb); clear hb hbox hg; obtain ⟨hcz13_0, hcz13_1, hcz13_2, hcz13_3, hcz13_4, hfz13_0, hfz13_1, hfz13_2, hfz13_3, hfz13_4⟩ := bc5 BK186))
   go_ret
   exact ⟨by first | rfl | (simp [errW_none, errW_some] <;> rfl) | (simp [*, errW_none, errW_some] <;> rfl), be⟩
 ·rw [if_neg c2] at H
  have c2b0 : (a0_0 == 0) = false := beq_eq_false_iff_ne.mpr c2
  have c2b1 : (a0_0 != 0) = true := bne_iff_ne.mpr c2
  by_cases c14 : a0_0 = 1
  ·rw [if_pos c14] at H
   have c14b0 : (a0_0 == 1) = true := beq_iff_eq.mpr c14
   have c14b1 : (a0_0 != 1) = false := bne_eq_false_iff_eq.mpr c14
   clear c14
   replace H := Option.bind_eq_some_iff.mp H
   obtain ⟨t187, A150, H⟩ := H
   replace H : (if t187 = true then (if a0_2.toList = ([] : List UInt8) then (if a0_3 = true then (some false) else (some (a0_4 == 0))) else (some false)) else (some false)) = some r := H
   have A15 := Aside0.mk A150
   clear A150
   by_cases c16 : t187 = true
   ·subst c16
    have H1 : (if a0_2.toList = ([] : List UInt8) then (if a0_3 = true then (some false) else (some (a0_4 == 0))) else (some false)) = some r := by rw [if_pos rfl] at H; exact H
    clear H
    have H := H1
    clear H1
    by_cases c17 : a0_2.toList = ([] : List UInt8)
    ·rw [if_pos c17] at H
     have c17b0 : (a0_2.toList == ([] : List UInt8)) = true := beq_iff_eq.mpr c17
     have c17b1 : (a0_2.toList != ([] : List UInt8)) = false := bne_eq_false_iff_eq.mpr c17
     clear c17
     by_cases c18 : a0_3 = true
     ·subst c18
      have H1 : (some false) = some r := by rw [if_pos rfl] at H; exact H
      clear H
      have H := H1
      clear H1
      obtain rfl := Option.some.inj H
      go_enter Tryz.func26, Tryz.ntmps26
      go_wp2_with (first | ((with_reducible refine gate_dst (N := 1) rfl ?_); (try (refine gate_guard (by rfl) ?_; dsimp only)); refine bx (N := 1) (cs := #[.int .i64 a0_0, .int .i64 a0_1, .string a0_2, .bool true, .int .i64 a0_4]) (t := 30) ?_; intro gb186 hg w19 hbox hb; have BK186 := Aside0.mk (hbox); have GW186 := (bw hg); have GE186 := (bw hg); replace HB := (bs hb); clear hb hbox hg; obtain ⟨hcz20_0, hcz20_1, hcz20_2, hcz20_3, hcz20_4, hfz20_0, hfz20_1, hfz20_2, hfz20_3, hfz20_4⟩ := bc5 BK186) | ((with_reducible refine gate_callee (f := 49) rfl ?_); refine gL (some 38) Tryz.func49 #[.int .i64 a0_1] ?_; (with_reducible refine (latticeref01_Good.calls a0_1 true _ A15.out).mono ?_); rintro e w' ⟨rfl, ⟨nd, rfl⟩⟩; refine ⟨_, rfl, ?_⟩))
      go_ret
      exact ⟨by first | rfl | (simp [errW_none, errW_some] <;> rfl) | (simp [*, errW_none, errW_some] <;> rfl), be⟩
     ·replace c18 := Bool.eq_false_iff.mpr c18
      subst c18
      have H1 : (some (a0_4 == 0)) = some r := by rw [if_neg (show ¬ (false = true) by decide)] at H; exact H
      clear H
      have H := H1
      clear H1
      obtain rfl := Option.some.inj H
      go_enter Tryz.func26, Tryz.ntmps26
      go_wp2_with (first | ((with_reducible refine gate_dst (N := 1) rfl ?_); (try (refine gate_guard (by rfl) ?_; dsimp only)); refine bx (N := 1) (cs := #[.int .i64 a0_0, .int .i64 a0_1, .string a0_2, .bool false, .int .i64 a0_4]) (t := 30) ?_; intro gb186 hg w21 hbox hb; have BK186 := Aside0.mk (hbox); have GW186 := (bw hg); have GE186 := (bw hg); replace HB := (bs hb); clear hb hbox hg; obtain ⟨hcz22_0, hcz22_1, hcz22_2, hcz22_3, hcz22_4, hfz22_0, hfz22_1, hfz22_2, hfz22_3, hfz22_4⟩ := bc5 BK186) | ((with_reducible refine gate_callee (f := 49) rfl ?_); refine gL (some 38) Tryz.func49 #[.int .i64 a0_1] ?_; (with_reducible refine (latticeref01_Good.calls a0_1 true _ A15.out).mono ?_); rintro e w' ⟨rfl, ⟨nd, rfl⟩⟩; refine ⟨_, rfl, ?_⟩))
      go_ret
      exact ⟨by first | rfl | (simp [errW_none, errW_some] <;> rfl) | (simp [*, errW_none, errW_some] <;> rfl), be⟩
    ·rw [if_neg c17] at H
     have c17b0 : (a0_2.toList == ([] : List UInt8)) = false := beq_eq_false_iff_ne.mpr c17
     have c17b1 : (a0_2.toList != ([] : List UInt8)) = true := bne_iff_ne.mpr c17
     obtain rfl := Option.some.inj H
     go_enter Tryz.func26, Tryz.ntmps26
     go_wp2_with (first | ((with_reducible refine gate_dst (N := 1) rfl ?_); (try (refine gate_guard (by rfl) ?_; dsimp only)); refine bx (N := 1) (cs := #[.int .i64 a0_0, .int .i64 a0_1, .string a0_2, .bool a0_3, .int .i64 a0_4]) (t := 30) ?_; intro gb186 hg w23 hbox hb; have BK186 := Aside0.mk (hbox); have GW186 := (bw hg); have GE186 := (bw hg); replace HB := (bs hb); clear hb hbox hg; obtain ⟨hcz24_0, hcz24_1, hcz24_2, hcz24_3, hcz24_4, hfz24_0, hfz24_1, hfz24_2, hfz24_3, hfz24_4⟩ := bc5 BK186) | ((with_reducible refine gate_callee (f := 49) rfl ?_); refine gL (some 38) Tryz.func49 #[.int .i64 a0_1] ?_; (with_reducible refine (latticeref01_Good.calls a0_1 true _ A15.out).mono ?_); rintro e w' ⟨rfl, ⟨nd, rfl⟩⟩; refine ⟨_, rfl, ?_⟩))
     go_ret
     exact ⟨by first | rfl | (simp [errW_none, errW_some] <;> rfl) | (simp [*, errW_none, errW_some] <;> rfl), be⟩
   ·replace c16 := Bool.eq_false_iff.mpr c16
    subst c16
    have H1 : (some false) = some r := by rw [if_neg (show ¬ (false = true) by decide)] at H; exact H
    clear H
    have H := H1
    clear H1
    obtain rfl := Option.some.inj H
    go_enter Tryz.func26, Tryz.ntmps26
    go_wp2_with (first | ((with_reducible refine gate_dst (N := 1) rfl ?_); (try (refine gate_guard (by rfl) ?_; dsimp only)); refine bx (N := 1) (cs := #[.int .i64 a0_0, .int .i64 a0_1, .string a0_2, .bool a0_3, .int .i64 a0_4]) (t := 30) ?_; intro gb186 hg w25 hbox hb; have BK186 := Aside0.mk (hbox); have GW186 := (bw hg); have GE186 := (bw hg); replace HB := (bs hb); clear hb hbox hg; obtain ⟨hcz26_0, hcz26_1, hcz26_2, hcz26_3, hcz26_4, hfz26_0, hfz26_1, hfz26_2, hfz26_3, hfz26_4⟩ := bc5 BK186) | ((with_reducible refine gate_callee (f := 49) rfl ?_); refine gL (some 38) Tryz.func49 #[.int .i64 a0_1] ?_; (with_reducible refine (latticeref01_Good.calls a0_1 false _ A15.out).mono ?_); rintro e w' ⟨rfl, ⟨nd, rfl⟩⟩; refine ⟨_, rfl, ?_⟩))
    go_ret
    exact ⟨by first | rfl | (simp [errW_none, errW_some] <;> rfl) | (simp [*, errW_none, errW_some] <;> rfl), be⟩
  ·rw [if_neg c14] at H
   have c14b0 : (a0_0 == 1) = false := beq_eq_false_iff_ne.mpr c14
   have c14b1 : (a0_0 != 1) = true := bne_iff_ne.mpr c14
   by_cases c27 : a0_0 = 2
   ·rw [if_pos c27] at H
    have c27b0 : (a0_0 == 2) = true := beq_iff_eq.mpr c27
    have c27b1 : (a0_0 != 2) = false := bne_eq_false_iff_eq.mpr c27
    clear c27
    by_cases c28 : a0_1 = 0
    ·rw [if_pos c28] at H
     have c28b0 : (a0_1 == 0) = true := beq_iff_eq.mpr c28
     have c28b1 : (a0_1 != 0) = false := bne_eq_false_iff_eq.mpr c28
     clear c28
     by_cases c29 : (a0_2.size : Int) ≤ 255
     ·rw [if_pos c29] at H
      have c29b0 : decide ((a0_2.size : Int) ≤ 255) = true := decide_eq_true c29
      have c29b1 : decide (a0_2.size ≤ 255) = true := decide_eq_true (by omega)
      clear c29
      by_cases c30 : a0_3 = true
      ·subst c30
       have H1 : (some false) = some r := by rw [if_pos rfl] at H; exact H
       clear H
       have H := H1
       clear H1
       obtain rfl := Option.some.inj H
       go_enter Tryz.func26, Tryz.ntmps26
       go_wp2_with (first | ((with_reducible refine gate_dst (N := 1) rfl ?_); (try (refine gate_guard (by rfl) ?_; dsimp only)); refine bx (N := 1) (cs := #[.int .i64 a0_0, .int .i64 a0_1, .string a0_2, .bool true, .int .i64 a0_4]) (t := 30) ?_; intro gb186 hg w31 hbox hb; have BK186 := Aside0.mk (hbox); have GW186 := (bw hg); have GE186 := (bw hg); replace HB := (bs hb); clear hb hbox hg; obtain ⟨hcz32_0, hcz32_1, hcz32_2, hcz32_3, hcz32_4, hfz32_0, hfz32_1, hfz32_2, hfz32_3, hfz32_4⟩ := bc5 BK186))
       go_ret
       exact ⟨by first | rfl | (simp [errW_none, errW_some] <;> rfl) | (simp [*, errW_none, errW_some] <;> rfl), be⟩
      ·replace c30 := Bool.eq_false_iff.mpr c30
       subst c30
       have H1 : (some (a0_4 == 0)) = some r := by rw [if_neg (show ¬ (false = true) by decide)] at H; exact H
       clear H
       have H := H1
       clear H1
       obtain rfl := Option.some.inj H
       go_enter Tryz.func26, Tryz.ntmps26
       go_wp2_with (first | ((with_reducible refine gate_dst (N := 1) rfl ?_); (try (refine gate_guard (by rfl) ?_; dsimp only)); refine bx (N := 1) (cs := #[.int .i64 a0_0, .int .i64 a0_1, .string a0_2, .bool false, .int .i64 a0_4]) (t := 30) ?_; intro gb186 hg w33 hbox hb; have BK186 := Aside0.mk (hbox); have GW186 := (bw hg); have GE186 := (bw hg); replace HB := (bs hb); clear hb hbox hg; obtain ⟨hcz34_0, hcz34_1, hcz34_2, hcz34_3, hcz34_4, hfz34_0, hfz34_1, hfz34_2, hfz34_3, hfz34_4⟩ := bc5 BK186))
       go_ret
       exact ⟨by first | rfl | (simp [errW_none, errW_some] <;> rfl) | (simp [*, errW_none, errW_some] <;> rfl), be⟩
     ·rw [if_neg c29] at H
      have c29b0 : decide ((a0_2.size : Int) ≤ 255) = false := decide_eq_false c29
      have c29b1 : decide (a0_2.size ≤ 255) = false := decide_eq_false (by omega)
      clear c29
      obtain rfl := Option.some.inj H
      go_enter Tryz.func26, Tryz.ntmps26
      go_wp2_with (first | ((with_reducible refine gate_dst (N := 1) rfl ?_); (try (refine gate_guard (by rfl) ?_; dsimp only)); refine bx (N := 1) (cs := #[.int .i64 a0_0, .int .i64 a0_1, .string a0_2, .bool a0_3, .int .i64 a0_4]) (t := 30) ?_; intro gb186 hg w35 hbox hb; have BK186 := Aside0.mk (hbox); have GW186 := (bw hg); have GE186 := (bw hg); replace HB := (bs hb); clear hb hbox hg; obtain ⟨hcz36_0, hcz36_1, hcz36_2, hcz36_3, hcz36_4, hfz36_0, hfz36_1, hfz36_2, hfz36_3, hfz36_4⟩ := bc5 BK186))
      go_ret
      exact ⟨by first | rfl | (simp [errW_none, errW_some] <;> rfl) | (simp [*, errW_none, errW_some] <;> rfl), be⟩
    ·rw [if_neg c28] at H
     have c28b0 : (a0_1 == 0) = false := beq_eq_false_iff_ne.mpr c28
     have c28b1 : (a0_1 != 0) = true := bne_iff_ne.mpr c28
     obtain rfl := Option.some.inj H
     go_enter Tryz.func26, Tryz.ntmps26
     go_wp2_with (first | ((with_reducible refine gate_dst (N := 1) rfl ?_); (try (refine gate_guard (by rfl) ?_; dsimp only)); refine bx (N := 1) (cs := #[.int .i64 a0_0, .int .i64 a0_1, .string a0_2, .bool a0_3, .int .i64 a0_4]) (t := 30) ?_; intro gb186 hg w37 hbox hb; have BK186 := Aside0.mk (hbox); have GW186 := (bw hg); have GE186 := (bw hg); replace HB := (bs hb); clear hb hbox hg; obtain ⟨hcz38_0, hcz38_1, hcz38_2, hcz38_3, hcz38_4, hfz38_0, hfz38_1, hfz38_2, hfz38_3, hfz38_4⟩ := bc5 BK186))
     go_ret
     exact ⟨by first | rfl | (simp [errW_none, errW_some] <;> rfl) | (simp [*, errW_none, errW_some] <;> rfl), be⟩
   ·rw [if_neg c27] at H
    have c27b0 : (a0_0 == 2) = false := beq_eq_false_iff_ne.mpr c27
    have c27b1 : (a0_0 != 2) = true := bne_iff_ne.mpr c27
    by_cases c39 : a0_0 = 3
    ·rw [if_pos c39] at H
     have c39b0 : (a0_0 == 3) = true := beq_iff_eq.mpr c39
     have c39b1 : (a0_0 != 3) = false := bne_eq_false_iff_eq.mpr c39
     clear c39
     by_cases c40 : a0_1 = 0
     ·rw [if_pos c40] at H
      have c40b0 : (a0_1 == 0) = true := beq_iff_eq.mpr c40
      have c40b1 : (a0_1 != 0) = false := bne_eq_false_iff_eq.mpr c40
      clear c40
      by_cases c41 : a0_2.toList = ([] : List UInt8)
      ·rw [if_pos c41] at H
       have c41b0 : (a0_2.toList == ([] : List UInt8)) = true := beq_iff_eq.mpr c41
       have c41b1 : (a0_2.toList != ([] : List UInt8)) = false := bne_eq_false_iff_eq.mpr c41
       clear c41
       obtain rfl := Option.some.inj H
       go_enter Tryz.func26, Tryz.ntmps26
       go_wp2_with (first | ((with_reducible refine gate_dst (N := 1) rfl ?_); (try (refine gate_guard (by rfl) ?_; dsimp only)); refine bx (N := 1) (cs := #[.int .i64 a0_0, .int .i64 a0_1, .string a0_2, .bool a0_3, .int .i64 a0_4]) (t := 30) ?_; intro gb186 hg w42 hbox hb; have BK186 := Aside0.mk (hbox); have GW186 := (bw hg); have GE186 := (bw hg); replace HB := (bs hb); clear hb hbox hg; obtain ⟨hcz43_0, hcz43_1, hcz43_2, hcz43_3, hcz43_4, hfz43_0, hfz43_1, hfz43_2, hfz43_3, hfz43_4⟩ := bc5 BK186))
       go_ret
       exact ⟨by first | rfl | (simp [errW_none, errW_some] <;> rfl) | (simp [*, errW_none, errW_some] <;> rfl), be⟩
      ·rw [if_neg c41] at H
       have c41b0 : (a0_2.toList == ([] : List UInt8)) = false := beq_eq_false_iff_ne.mpr c41
       have c41b1 : (a0_2.toList != ([] : List UInt8)) = true := bne_iff_ne.mpr c41
       obtain rfl := Option.some.inj H
       go_enter Tryz.func26, Tryz.ntmps26
       go_wp2_with (first | ((with_reducible refine gate_dst (N := 1) rfl ?_); (try (refine gate_guard (by rfl) ?_; dsimp only)); refine bx (N := 1) (cs := #[.int .i64 a0_0, .int .i64 a0_1, .string a0_2, .bool a0_3, .int .i64 a0_4]) (t := 30) ?_; intro gb186 hg w44 hbox hb; have BK186 := Aside0.mk (hbox); have GW186 := (bw hg); have GE186 := (bw hg); replace HB := (bs hb); clear hb hbox hg; obtain ⟨hcz45_0, hcz45_1, hcz45_2, hcz45_3, hcz45_4, hfz45_0, hfz45_1, hfz45_2, hfz45_3, hfz45_4⟩ := bc5 BK186))
       go_ret
       exact ⟨by first | rfl | (simp [errW_none, errW_some] <;> rfl) | (simp [*, errW_none, errW_some] <;> rfl), be⟩
     ·rw [if_neg c40] at H
      have c40b0 : (a0_1 == 0) = false := beq_eq_false_iff_ne.mpr c40
      have c40b1 : (a0_1 != 0) = true := bne_iff_ne.mpr c40
      obtain rfl := Option.some.inj H
      go_enter Tryz.func26, Tryz.ntmps26
      go_wp2_with (first | ((with_reducible refine gate_dst (N := 1) rfl ?_); (try (refine gate_guard (by rfl) ?_; dsimp only)); refine bx (N := 1) (cs := #[.int .i64 a0_0, .int .i64 a0_1, .string a0_2, .bool a0_3, .int .i64 a0_4]) (t := 30) ?_; intro gb186 hg w46 hbox hb; have BK186 := Aside0.mk (hbox); have GW186 := (bw hg); have GE186 := (bw hg); replace HB := (bs hb); clear hb hbox hg; obtain ⟨hcz47_0, hcz47_1, hcz47_2, hcz47_3, hcz47_4, hfz47_0, hfz47_1, hfz47_2, hfz47_3, hfz47_4⟩ := bc5 BK186))
      go_ret
      exact ⟨by first | rfl | (simp [errW_none, errW_some] <;> rfl) | (simp [*, errW_none, errW_some] <;> rfl), be⟩
    ·rw [if_neg c39] at H
     have c39b0 : (a0_0 == 3) = false := beq_eq_false_iff_ne.mpr c39
     have c39b1 : (a0_0 != 3) = true := bne_iff_ne.mpr c39
     by_cases c48 : a0_0 = 4
     ·rw [if_pos c48] at H
      have c48b0 : (a0_0 == 4) = true := beq_iff_eq.mpr c48
      have c48b1 : (a0_0 != 4) = false := bne_eq_false_iff_eq.mpr c48
      clear c48
      by_cases c49 : a0_1 = 0
      ·rw [if_pos c49] at H
       have c49b0 : (a0_1 == 0) = true := beq_iff_eq.mpr c49
       have c49b1 : (a0_1 != 0) = false := bne_eq_false_iff_eq.mpr c49
       clear c49
       by_cases c50 : a0_2.toList = ([] : List UInt8)
       ·rw [if_pos c50] at H
        have c50b0 : (a0_2.toList == ([] : List UInt8)) = true := beq_iff_eq.mpr c50
        have c50b1 : (a0_2.toList != ([] : List UInt8)) = false := bne_eq_false_iff_eq.mpr c50
        clear c50
        by_cases c51 : a0_3 = true
        ·subst c51
         have H1 : (some false) = some r := by rw [if_pos rfl] at H; exact H
         clear H
         have H := H1
         clear H1
         obtain rfl := Option.some.inj H
         go_enter Tryz.func26, Tryz.ntmps26
         go_wp2_with (first | ((with_reducible refine gate_dst (N := 1) rfl ?_); (try (refine gate_guard (by rfl) ?_; dsimp only)); refine bx (N := 1) (cs := #[.int .i64 a0_0, .int .i64 a0_1, .string a0_2, .bool true, .int .i64 a0_4]) (t := 30) ?_; intro gb186 hg w52 hbox hb; have BK186 := Aside0.mk (hbox); have GW186 := (bw hg); have GE186 := (bw hg); replace HB := (bs hb); clear hb hbox hg; obtain ⟨hcz53_0, hcz53_1, hcz53_2, hcz53_3, hcz53_4, hfz53_0, hfz53_1, hfz53_2, hfz53_3, hfz53_4⟩ := bc5 BK186))
         go_ret
         exact ⟨by first | rfl | (simp [errW_none, errW_some] <;> rfl) | (simp [*, errW_none, errW_some] <;> rfl), be⟩
        ·replace c51 := Bool.eq_false_iff.mpr c51
         subst c51
         have H1 : (if a0_4 ≥ 1 then (some (decide (a0_4 ≤ 8))) else (some false)) = some r := by rw [if_neg (show ¬ (false = true) by decide)] at H; exact H
         clear H
         have H := H1
         clear H1
         by_cases c54 : a0_4 ≥ 1
         ·rw [if_pos c54] at H
          have c54b0 : decide (1 ≤ a0_4) = true := decide_eq_true c54
          clear c54
          obtain rfl := Option.some.inj H
          go_enter Tryz.func26, Tryz.ntmps26
          go_wp2_with (first | ((with_reducible refine gate_dst (N := 1) rfl ?_); (try (refine gate_guard (by rfl) ?_; dsimp only)); refine bx (N := 1) (cs := #[.int .i64 a0_0, .int .i64 a0_1, .string a0_2, .bool false, .int .i64 a0_4]) (t := 30) ?_; intro gb186 hg w55 hbox hb; have BK186 := Aside0.mk (hbox); have GW186 := (bw hg); have GE186 := (bw hg); replace HB := (bs hb); clear hb hbox hg; obtain ⟨hcz56_0, hcz56_1, hcz56_2, hcz56_3, hcz56_4, hfz56_0, hfz56_1, hfz56_2, hfz56_3, hfz56_4⟩ := bc5 BK186))
          go_ret
          exact ⟨by first | rfl | (simp [errW_none, errW_some] <;> rfl) | (simp [*, errW_none, errW_some] <;> rfl), be⟩
         ·rw [if_neg c54] at H
          have c54b0 : decide (1 ≤ a0_4) = false := decide_eq_false c54
          clear c54
          obtain rfl := Option.some.inj H
          go_enter Tryz.func26, Tryz.ntmps26
          go_wp2_with (first | ((with_reducible refine gate_dst (N := 1) rfl ?_); (try (refine gate_guard (by rfl) ?_; dsimp only)); refine bx (N := 1) (cs := #[.int .i64 a0_0, .int .i64 a0_1, .string a0_2, .bool false, .int .i64 a0_4]) (t := 30) ?_; intro gb186 hg w57 hbox hb; have BK186 := Aside0.mk (hbox); have GW186 := (bw hg); have GE186 := (bw hg); replace HB := (bs hb); clear hb hbox hg; obtain ⟨hcz58_0, hcz58_1, hcz58_2, hcz58_3, hcz58_4, hfz58_0, hfz58_1, hfz58_2, hfz58_3, hfz58_4⟩ := bc5 BK186))
          go_ret
          exact ⟨by first | rfl | (simp [errW_none, errW_some] <;> rfl) | (simp [*, errW_none, errW_some] <;> rfl), be⟩
       ·rw [if_neg c50] at H
        have c50b0 : (a0_2.toList == ([] : List UInt8)) = false := beq_eq_false_iff_ne.mpr c50
        have c50b1 : (a0_2.toList != ([] : List UInt8)) = true := bne_iff_ne.mpr c50
        obtain rfl := Option.some.inj H
        go_enter Tryz.func26, Tryz.ntmps26
        go_wp2_with (first | ((with_reducible refine gate_dst (N := 1) rfl ?_); (try (refine gate_guard (by rfl) ?_; dsimp only)); refine bx (N := 1) (cs := #[.int .i64 a0_0, .int .i64 a0_1, .string a0_2, .bool a0_3, .int .i64 a0_4]) (t := 30) ?_; intro gb186 hg w59 hbox hb; have BK186 := Aside0.mk (hbox); have GW186 := (bw hg); have GE186 := (bw hg); replace HB := (bs hb); clear hb hbox hg; obtain ⟨hcz60_0, hcz60_1, hcz60_2, hcz60_3, hcz60_4, hfz60_0, hfz60_1, hfz60_2, hfz60_3, hfz60_4⟩ := bc5 BK186))
        go_ret
        exact ⟨by first | rfl | (simp [errW_none, errW_some] <;> rfl) | (simp [*, errW_none, errW_some] <;> rfl), be⟩
      ·rw [if_neg c49] at H
       have c49b0 : (a0_1 == 0) = false := beq_eq_false_iff_ne.mpr c49
       have c49b1 : (a0_1 != 0) = true := bne_iff_ne.mpr c49
       obtain rfl := Option.some.inj H
       go_enter Tryz.func26, Tryz.ntmps26
       go_wp2_with (first | ((with_reducible refine gate_dst (N := 1) rfl ?_); (try (refine gate_guard (by rfl) ?_; dsimp only)); refine bx (N := 1) (cs := #[.int .i64 a0_0, .int .i64 a0_1, .string a0_2, .bool a0_3, .int .i64 a0_4]) (t := 30) ?_; intro gb186 hg w61 hbox hb; have BK186 := Aside0.mk (hbox); have GW186 := (bw hg); have GE186 := (bw hg); replace HB := (bs hb); clear hb hbox hg; obtain ⟨hcz62_0, hcz62_1, hcz62_2, hcz62_3, hcz62_4, hfz62_0, hfz62_1, hfz62_2, hfz62_3, hfz62_4⟩ := bc5 BK186))
       go_ret
       exact ⟨by first | rfl | (simp [errW_none, errW_some] <;> rfl) | (simp [*, errW_none, errW_some] <;> rfl), be⟩
     ·rw [if_neg c48] at H
      have c48b0 : (a0_0 == 4) = false := beq_eq_false_iff_ne.mpr c48
      have c48b1 : (a0_0 != 4) = true := bne_iff_ne.mpr c48
      obtain rfl := Option.some.inj H
      go_enter Tryz.func26, Tryz.ntmps26
      go_wp2_with (first | ((with_reducible refine gate_dst (N := 1) rfl ?_); (try (refine gate_guard (by rfl) ?_; dsimp only)); refine bx (N := 1) (cs := #[.int .i64 a0_0, .int .i64 a0_1, .string a0_2, .bool a0_3, .int .i64 a0_4]) (t := 30) ?_; intro gb186 hg w63 hbox hb; have BK186 := Aside0.mk (hbox); have GW186 := (bw hg); have GE186 := (bw hg); replace HB := (bs hb); clear hb hbox hg; obtain ⟨hcz64_0, hcz64_1, hcz64_2, hcz64_3, hcz64_4, hfz64_0, hfz64_1, hfz64_2, hfz64_3, hfz64_4⟩ := bc5 BK186))
      go_ret
      exact ⟨by first | rfl | (simp [errW_none, errW_some] <;> rfl) | (simp [*, errW_none, errW_some] <;> rfl), be⟩
end Go.Proofs.YtcihleahjnpaaaaGreatDoor.P
namespace Go.Proofs.YtcihleahjnpaaaaGreatDoor.P
open Go.RowKit Go.Proofs.YtcihleahjnpaaaaGreatDoor.Q Go.Proofs.YtcihleahjnpaaaaGreatDoor.H Go.Proofs.YtcihleahjnpaaaaGreatDoorW.PrintWords Go.Proofs.YtcihleahjnpaaaaGreatDoorW.PrintLast Go.Proofs.YtcihleahjnpaaaaGreatDoorW.PrintMore
attribute [local go_sem] max2_int min2_int max_two min_two max_three min_three max_four min_four   -- for this text's walks alone
set_option linter.unusedVariables false
set_option linter.unusedSimpArgs false
def latticeref03_E.f (a0 : Int) : Option (Int × Int × ByteArray × Bool × Int) := if a0 < 1 then (some (4, 0, (⟨#[]⟩ : ByteArray), false, 3)) else (if a0 > 8 then (some (4, 0, (⟨#[]⟩ : ByteArray), false, 3)) else (some (4, 0, (⟨#[]⟩ : ByteArray), false, a0)))
set_option maxHeartbeats 8000000 in
set_option maxRecDepth 100000 in
theorem latticeref03_E.calls (a0 : Int) (r1 : Int) (r2 : Int) (r3 : ByteArray) (r4 : Bool) (r5 : Int) (w : World) (h : latticeref03_E.f a0 = some (r1, r2, r3, r4, r5)) :
  Calls Tryz.prog 73 #[.int .i64 a0] w fun e w' => e = .returned (.agg #[.int .i64 r1, .int .i64 r2, .string r3, .bool r4, .int .i64 r5]) ∧ Below w.heap.size w w' := by
 have hu30 := Tryz.underlying30
 have HB := Aside0.mk (Below.refl w.heap.size w)
 have H : (if a0 < 1 then (some (4, 0, (⟨#[]⟩ : ByteArray), false, 3)) else (if a0 > 8 then (some (4, 0, (⟨#[]⟩ : ByteArray), false, 3)) else (some (4, 0, (⟨#[]⟩ : ByteArray), false, a0)))) = some (r1, r2, r3, r4, r5) := h
 clear h
 by_cases c2 : a0 < 1
 ·rw [if_pos c2] at H
  have c2b0 : decide (a0 < 1) = true := decide_eq_true c2
  clear c2
  simp only [Option.some.injEq, Prod.mk.injEq] at H
  obtain ⟨rfl, rfl, rfl, rfl, rfl⟩ := H
  go_enter Tryz.func73, Tryz.ntmps73
  go_wp2_with (first | ((with_reducible refine gate_dst (N := 2) rfl ?_); refine bx (N := 2) (cs := #[.int .i64 0, .int .i64 0, .string (⟨#[]⟩ : ByteArray), .bool false, .int .i64 0]) (t := 30) ?_; intro gb188 hg w3 hbox hb; have BK188 := Aside0.mk (hbox); have GW188 := (bw hg); have GE188 := (bw hg); replace HB := (bs hb); clear hb hbox hg; obtain ⟨hcz4_0, hcz4_1, hcz4_2, hcz4_3, hcz4_4, hfz4_0, hfz4_1, hfz4_2, hfz4_3, hfz4_4⟩ := bc5 BK188))
  refine bodyPost_ret (results_cell_row rfl _ _ gb188 30 #[.int .i64 4, .int .i64 0, .string (⟨#[]⟩ : ByteArray), .bool false, .int .i64 3] (0, 0) _ rfl (by (with_reducible repeat (first | refine blk_drewN ?_ _ | refine blk_drew ?_ | refine blk_alloc ?_ _)); refine blk_put (cs := #[.int .i64 4, .int .i64 0, .string (⟨#[]⟩ : ByteArray), .bool false, .int .i64 0]) ?_ 4 _ rfl; (with_reducible repeat (first | refine blk_drewN ?_ _ | refine blk_drew ?_ | refine blk_alloc ?_ _)); refine blk_put (cs := #[.int .i64 4, .int .i64 0, .string (⟨#[]⟩ : ByteArray), .bool false, .int .i64 0]) ?_ 3 _ rfl; (with_reducible repeat (first | refine blk_drewN ?_ _ | refine blk_drew ?_ | refine blk_alloc ?_ _)); refine blk_put (cs := #[.int .i64 4, .int .i64 0, .string (⟨#[]⟩ : ByteArray), .bool false, .int .i64 0]) ?_ 2 _ rfl; (with_reducible repeat (first | refine blk_drewN ?_ _ | refine blk_drew ?_ | refine blk_alloc ?_ _)); refine blk_put (cs := #[.int .i64 4, .int .i64 0, .string (⟨#[]⟩ : ByteArray), .bool false, .int .i64 0]) ?_ 1 _ rfl; (with_reducible repeat (first | refine blk_drewN ?_ _ | refine blk_drew ?_ | refine blk_alloc ?_ _)); refine blk_put (cs := #[.int .i64 0, .int .i64 0, .string (⟨#[]⟩ : ByteArray), .bool false, .int .i64 0]) ?_ 0 _ rfl; (with_reducible repeat (first | refine blk_drewN ?_ _ | refine blk_drew ?_ | refine blk_alloc ?_ _)); exact BK188.out) Tryz.underlying30 rfl (by kernel_rfl)) rfl ?_
  exact ⟨by first | rfl | (simp [errW_none, errW_some] <;> rfl) | (simp [*, errW_none, errW_some] <;> rfl), be⟩
 ·rw [if_neg c2] at H
  have c2b0 : decide (a0 < 1) = false := decide_eq_false c2
  clear c2
  by_cases c5 : a0 > 8
  ·rw [if_pos c5] at H
   have c5b0 : decide (8 < a0) = true := decide_eq_true c5
   clear c5
   simp only [Option.some.injEq, Prod.mk.injEq] at H
   obtain ⟨rfl, rfl, rfl, rfl, rfl⟩ := H
   go_enter Tryz.func73, Tryz.ntmps73
   go_wp2_with (first | ((with_reducible refine gate_dst (N := 2) rfl ?_); refine bx (N := 2) (cs := #[.int .i64 0, .int .i64 0, .string (⟨#[]⟩ : ByteArray), .bool false, .int .i64 0]) (t := 30) ?_; intro gb188 hg w6 hbox hb; have BK188 := Aside0.mk (hbox); have GW188 := (bw hg); have GE188 := (bw hg); replace HB := (bs hb); clear hb hbox hg; obtain ⟨hcz7_0, hcz7_1, hcz7_2, hcz7_3, hcz7_4, hfz7_0, hfz7_1, hfz7_2, hfz7_3, hfz7_4⟩ := bc5 BK188))
   refine bodyPost_ret (results_cell_row rfl _ _ gb188 30 #[.int .i64 4, .int .i64 0, .string (⟨#[]⟩ : ByteArray), .bool false, .int .i64 3] (0, 0) _ rfl (by (with_reducible repeat (first | refine blk_drewN ?_ _ | refine blk_drew ?_ | refine blk_alloc ?_ _)); refine blk_put (cs := #[.int .i64 4, .int .i64 0, .string (⟨#[]⟩ : ByteArray), .bool false, .int .i64 0]) ?_ 4 _ rfl; (with_reducible repeat (first | refine blk_drewN ?_ _ | refine blk_drew ?_ | refine blk_alloc ?_ _)); refine blk_put (cs := #[.int .i64 4, .int .i64 0, .string (⟨#[]⟩ : ByteArray), .bool false, .int .i64 0]) ?_ 3 _ rfl; (with_reducible repeat (first | refine blk_drewN ?_ _ | refine blk_drew ?_ | refine blk_alloc ?_ _)); refine blk_put (cs := #[.int .i64 4, .int .i64 0, .string (⟨#[]⟩ : ByteArray), .bool false, .int .i64 0]) ?_ 2 _ rfl; (with_reducible repeat (first | refine blk_drewN ?_ _ | refine blk_drew ?_ | refine blk_alloc ?_ _)); refine blk_put (cs := #[.int .i64 4, .int .i64 0, .string (⟨#[]⟩ : ByteArray), .bool false, .int .i64 0]) ?_ 1 _ rfl; (with_reducible repeat (first | refine blk_drewN ?_ _ | refine blk_drew ?_ | refine blk_alloc ?_ _)); refine blk_put (cs := #[.int .i64 0, .int .i64 0, .string (⟨#[]⟩ : ByteArray), .bool false, .int .i64 0]) ?_ 0 _ rfl; (with_reducible repeat (first | refine blk_drewN ?_ _ | refine blk_drew ?_ | refine blk_alloc ?_ _)); exact BK188.out) Tryz.underlying30 rfl (by kernel_rfl)) rfl ?_
   exact ⟨by first | rfl | (simp [errW_none, errW_some] <;> rfl) | (simp [*, errW_none, errW_some] <;> rfl), be⟩
  ·rw [if_neg c5] at H
   have c5b0 : decide (8 < a0) = false := decide_eq_false c5
   clear c5
   simp only [Option.some.injEq, Prod.mk.injEq] at H
   obtain ⟨rfl, rfl, rfl, rfl, rfl⟩ := H
   go_enter Tryz.func73, Tryz.ntmps73
   go_wp2_with (first | ((with_reducible refine gate_dst (N := 2) rfl ?_); refine bx (N := 2) (cs := #[.int .i64 0, .int .i64 0, .string (⟨#[]⟩ : ByteArray), .bool false, .int .i64 0]) (t := 30) ?_; intro gb188 hg w8 hbox hb; have BK188 := Aside0.mk (hbox); have GW188 := (bw hg); have GE188 := (bw hg); replace HB := (bs hb); clear hb hbox hg; obtain ⟨hcz9_0, hcz9_1, hcz9_2, hcz9_3, hcz9_4, hfz9_0, hfz9_1, hfz9_2, hfz9_3, hfz9_4⟩ := bc5 BK188))
   refine bodyPost_ret (results_cell_row rfl _ _ gb188 30 #[.int .i64 4, .int .i64 0, .string (⟨#[]⟩ : ByteArray), .bool false, .int .i64 a0] (0, 0) _ rfl (by (with_reducible repeat (first | refine blk_drewN ?_ _ | refine blk_drew ?_ | refine blk_alloc ?_ _)); refine blk_put (cs := #[.int .i64 4, .int .i64 0, .string (⟨#[]⟩ : ByteArray), .bool false, .int .i64 0]) ?_ 4 _ rfl; (with_reducible repeat (first | refine blk_drewN ?_ _ | refine blk_drew ?_ | refine blk_alloc ?_ _)); refine blk_put (cs := #[.int .i64 4, .int .i64 0, .string (⟨#[]⟩ : ByteArray), .bool false, .int .i64 0]) ?_ 3 _ rfl; (with_reducible repeat (first | refine blk_drewN ?_ _ | refine blk_drew ?_ | refine blk_alloc ?_ _)); refine blk_put (cs := #[.int .i64 4, .int .i64 0, .string (⟨#[]⟩ : ByteArray), .bool false, .int .i64 0]) ?_ 2 _ rfl; (with_reducible repeat (first | refine blk_drewN ?_ _ | refine blk_drew ?_ | refine blk_alloc ?_ _)); refine blk_put (cs := #[.int .i64 4, .int .i64 0, .string (⟨#[]⟩ : ByteArray), .bool false, .int .i64 0]) ?_ 1 _ rfl; (with_reducible repeat (first | refine blk_drewN ?_ _ | refine blk_drew ?_ | refine blk_alloc ?_ _)); refine blk_put (cs := #[.int .i64 0, .int .i64 0, .string (⟨#[]⟩ : ByteArray), .bool false, .int .i64 0]) ?_ 0 _ rfl; (with_reducible repeat (first | refine blk_drewN ?_ _ | refine blk_drew ?_ | refine blk_alloc ?_ _)); exact BK188.out) Tryz.underlying30 rfl (by kernel_rfl)) rfl ?_
   exact ⟨by first | rfl | (simp [errW_none, errW_some] <;> rfl) | (simp [*, errW_none, errW_some] <;> rfl), be⟩
end Go.Proofs.YtcihleahjnpaaaaGreatDoor.P
namespace Go.Proofs.YtcihleahjnpaaaaGreatDoor.P
open Go.RowKit Go.Proofs.YtcihleahjnpaaaaGreatDoor.Q Go.Proofs.YtcihleahjnpaaaaGreatDoor.H Go.Proofs.YtcihleahjnpaaaaGreatDoorW.PrintWords Go.Proofs.YtcihleahjnpaaaaGreatDoorW.PrintLast Go.Proofs.YtcihleahjnpaaaaGreatDoorW.PrintMore
attribute [local go_sem] max2_int min2_int max_two min_two max_three min_three max_four min_four   -- for this text's walks alone
set_option linter.unusedVariables false
set_option linter.unusedSimpArgs false
def latticeref03_Sound.f (a0_0 : Int) (a0_1 : Int) (a0_2 : ByteArray) (a0_3 : Bool) (a0_4 : Int) : Option (Int × Int × ByteArray × Bool × Int) := (latticeref03_Good.f a0_0 a0_1 a0_2 a0_3 a0_4).bind fun t191 => (if t191 = true then (some (a0_0, a0_1, a0_2, a0_3, a0_4)) else ((latticeref03_E.f 3).bind fun bt192 => (some (bt192.1, bt192.2.1, bt192.2.2.1, bt192.2.2.2.1, bt192.2.2.2.2))))
set_option maxHeartbeats 8000000 in
set_option maxRecDepth 100000 in
theorem latticeref03_Sound.calls (a0_0 : Int) (a0_1 : Int) (a0_2 : ByteArray) (a0_3 : Bool) (a0_4 : Int) (r1 : Int) (r2 : Int) (r3 : ByteArray) (r4 : Bool) (r5 : Int) (w : World) (h : latticeref03_Sound.f a0_0 a0_1 a0_2 a0_3 a0_4 = some (r1, r2, r3, r4, r5)) :
  Calls Tryz.prog 50 #[.agg #[.int .i64 a0_0, .int .i64 a0_1, .string a0_2, .bool a0_3, .int .i64 a0_4]] w fun e w' => e = .returned (.agg #[.int .i64 r1, .int .i64 r2, .string r3, .bool r4, .int .i64 r5]) ∧ Below w.heap.size w w' := by
 have hu30 := Tryz.underlying30
 have HB := Aside0.mk (Below.refl w.heap.size w)
 have H : ((latticeref03_Good.f a0_0 a0_1 a0_2 a0_3 a0_4).bind fun t191 => (if t191 = true then (some (a0_0, a0_1, a0_2, a0_3, a0_4)) else ((latticeref03_E.f 3).bind fun bt192 => (some (bt192.1, bt192.2.1, bt192.2.2.1, bt192.2.2.2.1, bt192.2.2.2.2))))) = some (r1, r2, r3, r4, r5) := h
 clear h
 replace H := Option.bind_eq_some_iff.mp H
 obtain ⟨t191, A20, H⟩ := H
 replace H : (if t191 = true then (some (a0_0, a0_1, a0_2, a0_3, a0_4)) else ((latticeref03_E.f 3).bind fun bt192 => (some (bt192.1, bt192.2.1, bt192.2.2.1, bt192.2.2.2.1, bt192.2.2.2.2)))) = some (r1, r2, r3, r4, r5) := H
 have A2 := Aside0.mk A20
 clear A20
 by_cases c3 : t191 = true
 ·subst c3
  have H1 : (some (a0_0, a0_1, a0_2, a0_3, a0_4)) = some (r1, r2, r3, r4, r5) := by rw [if_pos rfl] at H; exact H
  clear H
  have H := H1
  clear H1
  simp only [Option.some.injEq, Prod.mk.injEq] at H
  obtain ⟨rfl, rfl, rfl, rfl, rfl⟩ := H
  go_enter Tryz.func50, Tryz.ntmps50
  go_wp2_with (first | ((with_reducible refine gate_dst (N := 1) rfl ?_); refine bx (N := 1) (cs := #[.int .i64 a0_0, .int .i64 a0_1, .string a0_2, .bool a0_3, .int .i64 a0_4]) (t := 30) ?_; intro gb189 hg w4 hbox hb; have BK189 := Aside0.mk (hbox); have GW189 := (bw hg); have GE189 := (bw hg); replace HB := (bs hb); clear hb hbox hg) | ((with_reducible refine gate_dst (N := 2) rfl ?_); refine bx (N := 2) (cs := #[.int .i64 0, .int .i64 0, .string (⟨#[]⟩ : ByteArray), .bool false, .int .i64 0]) (t := 30) ?_; intro gb190 hg w5 hbox hb; have BK190 := Aside0.mk (hbox); have GW190 := (bw hg); have GE190 := (bw hg); replace HB := (bs hb); have NB189_190 := Aside0.mk ((by rw [hg]; exact Nat.ne_of_lt (blk_lt (g := gb189) (o := .cells #[.int .i64 a0_0, .int .i64 a0_1, .string a0_2, .bool a0_3, .int .i64 a0_4] 30 (0, 0)) (by (with_reducible repeat (first | refine blk_drewN ?_ _ | refine blk_drew ?_ | refine blk_alloc ?_ _)); exact BK189.out)) : gb189 ≠ gb190)); have NB190_189 := Aside0.mk ((by rw [hg]; exact Nat.ne_of_gt (blk_lt (g := gb189) (o := .cells #[.int .i64 a0_0, .int .i64 a0_1, .string a0_2, .bool a0_3, .int .i64 a0_4] 30 (0, 0)) (by (with_reducible repeat (first | refine blk_drewN ?_ _ | refine blk_drew ?_ | refine blk_alloc ?_ _)); exact BK189.out)) : gb190 ≠ gb189)); replace BK189 := (bb BK189 hb); clear hb hbox hg; have hnb6 := NB189_190.out; have hnc6 := NB190_189.out; obtain ⟨hcz7_0, hcz7_1, hcz7_2, hcz7_3, hcz7_4, hfz7_0, hfz7_1, hfz7_2, hfz7_3, hfz7_4⟩ := bc5 BK189) | ((with_reducible refine gate_callee (f := 26) rfl ?_); refine gL (some 5) Tryz.func26 #[.agg #[.int .i64 a0_0, .int .i64 a0_1, .string a0_2, .bool a0_3, .int .i64 a0_4]] ?_; (with_reducible refine (latticeref03_Good.calls a0_0 a0_1 a0_2 a0_3 a0_4 true _ A2.out).mono ?_); rintro e w8 ⟨rfl, hb⟩; refine ⟨_, rfl, ?_⟩; replace BK189 := (bb BK189 hb); replace BK190 := (bb BK190 hb); replace HB := (bs hb); (try clear hb); obtain ⟨hcz9_0, hcz9_1, hcz9_2, hcz9_3, hcz9_4, hfz9_0, hfz9_1, hfz9_2, hfz9_3, hfz9_4⟩ := bc5 BK189; obtain ⟨hcz10_0, hcz10_1, hcz10_2, hcz10_3, hcz10_4, hfz10_0, hfz10_1, hfz10_2, hfz10_3, hfz10_4⟩ := bc5 BK190))
  refine bodyPost_ret (results_cell_row rfl _ _ gb190 30 #[.int .i64 a0_0, .int .i64 a0_1, .string a0_2, .bool a0_3, .int .i64 a0_4] (0, 0) _ rfl (by (with_reducible repeat (first | refine blk_drewN ?_ _ | refine blk_drew ?_ | refine blk_alloc ?_ _)); refine blk_put (cs := #[.int .i64 a0_0, .int .i64 a0_1, .string a0_2, .bool a0_3, .int .i64 0]) ?_ 4 _ rfl; (with_reducible repeat (first | refine blk_drewN ?_ _ | refine blk_drew ?_ | refine blk_alloc ?_ _)); refine blk_put (cs := #[.int .i64 a0_0, .int .i64 a0_1, .string a0_2, .bool false, .int .i64 0]) ?_ 3 _ rfl; (with_reducible repeat (first | refine blk_drewN ?_ _ | refine blk_drew ?_ | refine blk_alloc ?_ _)); refine blk_put (cs := #[.int .i64 a0_0, .int .i64 a0_1, .string (⟨#[]⟩ : ByteArray), .bool false, .int .i64 0]) ?_ 2 _ rfl; (with_reducible repeat (first | refine blk_drewN ?_ _ | refine blk_drew ?_ | refine blk_alloc ?_ _)); refine blk_put (cs := #[.int .i64 a0_0, .int .i64 0, .string (⟨#[]⟩ : ByteArray), .bool false, .int .i64 0]) ?_ 1 _ rfl; (with_reducible repeat (first | refine blk_drewN ?_ _ | refine blk_drew ?_ | refine blk_alloc ?_ _)); refine blk_put (cs := #[.int .i64 0, .int .i64 0, .string (⟨#[]⟩ : ByteArray), .bool false, .int .i64 0]) ?_ 0 _ rfl; (with_reducible repeat (first | refine blk_drewN ?_ _ | refine blk_drew ?_ | refine blk_alloc ?_ _)); exact BK190.out) Tryz.underlying30 rfl (by kernel_rfl)) rfl ?_
  exact ⟨by first | rfl | (simp [errW_none, errW_some] <;> rfl) | (simp [*, errW_none, errW_some] <;> rfl), be⟩
 ·replace c3 := Bool.eq_false_iff.mpr c3
  subst c3
  have H1 : ((latticeref03_E.f 3).bind fun bt192 => (some (bt192.1, bt192.2.1, bt192.2.2.1, bt192.2.2.2.1, bt192.2.2.2.2))) = some (r1, r2, r3, r4, r5) := by rw [if_neg (show ¬ (false = true) by decide)] at H; exact H
  clear H
  have H := H1
  clear H1
  replace H := Option.bind_eq_some_iff.mp H
  obtain ⟨⟨t192, t193, t194, t195, t196⟩, A110, H⟩ := H
  replace H : (some (t192, t193, t194, t195, t196)) = some (r1, r2, r3, r4, r5) := H
  have A11 := Aside0.mk A110
  clear A110
  simp only [Option.some.injEq, Prod.mk.injEq] at H
  obtain ⟨rfl, rfl, rfl, rfl, rfl⟩ := H
  go_enter Tryz.func50, Tryz.ntmps50
  go_wp2_with (first | ((with_reducible refine gate_dst (N := 1) rfl ?_); refine bx (N := 1) (cs := #[.int .i64 a0_0, .int .i64 a0_1, .string a0_2, .bool a0_3, .int .i64 a0_4]) (t := 30) ?_; intro gb189 hg w12 hbox hb; have BK189 := Aside0.mk (hbox); have GW189 := (bw hg); have GE189 := (bw hg); replace HB := (bs hb); clear hb hbox hg) | ((with_reducible refine gate_dst (N := 2) rfl ?_); refine bx (N := 2) (cs := #[.int .i64 0, .int .i64 0, .string (⟨#[]⟩ : ByteArray), .bool false, .int .i64 0]) (t := 30) ?_; intro gb190 hg w13 hbox hb; have BK190 := Aside0.mk (hbox); have GW190 := (bw hg); have GE190 := (bw hg); replace HB := (bs hb); have NB189_190 := Aside0.mk ((by rw [hg]; exact Nat.ne_of_lt (blk_lt (g := gb189) (o := .cells #[.int .i64 a0_0, .int .i64 a0_1, .string a0_2, .bool a0_3, .int .i64 a0_4] 30 (0, 0)) (by (with_reducible repeat (first | refine blk_drewN ?_ _ | refine blk_drew ?_ | refine blk_alloc ?_ _)); exact BK189.out)) : gb189 ≠ gb190)); have NB190_189 := Aside0.mk ((by rw [hg]; exact Nat.ne_of_gt (blk_lt (g := gb189) (o := .cells #[.int .i64 a0_0, .int .i64 a0_1, .string a0_2, .bool a0_3, .int .i64 a0_4] 30 (0, 0)) (by (with_reducible repeat (first | refine blk_drewN ?_ _ | refine blk_drew ?_ | refine blk_alloc ?_ _)); exact BK189.out)) : gb190 ≠ gb189)); replace BK189 := (bb BK189 hb); clear hb hbox hg; have hnb14 := NB189_190.out; have hnc14 := NB190_189.out; obtain ⟨hcz15_0, hcz15_1, hcz15_2, hcz15_3, hcz15_4, hfz15_0, hfz15_1, hfz15_2, hfz15_3, hfz15_4⟩ := bc5 BK189) | ((with_reducible refine gate_callee (f := 26) rfl ?_); refine gL (some 5) Tryz.func26 #[.agg #[.int .i64 a0_0, .int .i64 a0_1, .string a0_2, .bool a0_3, .int .i64 a0_4]] ?_; (with_reducible refine (latticeref03_Good.calls a0_0 a0_1 a0_2 a0_3 a0_4 false _ A2.out).mono ?_); rintro e w16 ⟨rfl, hb⟩; refine ⟨_, rfl, ?_⟩; replace BK189 := (bb BK189 hb); replace BK190 := (bb BK190 hb); replace HB := (bs hb); (try clear hb)) | ((with_reducible refine gate_callee (f := 73) rfl ?_); refine gL (some 8) Tryz.func73 #[.int .i64 3] ?_; (with_reducible refine (latticeref03_E.calls 3 t192 t193 t194 t195 t196 _ A11.out).mono ?_); rintro e w17 ⟨rfl, hb⟩; refine ⟨_, rfl, ?_⟩; replace BK189 := (bb BK189 hb); replace BK190 := (bb BK190 hb); replace HB := (bs hb); (try clear hb); obtain ⟨hcz18_0, hcz18_1, hcz18_2, hcz18_3, hcz18_4, hfz18_0, hfz18_1, hfz18_2, hfz18_3, hfz18_4⟩ := bc5 BK190))
  refine bodyPost_ret (results_cell_row rfl _ _ gb190 30 #[.int .i64 t192, .int .i64 t193, .string t194, .bool t195, .int .i64 t196] (0, 0) _ rfl (by (with_reducible repeat (first | refine blk_drewN ?_ _ | refine blk_drew ?_ | refine blk_alloc ?_ _)); refine blk_put (cs := #[.int .i64 t192, .int .i64 t193, .string t194, .bool t195, .int .i64 0]) ?_ 4 _ rfl; (with_reducible repeat (first | refine blk_drewN ?_ _ | refine blk_drew ?_ | refine blk_alloc ?_ _)); refine blk_put (cs := #[.int .i64 t192, .int .i64 t193, .string t194, .bool false, .int .i64 0]) ?_ 3 _ rfl; (with_reducible repeat (first | refine blk_drewN ?_ _ | refine blk_drew ?_ | refine blk_alloc ?_ _)); refine blk_put (cs := #[.int .i64 t192, .int .i64 t193, .string (⟨#[]⟩ : ByteArray), .bool false, .int .i64 0]) ?_ 2 _ rfl; (with_reducible repeat (first | refine blk_drewN ?_ _ | refine blk_drew ?_ | refine blk_alloc ?_ _)); refine blk_put (cs := #[.int .i64 t192, .int .i64 0, .string (⟨#[]⟩ : ByteArray), .bool false, .int .i64 0]) ?_ 1 _ rfl; (with_reducible repeat (first | refine blk_drewN ?_ _ | refine blk_drew ?_ | refine blk_alloc ?_ _)); refine blk_put (cs := #[.int .i64 0, .int .i64 0, .string (⟨#[]⟩ : ByteArray), .bool false, .int .i64 0]) ?_ 0 _ rfl; (with_reducible repeat (first | refine blk_drewN ?_ _ | refine blk_drew ?_ | refine blk_alloc ?_ _)); exact BK190.out) Tryz.underlying30 rfl (by kernel_rfl)) rfl ?_
  exact ⟨by first | rfl | (simp [errW_none, errW_some] <;> rfl) | (simp [*, errW_none, errW_some] <;> rfl), be⟩
end Go.Proofs.YtcihleahjnpaaaaGreatDoor.P
namespace Go.Proofs.YtcihleahjnpaaaaGreatDoor.P
open Go.RowKit Go.Proofs.YtcihleahjnpaaaaGreatDoor.Q Go.Proofs.YtcihleahjnpaaaaGreatDoor.H Go.Proofs.YtcihleahjnpaaaaGreatDoorW.PrintWords Go.Proofs.YtcihleahjnpaaaaGreatDoorW.PrintLast Go.Proofs.YtcihleahjnpaaaaGreatDoorW.PrintMore
attribute [local go_sem] max2_int min2_int max_two min_two max_three min_three max_four min_four   -- for this text's walks alone
set_option linter.unusedVariables false
set_option linter.unusedSimpArgs false
def latticeref03_numbers.f (a0 : Int) (a1 : Int) : Option (Int) := if a0 < a1 then (some (-1)) else (if a0 > a1 then (some 1) else (some 0))
set_option maxHeartbeats 8000000 in
set_option maxRecDepth 100000 in
theorem latticeref03_numbers.calls (a0 : Int) (a1 : Int) (r : Int) (w : World) (h : latticeref03_numbers.f a0 a1 = some r) :
  Calls Tryz.prog 51 #[.int .i64 a0, .int .i64 a1] w fun e w' => e = .returned (.int .i64 r) ∧ Drawn0 w w' := by
 have H : (if a0 < a1 then (some (-1)) else (if a0 > a1 then (some 1) else (some 0))) = some r := h
 clear h
 by_cases c3 : a0 < a1
 ·rw [if_pos c3] at H
  have c3b0 : decide (a0 < a1) = true := decide_eq_true c3
  clear c3
  obtain rfl := Option.some.inj H
  go_enter Tryz.func51, Tryz.ntmps51
  go_wp2
  go_ret
  exact ⟨by first | rfl | (simp; done) | (simp [*]; done), by repeat (first | exact Drawn0.refl _ | apply Drawn0.step)⟩
 ·rw [if_neg c3] at H
  have c3b0 : decide (a0 < a1) = false := decide_eq_false c3
  clear c3
  by_cases c4 : a0 > a1
  ·rw [if_pos c4] at H
   have c4b0 : decide (a1 < a0) = true := decide_eq_true c4
   clear c4
   obtain rfl := Option.some.inj H
   go_enter Tryz.func51, Tryz.ntmps51
   go_wp2
   go_ret
   exact ⟨by first | rfl | (simp; done) | (simp [*]; done), by repeat (first | exact Drawn0.refl _ | apply Drawn0.step)⟩
  ·rw [if_neg c4] at H
   have c4b0 : decide (a1 < a0) = false := decide_eq_false c4
   clear c4
   obtain rfl := Option.some.inj H
   go_enter Tryz.func51, Tryz.ntmps51
   go_wp2
   go_ret
   exact ⟨by first | rfl | (simp; done) | (simp [*]; done), by repeat (first | exact Drawn0.refl _ | apply Drawn0.step)⟩
end Go.Proofs.YtcihleahjnpaaaaGreatDoor.P
namespace Go.Proofs.YtcihleahjnpaaaaGreatDoor.P
open Go.RowKit Go.Proofs.YtcihleahjnpaaaaGreatDoor.Q Go.Proofs.YtcihleahjnpaaaaGreatDoor.H Go.Proofs.YtcihleahjnpaaaaGreatDoorW.PrintWords Go.Proofs.YtcihleahjnpaaaaGreatDoorW.PrintLast Go.Proofs.YtcihleahjnpaaaaGreatDoorW.PrintMore
attribute [local go_sem] max2_int min2_int max_two min_two max_three min_three max_four min_four   -- for this text's walks alone
set_option linter.unusedVariables false
set_option linter.unusedSimpArgs false
mutual
def latticeref03_texts.l0 : Nat → ByteArray → ByteArray → Int → Option (Int)
 | 0, _, _, _ => none
 | k + 1, x0, x1, x5 => if x5 < (x0.size : Int) then (latticeref03_texts.j1 k x0 x1 x5 (decide (x5 < (x1.size : Int)))) else (latticeref03_texts.j1 k x0 x1 x5 false)
def latticeref03_texts.j1 : Nat → ByteArray → ByteArray → Int → Bool → Option (Int)
 | 0, _, _, _, _ => none
 | k + 1, x0, x1, x5, x15 => if x15 = true then (if 0 ≤ x5 then (if x5 < (x0.size : Int) then (if x5 < (x1.size : Int) then (if (bt x0 x5) < (bt x1 x5) then (some (-1)) else (if (bt x0 x5) > (bt x1 x5) then (some 1) else (latticeref03_texts.l0 k x0 x1 (wrap64 (x5 + 1))))) else (none)) else (none)) else (none)) else ((latticeref03_numbers.f (x0.size : Int) (x1.size : Int)).bind fun t197 => (some t197))
end
def latticeref03_texts.f (k : Nat) (a0 : ByteArray) (a1 : ByteArray) : Option (Int) := latticeref03_texts.l0 k a0 a1 0
set_option maxHeartbeats 8000000 in
set_option maxRecDepth 100000 in
theorem latticeref03_texts.calls (k : Nat) (a0 : ByteArray) (a1 : ByteArray) (r : Int) (w : World) (h : latticeref03_texts.f k a0 a1 = some r) :
  Calls Tryz.prog 53 #[.string a0, .string a1] w fun e w' => e = .returned (.int .i64 r) ∧ Drawn0 w w' := by
 have H : (latticeref03_texts.l0 k a0 a1 0) = some r := h
 clear h
 have H' := Aside0.mk H
 clear H
 go_enter Tryz.func53, Tryz.ntmps53
 go_wp2
 repeat (go_quiet (fail); try go_wp2)
 go_loopg [5] k (fun kq v5 w' => ∃ (x5_1 : Int), v5 = .int .i64 x5_1 ∧ Aside0 (latticeref03_texts.l0 kq a0 a1 x5_1 = some r) ∧ Aside0 (kq ≤ k) ∧ Drawn0 w w')
 case atStart => exact ⟨(0), (by first | rfl | (simp; done) | (simp [*]; done)), H', ⟨Nat.le_refl _⟩, by repeat (first | exact Drawn0.refl _ | apply Drawn0.step)⟩
 case round =>
  clear H'
  try clear p2
  obtain ⟨x5_1, rfl, HA, HK1, ⟨m1, rfl⟩⟩ := hrel
  cases gk with
  | zero => exact absurd HA.out (by simp [latticeref03_texts.l0])
  | succ k1 =>
   have H := HA.out
   clear HA
   simp only [latticeref03_texts.l0] at H
   have HC3 := Aside0.mk H
   clear H
   go_upto_region 2 with (fail)
   repeat (go_quiet (fail); go_upto_region 2 with (fail))
   go_cut [15] (fun v15 wc => ∃ (kq : Nat) (x15_2 : Bool), v15 = .bool x15_2 ∧ Aside0 (latticeref03_texts.j1 kq a0 a1 x5_1 x15_2 = some r) ∧ Aside0 (kq ≤ k1) ∧ Drawn0 w wc)
   case first =>
    have H := HC3.out
    clear HC3
    by_cases c4 : x5_1 < (a0.size : Int)
    ·rw [if_pos c4] at H
     have c4b0 : decide (x5_1 < (a0.size : Int)) = true := decide_eq_true c4
     clear c4
     (first | rw [c4b0] | (simp only [i64_w, i32_w]; rw [c4b0]) | skip)
     have H' := Aside0.mk H
     clear H
     go_wp2
     repeat (go_quiet (fail); try go_wp2)
     go_meet
     case rel => exact ⟨_, (decide (x5_1 < (a1.size : Int))), (by first | rfl | (simp; done) | (simp [*]; done)), H', ⟨by have := HK1.out; first | omega | exact Nat.le_refl _⟩, by repeat (first | exact Drawn0.refl _ | apply Drawn0.step)⟩
    ·rw [if_neg c4] at H
     have c4b0 : decide (x5_1 < (a0.size : Int)) = false := decide_eq_false c4
     clear c4
     (first | rw [c4b0] | (simp only [i64_w, i32_w]; rw [c4b0]) | skip)
     have H' := Aside0.mk H
     clear H
     go_wp2
     repeat (go_quiet (fail); try go_wp2)
     go_meet
     case rel => exact ⟨_, (false), (by first | rfl | (simp; done) | (simp [*]; done)), H', ⟨by have := HK1.out; first | omega | exact Nat.le_refl _⟩, by repeat (first | exact Drawn0.refl _ | apply Drawn0.step)⟩
   case rest =>
    clear HC3
    try clear p2
    try clear c4
    try clear c4b0
    try clear p2
    obtain ⟨kq, x15_2, rfl, HA, HJ2, ⟨mc2, rfl⟩⟩ := hcut
    cases kq with
    | zero => exact absurd HA.out (by simp [latticeref03_texts.j1])
    | succ kj2 =>
     have H := HA.out
     clear HA
     simp only [latticeref03_texts.j1] at H
     by_cases c5 : x15_2 = true
     ·subst c5
      have H1 : (if 0 ≤ x5_1 then (if x5_1 < (a0.size : Int) then (if x5_1 < (a1.size : Int) then (if (bt a0 x5_1) < (bt a1 x5_1) then (some (-1)) else (if (bt a0 x5_1) > (bt a1 x5_1) then (some 1) else (latticeref03_texts.l0 kj2 a0 a1 (wrap64 (x5_1 + 1))))) else (none)) else (none)) else (none)) = some r := by rw [if_pos rfl] at H; exact H
      clear H
      have H := H1
      clear H1
      by_cases c6 : 0 ≤ x5_1
      ·rw [if_pos c6] at H
       have c6b0 : decide (0 ≤ x5_1) = true := decide_eq_true c6
       clear c6
       by_cases c7 : x5_1 < (a0.size : Int)
       ·rw [if_pos c7] at H
        have c7b0 : decide (x5_1 < (a0.size : Int)) = true := decide_eq_true c7
        clear c7
        by_cases c9 : x5_1 < (a1.size : Int)
        ·rw [if_pos c9] at H
         have c9b0 : decide (x5_1 < (a1.size : Int)) = true := decide_eq_true c9
         clear c9
         by_cases c11 : (bt a0 x5_1) < (bt a1 x5_1)
         ·rw [if_pos c11] at H
          have c11b0 : decide ((bt a0 x5_1) < (bt a1 x5_1)) = true := decide_eq_true c11
          clear c11
          obtain rfl := Option.some.inj H
          have p8 : 0 ≤ (x5_1 : Int) := of_decide_eq_true (by first | (with_reducible assumption) | assumption)
          have q8 : x5_1 < (a0.size : Int) := of_decide_eq_true (by first | (with_reducible assumption) | assumption)
          have hx8 := bt_at a0 x5_1
          replace p8 := eq_true p8
          replace q8 := eq_true q8
          have p10 : 0 ≤ (x5_1 : Int) := of_decide_eq_true (by first | (with_reducible assumption) | assumption)
          have q10 : x5_1 < (a1.size : Int) := of_decide_eq_true (by first | (with_reducible assumption) | assumption)
          have hx10 := bt_at a1 x5_1
          replace p10 := eq_true p10
          replace q10 := eq_true q10
          go_wp2
          repeat (go_quiet (fail); try go_wp2)
          go_ret
          exact ⟨by first | rfl | (simp; done) | (simp [*]; done), by repeat (first | exact Drawn0.refl _ | apply Drawn0.step)⟩
         ·rw [if_neg c11] at H
          have c11b0 : decide ((bt a0 x5_1) < (bt a1 x5_1)) = false := decide_eq_false c11
          clear c11
          by_cases c14 : (bt a0 x5_1) > (bt a1 x5_1)
          ·rw [if_pos c14] at H
           have c14b0 : decide ((bt a1 x5_1) < (bt a0 x5_1)) = true := decide_eq_true c14
           clear c14
           obtain rfl := Option.some.inj H
           have p8 : 0 ≤ (x5_1 : Int) := of_decide_eq_true (by first | (with_reducible assumption) | assumption)
           have q8 : x5_1 < (a0.size : Int) := of_decide_eq_true (by first | (with_reducible assumption) | assumption)
           have hx8 := bt_at a0 x5_1
           replace p8 := eq_true p8
           replace q8 := eq_true q8
           have p10 : 0 ≤ (x5_1 : Int) := of_decide_eq_true (by first | (with_reducible assumption) | assumption)
           have q10 : x5_1 < (a1.size : Int) := of_decide_eq_true (by first | (with_reducible assumption) | assumption)
           have hx10 := bt_at a1 x5_1
           replace p10 := eq_true p10
           replace q10 := eq_true q10
           have p12 : 0 ≤ (x5_1 : Int) := of_decide_eq_true (by first | (with_reducible assumption) | assumption)
           have q12 : x5_1 < (a0.size : Int) := of_decide_eq_true (by first | (with_reducible assumption) | assumption)
           have hx12 := bt_at a0 x5_1
           replace p12 := eq_true p12
           replace q12 := eq_true q12
           have p13 : 0 ≤ (x5_1 : Int) := of_decide_eq_true (by first | (with_reducible assumption) | assumption)
           have q13 : x5_1 < (a1.size : Int) := of_decide_eq_true (by first | (with_reducible assumption) | assumption)
           have hx13 := bt_at a1 x5_1
           replace p13 := eq_true p13
           replace q13 := eq_true q13
           go_wp2
           repeat (go_quiet (fail); try go_wp2)
           go_ret
           exact ⟨by first | rfl | (simp; done) | (simp [*]; done), by repeat (first | exact Drawn0.refl _ | apply Drawn0.step)⟩
          ·rw [if_neg c14] at H
           have c14b0 : decide ((bt a1 x5_1) < (bt a0 x5_1)) = false := decide_eq_false c14
           clear c14
           have H' := Aside0.mk H
           clear H
           have p8 : 0 ≤ (x5_1 : Int) := of_decide_eq_true (by first | (with_reducible assumption) | assumption)
           have q8 : x5_1 < (a0.size : Int) := of_decide_eq_true (by first | (with_reducible assumption) | assumption)
           have hx8 := bt_at a0 x5_1
           replace p8 := eq_true p8
           replace q8 := eq_true q8
           have p10 : 0 ≤ (x5_1 : Int) := of_decide_eq_true (by first | (with_reducible assumption) | assumption)
           have q10 : x5_1 < (a1.size : Int) := of_decide_eq_true (by first | (with_reducible assumption) | assumption)
           have hx10 := bt_at a1 x5_1
           replace p10 := eq_true p10
           replace q10 := eq_true q10
           have p12 : 0 ≤ (x5_1 : Int) := of_decide_eq_true (by first | (with_reducible assumption) | assumption)
           have q12 : x5_1 < (a0.size : Int) := of_decide_eq_true (by first | (with_reducible assumption) | assumption)
           have hx12 := bt_at a0 x5_1
           replace p12 := eq_true p12
           replace q12 := eq_true q12
           have p13 : 0 ≤ (x5_1 : Int) := of_decide_eq_true (by first | (with_reducible assumption) | assumption)
           have q13 : x5_1 < (a1.size : Int) := of_decide_eq_true (by first | (with_reducible assumption) | assumption)
           have hx13 := bt_at a1 x5_1
           replace p13 := eq_true p13
           replace q13 := eq_true q13
           go_wp2
           repeat (go_quiet (fail); try go_wp2)
           go_roundg kj2
           case measure => have := HK1.out; have := HJ2.out; omega
           case rel => exact ⟨(wrap64 (x5_1 + 1)), (by first | rfl | (simp; done) | (simp [*]; done)), H', ⟨by have := HK1.out; have := HJ2.out; omega⟩, by repeat (first | exact Drawn0.refl _ | apply Drawn0.step)⟩
        ·rw [if_neg c9] at H
         exact absurd H (by simp)
       ·rw [if_neg c7] at H
        exact absurd H (by simp)
      ·rw [if_neg c6] at H
       exact absurd H (by simp)
     ·replace c5 := Bool.eq_false_iff.mpr c5
      subst c5
      have H1 : ((latticeref03_numbers.f (a0.size : Int) (a1.size : Int)).bind fun t197 => (some t197)) = some r := by rw [if_neg (show ¬ (false = true) by decide)] at H; exact H
      clear H
      have H := H1
      clear H1
      replace H := Option.bind_eq_some_iff.mp H
      obtain ⟨t197, A150, H⟩ := H
      replace H : (some t197) = some r := H
      have A15 := Aside0.mk A150
      clear A150
      obtain rfl := Option.some.inj H
      go_wp2_with (first | (go_at_call 51; (with_reducible refine (latticeref03_numbers.calls (a0.size : Int) (a1.size : Int) t197 _ A15.out).mono ?_); rintro e w' ⟨rfl, ⟨nd, rfl⟩⟩; (try first | exact ⟨rfl, _, World.drewN_drewN _ _ _⟩ | exact ⟨rfl, _, Eq.trans (World.drewN_drewN _ _ _) (congrArg (World.drewN _) (Nat.add_assoc _ _ _))⟩)))
      repeat (go_quiet (first | (go_at_call 51; (with_reducible refine (latticeref03_numbers.calls (a0.size : Int) (a1.size : Int) t197 _ A15.out).mono ?_); rintro e w' ⟨rfl, ⟨nd, rfl⟩⟩; (try first | exact ⟨rfl, _, World.drewN_drewN _ _ _⟩ | exact ⟨rfl, _, Eq.trans (World.drewN_drewN _ _ _) (congrArg (World.drewN _) (Nat.add_assoc _ _ _))⟩))); try go_wp2_with (first | (go_at_call 51; (with_reducible refine (latticeref03_numbers.calls (a0.size : Int) (a1.size : Int) t197 _ A15.out).mono ?_); rintro e w' ⟨rfl, ⟨nd, rfl⟩⟩; (try first | exact ⟨rfl, _, World.drewN_drewN _ _ _⟩ | exact ⟨rfl, _, Eq.trans (World.drewN_drewN _ _ _) (congrArg (World.drewN _) (Nat.add_assoc _ _ _))⟩))))
      go_ret
      exact ⟨by first | rfl | (simp; done) | (simp [*]; done), by repeat (first | exact Drawn0.refl _ | apply Drawn0.step)⟩
end Go.Proofs.YtcihleahjnpaaaaGreatDoor.P
