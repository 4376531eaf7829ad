/- Texts of this claim, put together by a program of this session: Px51, Call, Px55, Px57, Px58, Px52, Ask, Wakes. -/
import Derived.WalkLawsBesides
import Derived.BigQuiet
import Derived.Deep.QuietTactic
import Derived.Deep.Cut
import Derived.Lib.Hide
import Derived.Outline
import Derived.Deep.RegionHeld3
import Derived.Test.YtcihleahjnpaaaaGreatDoorC8
namespace Go.Proofs.YtcihleahjnpaaaaGreatDoor.P
open Go.RowKit Go.Proofs.YtcihleahjnpaaaaGreatDoor.Q Go.Proofs.YtcihleahjnpaaaaGreatDoor.H Go.Proofs.YtcihleahjnpaaaaGreatDoorW.PrintWords Go.Proofs.YtcihleahjnpaaaaGreatDoorW.PrintLast Go.Proofs.YtcihleahjnpaaaaGreatDoorW.PrintMore
attribute [local go_sem] max2_int min2_int max_two min_two max_three min_three max_four min_four   -- for this text's walks alone
set_option linter.unusedVariables false
set_option linter.unusedSimpArgs false
mutual
def looks_takes.j0 : Nat → ByteArray → Bool → Option (Int × Int)
 | 0, _, _ => none
 | k + 1, x4, x5 => if x5 = true then (some (1, 1)) else (if x4.toList = ([77, 65, 84, 67, 72] : List UInt8) then (looks_takes.j1 k x4 (x4.toList == ([77, 65, 84, 67, 72] : List UInt8))) else (looks_takes.j1 k x4 (x4.toList == ([73, 78, 68, 69, 88] : List UInt8))))
def looks_takes.j1 : Nat → ByteArray → Bool → Option (Int × Int)
 | 0, _, _ => none
 | k + 1, x4, x8 => if x8 = true then (some (2, 3)) else (if x4.toList = ([76, 79, 79, 75, 85, 80] : List UInt8) then (some (3, 3)) else (if x4.toList = ([86, 76, 79, 79, 75, 85, 80] : List UInt8) then (looks_takes.j2 k x4 (x4.toList == ([86, 76, 79, 79, 75, 85, 80] : List UInt8))) else (looks_takes.j2 k x4 (x4.toList == ([72, 76, 79, 79, 75, 85, 80] : List UInt8)))))
def looks_takes.j2 : Nat → ByteArray → Bool → Option (Int × Int)
 | 0, _, _ => none
 | k + 1, x4, x13 => if x13 = true then (some (3, 4)) else (if x4.toList = ([67, 72, 79, 79, 83, 69] : List UInt8) then (some (2, 32)) else (some (0, 0)))
end
def looks_takes.f (k : Nat) (a0 : ByteArray) : Option (Int × Int) := if a0.toList = ([82, 79, 87, 83] : List UInt8) then (looks_takes.j0 k a0 (a0.toList == ([82, 79, 87, 83] : List UInt8))) else (looks_takes.j0 k a0 (a0.toList == ([67, 79, 76, 85, 77, 78, 83] : List UInt8)))
set_option maxHeartbeats 8000000 in
set_option maxRecDepth 100000 in
theorem looks_takes.calls (k : Nat) (a0 : ByteArray) (r1 : Int) (r2 : Int) (w : World) (h : looks_takes.f k a0 = some (r1, r2)) :
  Calls Tryz.prog 30 #[.string a0] w fun e w' => e = .returned (.tuple #[.int .i64 r1, .int .i64 r2]) ∧ Drawn0 w w' := by
 have H : (if a0.toList = ([82, 79, 87, 83] : List UInt8) then (looks_takes.j0 k a0 (a0.toList == ([82, 79, 87, 83] : List UInt8))) else (looks_takes.j0 k a0 (a0.toList == ([67, 79, 76, 85, 77, 78, 83] : List UInt8)))) = some (r1, r2) := h
 clear h
 have HC2 := Aside0.mk H
 clear H
 go_enter Tryz.func30, Tryz.ntmps30
 go_upto_if 5 with (fail)
 go_cut [5] (fun v5 wc => ∃ (kq : Nat) (x5_1 : Bool), v5 = .bool x5_1 ∧ Aside0 (looks_takes.j0 kq a0 x5_1 = some (r1, r2)) ∧ Aside0 (kq ≤ k) ∧ Drawn0 w wc)
 case first =>
  have H := HC2.out
  clear HC2
  by_cases c3 : a0.toList = ([82, 79, 87, 83] : List UInt8)
  ·rw [if_pos c3] at H
   have c3b0 : (a0.toList == ([82, 79, 87, 83] : List UInt8)) = true := beq_iff_eq.mpr c3
   have c3b1 : (a0.toList != ([82, 79, 87, 83] : List UInt8)) = false := bne_eq_false_iff_eq.mpr c3
   clear c3
   (first | rw [c3b0] | (simp only [i64_w, i32_w]; rw [c3b0]) | rw [c3b1] | skip)
   have H' := Aside0.mk H
   clear H
   go_wp2
   go_meet
   case rel => exact ⟨_, ((a0.toList == ([82, 79, 87, 83] : List UInt8))), (by first | rfl | (simp; done) | (simp [*]; done)), H', ⟨by first | omega | exact Nat.le_refl _⟩, by repeat (first | exact Drawn0.refl _ | apply Drawn0.step)⟩
  ·rw [if_neg c3] at H
   have c3b0 : (a0.toList == ([82, 79, 87, 83] : List UInt8)) = false := beq_eq_false_iff_ne.mpr c3
   have c3b1 : (a0.toList != ([82, 79, 87, 83] : List UInt8)) = true := bne_iff_ne.mpr c3
   (first | rw [c3b0] | (simp only [i64_w, i32_w]; rw [c3b0]) | rw [c3b1] | skip)
   have H' := Aside0.mk H
   clear H
   go_wp2
   go_meet
   case rel => exact ⟨_, ((a0.toList == ([67, 79, 76, 85, 77, 78, 83] : List UInt8))), (by first | rfl | (simp; done) | (simp [*]; done)), H', ⟨by first | omega | exact Nat.le_refl _⟩, by repeat (first | exact Drawn0.refl _ | apply Drawn0.step)⟩
 case rest =>
  clear HC2
  try clear p2
  try clear c3
  try clear c3b0
  try clear c3b1
  obtain ⟨kq, x5_1, rfl, HA, HJ1, ⟨mc1, rfl⟩⟩ := hcut
  cases kq with
  | zero => exact absurd HA.out (by simp [looks_takes.j0])
  | succ kj1 =>
   have H := HA.out
   clear HA
   simp only [looks_takes.j0] at H
   by_cases c4 : x5_1 = true
   ·subst c4
    have H1 : (some (1, 1)) = some (r1, r2) := by rw [if_pos rfl] at H; exact H
    clear H
    have H := H1
    clear H1
    simp only [Option.some.injEq, Prod.mk.injEq] at H
    obtain ⟨rfl, rfl⟩ := H
    go_wp2
    go_ret2
    exact ⟨by first | rfl | (simp; done) | (simp [*]; done), by repeat (first | exact Drawn0.refl _ | apply Drawn0.step)⟩
   ·replace c4 := Bool.eq_false_iff.mpr c4
    subst c4
    have H1 : (if a0.toList = ([77, 65, 84, 67, 72] : List UInt8) then (looks_takes.j1 kj1 a0 (a0.toList == ([77, 65, 84, 67, 72] : List UInt8))) else (looks_takes.j1 kj1 a0 (a0.toList == ([73, 78, 68, 69, 88] : List UInt8)))) = some (r1, r2) := by rw [if_neg (show ¬ (false = true) by decide)] at H; exact H
    clear H
    have H := H1
    clear H1
    have HC5 := Aside0.mk H
    clear H
    go_upto_if 8 with (fail)
    go_cut [8] (fun v8 wc => ∃ (kq : Nat) (x8_4 : Bool), v8 = .bool x8_4 ∧ Aside0 (looks_takes.j1 kq a0 x8_4 = some (r1, r2)) ∧ Aside0 (kq ≤ kj1) ∧ Drawn0 w wc)
    case first =>
     have H := HC5.out
     clear HC5
     by_cases c6 : a0.toList = ([77, 65, 84, 67, 72] : List UInt8)
     ·rw [if_pos c6] at H
      have c6b0 : (a0.toList == ([77, 65, 84, 67, 72] : List UInt8)) = true := beq_iff_eq.mpr c6
      have c6b1 : (a0.toList != ([77, 65, 84, 67, 72] : List UInt8)) = false := bne_eq_false_iff_eq.mpr c6
      clear c6
      (first | rw [c6b0] | (simp only [i64_w, i32_w]; rw [c6b0]) | rw [c6b1] | skip)
      have H' := Aside0.mk H
      clear H
      go_wp2
      go_meet
      case rel => exact ⟨_, ((a0.toList == ([77, 65, 84, 67, 72] : List UInt8))), (by first | rfl | (simp; done) | (simp [*]; done)), H', ⟨by have := HJ1.out; first | omega | exact Nat.le_refl _⟩, by repeat (first | exact Drawn0.refl _ | apply Drawn0.step)⟩
     ·rw [if_neg c6] at H
      have c6b0 : (a0.toList == ([77, 65, 84, 67, 72] : List UInt8)) = false := beq_eq_false_iff_ne.mpr c6
      have c6b1 : (a0.toList != ([77, 65, 84, 67, 72] : List UInt8)) = true := bne_iff_ne.mpr c6
      (first | rw [c6b0] | (simp only [i64_w, i32_w]; rw [c6b0]) | rw [c6b1] | skip)
      have H' := Aside0.mk H
      clear H
      go_wp2
      go_meet
      case rel => exact ⟨_, ((a0.toList == ([73, 78, 68, 69, 88] : List UInt8))), (by first | rfl | (simp; done) | (simp [*]; done)), H', ⟨by have := HJ1.out; first | omega | exact Nat.le_refl _⟩, by repeat (first | exact Drawn0.refl _ | apply Drawn0.step)⟩
    case rest =>
     clear HC5
     try clear c1
     try clear p2
     try clear c3
     try clear c3b0
     try clear c3b1
     try clear c4
     try clear c6
     try clear c6b0
     try clear c6b1
     try clear p2
     obtain ⟨kq, x8_4, rfl, HA, HJ4, ⟨mc4, rfl⟩⟩ := hcut
     cases kq with
     | zero => exact absurd HA.out (by simp [looks_takes.j1])
     | succ kj4 =>
      have H := HA.out
      clear HA
      simp only [looks_takes.j1] at H
      by_cases c7 : x8_4 = true
      ·subst c7
       have H1 : (some (2, 3)) = some (r1, r2) := by rw [if_pos rfl] at H; exact H
       clear H
       have H := H1
       clear H1
       simp only [Option.some.injEq, Prod.mk.injEq] at H
       obtain ⟨rfl, rfl⟩ := H
       go_wp2
       go_ret2
       exact ⟨by first | rfl | (simp; done) | (simp [*]; done), by repeat (first | exact Drawn0.refl _ | apply Drawn0.step)⟩
      ·replace c7 := Bool.eq_false_iff.mpr c7
       subst c7
       have H1 : (if a0.toList = ([76, 79, 79, 75, 85, 80] : List UInt8) then (some (3, 3)) else (if a0.toList = ([86, 76, 79, 79, 75, 85, 80] : List UInt8) then (looks_takes.j2 kj4 a0 (a0.toList == ([86, 76, 79, 79, 75, 85, 80] : List UInt8))) else (looks_takes.j2 kj4 a0 (a0.toList == ([72, 76, 79, 79, 75, 85, 80] : List UInt8))))) = some (r1, r2) := by rw [if_neg (show ¬ (false = true) by decide)] at H; exact H
       clear H
       have H := H1
       clear H1
       by_cases c8 : a0.toList = ([76, 79, 79, 75, 85, 80] : List UInt8)
       ·rw [if_pos c8] at H
        have c8b0 : (a0.toList == ([76, 79, 79, 75, 85, 80] : List UInt8)) = true := beq_iff_eq.mpr c8
        have c8b1 : (a0.toList != ([76, 79, 79, 75, 85, 80] : List UInt8)) = false := bne_eq_false_iff_eq.mpr c8
        clear c8
        simp only [Option.some.injEq, Prod.mk.injEq] at H
        obtain ⟨rfl, rfl⟩ := H
        go_wp2
        go_ret2
        exact ⟨by first | rfl | (simp; done) | (simp [*]; done), by repeat (first | exact Drawn0.refl _ | apply Drawn0.step)⟩
       ·rw [if_neg c8] at H
        have c8b0 : (a0.toList == ([76, 79, 79, 75, 85, 80] : List UInt8)) = false := beq_eq_false_iff_ne.mpr c8
        have c8b1 : (a0.toList != ([76, 79, 79, 75, 85, 80] : List UInt8)) = true := bne_iff_ne.mpr c8
        have HC9 := Aside0.mk H
        clear H
        go_upto_if 13 with (fail)
        go_cut [13] (fun v13 wc => ∃ (kq : Nat) (x13_8 : Bool), v13 = .bool x13_8 ∧ Aside0 (looks_takes.j2 kq a0 x13_8 = some (r1, r2)) ∧ Aside0 (kq ≤ kj4) ∧ Drawn0 w wc)
        case first =>
         have H := HC9.out
         clear HC9
         by_cases c10 : a0.toList = ([86, 76, 79, 79, 75, 85, 80] : List UInt8)
         ·rw [if_pos c10] at H
          have c10b0 : (a0.toList == ([86, 76, 79, 79, 75, 85, 80] : List UInt8)) = true := beq_iff_eq.mpr c10
          have c10b1 : (a0.toList != ([86, 76, 79, 79, 75, 85, 80] : List UInt8)) = false := bne_eq_false_iff_eq.mpr c10
          clear c10
          (first | rw [c10b0] | (simp only [i64_w, i32_w]; rw [c10b0]) | rw [c10b1] | skip)
          have H' := Aside0.mk H
          clear H
          go_wp2
          go_meet
          case rel => exact ⟨_, ((a0.toList == ([86, 76, 79, 79, 75, 85, 80] : List UInt8))), (by first | rfl | (simp; done) | (simp [*]; done)), H', ⟨by have := HJ1.out; have := HJ4.out; first | omega | exact Nat.le_refl _⟩, by repeat (first | exact Drawn0.refl _ | apply Drawn0.step)⟩
         ·rw [if_neg c10] at H
          have c10b0 : (a0.toList == ([86, 76, 79, 79, 75, 85, 80] : List UInt8)) = false := beq_eq_false_iff_ne.mpr c10
          have c10b1 : (a0.toList != ([86, 76, 79, 79, 75, 85, 80] : List UInt8)) = true := bne_iff_ne.mpr c10
          (first | rw [c10b0] | (simp only [i64_w, i32_w]; rw [c10b0]) | rw [c10b1] | skip)
          have H' := Aside0.mk H
          clear H
          go_wp2
          go_meet
          case rel => exact ⟨_, ((a0.toList == ([72, 76, 79, 79, 75, 85, 80] : List UInt8))), (by first | rfl | (simp; done) | (simp [*]; done)), H', ⟨by have := HJ1.out; have := HJ4.out; first | omega | exact Nat.le_refl _⟩, by repeat (first | exact Drawn0.refl _ | apply Drawn0.step)⟩
        case rest =>
         clear HC9
         try clear c1
         try clear p2
         try clear c3
         try clear c3b0
         try clear c3b1
         try clear c4
         try clear c6
         try clear c6b0
         try clear c6b1
         try clear c7
         try clear c8
         try clear c8b0
         try clear c8b1
         try clear c10
         try clear c10b0
         try clear c10b1
         try clear p2
         obtain ⟨kq, x13_8, rfl, HA, HJ8, ⟨mc8, rfl⟩⟩ := hcut
         cases kq with
         | zero => exact absurd HA.out (by simp [looks_takes.j2])
         | succ kj8 =>
          have H := HA.out
          clear HA
          simp only [looks_takes.j2] at H
          by_cases c11 : x13_8 = true
          ·subst c11
           have H1 : (some (3, 4)) = some (r1, r2) := by rw [if_pos rfl] at H; exact H
           clear H
           have H := H1
           clear H1
           simp only [Option.some.injEq, Prod.mk.injEq] at H
           obtain ⟨rfl, rfl⟩ := H
           go_wp2
           go_ret2
           exact ⟨by first | rfl | (simp; done) | (simp [*]; done), by repeat (first | exact Drawn0.refl _ | apply Drawn0.step)⟩
          ·replace c11 := Bool.eq_false_iff.mpr c11
           subst c11
           have H1 : (if a0.toList = ([67, 72, 79, 79, 83, 69] : List UInt8) then (some (2, 32)) else (some (0, 0))) = some (r1, r2) := by rw [if_neg (show ¬ (false = true) by decide)] at H; exact H
           clear H
           have H := H1
           clear H1
           by_cases c12 : a0.toList = ([67, 72, 79, 79, 83, 69] : List UInt8)
           ·rw [if_pos c12] at H
            have c12b0 : (a0.toList == ([67, 72, 79, 79, 83, 69] : List UInt8)) = true := beq_iff_eq.mpr c12
            have c12b1 : (a0.toList != ([67, 72, 79, 79, 83, 69] : List UInt8)) = false := bne_eq_false_iff_eq.mpr c12
            clear c12
            simp only [Option.some.injEq, Prod.mk.injEq] at H
            obtain ⟨rfl, rfl⟩ := H
            go_wp2
            go_ret2
            exact ⟨by first | rfl | (simp; done) | (simp [*]; done), by repeat (first | exact Drawn0.refl _ | apply Drawn0.step)⟩
           ·rw [if_neg c12] at H
            have c12b0 : (a0.toList == ([67, 72, 79, 79, 83, 69] : List UInt8)) = false := beq_eq_false_iff_ne.mpr c12
            have c12b1 : (a0.toList != ([67, 72, 79, 79, 83, 69] : List UInt8)) = true := bne_iff_ne.mpr c12
            simp only [Option.some.injEq, Prod.mk.injEq] at H
            obtain ⟨rfl, rfl⟩ := H
            go_wp2
            go_ret2
            exact ⟨by first | rfl | (simp; done) | (simp [*]; done), by repeat (first | exact Drawn0.refl _ | apply Drawn0.step)⟩
end Go.Proofs.YtcihleahjnpaaaaGreatDoor.P
namespace Go.Proofs.YtcihleahjnpaaaaGreatDoor.H
open Go.RowKit Go.Proofs.YtcihleahjnpaaaaGreatDoor.P Go.Proofs.YtcihleahjnpaaaaGreatDoor.T Go.Proofs.YtcihleahjnpaaaaGreatDoorW.PrintWords Go.Proofs.YtcihleahjnpaaaaGreatDoorW.PrintLast Go.Proofs.YtcihleahjnpaaaaGreatDoorW.PrintMore
set_option linter.unusedVariables false
set_option linter.unusedSimpArgs false
theorem gr_some {w w1 : World} (h : w.grownBy w1 none) (g : Nat) : w.grownBy w1 (some g) := ⟨h.os, h.tape, h.output, h.size, fun i hi _ => h.block i hi (by simp)⟩
theorem below5 {B m : Nat} {w w1 : World} (h : Below B w w1) (hm : B ≤ m) (a b c d e : Value) : Below B w (((((w1.setCell ⟨m, 0, none⟩ a).setCell ⟨m, 1, none⟩ b).setCell ⟨m, 2, none⟩ c).setCell ⟨m, 3, none⟩ d).setCell ⟨m, 4, none⟩ e) :=
  ((((h.setCell (p := ⟨m, 0, none⟩) hm _).setCell (p := ⟨m, 1, none⟩) hm _).setCell (p := ⟨m, 2, none⟩) hm _).setCell (p := ⟨m, 3, none⟩) hm _).setCell (p := ⟨m, 4, none⟩) hm _
def endS (T : V × Int) : V := if T.2 = 0 then (if okV T.1 = true then T.1 else eV 3) else eV T.2
set_option maxHeartbeats 4000000 in
set_option maxRecDepth 100000 in
theorem call_try (name : ByteArray) (l : List AR) (lo hi : Int) (T : V × Int) (A : Option Addr) (c : Nat) (w : World) (hr : Kd.C kA w A l.length l) (hc : l.length ≤ c) (hl : l.length ≤ 4096)
   (hT : ∀ W, Calls Tryz.prog 30 #[.string name] W fun e w' => e = .returned (.tuple #[.int .i64 lo, .int .i64 hi]) ∧ Below W.heap.size W w')
   (hTold : ∀ (W : World) (g : Nat), Cx w g A l → Rd w W g A c l 0 0 → Calls Tryz.prog 34 #[.string name, .pointer (some ⟨g, 0, none⟩)] W fun e w' => e = .returned (vv T.1) ∧ W.grownBy w' (some g) ∧ ∃ j, Rd w w' g A c l j T.2)
   (h0 : hi ≠ 0) (h1 : lo ≤ l.length) (h2 : l.length ≤ hi) :
    Calls Tryz.prog 14 #[.string name, .slice A l.length c] w fun e w' => e = .returned (.tuple #[vv (if l.any (fun a => !okA a) = true then eV 3 else endS T), .bool true]) ∧ Below w.heap.size w w' := by
  have d0 : (hi == 0) = false := by simpa using h0
  have d1 : decide ((l.length : Int) < lo) = false := by simp; omega
  have d2 : decide (hi < (l.length : Int)) = false := by simp; omega
  generalize hE : (if l.any (fun a => !okA a) = true then eV 3 else endS T) = E
  obtain ⟨v, f⟩ := T
  simp only at hTold
  have HT := Lib.hid hT
  have HTO := Lib.hid hTold
  have HE := Lib.hid hE
  have HR := Lib.hid hr
  clear hT h0 hTold hE hr
  have hne0 : w.heap.size ≠ w.heap.size + 1 := by omega
  go_enter Tryz.func14, Tryz.ntmps14
  go_wp2_with (fail)
  refine (HT.out _).mono ?_
  rintro e w1 ⟨rfl, hb1⟩
  have HB1 : Hid (Below w.heap.size w w1) := Lib.hid ((below_alloc (Below.refl _ _) _).trans (hb1.mono (by simp)))
  have HX1 := Lib.hid (gr_of_below hb1 none)
  clear hb1
  go_wp2_with (fail)
  refine (contains_any l A c w1 (Kd.C_below HR.out HB1.out) hl).mono ?_
  rintro e w2 ⟨rfl, hb2⟩
  have HB2 := Lib.hid (HB1.out.trans (hb2.mono HB1.out.size))
  have HX2 := Lib.hid (gr_then HX1.out (gr_of_below hb2 none))
  clear hb2
  by_cases hbad : l.any (fun a => !okA a) = true
  · have hE := HE.out
    rw [if_pos hbad] at hE
    subst hE
    rw [hbad]
    clear hbad HE
    go_wp2_with (fail)
    refine (e_any _ 3).mono ?_
    rintro e w3 ⟨rfl, hb3⟩
    obtain ⟨z0, z1, z2, z3, z4, y0, y1, y2, y3, y4⟩ := loc5 (gr_some (gr_then HX2.out (gr_of_below hb3 none)) (w.heap.size + 1)) hne0
    have HB3 := Lib.hid (HB2.out.trans (hb3.mono HB2.out.size))
    clear hb3
    generalize hv : eV 3 = v at *
    have HV := Lib.hid hv
    clear hv
    unfold vv
    go_wp2_with (fail)
    refine bodyPost_ret (v := .tuple #[vv v, .bool true]) (by simp [results, Tryz.results14, go_sem, vv, z0, z1, z2, z3, z4]) rfl ⟨by rw [HV.out], below5 HB3.out (Nat.le_refl _) _ _ _ _ _⟩
  · have hE := HE.out
    rw [if_neg hbad] at hE
    unfold endS at hE
    simp only at hE
    have hgood : ∀ a ∈ l, okA a = true := fun a ha => by
      cases hk : okA a with
      | true => rfl
      | false => exact absurd (List.any_eq_true.2 ⟨a, ha, by rw [hk]; rfl⟩) hbad
    have hbad' : l.any (fun a => !okA a) = false := by simpa using hbad
    rw [hbad']
    have hb0 : w.heap.size ≤ w2.heap.size := HB2.out.size
    have hY : (w2.alloc (.cells #[.slice A l.length c, .int .i64 0, .int .i64 0] 87)).heap[w2.heap.size]? = some (.cells #[.slice A l.length c, .int .i64 0, .int .i64 0] 87 (0, 0)) := heap_alloc_new w2 _
    have hD : Rd w (w2.alloc (.cells #[.slice A l.length c, .int .i64 0, .int .i64 0] 87)) w2.heap.size A c l 0 0 :=
      ⟨HB2.out.alloc hb0 _, ⟨cell_of_row _ _ 0 _ _ _ hY, cell_of_row _ _ 1 _ _ _ hY, cell_of_row _ _ 2 _ _ _ hY, unfrozen hY, unfrozen hY, unfrozen hY, by simp⟩, by simp⟩
    have hC : Cx w w2.heap.size A l := ⟨HR.out, hb0, hl, hgood⟩
    have HTO := Lib.hid (HTO.out _ w2.heap.size hC hD)
    have HE := Lib.hid hE
    have hw12 : w.heap.size ≠ w2.heap.size := by
      have h3 := HX2.out.size
      simp at h3
      omega
    clear hY hD hC hE hgood hbad hbad'
    go_wp2_with (fail)
    refine HTO.out.mono ?_
    rintro e w3 ⟨rfl, h3, j, h4⟩
    have HB3 := Lib.hid h4.b
    have HX3 := Lib.hid (gr_then (gr_some HX2.out w2.heap.size) (gr_then (gr_alloc (gr_refl w2 _) _) h3))
    obtain ⟨r0, r1, r2, s0, s1, s2, hlt⟩ := h4.r
    have hb03 : w.heap.size ≤ w3.heap.size := h4.b.size
    clear h3 h4 HTO HT HX1 HX2 HB1 HB2
    have HX4 := Lib.hid (gr_alloc HX3.out (.cells #[.int .i64 v.f0, .int .i64 v.f1, .string v.f2, .bool v.f3, .int .i64 v.f4] 29))
    have HB4 := Lib.hid (HB3.out.alloc hb03 (.cells #[.int .i64 v.f0, .int .i64 v.f1, .string v.f2, .bool v.f3, .int .i64 v.f4] 29))
    have hb04 : w.heap.size ≤ (w3.alloc (.cells #[.int .i64 v.f0, .int .i64 v.f1, .string v.f2, .bool v.f3, .int .i64 v.f4] 29)).heap.size := HB4.out.size
    unfold vv
    by_cases hf : f = 0
    · have hf1 : (f != 0) = false := by simpa using hf
      have hf2 : (f == 0) = true := by simpa using hf
      have hE := HE.out
      rw [if_pos hf] at hE
      have HE := Lib.hid hE
      clear hE
      go_wp2_with (fail)
      refine (good_any _ v).mono ?_
      rintro e w5 ⟨rfl, hb5⟩
      have HX5 := Lib.hid (gr_then HX4.out (gr_of_below hb5 (some w2.heap.size)))
      have HB5 := Lib.hid (HB4.out.trans (hb5.mono hb04))
      obtain ⟨x0, x1, x2, x3, x4, u0, u1, u2, u3, u4⟩ := loc5 (g := w3.heap.size + 1) (gr_of_below hb5 (some (w3.heap.size + 1))) (by omega)
      obtain ⟨z0, z1, z2, z3, z4, y0, y1, y2, y3, y4⟩ := loc5 HX5.out hw12
      clear hb5
      by_cases hk : okV v = true
      · have hE := HE.out
        rw [if_pos hk] at hE
        subst hE
        rw [hk]
        have hw13 : ¬ w3.heap.size = w.heap.size := by
          have h3 := HX3.out.size
          simp at h3
          omega
        go_wp2_with (fail)
        refine bodyPost_ret (v := .tuple #[vv v, .bool true]) (by simp [results, Tryz.results14, go_sem, vv, z0, z1, z2, z3, z4]) rfl ⟨rfl, below5 HB5.out (Nat.le_refl _) _ _ _ _ _⟩
      · have hk' : okV v = false := by simpa using hk
        have hE := HE.out
        rw [if_neg hk] at hE
        subst hE
        rw [hk']
        clear HE x0 x1 x2 x3 x4 u0 u1 u2 u3 u4 z0 z1 z2 z3 z4 y0 y1 y2 y3 y4
        go_wp2_with (fail)
        refine (e_any _ 3).mono ?_
        rintro e w7 ⟨rfl, hb7⟩
        obtain ⟨z0, z1, z2, z3, z4, y0, y1, y2, y3, y4⟩ := loc5 (gr_then HX5.out (gr_of_below hb7 (some w2.heap.size))) hw12
        have HB7 := Lib.hid (HB5.out.trans (hb7.mono HB5.out.size))
        clear hb7
        generalize hv : eV 3 = u at *
        have HV := Lib.hid hv
        clear hv
        unfold vv
        go_wp2_with (fail)
        refine bodyPost_ret (v := .tuple #[vv u, .bool true]) (by simp [results, Tryz.results14, go_sem, vv, z0, z1, z2, z3, z4]) rfl ⟨by rw [HV.out], below5 HB7.out (Nat.le_refl _) _ _ _ _ _⟩
    · have hf1 : (f != 0) = true := by simpa using hf
      have hf2 : (f == 0) = false := by simpa using hf
      have hE := HE.out
      rw [if_neg hf] at hE
      subst hE
      clear HE
      go_wp2_with (fail)
      refine (e_any _ f).mono ?_
      rintro e w7 ⟨rfl, hb7⟩
      obtain ⟨z0, z1, z2, z3, z4, y0, y1, y2, y3, y4⟩ := loc5 (gr_then HX4.out (gr_of_below hb7 (some w2.heap.size))) hw12
      have HB7 := Lib.hid (HB4.out.trans (hb7.mono hb04))
      clear hb7
      generalize hv : eV f = u at *
      have HV := Lib.hid hv
      clear hv
      unfold vv
      go_wp2_with (fail)
      refine bodyPost_ret (v := .tuple #[vv u, .bool true]) (by simp [results, Tryz.results14, go_sem, vv, z0, z1, z2, z3, z4]) rfl ⟨by rw [HV.out], below5 HB7.out (Nat.le_refl _) _ _ _ _ _⟩
def nMATCH : List UInt8 := [77, 65, 84, 67, 72]
def nINDEX : List UInt8 := [73, 78, 68, 69, 88]
def nVLOOKUP : List UInt8 := [86, 76, 79, 79, 75, 85, 80]
def nHLOOKUP : List UInt8 := [72, 76, 79, 79, 75, 85, 80]
def nLOOKUP : List UInt8 := [76, 79, 79, 75, 85, 80]
def nCHOOSE : List UInt8 := [67, 72, 79, 79, 83, 69]
def nROWS : List UInt8 := [82, 79, 87, 83]
def nCOLUMNS : List UInt8 := [67, 79, 76, 85, 77, 78, 83]
theorem name_of {name : ByteArray} {s : List UInt8} (h : name.toList = s) : name = ⟨s.toArray⟩ := by
  rw [ByteArray.toList_eq] at h
  apply ByteArray.ext
  rw [← h]
def takesS (name : ByteArray) : Int × Int :=
  if name.toList = nROWS ∨ name.toList = nCOLUMNS then (1, 1) else if name.toList = nMATCH ∨ name.toList = nINDEX then (2, 3) else if name.toList = nLOOKUP then (3, 3) else if name.toList = nVLOOKUP ∨ name.toList = nHLOOKUP then (3, 4) else if name.toList = nCHOOSE then (2, 32) else (0, 0)
theorem takes_f (name : ByteArray) (k : Nat) : looks_takes.f (k + 3) name = some (takesS name) := by
  unfold looks_takes.f looks_takes.j0 looks_takes.j1 looks_takes.j2 takesS nROWS nCOLUMNS nMATCH nINDEX nLOOKUP nVLOOKUP nHLOOKUP nCHOOSE
  generalize hn : name.toList = n
  by_cases h1 : n = [82, 79, 87, 83]
  · simp [hn, h1, looks_takes.j0, looks_takes.j1, looks_takes.j2]
  by_cases h2 : n = [67, 79, 76, 85, 77, 78, 83]
  · simp [hn, h2, looks_takes.j0, looks_takes.j1, looks_takes.j2]
  by_cases h3 : n = [77, 65, 84, 67, 72]
  · simp [hn, h3, looks_takes.j0, looks_takes.j1, looks_takes.j2]
  by_cases h4 : n = [73, 78, 68, 69, 88]
  · simp [hn, h4, looks_takes.j0, looks_takes.j1, looks_takes.j2]
  by_cases h5 : n = [76, 79, 79, 75, 85, 80]
  · simp [hn, h5, looks_takes.j0, looks_takes.j1, looks_takes.j2]
  by_cases h6 : n = [86, 76, 79, 79, 75, 85, 80]
  · simp [hn, h6, looks_takes.j0, looks_takes.j1, looks_takes.j2]
  by_cases h7 : n = [72, 76, 79, 79, 75, 85, 80]
  · simp [hn, h7, looks_takes.j0, looks_takes.j1, looks_takes.j2]
  by_cases h8 : n = [67, 72, 79, 79, 83, 69]
  · simp [hn, h8, looks_takes.j0, looks_takes.j1, looks_takes.j2]
  simp [hn, h1, h2, h3, h4, h5, h6, h7, h8, looks_takes.j0, looks_takes.j1, looks_takes.j2]
theorem takes_any (name : ByteArray) (w : World) : Calls Tryz.prog 30 #[.string name] w fun e w' => e = .returned (.tuple #[.int .i64 (takesS name).1, .int .i64 (takesS name).2]) ∧ Below w.heap.size w w' :=
  (looks_takes.calls 3 name _ _ w (takes_f name 0)).mono fun _ _ h => ⟨h.1, Below_drawn h.2.out⟩
def toldS (name : ByteArray) (l : List AR) : V × Int :=
  if name.toList = nMATCH then matchS l else if name.toList = nINDEX then indexS l else if name.toList = nVLOOKUP then lookupS false l else if name.toList = nHLOOKUP then lookupS true l else if name.toList = nLOOKUP then besideS l else if name.toList = nCHOOSE then chooseS l else if name.toList = nROWS then rowsS l else colsS l
def callS (name : ByteArray) (l : List AR) : V × Bool :=
  if (takesS name).2 = 0 then (zV, false) else if (l.length : Int) < (takesS name).1 ∨ (takesS name).2 < (l.length : Int) then (eV 3, true) else (if l.any (fun a => !okA a) = true then eV 3 else endS (toldS name l), true)
set_option maxHeartbeats 1000000 in
set_option maxRecDepth 100000 in
theorem call_none (name : ByteArray) (l : List AR) (lo : Int) (A : Option Addr) (c : Nat) (w : World)
   (hT : ∀ W, Calls Tryz.prog 30 #[.string name] W fun e w' => e = .returned (.tuple #[.int .i64 lo, .int .i64 0]) ∧ Below W.heap.size W w') :
    Calls Tryz.prog 14 #[.string name, .slice A l.length c] w fun e w' => e = .returned (.tuple #[vv zV, .bool false]) ∧ Below w.heap.size w w' := by
  have HT := Lib.hid hT
  clear hT
  have hne0 : w.heap.size ≠ w.heap.size + 1 := by omega
  go_enter Tryz.func14, Tryz.ntmps14
  go_wp2_with (fail)
  refine (HT.out _).mono ?_
  rintro e w1 ⟨rfl, hb1⟩
  have HB1 : Hid (Below w.heap.size w w1) := Lib.hid ((below_alloc (Below.refl _ _) _).trans (hb1.mono (by simp)))
  obtain ⟨z0, z1, z2, z3, z4, y0, y1, y2, y3, y4⟩ := loc5 (gr_some (gr_of_below hb1 none) (w.heap.size + 1)) hne0
  clear hb1
  go_wp2_with (fail)
  refine bodyPost_ret (v := .tuple #[vv zV, .bool false]) (by simp [results, Tryz.results14, go_sem, vv, zV, mt, z0, z1, z2, z3, z4]) rfl ⟨rfl, below5 HB1.out (Nat.le_refl _) _ _ _ _ _⟩
set_option maxHeartbeats 1000000 in
set_option maxRecDepth 100000 in
theorem call_few (name : ByteArray) (l : List AR) (lo hi : Int) (A : Option Addr) (c : Nat) (w : World)
   (hT : ∀ W, Calls Tryz.prog 30 #[.string name] W fun e w' => e = .returned (.tuple #[.int .i64 lo, .int .i64 hi]) ∧ Below W.heap.size W w')
   (h0 : hi ≠ 0) (h1 : (l.length : Int) < lo ∨ hi < (l.length : Int)) :
    Calls Tryz.prog 14 #[.string name, .slice A l.length c] w fun e w' => e = .returned (.tuple #[vv (eV 3), .bool true]) ∧ Below w.heap.size w w' := by
  have d0 : (hi == 0) = false := by simpa using h0
  have HT := Lib.hid hT
  clear hT h0
  have hne0 : w.heap.size ≠ w.heap.size + 1 := by omega
  by_cases hq : (l.length : Int) < lo
  all_goals
    first | (have d1 : decide ((l.length : Int) < lo) = true := by simpa using hq) | (have d1 : decide ((l.length : Int) < lo) = false := by simpa using hq)
    have d2 : decide (hi < (l.length : Int)) = true ∨ (l.length : Int) < lo := by
      rcases h1 with h1 | h1
      · exact .inr h1
      · exact .inl (by simpa using h1)
    first | (replace d2 : decide (hi < (l.length : Int)) = true := d2.elim id (fun h => absurd h hq)) | clear d2
    clear h1 hq
    go_enter Tryz.func14, Tryz.ntmps14
    go_wp2_with (fail)
    refine (HT.out _).mono ?_
    rintro e w1 ⟨rfl, hb1⟩
    have HB1 : Hid (Below w.heap.size w w1) := Lib.hid ((below_alloc (Below.refl _ _) _).trans (hb1.mono (by simp)))
    have HX1 := Lib.hid (gr_of_below hb1 none)
    clear hb1
    go_wp2_with (fail)
    refine (e_any _ 3).mono ?_
    rintro e w3 ⟨rfl, hb3⟩
    obtain ⟨z0, z1, z2, z3, z4, y0, y1, y2, y3, y4⟩ := loc5 (gr_some (gr_then HX1.out (gr_of_below hb3 none)) (w.heap.size + 1)) hne0
    have HB3 := Lib.hid (HB1.out.trans (hb3.mono HB1.out.size))
    clear hb3
    generalize hv : eV 3 = v at *
    have HV := Lib.hid hv
    clear hv
    unfold vv
    go_wp2_with (fail)
    refine bodyPost_ret (v := .tuple #[vv v, .bool true]) (by simp [results, Tryz.results14, go_sem, vv, z0, z1, z2, z3, z4]) rfl ⟨by rw [HV.out], below5 HB3.out (Nat.le_refl _) _ _ _ _ _⟩
theorem told_any {w0 w : World} {g : Nat} {A : Option Addr} {c : Nat} {l : List AR} (name : ByteArray) (h0 : (takesS name).2 ≠ 0) (h1 : (takesS name).1 ≤ (l.length : Int)) (hcap : l.length ≤ c) (hc : Cx w0 g A l) (h : Rd w0 w g A c l 0 0) :
    Calls Tryz.prog 34 #[.string name, .pointer (some ⟨g, 0, none⟩)] w fun e w' => e = .returned (vv (toldS name l).1) ∧ w.grownBy w' (some g) ∧ ∃ j, Rd w0 w' g A c l j (toldS name l).2 := by
  unfold takesS at h0 h1
  unfold toldS
  by_cases hMATCH : name.toList = nMATCH
  · rw [hMATCH] at h0 h1 ⊢
    simp only [nROWS, nCOLUMNS, nMATCH, nINDEX, nLOOKUP, nVLOOKUP, nHLOOKUP, nCHOOSE] at h0 h1 ⊢
    simp at h0 h1
    obtain rfl := name_of hMATCH
    exact told_match hc h
  by_cases hINDEX : name.toList = nINDEX
  · rw [hINDEX] at h0 h1 ⊢
    simp only [nROWS, nCOLUMNS, nMATCH, nINDEX, nLOOKUP, nVLOOKUP, nHLOOKUP, nCHOOSE] at h0 h1 ⊢
    simp at h0 h1
    obtain rfl := name_of hINDEX
    exact told_index hc h (by omega)
  by_cases hVLOOKUP : name.toList = nVLOOKUP
  · rw [hVLOOKUP] at h0 h1 ⊢
    simp only [nROWS, nCOLUMNS, nMATCH, nINDEX, nLOOKUP, nVLOOKUP, nHLOOKUP, nCHOOSE] at h0 h1 ⊢
    simp at h0 h1
    obtain rfl := name_of hVLOOKUP
    exact told_vl hc h (by omega)
  by_cases hHLOOKUP : name.toList = nHLOOKUP
  · rw [hHLOOKUP] at h0 h1 ⊢
    simp only [nROWS, nCOLUMNS, nMATCH, nINDEX, nLOOKUP, nVLOOKUP, nHLOOKUP, nCHOOSE] at h0 h1 ⊢
    simp at h0 h1
    obtain rfl := name_of hHLOOKUP
    exact told_hl hc h (by omega)
  by_cases hLOOKUP : name.toList = nLOOKUP
  · rw [hLOOKUP] at h0 h1 ⊢
    simp only [nROWS, nCOLUMNS, nMATCH, nINDEX, nLOOKUP, nVLOOKUP, nHLOOKUP, nCHOOSE] at h0 h1 ⊢
    simp at h0 h1
    obtain rfl := name_of hLOOKUP
    exact told_beside hc h
  by_cases hCHOOSE : name.toList = nCHOOSE
  · rw [hCHOOSE] at h0 h1 ⊢
    simp only [nROWS, nCOLUMNS, nMATCH, nINDEX, nLOOKUP, nVLOOKUP, nHLOOKUP, nCHOOSE] at h0 h1 ⊢
    simp at h0 h1
    obtain rfl := name_of hCHOOSE
    exact told_choose hc h hcap
  by_cases hROWS : name.toList = nROWS
  · rw [hROWS] at h0 h1 ⊢
    simp only [nROWS, nCOLUMNS, nMATCH, nINDEX, nLOOKUP, nVLOOKUP, nHLOOKUP, nCHOOSE] at h0 h1 ⊢
    simp at h0 h1
    obtain rfl := name_of hROWS
    exact told_rows hc h (by omega)
  by_cases hCOLUMNS : name.toList = nCOLUMNS
  · rw [hCOLUMNS] at h0 h1 ⊢
    simp only [nROWS, nCOLUMNS, nMATCH, nINDEX, nLOOKUP, nVLOOKUP, nHLOOKUP, nCHOOSE] at h0 h1 ⊢
    simp at h0 h1
    obtain rfl := name_of hCOLUMNS
    exact told_cols hc h (by omega)
  rw [if_neg (fun h => h.elim hROWS hCOLUMNS), if_neg (fun h => h.elim hMATCH hINDEX), if_neg hLOOKUP, if_neg (fun h => h.elim hVLOOKUP hHLOOKUP), if_neg hCHOOSE] at h0
  exact absurd rfl h0
theorem call_any (name : ByteArray) (l : List AR) (A : Option Addr) (c : Nat) (w : World) (hr : Kd.C kA w A l.length l) (hc : l.length ≤ c) (hl : l.length ≤ 4096) :
    Calls Tryz.prog 14 #[.string name, .slice A l.length c] w fun e w' => e = .returned (.tuple #[vv (callS name l).1, .bool (callS name l).2]) ∧ Below w.heap.size w w' := by
  have hT := takes_any name
  have hto := fun (h0 : (takesS name).2 ≠ 0) (h1 : (takesS name).1 ≤ (l.length : Int)) => fun (W : World) (g : Nat) (hC : Cx w g A l) (hD : Rd w W g A c l 0 0) => told_any name h0 h1 hc hC hD
  unfold callS
  generalize takesS name = t at *
  obtain ⟨lo, hi⟩ := t
  simp only at hT hto ⊢
  by_cases h0 : hi = 0
  · rw [if_pos h0]
    subst h0
    exact call_none name l lo A c w hT
  rw [if_neg h0]
  by_cases h1 : (l.length : Int) < lo ∨ hi < (l.length : Int)
  · rw [if_pos h1]
    exact call_few name l lo hi A c w hT h0 h1
  rw [if_neg h1]
  exact call_try name l lo hi _ A c w hr hc hl hT (hto h0 (by omega)) h0 (by omega) (by omega)
def looks_Call.f (name : ByteArray) (l : List AR) : Option (Int × Int × ByteArray × Bool × Int × Bool) :=
  if l.length ≤ 4096 then some ((callS name l).1.f0, (callS name l).1.f1, (callS name l).1.f2, (callS name l).1.f3, (callS name l).1.f4, (callS name l).2) else none
theorem looks_Call.calls (a0 : ByteArray) (A1 : Option Addr) (c1 : Nat) (l1 : List AR) (r1 r2 : Int) (r3 : ByteArray) (r4 : Bool) (r5 : Int) (r6 : Bool) (w : World) (hr1 : Kd.C kA w A1 l1.length l1) (hc1 : l1.length ≤ c1) (h : looks_Call.f a0 l1 = some (r1, r2, r3, r4, r5, r6)) :
    Calls Tryz.prog 14 #[.string a0, .slice A1 l1.length c1] w fun e w' => e = .returned (.tuple #[.agg #[.int .i64 r1, .int .i64 r2, .string r3, .bool r4, .int .i64 r5], .bool r6]) ∧ Below w.heap.size w w' := by
  unfold looks_Call.f at h
  by_cases hl : l1.length ≤ 4096
  · rw [if_pos hl] at h
    cases h
    exact call_any a0 l1 A1 c1 w hr1 hc1 hl
  · rw [if_neg hl] at h; cases h
end Go.Proofs.YtcihleahjnpaaaaGreatDoor.H
namespace Go.Proofs.YtcihleahjnpaaaaGreatDoor.P
open Go.RowKit Go.Proofs.YtcihleahjnpaaaaGreatDoor.Q Go.Proofs.YtcihleahjnpaaaaGreatDoor.H Go.Proofs.YtcihleahjnpaaaaGreatDoorW.PrintWords Go.Proofs.YtcihleahjnpaaaaGreatDoorW.PrintLast Go.Proofs.YtcihleahjnpaaaaGreatDoorW.PrintMore
attribute [local go_sem] max2_int min2_int max_two min_two max_three min_three max_four min_four   -- for this text's walks alone
set_option linter.unusedVariables false
set_option linter.unusedSimpArgs false
def latticelaw12_ask.f (a0 : ByteArray) (l1 : List (S67)) : Option (Int × Int × ByteArray × Bool × Int) := (looks_Call.f a0 l1).bind fun bt609 => (if bt609.2.2.2.2.2 = true then (some (bt609.1, bt609.2.1, bt609.2.2.1, bt609.2.2.2.1, bt609.2.2.2.2.1)) else ((value_E.f 5).bind fun bt616 => (some (bt616.1, bt616.2.1, bt616.2.2.1, bt616.2.2.2.1, bt616.2.2.2.2))))
set_option maxHeartbeats 8000000 in
set_option maxRecDepth 100000 in
theorem latticelaw12_ask.calls (a0 : ByteArray) (A1 : Option Addr) (c1 : Nat) (l1 : List (S67)) (r1 : Int) (r2 : Int) (r3 : ByteArray) (r4 : Bool) (r5 : Int) (w : World) (hr1 : Kd.C k67 w A1 l1.length l1) (hc1 : l1.length ≤ c1) (h : latticelaw12_ask.f a0 l1 = some (r1, r2, r3, r4, r5)) :
  Calls Tryz.prog 20 #[.string a0, .slice A1 l1.length c1] w fun e w' => e = .returned (.agg #[.int .i64 r1, .int .i64 r2, .string r3, .bool r4, .int .i64 r5]) ∧ Below w.heap.size w w' := by
 have hu29 := Tryz.underlying29
 have HR1 := Aside0.mk hr1
 have HC1 := Aside0.mk hc1
 clear hr1 hc1
 have HB := Aside0.mk (Below.refl w.heap.size w)
 have H : ((looks_Call.f a0 l1).bind fun bt609 => (if bt609.2.2.2.2.2 = true then (some (bt609.1, bt609.2.1, bt609.2.2.1, bt609.2.2.2.1, bt609.2.2.2.2.1)) else ((value_E.f 5).bind fun bt616 => (some (bt616.1, bt616.2.1, bt616.2.2.1, bt616.2.2.2.1, bt616.2.2.2.2))))) = some (r1, r2, r3, r4, r5) := h
 clear h
 replace H := Option.bind_eq_some_iff.mp H
 obtain ⟨⟨t609, t610, t611, t612, t613, t614⟩, A30, H⟩ := H
 replace H : (if t614 = true then (some (t609, t610, t611, t612, t613)) else ((value_E.f 5).bind fun bt616 => (some (bt616.1, bt616.2.1, bt616.2.2.1, bt616.2.2.2.1, bt616.2.2.2.2)))) = some (r1, r2, r3, r4, r5) := H
 have A3 := Aside0.mk A30
 clear A30
 by_cases c4 : t614 = true
 ·subst c4
  have H1 : (some (t609, t610, t611, t612, t613)) = some (r1, r2, r3, r4, r5) := by rw [if_pos rfl] at H; exact H
  clear H
  have H := H1
  clear H1
  simp only [Option.some.injEq, Prod.mk.injEq] at H
  obtain ⟨rfl, rfl, rfl, rfl, rfl⟩ := H
  go_enter Tryz.func20, Tryz.ntmps20
  go_wp2_with (first | ((with_reducible refine gate_dst (N := 4) rfl ?_); refine bx (N := 4) (cs := #[.int .i64 0, .int .i64 0, .string (⟨#[]⟩ : ByteArray), .bool false, .int .i64 0]) (t := 29) ?_; intro gb608 hg w5 hbox hb; have BK608 := Aside0.mk (hbox); have GW608 := (bw hg); have GE608 := (bw hg); replace HB := (bs hb); clear hb hbox hg) | ((with_reducible refine gate_callee (f := 14) rfl ?_); refine gL (some 10) Tryz.func14 #[.string a0, .slice A1 l1.length c1] ?_; (with_reducible refine (looks_Call.calls a0 _ _ l1 t609 t610 t611 t612 t613 true _ ?side1 ?side2 A3.out).mono ?_); (case side1 => repeat (first | exact (Kd.C_below HR1.out HB.out) | (with_reducible refine Kd.C_alloc ?_ _) | (with_reducible refine Kd.C_drewN ?_ _) | (with_reducible refine Kd.C_drew ?_))); (case side2 => exact HC1.out); rintro e w6 ⟨rfl, hb⟩; refine ⟨_, rfl, ?_⟩; replace BK608 := (bb BK608 hb); replace HB := (bs hb); (try clear hb)) | ((with_reducible refine gate_dst (N := 5) rfl ?_); refine bx (N := 5) (cs := #[.int .i64 0, .int .i64 0, .string (⟨#[]⟩ : ByteArray), .bool false, .int .i64 0]) (t := 29) ?_; intro gb615 hg w7 hbox hb; have BK615 := Aside0.mk (hbox); have GW615 := (bw hg); have GE615 := (bw hg); replace HB := (bs hb); have NB608_615 := Aside0.mk ((by rw [hg]; exact Nat.ne_of_lt (blk_lt (g := gb608) (o := .cells #[.int .i64 0, .int .i64 0, .string (⟨#[]⟩ : ByteArray), .bool false, .int .i64 0] 29 (0, 0)) (by (with_reducible repeat (first | refine blk_drewN ?_ _ | refine blk_drew ?_ | refine blk_alloc ?_ _)); exact BK608.out)) : gb608 ≠ gb615)); have NB615_608 := Aside0.mk ((by rw [hg]; exact Nat.ne_of_gt (blk_lt (g := gb608) (o := .cells #[.int .i64 0, .int .i64 0, .string (⟨#[]⟩ : ByteArray), .bool false, .int .i64 0] 29 (0, 0)) (by (with_reducible repeat (first | refine blk_drewN ?_ _ | refine blk_drew ?_ | refine blk_alloc ?_ _)); exact BK608.out)) : gb615 ≠ gb608)); replace BK608 := (bb BK608 hb); clear hb hbox hg; have hnb8 := NB615_608.out; have hnc8 := NB608_615.out; obtain ⟨hcz9_0, hcz9_1, hcz9_2, hcz9_3, hcz9_4, hfz9_0, hfz9_1, hfz9_2, hfz9_3, hfz9_4⟩ := bc5 BK615; obtain ⟨hcz10_0, hcz10_1, hcz10_2, hcz10_3, hcz10_4, hfz10_0, hfz10_1, hfz10_2, hfz10_3, hfz10_4⟩ := bc5 BK608))
  refine bodyPost_ret (results_cell_row rfl _ _ gb608 29 #[.int .i64 t609, .int .i64 t610, .string t611, .bool t612, .int .i64 t613] (0, 0) _ rfl (by (with_reducible repeat (first | refine blk_drewN ?_ _ | refine blk_drew ?_ | refine blk_alloc ?_ _)); refine blk_put (cs := #[.int .i64 t609, .int .i64 t610, .string t611, .bool t612, .int .i64 0]) ?_ 4 _ rfl; (with_reducible repeat (first | refine blk_drewN ?_ _ | refine blk_drew ?_ | refine blk_alloc ?_ _)); refine blk_put (cs := #[.int .i64 t609, .int .i64 t610, .string t611, .bool false, .int .i64 0]) ?_ 3 _ rfl; (with_reducible repeat (first | refine blk_drewN ?_ _ | refine blk_drew ?_ | refine blk_alloc ?_ _)); refine blk_put (cs := #[.int .i64 t609, .int .i64 t610, .string (⟨#[]⟩ : ByteArray), .bool false, .int .i64 0]) ?_ 2 _ rfl; (with_reducible repeat (first | refine blk_drewN ?_ _ | refine blk_drew ?_ | refine blk_alloc ?_ _)); refine blk_put (cs := #[.int .i64 t609, .int .i64 0, .string (⟨#[]⟩ : ByteArray), .bool false, .int .i64 0]) ?_ 1 _ rfl; (with_reducible repeat (first | refine blk_drewN ?_ _ | refine blk_drew ?_ | refine blk_alloc ?_ _)); refine blk_put (cs := #[.int .i64 0, .int .i64 0, .string (⟨#[]⟩ : ByteArray), .bool false, .int .i64 0]) ?_ 0 _ rfl; (with_reducible repeat (first | refine blk_drewN ?_ _ | refine blk_drew ?_ | refine blk_alloc ?_ _)); refine blk_far ?_ NB608_615.out _; (with_reducible repeat (first | refine blk_drewN ?_ _ | refine blk_drew ?_ | refine blk_alloc ?_ _)); refine blk_far ?_ NB608_615.out _; (with_reducible repeat (first | refine blk_drewN ?_ _ | refine blk_drew ?_ | refine blk_alloc ?_ _)); refine blk_far ?_ NB608_615.out _; (with_reducible repeat (first | refine blk_drewN ?_ _ | refine blk_drew ?_ | refine blk_alloc ?_ _)); refine blk_far ?_ NB608_615.out _; (with_reducible repeat (first | refine blk_drewN ?_ _ | refine blk_drew ?_ | refine blk_alloc ?_ _)); refine blk_far ?_ NB608_615.out _; (with_reducible repeat (first | refine blk_drewN ?_ _ | refine blk_drew ?_ | refine blk_alloc ?_ _)); exact BK608.out) Tryz.underlying29 rfl (by kernel_rfl)) rfl ?_
  exact ⟨by first | rfl | (simp [errW_none, errW_some] <;> rfl) | (simp [*, errW_none, errW_some] <;> rfl), be⟩
 ·replace c4 := Bool.eq_false_iff.mpr c4
  subst c4
  have H1 : ((value_E.f 5).bind fun bt616 => (some (bt616.1, bt616.2.1, bt616.2.2.1, bt616.2.2.2.1, bt616.2.2.2.2))) = some (r1, r2, r3, r4, r5) := by rw [if_neg (show ¬ (false = true) by decide)] at H; exact H
  clear H
  have H := H1
  clear H1
  replace H := Option.bind_eq_some_iff.mp H
  obtain ⟨⟨t616, t617, t618, t619, t620⟩, A110, H⟩ := H
  replace H : (some (t616, t617, t618, t619, t620)) = some (r1, r2, r3, r4, r5) := H
  have A11 := Aside0.mk A110
  clear A110
  simp only [Option.some.injEq, Prod.mk.injEq] at H
  obtain ⟨rfl, rfl, rfl, rfl, rfl⟩ := H
  go_enter Tryz.func20, Tryz.ntmps20
  go_wp2_with (first | ((with_reducible refine gate_dst (N := 4) rfl ?_); refine bx (N := 4) (cs := #[.int .i64 0, .int .i64 0, .string (⟨#[]⟩ : ByteArray), .bool false, .int .i64 0]) (t := 29) ?_; intro gb608 hg w12 hbox hb; have BK608 := Aside0.mk (hbox); have GW608 := (bw hg); have GE608 := (bw hg); replace HB := (bs hb); clear hb hbox hg) | ((with_reducible refine gate_callee (f := 14) rfl ?_); refine gL (some 10) Tryz.func14 #[.string a0, .slice A1 l1.length c1] ?_; (with_reducible refine (looks_Call.calls a0 _ _ l1 t609 t610 t611 t612 t613 false _ ?side1 ?side2 A3.out).mono ?_); (case side1 => repeat (first | exact (Kd.C_below HR1.out HB.out) | (with_reducible refine Kd.C_alloc ?_ _) | (with_reducible refine Kd.C_drewN ?_ _) | (with_reducible refine Kd.C_drew ?_))); (case side2 => exact HC1.out); rintro e w13 ⟨rfl, hb⟩; refine ⟨_, rfl, ?_⟩; replace BK608 := (bb BK608 hb); replace HB := (bs hb); (try clear hb)) | ((with_reducible refine gate_dst (N := 5) rfl ?_); refine bx (N := 5) (cs := #[.int .i64 0, .int .i64 0, .string (⟨#[]⟩ : ByteArray), .bool false, .int .i64 0]) (t := 29) ?_; intro gb615 hg w14 hbox hb; have BK615 := Aside0.mk (hbox); have GW615 := (bw hg); have GE615 := (bw hg); replace HB := (bs hb); have NB608_615 := Aside0.mk ((by rw [hg]; exact Nat.ne_of_lt (blk_lt (g := gb608) (o := .cells #[.int .i64 0, .int .i64 0, .string (⟨#[]⟩ : ByteArray), .bool false, .int .i64 0] 29 (0, 0)) (by (with_reducible repeat (first | refine blk_drewN ?_ _ | refine blk_drew ?_ | refine blk_alloc ?_ _)); exact BK608.out)) : gb608 ≠ gb615)); have NB615_608 := Aside0.mk ((by rw [hg]; exact Nat.ne_of_gt (blk_lt (g := gb608) (o := .cells #[.int .i64 0, .int .i64 0, .string (⟨#[]⟩ : ByteArray), .bool false, .int .i64 0] 29 (0, 0)) (by (with_reducible repeat (first | refine blk_drewN ?_ _ | refine blk_drew ?_ | refine blk_alloc ?_ _)); exact BK608.out)) : gb615 ≠ gb608)); replace BK608 := (bb BK608 hb); clear hb hbox hg; have hnb15 := NB615_608.out; have hnc15 := NB608_615.out; obtain ⟨hcz16_0, hcz16_1, hcz16_2, hcz16_3, hcz16_4, hfz16_0, hfz16_1, hfz16_2, hfz16_3, hfz16_4⟩ := bc5 BK615) | ((with_reducible refine gate_callee (f := 25) rfl ?_); refine gL (some 15) Tryz.func25 #[.int .i64 5] ?_; (with_reducible refine (value_E.calls 5 t616 t617 t618 t619 t620 _ A11.out).mono ?_); rintro e w17 ⟨rfl, hb⟩; refine ⟨_, rfl, ?_⟩; replace BK608 := Aside0.mk (blk_below (g := gb608) (o := .cells #[.int .i64 0, .int .i64 0, .string (⟨#[]⟩ : ByteArray), .bool false, .int .i64 0] 29 (0, 0)) (by (with_reducible repeat (first | refine blk_drewN ?_ _ | refine blk_drew ?_ | refine blk_alloc ?_ _)); refine blk_far ?_ NB608_615.out _; (with_reducible repeat (first | refine blk_drewN ?_ _ | refine blk_drew ?_ | refine blk_alloc ?_ _)); refine blk_far ?_ NB608_615.out _; (with_reducible repeat (first | refine blk_drewN ?_ _ | refine blk_drew ?_ | refine blk_alloc ?_ _)); refine blk_far ?_ NB608_615.out _; (with_reducible repeat (first | refine blk_drewN ?_ _ | refine blk_drew ?_ | refine blk_alloc ?_ _)); refine blk_far ?_ NB608_615.out _; (with_reducible repeat (first | refine blk_drewN ?_ _ | refine blk_drew ?_ | refine blk_alloc ?_ _)); refine blk_far ?_ NB608_615.out _; (with_reducible repeat (first | refine blk_drewN ?_ _ | refine blk_drew ?_ | refine blk_alloc ?_ _)); exact BK608.out) hb); replace BK615 := Aside0.mk (blk_below (g := gb615) (o := .cells #[.int .i64 t609, .int .i64 t610, .string t611, .bool t612, .int .i64 t613] 29 (0, 0)) (by (with_reducible repeat (first | refine blk_drewN ?_ _ | refine blk_drew ?_ | refine blk_alloc ?_ _)); refine blk_put (cs := #[.int .i64 t609, .int .i64 t610, .string t611, .bool t612, .int .i64 0]) ?_ 4 _ rfl; (with_reducible repeat (first | refine blk_drewN ?_ _ | refine blk_drew ?_ | refine blk_alloc ?_ _)); refine blk_put (cs := #[.int .i64 t609, .int .i64 t610, .string t611, .bool false, .int .i64 0]) ?_ 3 _ rfl; (with_reducible repeat (first | refine blk_drewN ?_ _ | refine blk_drew ?_ | refine blk_alloc ?_ _)); refine blk_put (cs := #[.int .i64 t609, .int .i64 t610, .string (⟨#[]⟩ : ByteArray), .bool false, .int .i64 0]) ?_ 2 _ rfl; (with_reducible repeat (first | refine blk_drewN ?_ _ | refine blk_drew ?_ | refine blk_alloc ?_ _)); refine blk_put (cs := #[.int .i64 t609, .int .i64 0, .string (⟨#[]⟩ : ByteArray), .bool false, .int .i64 0]) ?_ 1 _ rfl; (with_reducible repeat (first | refine blk_drewN ?_ _ | refine blk_drew ?_ | refine blk_alloc ?_ _)); refine blk_put (cs := #[.int .i64 0, .int .i64 0, .string (⟨#[]⟩ : ByteArray), .bool false, .int .i64 0]) ?_ 0 _ rfl; (with_reducible repeat (first | refine blk_drewN ?_ _ | refine blk_drew ?_ | refine blk_alloc ?_ _)); exact BK615.out) hb); replace HB := (bs hb); (try clear hb); obtain ⟨hcz18_0, hcz18_1, hcz18_2, hcz18_3, hcz18_4, hfz18_0, hfz18_1, hfz18_2, hfz18_3, hfz18_4⟩ := bc5 BK608))
  refine bodyPost_ret (results_cell_row rfl _ _ gb608 29 #[.int .i64 t616, .int .i64 t617, .string t618, .bool t619, .int .i64 t620] (0, 0) _ rfl (by (with_reducible repeat (first | refine blk_drewN ?_ _ | refine blk_drew ?_ | refine blk_alloc ?_ _)); refine blk_put (cs := #[.int .i64 t616, .int .i64 t617, .string t618, .bool t619, .int .i64 0]) ?_ 4 _ rfl; (with_reducible repeat (first | refine blk_drewN ?_ _ | refine blk_drew ?_ | refine blk_alloc ?_ _)); refine blk_put (cs := #[.int .i64 t616, .int .i64 t617, .string t618, .bool false, .int .i64 0]) ?_ 3 _ rfl; (with_reducible repeat (first | refine blk_drewN ?_ _ | refine blk_drew ?_ | refine blk_alloc ?_ _)); refine blk_put (cs := #[.int .i64 t616, .int .i64 t617, .string (⟨#[]⟩ : ByteArray), .bool false, .int .i64 0]) ?_ 2 _ rfl; (with_reducible repeat (first | refine blk_drewN ?_ _ | refine blk_drew ?_ | refine blk_alloc ?_ _)); refine blk_put (cs := #[.int .i64 t616, .int .i64 0, .string (⟨#[]⟩ : ByteArray), .bool false, .int .i64 0]) ?_ 1 _ rfl; (with_reducible repeat (first | refine blk_drewN ?_ _ | refine blk_drew ?_ | refine blk_alloc ?_ _)); refine blk_put (cs := #[.int .i64 0, .int .i64 0, .string (⟨#[]⟩ : ByteArray), .bool false, .int .i64 0]) ?_ 0 _ rfl; (with_reducible repeat (first | refine blk_drewN ?_ _ | refine blk_drew ?_ | refine blk_alloc ?_ _)); exact BK608.out) Tryz.underlying29 rfl (by kernel_rfl)) rfl ?_
  exact ⟨by first | rfl | (simp [errW_none, errW_some] <;> rfl) | (simp [*, errW_none, errW_some] <;> rfl), be⟩
end Go.Proofs.YtcihleahjnpaaaaGreatDoor.P
namespace Go.Proofs.YtcihleahjnpaaaaGreatDoor.P
open Go.RowKit Go.Proofs.YtcihleahjnpaaaaGreatDoor.Q Go.Proofs.YtcihleahjnpaaaaGreatDoor.H Go.Proofs.YtcihleahjnpaaaaGreatDoorW.PrintWords Go.Proofs.YtcihleahjnpaaaaGreatDoorW.PrintLast Go.Proofs.YtcihleahjnpaaaaGreatDoorW.PrintMore
attribute [local go_sem] max2_int min2_int max_two min_two max_three min_three max_four min_four   -- for this text's walks alone
set_option linter.unusedVariables false
set_option linter.unusedSimpArgs false
def sums_One.f (a0_0 : Int) (a0_1 : Int) (a0_2 : ByteArray) (a0_3 : Bool) (a0_4 : Int) : Option ((List (S29)) × Int × Bool) := some ((([(⟨a0_0, a0_1, a0_2, a0_3, a0_4⟩ : S29)] : List (S29))), 0, false)
set_option maxHeartbeats 8000000 in
set_option maxRecDepth 100000 in
theorem sums_One.calls (a0_0 : Int) (a0_1 : Int) (a0_2 : ByteArray) (a0_3 : Bool) (a0_4 : Int) (r1 : List (S29)) (r2 : Int) (r3 : Bool) (w : World) (h : sums_One.f a0_0 a0_1 a0_2 a0_3 a0_4 = some (r1, r2, r3)) :
  Calls Tryz.prog 22 #[.agg #[.int .i64 a0_0, .int .i64 a0_1, .string a0_2, .bool a0_3, .int .i64 a0_4]] w fun e w' => ∃ v0_ : Value, e = .returned (.agg #[v0_, .int .i64 r2, .bool r3]) ∧ Kd.R k29 29 w' w.heap.size (fun _ => True) v0_ r1 ∧ Below w.heap.size w w' := by
 have hu29 := Tryz.underlying29
 have hu67 := Tryz.underlying67
 have HB := Aside0.mk (Below.refl w.heap.size w)
 have H : (some ((([(⟨a0_0, a0_1, a0_2, a0_3, a0_4⟩ : S29)] : List (S29))), 0, false)) = some (r1, r2, r3) := h
 clear h
 obtain ⟨y624, hy624⟩ : ∃ y_ : List (S29), y_ = (([(⟨a0_0, a0_1, a0_2, a0_3, a0_4⟩ : S29)] : List (S29))) := ⟨_, rfl⟩
 replace H : (some (y624, 0, false)) = some (r1, r2, r3) := by first | (rw [hy624]; with_reducible exact H) | (have H2_ := (Option.bind_some _ _).symm.trans H; rw [hy624]; with_reducible exact H2_) | (have H2_ := (Option.bind_some _ _).symm.trans H; with_reducible exact H2_) | with_reducible exact H | (rw [hy624]; exact H) | exact H
 have Ny624 := Aside0.mk hy624
 clear hy624
 simp only [Option.some.injEq, Prod.mk.injEq] at H
 obtain ⟨rfl, rfl, rfl⟩ := H
 go_enter Tryz.func22, Tryz.ntmps22
 go_wp2_with (first | ((with_reducible refine gate_dst (N := 1) rfl ?_); refine bx (N := 1) (cs := #[.int .i64 a0_0, .int .i64 a0_1, .string a0_2, .bool a0_3, .int .i64 a0_4]) (t := 29) ?_; intro gb622 hg w2 hbox hb; have BK622 := Aside0.mk (hbox); have GW622 := (bw hg); have GE622 := (bw hg); replace HB := (bs hb); clear hb hbox hg) | ((with_reducible refine gate_dst (N := 2) rfl ?_); refine bx (N := 2) (cs := #[.slice none 0 0, .int .i64 0, .bool false]) (t := 67) ?_; intro gb623 hg w3 hbox hb; have BK623 := Aside0.mk (hbox); have GW623 := (bw hg); have GE623 := (bw hg); replace HB := (bs hb); have NB622_623 := Aside0.mk ((by rw [hg]; exact Nat.ne_of_lt (blk_lt (g := gb622) (o := .cells #[.int .i64 a0_0, .int .i64 a0_1, .string a0_2, .bool a0_3, .int .i64 a0_4] 29 (0, 0)) (by (with_reducible repeat (first | refine blk_drewN ?_ _ | refine blk_drew ?_ | refine blk_alloc ?_ _)); exact BK622.out)) : gb622 ≠ gb623)); have NB623_622 := Aside0.mk ((by rw [hg]; exact Nat.ne_of_gt (blk_lt (g := gb622) (o := .cells #[.int .i64 a0_0, .int .i64 a0_1, .string a0_2, .bool a0_3, .int .i64 a0_4] 29 (0, 0)) (by (with_reducible repeat (first | refine blk_drewN ?_ _ | refine blk_drew ?_ | refine blk_alloc ?_ _)); exact BK622.out)) : gb623 ≠ gb622)); replace BK622 := (bb BK622 hb); clear hb hbox hg; have hnb4 := NB622_623.out; have hnc4 := NB623_622.out; obtain ⟨hcz5_0, hcz5_1, hcz5_2, hcz5_3, hcz5_4, hfz5_0, hfz5_1, hfz5_2, hfz5_3, hfz5_4⟩ := bc5 BK622) | ((with_reducible refine gate_dst (N := 4) rfl ?_); refine Kd.R_lit k29 _ 29 ?hg (N := 4) ?hd (xs := ([(⟨a0_0, a0_1, a0_2, a0_3, a0_4⟩ : S29)] : List (S29))) (inner := [.int .i64 a0_0, .int .i64 a0_1, .string a0_2, .bool a0_3, .int .i64 a0_4]) (ok := fun _ => True) (okp := fun _ => True) ?hr ?hp (fun _ hk => hk) trivial (Below.refl _ _) (Nat.le_refl _) (by simp) ?_; (case hd => rfl); (case hg => rfl); (case hr => first | (go_simp; done) | (go_simp; rfl)); (case hp => exact (Reps.c5 (show Kd.M k29 _ _ _ (⟨a0_0, a0_1, a0_2, a0_3, a0_4⟩ : S29) [.int .i64 a0_0, .int .i64 a0_1, .string a0_2, .bool a0_3, .int .i64 a0_4] from (k29_mkM _ _ _ (⟨a0_0, a0_1, a0_2, a0_3, a0_4⟩ : S29) )) (Reps.none _ _))); intro v625 w6 ho7 hb hg_ hnew_; clear hg_ hnew_; (first | rw [← Ny624.out] at ho7 | (simp only [Int.reduceToNat] at ho7; rw [← Ny624.out] at ho7)); have HO626 := Aside0.mk (Kd.R_lower (Kd.R_newB ho7 (g := gb622) (o := .cells #[.int .i64 a0_0, .int .i64 a0_1, .string a0_2, .bool a0_3, .int .i64 a0_4] 29 (0, 0)) (by (with_reducible repeat (first | refine blk_drewN ?_ _ | refine blk_drew ?_ | refine blk_alloc ?_ _)); exact BK622.out)) (bz)); replace BK622 := (bb BK622 hb); replace BK623 := (bb BK623 hb); replace HB := (bs hb); clear hb ho7; obtain ⟨Ao8, co8, eo8⟩ := Kd.R_slice HO626.out; subst eo8; obtain ⟨hcz9_0, hcz9_1, hcz9_2, hfz9_0, hfz9_1, hfz9_2⟩ := bc3 BK623))
 refine bodyPost_ret (results_cell_row rfl _ _ gb623 67 #[.slice Ao8 y624.length co8, .int .i64 0, .bool false] (0, 0) _ rfl (by (with_reducible repeat (first | refine blk_drewN ?_ _ | refine blk_drew ?_ | refine blk_alloc ?_ _)); refine blk_put (cs := #[.slice Ao8 y624.length co8, .int .i64 0, .bool false]) ?_ 2 _ rfl; (with_reducible repeat (first | refine blk_drewN ?_ _ | refine blk_drew ?_ | refine blk_alloc ?_ _)); refine blk_put (cs := #[.slice Ao8 y624.length co8, .int .i64 0, .bool false]) ?_ 1 _ rfl; (with_reducible repeat (first | refine blk_drewN ?_ _ | refine blk_drew ?_ | refine blk_alloc ?_ _)); refine blk_put (cs := #[.slice none 0 0, .int .i64 0, .bool false]) ?_ 0 _ rfl; (with_reducible repeat (first | refine blk_drewN ?_ _ | refine blk_drew ?_ | refine blk_alloc ?_ _)); exact BK623.out) Tryz.underlying67 rfl (by kernel_rfl)) rfl ?_
 exact ⟨_, by first | rfl | (simp [errW_none, errW_some] <;> rfl) | (simp [*, errW_none, errW_some] <;> rfl), by (with_reducible repeat (first | apply Kd.R_alloc | apply Kd.R_drewN | apply Kd.R_drew)); exact Kd.R_mono (Kd.R_far (p := ⟨gb623, 2, none⟩) (Kd.R_far (p := ⟨gb623, 1, none⟩) (Kd.R_far (p := ⟨gb623, 0, none⟩) (Kd.R_types HO626.out BK623.out (by decide)) (fun _ hk => hk.2) (.slice Ao8 y624.length co8)) (fun _ hk => hk.2) (.int .i64 0)) (fun _ hk => hk.2) (.bool false)) (fun _ hk => trivial), be⟩
end Go.Proofs.YtcihleahjnpaaaaGreatDoor.P
namespace Go.Proofs.YtcihleahjnpaaaaGreatDoor.P
open Go.RowKit Go.Proofs.YtcihleahjnpaaaaGreatDoor.Q Go.Proofs.YtcihleahjnpaaaaGreatDoor.H Go.Proofs.YtcihleahjnpaaaaGreatDoorW.PrintWords Go.Proofs.YtcihleahjnpaaaaGreatDoorW.PrintLast Go.Proofs.YtcihleahjnpaaaaGreatDoorW.PrintMore
attribute [local go_sem] max2_int min2_int max_two min_two max_three min_three max_four min_four   -- for this text's walks alone
set_option linter.unusedVariables false
set_option linter.unusedSimpArgs false
def latticelaw12_n.f (k : Nat) (a0 : Int) : Option (Int × Int × ByteArray × Bool × Int) := (value_N.f k (wrap64 (a0 * 10000))).bind fun bt628 => (some (bt628.1, bt628.2.1, bt628.2.2.1, bt628.2.2.2.1, bt628.2.2.2.2))
set_option maxHeartbeats 8000000 in
set_option maxRecDepth 100000 in
theorem latticelaw12_n.calls (k : Nat) (a0 : Int) (r1 : Int) (r2 : Int) (r3 : ByteArray) (r4 : Bool) (r5 : Int) (w : World) (h : latticelaw12_n.f k a0 = some (r1, r2, r3, r4, r5)) :
  Calls Tryz.prog 23 #[.int .i64 a0] w fun e w' => e = .returned (.agg #[.int .i64 r1, .int .i64 r2, .string r3, .bool r4, .int .i64 r5]) ∧ Below w.heap.size w w' := by
 have hu29 := Tryz.underlying29
 have HB := Aside0.mk (Below.refl w.heap.size w)
 have H : ((value_N.f k (wrap64 (a0 * 10000))).bind fun bt628 => (some (bt628.1, bt628.2.1, bt628.2.2.1, bt628.2.2.2.1, bt628.2.2.2.2))) = some (r1, r2, r3, r4, r5) := h
 clear h
 replace H := Option.bind_eq_some_iff.mp H
 obtain ⟨⟨t628, t629, t630, t631, t632⟩, A20, H⟩ := H
 replace H : (some (t628, t629, t630, t631, t632)) = some (r1, r2, r3, r4, r5) := H
 have A2 := Aside0.mk A20
 clear A20
 simp only [Option.some.injEq, Prod.mk.injEq] at H
 obtain ⟨rfl, rfl, rfl, rfl, rfl⟩ := H
 go_enter Tryz.func23, Tryz.ntmps23
 go_wp2_with (first | ((with_reducible refine gate_dst (N := 2) rfl ?_); refine bx (N := 2) (cs := #[.int .i64 0, .int .i64 0, .string (⟨#[]⟩ : ByteArray), .bool false, .int .i64 0]) (t := 29) ?_; intro gb627 hg w3 hbox hb; have BK627 := Aside0.mk (hbox); have GW627 := (bw hg); have GE627 := (bw hg); replace HB := (bs hb); clear hb hbox hg) | ((with_reducible refine gate_callee (f := 29) rfl ?_); refine gL (some 5) Tryz.func29 #[.int .i64 (wrap64 (a0 * 10000))] ?_; (with_reducible refine (value_N.calls k (wrap64 (a0 * 10000)) t628 t629 t630 t631 t632 _ A2.out).mono ?_); rintro e w4 ⟨rfl, hb⟩; refine ⟨_, rfl, ?_⟩; replace BK627 := (bb BK627 hb); replace HB := (bs hb); (try clear hb); obtain ⟨hcz5_0, hcz5_1, hcz5_2, hcz5_3, hcz5_4, hfz5_0, hfz5_1, hfz5_2, hfz5_3, hfz5_4⟩ := bc5 BK627))
 refine bodyPost_ret (results_cell_row rfl _ _ gb627 29 #[.int .i64 t628, .int .i64 t629, .string t630, .bool t631, .int .i64 t632] (0, 0) _ rfl (by (with_reducible repeat (first | refine blk_drewN ?_ _ | refine blk_drew ?_ | refine blk_alloc ?_ _)); refine blk_put (cs := #[.int .i64 t628, .int .i64 t629, .string t630, .bool t631, .int .i64 0]) ?_ 4 _ rfl; (with_reducible repeat (first | refine blk_drewN ?_ _ | refine blk_drew ?_ | refine blk_alloc ?_ _)); refine blk_put (cs := #[.int .i64 t628, .int .i64 t629, .string t630, .bool false, .int .i64 0]) ?_ 3 _ rfl; (with_reducible repeat (first | refine blk_drewN ?_ _ | refine blk_drew ?_ | refine blk_alloc ?_ _)); refine blk_put (cs := #[.int .i64 t628, .int .i64 t629, .string (⟨#[]⟩ : ByteArray), .bool false, .int .i64 0]) ?_ 2 _ rfl; (with_reducible repeat (first | refine blk_drewN ?_ _ | refine blk_drew ?_ | refine blk_alloc ?_ _)); refine blk_put (cs := #[.int .i64 t628, .int .i64 0, .string (⟨#[]⟩ : ByteArray), .bool false, .int .i64 0]) ?_ 1 _ rfl; (with_reducible repeat (first | refine blk_drewN ?_ _ | refine blk_drew ?_ | refine blk_alloc ?_ _)); refine blk_put (cs := #[.int .i64 0, .int .i64 0, .string (⟨#[]⟩ : ByteArray), .bool false, .int .i64 0]) ?_ 0 _ rfl; (with_reducible repeat (first | refine blk_drewN ?_ _ | refine blk_drew ?_ | refine blk_alloc ?_ _)); exact BK627.out) Tryz.underlying29 rfl (by kernel_rfl)) rfl ?_
 exact ⟨by first | rfl | (simp [errW_none, errW_some] <;> rfl) | (simp [*, errW_none, errW_some] <;> rfl), be⟩
end Go.Proofs.YtcihleahjnpaaaaGreatDoor.P
namespace Go.Proofs.YtcihleahjnpaaaaGreatDoor.P
open Go.RowKit Go.Proofs.YtcihleahjnpaaaaGreatDoor.Q Go.Proofs.YtcihleahjnpaaaaGreatDoor.H Go.Proofs.YtcihleahjnpaaaaGreatDoorW.PrintWords Go.Proofs.YtcihleahjnpaaaaGreatDoorW.PrintLast Go.Proofs.YtcihleahjnpaaaaGreatDoorW.PrintMore
attribute [local go_sem] max2_int min2_int max_two min_two max_three min_three max_four min_four   -- for this text's walks alone
set_option linter.unusedVariables false
set_option linter.unusedSimpArgs false
def looks_Has.f (k : Nat) (a0 : ByteArray) : Option (Bool) := (looks_takes.f k a0).bind fun bt601 => (some (decide (bt601.2 > 0)))
set_option maxHeartbeats 8000000 in
set_option maxRecDepth 100000 in
theorem looks_Has.calls (k : Nat) (a0 : ByteArray) (r : Bool) (w : World) (h : looks_Has.f k a0 = some r) :
  Calls Tryz.prog 17 #[.string a0] w fun e w' => e = .returned (.bool r) ∧ Drawn0 w w' := by
 have H : ((looks_takes.f k a0).bind fun bt601 => (some (decide (bt601.2 > 0)))) = some r := h
 clear h
 replace H := Option.bind_eq_some_iff.mp H
 obtain ⟨⟨t601, t602⟩, A20, H⟩ := H
 replace H : (some (decide (t602 > 0))) = some r := H
 have A2 := Aside0.mk A20
 clear A20
 obtain rfl := Option.some.inj H
 go_enter Tryz.func17, Tryz.ntmps17
 go_wp2_with (first | ((with_reducible refine gate_callee (f := 30) rfl ?_); refine gL (some 7) Tryz.func30 #[.string a0] ?_; (with_reducible refine (looks_takes.calls k a0 t601 t602 _ A2.out).mono ?_); rintro e w' ⟨rfl, ⟨nd, rfl⟩⟩; refine ⟨_, rfl, ?_⟩))
 go_ret
 exact ⟨by first | rfl | (simp; done) | (simp [*]; done), by repeat (first | exact Drawn0.refl _ | apply Drawn0.step)⟩
end Go.Proofs.YtcihleahjnpaaaaGreatDoor.P
namespace Go.Proofs.YtcihleahjnpaaaaGreatDoor.H
open Go.RowKit Go.Proofs.YtcihleahjnpaaaaGreatDoor.P Go.Proofs.YtcihleahjnpaaaaGreatDoor.T Go.Proofs.YtcihleahjnpaaaaGreatDoorW.PrintWords Go.Proofs.YtcihleahjnpaaaaGreatDoorW.PrintLast Go.Proofs.YtcihleahjnpaaaaGreatDoorW.PrintMore
set_option linter.unusedVariables false
set_option linter.unusedSimpArgs false
def oneA (v : V) : AR := ⟨[v], 0, false⟩
def tabA (k : Int) (l : List V) : AR := ⟨l, k, true⟩
def askS (name : ByteArray) (l : List AR) : V := if (callS name l).2 = true then (callS name l).1 else eV 5
theorem ask_f (name : ByteArray) (l : List AR) (hl : l.length ≤ 4096) : latticelaw12_ask.f name l = some (tup (askS name l)) := by
  unfold latticelaw12_ask.f looks_Call.f askS
  rw [if_pos hl, Option.bind_some]
  simp only
  split
  · rfl
  · rw [E_f]; rfl
theorem ask_any (name : ByteArray) (l : List AR) (A : Option Addr) (c : Nat) (w : World) (hr : Kd.C kA w A l.length l) (hc : l.length ≤ c) (hl : l.length ≤ 4096) :
    Calls Tryz.prog 20 #[.string name, .slice A l.length c] w fun e w' => e = .returned (vv (askS name l)) ∧ Below w.heap.size w w' :=
  latticelaw12_ask.calls name A c l _ _ _ _ _ w hr hc (ask_f name l hl)
theorem one_any (v : V) (w : World) :
    Calls Tryz.prog 22 #[vv v] w fun e w' => ∃ B cB, e = .returned (.agg #[.slice B 1 cB, .int .i64 0, .bool false]) ∧ 1 ≤ cB ∧ Kd.C kV w' B 1 [v] ∧ Below w.heap.size w w' := by
  refine (sums_One.calls v.f0 v.f1 v.f2 v.f3 v.f4 [v] 0 false w rfl).mono ?_
  rintro e w' ⟨u, rfl, hR, hb⟩
  obtain ⟨B, cB, rfl, hcb, hC⟩ := Kd.R_reads hR
  exact ⟨B, cB, rfl, hcb, hC, hb⟩
theorem nn_any (k m : Int) (hm : m = k * 10000) (hk : -9000000000000000000 ≤ m ∧ m ≤ 9000000000000000000) (w : World) :
    Calls Tryz.prog 23 #[.int .i64 k] w fun e w' => e = .returned (.agg #[.int .i64 1, .int .i64 m, .string ⟨#[]⟩, .bool false, .int .i64 0]) ∧ Below w.heap.size w w' := by
  refine latticelaw12_n.calls 2 k _ _ _ _ _ w ?_
  unfold latticelaw12_n.f
  have h1 : wrap64 (k * 10000) = m := by rw [← hm]; unfold wrap64; omega
  have h2 : goodN m = true := by unfold goodN; simp; omega
  rw [h1, N_f]
  simp [nV, h2, tup, mt]
theorem table_any (k : Int) (A : Option Addr) (n c : Nat) (w : World) :
    Calls Tryz.prog 21 #[.int .i64 k, .slice A n c] w fun e w' => e = .returned (.agg #[.slice A n c, .int .i64 k, .bool true]) ∧ Below w.heap.size w w' := by
  go_enter Tryz.func21, Tryz.ntmps21
  go_wp2_with (fail)
  refine bodyPost_ret (v := .agg #[.slice A n c, .int .i64 k, .bool true]) (by simp [results, Tryz.results21, go_sem]) rfl ⟨rfl, ?_⟩
  exact below_alloc (Below.refl _ _) _
theorem has_any (name : ByteArray) (w : World) : Calls Tryz.prog 17 #[.string name] w fun e w' => e = .returned (.bool (decide (0 < (takesS name).2))) ∧ Below w.heap.size w w' := by
  refine (looks_Has.calls 3 name (decide (0 < (takesS name).2)) w ?_).mono fun _ _ h => ⟨h.1, Below_drawn h.2.out⟩
  unfold looks_Has.f
  rw [takes_f]
  rfl
theorem C_lit {α : Type} {d : Kd α} {W : World} (e : TypeId) {xs : List α} {inner : List Value} (h : Reps (d.K W) d.sz xs inner) (hm : xs.length ≤ 4096) : d.C (W.alloc (.cells inner.toArray e)) (some ⟨W.heap.size, 0, none⟩) xs.length xs := by
  have h1 := OwnRow.lit (e := e) W W.heap.size h (Nat.le_refl _) (by omega)
  obtain ⟨A, c, he, hl, hr⟩ := OwnRow.reads h1
  injection he with he1 _ _
  subst he1
  exact hr.imp_ (Below.refl _ _) (fun _ _ hp => d.K_below (below_alloc (Below.refl _ _) _) hp)
def vcells (x : V) : List Value := [.int .i64 x.f0, .int .i64 x.f1, .string x.f2, .bool x.f3, .int .i64 x.f4]
theorem valK (w : World) (x : V) : kV.K w x (vcells x) := ⟨[_], [_, _, _, _], rfl, rfl, ⟨[_], [_, _, _], rfl, rfl, ⟨[_], [_, _], rfl, rfl, ⟨[_], [_], rfl, rfl, rfl⟩⟩⟩⟩
theorem repsV (w : World) : ∀ l : List V, Reps (kV.K w) kV.sz l.reverse (l.reverse.flatMap vcells)
  | [] => Reps.none _ _
  | x :: l => by
    rw [List.reverse_cons, List.flatMap_append]
    have h := (repsV w l).snoc (valK w x) rfl
    simpa using h
theorem C_vals {W : World} (e : TypeId) (l : List V) (hl : l.length ≤ 4096) : Kd.C kV (W.alloc (.cells (l.flatMap vcells).toArray e)) (some ⟨W.heap.size, 0, none⟩) l.length l :=
  C_lit e (by have h := repsV W l.reverse; rwa [List.reverse_reverse] at h) hl
theorem argK {w : World} {A : Option Addr} {c : Nat} {a : AR} (hc : a.f0.length ≤ c) (h : Kd.C kV w A a.f0.length a.f0) : kA.K w a [.slice A a.f0.length c, .int .i64 a.f1, .bool a.f2] :=
  ⟨[_], [_, _], rfl, ⟨A, c, rfl, hc, h⟩, ⟨[_], [_], rfl, rfl, rfl⟩⟩
theorem C_args1 {W : World} (e : TypeId) {a : AR} {u : List Value} (h : kA.K W a u) (hu : u.length = 3) : Kd.C kA (W.alloc (.cells u.toArray e)) (some ⟨W.heap.size, 0, none⟩) 1 [a] :=
  C_lit e ((Reps.none _ _).snoc h hu) (show 1 ≤ 4096 by decide)
theorem C_args2 {W : World} (e : TypeId) {a b : AR} {u v : List Value} (h : kA.K W a u) (hu : u.length = 3) (k : kA.K W b v) (hv : v.length = 3) : Kd.C kA (W.alloc (.cells (u ++ v).toArray e)) (some ⟨W.heap.size, 0, none⟩) 2 [a, b] :=
  C_lit e (((Reps.none _ _).snoc h hu).snoc k hv) (show 2 ≤ 4096 by decide)
theorem C_args3 {W : World} (e : TypeId) {a b c : AR} {u v t : List Value} (h : kA.K W a u) (hu : u.length = 3) (k : kA.K W b v) (hv : v.length = 3) (m : kA.K W c t) (ht : t.length = 3) : Kd.C kA (W.alloc (.cells (u ++ v ++ t).toArray e)) (some ⟨W.heap.size, 0, none⟩) 3 [a, b, c] :=
  C_lit e ((((Reps.none _ _).snoc h hu).snoc k hv).snoc m ht) (show 3 ≤ 4096 by decide)
end Go.Proofs.YtcihleahjnpaaaaGreatDoor.H
namespace Go.Proofs.YtcihleahjnpaaaaGreatDoor.H
open Go.RowKit Go.Proofs.YtcihleahjnpaaaaGreatDoor.P Go.Proofs.YtcihleahjnpaaaaGreatDoor.T Go.Proofs.YtcihleahjnpaaaaGreatDoorW.PrintWords Go.Proofs.YtcihleahjnpaaaaGreatDoorW.PrintLast Go.Proofs.YtcihleahjnpaaaaGreatDoorW.PrintMore
set_option linter.unusedVariables false
set_option linter.unusedSimpArgs false
attribute [local go_sem high] eqA29
theorem tt_any (s : ByteArray) (hs : s.size ≤ 255) (w : World) : Calls Tryz.prog 28 #[.string s] w fun e w' => e = .returned (.agg #[.int .i64 2, .int .i64 0, .string s, .bool false, .int .i64 0]) ∧ Below w.heap.size w w' := by
  have h := t_any w s
  unfold tV at h
  rw [if_pos hs] at h
  exact h
theorem nv_any (m : Int) (hm : -9000000000000000000 ≤ m ∧ m ≤ 9000000000000000000) (w : World) : Calls Tryz.prog 29 #[.int .i64 m] w fun e w' => e = .returned (.agg #[.int .i64 1, .int .i64 m, .string ⟨#[]⟩, .bool false, .int .i64 0]) ∧ Below w.heap.size w w' := by
  have h := n_any w m
  have h2 : goodN m = true := by unfold goodN; simp; omega
  unfold nV at h
  rw [if_pos h2] at h
  exact h
theorem onec_any (a b : Int) (s : ByteArray) (t : Bool) (f : Int) (w : World) :
    Calls Tryz.prog 22 #[.agg #[.int .i64 a, .int .i64 b, .string s, .bool t, .int .i64 f]] w fun e w' => ∃ B cB, e = .returned (.agg #[.slice B 1 cB, .int .i64 0, .bool false]) ∧ 1 ≤ cB ∧ Kd.C kV w' B 1 [⟨a, b, s, t, f⟩] ∧ Below w.heap.size w w' := one_any ⟨a, b, s, t, f⟩ w
theorem askc_any (name : ByteArray) (l : List AR) (n : Nat) (hn : l.length = n) (a b : Int) (s : ByteArray) (t : Bool) (f : Int) (hx : askS name l = ⟨a, b, s, t, f⟩) (A : Option Addr) (w : World) (hr : Kd.C kA w A l.length l) (hl : l.length ≤ 4096) :
    Calls Tryz.prog 20 #[.string name, .slice A n n] w fun e w' => e = .returned (.agg #[.int .i64 a, .int .i64 b, .string s, .bool t, .int .i64 f]) ∧ Below w.heap.size w w' := by
  subst hn
  have h := ask_any name l A l.length w hr (Nat.le_refl _) hl
  rw [hx] at h
  exact h
theorem hasc_any (name : ByteArray) (h : decide (0 < (takesS name).2) = true) (w : World) : Calls Tryz.prog 17 #[.string name] w fun e w' => e = .returned (.bool true) ∧ Below w.heap.size w w' := by
  have := has_any name w
  rwa [h] at this
set_option maxHeartbeats 8000000 in
set_option maxRecDepth 100000 in
theorem wakes_any (w : World) : Calls Tryz.prog 12 #[] w fun e w' => e = .returned (.bool true) ∧ Below w.heap.size w w' := by
  go_enter Tryz.func12, Tryz.ntmps12
  have HB0 : Below w.heap.size w w := Below.refl _ _
  go_wp2_with (fail)
  refine (nn_any 1 10000 (by decide) (by decide) _).mono ?_
  rintro e w1 ⟨rfl, hb1⟩
  have HB1 := HB0.trans (hb1.mono HB0.size)
  clear HB0
  go_wp2_with (fail)
  refine (nn_any 2 20000 (by decide) (by decide) _).mono ?_
  rintro e w2 ⟨rfl, hb2⟩
  have HB2 := HB1.trans (hb2.mono HB1.size)
  clear HB1
  go_wp2_with (fail)
  refine (nn_any 3 30000 (by decide) (by decide) _).mono ?_
  rintro e w3 ⟨rfl, hb3⟩
  have HB3 := HB2.trans (hb3.mono HB2.size)
  clear HB2
  have hbax := below_alloc (Below.refl w3.heap.size w3) (.cells #[.int .i64 1, .int .i64 10000, .string ⟨#[]⟩, .bool false, .int .i64 0, .int .i64 1, .int .i64 20000, .string ⟨#[]⟩, .bool false, .int .i64 0, .int .i64 1, .int .i64 30000, .string ⟨#[]⟩, .bool false, .int .i64 0] 29)
  have hCx : Kd.C kV (w3.alloc (.cells #[.int .i64 1, .int .i64 10000, .string ⟨#[]⟩, .bool false, .int .i64 0, .int .i64 1, .int .i64 20000, .string ⟨#[]⟩, .bool false, .int .i64 0, .int .i64 1, .int .i64 30000, .string ⟨#[]⟩, .bool false, .int .i64 0] 29)) (some ⟨w3.heap.size, 0, none⟩) 3 [(⟨1, 10000, ⟨#[]⟩, false, 0⟩ : V), (⟨1, 20000, ⟨#[]⟩, false, 0⟩ : V), (⟨1, 30000, ⟨#[]⟩, false, 0⟩ : V)] := C_vals 29 [(⟨1, 10000, ⟨#[]⟩, false, 0⟩ : V), (⟨1, 20000, ⟨#[]⟩, false, 0⟩ : V), (⟨1, 30000, ⟨#[]⟩, false, 0⟩ : V)] (by decide)
  have HB4 := HB3.trans (hbax.mono HB3.size)
  clear HB3
  go_wp2_with (fail)
  refine (table_any 1 _ 3 3 _).mono ?_
  rintro e w4 ⟨rfl, hb4⟩
  have h1 := Kd.C_below hCx hb4
  have HB5 := HB4.trans (hb4.mono HB4.size)
  clear HB4
  have hblp := below_alloc (Below.refl w4.heap.size w4) (.cells #[.slice (some ⟨w3.heap.size, 0, none⟩) 3 3, .int .i64 1, .bool true] 67)
  have h2 := Kd.C_below h1 hblp
  have hYp : (w4.alloc (.cells #[.slice (some ⟨w3.heap.size, 0, none⟩) 3 3, .int .i64 1, .bool true] 67)).heap[w4.heap.size]? = some (.cells #[.slice (some ⟨w3.heap.size, 0, none⟩) 3 3, .int .i64 1, .bool true] 67 (0, 0)) := heap_alloc_new w4 _
  have hlp0 := cell_of_row _ _ 0 _ _ _ hYp
  have hlp1 := cell_of_row _ _ 1 _ _ _ hYp
  have hlp2 := cell_of_row _ _ 2 _ _ _ hYp
  clear hYp
  have HB6 := HB5.trans (hblp.mono HB5.size)
  clear HB5
  go_wp2_with (fail)
  refine (tt_any ⟨#[97]⟩ (by decide) _).mono ?_
  rintro e w5 ⟨rfl, hb5⟩
  have h3 := Kd.C_below h2 hb5
  have h4 := pw_cell_below hb5 hlp0
  have h5 := pw_cell_below hb5 hlp1
  have h6 := pw_cell_below hb5 hlp2
  have HB7 := HB6.trans (hb5.mono HB6.size)
  clear HB6
  go_wp2_with (fail)
  refine (nn_any 1 10000 (by decide) (by decide) _).mono ?_
  rintro e w6 ⟨rfl, hb6⟩
  have h7 := Kd.C_below h3 hb6
  have h8 := pw_cell_below hb6 h4
  have h9 := pw_cell_below hb6 h5
  have h10 := pw_cell_below hb6 h6
  have HB8 := HB7.trans (hb6.mono HB7.size)
  clear HB7
  go_wp2_with (fail)
  refine (tt_any ⟨#[98]⟩ (by decide) _).mono ?_
  rintro e w7 ⟨rfl, hb7⟩
  have h11 := Kd.C_below h7 hb7
  have h12 := pw_cell_below hb7 h8
  have h13 := pw_cell_below hb7 h9
  have h14 := pw_cell_below hb7 h10
  have HB9 := HB8.trans (hb7.mono HB8.size)
  clear HB8
  go_wp2_with (fail)
  refine (nn_any 2 20000 (by decide) (by decide) _).mono ?_
  rintro e w8 ⟨rfl, hb8⟩
  have h15 := Kd.C_below h11 hb8
  have h16 := pw_cell_below hb8 h12
  have h17 := pw_cell_below hb8 h13
  have h18 := pw_cell_below hb8 h14
  have HB10 := HB9.trans (hb8.mono HB9.size)
  clear HB9
  have hbay := below_alloc (Below.refl w8.heap.size w8) (.cells #[.int .i64 2, .int .i64 0, .string ⟨#[97]⟩, .bool false, .int .i64 0, .int .i64 1, .int .i64 10000, .string ⟨#[]⟩, .bool false, .int .i64 0, .int .i64 2, .int .i64 0, .string ⟨#[98]⟩, .bool false, .int .i64 0, .int .i64 1, .int .i64 20000, .string ⟨#[]⟩, .bool false, .int .i64 0] 29)
  have h19 := Kd.C_below h15 hbay
  have h20 := pw_cell_below hbay h16
  have h21 := pw_cell_below hbay h17
  have h22 := pw_cell_below hbay h18
  have hCy : Kd.C kV (w8.alloc (.cells #[.int .i64 2, .int .i64 0, .string ⟨#[97]⟩, .bool false, .int .i64 0, .int .i64 1, .int .i64 10000, .string ⟨#[]⟩, .bool false, .int .i64 0, .int .i64 2, .int .i64 0, .string ⟨#[98]⟩, .bool false, .int .i64 0, .int .i64 1, .int .i64 20000, .string ⟨#[]⟩, .bool false, .int .i64 0] 29)) (some ⟨w8.heap.size, 0, none⟩) 4 [(⟨2, 0, ⟨#[97]⟩, false, 0⟩ : V), (⟨1, 10000, ⟨#[]⟩, false, 0⟩ : V), (⟨2, 0, ⟨#[98]⟩, false, 0⟩ : V), (⟨1, 20000, ⟨#[]⟩, false, 0⟩ : V)] := C_vals 29 [(⟨2, 0, ⟨#[97]⟩, false, 0⟩ : V), (⟨1, 10000, ⟨#[]⟩, false, 0⟩ : V), (⟨2, 0, ⟨#[98]⟩, false, 0⟩ : V), (⟨1, 20000, ⟨#[]⟩, false, 0⟩ : V)] (by decide)
  have HB11 := HB10.trans (hbay.mono HB10.size)
  clear HB10
  go_wp2_with (fail)
  refine (table_any 2 _ 4 4 _).mono ?_
  rintro e w9 ⟨rfl, hb9⟩
  have h23 := Kd.C_below h19 hb9
  have h24 := pw_cell_below hb9 h20
  have h25 := pw_cell_below hb9 h21
  have h26 := pw_cell_below hb9 h22
  have h27 := Kd.C_below hCy hb9
  have HB12 := HB11.trans (hb9.mono HB11.size)
  clear HB11
  have hblq := below_alloc (Below.refl w9.heap.size w9) (.cells #[.slice (some ⟨w8.heap.size, 0, none⟩) 4 4, .int .i64 2, .bool true] 67)
  have h28 := Kd.C_below h23 hblq
  have h29 := pw_cell_below hblq h24
  have h30 := pw_cell_below hblq h25
  have h31 := pw_cell_below hblq h26
  have h32 := Kd.C_below h27 hblq
  have hYq : (w9.alloc (.cells #[.slice (some ⟨w8.heap.size, 0, none⟩) 4 4, .int .i64 2, .bool true] 67)).heap[w9.heap.size]? = some (.cells #[.slice (some ⟨w8.heap.size, 0, none⟩) 4 4, .int .i64 2, .bool true] 67 (0, 0)) := heap_alloc_new w9 _
  have hlq0 := cell_of_row _ _ 0 _ _ _ hYq
  have hlq1 := cell_of_row _ _ 1 _ _ _ hYq
  have hlq2 := cell_of_row _ _ 2 _ _ _ hYq
  clear hYq
  have HB13 := HB12.trans (hblq.mono HB12.size)
  clear HB12
  go_wp2_with (fail)
  refine start_ (n := 40) (S := fun w' => w'.cell? ⟨w4.heap.size, 0, none⟩ = some (.slice (some ⟨w3.heap.size, 0, none⟩) 3 3) ∧ w'.cell? ⟨w4.heap.size, 1, none⟩ = some (.int .i64 1) ∧ w'.cell? ⟨w4.heap.size, 2, none⟩ = some (.bool true) ∧ w'.cell? ⟨w9.heap.size, 0, none⟩ = some (.slice (some ⟨w8.heap.size, 0, none⟩) 4 4) ∧ w'.cell? ⟨w9.heap.size, 1, none⟩ = some (.int .i64 2) ∧ w'.cell? ⟨w9.heap.size, 2, none⟩ = some (.bool true)) (ds := []) #[false, false, false, false, false, false, false, false, false, false, false, false, false, false, false, false, false, false, false, false, false, false, false, false, false, false, false, false, false, false, false, false, false, false, false, false, false, false, false, false] (by kernel_rfl) rfl rfl ⟨h29, h30, h31, hlq0, hlq1, hlq2⟩ (fun hHeld => ?_)
  refine take_ (i := 2) (N := some 16) (v := ?_) (a' := ?_) #[false, false, true, false, false, false, false, false, false, false, false, false, false, false, false, false, false, false, false, false, false, false, false, false, false, false, false, false, false, false, false, false, false, false, false, false, false, false, false, false] rfl rfl (by kernel_rfl) (fun _ _ _ h => h) (Or.inl ⟨by rfl, ?_⟩) hHeld ?_ ?_
  rotate_left
  · rintro w' ⟨s0, s1, s2, s3, s4, s5⟩
    go_simp
    with_reducible rfl
  rotate_left
  · simp only [Act.put, List.setIfInBounds_toArray, List.set_cons_zero, List.set_cons_succ, i64_w, i32_w]
    rfl
  refine one_ (i := 0) (N := some 14) #[true, false, true, false, false, false, false, false, false, false, false, false, false, false, false, false, false, false, false, false, false, false, false, false, false, false, false, false, false, false, false, false, false, false, false, false, false, false, false, false] rfl rfl (by kernel_rfl) (by decide) (fun K hK => ?_)
  refine goes_ Tryz.func23 (by kernel_rfl) rfl #[.int .i64 2] (by rfl) rfl rfl (by (try simp only [List.map_toArray, List.map_cons, List.map_nil]); first | done | rfl) ?_
  refine (nn_any 2 20000 (by decide) (by decide) _).mono ?_
  rintro e w10 ⟨rfl, hb10⟩
  refine ⟨_, rfl, ?_⟩
  replace hb10 := below_undrew hb10
  have h33 := Kd.C_below h28 hb10
  have h34 := pw_cell_below hb10 h29
  have h35 := pw_cell_below hb10 h30
  have h36 := pw_cell_below hb10 h31
  have h37 := Kd.C_below h32 hb10
  have h38 := pw_cell_below hb10 hlq0
  have h39 := pw_cell_below hb10 hlq1
  have h40 := pw_cell_below hb10 hlq2
  have HB14 := HB13.trans (hb10.mono HB13.size)
  refine hK.out _ _ ⟨h34, h35, h36, h38, h39, h40⟩ (fun hHeld => ?_)
  clear hK K
  refine norm_ (a' := ?_) ?_ ?_
  rotate_left
  · show Act.put _ (some 14) _ = _
    simp only [Act.put, List.setIfInBounds_toArray, List.set_cons_zero, List.set_cons_succ, i64_w, i32_w]
    rfl
  refine one_ (i := 1) (N := some 15) #[true, true, true, false, false, false, false, false, false, false, false, false, false, false, false, false, false, false, false, false, false, false, false, false, false, false, false, false, false, false, false, false, false, false, false, false, false, false, false, false] rfl rfl (by kernel_rfl) (by decide) (fun K hK => ?_)
  refine goes_ Tryz.func22 (by kernel_rfl) rfl #[.agg #[.int .i64 1, .int .i64 20000, .string ⟨#[]⟩, .bool false, .int .i64 0]] (by rfl) rfl rfl (by (try simp only [List.map_toArray, List.map_cons, List.map_nil]); first | done | rfl) ?_
  refine (onec_any _ _ _ _ _ _).mono ?_
  rintro e w11 ⟨B11, c11, rfl, hc11, hC11, hb11⟩
  refine ⟨_, rfl, ?_⟩
  have h41 := Kd.C_below h33 hb11
  have h42 := pw_cell_below hb11 h34
  have h43 := pw_cell_below hb11 h35
  have h44 := pw_cell_below hb11 h36
  have h45 := Kd.C_below h37 hb11
  have h46 := pw_cell_below hb11 h38
  have h47 := pw_cell_below hb11 h39
  have h48 := pw_cell_below hb11 h40
  have HB15 := HB14.trans (hb11.mono HB14.size)
  refine hK.out _ _ ⟨h42, h43, h44, h46, h47, h48⟩ (fun hHeld => ?_)
  clear hK K
  refine norm_ (a' := ?_) ?_ ?_
  rotate_left
  · show Act.put _ (some 15) _ = _
    simp only [Act.put, List.setIfInBounds_toArray, List.set_cons_zero, List.set_cons_succ, i64_w, i32_w]
    rfl
  refine one_ (i := 3) (N := some 17) #[true, true, true, true, false, false, false, false, false, false, false, false, false, false, false, false, false, false, false, false, false, false, false, false, false, false, false, false, false, false, false, false, false, false, false, false, false, false, false, false] rfl rfl (by kernel_rfl) (by decide) (fun K hK => ?_)
  refine value_ (w1 := ?_) (v := ?_) (by rfl) rfl ?_ ?_
  rotate_left 2
  · go_simp
    constructor
    · rfl
    · rfl
  have ha12 : Kd.C kA (w11.alloc (.cells #[.slice B11 1 c11, .int .i64 0, .bool false, .slice (some ⟨w3.heap.size, 0, none⟩) 3 3, .int .i64 1, .bool true] 67)) (some ⟨w11.heap.size, 0, none⟩) 2 [oneA (⟨1, 20000, ⟨#[]⟩, false, 0⟩ : V), tabA 1 [(⟨1, 10000, ⟨#[]⟩, false, 0⟩ : V), (⟨1, 20000, ⟨#[]⟩, false, 0⟩ : V), (⟨1, 30000, ⟨#[]⟩, false, 0⟩ : V)]] := C_args2 67 (argK (a := oneA (⟨1, 20000, ⟨#[]⟩, false, 0⟩ : V)) hc11 hC11) rfl (argK (a := tabA 1 [(⟨1, 10000, ⟨#[]⟩, false, 0⟩ : V), (⟨1, 20000, ⟨#[]⟩, false, 0⟩ : V), (⟨1, 30000, ⟨#[]⟩, false, 0⟩ : V)]) (Nat.le_refl _) h41) rfl
  have hb12 := below_alloc (Below.refl w11.heap.size w11) (.cells #[.slice B11 1 c11, .int .i64 0, .bool false, .slice (some ⟨w3.heap.size, 0, none⟩) 3 3, .int .i64 1, .bool true] 67)
  have h49 := Kd.C_below h41 hb12
  have h50 := pw_cell_below hb12 h42
  have h51 := pw_cell_below hb12 h43
  have h52 := pw_cell_below hb12 h44
  have h53 := Kd.C_below h45 hb12
  have h54 := pw_cell_below hb12 h46
  have h55 := pw_cell_below hb12 h47
  have h56 := pw_cell_below hb12 h48
  have h57 := Kd.C_below hC11 hb12
  have HB16 := HB15.trans (hb12.mono HB15.size)
  refine hK.out _ _ ⟨h50, h51, h52, h54, h55, h56⟩ (fun hHeld => ?_)
  clear hK K
  refine norm_ (a' := ?_) ?_ ?_
  rotate_left
  · show Act.put _ (some 17) _ = _
    simp only [Act.put, List.setIfInBounds_toArray, List.set_cons_zero, List.set_cons_succ, i64_w, i32_w]
    rfl
  refine one_ (i := 4) (N := some 18) #[true, true, true, true, true, false, false, false, false, false, false, false, false, false, false, false, false, false, false, false, false, false, false, false, false, false, false, false, false, false, false, false, false, false, false, false, false, false, false, false] rfl rfl (by kernel_rfl) (by decide) (fun K hK => ?_)
  refine goes_ Tryz.func20 (by kernel_rfl) rfl #[.string ⟨#[77, 65, 84, 67, 72]⟩, .slice (some ⟨w11.heap.size, 0, none⟩) 2 2] (by rfl) rfl rfl (by (try simp only [List.map_toArray, List.map_cons, List.map_nil]); first | done | rfl) ?_
  refine (askc_any ⟨#[77, 65, 84, 67, 72]⟩ [oneA (⟨1, 20000, ⟨#[]⟩, false, 0⟩ : V), tabA 1 [(⟨1, 10000, ⟨#[]⟩, false, 0⟩ : V), (⟨1, 20000, ⟨#[]⟩, false, 0⟩ : V), (⟨1, 30000, ⟨#[]⟩, false, 0⟩ : V)]] 2 rfl 1 20000 ⟨#[]⟩ false 0 (by kernel_rfl) _ _ ha12 (by decide)).mono ?_
  rintro e w13 ⟨rfl, hb13⟩
  refine ⟨_, rfl, ?_⟩
  have h58 := Kd.C_below h49 hb13
  have h59 := pw_cell_below hb13 h50
  have h60 := pw_cell_below hb13 h51
  have h61 := pw_cell_below hb13 h52
  have h62 := Kd.C_below h53 hb13
  have h63 := pw_cell_below hb13 h54
  have h64 := pw_cell_below hb13 h55
  have h65 := pw_cell_below hb13 h56
  have HB17 := HB16.trans (hb13.mono HB16.size)
  refine hK.out _ _ ⟨h59, h60, h61, h63, h64, h65⟩ (fun hHeld => ?_)
  clear hK K
  refine norm_ (a' := ?_) ?_ ?_
  rotate_left
  · show Act.put _ (some 18) _ = _
    simp only [Act.put, List.setIfInBounds_toArray, List.set_cons_zero, List.set_cons_succ, i64_w, i32_w]
    rfl
  refine one_ (i := 5) (N := some 19) #[true, true, true, true, true, true, false, false, false, false, false, false, false, false, false, false, false, false, false, false, false, false, false, false, false, false, false, false, false, false, false, false, false, false, false, false, false, false, false, false] rfl rfl (by kernel_rfl) (by decide) (fun K hK => ?_)
  refine goes_ Tryz.func23 (by kernel_rfl) rfl #[.int .i64 2] (by rfl) rfl rfl (by (try simp only [List.map_toArray, List.map_cons, List.map_nil]); first | done | rfl) ?_
  refine (nn_any 2 20000 (by decide) (by decide) _).mono ?_
  rintro e w14 ⟨rfl, hb14⟩
  refine ⟨_, rfl, ?_⟩
  have h66 := Kd.C_below h58 hb14
  have h67 := pw_cell_below hb14 h59
  have h68 := pw_cell_below hb14 h60
  have h69 := pw_cell_below hb14 h61
  have h70 := Kd.C_below h62 hb14
  have h71 := pw_cell_below hb14 h63
  have h72 := pw_cell_below hb14 h64
  have h73 := pw_cell_below hb14 h65
  have HB18 := HB17.trans (hb14.mono HB17.size)
  refine hK.out _ _ ⟨h67, h68, h69, h71, h72, h73⟩ (fun hHeld => ?_)
  clear hK K
  refine norm_ (a' := ?_) ?_ ?_
  rotate_left
  · show Act.put _ (some 19) _ = _
    simp only [Act.put, List.setIfInBounds_toArray, List.set_cons_zero, List.set_cons_succ, i64_w, i32_w]
    rfl
  refine pure_ (i := 6) (N := some 20) (v := ?_) (a' := ?_) #[true, true, true, true, true, true, true, false, false, false, false, false, false, false, false, false, false, false, false, false, false, false, false, false, false, false, false, false, false, false, false, false, false, false, false, false, false, false, false, false] rfl rfl (by kernel_rfl) (fun _ _ _ h => h) (Or.inl ⟨by rfl, ?_⟩) ?_ ?_
  rotate_left
  · intro w'
    go_simp
    with_reducible rfl
  rotate_left
  · simp only [Act.put, List.setIfInBounds_toArray, List.set_cons_zero, List.set_cons_succ, i64_w, i32_w]
    rfl
  refine pure_ (i := 7) (N := some 21) (v := ?_) (a' := ?_) #[true, true, true, true, true, true, true, true, false, false, false, false, false, false, false, false, false, false, false, false, false, false, false, false, false, false, false, false, false, false, false, false, false, false, false, false, false, false, false, false] rfl rfl (by kernel_rfl) (fun _ _ _ h => h) (Or.inl ⟨by rfl, ?_⟩) ?_ ?_
  rotate_left
  · intro w'
    go_simp
    with_reducible rfl
  rotate_left
  · simp only [Act.put, List.setIfInBounds_toArray, List.set_cons_zero, List.set_cons_succ, i64_w, i32_w]
    rfl
  refine take_ (i := 10) (N := some 24) (v := ?_) (a' := ?_) #[true, true, true, true, true, true, true, true, false, false, true, false, false, false, false, false, false, false, false, false, false, false, false, false, false, false, false, false, false, false, false, false, false, false, false, false, false, false, false, false] rfl rfl (by kernel_rfl) (fun _ _ _ h => h) (Or.inl ⟨by rfl, ?_⟩) hHeld ?_ ?_
  rotate_left
  · rintro w' ⟨s0, s1, s2, s3, s4, s5⟩
    go_simp
    with_reducible rfl
  rotate_left
  · simp only [Act.put, List.setIfInBounds_toArray, List.set_cons_zero, List.set_cons_succ, i64_w, i32_w]
    rfl
  refine one_ (i := 8) (N := some 22) #[true, true, true, true, true, true, true, true, true, false, true, false, false, false, false, false, false, false, false, false, false, false, false, false, false, false, false, false, false, false, false, false, false, false, false, false, false, false, false, false] rfl rfl (by kernel_rfl) (by decide) (fun K hK => ?_)
  refine goes_ Tryz.func29 (by kernel_rfl) rfl #[.int .i64 25000] (by rfl) rfl rfl (by (try simp only [List.map_toArray, List.map_cons, List.map_nil]); first | done | rfl) ?_
  refine (nv_any 25000 (by decide) _).mono ?_
  rintro e w15 ⟨rfl, hb15⟩
  refine ⟨_, rfl, ?_⟩
  have h74 := Kd.C_below h66 hb15
  have h75 := pw_cell_below hb15 h67
  have h76 := pw_cell_below hb15 h68
  have h77 := pw_cell_below hb15 h69
  have h78 := Kd.C_below h70 hb15
  have h79 := pw_cell_below hb15 h71
  have h80 := pw_cell_below hb15 h72
  have h81 := pw_cell_below hb15 h73
  have HB19 := HB18.trans (hb15.mono HB18.size)
  refine hK.out _ _ ⟨h75, h76, h77, h79, h80, h81⟩ (fun hHeld => ?_)
  clear hK K
  refine norm_ (a' := ?_) ?_ ?_
  rotate_left
  · show Act.put _ (some 22) _ = _
    simp only [Act.put, List.setIfInBounds_toArray, List.set_cons_zero, List.set_cons_succ, i64_w, i32_w]
    rfl
  refine one_ (i := 9) (N := some 23) #[true, true, true, true, true, true, true, true, true, true, true, false, false, false, false, false, false, false, false, false, false, false, false, false, false, false, false, false, false, false, false, false, false, false, false, false, false, false, false, false] rfl rfl (by kernel_rfl) (by decide) (fun K hK => ?_)
  refine goes_ Tryz.func22 (by kernel_rfl) rfl #[.agg #[.int .i64 1, .int .i64 25000, .string ⟨#[]⟩, .bool false, .int .i64 0]] (by rfl) rfl rfl (by (try simp only [List.map_toArray, List.map_cons, List.map_nil]); first | done | rfl) ?_
  refine (onec_any _ _ _ _ _ _).mono ?_
  rintro e w16 ⟨B16, c16, rfl, hc16, hC16, hb16⟩
  refine ⟨_, rfl, ?_⟩
  have h82 := Kd.C_below h74 hb16
  have h83 := pw_cell_below hb16 h75
  have h84 := pw_cell_below hb16 h76
  have h85 := pw_cell_below hb16 h77
  have h86 := Kd.C_below h78 hb16
  have h87 := pw_cell_below hb16 h79
  have h88 := pw_cell_below hb16 h80
  have h89 := pw_cell_below hb16 h81
  have HB20 := HB19.trans (hb16.mono HB19.size)
  refine hK.out _ _ ⟨h83, h84, h85, h87, h88, h89⟩ (fun hHeld => ?_)
  clear hK K
  refine norm_ (a' := ?_) ?_ ?_
  rotate_left
  · show Act.put _ (some 23) _ = _
    simp only [Act.put, List.setIfInBounds_toArray, List.set_cons_zero, List.set_cons_succ, i64_w, i32_w]
    rfl
  refine one_ (i := 11) (N := some 25) #[true, true, true, true, true, true, true, true, true, true, true, true, false, false, false, false, false, false, false, false, false, false, false, false, false, false, false, false, false, false, false, false, false, false, false, false, false, false, false, false] rfl rfl (by kernel_rfl) (by decide) (fun K hK => ?_)
  refine goes_ Tryz.func23 (by kernel_rfl) rfl #[.int .i64 1] (by rfl) rfl rfl (by (try simp only [List.map_toArray, List.map_cons, List.map_nil]); first | done | rfl) ?_
  refine (nn_any 1 10000 (by decide) (by decide) _).mono ?_
  rintro e w17 ⟨rfl, hb17⟩
  refine ⟨_, rfl, ?_⟩
  have h90 := Kd.C_below h82 hb17
  have h91 := pw_cell_below hb17 h83
  have h92 := pw_cell_below hb17 h84
  have h93 := pw_cell_below hb17 h85
  have h94 := Kd.C_below h86 hb17
  have h95 := pw_cell_below hb17 h87
  have h96 := pw_cell_below hb17 h88
  have h97 := pw_cell_below hb17 h89
  have h98 := Kd.C_below hC16 hb17
  have HB21 := HB20.trans (hb17.mono HB20.size)
  refine hK.out _ _ ⟨h91, h92, h93, h95, h96, h97⟩ (fun hHeld => ?_)
  clear hK K
  refine norm_ (a' := ?_) ?_ ?_
  rotate_left
  · show Act.put _ (some 25) _ = _
    simp only [Act.put, List.setIfInBounds_toArray, List.set_cons_zero, List.set_cons_succ, i64_w, i32_w]
    rfl
  refine one_ (i := 12) (N := some 26) #[true, true, true, true, true, true, true, true, true, true, true, true, true, false, false, false, false, false, false, false, false, false, false, false, false, false, false, false, false, false, false, false, false, false, false, false, false, false, false, false] rfl rfl (by kernel_rfl) (by decide) (fun K hK => ?_)
  refine goes_ Tryz.func22 (by kernel_rfl) rfl #[.agg #[.int .i64 1, .int .i64 10000, .string ⟨#[]⟩, .bool false, .int .i64 0]] (by rfl) rfl rfl (by (try simp only [List.map_toArray, List.map_cons, List.map_nil]); first | done | rfl) ?_
  refine (onec_any _ _ _ _ _ _).mono ?_
  rintro e w18 ⟨B18, c18, rfl, hc18, hC18, hb18⟩
  refine ⟨_, rfl, ?_⟩
  have h99 := Kd.C_below h90 hb18
  have h100 := pw_cell_below hb18 h91
  have h101 := pw_cell_below hb18 h92
  have h102 := pw_cell_below hb18 h93
  have h103 := Kd.C_below h94 hb18
  have h104 := pw_cell_below hb18 h95
  have h105 := pw_cell_below hb18 h96
  have h106 := pw_cell_below hb18 h97
  have h107 := Kd.C_below h98 hb18
  have HB22 := HB21.trans (hb18.mono HB21.size)
  refine hK.out _ _ ⟨h100, h101, h102, h104, h105, h106⟩ (fun hHeld => ?_)
  clear hK K
  refine norm_ (a' := ?_) ?_ ?_
  rotate_left
  · show Act.put _ (some 26) _ = _
    simp only [Act.put, List.setIfInBounds_toArray, List.set_cons_zero, List.set_cons_succ, i64_w, i32_w]
    rfl
  refine one_ (i := 13) (N := some 27) #[true, true, true, true, true, true, true, true, true, true, true, true, true, true, false, false, false, false, false, false, false, false, false, false, false, false, false, false, false, false, false, false, false, false, false, false, false, false, false, false] rfl rfl (by kernel_rfl) (by decide) (fun K hK => ?_)
  refine value_ (w1 := ?_) (v := ?_) (by rfl) rfl ?_ ?_
  rotate_left 2
  · go_simp
    constructor
    · rfl
    · rfl
  have ha19 : Kd.C kA (w18.alloc (.cells #[.slice B16 1 c16, .int .i64 0, .bool false, .slice (some ⟨w3.heap.size, 0, none⟩) 3 3, .int .i64 1, .bool true, .slice B18 1 c18, .int .i64 0, .bool false] 67)) (some ⟨w18.heap.size, 0, none⟩) 3 [oneA (⟨1, 25000, ⟨#[]⟩, false, 0⟩ : V), tabA 1 [(⟨1, 10000, ⟨#[]⟩, false, 0⟩ : V), (⟨1, 20000, ⟨#[]⟩, false, 0⟩ : V), (⟨1, 30000, ⟨#[]⟩, false, 0⟩ : V)], oneA (⟨1, 10000, ⟨#[]⟩, false, 0⟩ : V)] := C_args3 67 (argK (a := oneA (⟨1, 25000, ⟨#[]⟩, false, 0⟩ : V)) hc16 h107) rfl (argK (a := tabA 1 [(⟨1, 10000, ⟨#[]⟩, false, 0⟩ : V), (⟨1, 20000, ⟨#[]⟩, false, 0⟩ : V), (⟨1, 30000, ⟨#[]⟩, false, 0⟩ : V)]) (Nat.le_refl _) h99) rfl (argK (a := oneA (⟨1, 10000, ⟨#[]⟩, false, 0⟩ : V)) hc18 hC18) rfl
  have hb19 := below_alloc (Below.refl w18.heap.size w18) (.cells #[.slice B16 1 c16, .int .i64 0, .bool false, .slice (some ⟨w3.heap.size, 0, none⟩) 3 3, .int .i64 1, .bool true, .slice B18 1 c18, .int .i64 0, .bool false] 67)
  have h108 := Kd.C_below h99 hb19
  have h109 := pw_cell_below hb19 h100
  have h110 := pw_cell_below hb19 h101
  have h111 := pw_cell_below hb19 h102
  have h112 := Kd.C_below h103 hb19
  have h113 := pw_cell_below hb19 h104
  have h114 := pw_cell_below hb19 h105
  have h115 := pw_cell_below hb19 h106
  have h116 := Kd.C_below h107 hb19
  have h117 := Kd.C_below hC18 hb19
  have HB23 := HB22.trans (hb19.mono HB22.size)
  refine hK.out _ _ ⟨h109, h110, h111, h113, h114, h115⟩ (fun hHeld => ?_)
  clear hK K
  refine norm_ (a' := ?_) ?_ ?_
  rotate_left
  · show Act.put _ (some 27) _ = _
    simp only [Act.put, List.setIfInBounds_toArray, List.set_cons_zero, List.set_cons_succ, i64_w, i32_w]
    rfl
  refine one_ (i := 14) (N := some 28) #[true, true, true, true, true, true, true, true, true, true, true, true, true, true, true, false, false, false, false, false, false, false, false, false, false, false, false, false, false, false, false, false, false, false, false, false, false, false, false, false] rfl rfl (by kernel_rfl) (by decide) (fun K hK => ?_)
  refine goes_ Tryz.func20 (by kernel_rfl) rfl #[.string ⟨#[77, 65, 84, 67, 72]⟩, .slice (some ⟨w18.heap.size, 0, none⟩) 3 3] (by rfl) rfl rfl (by (try simp only [List.map_toArray, List.map_cons, List.map_nil]); first | done | rfl) ?_
  refine (askc_any ⟨#[77, 65, 84, 67, 72]⟩ [oneA (⟨1, 25000, ⟨#[]⟩, false, 0⟩ : V), tabA 1 [(⟨1, 10000, ⟨#[]⟩, false, 0⟩ : V), (⟨1, 20000, ⟨#[]⟩, false, 0⟩ : V), (⟨1, 30000, ⟨#[]⟩, false, 0⟩ : V)], oneA (⟨1, 10000, ⟨#[]⟩, false, 0⟩ : V)] 3 rfl 1 20000 ⟨#[]⟩ false 0 (by kernel_rfl) _ _ ha19 (by decide)).mono ?_
  rintro e w20 ⟨rfl, hb20⟩
  refine ⟨_, rfl, ?_⟩
  have h118 := Kd.C_below h108 hb20
  have h119 := pw_cell_below hb20 h109
  have h120 := pw_cell_below hb20 h110
  have h121 := pw_cell_below hb20 h111
  have h122 := Kd.C_below h112 hb20
  have h123 := pw_cell_below hb20 h113
  have h124 := pw_cell_below hb20 h114
  have h125 := pw_cell_below hb20 h115
  have HB24 := HB23.trans (hb20.mono HB23.size)
  refine hK.out _ _ ⟨h119, h120, h121, h123, h124, h125⟩ (fun hHeld => ?_)
  clear hK K
  refine norm_ (a' := ?_) ?_ ?_
  rotate_left
  · show Act.put _ (some 28) _ = _
    simp only [Act.put, List.setIfInBounds_toArray, List.set_cons_zero, List.set_cons_succ, i64_w, i32_w]
    rfl
  refine one_ (i := 15) (N := some 29) #[true, true, true, true, true, true, true, true, true, true, true, true, true, true, true, true, false, false, false, false, false, false, false, false, false, false, false, false, false, false, false, false, false, false, false, false, false, false, false, false] rfl rfl (by kernel_rfl) (by decide) (fun K hK => ?_)
  refine goes_ Tryz.func23 (by kernel_rfl) rfl #[.int .i64 2] (by rfl) rfl rfl (by (try simp only [List.map_toArray, List.map_cons, List.map_nil]); first | done | rfl) ?_
  refine (nn_any 2 20000 (by decide) (by decide) _).mono ?_
  rintro e w21 ⟨rfl, hb21⟩
  refine ⟨_, rfl, ?_⟩
  have h126 := Kd.C_below h118 hb21
  have h127 := pw_cell_below hb21 h119
  have h128 := pw_cell_below hb21 h120
  have h129 := pw_cell_below hb21 h121
  have h130 := Kd.C_below h122 hb21
  have h131 := pw_cell_below hb21 h123
  have h132 := pw_cell_below hb21 h124
  have h133 := pw_cell_below hb21 h125
  have HB25 := HB24.trans (hb21.mono HB24.size)
  refine hK.out _ _ ⟨h127, h128, h129, h131, h132, h133⟩ (fun hHeld => ?_)
  clear hK K
  refine norm_ (a' := ?_) ?_ ?_
  rotate_left
  · show Act.put _ (some 29) _ = _
    simp only [Act.put, List.setIfInBounds_toArray, List.set_cons_zero, List.set_cons_succ, i64_w, i32_w]
    rfl
  refine pure_ (i := 16) (N := some 30) (v := ?_) (a' := ?_) #[true, true, true, true, true, true, true, true, true, true, true, true, true, true, true, true, true, false, false, false, false, false, false, false, false, false, false, false, false, false, false, false, false, false, false, false, false, false, false, false] rfl rfl (by kernel_rfl) (fun _ _ _ h => h) (Or.inl ⟨by rfl, ?_⟩) ?_ ?_
  rotate_left
  · intro w'
    go_simp
    with_reducible rfl
  rotate_left
  · simp only [Act.put, List.setIfInBounds_toArray, List.set_cons_zero, List.set_cons_succ, i64_w, i32_w]
    rfl
  refine pure_ (i := 17) (N := some 31) (v := ?_) (a' := ?_) #[true, true, true, true, true, true, true, true, true, true, true, true, true, true, true, true, true, true, false, false, false, false, false, false, false, false, false, false, false, false, false, false, false, false, false, false, false, false, false, false] rfl rfl (by kernel_rfl) (fun _ _ _ h => h) (Or.inl ⟨by rfl, ?_⟩) ?_ ?_
  rotate_left
  · intro w'
    go_simp
    with_reducible rfl
  rotate_left
  · simp only [Act.put, List.setIfInBounds_toArray, List.set_cons_zero, List.set_cons_succ, i64_w, i32_w]
    rfl
  refine pure_ (i := 18) (N := some 32) (v := ?_) (a' := ?_) #[true, true, true, true, true, true, true, true, true, true, true, true, true, true, true, true, true, true, true, false, false, false, false, false, false, false, false, false, false, false, false, false, false, false, false, false, false, false, false, false] rfl rfl (by kernel_rfl) (fun _ _ _ h => h) (Or.inl ⟨by rfl, ?_⟩) ?_ ?_
  rotate_left
  · intro w'
    go_simp
    with_reducible rfl
  rotate_left
  · simp only [Act.put, List.setIfInBounds_toArray, List.set_cons_zero, List.set_cons_succ, i64_w, i32_w]
    rfl
  refine take_ (i := 21) (N := some 35) (v := ?_) (a' := ?_) #[true, true, true, true, true, true, true, true, true, true, true, true, true, true, true, true, true, true, true, false, false, true, false, false, false, false, false, false, false, false, false, false, false, false, false, false, false, false, false, false] rfl rfl (by kernel_rfl) (fun _ _ _ h => h) (Or.inl ⟨by rfl, ?_⟩) hHeld ?_ ?_
  rotate_left
  · rintro w' ⟨s0, s1, s2, s3, s4, s5⟩
    go_simp
    with_reducible rfl
  rotate_left
  · simp only [Act.put, List.setIfInBounds_toArray, List.set_cons_zero, List.set_cons_succ, i64_w, i32_w]
    rfl
  refine one_ (i := 19) (N := some 33) #[true, true, true, true, true, true, true, true, true, true, true, true, true, true, true, true, true, true, true, true, false, true, false, false, false, false, false, false, false, false, false, false, false, false, false, false, false, false, false, false] rfl rfl (by kernel_rfl) (by decide) (fun K hK => ?_)
  refine goes_ Tryz.func28 (by kernel_rfl) rfl #[.string ⟨#[98]⟩] (by rfl) rfl rfl (by (try simp only [List.map_toArray, List.map_cons, List.map_nil]); first | done | rfl) ?_
  refine (tt_any ⟨#[98]⟩ (by decide) _).mono ?_
  rintro e w22 ⟨rfl, hb22⟩
  refine ⟨_, rfl, ?_⟩
  have h134 := Kd.C_below h126 hb22
  have h135 := pw_cell_below hb22 h127
  have h136 := pw_cell_below hb22 h128
  have h137 := pw_cell_below hb22 h129
  have h138 := Kd.C_below h130 hb22
  have h139 := pw_cell_below hb22 h131
  have h140 := pw_cell_below hb22 h132
  have h141 := pw_cell_below hb22 h133
  have HB26 := HB25.trans (hb22.mono HB25.size)
  refine hK.out _ _ ⟨h135, h136, h137, h139, h140, h141⟩ (fun hHeld => ?_)
  clear hK K
  refine norm_ (a' := ?_) ?_ ?_
  rotate_left
  · show Act.put _ (some 33) _ = _
    simp only [Act.put, List.setIfInBounds_toArray, List.set_cons_zero, List.set_cons_succ, i64_w, i32_w]
    rfl
  refine one_ (i := 20) (N := some 34) #[true, true, true, true, true, true, true, true, true, true, true, true, true, true, true, true, true, true, true, true, true, true, false, false, false, false, false, false, false, false, false, false, false, false, false, false, false, false, false, false] rfl rfl (by kernel_rfl) (by decide) (fun K hK => ?_)
  refine goes_ Tryz.func22 (by kernel_rfl) rfl #[.agg #[.int .i64 2, .int .i64 0, .string ⟨#[98]⟩, .bool false, .int .i64 0]] (by rfl) rfl rfl (by (try simp only [List.map_toArray, List.map_cons, List.map_nil]); first | done | rfl) ?_
  refine (onec_any _ _ _ _ _ _).mono ?_
  rintro e w23 ⟨B23, c23, rfl, hc23, hC23, hb23⟩
  refine ⟨_, rfl, ?_⟩
  have h142 := Kd.C_below h134 hb23
  have h143 := pw_cell_below hb23 h135
  have h144 := pw_cell_below hb23 h136
  have h145 := pw_cell_below hb23 h137
  have h146 := Kd.C_below h138 hb23
  have h147 := pw_cell_below hb23 h139
  have h148 := pw_cell_below hb23 h140
  have h149 := pw_cell_below hb23 h141
  have HB27 := HB26.trans (hb23.mono HB26.size)
  refine hK.out _ _ ⟨h143, h144, h145, h147, h148, h149⟩ (fun hHeld => ?_)
  clear hK K
  refine norm_ (a' := ?_) ?_ ?_
  rotate_left
  · show Act.put _ (some 34) _ = _
    simp only [Act.put, List.setIfInBounds_toArray, List.set_cons_zero, List.set_cons_succ, i64_w, i32_w]
    rfl
  refine one_ (i := 22) (N := some 36) #[true, true, true, true, true, true, true, true, true, true, true, true, true, true, true, true, true, true, true, true, true, true, true, false, false, false, false, false, false, false, false, false, false, false, false, false, false, false, false, false] rfl rfl (by kernel_rfl) (by decide) (fun K hK => ?_)
  refine goes_ Tryz.func23 (by kernel_rfl) rfl #[.int .i64 2] (by rfl) rfl rfl (by (try simp only [List.map_toArray, List.map_cons, List.map_nil]); first | done | rfl) ?_
  refine (nn_any 2 20000 (by decide) (by decide) _).mono ?_
  rintro e w24 ⟨rfl, hb24⟩
  refine ⟨_, rfl, ?_⟩
  have h150 := Kd.C_below h142 hb24
  have h151 := pw_cell_below hb24 h143
  have h152 := pw_cell_below hb24 h144
  have h153 := pw_cell_below hb24 h145
  have h154 := Kd.C_below h146 hb24
  have h155 := pw_cell_below hb24 h147
  have h156 := pw_cell_below hb24 h148
  have h157 := pw_cell_below hb24 h149
  have h158 := Kd.C_below hC23 hb24
  have HB28 := HB27.trans (hb24.mono HB27.size)
  refine hK.out _ _ ⟨h151, h152, h153, h155, h156, h157⟩ (fun hHeld => ?_)
  clear hK K
  refine norm_ (a' := ?_) ?_ ?_
  rotate_left
  · show Act.put _ (some 36) _ = _
    simp only [Act.put, List.setIfInBounds_toArray, List.set_cons_zero, List.set_cons_succ, i64_w, i32_w]
    rfl
  refine one_ (i := 23) (N := some 37) #[true, true, true, true, true, true, true, true, true, true, true, true, true, true, true, true, true, true, true, true, true, true, true, true, false, false, false, false, false, false, false, false, false, false, false, false, false, false, false, false] rfl rfl (by kernel_rfl) (by decide) (fun K hK => ?_)
  refine goes_ Tryz.func22 (by kernel_rfl) rfl #[.agg #[.int .i64 1, .int .i64 20000, .string ⟨#[]⟩, .bool false, .int .i64 0]] (by rfl) rfl rfl (by (try simp only [List.map_toArray, List.map_cons, List.map_nil]); first | done | rfl) ?_
  refine (onec_any _ _ _ _ _ _).mono ?_
  rintro e w25 ⟨B25, c25, rfl, hc25, hC25, hb25⟩
  refine ⟨_, rfl, ?_⟩
  have h159 := Kd.C_below h150 hb25
  have h160 := pw_cell_below hb25 h151
  have h161 := pw_cell_below hb25 h152
  have h162 := pw_cell_below hb25 h153
  have h163 := Kd.C_below h154 hb25
  have h164 := pw_cell_below hb25 h155
  have h165 := pw_cell_below hb25 h156
  have h166 := pw_cell_below hb25 h157
  have h167 := Kd.C_below h158 hb25
  have HB29 := HB28.trans (hb25.mono HB28.size)
  refine hK.out _ _ ⟨h160, h161, h162, h164, h165, h166⟩ (fun hHeld => ?_)
  clear hK K
  refine norm_ (a' := ?_) ?_ ?_
  rotate_left
  · show Act.put _ (some 37) _ = _
    simp only [Act.put, List.setIfInBounds_toArray, List.set_cons_zero, List.set_cons_succ, i64_w, i32_w]
    rfl
  refine one_ (i := 24) (N := some 38) #[true, true, true, true, true, true, true, true, true, true, true, true, true, true, true, true, true, true, true, true, true, true, true, true, true, false, false, false, false, false, false, false, false, false, false, false, false, false, false, false] rfl rfl (by kernel_rfl) (by decide) (fun K hK => ?_)
  refine value_ (w1 := ?_) (v := ?_) (by rfl) rfl ?_ ?_
  rotate_left 2
  · go_simp
    constructor
    · rfl
    · rfl
  have ha26 : Kd.C kA (w25.alloc (.cells #[.slice B23 1 c23, .int .i64 0, .bool false, .slice (some ⟨w8.heap.size, 0, none⟩) 4 4, .int .i64 2, .bool true, .slice B25 1 c25, .int .i64 0, .bool false] 67)) (some ⟨w25.heap.size, 0, none⟩) 3 [oneA (⟨2, 0, ⟨#[98]⟩, false, 0⟩ : V), tabA 2 [(⟨2, 0, ⟨#[97]⟩, false, 0⟩ : V), (⟨1, 10000, ⟨#[]⟩, false, 0⟩ : V), (⟨2, 0, ⟨#[98]⟩, false, 0⟩ : V), (⟨1, 20000, ⟨#[]⟩, false, 0⟩ : V)], oneA (⟨1, 20000, ⟨#[]⟩, false, 0⟩ : V)] := C_args3 67 (argK (a := oneA (⟨2, 0, ⟨#[98]⟩, false, 0⟩ : V)) hc23 h167) rfl (argK (a := tabA 2 [(⟨2, 0, ⟨#[97]⟩, false, 0⟩ : V), (⟨1, 10000, ⟨#[]⟩, false, 0⟩ : V), (⟨2, 0, ⟨#[98]⟩, false, 0⟩ : V), (⟨1, 20000, ⟨#[]⟩, false, 0⟩ : V)]) (Nat.le_refl _) h163) rfl (argK (a := oneA (⟨1, 20000, ⟨#[]⟩, false, 0⟩ : V)) hc25 hC25) rfl
  have hb26 := below_alloc (Below.refl w25.heap.size w25) (.cells #[.slice B23 1 c23, .int .i64 0, .bool false, .slice (some ⟨w8.heap.size, 0, none⟩) 4 4, .int .i64 2, .bool true, .slice B25 1 c25, .int .i64 0, .bool false] 67)
  have h168 := Kd.C_below h159 hb26
  have h169 := pw_cell_below hb26 h160
  have h170 := pw_cell_below hb26 h161
  have h171 := pw_cell_below hb26 h162
  have h172 := Kd.C_below h163 hb26
  have h173 := pw_cell_below hb26 h164
  have h174 := pw_cell_below hb26 h165
  have h175 := pw_cell_below hb26 h166
  have h176 := Kd.C_below h167 hb26
  have h177 := Kd.C_below hC25 hb26
  have HB30 := HB29.trans (hb26.mono HB29.size)
  refine hK.out _ _ ⟨h169, h170, h171, h173, h174, h175⟩ (fun hHeld => ?_)
  clear hK K
  refine norm_ (a' := ?_) ?_ ?_
  rotate_left
  · show Act.put _ (some 38) _ = _
    simp only [Act.put, List.setIfInBounds_toArray, List.set_cons_zero, List.set_cons_succ, i64_w, i32_w]
    rfl
  refine one_ (i := 25) (N := some 39) #[true, true, true, true, true, true, true, true, true, true, true, true, true, true, true, true, true, true, true, true, true, true, true, true, true, true, false, false, false, false, false, false, false, false, false, false, false, false, false, false] rfl rfl (by kernel_rfl) (by decide) (fun K hK => ?_)
  refine goes_ Tryz.func20 (by kernel_rfl) rfl #[.string ⟨#[86, 76, 79, 79, 75, 85, 80]⟩, .slice (some ⟨w25.heap.size, 0, none⟩) 3 3] (by rfl) rfl rfl (by (try simp only [List.map_toArray, List.map_cons, List.map_nil]); first | done | rfl) ?_
  refine (askc_any ⟨#[86, 76, 79, 79, 75, 85, 80]⟩ [oneA (⟨2, 0, ⟨#[98]⟩, false, 0⟩ : V), tabA 2 [(⟨2, 0, ⟨#[97]⟩, false, 0⟩ : V), (⟨1, 10000, ⟨#[]⟩, false, 0⟩ : V), (⟨2, 0, ⟨#[98]⟩, false, 0⟩ : V), (⟨1, 20000, ⟨#[]⟩, false, 0⟩ : V)], oneA (⟨1, 20000, ⟨#[]⟩, false, 0⟩ : V)] 3 rfl 1 20000 ⟨#[]⟩ false 0 (by kernel_rfl) _ _ ha26 (by decide)).mono ?_
  rintro e w27 ⟨rfl, hb27⟩
  refine ⟨_, rfl, ?_⟩
  have h178 := Kd.C_below h168 hb27
  have h179 := pw_cell_below hb27 h169
  have h180 := pw_cell_below hb27 h170
  have h181 := pw_cell_below hb27 h171
  have h182 := Kd.C_below h172 hb27
  have h183 := pw_cell_below hb27 h173
  have h184 := pw_cell_below hb27 h174
  have h185 := pw_cell_below hb27 h175
  have HB31 := HB30.trans (hb27.mono HB30.size)
  refine hK.out _ _ ⟨h179, h180, h181, h183, h184, h185⟩ (fun hHeld => ?_)
  clear hK K
  refine norm_ (a' := ?_) ?_ ?_
  rotate_left
  · show Act.put _ (some 39) _ = _
    simp only [Act.put, List.setIfInBounds_toArray, List.set_cons_zero, List.set_cons_succ, i64_w, i32_w]
    rfl
  refine one_ (i := 26) (N := some 40) #[true, true, true, true, true, true, true, true, true, true, true, true, true, true, true, true, true, true, true, true, true, true, true, true, true, true, true, false, false, false, false, false, false, false, false, false, false, false, false, false] rfl rfl (by kernel_rfl) (by decide) (fun K hK => ?_)
  refine goes_ Tryz.func23 (by kernel_rfl) rfl #[.int .i64 2] (by rfl) rfl rfl (by (try simp only [List.map_toArray, List.map_cons, List.map_nil]); first | done | rfl) ?_
  refine (nn_any 2 20000 (by decide) (by decide) _).mono ?_
  rintro e w28 ⟨rfl, hb28⟩
  refine ⟨_, rfl, ?_⟩
  have h186 := Kd.C_below h178 hb28
  have h187 := pw_cell_below hb28 h179
  have h188 := pw_cell_below hb28 h180
  have h189 := pw_cell_below hb28 h181
  have h190 := Kd.C_below h182 hb28
  have h191 := pw_cell_below hb28 h183
  have h192 := pw_cell_below hb28 h184
  have h193 := pw_cell_below hb28 h185
  have HB32 := HB31.trans (hb28.mono HB31.size)
  refine hK.out _ _ ⟨h187, h188, h189, h191, h192, h193⟩ (fun hHeld => ?_)
  clear hK K
  refine norm_ (a' := ?_) ?_ ?_
  rotate_left
  · show Act.put _ (some 40) _ = _
    simp only [Act.put, List.setIfInBounds_toArray, List.set_cons_zero, List.set_cons_succ, i64_w, i32_w]
    rfl
  refine pure_ (i := 27) (N := some 41) (v := ?_) (a' := ?_) #[true, true, true, true, true, true, true, true, true, true, true, true, true, true, true, true, true, true, true, true, true, true, true, true, true, true, true, true, false, false, false, false, false, false, false, false, false, false, false, false] rfl rfl (by kernel_rfl) (fun _ _ _ h => h) (Or.inl ⟨by rfl, ?_⟩) ?_ ?_
  rotate_left
  · intro w'
    go_simp
    with_reducible rfl
  rotate_left
  · simp only [Act.put, List.setIfInBounds_toArray, List.set_cons_zero, List.set_cons_succ, i64_w, i32_w]
    rfl
  refine pure_ (i := 28) (N := some 42) (v := ?_) (a' := ?_) #[true, true, true, true, true, true, true, true, true, true, true, true, true, true, true, true, true, true, true, true, true, true, true, true, true, true, true, true, true, false, false, false, false, false, false, false, false, false, false, false] rfl rfl (by kernel_rfl) (fun _ _ _ h => h) (Or.inl ⟨by rfl, ?_⟩) ?_ ?_
  rotate_left
  · intro w'
    go_simp
    with_reducible rfl
  rotate_left
  · simp only [Act.put, List.setIfInBounds_toArray, List.set_cons_zero, List.set_cons_succ, i64_w, i32_w]
    rfl
  refine pure_ (i := 29) (N := some 43) (v := ?_) (a' := ?_) #[true, true, true, true, true, true, true, true, true, true, true, true, true, true, true, true, true, true, true, true, true, true, true, true, true, true, true, true, true, true, false, false, false, false, false, false, false, false, false, false] rfl rfl (by kernel_rfl) (fun _ _ _ h => h) (Or.inl ⟨by rfl, ?_⟩) ?_ ?_
  rotate_left
  · intro w'
    go_simp
    with_reducible rfl
  rotate_left
  · simp only [Act.put, List.setIfInBounds_toArray, List.set_cons_zero, List.set_cons_succ, i64_w, i32_w]
    rfl
  refine one_ (i := 30) (N := some 44) #[true, true, true, true, true, true, true, true, true, true, true, true, true, true, true, true, true, true, true, true, true, true, true, true, true, true, true, true, true, true, true, false, false, false, false, false, false, false, false, false] rfl rfl (by kernel_rfl) (by decide) (fun K hK => ?_)
  refine goes_ Tryz.func17 (by kernel_rfl) rfl #[.string ⟨#[73, 78, 68, 69, 88]⟩] (by rfl) rfl rfl (by (try simp only [List.map_toArray, List.map_cons, List.map_nil]); first | done | rfl) ?_
  refine (hasc_any ⟨#[73, 78, 68, 69, 88]⟩ (by kernel_rfl) _).mono ?_
  rintro e w29 ⟨rfl, hb29⟩
  refine ⟨_, rfl, ?_⟩
  have h194 := Kd.C_below h186 hb29
  have h195 := pw_cell_below hb29 h187
  have h196 := pw_cell_below hb29 h188
  have h197 := pw_cell_below hb29 h189
  have h198 := Kd.C_below h190 hb29
  have h199 := pw_cell_below hb29 h191
  have h200 := pw_cell_below hb29 h192
  have h201 := pw_cell_below hb29 h193
  have HB33 := HB32.trans (hb29.mono HB32.size)
  refine hK.out _ _ ⟨h195, h196, h197, h199, h200, h201⟩ (fun hHeld => ?_)
  clear hK K
  refine norm_ (a' := ?_) ?_ ?_
  rotate_left
  · show Act.put _ (some 44) _ = _
    simp only [Act.put, List.setIfInBounds_toArray, List.set_cons_zero, List.set_cons_succ, i64_w, i32_w]
    rfl
  refine pure_ (i := 31) (N := some 45) (v := ?_) (a' := ?_) #[true, true, true, true, true, true, true, true, true, true, true, true, true, true, true, true, true, true, true, true, true, true, true, true, true, true, true, true, true, true, true, true, false, false, false, false, false, false, false, false] rfl rfl (by kernel_rfl) (fun _ _ _ h => h) (Or.inl ⟨by rfl, ?_⟩) ?_ ?_
  rotate_left
  · intro w'
    go_simp
    with_reducible rfl
  rotate_left
  · simp only [Act.put, List.setIfInBounds_toArray, List.set_cons_zero, List.set_cons_succ, i64_w, i32_w]
    rfl
  refine pure_ (i := 32) (N := some 46) (v := ?_) (a' := ?_) #[true, true, true, true, true, true, true, true, true, true, true, true, true, true, true, true, true, true, true, true, true, true, true, true, true, true, true, true, true, true, true, true, true, false, false, false, false, false, false, false] rfl rfl (by kernel_rfl) (fun _ _ _ h => h) (Or.inl ⟨by rfl, ?_⟩) ?_ ?_
  rotate_left
  · intro w'
    go_simp
    with_reducible rfl
  rotate_left
  · simp only [Act.put, List.setIfInBounds_toArray, List.set_cons_zero, List.set_cons_succ, i64_w, i32_w]
    rfl
  refine take_ (i := 33) (N := some 47) (v := ?_) (a' := ?_) #[true, true, true, true, true, true, true, true, true, true, true, true, true, true, true, true, true, true, true, true, true, true, true, true, true, true, true, true, true, true, true, true, true, true, false, false, false, false, false, false] rfl rfl (by kernel_rfl) (fun _ _ _ h => h) (Or.inl ⟨by rfl, ?_⟩) hHeld ?_ ?_
  rotate_left
  · rintro w' ⟨s0, s1, s2, s3, s4, s5⟩
    go_simp
    with_reducible rfl
  rotate_left
  · simp only [Act.put, List.setIfInBounds_toArray, List.set_cons_zero, List.set_cons_succ, i64_w, i32_w]
    rfl
  refine one_ (i := 34) (N := some 48) #[true, true, true, true, true, true, true, true, true, true, true, true, true, true, true, true, true, true, true, true, true, true, true, true, true, true, true, true, true, true, true, true, true, true, true, false, false, false, false, false] rfl rfl (by kernel_rfl) (by decide) (fun K hK => ?_)
  refine value_ (w1 := ?_) (v := ?_) (by rfl) rfl ?_ ?_
  rotate_left 2
  · go_simp
    constructor
    · rfl
    · rfl
  have ha30 : Kd.C kA (w29.alloc (.cells #[.slice (some ⟨w8.heap.size, 0, none⟩) 4 4, .int .i64 2, .bool true] 67)) (some ⟨w29.heap.size, 0, none⟩) 1 [tabA 2 [(⟨2, 0, ⟨#[97]⟩, false, 0⟩ : V), (⟨1, 10000, ⟨#[]⟩, false, 0⟩ : V), (⟨2, 0, ⟨#[98]⟩, false, 0⟩ : V), (⟨1, 20000, ⟨#[]⟩, false, 0⟩ : V)]] := C_args1 67 (argK (a := tabA 2 [(⟨2, 0, ⟨#[97]⟩, false, 0⟩ : V), (⟨1, 10000, ⟨#[]⟩, false, 0⟩ : V), (⟨2, 0, ⟨#[98]⟩, false, 0⟩ : V), (⟨1, 20000, ⟨#[]⟩, false, 0⟩ : V)]) (Nat.le_refl _) h198) rfl
  have hb30 := below_alloc (Below.refl w29.heap.size w29) (.cells #[.slice (some ⟨w8.heap.size, 0, none⟩) 4 4, .int .i64 2, .bool true] 67)
  have h202 := Kd.C_below h194 hb30
  have h203 := pw_cell_below hb30 h195
  have h204 := pw_cell_below hb30 h196
  have h205 := pw_cell_below hb30 h197
  have h206 := Kd.C_below h198 hb30
  have h207 := pw_cell_below hb30 h199
  have h208 := pw_cell_below hb30 h200
  have h209 := pw_cell_below hb30 h201
  have HB34 := HB33.trans (hb30.mono HB33.size)
  refine hK.out _ _ ⟨h203, h204, h205, h207, h208, h209⟩ (fun hHeld => ?_)
  clear hK K
  refine norm_ (a' := ?_) ?_ ?_
  rotate_left
  · show Act.put _ (some 48) _ = _
    simp only [Act.put, List.setIfInBounds_toArray, List.set_cons_zero, List.set_cons_succ, i64_w, i32_w]
    rfl
  refine one_ (i := 35) (N := some 49) #[true, true, true, true, true, true, true, true, true, true, true, true, true, true, true, true, true, true, true, true, true, true, true, true, true, true, true, true, true, true, true, true, true, true, true, true, false, false, false, false] rfl rfl (by kernel_rfl) (by decide) (fun K hK => ?_)
  refine goes_ Tryz.func20 (by kernel_rfl) rfl #[.string ⟨#[82, 79, 87, 83]⟩, .slice (some ⟨w29.heap.size, 0, none⟩) 1 1] (by rfl) rfl rfl (by (try simp only [List.map_toArray, List.map_cons, List.map_nil]); first | done | rfl) ?_
  refine (askc_any ⟨#[82, 79, 87, 83]⟩ [tabA 2 [(⟨2, 0, ⟨#[97]⟩, false, 0⟩ : V), (⟨1, 10000, ⟨#[]⟩, false, 0⟩ : V), (⟨2, 0, ⟨#[98]⟩, false, 0⟩ : V), (⟨1, 20000, ⟨#[]⟩, false, 0⟩ : V)]] 1 rfl 1 20000 ⟨#[]⟩ false 0 (by kernel_rfl) _ _ ha30 (by decide)).mono ?_
  rintro e w31 ⟨rfl, hb31⟩
  refine ⟨_, rfl, ?_⟩
  have h210 := Kd.C_below h202 hb31
  have h211 := pw_cell_below hb31 h203
  have h212 := pw_cell_below hb31 h204
  have h213 := pw_cell_below hb31 h205
  have h214 := Kd.C_below h206 hb31
  have h215 := pw_cell_below hb31 h207
  have h216 := pw_cell_below hb31 h208
  have h217 := pw_cell_below hb31 h209
  have HB35 := HB34.trans (hb31.mono HB34.size)
  refine hK.out _ _ ⟨h211, h212, h213, h215, h216, h217⟩ (fun hHeld => ?_)
  clear hK K
  refine norm_ (a' := ?_) ?_ ?_
  rotate_left
  · show Act.put _ (some 49) _ = _
    simp only [Act.put, List.setIfInBounds_toArray, List.set_cons_zero, List.set_cons_succ, i64_w, i32_w]
    rfl
  refine one_ (i := 36) (N := some 50) #[true, true, true, true, true, true, true, true, true, true, true, true, true, true, true, true, true, true, true, true, true, true, true, true, true, true, true, true, true, true, true, true, true, true, true, true, true, false, false, false] rfl rfl (by kernel_rfl) (by decide) (fun K hK => ?_)
  refine goes_ Tryz.func23 (by kernel_rfl) rfl #[.int .i64 2] (by rfl) rfl rfl (by (try simp only [List.map_toArray, List.map_cons, List.map_nil]); first | done | rfl) ?_
  refine (nn_any 2 20000 (by decide) (by decide) _).mono ?_
  rintro e w32 ⟨rfl, hb32⟩
  refine ⟨_, rfl, ?_⟩
  have h218 := Kd.C_below h210 hb32
  have h219 := pw_cell_below hb32 h211
  have h220 := pw_cell_below hb32 h212
  have h221 := pw_cell_below hb32 h213
  have h222 := Kd.C_below h214 hb32
  have h223 := pw_cell_below hb32 h215
  have h224 := pw_cell_below hb32 h216
  have h225 := pw_cell_below hb32 h217
  have HB36 := HB35.trans (hb32.mono HB35.size)
  refine hK.out _ _ ⟨h219, h220, h221, h223, h224, h225⟩ (fun hHeld => ?_)
  clear hK K
  refine norm_ (a' := ?_) ?_ ?_
  rotate_left
  · show Act.put _ (some 50) _ = _
    simp only [Act.put, List.setIfInBounds_toArray, List.set_cons_zero, List.set_cons_succ, i64_w, i32_w]
    rfl
  refine pure_ (i := 37) (N := some 51) (v := ?_) (a' := ?_) #[true, true, true, true, true, true, true, true, true, true, true, true, true, true, true, true, true, true, true, true, true, true, true, true, true, true, true, true, true, true, true, true, true, true, true, true, true, true, false, false] rfl rfl (by kernel_rfl) (fun _ _ _ h => h) (Or.inl ⟨by rfl, ?_⟩) ?_ ?_
  rotate_left
  · intro w'
    go_simp
    with_reducible rfl
  rotate_left
  · simp only [Act.put, List.setIfInBounds_toArray, List.set_cons_zero, List.set_cons_succ, i64_w, i32_w]
    rfl
  refine pure_ (i := 38) (N := some 52) (v := ?_) (a' := ?_) #[true, true, true, true, true, true, true, true, true, true, true, true, true, true, true, true, true, true, true, true, true, true, true, true, true, true, true, true, true, true, true, true, true, true, true, true, true, true, true, false] rfl rfl (by kernel_rfl) (fun _ _ _ h => h) (Or.inl ⟨by rfl, ?_⟩) ?_ ?_
  rotate_left
  · intro w'
    go_simp
    with_reducible rfl
  rotate_left
  · simp only [Act.put, List.setIfInBounds_toArray, List.set_cons_zero, List.set_cons_succ, i64_w, i32_w]
    rfl
  refine pure_ (i := 39) (N := some 0) (v := ?_) (a' := ?_) #[true, true, true, true, true, true, true, true, true, true, true, true, true, true, true, true, true, true, true, true, true, true, true, true, true, true, true, true, true, true, true, true, true, true, true, true, true, true, true, true] rfl rfl (by kernel_rfl) (fun _ _ _ h => h) (Or.inl ⟨by rfl, ?_⟩) ?_ ?_
  rotate_left
  · intro w'
    go_simp
    with_reducible rfl
  rotate_left
  · simp only [Act.put, List.setIfInBounds_toArray, List.set_cons_zero, List.set_cons_succ, i64_w, i32_w]
    rfl
  refine done_ (by kernel_rfl) ?_
  go_wp2_with (fail)
  go_ret
  exact ⟨rfl, HB36⟩
def latticelaw12_wakes.f : Option Bool := some true
theorem latticelaw12_wakes.calls (r : Bool) (w : World) (h : latticelaw12_wakes.f = some r) : Calls Tryz.prog 12 #[] w fun e w' => e = .returned (.bool r) ∧ Below w.heap.size w w' := by
  cases h
  exact wakes_any w
end Go.Proofs.YtcihleahjnpaaaaGreatDoor.H
