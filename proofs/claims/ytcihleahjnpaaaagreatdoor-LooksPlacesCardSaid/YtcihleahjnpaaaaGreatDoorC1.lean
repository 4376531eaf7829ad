/- Texts of this claim, put together by a program of this session: Sq, Bytes, Px0, Px2, Open, Shelf, Parse, Px1, Px7, Px8, Px9, Px10, Px4, Px5, Px11, Px12, Px6. -/
import Derived.Test.YtcihleahjnpaaaaGreatDoorProg
import Derived.Lib.ConvBytes
import Derived.Lib.Hide
import Derived.Below
import Derived.Deep.Draws
import Derived.Deep.AppendLies
import Derived.Maps.AppendAt
import Derived.OwnWalk
import Derived.Laws.BytesArg
import Derived.Laws.MakeOwn
import Derived.Laws.OwnMore
import Derived.Deep.OwnRows
import Derived.Tactics
import Derived.Laws.Slices
import Derived.WalkKit
import Derived.KernelRfl
import Derived.RowKit3
import Derived.Deep.LoopGhost
import Derived.Deep.QuietTactic
import Derived.BigQuiet
import Derived.WideLaws
import Derived.Deep.DeepCutAuto
import Derived.Deep.CutBlock
import Derived.Deep.RegionHeld3
import Derived.Laws.Rows
import Derived.Lib.AppendStr
import Derived.ArgAppend
import Derived.Laws.IdiomCopy
import Derived.OrdersHeld
import Derived.Laws.BitsLemmas
import Derived.RowKit
import Derived.Deep.Slices
import Derived.Deep.Fields
import Derived.ChangeSame
import Derived.Lib.SmallJoins
import Derived.OpenShut
import Derived.Carry
import Derived.Shelf.Strings.Trim
import Derived.Shelf.Small.Utf8
import Derived.Shelf.Small.Strs
import Derived.Shelf.Small.Wraps
import Derived.Ground.MpProg
import Derived.Shelf.Pu.ParseUintPublic10
import Derived.Shelf.Strings.Search1
import Derived.Shelf.Strings.Search2
import Derived.Shelf.Strings.Prefix
import Derived.Shelf.Strings.Runes
import Derived.Shelf.Strings.AsciiSet
import Derived.Shelf.Unicode.DecodeSlow
import Derived.Shelf.Strings.SlTrimAscii
import Derived.WalkLawsBesides
import Derived.Outline
import Derived.Test.YtcihleahjnpaaaaGreatDoorRows
import Derived.Test.YtcihleahjnpaaaaGreatDoorC0
namespace Go.Proofs.YtcihleahjnpaaaaGreatDoor.Q
open Go.RowKit Go.Proofs.YtcihleahjnpaaaaGreatDoorW.PrintWords Go.Proofs.YtcihleahjnpaaaaGreatDoorW.PrintLast Go.Proofs.YtcihleahjnpaaaaGreatDoorW.PrintMore
set_option linter.unusedVariables false
section
variable {w W W' W0 : World} {g : Nat} {o' : Obj}
theorem be (h : Below w.heap.size w W := by repeat (first | (with_reducible first | exact HB.out | apply below_alloc | apply pw_below_drewN | apply below_drew1 | refine below_set ?_ (Aside0.out (by assumption))) | exact HB.out)) : Below w.heap.size w W := h
theorem bs (k : Below W.heap.size W W') (h : Below w.heap.size w W := by repeat (first | (with_reducible first | exact HB.out | apply below_alloc | apply pw_below_drewN | apply below_drew1 | refine below_set ?_ (Aside0.out (by assumption))) | exact HB.out)) : Aside0 (Below w.heap.size w W') := ⟨below_step h k⟩
theorem bw (e : g = W.heap.size) (h : Below w.heap.size w W := by repeat (first | (with_reducible first | exact HB.out | apply below_alloc | apply pw_below_drewN | apply below_drew1 | refine below_set ?_ (Aside0.out (by assumption))) | exact HB.out)) : Aside0 (w.heap.size ≤ g) := ⟨e ▸ below_size h⟩
theorem bz (h : Below w.heap.size w W := by repeat (first | (with_reducible first | exact HB.out | apply below_alloc | apply pw_below_drewN | apply below_drew1 | refine below_set ?_ (Aside0.out (by assumption))) | exact HB.out)) : w.heap.size ≤ W.heap.size := below_size h
theorem bb (B : Aside0 (W0.heap[g]? = some o')) (k : Below W.heap.size W W') (h : W.heap[g]? = some o' := by (with_reducible repeat (first | refine blk_drewN ?_ _ | refine blk_drew ?_ | refine blk_alloc ?_ _)); exact (Aside0.out (by assumption))) : Aside0 (W'.heap[g]? = some o') := ⟨blk_below h k⟩
theorem bc5 {a b c d e : Value} {t : TypeId} (B : Aside0 (w.heap[g]? = some (.cells #[a, b, c, d, e] t (0, 0)))) : w.cell? ⟨g, 0, none⟩ = some a ∧ w.cell? ⟨g, 1, none⟩ = some b ∧ w.cell? ⟨g, 2, none⟩ = some c ∧ w.cell? ⟨g, 3, none⟩ = some d ∧ w.cell? ⟨g, 4, none⟩ = some e ∧ w.frozen? ⟨g, 0, none⟩ = false ∧ w.frozen? ⟨g, 1, none⟩ = false ∧ w.frozen? ⟨g, 2, none⟩ = false ∧ w.frozen? ⟨g, 3, none⟩ = false ∧ w.frozen? ⟨g, 4, none⟩ = false :=
  ⟨(blk_cell B.out 0).trans rfl, (blk_cell B.out 1).trans rfl, (blk_cell B.out 2).trans rfl, (blk_cell B.out 3).trans rfl, (blk_cell B.out 4).trans rfl, blk_frozen B.out 0, blk_frozen B.out 1, blk_frozen B.out 2, blk_frozen B.out 3, blk_frozen B.out 4⟩
theorem bc3 {a b c : Value} {t : TypeId} (B : Aside0 (w.heap[g]? = some (.cells #[a, b, c] t (0, 0)))) : w.cell? ⟨g, 0, none⟩ = some a ∧ w.cell? ⟨g, 1, none⟩ = some b ∧ w.cell? ⟨g, 2, none⟩ = some c ∧ w.frozen? ⟨g, 0, none⟩ = false ∧ w.frozen? ⟨g, 1, none⟩ = false ∧ w.frozen? ⟨g, 2, none⟩ = false :=
  ⟨(blk_cell B.out 0).trans rfl, (blk_cell B.out 1).trans rfl, (blk_cell B.out 2).trans rfl, blk_frozen B.out 0, blk_frozen B.out 1, blk_frozen B.out 2⟩
end
section
variable {P : Program} {ops : Array Oper} {rest : List Oper} {o : Oper} {a : Act} {Q : Exit → Act → World → Prop} {W w : World}
theorem bx {N : Tmp} {cs : Array Value} {t : TypeId} (h : ∀ g, g = W.heap.size → ∀ w1, w1.heap[g]? = some (.cells cs t (0, 0)) → Below W.heap.size W w1 → wpList P ops Q rest (a.put o.dst (.pointer (some ⟨g, 0, none⟩))) w1)
    (hd : o.dst = some N := by rfl) (hg : o.guard = none := by rfl) (hr : (execOp a.eval o).run P W = .ok (.value (.pointer (some ⟨W.heap.size, 0, none⟩))) (W.alloc (.cells cs t (0, 0))) := by first | (go_simp; done) | (go_simp; rfl)) : wpList P ops Q (o :: rest) a W :=
  box_event hg hd hr h
theorem gL (N : Option Tmp) {f : FuncId} {fn : Func} {xs_ : Array Operand} {ts : Array TypeId} (hf : P.funcs[f]? = some fn) (args : Array Value) (h : Calls P f args w fun e w' => ∃ v, e = .returned v ∧ wpList P ops Q rest (a.put N v) w')
    (hd : o.dst = N := by rfl) (hg : o.guard = none := by rfl) (hname : (fn.name == "runtime.NumGoroutine") = false := by kernel_rfl) (hb : fn.body.isSome = true := by rfl) (hop : o.op = .call { callee := .value (.func f), args := xs_, argTypes := ts } := by rfl)
    (hargs : xs_.map a.eval = args := by (try simp only [List.map_toArray, List.map_cons, List.map_nil]); first | done | rfl | (simp only [List.length_drop, List.length_take]; rfl)) : wpList P ops Q (o :: rest) a w :=
  goesL_ N hd hg hf hname hb args hop hargs h
end
end Go.Proofs.YtcihleahjnpaaaaGreatDoor.Q
namespace Go.Proofs.YtcihleahjnpaaaaGreatDoor.H
open Go.RowKit Go.Proofs.YtcihleahjnpaaaaGreatDoorW.PrintWords Go.Proofs.YtcihleahjnpaaaaGreatDoorW.PrintLast Go.Proofs.YtcihleahjnpaaaaGreatDoorW.PrintMore
theorem B_bytes (w : World) (e : TypeId) (s : ByteArray) : Below w.heap.size w (Lib.bytesWorld w e s) :=
  ⟨by simp [Lib.bytesWorld, World.freeze, World.alloc, World.drew, -World.alloc_eq, -World.drew_eq], by simp [Lib.bytesWorld, World.freeze, World.alloc, World.drew, -World.alloc_eq, -World.drew_eq], by simp [Lib.bytesWorld, World.freeze, World.alloc, World.drew, -World.alloc_eq, -World.drew_eq], by rw [Lib.bytesWorld_size]; omega, fun i hi => Lib.bytesWorld_at_old w e s i hi⟩
theorem frozen_bytes (w : World) (e : TypeId) (s : ByteArray) (j : Nat) (hj : j < s.size) : (Lib.bytesWorld w e s).frozen? ⟨w.heap.size, j, none⟩ = false := by
  have hsz : s.size ≤ (Lib.bytesCells w e s).size := by simp [Lib.bytesCells]
  simp [World.frozen?, Lib.bytesWorld_at_new]
  omega
def by_ (s : ByteArray) (j : Nat) : Int := ((s.data.toList.getD j 0).toNat : Int)
theorem by_range (s : ByteArray) (j : Nat) : 0 ≤ by_ s j ∧ by_ s j ≤ 255 := by
  unfold by_
  have := (s.data.toList.getD j 0).toNat_lt
  omega
theorem bytesOf_getD (s : ByteArray) (j : Nat) (hj : j < s.size) : (bytesOf s).getD j 0 = by_ s j := by
  have h1 : j < s.data.toList.length := by simpa using hj
  simp [bytesOf, by_, List.getD, List.getElem?_map, List.getElem?_eq_getElem h1]
theorem bytesOf_length (s : ByteArray) : (bytesOf s).length = s.size := by simp [bytesOf]
def letB (a d b : Int) : Int := if a ≤ b ∧ b < a + 26 then (b + d) % 256 else b
def letS (a d : Int) (s : ByteArray) : ByteArray := strOfNums ((bytesOf s).map (letB a d))
def value_letters.f (s : ByteArray) (a d : Int) : Option ByteArray := if (0 ≤ a ∧ a ≤ 200) ∧ (-256 ≤ d ∧ d ≤ 256) ∧ s.size ≤ 9223372036854775807 then some (letS a d s) else none
def latticeref03_Lower.f (s : ByteArray) : Option ByteArray := if s.size ≤ 9223372036854775807 then some (letS 65 32 s) else none
def Gone (g : Int → Int) (s : ByteArray) (B k : Nat) (w w' : World) : Prop :=
  (∀ j, j < s.size → w'.cell? ⟨B, j, none⟩ = some (.int .u8 (if j < k then g (by_ s j) else by_ s j)) ∧ w'.frozen? ⟨B, j, none⟩ = false) ∧ Below B w w' ∧ B < w'.heap.size
theorem Gone.start (g : Int → Int) (s : ByteArray) (e : TypeId) (w : World) : Gone g s w.heap.size 0 w (Lib.bytesWorld w e s) :=
  ⟨fun j hj => ⟨by rw [Lib.bytesWorld_cell w e s j hj]; simp [by_], frozen_bytes w e s j hj⟩, B_bytes w e s, by rw [Lib.bytesWorld_size]; omega⟩
theorem Gone.step {g : Int → Int} {s : ByteArray} {B k : Nat} {w w' : World} (h : Gone g s B k w w') (hk : k < s.size) (v : Int) (hv : g (by_ s k) = v) : Gone g s B (k + 1) w (w'.setCell ⟨B, k, none⟩ (.int .u8 v)) := by
  refine ⟨fun j hj => ?_, h.2.1.setCell (p := ⟨B, k, none⟩) (Nat.le_refl _) _, by simpa using h.2.2⟩
  rw [World.frozen?_setCell]
  refine ⟨?_, (h.1 j hj).2⟩
  by_cases e : j = k
  · subst e
    rw [World.cell?_setCell_same _ _ _ (h.1 j hj).1, if_pos (by omega), hv]
  · rw [World.cell?_setCell_other _ _ _ _ (fun he => e (by injection he with _ h2 _; exact h2.symm)), (h.1 j hj).1]
    by_cases h2 : j < k
    · rw [if_pos h2, if_pos (by omega)]
    · rw [if_neg h2, if_neg (by omega)]
theorem Gone.skip {g : Int → Int} {s : ByteArray} {B k : Nat} {w w' : World} (h : Gone g s B k w w') (hv : g (by_ s k) = by_ s k) : Gone g s B (k + 1) w w' := by
  refine ⟨fun j hj => ⟨?_, (h.1 j hj).2⟩, h.2⟩
  rw [(h.1 j hj).1]
  by_cases h2 : j < k
  · rw [if_pos h2, if_pos (by omega)]
  · rw [if_neg h2]
    by_cases e : j = k
    · subst e; rw [if_pos (by omega), hv]
    · rw [if_neg (by omega)]
theorem Gone.reads {g : Int → Int} {s : ByteArray} {B : Nat} {w w' : World} (hs : s.size ≤ 9223372036854775807) (h : Gone g s B s.size w w') : ReadsInt w' .u8 (some ⟨B, 0, none⟩) s.size ((bytesOf s).map g) := by
  refine ⟨by rw [List.length_map, bytesOf_length], hs, fun _ => ⟨_, rfl, fun j hj => ?_⟩⟩
  rw [add_plain, (h.1 j hj).1, if_pos hj]
  congr 2
  have h1 : j < (bytesOf s).length := by rw [bytesOf_length]; exact hj
  rw [← bytesOf_getD s j hj]
  simp [List.getD, List.getElem?_map, List.getElem?_eq_getElem h1]
theorem letB_yes {a d b : Int} (h1 : a ≤ b) (h2 : b < a + 26) : letB a d b = (b + d) % 256 := by unfold letB; rw [if_pos ⟨h1, h2⟩]
theorem letB_no {a d b : Int} (h : ¬ (a ≤ b ∧ b < a + 26)) : letB a d b = b := by unfold letB; rw [if_neg h]
set_option maxHeartbeats 1000000 in
set_option maxRecDepth 100000 in
theorem letters_any (s : ByteArray) (a d : Int) (w : World) (hs : s.size ≤ 9223372036854775807) (ha : 0 ≤ a ∧ a ≤ 200) (hd : -256 ≤ d ∧ d ≤ 256) :
    Calls Tryz.prog 72 #[.string s, .int .u8 a, .int .i64 d] w fun e w' => e = .returned (.string (letS a d s)) ∧ Below w.heap.size w w' := by
  obtain ⟨ha0, ha1⟩ := ha
  obtain ⟨hd0, hd1⟩ := hd
  have hcv := fun W => Lib.run_convert_string_bytes (P := Tryz.prog) W 9 121 5 s Tryz.underlying9 Tryz.underlying121 Tryz.underlying5
  go_enter Tryz.func72, Tryz.ntmps72
  go_wp2
  have hst := Gone.start (letB a d) s 5 w
  go_loopw [14] (fun i wr => ∃ k : Nat, k ≤ s.size ∧ i = .int .i64 k ∧ Gone (letB a d) s w.heap.size k w wr) (fun i _ => s.size - (intOf i).toNat)
  case atStart => exact ⟨0, Nat.zero_le _, rfl, hst⟩
  case round =>
    obtain ⟨k, hk, rfl, hg⟩ := hrel
    by_cases hlt : k < s.size
    · obtain ⟨hc, hf⟩ := hg.1 k hlt
      rw [if_neg (by omega)] at hc
      have hb := by_range s k
      have G := Lib.hid hg
      clear hg hst
      generalize hx : by_ s k = x at *
      have X := Lib.hid hx
      clear hx
      by_cases h1 : a ≤ x
      · by_cases h2 : x < a + 26
        · go_wp2
          go_roundw
          case rel => exact ⟨k + 1, by omega, by go_num, G.out.step hlt _ (by rw [X.out, letB_yes h1 h2])⟩
          case measure => simp [intOf]; omega
        · go_wp2
          go_roundw
          case rel => exact ⟨k + 1, by omega, by go_num, G.out.skip (by rw [X.out, letB_no (fun h => h2 h.2)])⟩
          case measure => simp [intOf]; omega
      · go_wp2
        go_roundw
        case rel => exact ⟨k + 1, by omega, by go_num, G.out.skip (by rw [X.out, letB_no (fun h => h1 h.1)])⟩
        case measure => simp [intOf]; omega
    · obtain rfl : k = s.size := by omega
      have hcs := fun c => string_of_reads (P := Tryz.prog) (dst := 9) (c := c) Tryz.underlying121 Tryz.underlying5 Tryz.underlying9 (hg.reads hs)
      have G := Lib.hid hg
      clear hg hst hcv
      go_wp2
      go_ret
      exact ⟨rfl, G.out.2.1⟩
theorem value_letters.calls (a0 : ByteArray) (a1 a2 : Int) (r : ByteArray) (w : World) (h : value_letters.f a0 a1 a2 = some r) :
    Calls Tryz.prog 72 #[.string a0, .int .u8 a1, .int .i64 a2] w fun e w' => e = .returned (.string r) ∧ Below w.heap.size w w' := by
  unfold value_letters.f at h
  by_cases hc : (0 ≤ a1 ∧ a1 ≤ 200) ∧ (-256 ≤ a2 ∧ a2 ≤ 256) ∧ a0.size ≤ 9223372036854775807
  · rw [if_pos hc] at h
    cases h
    exact letters_any a0 a1 a2 w hc.2.2 hc.1 hc.2.1
  · rw [if_neg hc] at h; cases h
set_option maxHeartbeats 1000000 in
set_option maxRecDepth 100000 in
theorem low_any (s : ByteArray) (w : World) (hs : s.size ≤ 9223372036854775807) :
    Calls Tryz.prog 52 #[.string s] w fun e w' => e = .returned (.string (letS 65 32 s)) ∧ Below w.heap.size w w' := by
  have hcv := fun W => Lib.run_convert_string_bytes (P := Tryz.prog) W 9 121 5 s Tryz.underlying9 Tryz.underlying121 Tryz.underlying5
  go_enter Tryz.func52, Tryz.ntmps52
  go_wp2
  have hst := Gone.start (letB 65 32) s 5 w
  go_loopw [4] (fun i wr => ∃ k : Nat, k ≤ s.size ∧ i = .int .i64 k ∧ Gone (letB 65 32) s w.heap.size k w wr) (fun i _ => s.size - (intOf i).toNat)
  case atStart => exact ⟨0, Nat.zero_le _, rfl, hst⟩
  case round =>
    obtain ⟨k, hk, rfl, hg⟩ := hrel
    by_cases hlt : k < s.size
    · obtain ⟨hc, hf⟩ := hg.1 k hlt
      rw [if_neg (by omega)] at hc
      have hb := by_range s k
      have G := Lib.hid hg
      clear hg hst
      generalize hx : by_ s k = x at *
      have X := Lib.hid hx
      clear hx
      by_cases h1 : 65 ≤ x
      · by_cases h2 : x ≤ 90
        · go_wp2
          go_roundw
          case rel => exact ⟨k + 1, by omega, by go_num, G.out.step hlt _ (by rw [X.out, letB_yes h1 (by omega)]; omega)⟩
          case measure => simp [intOf]; omega
        · go_wp2
          go_roundw
          case rel => exact ⟨k + 1, by omega, by go_num, G.out.skip (by rw [X.out, letB_no (fun h => h2 (by omega))])⟩
          case measure => simp [intOf]; omega
      · go_wp2
        go_roundw
        case rel => exact ⟨k + 1, by omega, by go_num, G.out.skip (by rw [X.out, letB_no (fun h => h1 h.1)])⟩
        case measure => simp [intOf]; omega
    · obtain rfl : k = s.size := by omega
      have hcs := fun c => string_of_reads (P := Tryz.prog) (dst := 9) (c := c) Tryz.underlying121 Tryz.underlying5 Tryz.underlying9 (hg.reads hs)
      have G := Lib.hid hg
      clear hg hst hcv
      go_wp2
      go_ret
      exact ⟨rfl, G.out.2.1⟩
theorem latticeref03_Lower.calls (a0 : ByteArray) (r : ByteArray) (w : World) (h : latticeref03_Lower.f a0 = some r) :
    Calls Tryz.prog 52 #[.string a0] w fun e w' => e = .returned (.string r) ∧ Below w.heap.size w w' := by
  unfold latticeref03_Lower.f at h
  by_cases hc : a0.size ≤ 9223372036854775807
  · rw [if_pos hc] at h
    cases h
    exact low_any a0 w hc
  · rw [if_neg hc] at h; cases h
end Go.Proofs.YtcihleahjnpaaaaGreatDoor.H
namespace Go.Proofs.YtcihleahjnpaaaaGreatDoor.P
open Go.RowKit Go.Proofs.YtcihleahjnpaaaaGreatDoor.Q Go.Proofs.YtcihleahjnpaaaaGreatDoor.H Go.Proofs.YtcihleahjnpaaaaGreatDoorW.PrintWords Go.Proofs.YtcihleahjnpaaaaGreatDoorW.PrintLast Go.Proofs.YtcihleahjnpaaaaGreatDoorW.PrintMore
attribute [local go_sem] max2_int min2_int max_two min_two max_three min_three max_four min_four   -- for this text's walks alone
set_option linter.unusedVariables false
set_option linter.unusedSimpArgs false
def errW : Option Int → Value
 | none => .nilIface
 | some c => .iface 0 (.int .i64 c)
theorem errW_none : errW none = .nilIface := rfl
theorem errW_some (c : Int) : errW (some c) = .iface 0 (.int .i64 c) := rfl
theorem info23 : (Tryz.prog.info? 23).map (fun i => (i.zero, i.size, i.bytes)) = some (some (.agg #[(.int .i64 0), (.int .i64 0), (.string ⟨#[]⟩), (.bool false), (.int .i64 0)]), 5, 48) := by kernel_rfl
theorem info29 : (Tryz.prog.info? 29).map (fun i => (i.zero, i.size, i.bytes)) = some (some (.agg #[(.int .i64 0), (.int .i64 0), (.string ⟨#[]⟩), (.bool false), (.int .i64 0)]), 5, 48) := by kernel_rfl
theorem info30 : (Tryz.prog.info? 30).map (fun i => (i.zero, i.size, i.bytes)) = some (some (.agg #[(.int .i64 0), (.int .i64 0), (.string ⟨#[]⟩), (.bool false), (.int .i64 0)]), 5, 48) := by kernel_rfl
structure S23 where
 f0 : Int
 f1 : Int
 f2 : ByteArray
 f3 : Bool
 f4 : Int
def z23 : S23 := ⟨(0 : Int), (0 : Int), (⟨#[]⟩ : ByteArray), false, (0 : Int)⟩
def k23 : Kd S23 := Kd.iso (Kd.pair (Kd.int .i64) (Kd.pair (Kd.int .i64) (Kd.pair Kd.string (Kd.pair Kd.bool (Kd.int .i64))))) (fun x : S23 => (x.f0, x.f1, x.f2, x.f3, x.f4))
theorem k23_open {w : World} {x : S23} {cs : List Value} (h : k23.K w x cs) : cs = [.int .i64 x.f0, .int .i64 x.f1, .string x.f2, .bool x.f3, .int .i64 x.f4] := by
 obtain ⟨_, _, rfl, rfl, ⟨_, _, rfl, rfl, ⟨_, _, rfl, rfl, ⟨_, _, rfl, rfl, rfl⟩⟩⟩⟩ := h
 exact rfl
theorem k23_mk (w : World) (x : S23)  : k23.K w x [.int .i64 x.f0, .int .i64 x.f1, .string x.f2, .bool x.f3, .int .i64 x.f4] := ⟨[.int .i64 x.f0], [.int .i64 x.f1, .string x.f2, .bool x.f3, .int .i64 x.f4], rfl, rfl, ⟨[.int .i64 x.f1], [.string x.f2, .bool x.f3, .int .i64 x.f4], rfl, rfl, ⟨[.string x.f2], [.bool x.f3, .int .i64 x.f4], rfl, rfl, ⟨[.bool x.f3], [.int .i64 x.f4], rfl, rfl, rfl⟩⟩⟩⟩
def rd_T23 (xs : List S23) (i : Int) : S23 := xs.getD i.toNat z23
theorem at_T23 {w : World} {A : Option Addr} {n : Nat} {xs : List S23} (h : Kd.C k23 w A n xs) (i : Int) (h0 : 0 ≤ i) (h1 : i < n) : ∃ ad , A = some ad ∧ w.cell? (ad.add (i.toNat * 5)) = some (.int .i64 (rd_T23 xs i).f0) ∧ w.cell? ⟨(ad.add (i.toNat * 5)).block, (ad.add (i.toNat * 5)).off + 1, none⟩ = some (.int .i64 (rd_T23 xs i).f1) ∧ w.cell? ⟨(ad.add (i.toNat * 5)).block, (ad.add (i.toNat * 5)).off + 2, none⟩ = some (.string (rd_T23 xs i).f2) ∧ w.cell? ⟨(ad.add (i.toNat * 5)).block, (ad.add (i.toNat * 5)).off + 3, none⟩ = some (.bool (rd_T23 xs i).f3) ∧ w.cell? ⟨(ad.add (i.toNat * 5)).block, (ad.add (i.toNat * 5)).off + 4, none⟩ = some (.int .i64 (rd_T23 xs i).f4) := by
 obtain ⟨ad, c, e, _, hK, hc0⟩ := Kd.C_get h z23 i h0 h1
 have hc : ∀ j u, c[j]? = some u → w.cell? (ad.add (i.toNat * 5 + j)) = some u := hc0
 obtain rfl := k23_open hK
 exact ⟨ad, e, hc 0 _ rfl, by rw [← add_field _ _ 1 (by omega)]; exact hc 1 _ rfl, by rw [← add_field _ _ 2 (by omega)]; exact hc 2 _ rfl, by rw [← add_field _ _ 3 (by omega)]; exact hc 3 _ rfl, by rw [← add_field _ _ 4 (by omega)]; exact hc 4 _ rfl⟩
structure S29 where
 f0 : Int
 f1 : Int
 f2 : ByteArray
 f3 : Bool
 f4 : Int
def z29 : S29 := ⟨(0 : Int), (0 : Int), (⟨#[]⟩ : ByteArray), false, (0 : Int)⟩
def k29 : Kd S29 := Kd.iso (Kd.pair (Kd.int .i64) (Kd.pair (Kd.int .i64) (Kd.pair Kd.string (Kd.pair Kd.bool (Kd.int .i64))))) (fun x : S29 => (x.f0, x.f1, x.f2, x.f3, x.f4))
theorem k29_open {w : World} {x : S29} {cs : List Value} (h : k29.K w x cs) : cs = [.int .i64 x.f0, .int .i64 x.f1, .string x.f2, .bool x.f3, .int .i64 x.f4] := by
 obtain ⟨_, _, rfl, rfl, ⟨_, _, rfl, rfl, ⟨_, _, rfl, rfl, ⟨_, _, rfl, rfl, rfl⟩⟩⟩⟩ := h
 exact rfl
theorem k29_mkM (w : World) (base : Nat) (ok : Nat → Prop) (x : S29)  : k29.M w base ok x [.int .i64 x.f0, .int .i64 x.f1, .string x.f2, .bool x.f3, .int .i64 x.f4] := ⟨[.int .i64 x.f0], [.int .i64 x.f1, .string x.f2, .bool x.f3, .int .i64 x.f4], rfl, rfl, ⟨[.int .i64 x.f1], [.string x.f2, .bool x.f3, .int .i64 x.f4], rfl, rfl, ⟨[.string x.f2], [.bool x.f3, .int .i64 x.f4], rfl, rfl, ⟨[.bool x.f3], [.int .i64 x.f4], rfl, rfl, rfl⟩⟩⟩⟩
def rd_T29 (xs : List S29) (i : Int) : S29 := xs.getD i.toNat z29
theorem at_T29 {w : World} {A : Option Addr} {n : Nat} {xs : List S29} (h : Kd.C k29 w A n xs) (i : Int) (h0 : 0 ≤ i) (h1 : i < n) : ∃ ad , A = some ad ∧ w.cell? (ad.add (i.toNat * 5)) = some (.int .i64 (rd_T29 xs i).f0) ∧ w.cell? ⟨(ad.add (i.toNat * 5)).block, (ad.add (i.toNat * 5)).off + 1, none⟩ = some (.int .i64 (rd_T29 xs i).f1) ∧ w.cell? ⟨(ad.add (i.toNat * 5)).block, (ad.add (i.toNat * 5)).off + 2, none⟩ = some (.string (rd_T29 xs i).f2) ∧ w.cell? ⟨(ad.add (i.toNat * 5)).block, (ad.add (i.toNat * 5)).off + 3, none⟩ = some (.bool (rd_T29 xs i).f3) ∧ w.cell? ⟨(ad.add (i.toNat * 5)).block, (ad.add (i.toNat * 5)).off + 4, none⟩ = some (.int .i64 (rd_T29 xs i).f4) := by
 obtain ⟨ad, c, e, _, hK, hc0⟩ := Kd.C_get h z29 i h0 h1
 have hc : ∀ j u, c[j]? = some u → w.cell? (ad.add (i.toNat * 5 + j)) = some u := hc0
 obtain rfl := k29_open hK
 exact ⟨ad, e, hc 0 _ rfl, by rw [← add_field _ _ 1 (by omega)]; exact hc 1 _ rfl, by rw [← add_field _ _ 2 (by omega)]; exact hc 2 _ rfl, by rw [← add_field _ _ 3 (by omega)]; exact hc 3 _ rfl, by rw [← add_field _ _ 4 (by omega)]; exact hc 4 _ rfl⟩
structure S30 where
 f0 : Int
 f1 : Int
 f2 : ByteArray
 f3 : Bool
 f4 : Int
def z30 : S30 := ⟨(0 : Int), (0 : Int), (⟨#[]⟩ : ByteArray), false, (0 : Int)⟩
def k30 : Kd S30 := Kd.iso (Kd.pair (Kd.int .i64) (Kd.pair (Kd.int .i64) (Kd.pair Kd.string (Kd.pair Kd.bool (Kd.int .i64))))) (fun x : S30 => (x.f0, x.f1, x.f2, x.f3, x.f4))
theorem k30_open {w : World} {x : S30} {cs : List Value} (h : k30.K w x cs) : cs = [.int .i64 x.f0, .int .i64 x.f1, .string x.f2, .bool x.f3, .int .i64 x.f4] := by
 obtain ⟨_, _, rfl, rfl, ⟨_, _, rfl, rfl, ⟨_, _, rfl, rfl, ⟨_, _, rfl, rfl, rfl⟩⟩⟩⟩ := h
 exact rfl
theorem k30_mkM (w : World) (base : Nat) (ok : Nat → Prop) (x : S30)  : k30.M w base ok x [.int .i64 x.f0, .int .i64 x.f1, .string x.f2, .bool x.f3, .int .i64 x.f4] := ⟨[.int .i64 x.f0], [.int .i64 x.f1, .string x.f2, .bool x.f3, .int .i64 x.f4], rfl, rfl, ⟨[.int .i64 x.f1], [.string x.f2, .bool x.f3, .int .i64 x.f4], rfl, rfl, ⟨[.string x.f2], [.bool x.f3, .int .i64 x.f4], rfl, rfl, ⟨[.bool x.f3], [.int .i64 x.f4], rfl, rfl, rfl⟩⟩⟩⟩
def rd_T30 (xs : List S30) (i : Int) : S30 := xs.getD i.toNat z30
theorem at_T30 {w : World} {A : Option Addr} {n : Nat} {xs : List S30} (h : Kd.C k30 w A n xs) (i : Int) (h0 : 0 ≤ i) (h1 : i < n) : ∃ ad , A = some ad ∧ w.cell? (ad.add (i.toNat * 5)) = some (.int .i64 (rd_T30 xs i).f0) ∧ w.cell? ⟨(ad.add (i.toNat * 5)).block, (ad.add (i.toNat * 5)).off + 1, none⟩ = some (.int .i64 (rd_T30 xs i).f1) ∧ w.cell? ⟨(ad.add (i.toNat * 5)).block, (ad.add (i.toNat * 5)).off + 2, none⟩ = some (.string (rd_T30 xs i).f2) ∧ w.cell? ⟨(ad.add (i.toNat * 5)).block, (ad.add (i.toNat * 5)).off + 3, none⟩ = some (.bool (rd_T30 xs i).f3) ∧ w.cell? ⟨(ad.add (i.toNat * 5)).block, (ad.add (i.toNat * 5)).off + 4, none⟩ = some (.int .i64 (rd_T30 xs i).f4) := by
 obtain ⟨ad, c, e, _, hK, hc0⟩ := Kd.C_get h z30 i h0 h1
 have hc : ∀ j u, c[j]? = some u → w.cell? (ad.add (i.toNat * 5 + j)) = some u := hc0
 obtain rfl := k30_open hK
 exact ⟨ad, e, hc 0 _ rfl, by rw [← add_field _ _ 1 (by omega)]; exact hc 1 _ rfl, by rw [← add_field _ _ 2 (by omega)]; exact hc 2 _ rfl, by rw [← add_field _ _ 3 (by omega)]; exact hc 3 _ rfl, by rw [← add_field _ _ 4 (by omega)]; exact hc 4 _ rfl⟩
structure S67 where
 f0 : (List S29)
 f1 : Int
 f2 : Bool
def z67 : S67 := ⟨([] : List S29), (0 : Int), false⟩
def k67 : Kd S67 := Kd.iso (Kd.pair (Kd.slice 29 k29) (Kd.pair (Kd.int .i64) Kd.bool)) (fun x : S67 => (x.f0, x.f1, x.f2))
theorem k67_open {w : World} {x : S67} {cs : List Value} (h : k67.K w x cs) : ∃ A0 c0, cs = [.slice A0 x.f0.length c0, .int .i64 x.f1, .bool x.f2] ∧ x.f0.length ≤ c0 ∧ k29.C w A0 x.f0.length x.f0 := by
 obtain ⟨_, _, rfl, ⟨A0, c0, rfl, l0, g0⟩, ⟨_, _, rfl, rfl, rfl⟩⟩ := h
 exact ⟨A0, c0, rfl, l0, g0⟩
def rd_T67 (xs : List S67) (i : Int) : S67 := xs.getD i.toNat z67
theorem at_T67 {w : World} {A : Option Addr} {n : Nat} {xs : List S67} (h : Kd.C k67 w A n xs) (i : Int) (h0 : 0 ≤ i) (h1 : i < n) : ∃ ad A0 c0, A = some ad ∧ w.cell? (ad.add (i.toNat * 3)) = some (.slice A0 (rd_T67 xs i).f0.length c0) ∧ w.cell? ⟨(ad.add (i.toNat * 3)).block, (ad.add (i.toNat * 3)).off + 1, none⟩ = some (.int .i64 (rd_T67 xs i).f1) ∧ w.cell? ⟨(ad.add (i.toNat * 3)).block, (ad.add (i.toNat * 3)).off + 2, none⟩ = some (.bool (rd_T67 xs i).f2) ∧ (rd_T67 xs i).f0.length ≤ c0 ∧ k29.C w A0 (rd_T67 xs i).f0.length (rd_T67 xs i).f0 := by
 obtain ⟨ad, c, e, _, hK, hc0⟩ := Kd.C_get h z67 i h0 h1
 have hc : ∀ j u, c[j]? = some u → w.cell? (ad.add (i.toNat * 3 + j)) = some u := hc0
 obtain ⟨A0, c0, rfl, l0, g0⟩ := k67_open hK
 exact ⟨ad, A0, c0, e, hc 0 _ rfl, by rw [← add_field _ _ 1 (by omega)]; exact hc 1 _ rfl, by rw [← add_field _ _ 2 (by omega)]; exact hc 2 _ rfl, l0, g0⟩
end Go.Proofs.YtcihleahjnpaaaaGreatDoor.P
namespace Go.Proofs.YtcihleahjnpaaaaGreatDoor.P
open Go.RowKit Go.Proofs.YtcihleahjnpaaaaGreatDoor.Q Go.Proofs.YtcihleahjnpaaaaGreatDoor.H Go.Proofs.YtcihleahjnpaaaaGreatDoorW.PrintWords Go.Proofs.YtcihleahjnpaaaaGreatDoorW.PrintLast Go.Proofs.YtcihleahjnpaaaaGreatDoorW.PrintMore
attribute [local go_sem] max2_int min2_int max_two min_two max_three min_three max_four min_four   -- for this text's walks alone
set_option linter.unusedVariables false
set_option linter.unusedSimpArgs false
def latticelaw12_values.f (a0_0 : Int) (a0_1 : Int) (a0_2 : ByteArray) (a0_3 : Bool) (a0_4 : Int) : Option (Int × Int × ByteArray × Bool × Int × Int × Int × ByteArray × Bool × Int) := if 0 ≤ (mn (a0_2.size : Int) 300) then (if (mn (a0_2.size : Int) 300) ≤ (a0_2.size : Int) then (some (a0_0, a0_1, a0_2.extract 0 ((mn (a0_2.size : Int) 300) : Int).toNat, a0_3, a0_4, a0_0, a0_1, a0_2.extract 0 ((mn (a0_2.size : Int) 300) : Int).toNat, a0_3, a0_4)) else (none)) else (none)
def latticelaw12_values.T2 : Bool × List (List Nat × List Nat) := (true, [([], []), ([0], [0]), ([], []), ([2], [2]), ([], []), ([4], [4]), ([], []), ([6], [6]), ([], []), ([8], [8]), ([1, 3, 5, 7, 9], [1, 3, 5, 7, 9]), ([], []), ([10, 0, 1, 2, 3, 4, 5, 6, 7, 8, 9, 10], [10]), ([11, 12, 0, 1, 2, 3, 4, 5, 6, 7, 8, 9, 10, 11, 12], [11])])
def latticelaw12_values.B2 : List Nat := [0, 1, 0, 4, 0, 16, 0, 64, 0, 256, 1023, 0, 2047, 8191]
theorem latticelaw12_values.tab2 : rtab .any (opsOf Tryz.f8 2) = latticelaw12_values.T2 := by kernel_rfl
theorem latticelaw12_values.bits2 : waitsOk latticelaw12_values.T2.2 latticelaw12_values.B2 = true := by kernel_rfl
set_option maxHeartbeats 8000000 in
set_option maxRecDepth 100000 in
theorem latticelaw12_values.calls (a0_0 : Int) (a0_1 : Int) (a0_2 : ByteArray) (a0_3 : Bool) (a0_4 : Int) (r1 : Int) (r2 : Int) (r3 : ByteArray) (r4 : Bool) (r5 : Int) (r6 : Int) (r7 : Int) (r8 : ByteArray) (r9 : Bool) (r10 : Int) (w : World) (h : latticelaw12_values.f a0_0 a0_1 a0_2 a0_3 a0_4 = some (r1, r2, r3, r4, r5, r6, r7, r8, r9, r10)) :
  Calls Tryz.prog 8 #[.agg #[.int .i64 a0_0, .int .i64 a0_1, .string a0_2, .bool a0_3, .int .i64 a0_4]] w fun e w' => e = .returned (.tuple #[.agg #[.int .i64 r1, .int .i64 r2, .string r3, .bool r4, .int .i64 r5], .agg #[.int .i64 r6, .int .i64 r7, .string r8, .bool r9, .int .i64 r10]]) ∧ Below w.heap.size w w' := by
 have hu23 := Tryz.underlying23
 have hu29 := Tryz.underlying29
 have hu30 := Tryz.underlying30
 have HB := Aside0.mk (Below.refl w.heap.size w)
 have H : (if 0 ≤ (mn (a0_2.size : Int) 300) then (if (mn (a0_2.size : Int) 300) ≤ (a0_2.size : Int) then (some (a0_0, a0_1, a0_2.extract 0 ((mn (a0_2.size : Int) 300) : Int).toNat, a0_3, a0_4, a0_0, a0_1, a0_2.extract 0 ((mn (a0_2.size : Int) 300) : Int).toNat, a0_3, a0_4)) else (none)) else (none)) = some (r1, r2, r3, r4, r5, r6, r7, r8, r9, r10) := h
 clear h
 obtain ⟨ji2, hji2⟩ : ∃ j_ : Int, (mn (a0_2.size : Int) 300) = j_ := ⟨_, rfl⟩
 replace H : (if 0 ≤ (ji2) then (if (ji2) ≤ (a0_2.size : Int) then (some (a0_0, a0_1, a0_2.extract 0 ((ji2) : Int).toNat, a0_3, a0_4, a0_0, a0_1, a0_2.extract 0 ((ji2) : Int).toNat, a0_3, a0_4)) else (none)) else (none)) = some (r1, r2, r3, r4, r5, r6, r7, r8, r9, r10) := by first | (rw [hji2] at H; exact H) | (simp only [hji2] at H ⊢; exact H)
 (try (have hji2h : ji2 ≤ 300 := by (rw [← hji2]; unfold mn; (repeat' split) <;> omega)))
 (try (have hji2g : ji2 ≤ 64 := by omega))
 (try (have hji2l : 0 ≤ ji2 := by (rw [← hji2]; unfold mn; (repeat' split) <;> omega)))
 (try (have hji2m : 0 ≤ ji2 := by omega))
 have hji2_ : (if 300 < (a0_2.size : Int) then 300 else (a0_2.size : Int)) = ji2 := hji2
 by_cases c3 : 0 ≤ (ji2)
 ·rw [if_pos c3] at H
  have c3b0 := eq_true c3
  have c3b1 : decide (0 ≤ (ji2)) = true := decide_eq_true c3
  clear c3
  by_cases c4 : (ji2) ≤ (a0_2.size : Int)
  ·rw [if_pos c4] at H
   have c4b0 := eq_true c4
   have c4b1 : decide ((ji2) ≤ (a0_2.size : Int)) = true := decide_eq_true c4
   clear c4
   simp only [Option.some.injEq, Prod.mk.injEq] at H
   obtain ⟨rfl, rfl, rfl, rfl, rfl, rfl, rfl, rfl, rfl, rfl⟩ := H
   go_enter Tryz.func8, Tryz.ntmps8
   try go_wp2_with (first | ((with_reducible refine gate_dst (N := 1) rfl ?_); refine bx (N := 1) (cs := #[.int .i64 a0_0, .int .i64 a0_1, .string a0_2, .bool a0_3, .int .i64 a0_4]) (t := 23) ?_; intro gb101 hg w5 hbox hb; have BK101 := Aside0.mk (hbox); have GW101 := (bw hg); have GE101 := (bw hg); replace HB := (bs hb); clear hb hbox hg) | ((with_reducible refine gate_dst (N := 2) rfl ?_); refine bx (N := 2) (cs := #[.int .i64 0, .int .i64 0, .string (⟨#[]⟩ : ByteArray), .bool false, .int .i64 0]) (t := 29) ?_; intro gb102 hg w6 hbox hb; have BK102 := Aside0.mk (hbox); have GW102 := (bw hg); have GE102 := (bw hg); replace HB := (bs hb); have NB101_102 := Aside0.mk ((by rw [hg]; exact Nat.ne_of_lt (blk_lt (g := gb101) (o := .cells #[.int .i64 a0_0, .int .i64 a0_1, .string a0_2, .bool a0_3, .int .i64 a0_4] 23 (0, 0)) (by (with_reducible repeat (first | refine blk_drewN ?_ _ | refine blk_drew ?_ | refine blk_alloc ?_ _)); exact BK101.out)) : gb101 ≠ gb102)); have NB102_101 := Aside0.mk ((by rw [hg]; exact Nat.ne_of_gt (blk_lt (g := gb101) (o := .cells #[.int .i64 a0_0, .int .i64 a0_1, .string a0_2, .bool a0_3, .int .i64 a0_4] 23 (0, 0)) (by (with_reducible repeat (first | refine blk_drewN ?_ _ | refine blk_drew ?_ | refine blk_alloc ?_ _)); exact BK101.out)) : gb102 ≠ gb101)); replace BK101 := (bb BK101 hb); clear hb hbox hg) | ((with_reducible refine gate_dst (N := 3) rfl ?_); refine bx (N := 3) (cs := #[.int .i64 0, .int .i64 0, .string (⟨#[]⟩ : ByteArray), .bool false, .int .i64 0]) (t := 30) ?_; intro gb103 hg w7 hbox hb; have BK103 := Aside0.mk (hbox); have GW103 := (bw hg); have GE103 := (bw hg); replace HB := (bs hb); have NB101_103 := Aside0.mk ((by rw [hg]; exact Nat.ne_of_lt (blk_lt (g := gb101) (o := .cells #[.int .i64 a0_0, .int .i64 a0_1, .string a0_2, .bool a0_3, .int .i64 a0_4] 23 (0, 0)) (by (with_reducible repeat (first | refine blk_drewN ?_ _ | refine blk_drew ?_ | refine blk_alloc ?_ _)); exact BK101.out)) : gb101 ≠ gb103)); have NB103_101 := Aside0.mk ((by rw [hg]; exact Nat.ne_of_gt (blk_lt (g := gb101) (o := .cells #[.int .i64 a0_0, .int .i64 a0_1, .string a0_2, .bool a0_3, .int .i64 a0_4] 23 (0, 0)) (by (with_reducible repeat (first | refine blk_drewN ?_ _ | refine blk_drew ?_ | refine blk_alloc ?_ _)); exact BK101.out)) : gb103 ≠ gb101)); replace BK101 := (bb BK101 hb); have NB102_103 := Aside0.mk ((by rw [hg]; exact Nat.ne_of_lt (blk_lt (g := gb102) (o := .cells #[.int .i64 0, .int .i64 0, .string (⟨#[]⟩ : ByteArray), .bool false, .int .i64 0] 29 (0, 0)) (by (with_reducible repeat (first | refine blk_drewN ?_ _ | refine blk_drew ?_ | refine blk_alloc ?_ _)); exact BK102.out)) : gb102 ≠ gb103)); have NB103_102 := Aside0.mk ((by rw [hg]; exact Nat.ne_of_gt (blk_lt (g := gb102) (o := .cells #[.int .i64 0, .int .i64 0, .string (⟨#[]⟩ : ByteArray), .bool false, .int .i64 0] 29 (0, 0)) (by (with_reducible repeat (first | refine blk_drewN ?_ _ | refine blk_drew ?_ | refine blk_alloc ?_ _)); exact BK102.out)) : gb103 ≠ gb102)); replace BK102 := (bb BK102 hb); clear hb hbox hg; have hnb8 := NB101_102.out; have hnc8 := NB102_101.out; have hnb9 := NB101_103.out; have hnc9 := NB103_101.out; obtain ⟨hcz10_0, hcz10_1, hcz10_2, hcz10_3, hcz10_4, hfz10_0, hfz10_1, hfz10_2, hfz10_3, hfz10_4⟩ := bc5 BK101))
   have n0_ : Aside0 ((w7.setCell ⟨gb101, 2, none⟩ (.string (a0_2.extract 0 ((ji2) : Int).toNat))).heap[gb101]? = some (.cells #[.int .i64 a0_0, .int .i64 a0_1, .string (a0_2.extract 0 ((ji2) : Int).toNat), .bool a0_3, .int .i64 a0_4] 23 (0, 0))) := ⟨by (with_reducible repeat (first | refine blk_drewN ?_ _ | refine blk_drew ?_ | refine blk_alloc ?_ _)); refine blk_put (cs := #[.int .i64 a0_0, .int .i64 a0_1, .string a0_2, .bool a0_3, .int .i64 a0_4]) ?_ 2 _ rfl; (with_reducible repeat (first | refine blk_drewN ?_ _ | refine blk_drew ?_ | refine blk_alloc ?_ _)); exact BK101.out⟩
   have n1_ : Aside0 ((w7.setCell ⟨gb101, 2, none⟩ (.string (a0_2.extract 0 ((ji2) : Int).toNat))).heap[gb102]? = some (.cells #[.int .i64 0, .int .i64 0, .string (⟨#[]⟩ : ByteArray), .bool false, .int .i64 0] 29 (0, 0))) := ⟨by (with_reducible repeat (first | refine blk_drewN ?_ _ | refine blk_drew ?_ | refine blk_alloc ?_ _)); refine blk_far ?_ NB102_101.out _; (with_reducible repeat (first | refine blk_drewN ?_ _ | refine blk_drew ?_ | refine blk_alloc ?_ _)); exact BK102.out⟩
   have n2_ : Aside0 ((w7.setCell ⟨gb101, 2, none⟩ (.string (a0_2.extract 0 ((ji2) : Int).toNat))).heap[gb103]? = some (.cells #[.int .i64 0, .int .i64 0, .string (⟨#[]⟩ : ByteArray), .bool false, .int .i64 0] 30 (0, 0))) := ⟨by (with_reducible repeat (first | refine blk_drewN ?_ _ | refine blk_drew ?_ | refine blk_alloc ?_ _)); refine blk_far ?_ NB103_101.out _; (with_reducible repeat (first | refine blk_drewN ?_ _ | refine blk_drew ?_ | refine blk_alloc ?_ _)); exact BK103.out⟩
   have n3_ : Aside0 (Below w.heap.size w (w7.setCell ⟨gb101, 2, none⟩ (.string (a0_2.extract 0 ((ji2) : Int).toNat)))) := ⟨by repeat (first | (with_reducible first | exact HB.out | apply below_alloc | apply pw_below_drewN | apply below_drew1 | refine below_set ?_ GE101.out | refine below_set ?_ GE102.out | refine below_set ?_ GE103.out) | exact HB.out)⟩
   (try clear BK101)
   (try clear BK102)
   (try clear BK103)
   (try clear HB)
   generalize (w7.setCell ⟨gb101, 2, none⟩ (.string (a0_2.extract 0 ((ji2) : Int).toNat))) = w11 at n0_ n1_ n2_ n3_ ⊢
   have BK101 := n0_
   have BK102 := n1_
   have BK103 := n2_
   have HB := n3_
   clear n0_ n1_ n2_ n3_
   have n0_ := Aside0.mk (blk_drew BK101.out)
   have n1_ := Aside0.mk (blk_drew BK102.out)
   have n2_ := Aside0.mk (blk_drew BK103.out)
   have n3_ := Aside0.mk (below_drew1 HB.out)
   clear BK101
   clear BK102
   clear BK103
   clear HB
   have BK101 := n0_
   have BK102 := n1_
   have BK103 := n2_
   have HB := n3_
   clear n0_ n1_ n2_ n3_
   refine start_ (n := 14) (S := fun w' => w'.cell? ⟨gb101, 0, none⟩ = some (.int .i64 a0_0) ∧ w'.cell? ⟨gb101, 1, none⟩ = some (.int .i64 a0_1) ∧ w'.cell? ⟨gb101, 2, none⟩ = some (.string (a0_2.extract 0 ((ji2) : Int).toNat)) ∧ w'.cell? ⟨gb101, 3, none⟩ = some (.bool a0_3) ∧ w'.cell? ⟨gb101, 4, none⟩ = some (.int .i64 a0_4)) (ds := []) #[false, false, false, false, false, false, false, false, false, false, false, false, false, false] (by kernel_rfl) rfl rfl ⟨(blk_cell BK101.out 0).trans rfl, (blk_cell BK101.out 1).trans rfl, (blk_cell BK101.out 2).trans rfl, (blk_cell BK101.out 3).trans rfl, (blk_cell BK101.out 4).trans rfl⟩ (fun hHeld => ?_); refine with_tabW latticelaw12_values.tab2 latticelaw12_values.bits2 (fun HT_ HW_ => ?_)
   generalize w11.drew = w12 at BK101 BK102 BK103 HB hHeld ⊢
   refine pure_ (i := 0) (N := some 12) (v := ?_) (a' := ?_) #[true, false, false, false, false, false, false, false, false, false, false, false, false, false] rfl rfl (any_of HT_.out (by kernel_rfl)) (fun _ _ _ h => h) (Or.inl ⟨by rfl, ?_⟩) ?_ ?_
   rotate_left
   ·intro w'
    go_simp
    with_reducible rfl
   rotate_left
   ·simp only [Act.put, List.setIfInBounds_toArray, List.set_cons_zero, List.set_cons_succ, i64_w, i32_w]
    rfl
   refine pure_ (i := 2) (N := some 14) (v := ?_) (a' := ?_) #[true, false, true, false, false, false, false, false, false, false, false, false, false, false] rfl rfl (any_of HT_.out (by kernel_rfl)) (fun _ _ _ h => h) (Or.inl ⟨by rfl, ?_⟩) ?_ ?_
   rotate_left
   ·intro w'
    go_simp
    with_reducible rfl
   rotate_left
   ·simp only [Act.put, List.setIfInBounds_toArray, List.set_cons_zero, List.set_cons_succ, i64_w, i32_w]
    rfl
   refine pure_ (i := 4) (N := some 16) (v := ?_) (a' := ?_) #[true, false, true, false, true, false, false, false, false, false, false, false, false, false] rfl rfl (any_of HT_.out (by kernel_rfl)) (fun _ _ _ h => h) (Or.inl ⟨by rfl, ?_⟩) ?_ ?_
   rotate_left
   ·intro w'
    go_simp
    with_reducible rfl
   rotate_left
   ·simp only [Act.put, List.setIfInBounds_toArray, List.set_cons_zero, List.set_cons_succ, i64_w, i32_w]
    rfl
   refine pure_ (i := 6) (N := some 18) (v := ?_) (a' := ?_) #[true, false, true, false, true, false, true, false, false, false, false, false, false, false] rfl rfl (any_of HT_.out (by kernel_rfl)) (fun _ _ _ h => h) (Or.inl ⟨by rfl, ?_⟩) ?_ ?_
   rotate_left
   ·intro w'
    go_simp
    with_reducible rfl
   rotate_left
   ·simp only [Act.put, List.setIfInBounds_toArray, List.set_cons_zero, List.set_cons_succ, i64_w, i32_w]
    rfl
   refine pure_ (i := 8) (N := some 20) (v := ?_) (a' := ?_) #[true, false, true, false, true, false, true, false, true, false, false, false, false, false] rfl rfl (any_of HT_.out (by kernel_rfl)) (fun _ _ _ h => h) (Or.inl ⟨by rfl, ?_⟩) ?_ ?_
   rotate_left
   ·intro w'
    go_simp
    with_reducible rfl
   rotate_left
   ·simp only [Act.put, List.setIfInBounds_toArray, List.set_cons_zero, List.set_cons_succ, i64_w, i32_w]
    rfl
   refine take_ (i := 1) (N := some 13) (v := ?_) (a' := ?_) #[true, true, true, false, true, false, true, false, true, false, false, false, false, false] rfl rfl (take_ofW HT_.out HW_.out (by kernel_rfl)) (fun _ _ _ h => h) (Or.inl ⟨by rfl, ?_⟩) hHeld ?_ ?_
   rotate_left
   ·rintro w' ⟨s0, s1, s2, s3, s4⟩
    go_simp
    with_reducible rfl
   rotate_left
   ·simp only [Act.put, List.setIfInBounds_toArray, List.set_cons_zero, List.set_cons_succ, i64_w, i32_w]
    rfl
   refine take_ (i := 3) (N := some 15) (v := ?_) (a' := ?_) #[true, true, true, true, true, false, true, false, true, false, false, false, false, false] rfl rfl (take_ofW HT_.out HW_.out (by kernel_rfl)) (fun _ _ _ h => h) (Or.inl ⟨by rfl, ?_⟩) hHeld ?_ ?_
   rotate_left
   ·rintro w' ⟨s0, s1, s2, s3, s4⟩
    go_simp
    with_reducible rfl
   rotate_left
   ·simp only [Act.put, List.setIfInBounds_toArray, List.set_cons_zero, List.set_cons_succ, i64_w, i32_w]
    rfl
   refine take_ (i := 5) (N := some 17) (v := ?_) (a' := ?_) #[true, true, true, true, true, true, true, false, true, false, false, false, false, false] rfl rfl (take_ofW HT_.out HW_.out (by kernel_rfl)) (fun _ _ _ h => h) (Or.inl ⟨by rfl, ?_⟩) hHeld ?_ ?_
   rotate_left
   ·rintro w' ⟨s0, s1, s2, s3, s4⟩
    go_simp
    with_reducible rfl
   rotate_left
   ·simp only [Act.put, List.setIfInBounds_toArray, List.set_cons_zero, List.set_cons_succ, i64_w, i32_w]
    rfl
   refine take_ (i := 7) (N := some 19) (v := ?_) (a' := ?_) #[true, true, true, true, true, true, true, true, true, false, false, false, false, false] rfl rfl (take_ofW HT_.out HW_.out (by kernel_rfl)) (fun _ _ _ h => h) (Or.inl ⟨by rfl, ?_⟩) hHeld ?_ ?_
   rotate_left
   ·rintro w' ⟨s0, s1, s2, s3, s4⟩
    go_simp
    with_reducible rfl
   rotate_left
   ·simp only [Act.put, List.setIfInBounds_toArray, List.set_cons_zero, List.set_cons_succ, i64_w, i32_w]
    rfl
   refine take_ (i := 9) (N := some 21) (v := ?_) (a' := ?_) #[true, true, true, true, true, true, true, true, true, true, false, false, false, false] rfl rfl (take_ofW HT_.out HW_.out (by kernel_rfl)) (fun _ _ _ h => h) (Or.inl ⟨by rfl, ?_⟩) hHeld ?_ ?_
   rotate_left
   ·rintro w' ⟨s0, s1, s2, s3, s4⟩
    go_simp
    with_reducible rfl
   rotate_left
   ·simp only [Act.put, List.setIfInBounds_toArray, List.set_cons_zero, List.set_cons_succ, i64_w, i32_w]
    rfl
   refine pure_ (i := 10) (N := some 22) (v := ?_) (a' := ?_) #[true, true, true, true, true, true, true, true, true, true, true, false, false, false] rfl rfl (any_of HT_.out (by kernel_rfl)) (fun _ _ _ h => h) (Or.inl ⟨by rfl, ?_⟩) ?_ ?_
   rotate_left
   ·intro w'
    go_simp
    with_reducible rfl
   rotate_left
   ·simp only [Act.put, List.setIfInBounds_toArray, List.set_cons_zero, List.set_cons_succ, i64_w, i32_w]
    rfl
   refine take_ (i := 11) (N := some 23) (v := ?_) (a' := ?_) #[true, true, true, true, true, true, true, true, true, true, true, true, false, false] rfl rfl (take_ofW HT_.out HW_.out (by kernel_rfl)) (fun _ _ _ h => h) (Or.inl ⟨by rfl, ?_⟩) hHeld ?_ ?_
   rotate_left
   ·rintro w' ⟨s0, s1, s2, s3, s4⟩
    go_simp
    with_reducible rfl
   rotate_left
   ·simp only [Act.put, List.setIfInBounds_toArray, List.set_cons_zero, List.set_cons_succ, i64_w, i32_w]
    rfl
   refine one_ (i := 12) (N := none) #[true, true, true, true, true, true, true, true, true, true, true, true, true, false] rfl rfl (one_of HT_.out (by kernel_rfl)) (by decide) (fun K hK => ?_)
   have hs13 : w12.cell? ⟨gb102, 0, none⟩ = some (.int .i64 0) := (blk_cell BK102.out 0).trans rfl
   have hfs13 := blk_frozen BK102.out 0
   have hns13_0 := NB101_102.out
   have hns13_2 := NB103_102.out
   have hms13_0 := NB102_101.out
   have hms13_2 := NB102_103.out
   have hs14 : w12.cell? ⟨gb102, 1, none⟩ = some (.int .i64 0) := (blk_cell BK102.out 1).trans rfl
   have hfs14 := blk_frozen BK102.out 1
   have hns14_0 := NB101_102.out
   have hns14_2 := NB103_102.out
   have hms14_0 := NB102_101.out
   have hms14_2 := NB102_103.out
   have hs15 : w12.cell? ⟨gb102, 2, none⟩ = some (.string (⟨#[]⟩ : ByteArray)) := (blk_cell BK102.out 2).trans rfl
   have hfs15 := blk_frozen BK102.out 2
   have hns15_0 := NB101_102.out
   have hns15_2 := NB103_102.out
   have hms15_0 := NB102_101.out
   have hms15_2 := NB102_103.out
   have hs16 : w12.cell? ⟨gb102, 3, none⟩ = some (.bool false) := (blk_cell BK102.out 3).trans rfl
   have hfs16 := blk_frozen BK102.out 3
   have hns16_0 := NB101_102.out
   have hns16_2 := NB103_102.out
   have hms16_0 := NB102_101.out
   have hms16_2 := NB102_103.out
   have hs17 : w12.cell? ⟨gb102, 4, none⟩ = some (.int .i64 0) := (blk_cell BK102.out 4).trans rfl
   have hfs17 := blk_frozen BK102.out 4
   have hns17_0 := NB101_102.out
   have hns17_2 := NB103_102.out
   have hms17_0 := NB102_101.out
   have hms17_2 := NB102_103.out
   refine skip_ (w1 := ?_) (by rfl) rfl ?_ ?_
   rotate_left
   ·go_simp
    rfl
   refine hK.out _ _ ⟨((cell_far (p := ⟨gb102, _, none⟩) NB101_102.out _).trans (((cell_far (p := ⟨gb102, _, none⟩) NB101_102.out _).trans (((cell_far (p := ⟨gb102, _, none⟩) NB101_102.out _).trans (((cell_far (p := ⟨gb102, _, none⟩) NB101_102.out _).trans (((cell_far (p := ⟨gb102, _, none⟩) NB101_102.out _).trans (hHeld.1)))))))))), ((cell_far (p := ⟨gb102, _, none⟩) NB101_102.out _).trans (((cell_far (p := ⟨gb102, _, none⟩) NB101_102.out _).trans (((cell_far (p := ⟨gb102, _, none⟩) NB101_102.out _).trans (((cell_far (p := ⟨gb102, _, none⟩) NB101_102.out _).trans (((cell_far (p := ⟨gb102, _, none⟩) NB101_102.out _).trans (hHeld.2.1)))))))))), ((cell_far (p := ⟨gb102, _, none⟩) NB101_102.out _).trans (((cell_far (p := ⟨gb102, _, none⟩) NB101_102.out _).trans (((cell_far (p := ⟨gb102, _, none⟩) NB101_102.out _).trans (((cell_far (p := ⟨gb102, _, none⟩) NB101_102.out _).trans (((cell_far (p := ⟨gb102, _, none⟩) NB101_102.out _).trans (hHeld.2.2.1)))))))))), ((cell_far (p := ⟨gb102, _, none⟩) NB101_102.out _).trans (((cell_far (p := ⟨gb102, _, none⟩) NB101_102.out _).trans (((cell_far (p := ⟨gb102, _, none⟩) NB101_102.out _).trans (((cell_far (p := ⟨gb102, _, none⟩) NB101_102.out _).trans (((cell_far (p := ⟨gb102, _, none⟩) NB101_102.out _).trans (hHeld.2.2.2.1)))))))))), ((cell_far (p := ⟨gb102, _, none⟩) NB101_102.out _).trans (((cell_far (p := ⟨gb102, _, none⟩) NB101_102.out _).trans (((cell_far (p := ⟨gb102, _, none⟩) NB101_102.out _).trans (((cell_far (p := ⟨gb102, _, none⟩) NB101_102.out _).trans (((cell_far (p := ⟨gb102, _, none⟩) NB101_102.out _).trans (hHeld.2.2.2.2))))))))))⟩ (fun hHeld => ?_)
   clear hK K
   refine one_ (i := 13) (N := none) #[true, true, true, true, true, true, true, true, true, true, true, true, true, true] rfl rfl (one_of HT_.out (by kernel_rfl)) (by decide) (fun K hK => ?_)
   have hs18 : w12.cell? ⟨gb103, 0, none⟩ = some (.int .i64 0) := (blk_cell BK103.out 0).trans rfl
   have hfs18 := blk_frozen BK103.out 0
   have hns18_0 := NB101_103.out
   have hns18_1 := NB102_103.out
   have hms18_0 := NB103_101.out
   have hms18_1 := NB103_102.out
   have hs19 : w12.cell? ⟨gb103, 1, none⟩ = some (.int .i64 0) := (blk_cell BK103.out 1).trans rfl
   have hfs19 := blk_frozen BK103.out 1
   have hns19_0 := NB101_103.out
   have hns19_1 := NB102_103.out
   have hms19_0 := NB103_101.out
   have hms19_1 := NB103_102.out
   have hs20 : w12.cell? ⟨gb103, 2, none⟩ = some (.string (⟨#[]⟩ : ByteArray)) := (blk_cell BK103.out 2).trans rfl
   have hfs20 := blk_frozen BK103.out 2
   have hns20_0 := NB101_103.out
   have hns20_1 := NB102_103.out
   have hms20_0 := NB103_101.out
   have hms20_1 := NB103_102.out
   have hs21 : w12.cell? ⟨gb103, 3, none⟩ = some (.bool false) := (blk_cell BK103.out 3).trans rfl
   have hfs21 := blk_frozen BK103.out 3
   have hns21_0 := NB101_103.out
   have hns21_1 := NB102_103.out
   have hms21_0 := NB103_101.out
   have hms21_1 := NB103_102.out
   have hs22 : w12.cell? ⟨gb103, 4, none⟩ = some (.int .i64 0) := (blk_cell BK103.out 4).trans rfl
   have hfs22 := blk_frozen BK103.out 4
   have hns22_0 := NB101_103.out
   have hns22_1 := NB102_103.out
   have hms22_0 := NB103_101.out
   have hms22_1 := NB103_102.out
   refine skip_ (w1 := ?_) (by rfl) rfl ?_ ?_
   rotate_left
   ·go_simp
    rfl
   refine hK.out _ _ ⟨((cell_far (p := ⟨gb103, _, none⟩) NB101_103.out _).trans (((cell_far (p := ⟨gb103, _, none⟩) NB101_103.out _).trans (((cell_far (p := ⟨gb103, _, none⟩) NB101_103.out _).trans (((cell_far (p := ⟨gb103, _, none⟩) NB101_103.out _).trans (((cell_far (p := ⟨gb103, _, none⟩) NB101_103.out _).trans (hHeld.1)))))))))), ((cell_far (p := ⟨gb103, _, none⟩) NB101_103.out _).trans (((cell_far (p := ⟨gb103, _, none⟩) NB101_103.out _).trans (((cell_far (p := ⟨gb103, _, none⟩) NB101_103.out _).trans (((cell_far (p := ⟨gb103, _, none⟩) NB101_103.out _).trans (((cell_far (p := ⟨gb103, _, none⟩) NB101_103.out _).trans (hHeld.2.1)))))))))), ((cell_far (p := ⟨gb103, _, none⟩) NB101_103.out _).trans (((cell_far (p := ⟨gb103, _, none⟩) NB101_103.out _).trans (((cell_far (p := ⟨gb103, _, none⟩) NB101_103.out _).trans (((cell_far (p := ⟨gb103, _, none⟩) NB101_103.out _).trans (((cell_far (p := ⟨gb103, _, none⟩) NB101_103.out _).trans (hHeld.2.2.1)))))))))), ((cell_far (p := ⟨gb103, _, none⟩) NB101_103.out _).trans (((cell_far (p := ⟨gb103, _, none⟩) NB101_103.out _).trans (((cell_far (p := ⟨gb103, _, none⟩) NB101_103.out _).trans (((cell_far (p := ⟨gb103, _, none⟩) NB101_103.out _).trans (((cell_far (p := ⟨gb103, _, none⟩) NB101_103.out _).trans (hHeld.2.2.2.1)))))))))), ((cell_far (p := ⟨gb103, _, none⟩) NB101_103.out _).trans (((cell_far (p := ⟨gb103, _, none⟩) NB101_103.out _).trans (((cell_far (p := ⟨gb103, _, none⟩) NB101_103.out _).trans (((cell_far (p := ⟨gb103, _, none⟩) NB101_103.out _).trans (((cell_far (p := ⟨gb103, _, none⟩) NB101_103.out _).trans (hHeld.2.2.2.2))))))))))⟩ (fun hHeld => ?_)
   clear hK K
   refine done_ (done_of HT_.out (by kernel_rfl)) ?_
   try go_wp2
   refine bodyPost_ret (results_cc rfl _ _ gb102 gb103 29 30 #[.int .i64 a0_0, .int .i64 a0_1, .string (a0_2.extract 0 ((ji2) : Int).toNat), .bool a0_3, .int .i64 a0_4] #[.int .i64 a0_0, .int .i64 a0_1, .string (a0_2.extract 0 ((ji2) : Int).toNat), .bool a0_3, .int .i64 a0_4] (0, 0) (0, 0) _ _ rfl (by (with_reducible repeat (first | refine blk_drewN ?_ _ | refine blk_drew ?_ | refine blk_alloc ?_ _)); refine blk_far ?_ NB102_103.out _; (with_reducible repeat (first | refine blk_drewN ?_ _ | refine blk_drew ?_ | refine blk_alloc ?_ _)); refine blk_far ?_ NB102_103.out _; (with_reducible repeat (first | refine blk_drewN ?_ _ | refine blk_drew ?_ | refine blk_alloc ?_ _)); refine blk_far ?_ NB102_103.out _; (with_reducible repeat (first | refine blk_drewN ?_ _ | refine blk_drew ?_ | refine blk_alloc ?_ _)); refine blk_far ?_ NB102_103.out _; (with_reducible repeat (first | refine blk_drewN ?_ _ | refine blk_drew ?_ | refine blk_alloc ?_ _)); refine blk_far ?_ NB102_103.out _; (with_reducible repeat (first | refine blk_drewN ?_ _ | refine blk_drew ?_ | refine blk_alloc ?_ _)); refine blk_put (cs := #[.int .i64 a0_0, .int .i64 a0_1, .string (a0_2.extract 0 ((ji2) : Int).toNat), .bool a0_3, .int .i64 0]) ?_ 4 _ rfl; (with_reducible repeat (first | refine blk_drewN ?_ _ | refine blk_drew ?_ | refine blk_alloc ?_ _)); refine blk_put (cs := #[.int .i64 a0_0, .int .i64 a0_1, .string (a0_2.extract 0 ((ji2) : Int).toNat), .bool false, .int .i64 0]) ?_ 3 _ rfl; (with_reducible repeat (first | refine blk_drewN ?_ _ | refine blk_drew ?_ | refine blk_alloc ?_ _)); refine blk_put (cs := #[.int .i64 a0_0, .int .i64 a0_1, .string (⟨#[]⟩ : ByteArray), .bool false, .int .i64 0]) ?_ 2 _ rfl; (with_reducible repeat (first | refine blk_drewN ?_ _ | refine blk_drew ?_ | refine blk_alloc ?_ _)); refine blk_put (cs := #[.int .i64 a0_0, .int .i64 0, .string (⟨#[]⟩ : ByteArray), .bool false, .int .i64 0]) ?_ 1 _ rfl; (with_reducible repeat (first | refine blk_drewN ?_ _ | refine blk_drew ?_ | refine blk_alloc ?_ _)); refine blk_put (cs := #[.int .i64 0, .int .i64 0, .string (⟨#[]⟩ : ByteArray), .bool false, .int .i64 0]) ?_ 0 _ rfl; (with_reducible repeat (first | refine blk_drewN ?_ _ | refine blk_drew ?_ | refine blk_alloc ?_ _)); exact BK102.out) Tryz.underlying29 rfl (by kernel_rfl) rfl (by (with_reducible repeat (first | refine blk_drewN ?_ _ | refine blk_drew ?_ | refine blk_alloc ?_ _)); refine blk_put (cs := #[.int .i64 a0_0, .int .i64 a0_1, .string (a0_2.extract 0 ((ji2) : Int).toNat), .bool a0_3, .int .i64 0]) ?_ 4 _ rfl; (with_reducible repeat (first | refine blk_drewN ?_ _ | refine blk_drew ?_ | refine blk_alloc ?_ _)); refine blk_put (cs := #[.int .i64 a0_0, .int .i64 a0_1, .string (a0_2.extract 0 ((ji2) : Int).toNat), .bool false, .int .i64 0]) ?_ 3 _ rfl; (with_reducible repeat (first | refine blk_drewN ?_ _ | refine blk_drew ?_ | refine blk_alloc ?_ _)); refine blk_put (cs := #[.int .i64 a0_0, .int .i64 a0_1, .string (⟨#[]⟩ : ByteArray), .bool false, .int .i64 0]) ?_ 2 _ rfl; (with_reducible repeat (first | refine blk_drewN ?_ _ | refine blk_drew ?_ | refine blk_alloc ?_ _)); refine blk_put (cs := #[.int .i64 a0_0, .int .i64 0, .string (⟨#[]⟩ : ByteArray), .bool false, .int .i64 0]) ?_ 1 _ rfl; (with_reducible repeat (first | refine blk_drewN ?_ _ | refine blk_drew ?_ | refine blk_alloc ?_ _)); refine blk_put (cs := #[.int .i64 0, .int .i64 0, .string (⟨#[]⟩ : ByteArray), .bool false, .int .i64 0]) ?_ 0 _ rfl; (with_reducible repeat (first | refine blk_drewN ?_ _ | refine blk_drew ?_ | refine blk_alloc ?_ _)); refine blk_far ?_ NB103_102.out _; (with_reducible repeat (first | refine blk_drewN ?_ _ | refine blk_drew ?_ | refine blk_alloc ?_ _)); refine blk_far ?_ NB103_102.out _; (with_reducible repeat (first | refine blk_drewN ?_ _ | refine blk_drew ?_ | refine blk_alloc ?_ _)); refine blk_far ?_ NB103_102.out _; (with_reducible repeat (first | refine blk_drewN ?_ _ | refine blk_drew ?_ | refine blk_alloc ?_ _)); refine blk_far ?_ NB103_102.out _; (with_reducible repeat (first | refine blk_drewN ?_ _ | refine blk_drew ?_ | refine blk_alloc ?_ _)); refine blk_far ?_ NB103_102.out _; (with_reducible repeat (first | refine blk_drewN ?_ _ | refine blk_drew ?_ | refine blk_alloc ?_ _)); exact BK103.out) Tryz.underlying30 rfl (by kernel_rfl)) rfl ?_
   exact ⟨by first | rfl | (simp [errW_none, errW_some] <;> rfl) | (simp only [← hji2]; first | rfl | (simp [errW_none, errW_some] <;> rfl)) | (simp [*, errW_none, errW_some] <;> rfl), be⟩
  ·rw [if_neg c4] at H
   exact absurd H (by simp)
 ·rw [if_neg c3] at H
  exact absurd H (by simp)
end Go.Proofs.YtcihleahjnpaaaaGreatDoor.P
namespace Go.Proofs.YtcihleahjnpaaaaGreatDoor.O
open Go.Joins Go.ChangeShapes Go.WideShapes Go.RowKit Go.Deep Go.Proofs.YtcihleahjnpaaaaGreatDoor.P Go.Proofs.YtcihleahjnpaaaaGreatDoorW.PrintWords Go.Proofs.YtcihleahjnpaaaaGreatDoorW.PrintLast Go.Proofs.YtcihleahjnpaaaaGreatDoorW.PrintMore
set_option linter.unusedVariables false
set_option linter.unusedSimpArgs false
abbrev LV := S23
abbrev kL := k23
def lv (x : LV) : Value := .agg #[.int .i64 x.f0, .int .i64 x.f1, .string x.f2, .bool x.f3, .int .i64 x.f4]
def lcells (x : LV) : List Value := [.int .i64 x.f0, .int .i64 x.f1, .string x.f2, .bool x.f3, .int .i64 x.f4]
def i64ok (n : Int) : Prop := -9223372036854775808 ≤ n ∧ n ≤ 9223372036854775807
def lwf (x : LV) : Prop := i64ok x.f0 ∧ i64ok x.f1 ∧ x.f2.size ≤ 9223372036854775807 ∧ i64ok x.f4
theorem wf_i64 {n : Int} (h : (Lit.int .i64 n).wf = true) : i64ok n := by
  unfold i64ok
  simp [Lit.wf, show IntKind.i64.min = -9223372036854775808 from by decide, show IntKind.i64.max = 9223372036854775807 from by decide] at h
  omega
set_option maxRecDepth 100000 in
theorem fieldsL : ∃ f0 f1 f2 f3 f4 : Field, Tryz.prog.underlying 23 = some (.struct #[f0, f1, f2, f3, f4]) ∧ f0.type = 3 ∧ f1.type = 2 ∧ f2.type = 9 ∧ f3.type = 4 ∧ f4.type = 3 ∧ oneCellFields Tryz.prog #[f0, f1, f2, f3, f4] = true := by
  refine ⟨_, _, _, _, _, Tryz.underlying23, rfl, rfl, rfl, rfl, rfl, ?_⟩
  kernel_rfl
section
variable {H : Type} {enc : TypeId × Value → H} {w : World} {base : Nat} {spare : Nat → Bool} {held : Bool}
theorem choose_list {α : Type} (P : Nat → α → Prop) : ∀ n, (∀ i, i < n → ∃ x, P i x) → ∃ l : List α, l.length = n ∧ ∀ i (h : i < l.length), P i l[i]
  | 0, _ => ⟨[], rfl, fun i h => by simp at h⟩
  | n + 1, h => by
    obtain ⟨l, hl, hp⟩ := choose_list P n (fun i hi => h i (by omega))
    obtain ⟨x, hx⟩ := h n (by omega)
    refine ⟨l ++ [x], by simp [hl], fun i hi => ?_⟩
    by_cases e : i < l.length
    · rw [List.getElem_append_left e]; exact hp i e
    · have : i = n := by simp at hi; omega
      subst this
      rw [List.getElem_append_right (by omega)]
      simpa [hl] using hx
set_option maxRecDepth 100000 in
theorem open_value {r : Reach} {b0 : Nat} {v : Value} {d : DataW H} {p : List MemPlace} (hv : Value.okWide Tryz.prog w r b0 23 v) (h : DataW.Trod enc Tryz.prog w base spare held 23 v d p) :
    ∃ x : LV, v = lv x ∧ lwf x := by
  obtain ⟨f0, f1, f2, f3, f4, hs, e0, e1, e2, e3, e4, hone⟩ := fieldsL
  obtain ⟨cs, rfl, hsz⟩ := okWide_struct hs hv
  have hC : Tryz.prog.cellsOf 23 = 5 := by kernel_rfl
  obtain ⟨l⟩ := cs
  match l, hsz.trans hC with
  | [c0, c1, c2, c3, c4], _ =>
    obtain ⟨fuel, hf⟩ := h
    obtain ⟨xs, n, _, hx, _, hlen, hg⟩ := DataW.trod_struct hs hf
    obtain ⟨o0, k0⟩ := hone_of hone 0 f0 rfl
    obtain ⟨o1, k1⟩ := hone_of hone 1 f1 rfl
    obtain ⟨o2, k2⟩ := hone_of hone 2 f2 rfl
    obtain ⟨o3, k3⟩ := hone_of hone 3 f3 rfl
    obtain ⟨o4, k4⟩ := hone_of hone 4 f4 rfl
    match xs, hlen with
    | [y0, y1, y2, y3, y4], _ =>
      have g0 : DataW.trod enc Tryz.prog w base spare held n f0.type [c0] = some y0 := by simpa [Value.cells, o0, k0] using hg 0 f0 rfl
      have g1 : DataW.trod enc Tryz.prog w base spare held n f1.type [c1] = some y1 := by simpa [Value.cells, o1, k1] using hg 1 f1 rfl
      have g2 : DataW.trod enc Tryz.prog w base spare held n f2.type [c2] = some y2 := by simpa [Value.cells, o2, k2] using hg 2 f2 rfl
      have g3 : DataW.trod enc Tryz.prog w base spare held n f3.type [c3] = some y3 := by simpa [Value.cells, o3, k3] using hg 3 f3 rfl
      have g4 : DataW.trod enc Tryz.prog w base spare held n f4.type [c4] = some y4 := by simpa [Value.cells, o4, k4] using hg 4 f4 rfl
      rw [e0] at g0
      rw [e1] at g1
      rw [e2] at g2
      rw [e3] at g3
      rw [e4] at g4
      obtain ⟨n0, q0, _, w0⟩ := DataW.trod_int Tryz.underlying3 g0
      obtain ⟨n1, q1, _, w1⟩ := DataW.trod_int Tryz.underlying2 g1
      obtain ⟨s2, q2, _, w2⟩ := DataW.trod_string Tryz.underlying9 g2
      obtain ⟨b3, q3, _⟩ := DataW.trod_bool Tryz.underlying4 g3
      obtain ⟨n4, q4, _, w4⟩ := DataW.trod_int Tryz.underlying3 g4
      cases q0; cases q1; cases q2; cases q3; cases q4
      exact ⟨⟨n0, n1, s2, b3, n4⟩, rfl, wf_i64 w0, wf_i64 w1, w2, wf_i64 w4⟩
theorem open_slice_fields {P : Program} {t e : TypeId} {fs : Array Field} {fuel : Nat} {cs : List Value} {x : DataW H × List MemPlace} (ht : P.underlying t = some (.slice e)) (he : P.underlying e = some (.struct fs))
    (hone : oneCellFields P fs = true) (hC : P.cellsOf e = fs.size) (h : DataW.trod enc P w base (fun _ => true) held fuel t cs = some x) :
    cs = [.slice none 0 0] ∨
    ∃ (a : Addr) (len cap : Nat), cs = [.slice (some a) len cap] ∧ len ≤ cap ∧ cap ≤ maxLen ∧
      ∀ i, i < len → ∃ (n : Nat), ∀ (j : Nat) (f : Field), fs[j]? = some f → ∃ (v : Value) (y : DataW H × List MemPlace), w.cell? (a.add (i * fs.size + j)) = some v ∧ DataW.trod enc P w base (fun _ => true) held n f.type [v] = some y := by
  rcases open_slice ht h with h0 | ⟨a, len, cap, m, n, D, Pl, hcs, hb, hl, hm, hmm, hx, hi⟩
  · exact .inl h0.1
  · refine .inr ⟨a, len, cap, hcs, hl, hm, fun i him => ?_⟩
    obtain ⟨cs', hc, ht'⟩ := hi i (by rw [hmm]; simp; omega)
    rw [hC] at hc
    obtain ⟨ys, n', hn', hy, hlen, hyl, hf⟩ := DataW.trod_struct he ht'
    obtain ⟨_, hcl, hat⟩ := World.cells?_some hc
    refine ⟨n', fun j f hj => ?_⟩
    obtain ⟨ho, hk⟩ := hone_of hone j f hj
    have hjl : j < fs.size := (Array.getElem?_eq_some_iff.1 hj).1
    have hcell := hat j hjl
    have hv : cs'[j]? = some (cs'[j]'(by omega)) := List.getElem?_eq_getElem (by omega)
    have h1 := hf j f hj
    rw [ho, hk] at h1
    have hone' : (cs'.drop j).take 1 = [cs'[j]'(by omega)] := by
      rw [List.drop_eq_getElem_cons (by omega)]
      rfl
    rw [hone'] at h1
    have hys : ys[j]? = some (ys[j]'(by omega)) := List.getElem?_eq_getElem (by omega)
    refine ⟨_, _, ?_, h1.trans hys⟩
    rw [← Go.Deep.add_add, hcell, hv]
set_option maxRecDepth 100000 in
theorem open_vals {fuel : Nat} {cs : List Value} {x : DataW H × List MemPlace} (h : DataW.trod enc Tryz.prog w base (fun _ => true) held fuel 24 cs = some x) :
    ∃ A c, ∃ l : List LV, cs = [.slice A l.length c] ∧ l.length ≤ c ∧ c ≤ maxLen ∧ Kd.C kL w A l.length l ∧ ∀ x ∈ l, lwf x := by
  obtain ⟨f0, f1, f2, f3, f4, hs, e0, e1, e2, e3, e4, hone⟩ := fieldsL
  have hC : Tryz.prog.cellsOf 23 = (#[f0, f1, f2, f3, f4] : Array Field).size := by kernel_rfl
  rcases open_slice_fields Tryz.underlying24 hs hone hC h with rfl | ⟨a, len, cap, rfl, hl, hm, hf⟩
  · exact ⟨none, 0, [], rfl, Nat.le_refl _, by simp [maxLen], Kd.C_nil _ _, fun x hx => by simp at hx⟩
  · obtain ⟨l, hll, hP⟩ := choose_list (fun i (x : LV) => lwf x ∧ ∀ j u, (lcells x)[j]? = some u → w.cell? (a.add (i * 5 + j)) = some u) len (fun i hi => by
      obtain ⟨n, hn⟩ := hf i hi
      obtain ⟨v0, y0, c0, g0⟩ := hn 0 f0 rfl
      obtain ⟨v1, y1, c1, g1⟩ := hn 1 f1 rfl
      obtain ⟨v2, y2, c2, g2⟩ := hn 2 f2 rfl
      obtain ⟨v3, y3, c3, g3⟩ := hn 3 f3 rfl
      obtain ⟨v4, y4, c4, g4⟩ := hn 4 f4 rfl
      rw [e0] at g0
      rw [e1] at g1
      rw [e2] at g2
      rw [e3] at g3
      rw [e4] at g4
      obtain ⟨n0, q0, _, w0⟩ := DataW.trod_int Tryz.underlying3 g0
      obtain ⟨n1, q1, _, w1⟩ := DataW.trod_int Tryz.underlying2 g1
      obtain ⟨s2, q2, _, w2⟩ := DataW.trod_string Tryz.underlying9 g2
      obtain ⟨b3, q3, _⟩ := DataW.trod_bool Tryz.underlying4 g3
      obtain ⟨n4, q4, _, w4⟩ := DataW.trod_int Tryz.underlying3 g4
      cases q0; cases q1; cases q2; cases q3; cases q4
      refine ⟨⟨n0, n1, s2, b3, n4⟩, ⟨wf_i64 w0, wf_i64 w1, w2, wf_i64 w4⟩, fun j u hu => ?_⟩
      match j, hu with
      | 0, hu => cases hu; exact c0
      | 1, hu => cases hu; exact c1
      | 2, hu => cases hu; exact c2
      | 3, hu => cases hu; exact c3
      | 4, hu => cases hu; exact c4
      | j + 5, hu => simp [lcells] at hu)
    subst hll
    refine ⟨some a, cap, l, rfl, hl, hm, ⟨rfl, by unfold maxLen at hm; omega, fun _ => ⟨a, rfl, fun j p hj => ?_⟩⟩, fun x hx => ?_⟩
    · obtain ⟨hjl, rfl⟩ := List.getElem?_eq_some_iff.1 hj
      exact ⟨lcells l[j], rfl, k23_mk _ _, (hP j hjl).2⟩
    · obtain ⟨i, hi, rfl⟩ := List.mem_iff_getElem.1 hx
      exact (hP i hi).1
end
end Go.Proofs.YtcihleahjnpaaaaGreatDoor.O
namespace Go.Proofs
open Go.Shelf
def Tryz.lays160_ren : Go.Shelf.Ren := ⟨fun | 160 => 101 | 232 => 109 | 231 => 108 | 227 => 110 | 234 => 112 | 233 => 111 | 236 => 114 | 235 => 113 | 228 => 120 | 271 => 123 | 151 => 122 | 197 => 121 | 120 => 134 | 152 => 133 | 260 => 132 | 137 => 142 | 119 => 143 | 224 => 137 | 225 => 136 | 217 => 135 | 266 => 144 | n => n, fun | 9 => 9 | 4 => 4 | 3 => 3 | 5 => 5 | 117 => 162 | 116 => 161 | 0 => 0 | 124 => 165 | 21 => 21 | 105 => 168 | 46 => 174 | 119 => 185 | 139 => 188 | 138 => 187 | n => n, fun | 3 => 3 | 4 => 4 | n => n⟩
theorem Tryz.lays160 : Go.Proofs.Lays.n160 Tryz.prog Tryz.lays160_ren := {
  mixed := by kernel_rfl
  f119 := Tryz.func143.trans (congrArg some (by kernel_rfl))
  f120 := Tryz.func134.trans (congrArg some (by kernel_rfl))
  f137 := Tryz.func142.trans (congrArg some (by kernel_rfl))
  f151 := Tryz.func122.trans (congrArg some (by kernel_rfl))
  f152 := Tryz.func133.trans (congrArg some (by kernel_rfl))
  f160 := Tryz.func101.trans (congrArg some (by kernel_rfl))
  f197 := Tryz.func121.trans (congrArg some (by kernel_rfl))
  f217 := Tryz.func135.trans (congrArg some (by kernel_rfl))
  f224 := Tryz.func137.trans (congrArg some (by kernel_rfl))
  f225 := Tryz.func136.trans (congrArg some (by kernel_rfl))
  f227 := Tryz.func110.trans (congrArg some (by kernel_rfl))
  f228 := Tryz.func120.trans (congrArg some (by kernel_rfl))
  f231 := Tryz.func108.trans (congrArg some (by kernel_rfl))
  f232 := Tryz.func109.trans (congrArg some (by kernel_rfl))
  f233 := Tryz.func111.trans (congrArg some (by kernel_rfl))
  f234 := Tryz.func112.trans (congrArg some (by kernel_rfl))
  f235 := Tryz.func113.trans (congrArg some (by kernel_rfl))
  f236 := Tryz.func114.trans (congrArg some (by kernel_rfl))
  f260 := Tryz.func132.trans (congrArg some (by kernel_rfl))
  f266 := Tryz.func144.trans (congrArg some (by kernel_rfl))
  f271 := Tryz.func123.trans (congrArg some (by kernel_rfl))
  t0 := Tryz.underlying0
  a0 := Tryz.isAgg0
  z0 := Tryz.sizeOf0
  v0 := Tryz.zeroValue0
  t3 := Tryz.underlying3
  a3 := Tryz.isAgg3
  z3 := Tryz.sizeOf3
  v3 := Tryz.zeroValue3
  t4 := Tryz.underlying4
  a4 := Tryz.isAgg4
  z4 := Tryz.sizeOf4
  v4 := Tryz.zeroValue4
  t5 := Tryz.underlying5
  a5 := Tryz.isAgg5
  z5 := Tryz.sizeOf5
  v5 := Tryz.zeroValue5
  t9 := Tryz.underlying9
  a9 := Tryz.isAgg9
  z9 := Tryz.sizeOf9
  v9 := Tryz.zeroValue9
  t21 := Tryz.underlying21
  a21 := Tryz.isAgg21
  z21 := Tryz.sizeOf21
  v21 := Tryz.zeroValue21
  t46 := Tryz.underlying174
  a46 := Tryz.isAgg174
  z46 := Tryz.sizeOf174
  v46 := Tryz.zeroValue174
  t105 := Tryz.underlying168
  a105 := Tryz.isAgg168
  z105 := Tryz.sizeOf168
  v105 := Tryz.zeroValue168
  t116 := Tryz.underlying161
  a116 := Tryz.isAgg161
  z116 := Tryz.sizeOf161
  t117 := Tryz.underlying162
  a117 := Tryz.isAgg162
  z117 := Tryz.sizeOf162
  v117 := Tryz.zeroValue162
  t119 := Tryz.underlying185
  a119 := Tryz.isAgg185
  z119 := Tryz.sizeOf185
  t124 := Tryz.underlying165
  a124 := Tryz.isAgg165
  z124 := Tryz.sizeOf165
  v124 := Tryz.zeroValue165
  t138 := Tryz.underlying187
  a138 := Tryz.isAgg187
  z138 := Tryz.sizeOf187
  v138 := Tryz.zeroValue187
  t139 := Tryz.underlying188
  a139 := Tryz.isAgg188
  z139 := Tryz.sizeOf188
  v139 := Tryz.zeroValue188
  g3 := by kernel_rfl
  g4 := by kernel_rfl }
open Go.RowKit in
theorem Tryz.strings_Trim_one (s : ByteArray) (c : UInt8) (hc : c.toNat < 128) (w : World) (hs : s.size ≤ 9223372036854775807) :
    Calls Tryz.prog 101 #[.string s, .string ⟨#[c]⟩] w fun e w' => e = .returned (.string ⟨(Lib.trimB s.data.toList c).toArray⟩) ∧ (w' = w ∨ w' = w.drew) := Any.strings_Trim_one Tryz.lays160 s c hc w hs
def Tryz.lays103_ren : Go.Shelf.Ren := ⟨fun | 103 => 104 | 210 => 116 | 206 => 124 | n => n, fun | 9 => 9 | 4 => 4 | 24 => 150 | 3 => 3 | n => n, fun | n => n⟩
theorem Tryz.lays103 : Go.Proofs.Lays.n103 Tryz.prog Tryz.lays103_ren := {
  mixed := by kernel_rfl
  f103 := Tryz.func104.trans (congrArg some (by kernel_rfl))
  f206 := Tryz.func124.trans (congrArg some (by kernel_rfl))
  f210 := Tryz.func116.trans (congrArg some (by kernel_rfl))
  t3 := Tryz.underlying3
  a3 := Tryz.isAgg3
  z3 := Tryz.sizeOf3
  v3 := Tryz.zeroValue3
  t4 := Tryz.underlying4
  a4 := Tryz.isAgg4
  z4 := Tryz.sizeOf4
  v4 := Tryz.zeroValue4
  t9 := Tryz.underlying9
  a9 := Tryz.isAgg9
  z9 := Tryz.sizeOf9
  v9 := Tryz.zeroValue9
  t24 := Tryz.underlying150
  a24 := Tryz.isAgg150
  z24 := Tryz.sizeOf150
  v24 := Tryz.zeroValue150 }
open Go.RowKit in
theorem Tryz.strings_CutPrefix (s p : ByteArray) (w : World) :
    Calls Tryz.prog 104 #[.string s, .string p] w fun e w' => e = .returned (.tuple #[.string ⟨(Lib.trimPrefix s.data.toList p.data.toList).toArray⟩, .bool (Lib.hasPrefix s.data.toList p.data.toList)]) ∧ w' = w := Any.strings_CutPrefix Tryz.lays103 s p w
def Tryz.laysPu14_ren : Go.Shelf.Ren := ⟨fun | 14 => 107 | 16 => 118 | 17 => 119 | 19 => 126 | 20 => 127 | 21 => 128 | 22 => 129 | 23 => 130 | 24 => 131 | 25 => 139 | 27 => 141 | 26 => 140 | 28 => 146 | 29 => 147 | 30 => 148 | 31 => 149 | 32 => 150 | 33 => 151 | 35 => 153 | 34 => 152 | 36 => 154 | 37 => 155 | 38 => 156 | 39 => 157 | 40 => 158 | n => n, fun | 9 => 9 | 3 => 3 | 22 => 154 | 24 => 156 | 25 => 157 | 4 => 4 | 34 => 172 | 5 => 5 | 36 => 174 | 37 => 121 | 0 => 0 | 39 => 175 | 21 => 21 | 44 => 182 | 47 => 193 | 50 => 196 | 48 => 194 | 2 => 2 | 52 => 198 | 55 => 201 | 59 => 203 | 60 => 190 | 20 => 20 | 61 => 204 | 65 => 208 | 66 => 209 | 67 => 210 | n => n, fun | 0 => 1 | 1 => 2 | 2 => 5 | 3 => 6 | 4 => 7 | n => n⟩
theorem Tryz.laysPu14 : Go.Proofs.LaysPu.n14 Tryz.prog Tryz.laysPu14_ren := {
  mixed := by kernel_rfl
  f14 := Tryz.func107.trans (congrArg some (by kernel_rfl))
  f16 := Tryz.func118.trans (congrArg some (by kernel_rfl))
  f17 := Tryz.func119.trans (congrArg some (by kernel_rfl))
  f19 := Tryz.func126.trans (congrArg some (by kernel_rfl))
  f20 := Tryz.func127.trans (congrArg some (by kernel_rfl))
  f21 := Tryz.func128.trans (congrArg some (by kernel_rfl))
  f22 := Tryz.func129.trans (congrArg some (by kernel_rfl))
  f23 := Tryz.func130.trans (congrArg some (by kernel_rfl))
  f24 := Tryz.func131.trans (congrArg some (by kernel_rfl))
  f25 := Tryz.func139.trans (congrArg some (by kernel_rfl))
  f26 := Tryz.func140.trans (congrArg some (by kernel_rfl))
  f27 := Tryz.func141.trans (congrArg some (by kernel_rfl))
  f28 := Tryz.func146.trans (congrArg some (by kernel_rfl))
  f29 := Tryz.func147.trans (congrArg some (by kernel_rfl))
  f30 := Tryz.func148.trans (congrArg some (by kernel_rfl))
  f31 := Tryz.func149.trans (congrArg some (by kernel_rfl))
  f32 := Tryz.func150.trans (congrArg some (by kernel_rfl))
  f33 := Tryz.func151.trans (congrArg some (by kernel_rfl))
  f34 := Tryz.func152.trans (congrArg some (by kernel_rfl))
  f35 := Tryz.func153.trans (congrArg some (by kernel_rfl))
  f36 := Tryz.func154.trans (congrArg some (by kernel_rfl))
  f37 := Tryz.func155.trans (congrArg some (by kernel_rfl))
  f38 := Tryz.func156.trans (congrArg some (by kernel_rfl))
  f39 := Tryz.func157.trans (congrArg some (by kernel_rfl))
  f40 := Tryz.func158.trans (congrArg some (by kernel_rfl))
  t0 := Tryz.underlying0
  a0 := Tryz.isAgg0
  z0 := Tryz.sizeOf0
  v0 := Tryz.zeroValue0
  i0 := by kernel_rfl
  t2 := Tryz.underlying2
  a2 := Tryz.isAgg2
  z2 := Tryz.sizeOf2
  v2 := Tryz.zeroValue2
  i2 := by kernel_rfl
  t3 := Tryz.underlying3
  a3 := Tryz.isAgg3
  z3 := Tryz.sizeOf3
  v3 := Tryz.zeroValue3
  i3 := by kernel_rfl
  t4 := Tryz.underlying4
  a4 := Tryz.isAgg4
  z4 := Tryz.sizeOf4
  v4 := Tryz.zeroValue4
  i4 := by kernel_rfl
  t5 := Tryz.underlying5
  a5 := Tryz.isAgg5
  z5 := Tryz.sizeOf5
  v5 := Tryz.zeroValue5
  i5 := by kernel_rfl
  t9 := Tryz.underlying9
  a9 := Tryz.isAgg9
  z9 := Tryz.sizeOf9
  v9 := Tryz.zeroValue9
  i9 := by kernel_rfl
  t20 := Tryz.underlying20
  a20 := Tryz.isAgg20
  z20 := Tryz.sizeOf20
  v20 := Tryz.zeroValue20
  i20 := by kernel_rfl
  t21 := Tryz.underlying21
  a21 := Tryz.isAgg21
  z21 := Tryz.sizeOf21
  v21 := Tryz.zeroValue21
  i21 := by kernel_rfl
  t22 := Tryz.underlying154
  a22 := Tryz.isAgg154
  z22 := Tryz.sizeOf154
  v22 := Tryz.zeroValue154
  i22 := by kernel_rfl
  t24 := Tryz.underlying156
  a24 := Tryz.isAgg156
  z24 := Tryz.sizeOf156
  v24 := Tryz.zeroValue156
  i24 := by kernel_rfl
  t25 := Tryz.underlying157
  a25 := Tryz.isAgg157
  z25 := Tryz.sizeOf157
  v25 := Tryz.zeroValue157
  i25 := by kernel_rfl
  t34 := Tryz.underlying172
  a34 := Tryz.isAgg172
  z34 := Tryz.sizeOf172
  v34 := Tryz.zeroValue172
  i34 := by kernel_rfl
  c34 := by kernel_rfl
  t36 := Tryz.underlying174
  a36 := Tryz.isAgg174
  z36 := Tryz.sizeOf174
  v36 := Tryz.zeroValue174
  i36 := by kernel_rfl
  t37 := Tryz.underlying121
  a37 := Tryz.isAgg121
  z37 := Tryz.sizeOf121
  v37 := Tryz.zeroValue121
  i37 := by kernel_rfl
  t39 := Tryz.underlying175
  a39 := Tryz.isAgg175
  z39 := Tryz.sizeOf175
  v39 := Tryz.zeroValue175
  i39 := by kernel_rfl
  t44 := Tryz.underlying182
  a44 := Tryz.isAgg182
  z44 := Tryz.sizeOf182
  v44 := Tryz.zeroValue182
  i44 := by kernel_rfl
  t47 := Tryz.underlying193
  a47 := Tryz.isAgg193
  z47 := Tryz.sizeOf193
  v47 := Tryz.zeroValue193
  i47 := by kernel_rfl
  t48 := Tryz.underlying194
  a48 := Tryz.isAgg194
  z48 := Tryz.sizeOf194
  v48 := Tryz.zeroValue194
  i48 := by kernel_rfl
  t50 := Tryz.underlying196
  a50 := Tryz.isAgg196
  z50 := Tryz.sizeOf196
  v50 := Tryz.zeroValue196
  i50 := by kernel_rfl
  t52 := Tryz.underlying198
  a52 := Tryz.isAgg198
  z52 := Tryz.sizeOf198
  v52 := Tryz.zeroValue198
  i52 := by kernel_rfl
  t55 := Tryz.underlying201
  a55 := Tryz.isAgg201
  z55 := Tryz.sizeOf201
  v55 := Tryz.zeroValue201
  i55 := by kernel_rfl
  t59 := Tryz.underlying203
  a59 := Tryz.isAgg203
  z59 := Tryz.sizeOf203
  v59 := Tryz.zeroValue203
  i59 := by kernel_rfl
  t60 := Tryz.underlying190
  a60 := Tryz.isAgg190
  z60 := Tryz.sizeOf190
  v60 := Tryz.zeroValue190
  i60 := by kernel_rfl
  t61 := Tryz.underlying204
  a61 := Tryz.isAgg204
  z61 := Tryz.sizeOf204
  t65 := Tryz.underlying208
  a65 := Tryz.isAgg208
  z65 := Tryz.sizeOf208
  v65 := Tryz.zeroValue208
  i65 := by kernel_rfl
  t66 := Tryz.underlying209
  a66 := Tryz.isAgg209
  z66 := Tryz.sizeOf209
  v66 := Tryz.zeroValue209
  i66 := by kernel_rfl
  t67 := Tryz.underlying210
  a67 := Tryz.isAgg210
  z67 := Tryz.sizeOf210
  v67 := Tryz.zeroValue210
  i67 := by kernel_rfl
  g0 := by kernel_rfl
  m0 := by kernel_rfl
  g1 := by kernel_rfl
  m1 := by kernel_rfl
  g2 := by kernel_rfl
  m2 := by kernel_rfl
  g3 := by kernel_rfl
  m3 := by kernel_rfl
  g4 := by kernel_rfl
  m4 := by kernel_rfl }
open Go.RowKit in
theorem Tryz.strconv_ParseUint_10_at64_ok (s : ByteArray) (hmax : s.size ≤ 9223372036854775806) (u : Nat) (h : Lib.parseUintB 64 s.data.toList = .ok u) (w : World) :
    Calls Tryz.prog 107 #[.string s, .int .i64 10, .int .i64 64] w fun e w' => e = .returned (.tuple #[.int .u64 u, .nilIface]) ∧ (w' = w ∨ w' = Lib.bytesWorld w 5 s) := Any.strconv_ParseUint_10_at64_ok Tryz.laysPu14 s hmax u h w
def Tryz.lays219_ren : Go.Shelf.Ren := ⟨fun | 219 => 125 | 217 => 135 | 225 => 136 | 224 => 137 | 267 => 138 | 266 => 144 | 314 => 145 | n => n, fun | 9 => 9 | 3 => 3 | 4 => 4 | 5 => 5 | 46 => 174 | 146 => 191 | 51 => 190 | n => n, fun | 1 => 0 | n => n⟩
theorem Tryz.lays219 : Go.Proofs.Lays.n219 Tryz.prog Tryz.lays219_ren := {
  mixed := by kernel_rfl
  f217 := Tryz.func135.trans (congrArg some (by kernel_rfl))
  f219 := Tryz.func125.trans (congrArg some (by kernel_rfl))
  f224 := Tryz.func137.trans (congrArg some (by kernel_rfl))
  f225 := Tryz.func136.trans (congrArg some (by kernel_rfl))
  f266 := Tryz.func144.trans (congrArg some (by kernel_rfl))
  f267 := Tryz.func138.trans (congrArg some (by kernel_rfl))
  f314 := Tryz.func145.trans (congrArg some (by kernel_rfl))
  t3 := Tryz.underlying3
  a3 := Tryz.isAgg3
  z3 := Tryz.sizeOf3
  v3 := Tryz.zeroValue3
  t4 := Tryz.underlying4
  a4 := Tryz.isAgg4
  z4 := Tryz.sizeOf4
  v4 := Tryz.zeroValue4
  t5 := Tryz.underlying5
  a5 := Tryz.isAgg5
  z5 := Tryz.sizeOf5
  v5 := Tryz.zeroValue5
  t9 := Tryz.underlying9
  a9 := Tryz.isAgg9
  z9 := Tryz.sizeOf9
  v9 := Tryz.zeroValue9
  t46 := Tryz.underlying174
  a46 := Tryz.isAgg174
  z46 := Tryz.sizeOf174
  v46 := Tryz.zeroValue174
  t51 := Tryz.underlying190
  a51 := Tryz.isAgg190
  z51 := Tryz.sizeOf190
  v51 := Tryz.zeroValue190
  t146 := Tryz.underlying191
  a146 := Tryz.isAgg191
  z146 := Tryz.sizeOf191
  v146 := Tryz.zeroValue191
  g1 := by kernel_rfl }
open Go.RowKit Go.Lib in
theorem Tryz.stringslite_Index_one (s : ByteArray) (c : UInt8) (w : World) :
    Calls Tryz.prog 125 #[.string s, .string ⟨#[c]⟩] w fun e w' => e = .returned (.int .i64 (Lib.indexByte s.data.toList c)) ∧ w' = w := Any.stringslite_Index_one Tryz.lays219 s c w
end Go.Proofs
namespace Go.Proofs.YtcihleahjnpaaaaGreatDoor.H
open Go.RowKit Go.Proofs.YtcihleahjnpaaaaGreatDoorW.PrintWords Go.Proofs.YtcihleahjnpaaaaGreatDoorW.PrintLast Go.Proofs.YtcihleahjnpaaaaGreatDoorW.PrintMore Go.Proofs.YtcihleahjnpaaaaGreatDoor.T
def strL (l : List UInt8) : ByteArray := ⟨l.toArray⟩
theorem str_self (s : ByteArray) : strL s.data.toList = s := by unfold strL; simp
theorem size_str (l : List UInt8) : (strL l).size = l.length := Lib.size_mk l
theorem toList_str (l : List UInt8) : (strL l).toList = l := by rw [ByteArray.toList_eq]; simp [strL]
theorem data_str (l : List UInt8) : (strL l).data.toList = l := by simp [strL]
theorem cut_yes (s : ByteArray) (h : hasB 46 s.data.toList = true) : ∃ k : Nat, Lib.indexByte s.data.toList 46 = (k : Int) ∧ k < s.size ∧ s.extract 0 k = strL (aheadB 46 s.data.toList) ∧ s.extract (k + 1) s.size = strL (behindB 46 s.data.toList) := by
  obtain ⟨h1, h2⟩ := index_yes 46 _ h
  have hl : s.data.toList.length = s.size := by simp
  have hk : (aheadB 46 s.data.toList).length < s.size := by have := congrArg List.length h2; rw [hl, List.length_append, List.length_cons] at this; omega
  refine ⟨_, h1, hk, ?_, ?_⟩
  · rw [Lib.extract_upto]
    generalize aheadB 46 s.data.toList = A at *
    rw [h2]
    unfold strL
    simp
  · rw [Lib.extract_from]
    generalize aheadB 46 s.data.toList = A at *
    generalize behindB 46 s.data.toList = B at *
    rw [h2]
    unfold strL
    simp
set_option maxHeartbeats 1000000 in
set_option maxRecDepth 100000 in
theorem slcut_any (s : ByteArray) (w : World) (hs : s.size ≤ 9223372036854775806) :
    Calls Tryz.prog 117 #[.string s, .string ⟨#[46]⟩] w fun e w' => e = .returned (.tuple #[.string (strL (aheadB 46 s.data.toList)), .string (strL (behindB 46 s.data.toList)), .bool (hasB 46 s.data.toList)]) ∧ ∃ n, w' = w.drewN n := by
  cases hq : hasB 46 s.data.toList with
  | true =>
    obtain ⟨k, h1, hk, h2, h3⟩ := cut_yes s hq
    have hc := Tryz.stringslite_Index_one s 46 w
    rw [h1] at hc
    have H2 := Lib.hid h2
    have H3 := Lib.hid h3
    clear h1 h2 h3 hq
    have hk0 : (0 : Int) ≤ (k : Int) := by omega
    go_enter Tryz.func117, Tryz.ntmps117
    go_wp2_with (go_at_call 125; refine hc.mono ?_; rintro e w' ⟨rfl, rfl⟩)
    go_quiet (fail)
    go_wp2
    go_ret3
    exact ⟨by rw [H2.out, H3.out]; first | done | rfl, _, rfl⟩
  | false =>
    obtain ⟨h1, h2, h3⟩ := index_no 46 _ hq
    rw [h2, h3]
    have hc := Tryz.stringslite_Index_one s 46 w
    rw [h1] at hc
    clear h1 h2 h3 hq
    go_enter Tryz.func117, Tryz.ntmps117
    go_wp2_with (go_at_call 125; refine hc.mono ?_; rintro e w' ⟨rfl, rfl⟩)
    go_ret3
    exact ⟨by rw [str_self]; rfl, 0, rfl⟩
set_option maxRecDepth 100000 in
theorem cut_any (s : ByteArray) (w : World) (hs : s.size ≤ 9223372036854775806) :
    Calls Tryz.prog 105 #[.string s, .string ⟨#[46]⟩] w fun e w' => e = .returned (.tuple #[.string (strL (aheadB 46 s.data.toList)), .string (strL (behindB 46 s.data.toList)), .bool (hasB 46 s.data.toList)]) ∧ Below w.heap.size w w' := by
  have hc := slcut_any s w hs
  go_enter Tryz.func105, Tryz.ntmps105
  go_wp2_with (go_at_call 117; refine hc.mono ?_; rintro e w' ⟨rfl, n, rfl⟩)
  go_ret3
  exact ⟨rfl, pw_below_drewN (Below.refl _ _) _⟩
set_option maxHeartbeats 1000000 in
set_option maxRecDepth 100000 in
theorem run_any (l : List UInt8) (w : World) (hs : l.length ≤ 9223372036854775806) :
    Calls Tryz.prog 106 #[.string (strL l)] w fun e w' => e = .returned (.bool (runS l)) ∧ Below w.heap.size w w' := by
  have hz := size_str l
  by_cases h1 : 1 ≤ l.length
  · by_cases h2 : l.length ≤ 18
    · have hr : runS l = l.all isDig := by unfold runS; rw [decide_eq_true h1, decide_eq_true h2]; simp
      have hc := Any.strings_Trim_laid Tryz.lays160 (by kernel_rfl) (strL l) ⟨#[48, 49, 50, 51, 52, 53, 54, 55, 56, 57]⟩ w (by rw [hz]; omega) (by decide) (ascii_of_all (by decide))
      have he : (Lib.trimS (strL l).data.toList [48, 49, 50, 51, 52, 53, 54, 55, 56, 57]).isEmpty = l.all isDig := trim_empty l
      have hc2 : Calls Tryz.prog 101 #[.string (strL l), .string ⟨#[48, 49, 50, 51, 52, 53, 54, 55, 56, 57]⟩] w fun e w' => e = .returned (.string (strL (Lib.trimS (strL l).data.toList [48, 49, 50, 51, 52, 53, 54, 55, 56, 57]))) ∧ Below w.heap.size w w' := hc
      clear hc
      generalize Lib.trimS (strL l).data.toList [48, 49, 50, 51, 52, 53, 54, 55, 56, 57] = q at he hc2
      rw [hr]
      have e1 : decide ((1 : Int) ≤ ((strL l).size : Int)) = true := by rw [hz]; simp; omega
      have e2 : decide (((strL l).size : Int) ≤ 18) = true := by rw [hz]; simp; omega
      have HE := Lib.hid he
      have HZ := Lib.hid hz
      clear he hr hz
      have b1 : 1 ≤ (strL l).size := by rw [HZ.out]; exact h1
      have b2 : (strL l).size ≤ 18 := by rw [HZ.out]; exact h2
      generalize strL l = s at *
      go_enter Tryz.func106, Tryz.ntmps106
      go_wp2_with (go_at_call 101; refine hc2.mono ?_; rintro e w' ⟨rfl, hb⟩)
      go_ret
      refine ⟨?_, hb⟩
      show Ending.returned (.bool (strL q).toList.isEmpty) = _
      rw [toList_str, HE.out]
    · have hr : runS l = false := by unfold runS; rw [decide_eq_false h2]; simp
      have HZ := Lib.hid hz
      rw [hr]
      have b1 : 1 ≤ (strL l).size := by rw [HZ.out]; exact h1
      have b2 : ¬ (strL l).size ≤ 18 := by rw [HZ.out]; exact h2
      clear hr hz
      generalize strL l = s at *
      have e1 : decide ((1 : Int) ≤ (s.size : Int)) = true := by simp; omega
      have e2 : decide ((s.size : Int) ≤ 18) = false := by simp; omega
      go_enter Tryz.func106, Tryz.ntmps106
      go_wp2_with (fail)
      go_ret
      exact ⟨rfl, Below.refl _ _⟩
  · have hr : runS l = false := by unfold runS; rw [decide_eq_false h1]; simp
    have HZ := Lib.hid hz
    rw [hr]
    have b1 : ¬ 1 ≤ (strL l).size := by rw [HZ.out]; exact h1
    clear hr hz
    generalize strL l = s at *
    have e1 : decide ((1 : Int) ≤ (s.size : Int)) = false := by simp; omega
    go_enter Tryz.func106, Tryz.ntmps106
    go_wp2_with (fail)
    go_ret
    exact ⟨rfl, Below.refl _ _⟩
theorem runS_true {l : List UInt8} (h : runS l = true) : 1 ≤ l.length ∧ l.length ≤ 18 ∧ l.all isDig = true := by
  unfold runS at h; simpa [-List.all_eq_true] using h
theorem parseU_any (l : List UInt8) (w : World) (h : l.all isDig = true) (h0 : l ≠ []) (h1 : l.length ≤ 18) :
    Calls Tryz.prog 107 #[.string (strL l), .int .i64 10, .int .i64 64] w fun e w' => e = .returned (.tuple #[.int .u64 (numOf 0 l : Nat), .nilIface]) ∧ Below w.heap.size w w' := by
  refine (Tryz.strconv_ParseUint_10_at64_ok (strL l) (by rw [size_str]; omega) (numOf 0 l) (parse_ok l h h0 h1) w).mono ?_
  rintro e w' ⟨he, rfl | rfl⟩
  · exact ⟨he, Below.refl _ _⟩
  · exact ⟨he, B_bytes _ _ _⟩
theorem numOf_small {l : List UInt8} (h : l.all isDig = true) (h1 : l.length ≤ 18) : numOf 0 l < 10 ^ 18 := by
  have h2 := numOf_lt l h 0
  have h3 := pow10_le h1
  rw [Nat.zero_add, Nat.one_mul] at h2
  omega
theorem pre_bare (l : List UInt8) : Lib.trimPrefix l [45] = bare l ∧ Lib.hasPrefix l [45] = (l.head? == some 45) := by
  unfold Lib.trimPrefix Lib.hasPrefix bare
  cases l with
  | nil => simp [List.isPrefixOf]
  | cons b r =>
    by_cases e : b = 45
    · subst e; simp [List.isPrefixOf]
    · have e2 : ¬ 45 = b := fun h => e h.symm
      simp [List.isPrefixOf, e, e2]
      rw [beq_eq_false_iff_ne.2 e2, beq_eq_false_iff_ne.2 e]
set_option maxHeartbeats 2000000 in
set_option maxRecDepth 100000 in
theorem parse_any (s : ByteArray) (w0 : World) (hs : s.size ≤ 9223372036854775806) :
    Calls Tryz.prog 100 #[.string s] w0 fun e w' => e = .returned (.tuple #[.int .i64 (readS s.data.toList).1, .int .i64 (readS s.data.toList).2]) ∧ Below w0.heap.size w0 w' := by
  have hp := Tryz.strings_CutPrefix s ⟨#[45]⟩ w0
  obtain ⟨p1, p2⟩ := pre_bare s.data.toList
  have hp2 : Calls Tryz.prog 104 #[.string s, .string ⟨#[45]⟩] w0 fun e w' => e = .returned (.tuple #[.string (strL (bare s.data.toList)), .bool ((s.data.toList.head? == some 45))]) ∧ w0 = w' := by rw [← p1, ← p2]; exact hp.mono fun _ _ h => ⟨h.1, h.2.symm⟩
  clear hp p1 p2
  have hbl : (bare s.data.toList).length ≤ 9223372036854775806 := by
    have : s.data.toList.length = s.size := by simp
    unfold bare; split
    · rw [List.length_tail]; omega
    · omega
  have hc := fun W => cut_any (strL (bare s.data.toList)) W (by rw [size_str]; exact hbl)
  simp only [data_str] at hc
  have hrd : ∃ r, r = readS s.data.toList := ⟨_, rfl⟩
  obtain ⟨⟨r1, r2⟩, hr⟩ := hrd
  rw [← hr]
  unfold readS at hr
  simp only at hr
  have haL : (aheadB 46 (bare s.data.toList)).length ≤ 9223372036854775806 := Nat.le_trans (List.takeWhile_sublist _).length_le hbl
  have hbL : (behindB 46 (bare s.data.toList)).length ≤ 9223372036854775806 := by
    unfold behindB; rw [List.length_tail]
    have := (List.dropWhile_sublist (fun x => x != 46) (l := bare s.data.toList)).length_le
    omega
  have hpt : hasB 46 (bare s.data.toList) = false → behindB 46 (bare s.data.toList) = [] := fun h => (index_no 46 _ h).2.2
  generalize (s.data.toList.head? == some 45) = ng at *
  generalize strL (bare s.data.toList) = tt at *
  generalize aheadB 46 (bare s.data.toList) = W at *
  generalize behindB 46 (bare s.data.toList) = P at *
  generalize hasB 46 (bare s.data.toList) = pt at *
  have hrW := fun w => run_any W w haL
  have hrP := fun w => run_any P w hbL
  clear hbl
  have R := Lib.hid hr
  clear hr
  by_cases hW : runS W = true
  · obtain ⟨w1, w2, w3⟩ := runS_true hW
    rw [hW] at hrW
    by_cases hpP : pt = true ∧ runS P = false
    · have h2 : (r1, r2) = (0, 4) := by rw [R.out, if_pos (.inr hpP)]
      cases h2
      obtain ⟨rfl, hP⟩ := hpP
      rw [hP] at hrP
      clear R
      go_enter Tryz.func100, Tryz.ntmps100
      go_wp2_with (first | (go_at_call 104; refine hp2.mono ?_; rintro e wa ⟨rfl, rfl⟩) | (go_at_call 105; refine (hc _).mono ?_; rintro e wb ⟨rfl, hb1⟩) | fail)
      refine (hrW _).mono ?_
      rintro e wc ⟨rfl, hb2⟩
      go_wp2_with (fail)
      refine (hrP _).mono ?_
      rintro e wd ⟨rfl, hb3⟩
      go_wp2
      go_ret2
      exact ⟨rfl, below_step (below_step hb1 hb2) hb3⟩
    · have hn0 : numOf 0 W < 10 ^ 18 := numOf_small w3 w2
      have hW0 : W ≠ [] := by intro e; subst e; simp at w1
      have h5 : ((P ++ [48, 48, 48, 48, 48]).take 5).all isDig = true ∧ ((P ++ [48, 48, 48, 48, 48]).take 5).length = 5 := by
        have hpd : P.all isDig = true := by
          cases hq : pt with
          | false => rw [hpt hq]; rfl
          | true =>
            have : runS P = true := by cases hz : runS P with
              | true => rfl
              | false => exact absurd ⟨hq, hz⟩ hpP
            exact (runS_true this).2.2
        refine ⟨List.all_eq_true.2 fun x hx => ?_, by rw [List.length_take, List.length_append]; simp⟩
        have h1 := List.mem_of_mem_take hx
        rw [List.mem_append] at h1
        rcases h1 with h1 | h1
        · exact List.all_eq_true.1 hpd x h1
        · exact List.all_eq_true.1 (show ([48, 48, 48, 48, 48] : List UInt8).all isDig = true by decide) x h1
      have hcat : (strL P ++ ⟨#[48, 48, 48, 48, 48]⟩ : ByteArray) = strL (P ++ [48, 48, 48, 48, 48]) := by
        apply ByteArray.ext; unfold strL; simp
      have hfour : four P = (numOf 0 ((P ++ [48, 48, 48, 48, 48]).take 5) + 5) / 10 := rfl
      have hm0 : numOf 0 ((P ++ [48, 48, 48, 48, 48]).take 5) < 10 ^ 5 := by have := numOf_lt _ h5.1 0; rw [h5.2] at this; omega
      have hlen : (P ++ [48, 48, 48, 48, 48] : List UInt8).length = P.length + 5 := by simp
      cases hq : pt with
      | false =>
        obtain rfl : P = [] := hpt hq
        subst hq
        have h51 := h5.1
        have h52 := h5.2
        have h55 : (([] ++ [48, 48, 48, 48, 48] : List UInt8).take 5).length ≤ 18 := by decide
        have h56 : ([] ++ [48, 48, 48, 48, 48] : List UInt8).take 5 ≠ [] := by decide
        have hE5 : (strL ([] ++ [48, 48, 48, 48, 48])).extract 0 5 = strL (([] ++ [48, 48, 48, 48, 48] : List UInt8).take 5) := by rw [Lib.extract_upto, data_str]; rfl
        have hZ5 : 5 ≤ (strL ([] ++ [48, 48, 48, 48, 48])).size := by rw [size_str, hlen]; omega
        have hZ6 : (strL ([] ++ [48, 48, 48, 48, 48])).size ≤ 23 := by rw [size_str, hlen]; simp
        have hPs : (strL []).size ≤ 18 := by rw [size_str]; simp
        clear hrP hbL
        clear h5 h52 hpP hlen hpt
        generalize ([] ++ [48, 48, 48, 48, 48] : List UInt8).take 5 = F at *
        generalize strL ([] ++ [48, 48, 48, 48, 48]) = C at *
        generalize hPP : strL [] = PP at *
        clear hPP
        go_enter Tryz.func100, Tryz.ntmps100
        go_wp2_with (first | (go_at_call 104; refine hp2.mono ?_; rintro e wa ⟨rfl, rfl⟩) | (go_at_call 105; refine (hc _).mono ?_; rintro e wb ⟨rfl, hb1⟩) | fail)
        refine (hrW _).mono ?_
        rintro e wc ⟨rfl, hb2⟩
        go_wp2_with (fail)
        refine (parseU_any W _ w3 hW0 w2).mono ?_
        rintro e we ⟨rfl, hb4⟩
        go_wp2_with (fail)
        refine (parseU_any F _ h51 h56 h55).mono ?_
        rintro e wf ⟨rfl, hb5⟩
        have hB : Below w0.heap.size w0 wf := below_step (below_step (below_step hb1 hb2) hb4) hb5
        clear hc hrW hp2 hb1 hb2 hb4 hb5 hcat hE5 hZ5 hZ6 hPs
        have R2 : Hid ((r1, r2) = if numOf 0 W > 900000000000000 ∨ numOf 0 W * 10000 + (numOf 0 F + 5) / 10 > 9000000000000000000 then (0, 5) else if ng = true then (-((numOf 0 W * 10000 + (numOf 0 F + 5) / 10 : Nat) : Int), 0) else (((numOf 0 W * 10000 + (numOf 0 F + 5) / 10 : Nat) : Int), 0)) := by
          rw [← hfour]; exact R.out.trans (if_neg (by rw [hW]; simp))
        clear R hfour
        generalize numOf 0 W = n at *
        generalize numOf 0 F = m at *
        by_cases g1 : n > 900000000000000
        · have h2 : (r1, r2) = (0, 5) := by rw [R2.out, if_pos (.inl g1)]
          cases h2
          clear R2
          go_wp2
          go_ret2
          exact ⟨rfl, hB⟩
        · by_cases g2 : n * 10000 + (m + 5) / 10 > 9000000000000000000
          · have h2 : (r1, r2) = (0, 5) := by rw [R2.out, if_pos (.inr g2)]
            cases h2
            clear R2
            go_wp2
            go_ret2
            exact ⟨rfl, hB⟩
          · have hR := R2.out
            rw [if_neg (by omega)] at hR
            have HR := Lib.hid hR
            clear R2 hR
            cases ng with
            | false =>
              go_wp2
              go_ret2
              exact ⟨by have h2 := HR.out; rw [if_neg (by simp)] at h2; cases h2; simp, hB⟩
            | true =>
              go_wp2
              go_ret2
              exact ⟨by have h2 := HR.out; rw [if_pos (by trivial)] at h2; cases h2; simp, hB⟩
      | true =>
        have hP : runS P = true := by cases hz : runS P with
          | true => rfl
          | false => exact absurd ⟨hq, hz⟩ hpP
        subst hq
        rw [hP] at hrP
        have h51 := h5.1
        have h52 := h5.2
        have H5 := Lib.hid h52
        have h55 : ((P ++ [48, 48, 48, 48, 48]).take 5).length ≤ 18 := by omega
        have h56 : (P ++ [48, 48, 48, 48, 48]).take 5 ≠ [] := by intro e; rw [e] at h52; simp at h52
        have hE5 : (strL (P ++ [48, 48, 48, 48, 48])).extract 0 5 = strL ((P ++ [48, 48, 48, 48, 48]).take 5) := by rw [Lib.extract_upto, data_str]; rfl
        have hZ5 : 5 ≤ (strL (P ++ [48, 48, 48, 48, 48])).size := by rw [size_str, hlen]; omega
        have hP18 := (runS_true hP).2.1
        have hZ6 : (strL (P ++ [48, 48, 48, 48, 48])).size ≤ 23 := by rw [size_str, hlen]; omega
        have hPs : (strL P).size ≤ 18 := by rw [size_str]; exact hP18
        clear h5 h52 hpP hlen hpt
        generalize (P ++ [48, 48, 48, 48, 48]).take 5 = F at *
        generalize strL (P ++ [48, 48, 48, 48, 48]) = C at *
        go_enter Tryz.func100, Tryz.ntmps100
        go_wp2_with (first | (go_at_call 104; refine hp2.mono ?_; rintro e wa ⟨rfl, rfl⟩) | (go_at_call 105; refine (hc _).mono ?_; rintro e wb ⟨rfl, hb1⟩) | fail)
        refine (hrW _).mono ?_
        rintro e wc ⟨rfl, hb2⟩
        go_wp2_with (fail)
        refine (hrP _).mono ?_
        rintro e wd ⟨rfl, hb3⟩
        go_wp2_with (fail)
        refine (parseU_any W _ w3 hW0 w2).mono ?_
        rintro e we ⟨rfl, hb4⟩
        go_wp2_with (fail)
        refine (parseU_any F _ h51 h56 h55).mono ?_
        rintro e wf ⟨rfl, hb5⟩
        have hB : Below w0.heap.size w0 wf := below_step (below_step (below_step (below_step hb1 hb2) hb3) hb4) hb5
        clear hc hrW hrP hp2 hb1 hb2 hb3 hb4 hb5 hcat hE5 hZ5 hZ6 hPs
        have R2 : Hid ((r1, r2) = if numOf 0 W > 900000000000000 ∨ numOf 0 W * 10000 + (numOf 0 F + 5) / 10 > 9000000000000000000 then (0, 5) else if ng = true then (-((numOf 0 W * 10000 + (numOf 0 F + 5) / 10 : Nat) : Int), 0) else (((numOf 0 W * 10000 + (numOf 0 F + 5) / 10 : Nat) : Int), 0)) := by
          rw [← hfour]; exact R.out.trans (if_neg (by rw [hW, hP]; simp))
        clear R hfour
        generalize numOf 0 W = n at *
        generalize numOf 0 F = m at *
        by_cases g1 : n > 900000000000000
        · have h2 : (r1, r2) = (0, 5) := by rw [R2.out, if_pos (.inl g1)]
          cases h2
          clear R2
          go_wp2
          go_ret2
          exact ⟨rfl, hB⟩
        · by_cases g2 : n * 10000 + (m + 5) / 10 > 9000000000000000000
          · have h2 : (r1, r2) = (0, 5) := by rw [R2.out, if_pos (.inr g2)]
            cases h2
            clear R2
            go_wp2
            go_ret2
            exact ⟨rfl, hB⟩
          · have hR := R2.out
            rw [if_neg (by omega)] at hR
            have HR := Lib.hid hR
            clear R2 hR
            cases ng with
            | false =>
              go_wp2
              go_ret2
              exact ⟨by have h2 := HR.out; rw [if_neg (by simp)] at h2; cases h2; simp, hB⟩
            | true =>
              go_wp2
              go_ret2
              exact ⟨by have h2 := HR.out; rw [if_pos (by trivial)] at h2; cases h2; simp, hB⟩
  · have hW' : runS W = false := by cases hz : runS W with
      | true => exact absurd hz hW
      | false => rfl
    have h2 : (r1, r2) = (0, 4) := by rw [R.out, if_pos (.inl hW')]
    cases h2
    rw [hW'] at hrW
    clear R hW hW' hrP hpt
    go_enter Tryz.func100, Tryz.ntmps100
    go_wp2_with (first | (go_at_call 104; refine hp2.mono ?_; rintro e wa ⟨rfl, rfl⟩) | (go_at_call 105; refine (hc _).mono ?_; rintro e wb ⟨rfl, hb1⟩) | fail)
    refine (hrW _).mono ?_
    rintro e wc ⟨rfl, hb2⟩
    go_wp2
    go_ret2
    exact ⟨rfl, below_step hb1 hb2⟩
def fixed_Parse.f (s : ByteArray) : Option (Int × Int) := if s.size ≤ 9223372036854775806 then some (readS s.data.toList) else none
theorem fixed_Parse.calls (a0 : ByteArray) (r1 r2 : Int) (w : World) (h : fixed_Parse.f a0 = some (r1, r2)) :
    Calls Tryz.prog 100 #[.string a0] w fun e w' => e = .returned (.tuple #[.int .i64 r1, .int .i64 r2]) ∧ Below w.heap.size w w' := by
  unfold fixed_Parse.f at h
  by_cases hs : a0.size ≤ 9223372036854775806
  · rw [if_pos hs] at h
    have h1 := Option.some.inj h
    have := parse_any a0 w hs
    rw [h1] at this
    exact this
  · rw [if_neg hs] at h; cases h
def strings_Trim.f (s c : ByteArray) : Option ByteArray := if s.size ≤ 9223372036854775806 ∧ c = ⟨#[32]⟩ then some (strL (Lib.trimB s.data.toList 32)) else none
theorem strings_Trim.calls (a0 a1 : ByteArray) (r : ByteArray) (w : World) (h : strings_Trim.f a0 a1 = some r) :
    Calls Tryz.prog 101 #[.string a0, .string a1] w fun e w' => e = .returned (.string r) ∧ Below w.heap.size w w' := by
  unfold strings_Trim.f at h
  by_cases hs : a0.size ≤ 9223372036854775806 ∧ a1 = ⟨#[32]⟩
  · rw [if_pos hs] at h
    cases h
    obtain ⟨h1, rfl⟩ := hs
    refine (Tryz.strings_Trim_one a0 32 (by decide) w (by omega)).mono ?_
    rintro e w' ⟨he, rfl | rfl⟩
    · exact ⟨he, Below.refl _ _⟩
    · exact ⟨he, (Below.refl _ _).drew⟩
  · rw [if_neg hs] at h; cases h
end Go.Proofs.YtcihleahjnpaaaaGreatDoor.H
namespace Go.Proofs.YtcihleahjnpaaaaGreatDoor.P
open Go.RowKit Go.Proofs.YtcihleahjnpaaaaGreatDoor.Q Go.Proofs.YtcihleahjnpaaaaGreatDoor.H Go.Proofs.YtcihleahjnpaaaaGreatDoorW.PrintWords Go.Proofs.YtcihleahjnpaaaaGreatDoorW.PrintLast Go.Proofs.YtcihleahjnpaaaaGreatDoorW.PrintMore
attribute [local go_sem] max2_int min2_int max_two min_two max_three min_three max_four min_four   -- for this text's walks alone
set_option linter.unusedVariables false
set_option linter.unusedSimpArgs false
theorem eqA29 (d : Nat) (w : World) (x0 y0 : Int) (x1 y1 : Int) (x2 y2 : ByteArray) (x3 y3 : Bool) (x4 y4 : Int) :
  (Op.equalIn (d + 2) 29 (.agg #[.int .i64 x0, .int .i64 x1, .string x2, .bool x3, .int .i64 x4]) (.agg #[.int .i64 y0, .int .i64 y1, .string y2, .bool y3, .int .i64 y4])).run Tryz.prog w = .ok (x0 == y0 && (x1 == y1 && (x2.toList == y2.toList && (x3 == y3 && (x4 == y4))))) w := by
 refine eqA_of Tryz.underlying29 (by kernel_rfl) ?_
 refine eqf_cons (by rfl) (by go_simp; rfl) (by go_simp; rfl) (by go_simp) ?_
 refine eqf_cons (by rfl) (by go_simp; rfl) (by go_simp; rfl) (by go_simp) ?_
 refine eqf_cons (by rfl) (by go_simp; rfl) (by go_simp; rfl) (by go_simp) ?_
 refine eqf_cons (by rfl) (by go_simp; rfl) (by go_simp; rfl) (by go_simp) ?_
 exact eqf_last (by rfl) (by go_simp; rfl) (by go_simp; rfl) (by go_simp)
end Go.Proofs.YtcihleahjnpaaaaGreatDoor.P
namespace Go.Proofs.YtcihleahjnpaaaaGreatDoor.P
open Go.RowKit Go.Proofs.YtcihleahjnpaaaaGreatDoor.Q Go.Proofs.YtcihleahjnpaaaaGreatDoor.H Go.Proofs.YtcihleahjnpaaaaGreatDoorW.PrintWords Go.Proofs.YtcihleahjnpaaaaGreatDoorW.PrintLast Go.Proofs.YtcihleahjnpaaaaGreatDoorW.PrintMore
attribute [local go_sem] max2_int min2_int max_two min_two max_three min_three max_four min_four   -- for this text's walks alone
set_option linter.unusedVariables false
set_option linter.unusedSimpArgs false
def fixed_good.l0 : Nat → List Int → Int → Int → Option (Bool)
 | 0, _, _, _ => none
 | k + 1, x5, x6, x7 => if x7 < x6 then (if 0 ≤ x7 then (if x7 < (x5.length : Int) then (if (rd x5 x7) < (-9000000000000000000) then (some false) else (if (rd x5 x7) > 9000000000000000000 then (some false) else (fixed_good.l0 k x5 x6 (wrap64 (x7 + 1))))) else (none)) else (none)) else (some true)
def fixed_good.f (k : Nat) (l0 : List Int) : Option (Bool) := fixed_good.l0 k l0 (l0.length : Int) 0
set_option maxHeartbeats 8000000 in
set_option maxRecDepth 100000 in
theorem fixed_good.calls (k : Nat) (A0 : Option Addr) (c0 : Nat) (l0 : List Int) (r : Bool) (w : World) (hr0 : Kd.C (Kd.int .i64) w A0 l0.length l0) (hc0 : l0.length ≤ c0) (h : fixed_good.f k l0 = some r) :
  Calls Tryz.prog 99 #[.slice A0 l0.length c0] w fun e w' => e = .returned (.bool r) ∧ Drawn0 w w' := by
 have HR0 := Aside0.mk hr0
 have HC0 := Aside0.mk hc0
 clear hr0 hc0
 have H : (fixed_good.l0 k l0 (l0.length : Int) 0) = some r := h
 clear h
 have H' := Aside0.mk H
 clear H
 go_enter Tryz.func99, Tryz.ntmps99
 go_wp2
 go_loopg [7] k (fun kq v7 w' => ∃ (x7_1 : Int), v7 = .int .i64 x7_1 ∧ Aside0 (fixed_good.l0 kq l0 (l0.length : Int) x7_1 = some r) ∧ Aside0 (kq ≤ k) ∧ Drawn0 w w')
 case atStart => exact ⟨(0), (by first | rfl | (simp; done) | (simp [*]; done)), H', ⟨Nat.le_refl _⟩, by repeat (first | exact Drawn0.refl _ | apply Drawn0.step)⟩
 case round =>
  clear H'
  obtain ⟨x7_1, rfl, HA, HK1, ⟨m1, rfl⟩⟩ := hrel
  cases gk with
  | zero => exact absurd HA.out (by simp [fixed_good.l0])
  | succ k1 =>
   have H := HA.out
   clear HA
   simp only [fixed_good.l0] at H
   by_cases c2 : x7_1 < (l0.length : Int)
   ·rw [if_pos c2] at H
    have c2b0 : decide (x7_1 < (l0.length : Int)) = true := decide_eq_true c2
    clear c2
    by_cases c3 : 0 ≤ x7_1
    ·rw [if_pos c3] at H
     have c3b0 : decide (0 ≤ x7_1) = true := decide_eq_true c3
     clear c3
     by_cases c4 : x7_1 < (l0.length : Int)
     ·rw [if_pos c4] at H
      have c4b0 : decide (x7_1 < (l0.length : Int)) = true := decide_eq_true c4
      clear c4
      by_cases c5 : (rd l0 x7_1) < (-9000000000000000000)
      ·rw [if_pos c5] at H
       have c5b0 : decide ((rd l0 x7_1) < (-9000000000000000000)) = true := decide_eq_true c5
       clear c5
       obtain rfl := Option.some.inj H
       have p142 : 0 ≤ (x7_1 : Int) := of_decide_eq_true (by first | (with_reducible assumption) | assumption)
       have q142 : x7_1 < (l0.length : Int) := of_decide_eq_true (by first | (with_reducible assumption) | assumption)
       obtain ⟨ad142, e142, hx142_0⟩ := Kd.at_int HR0.out x7_1 p142 q142
       cases e142
       replace p142 := eq_true p142
       replace q142 := eq_true q142
       go_wp2
       go_ret
       exact ⟨by first | rfl | (simp; done) | (simp [*]; done), by repeat (first | exact Drawn0.refl _ | apply Drawn0.step)⟩
      ·rw [if_neg c5] at H
       have c5b0 : decide ((rd l0 x7_1) < (-9000000000000000000)) = false := decide_eq_false c5
       clear c5
       by_cases c6 : (rd l0 x7_1) > 9000000000000000000
       ·rw [if_pos c6] at H
        have c6b0 : decide (9000000000000000000 < (rd l0 x7_1)) = true := decide_eq_true c6
        clear c6
        obtain rfl := Option.some.inj H
        have p142 : 0 ≤ (x7_1 : Int) := of_decide_eq_true (by first | (with_reducible assumption) | assumption)
        have q142 : x7_1 < (l0.length : Int) := of_decide_eq_true (by first | (with_reducible assumption) | assumption)
        obtain ⟨ad142, e142, hx142_0⟩ := Kd.at_int HR0.out x7_1 p142 q142
        cases e142
        replace p142 := eq_true p142
        replace q142 := eq_true q142
        go_wp2
        go_ret
        exact ⟨by first | rfl | (simp; done) | (simp [*]; done), by repeat (first | exact Drawn0.refl _ | apply Drawn0.step)⟩
       ·rw [if_neg c6] at H
        have c6b0 : decide (9000000000000000000 < (rd l0 x7_1)) = false := decide_eq_false c6
        clear c6
        have H' := Aside0.mk H
        clear H
        have p142 : 0 ≤ (x7_1 : Int) := of_decide_eq_true (by first | (with_reducible assumption) | assumption)
        have q142 : x7_1 < (l0.length : Int) := of_decide_eq_true (by first | (with_reducible assumption) | assumption)
        obtain ⟨ad142, e142, hx142_0⟩ := Kd.at_int HR0.out x7_1 p142 q142
        cases e142
        replace p142 := eq_true p142
        replace q142 := eq_true q142
        go_wp2
        go_roundg k1
        case measure => have := HK1.out; omega
        case rel => exact ⟨(wrap64 (x7_1 + 1)), (by first | rfl | (simp; done) | (simp [*]; done)), H', ⟨by have := HK1.out; omega⟩, by repeat (first | exact Drawn0.refl _ | apply Drawn0.step)⟩
     ·rw [if_neg c4] at H
      exact absurd H (by simp)
    ·rw [if_neg c3] at H
     exact absurd H (by simp)
   ·rw [if_neg c2] at H
    have c2b0 : decide (x7_1 < (l0.length : Int)) = false := decide_eq_false c2
    clear c2
    obtain rfl := Option.some.inj H
    go_wp2
    go_ret
    exact ⟨by first | rfl | (simp; done) | (simp [*]; done), by repeat (first | exact Drawn0.refl _ | apply Drawn0.step)⟩
end Go.Proofs.YtcihleahjnpaaaaGreatDoor.P
namespace Go.Proofs.YtcihleahjnpaaaaGreatDoor.P
open Go.RowKit Go.Proofs.YtcihleahjnpaaaaGreatDoor.Q Go.Proofs.YtcihleahjnpaaaaGreatDoor.H Go.Proofs.YtcihleahjnpaaaaGreatDoorW.PrintWords Go.Proofs.YtcihleahjnpaaaaGreatDoorW.PrintLast Go.Proofs.YtcihleahjnpaaaaGreatDoorW.PrintMore
attribute [local go_sem] max2_int min2_int max_two min_two max_three min_three max_four min_four   -- for this text's walks alone
set_option linter.unusedVariables false
set_option linter.unusedSimpArgs false
def fixed_told.f (k : Nat) (a0 : Int) : Option (Int × Int) := (fixed_good.f k (([a0] : List Int))).bind fun t146 => (if t146 = true then (some (a0, 0)) else (some (0, 5)))
set_option maxHeartbeats 8000000 in
set_option maxRecDepth 100000 in
theorem fixed_told.calls (k : Nat) (a0 : Int) (r1 : Int) (r2 : Int) (w : World) (h : fixed_told.f k a0 = some (r1, r2)) :
  Calls Tryz.prog 89 #[.int .i64 a0] w fun e w' => e = .returned (.tuple #[.int .i64 r1, .int .i64 r2]) ∧ Below w.heap.size w w' := by
 have HB := Aside0.mk (Below.refl w.heap.size w)
 have H : ((fixed_good.f k (([a0] : List Int))).bind fun t146 => (if t146 = true then (some (a0, 0)) else (some (0, 5)))) = some (r1, r2) := h
 clear h
 obtain ⟨y143, hy143⟩ : ∃ y_ : List Int, y_ = (([a0] : List Int)) := ⟨_, rfl⟩
 replace H : ((fixed_good.f k y143).bind fun t146 => (if t146 = true then (some (a0, 0)) else (some (0, 5)))) = some (r1, r2) := by first | (rw [hy143]; with_reducible exact H) | (have H2_ := (Option.bind_some _ _).symm.trans H; rw [hy143]; with_reducible exact H2_) | (have H2_ := (Option.bind_some _ _).symm.trans H; with_reducible exact H2_) | with_reducible exact H | (rw [hy143]; exact H) | exact H
 have Ny143 := Aside0.mk hy143
 clear hy143
 replace H := Option.bind_eq_some_iff.mp H
 obtain ⟨t146, A20, H⟩ := H
 replace H : (if t146 = true then (some (a0, 0)) else (some (0, 5))) = some (r1, r2) := H
 have A2 := Aside0.mk A20
 clear A20
 by_cases c3 : t146 = true
 ·subst c3
  have H1 : (some (a0, 0)) = some (r1, r2) := by rw [if_pos rfl] at H; exact H
  clear H
  have H := H1
  clear H1
  simp only [Option.some.injEq, Prod.mk.injEq] at H
  obtain ⟨rfl, rfl⟩ := H
  go_enter Tryz.func89, Tryz.ntmps89
  go_wp2_with (first | ((with_reducible refine gate_dst (N := 5) rfl ?_); refine Kd.R_lit (Kd.int .i64) _ 26 ?hg (N := 5) ?hd (xs := ([a0] : List Int)) (inner := [.int .i64 a0]) (ok := fun _ => True) (okp := fun _ => True) ?hr ?hp (fun _ hk => hk) trivial (Below.refl _ _) (Nat.le_refl _) (by simp) ?_; (case hd => rfl); (case hg => rfl); (case hr => first | (go_simp; done) | (go_simp; rfl)); (case hp => exact (Reps.one (show Kd.M (Kd.int .i64) _ _ _ a0 [.int .i64 a0] from rfl) (Reps.none _ _))); intro v144 w4 ho5 hb hg_ hnew_; clear hg_ hnew_; (first | rw [← Ny143.out] at ho5 | (simp only [Int.reduceToNat] at ho5; rw [← Ny143.out] at ho5)); have HO145 := Aside0.mk (Kd.R_lower ho5 (bz)); replace HB := (bs hb); clear hb ho5; obtain ⟨Ao6, co6, eo6⟩ := Kd.R_slice HO145.out; subst eo6) | ((with_reducible refine gate_callee (f := 99) rfl ?_); refine gL (some 6) Tryz.func99 #[.slice Ao6 y143.length co6] ?_; (with_reducible refine (fixed_good.calls k _ _ y143 true _ ?side1 ?side2 A2.out).mono ?_); (case side1 => repeat (first | exact (Kd.R_reads' HO145.out).2.2 | (with_reducible refine Kd.C_alloc ?_ _) | (with_reducible refine Kd.C_drewN ?_ _) | (with_reducible refine Kd.C_drew ?_))); (case side2 => exact (Kd.R_reads' HO145.out).2.1); rintro e w' ⟨rfl, ⟨nd, rfl⟩⟩; refine ⟨_, rfl, ?_⟩))
  go_ret2
  exact ⟨by first | rfl | (simp [errW_none, errW_some] <;> rfl) | (simp [*, errW_none, errW_some] <;> rfl), be⟩
 ·replace c3 := Bool.eq_false_iff.mpr c3
  subst c3
  have H1 : (some (0, 5)) = some (r1, r2) := by rw [if_neg (show ¬ (false = true) by decide)] at H; exact H
  clear H
  have H := H1
  clear H1
  simp only [Option.some.injEq, Prod.mk.injEq] at H
  obtain ⟨rfl, rfl⟩ := H
  go_enter Tryz.func89, Tryz.ntmps89
  go_wp2_with (first | ((with_reducible refine gate_dst (N := 5) rfl ?_); refine Kd.R_lit (Kd.int .i64) _ 26 ?hg (N := 5) ?hd (xs := ([a0] : List Int)) (inner := [.int .i64 a0]) (ok := fun _ => True) (okp := fun _ => True) ?hr ?hp (fun _ hk => hk) trivial (Below.refl _ _) (Nat.le_refl _) (by simp) ?_; (case hd => rfl); (case hg => rfl); (case hr => first | (go_simp; done) | (go_simp; rfl)); (case hp => exact (Reps.one (show Kd.M (Kd.int .i64) _ _ _ a0 [.int .i64 a0] from rfl) (Reps.none _ _))); intro v144 w7 ho8 hb hg_ hnew_; clear hg_ hnew_; (first | rw [← Ny143.out] at ho8 | (simp only [Int.reduceToNat] at ho8; rw [← Ny143.out] at ho8)); have HO145 := Aside0.mk (Kd.R_lower ho8 (bz)); replace HB := (bs hb); clear hb ho8; obtain ⟨Ao9, co9, eo9⟩ := Kd.R_slice HO145.out; subst eo9) | ((with_reducible refine gate_callee (f := 99) rfl ?_); refine gL (some 6) Tryz.func99 #[.slice Ao9 y143.length co9] ?_; (with_reducible refine (fixed_good.calls k _ _ y143 false _ ?side1 ?side2 A2.out).mono ?_); (case side1 => repeat (first | exact (Kd.R_reads' HO145.out).2.2 | (with_reducible refine Kd.C_alloc ?_ _) | (with_reducible refine Kd.C_drewN ?_ _) | (with_reducible refine Kd.C_drew ?_))); (case side2 => exact (Kd.R_reads' HO145.out).2.1); rintro e w' ⟨rfl, ⟨nd, rfl⟩⟩; refine ⟨_, rfl, ?_⟩))
  go_ret2
  exact ⟨by first | rfl | (simp [errW_none, errW_some] <;> rfl) | (simp [*, errW_none, errW_some] <;> rfl), be⟩
end Go.Proofs.YtcihleahjnpaaaaGreatDoor.P
namespace Go.Proofs.YtcihleahjnpaaaaGreatDoor.P
open Go.RowKit Go.Proofs.YtcihleahjnpaaaaGreatDoor.Q Go.Proofs.YtcihleahjnpaaaaGreatDoor.H Go.Proofs.YtcihleahjnpaaaaGreatDoorW.PrintWords Go.Proofs.YtcihleahjnpaaaaGreatDoorW.PrintLast Go.Proofs.YtcihleahjnpaaaaGreatDoorW.PrintMore
attribute [local go_sem] max2_int min2_int max_two min_two max_three min_three max_four min_four   -- for this text's walks alone
set_option linter.unusedVariables false
set_option linter.unusedSimpArgs false
def fixed_Raw.f (k : Nat) (a0 : Int) : Option (Int × Int) := (fixed_told.f k a0).bind fun bt147 => (some (bt147.1, bt147.2))
set_option maxHeartbeats 8000000 in
set_option maxRecDepth 100000 in
theorem fixed_Raw.calls (k : Nat) (a0 : Int) (r1 : Int) (r2 : Int) (w : World) (h : fixed_Raw.f k a0 = some (r1, r2)) :
  Calls Tryz.prog 74 #[.int .i64 a0] w fun e w' => e = .returned (.tuple #[.int .i64 r1, .int .i64 r2]) ∧ Below w.heap.size w w' := by
 have HB := Aside0.mk (Below.refl w.heap.size w)
 have H : ((fixed_told.f k a0).bind fun bt147 => (some (bt147.1, bt147.2))) = some (r1, r2) := h
 clear h
 replace H := Option.bind_eq_some_iff.mp H
 obtain ⟨⟨t147, t148⟩, A20, H⟩ := H
 replace H : (some (t147, t148)) = some (r1, r2) := H
 have A2 := Aside0.mk A20
 clear A20
 simp only [Option.some.injEq, Prod.mk.injEq] at H
 obtain ⟨rfl, rfl⟩ := H
 go_enter Tryz.func74, Tryz.ntmps74
 go_wp2_with (first | ((with_reducible refine gate_callee (f := 89) rfl ?_); refine gL (some 5) Tryz.func89 #[.int .i64 a0] ?_; (with_reducible refine (fixed_told.calls k a0 t147 t148 _ A2.out).mono ?_); rintro e w3 ⟨rfl, hb⟩; refine ⟨_, rfl, ?_⟩; replace HB := (bs hb); (try clear hb)))
 go_ret2
 exact ⟨by first | rfl | (simp [errW_none, errW_some] <;> rfl) | (simp [*, errW_none, errW_some] <;> rfl), be⟩
end Go.Proofs.YtcihleahjnpaaaaGreatDoor.P
namespace Go.Proofs.YtcihleahjnpaaaaGreatDoor.P
open Go.RowKit Go.Proofs.YtcihleahjnpaaaaGreatDoor.Q Go.Proofs.YtcihleahjnpaaaaGreatDoor.H Go.Proofs.YtcihleahjnpaaaaGreatDoorW.PrintWords Go.Proofs.YtcihleahjnpaaaaGreatDoorW.PrintLast Go.Proofs.YtcihleahjnpaaaaGreatDoorW.PrintMore
attribute [local go_sem] max2_int min2_int max_two min_two max_three min_three max_four min_four   -- for this text's walks alone
set_option linter.unusedVariables false
set_option linter.unusedSimpArgs false
def value_fits.f (k : Nat) (a0 : Int) : Option (Bool) := (fixed_Raw.f k a0).bind fun bt149 => (some (bt149.2 == 0))
set_option maxHeartbeats 8000000 in
set_option maxRecDepth 100000 in
theorem value_fits.calls (k : Nat) (a0 : Int) (r : Bool) (w : World) (h : value_fits.f k a0 = some r) :
  Calls Tryz.prog 54 #[.int .i64 a0] w fun e w' => e = .returned (.bool r) ∧ Below w.heap.size w w' := by
 have HB := Aside0.mk (Below.refl w.heap.size w)
 have H : ((fixed_Raw.f k a0).bind fun bt149 => (some (bt149.2 == 0))) = some r := h
 clear h
 replace H := Option.bind_eq_some_iff.mp H
 obtain ⟨⟨t149, t150⟩, A20, H⟩ := H
 replace H : (some (t150 == 0)) = some r := H
 have A2 := Aside0.mk A20
 clear A20
 obtain rfl := Option.some.inj H
 go_enter Tryz.func54, Tryz.ntmps54
 go_wp2_with (first | ((with_reducible refine gate_callee (f := 74) rfl ?_); refine gL (some 7) Tryz.func74 #[.int .i64 a0] ?_; (with_reducible refine (fixed_Raw.calls k a0 t149 t150 _ A2.out).mono ?_); rintro e w3 ⟨rfl, hb⟩; refine ⟨_, rfl, ?_⟩; replace HB := (bs hb); (try clear hb)))
 go_ret
 exact ⟨by first | rfl | (simp [errW_none, errW_some] <;> rfl) | (simp [*, errW_none, errW_some] <;> rfl), be⟩
end Go.Proofs.YtcihleahjnpaaaaGreatDoor.P
namespace Go.Proofs.YtcihleahjnpaaaaGreatDoor.P
open Go.RowKit Go.Proofs.YtcihleahjnpaaaaGreatDoor.Q Go.Proofs.YtcihleahjnpaaaaGreatDoor.H Go.Proofs.YtcihleahjnpaaaaGreatDoorW.PrintWords Go.Proofs.YtcihleahjnpaaaaGreatDoorW.PrintLast Go.Proofs.YtcihleahjnpaaaaGreatDoorW.PrintMore
attribute [local go_sem] max2_int min2_int max_two min_two max_three min_three max_four min_four   -- for this text's walks alone
set_option linter.unusedVariables false
set_option linter.unusedSimpArgs false
def value_Fail_is.f (a0 : Int) : Option (Bool) := if a0 > 0 then (some (decide (a0 < 9))) else (some false)
set_option maxHeartbeats 8000000 in
set_option maxRecDepth 100000 in
theorem value_Fail_is.calls (a0 : Int) (r : Bool) (w : World) (h : value_Fail_is.f a0 = some r) :
  Calls Tryz.prog 48 #[.int .i64 a0] w fun e w' => e = .returned (.bool r) ∧ Drawn0 w w' := by
 have H : (if a0 > 0 then (some (decide (a0 < 9))) else (some false)) = some r := h
 clear h
 by_cases c2 : a0 > 0
 ·rw [if_pos c2] at H
  have c2b0 : decide (0 < a0) = true := decide_eq_true c2
  clear c2
  obtain rfl := Option.some.inj H
  go_enter Tryz.func48, Tryz.ntmps48
  go_wp2
  go_ret
  exact ⟨by first | rfl | (simp; done) | (simp [*]; done), by repeat (first | exact Drawn0.refl _ | apply Drawn0.step)⟩
 ·rw [if_neg c2] at H
  have c2b0 : decide (0 < a0) = false := decide_eq_false c2
  clear c2
  obtain rfl := Option.some.inj H
  go_enter Tryz.func48, Tryz.ntmps48
  go_wp2
  go_ret
  exact ⟨by first | rfl | (simp; done) | (simp [*]; done), by repeat (first | exact Drawn0.refl _ | apply Drawn0.step)⟩
end Go.Proofs.YtcihleahjnpaaaaGreatDoor.P
namespace Go.Proofs.YtcihleahjnpaaaaGreatDoor.P
open Go.RowKit Go.Proofs.YtcihleahjnpaaaaGreatDoor.Q Go.Proofs.YtcihleahjnpaaaaGreatDoor.H Go.Proofs.YtcihleahjnpaaaaGreatDoorW.PrintWords Go.Proofs.YtcihleahjnpaaaaGreatDoorW.PrintLast Go.Proofs.YtcihleahjnpaaaaGreatDoorW.PrintMore
attribute [local go_sem] max2_int min2_int max_two min_two max_three min_three max_four min_four   -- for this text's walks alone
set_option linter.unusedVariables false
set_option linter.unusedSimpArgs false
def value_E.f (a0 : Int) : Option (Int × Int × ByteArray × Bool × Int) := (value_Fail_is.f a0).bind fun t135 => (if t135 = true then (some (4, 0, (⟨#[]⟩ : ByteArray), false, a0)) else (some (4, 0, (⟨#[]⟩ : ByteArray), false, 3)))
set_option maxHeartbeats 8000000 in
set_option maxRecDepth 100000 in
theorem value_E.calls (a0 : Int) (r1 : Int) (r2 : Int) (r3 : ByteArray) (r4 : Bool) (r5 : Int) (w : World) (h : value_E.f a0 = some (r1, r2, r3, r4, r5)) :
  Calls Tryz.prog 25 #[.int .i64 a0] w fun e w' => e = .returned (.agg #[.int .i64 r1, .int .i64 r2, .string r3, .bool r4, .int .i64 r5]) ∧ Below w.heap.size w w' := by
 have hu29 := Tryz.underlying29
 have HB := Aside0.mk (Below.refl w.heap.size w)
 have H : ((value_Fail_is.f a0).bind fun t135 => (if t135 = true then (some (4, 0, (⟨#[]⟩ : ByteArray), false, a0)) else (some (4, 0, (⟨#[]⟩ : ByteArray), false, 3)))) = some (r1, r2, r3, r4, r5) := h
 clear h
 replace H := Option.bind_eq_some_iff.mp H
 obtain ⟨t135, A20, H⟩ := H
 replace H : (if t135 = true then (some (4, 0, (⟨#[]⟩ : ByteArray), false, a0)) else (some (4, 0, (⟨#[]⟩ : ByteArray), false, 3))) = some (r1, r2, r3, r4, r5) := H
 have A2 := Aside0.mk A20
 clear A20
 by_cases c3 : t135 = true
 ·subst c3
  have H1 : (some (4, 0, (⟨#[]⟩ : ByteArray), false, a0)) = some (r1, r2, r3, r4, r5) := by rw [if_pos rfl] at H; exact H
  clear H
  have H := H1
  clear H1
  simp only [Option.some.injEq, Prod.mk.injEq] at H
  obtain ⟨rfl, rfl, rfl, rfl, rfl⟩ := H
  go_enter Tryz.func25, Tryz.ntmps25
  go_wp2_with (first | ((with_reducible refine gate_dst (N := 2) rfl ?_); refine bx (N := 2) (cs := #[.int .i64 0, .int .i64 0, .string (⟨#[]⟩ : ByteArray), .bool false, .int .i64 0]) (t := 29) ?_; intro gb134 hg w4 hbox hb; have BK134 := Aside0.mk (hbox); have GW134 := (bw hg); have GE134 := (bw hg); replace HB := (bs hb); clear hb hbox hg) | ((with_reducible refine gate_callee (f := 48) rfl ?_); refine gL (some 4) Tryz.func48 #[.int .i64 a0] ?_; (with_reducible refine (value_Fail_is.calls a0 true _ A2.out).mono ?_); rintro e w' ⟨rfl, ⟨nd, rfl⟩⟩; refine ⟨_, rfl, ?_⟩; (try (rw [drewN_self w4]; generalize hq_ : World.drewN w4 _ = w4; have n0_ : Aside0 (w4.heap[gb134]? = some (.cells #[.int .i64 0, .int .i64 0, .string (⟨#[]⟩ : ByteArray), .bool false, .int .i64 0] 29 (0, 0))) := ⟨by rw [← hq_]; exact (by (with_reducible repeat (first | refine blk_drewN ?_ _ | refine blk_drew ?_ | refine blk_alloc ?_ _)); exact BK134.out)⟩; have n1_ : Aside0 (Below w.heap.size w w4) := ⟨by rw [← hq_]; exact be⟩; clear BK134 HB hq_; have BK134 := n0_; have HB := n1_; clear n0_ n1_)); obtain ⟨hcz5_0, hcz5_1, hcz5_2, hcz5_3, hcz5_4, hfz5_0, hfz5_1, hfz5_2, hfz5_3, hfz5_4⟩ := bc5 BK134))
  refine bodyPost_ret (results_cell_row rfl _ _ gb134 29 #[.int .i64 4, .int .i64 0, .string (⟨#[]⟩ : ByteArray), .bool false, .int .i64 a0] (0, 0) _ rfl (by (with_reducible repeat (first | refine blk_drewN ?_ _ | refine blk_drew ?_ | refine blk_alloc ?_ _)); refine blk_put (cs := #[.int .i64 4, .int .i64 0, .string (⟨#[]⟩ : ByteArray), .bool false, .int .i64 0]) ?_ 4 _ rfl; (with_reducible repeat (first | refine blk_drewN ?_ _ | refine blk_drew ?_ | refine blk_alloc ?_ _)); refine blk_put (cs := #[.int .i64 4, .int .i64 0, .string (⟨#[]⟩ : ByteArray), .bool false, .int .i64 0]) ?_ 3 _ rfl; (with_reducible repeat (first | refine blk_drewN ?_ _ | refine blk_drew ?_ | refine blk_alloc ?_ _)); refine blk_put (cs := #[.int .i64 4, .int .i64 0, .string (⟨#[]⟩ : ByteArray), .bool false, .int .i64 0]) ?_ 2 _ rfl; (with_reducible repeat (first | refine blk_drewN ?_ _ | refine blk_drew ?_ | refine blk_alloc ?_ _)); refine blk_put (cs := #[.int .i64 4, .int .i64 0, .string (⟨#[]⟩ : ByteArray), .bool false, .int .i64 0]) ?_ 1 _ rfl; (with_reducible repeat (first | refine blk_drewN ?_ _ | refine blk_drew ?_ | refine blk_alloc ?_ _)); refine blk_put (cs := #[.int .i64 0, .int .i64 0, .string (⟨#[]⟩ : ByteArray), .bool false, .int .i64 0]) ?_ 0 _ rfl; (with_reducible repeat (first | refine blk_drewN ?_ _ | refine blk_drew ?_ | refine blk_alloc ?_ _)); exact BK134.out) Tryz.underlying29 rfl (by kernel_rfl)) rfl ?_
  exact ⟨by first | rfl | (simp [errW_none, errW_some] <;> rfl) | (simp [*, errW_none, errW_some] <;> rfl), be⟩
 ·replace c3 := Bool.eq_false_iff.mpr c3
  subst c3
  have H1 : (some (4, 0, (⟨#[]⟩ : ByteArray), false, 3)) = some (r1, r2, r3, r4, r5) := by rw [if_neg (show ¬ (false = true) by decide)] at H; exact H
  clear H
  have H := H1
  clear H1
  simp only [Option.some.injEq, Prod.mk.injEq] at H
  obtain ⟨rfl, rfl, rfl, rfl, rfl⟩ := H
  go_enter Tryz.func25, Tryz.ntmps25
  go_wp2_with (first | ((with_reducible refine gate_dst (N := 2) rfl ?_); refine bx (N := 2) (cs := #[.int .i64 0, .int .i64 0, .string (⟨#[]⟩ : ByteArray), .bool false, .int .i64 0]) (t := 29) ?_; intro gb134 hg w6 hbox hb; have BK134 := Aside0.mk (hbox); have GW134 := (bw hg); have GE134 := (bw hg); replace HB := (bs hb); clear hb hbox hg) | ((with_reducible refine gate_callee (f := 48) rfl ?_); refine gL (some 4) Tryz.func48 #[.int .i64 a0] ?_; (with_reducible refine (value_Fail_is.calls a0 false _ A2.out).mono ?_); rintro e w' ⟨rfl, ⟨nd, rfl⟩⟩; refine ⟨_, rfl, ?_⟩; (try (rw [drewN_self w6]; generalize hq_ : World.drewN w6 _ = w6; have n0_ : Aside0 (w6.heap[gb134]? = some (.cells #[.int .i64 0, .int .i64 0, .string (⟨#[]⟩ : ByteArray), .bool false, .int .i64 0] 29 (0, 0))) := ⟨by rw [← hq_]; exact (by (with_reducible repeat (first | refine blk_drewN ?_ _ | refine blk_drew ?_ | refine blk_alloc ?_ _)); exact BK134.out)⟩; have n1_ : Aside0 (Below w.heap.size w w6) := ⟨by rw [← hq_]; exact be⟩; clear BK134 HB hq_; have BK134 := n0_; have HB := n1_; clear n0_ n1_)); obtain ⟨hcz7_0, hcz7_1, hcz7_2, hcz7_3, hcz7_4, hfz7_0, hfz7_1, hfz7_2, hfz7_3, hfz7_4⟩ := bc5 BK134))
  refine bodyPost_ret (results_cell_row rfl _ _ gb134 29 #[.int .i64 4, .int .i64 0, .string (⟨#[]⟩ : ByteArray), .bool false, .int .i64 3] (0, 0) _ rfl (by (with_reducible repeat (first | refine blk_drewN ?_ _ | refine blk_drew ?_ | refine blk_alloc ?_ _)); refine blk_put (cs := #[.int .i64 4, .int .i64 0, .string (⟨#[]⟩ : ByteArray), .bool false, .int .i64 0]) ?_ 4 _ rfl; (with_reducible repeat (first | refine blk_drewN ?_ _ | refine blk_drew ?_ | refine blk_alloc ?_ _)); refine blk_put (cs := #[.int .i64 4, .int .i64 0, .string (⟨#[]⟩ : ByteArray), .bool false, .int .i64 0]) ?_ 3 _ rfl; (with_reducible repeat (first | refine blk_drewN ?_ _ | refine blk_drew ?_ | refine blk_alloc ?_ _)); refine blk_put (cs := #[.int .i64 4, .int .i64 0, .string (⟨#[]⟩ : ByteArray), .bool false, .int .i64 0]) ?_ 2 _ rfl; (with_reducible repeat (first | refine blk_drewN ?_ _ | refine blk_drew ?_ | refine blk_alloc ?_ _)); refine blk_put (cs := #[.int .i64 4, .int .i64 0, .string (⟨#[]⟩ : ByteArray), .bool false, .int .i64 0]) ?_ 1 _ rfl; (with_reducible repeat (first | refine blk_drewN ?_ _ | refine blk_drew ?_ | refine blk_alloc ?_ _)); refine blk_put (cs := #[.int .i64 0, .int .i64 0, .string (⟨#[]⟩ : ByteArray), .bool false, .int .i64 0]) ?_ 0 _ rfl; (with_reducible repeat (first | refine blk_drewN ?_ _ | refine blk_drew ?_ | refine blk_alloc ?_ _)); exact BK134.out) Tryz.underlying29 rfl (by kernel_rfl)) rfl ?_
  exact ⟨by first | rfl | (simp [errW_none, errW_some] <;> rfl) | (simp [*, errW_none, errW_some] <;> rfl), be⟩
end Go.Proofs.YtcihleahjnpaaaaGreatDoor.P
namespace Go.Proofs.YtcihleahjnpaaaaGreatDoor.P
open Go.RowKit Go.Proofs.YtcihleahjnpaaaaGreatDoor.Q Go.Proofs.YtcihleahjnpaaaaGreatDoor.H Go.Proofs.YtcihleahjnpaaaaGreatDoorW.PrintWords Go.Proofs.YtcihleahjnpaaaaGreatDoorW.PrintLast Go.Proofs.YtcihleahjnpaaaaGreatDoorW.PrintMore
attribute [local go_sem] max2_int min2_int max_two min_two max_three min_three max_four min_four   -- for this text's walks alone
set_option linter.unusedVariables false
set_option linter.unusedSimpArgs false
def value_N.f (k : Nat) (a0 : Int) : Option (Int × Int × ByteArray × Bool × Int) := (value_fits.f k a0).bind fun t152 => (if t152 = true then (some (1, a0, (⟨#[]⟩ : ByteArray), false, 0)) else ((value_E.f 2).bind fun bt153 => (some (bt153.1, bt153.2.1, bt153.2.2.1, bt153.2.2.2.1, bt153.2.2.2.2))))
set_option maxHeartbeats 8000000 in
set_option maxRecDepth 100000 in
theorem value_N.calls (k : Nat) (a0 : Int) (r1 : Int) (r2 : Int) (r3 : ByteArray) (r4 : Bool) (r5 : Int) (w : World) (h : value_N.f k a0 = some (r1, r2, r3, r4, r5)) :
  Calls Tryz.prog 29 #[.int .i64 a0] w fun e w' => e = .returned (.agg #[.int .i64 r1, .int .i64 r2, .string r3, .bool r4, .int .i64 r5]) ∧ Below w.heap.size w w' := by
 have hu29 := Tryz.underlying29
 have HB := Aside0.mk (Below.refl w.heap.size w)
 have H : ((value_fits.f k a0).bind fun t152 => (if t152 = true then (some (1, a0, (⟨#[]⟩ : ByteArray), false, 0)) else ((value_E.f 2).bind fun bt153 => (some (bt153.1, bt153.2.1, bt153.2.2.1, bt153.2.2.2.1, bt153.2.2.2.2))))) = some (r1, r2, r3, r4, r5) := h
 clear h
 replace H := Option.bind_eq_some_iff.mp H
 obtain ⟨t152, A20, H⟩ := H
 replace H : (if t152 = true then (some (1, a0, (⟨#[]⟩ : ByteArray), false, 0)) else ((value_E.f 2).bind fun bt153 => (some (bt153.1, bt153.2.1, bt153.2.2.1, bt153.2.2.2.1, bt153.2.2.2.2)))) = some (r1, r2, r3, r4, r5) := H
 have A2 := Aside0.mk A20
 clear A20
 by_cases c3 : t152 = true
 ·subst c3
  have H1 : (some (1, a0, (⟨#[]⟩ : ByteArray), false, 0)) = some (r1, r2, r3, r4, r5) := by rw [if_pos rfl] at H; exact H
  clear H
  have H := H1
  clear H1
  simp only [Option.some.injEq, Prod.mk.injEq] at H
  obtain ⟨rfl, rfl, rfl, rfl, rfl⟩ := H
  go_enter Tryz.func29, Tryz.ntmps29
  go_wp2_with (first | ((with_reducible refine gate_dst (N := 2) rfl ?_); refine bx (N := 2) (cs := #[.int .i64 0, .int .i64 0, .string (⟨#[]⟩ : ByteArray), .bool false, .int .i64 0]) (t := 29) ?_; intro gb151 hg w4 hbox hb; have BK151 := Aside0.mk (hbox); have GW151 := (bw hg); have GE151 := (bw hg); replace HB := (bs hb); clear hb hbox hg) | ((with_reducible refine gate_callee (f := 54) rfl ?_); refine gL (some 4) Tryz.func54 #[.int .i64 a0] ?_; (with_reducible refine (value_fits.calls k a0 true _ A2.out).mono ?_); rintro e w5 ⟨rfl, hb⟩; refine ⟨_, rfl, ?_⟩; replace BK151 := (bb BK151 hb); replace HB := (bs hb); (try clear hb); obtain ⟨hcz6_0, hcz6_1, hcz6_2, hcz6_3, hcz6_4, hfz6_0, hfz6_1, hfz6_2, hfz6_3, hfz6_4⟩ := bc5 BK151))
  refine bodyPost_ret (results_cell_row rfl _ _ gb151 29 #[.int .i64 1, .int .i64 a0, .string (⟨#[]⟩ : ByteArray), .bool false, .int .i64 0] (0, 0) _ rfl (by (with_reducible repeat (first | refine blk_drewN ?_ _ | refine blk_drew ?_ | refine blk_alloc ?_ _)); refine blk_put (cs := #[.int .i64 1, .int .i64 a0, .string (⟨#[]⟩ : ByteArray), .bool false, .int .i64 0]) ?_ 4 _ rfl; (with_reducible repeat (first | refine blk_drewN ?_ _ | refine blk_drew ?_ | refine blk_alloc ?_ _)); refine blk_put (cs := #[.int .i64 1, .int .i64 a0, .string (⟨#[]⟩ : ByteArray), .bool false, .int .i64 0]) ?_ 3 _ rfl; (with_reducible repeat (first | refine blk_drewN ?_ _ | refine blk_drew ?_ | refine blk_alloc ?_ _)); refine blk_put (cs := #[.int .i64 1, .int .i64 a0, .string (⟨#[]⟩ : ByteArray), .bool false, .int .i64 0]) ?_ 2 _ rfl; (with_reducible repeat (first | refine blk_drewN ?_ _ | refine blk_drew ?_ | refine blk_alloc ?_ _)); refine blk_put (cs := #[.int .i64 1, .int .i64 0, .string (⟨#[]⟩ : ByteArray), .bool false, .int .i64 0]) ?_ 1 _ rfl; (with_reducible repeat (first | refine blk_drewN ?_ _ | refine blk_drew ?_ | refine blk_alloc ?_ _)); refine blk_put (cs := #[.int .i64 0, .int .i64 0, .string (⟨#[]⟩ : ByteArray), .bool false, .int .i64 0]) ?_ 0 _ rfl; (with_reducible repeat (first | refine blk_drewN ?_ _ | refine blk_drew ?_ | refine blk_alloc ?_ _)); exact BK151.out) Tryz.underlying29 rfl (by kernel_rfl)) rfl ?_
  exact ⟨by first | rfl | (simp [errW_none, errW_some] <;> rfl) | (simp [*, errW_none, errW_some] <;> rfl), be⟩
 ·replace c3 := Bool.eq_false_iff.mpr c3
  subst c3
  have H1 : ((value_E.f 2).bind fun bt153 => (some (bt153.1, bt153.2.1, bt153.2.2.1, bt153.2.2.2.1, bt153.2.2.2.2))) = some (r1, r2, r3, r4, r5) := by rw [if_neg (show ¬ (false = true) by decide)] at H; exact H
  clear H
  have H := H1
  clear H1
  replace H := Option.bind_eq_some_iff.mp H
  obtain ⟨⟨t153, t154, t155, t156, t157⟩, A70, H⟩ := H
  replace H : (some (t153, t154, t155, t156, t157)) = some (r1, r2, r3, r4, r5) := H
  have A7 := Aside0.mk A70
  clear A70
  simp only [Option.some.injEq, Prod.mk.injEq] at H
  obtain ⟨rfl, rfl, rfl, rfl, rfl⟩ := H
  go_enter Tryz.func29, Tryz.ntmps29
  go_wp2_with (first | ((with_reducible refine gate_dst (N := 2) rfl ?_); refine bx (N := 2) (cs := #[.int .i64 0, .int .i64 0, .string (⟨#[]⟩ : ByteArray), .bool false, .int .i64 0]) (t := 29) ?_; intro gb151 hg w8 hbox hb; have BK151 := Aside0.mk (hbox); have GW151 := (bw hg); have GE151 := (bw hg); replace HB := (bs hb); clear hb hbox hg) | ((with_reducible refine gate_callee (f := 54) rfl ?_); refine gL (some 4) Tryz.func54 #[.int .i64 a0] ?_; (with_reducible refine (value_fits.calls k a0 false _ A2.out).mono ?_); rintro e w9 ⟨rfl, hb⟩; refine ⟨_, rfl, ?_⟩; replace BK151 := (bb BK151 hb); replace HB := (bs hb); (try clear hb)) | ((with_reducible refine gate_callee (f := 25) rfl ?_); refine gL (some 6) Tryz.func25 #[.int .i64 2] ?_; (with_reducible refine (value_E.calls 2 t153 t154 t155 t156 t157 _ A7.out).mono ?_); rintro e w10 ⟨rfl, hb⟩; refine ⟨_, rfl, ?_⟩; replace BK151 := (bb BK151 hb); replace HB := (bs hb); (try clear hb); obtain ⟨hcz11_0, hcz11_1, hcz11_2, hcz11_3, hcz11_4, hfz11_0, hfz11_1, hfz11_2, hfz11_3, hfz11_4⟩ := bc5 BK151))
  refine bodyPost_ret (results_cell_row rfl _ _ gb151 29 #[.int .i64 t153, .int .i64 t154, .string t155, .bool t156, .int .i64 t157] (0, 0) _ rfl (by (with_reducible repeat (first | refine blk_drewN ?_ _ | refine blk_drew ?_ | refine blk_alloc ?_ _)); refine blk_put (cs := #[.int .i64 t153, .int .i64 t154, .string t155, .bool t156, .int .i64 0]) ?_ 4 _ rfl; (with_reducible repeat (first | refine blk_drewN ?_ _ | refine blk_drew ?_ | refine blk_alloc ?_ _)); refine blk_put (cs := #[.int .i64 t153, .int .i64 t154, .string t155, .bool false, .int .i64 0]) ?_ 3 _ rfl; (with_reducible repeat (first | refine blk_drewN ?_ _ | refine blk_drew ?_ | refine blk_alloc ?_ _)); refine blk_put (cs := #[.int .i64 t153, .int .i64 t154, .string (⟨#[]⟩ : ByteArray), .bool false, .int .i64 0]) ?_ 2 _ rfl; (with_reducible repeat (first | refine blk_drewN ?_ _ | refine blk_drew ?_ | refine blk_alloc ?_ _)); refine blk_put (cs := #[.int .i64 t153, .int .i64 0, .string (⟨#[]⟩ : ByteArray), .bool false, .int .i64 0]) ?_ 1 _ rfl; (with_reducible repeat (first | refine blk_drewN ?_ _ | refine blk_drew ?_ | refine blk_alloc ?_ _)); refine blk_put (cs := #[.int .i64 0, .int .i64 0, .string (⟨#[]⟩ : ByteArray), .bool false, .int .i64 0]) ?_ 0 _ rfl; (with_reducible repeat (first | refine blk_drewN ?_ _ | refine blk_drew ?_ | refine blk_alloc ?_ _)); exact BK151.out) Tryz.underlying29 rfl (by kernel_rfl)) rfl ?_
  exact ⟨by first | rfl | (simp [errW_none, errW_some] <;> rfl) | (simp [*, errW_none, errW_some] <;> rfl), be⟩
end Go.Proofs.YtcihleahjnpaaaaGreatDoor.P
namespace Go.Proofs.YtcihleahjnpaaaaGreatDoor.P
open Go.RowKit Go.Proofs.YtcihleahjnpaaaaGreatDoor.Q Go.Proofs.YtcihleahjnpaaaaGreatDoor.H Go.Proofs.YtcihleahjnpaaaaGreatDoorW.PrintWords Go.Proofs.YtcihleahjnpaaaaGreatDoorW.PrintLast Go.Proofs.YtcihleahjnpaaaaGreatDoorW.PrintMore
attribute [local go_sem] max2_int min2_int max_two min_two max_three min_three max_four min_four   -- for this text's walks alone
set_option linter.unusedVariables false
set_option linter.unusedSimpArgs false
def value_B.f (a0 : Bool) : Option (Int × Int × ByteArray × Bool × Int) := some (3, 0, (⟨#[]⟩ : ByteArray), a0, 0)
set_option maxHeartbeats 8000000 in
set_option maxRecDepth 100000 in
theorem value_B.calls (a0 : Bool) (r1 : Int) (r2 : Int) (r3 : ByteArray) (r4 : Bool) (r5 : Int) (w : World) (h : value_B.f a0 = some (r1, r2, r3, r4, r5)) :
  Calls Tryz.prog 47 #[.bool a0] w fun e w' => e = .returned (.agg #[.int .i64 r1, .int .i64 r2, .string r3, .bool r4, .int .i64 r5]) ∧ Below w.heap.size w w' := by
 have hu29 := Tryz.underlying29
 have HB := Aside0.mk (Below.refl w.heap.size w)
 have H : (some (3, 0, (⟨#[]⟩ : ByteArray), a0, 0)) = some (r1, r2, r3, r4, r5) := h
 clear h
 simp only [Option.some.injEq, Prod.mk.injEq] at H
 obtain ⟨rfl, rfl, rfl, rfl, rfl⟩ := H
 go_enter Tryz.func47, Tryz.ntmps47
 go_wp2_with (first | ((with_reducible refine gate_dst (N := 2) rfl ?_); refine bx (N := 2) (cs := #[.int .i64 0, .int .i64 0, .string (⟨#[]⟩ : ByteArray), .bool false, .int .i64 0]) (t := 29) ?_; intro gb158 hg w2 hbox hb; have BK158 := Aside0.mk (hbox); have GW158 := (bw hg); have GE158 := (bw hg); replace HB := (bs hb); clear hb hbox hg; obtain ⟨hcz3_0, hcz3_1, hcz3_2, hcz3_3, hcz3_4, hfz3_0, hfz3_1, hfz3_2, hfz3_3, hfz3_4⟩ := bc5 BK158))
 refine bodyPost_ret (results_cell_row rfl _ _ gb158 29 #[.int .i64 3, .int .i64 0, .string (⟨#[]⟩ : ByteArray), .bool a0, .int .i64 0] (0, 0) _ rfl (by (with_reducible repeat (first | refine blk_drewN ?_ _ | refine blk_drew ?_ | refine blk_alloc ?_ _)); refine blk_put (cs := #[.int .i64 3, .int .i64 0, .string (⟨#[]⟩ : ByteArray), .bool a0, .int .i64 0]) ?_ 4 _ rfl; (with_reducible repeat (first | refine blk_drewN ?_ _ | refine blk_drew ?_ | refine blk_alloc ?_ _)); refine blk_put (cs := #[.int .i64 3, .int .i64 0, .string (⟨#[]⟩ : ByteArray), .bool false, .int .i64 0]) ?_ 3 _ rfl; (with_reducible repeat (first | refine blk_drewN ?_ _ | refine blk_drew ?_ | refine blk_alloc ?_ _)); refine blk_put (cs := #[.int .i64 3, .int .i64 0, .string (⟨#[]⟩ : ByteArray), .bool false, .int .i64 0]) ?_ 2 _ rfl; (with_reducible repeat (first | refine blk_drewN ?_ _ | refine blk_drew ?_ | refine blk_alloc ?_ _)); refine blk_put (cs := #[.int .i64 3, .int .i64 0, .string (⟨#[]⟩ : ByteArray), .bool false, .int .i64 0]) ?_ 1 _ rfl; (with_reducible repeat (first | refine blk_drewN ?_ _ | refine blk_drew ?_ | refine blk_alloc ?_ _)); refine blk_put (cs := #[.int .i64 0, .int .i64 0, .string (⟨#[]⟩ : ByteArray), .bool false, .int .i64 0]) ?_ 0 _ rfl; (with_reducible repeat (first | refine blk_drewN ?_ _ | refine blk_drew ?_ | refine blk_alloc ?_ _)); exact BK158.out) Tryz.underlying29 rfl (by kernel_rfl)) rfl ?_
 exact ⟨by first | rfl | (simp [errW_none, errW_some] <;> rfl) | (simp [*, errW_none, errW_some] <;> rfl), be⟩
end Go.Proofs.YtcihleahjnpaaaaGreatDoor.P
namespace Go.Proofs.YtcihleahjnpaaaaGreatDoor.P
open Go.RowKit Go.Proofs.YtcihleahjnpaaaaGreatDoor.Q Go.Proofs.YtcihleahjnpaaaaGreatDoor.H Go.Proofs.YtcihleahjnpaaaaGreatDoorW.PrintWords Go.Proofs.YtcihleahjnpaaaaGreatDoorW.PrintLast Go.Proofs.YtcihleahjnpaaaaGreatDoorW.PrintMore
attribute [local go_sem] max2_int min2_int max_two min_two max_three min_three max_four min_four   -- for this text's walks alone
set_option linter.unusedVariables false
set_option linter.unusedSimpArgs false
def value_T.f (a0 : ByteArray) : Option (Int × Int × ByteArray × Bool × Int) := if (a0.size : Int) > 255 then ((value_E.f 3).bind fun bt137 => (some (bt137.1, bt137.2.1, bt137.2.2.1, bt137.2.2.2.1, bt137.2.2.2.2))) else (some (2, 0, a0, false, 0))
set_option maxHeartbeats 8000000 in
set_option maxRecDepth 100000 in
theorem value_T.calls (a0 : ByteArray) (r1 : Int) (r2 : Int) (r3 : ByteArray) (r4 : Bool) (r5 : Int) (w : World) (h : value_T.f a0 = some (r1, r2, r3, r4, r5)) :
  Calls Tryz.prog 28 #[.string a0] w fun e w' => e = .returned (.agg #[.int .i64 r1, .int .i64 r2, .string r3, .bool r4, .int .i64 r5]) ∧ Below w.heap.size w w' := by
 have hu29 := Tryz.underlying29
 have HB := Aside0.mk (Below.refl w.heap.size w)
 have H : (if (a0.size : Int) > 255 then ((value_E.f 3).bind fun bt137 => (some (bt137.1, bt137.2.1, bt137.2.2.1, bt137.2.2.2.1, bt137.2.2.2.2))) else (some (2, 0, a0, false, 0))) = some (r1, r2, r3, r4, r5) := h
 clear h
 by_cases c2 : (a0.size : Int) > 255
 ·rw [if_pos c2] at H
  have c2b0 : decide (255 < (a0.size : Int)) = true := decide_eq_true c2
  have c2b1 : decide (255 < a0.size) = true := decide_eq_true (by omega)
  clear c2
  replace H := Option.bind_eq_some_iff.mp H
  obtain ⟨⟨t137, t138, t139, t140, t141⟩, A30, H⟩ := H
  replace H : (some (t137, t138, t139, t140, t141)) = some (r1, r2, r3, r4, r5) := H
  have A3 := Aside0.mk A30
  clear A30
  simp only [Option.some.injEq, Prod.mk.injEq] at H
  obtain ⟨rfl, rfl, rfl, rfl, rfl⟩ := H
  go_enter Tryz.func28, Tryz.ntmps28
  go_wp2_with (first | ((with_reducible refine gate_dst (N := 2) rfl ?_); refine bx (N := 2) (cs := #[.int .i64 0, .int .i64 0, .string (⟨#[]⟩ : ByteArray), .bool false, .int .i64 0]) (t := 29) ?_; intro gb136 hg w4 hbox hb; have BK136 := Aside0.mk (hbox); have GW136 := (bw hg); have GE136 := (bw hg); replace HB := (bs hb); clear hb hbox hg) | ((with_reducible refine gate_callee (f := 25) rfl ?_); refine gL (some 6) Tryz.func25 #[.int .i64 3] ?_; (with_reducible refine (value_E.calls 3 t137 t138 t139 t140 t141 _ A3.out).mono ?_); rintro e w5 ⟨rfl, hb⟩; refine ⟨_, rfl, ?_⟩; replace BK136 := (bb BK136 hb); replace HB := (bs hb); (try clear hb); obtain ⟨hcz6_0, hcz6_1, hcz6_2, hcz6_3, hcz6_4, hfz6_0, hfz6_1, hfz6_2, hfz6_3, hfz6_4⟩ := bc5 BK136))
  refine bodyPost_ret (results_cell_row rfl _ _ gb136 29 #[.int .i64 t137, .int .i64 t138, .string t139, .bool t140, .int .i64 t141] (0, 0) _ rfl (by (with_reducible repeat (first | refine blk_drewN ?_ _ | refine blk_drew ?_ | refine blk_alloc ?_ _)); refine blk_put (cs := #[.int .i64 t137, .int .i64 t138, .string t139, .bool t140, .int .i64 0]) ?_ 4 _ rfl; (with_reducible repeat (first | refine blk_drewN ?_ _ | refine blk_drew ?_ | refine blk_alloc ?_ _)); refine blk_put (cs := #[.int .i64 t137, .int .i64 t138, .string t139, .bool false, .int .i64 0]) ?_ 3 _ rfl; (with_reducible repeat (first | refine blk_drewN ?_ _ | refine blk_drew ?_ | refine blk_alloc ?_ _)); refine blk_put (cs := #[.int .i64 t137, .int .i64 t138, .string (⟨#[]⟩ : ByteArray), .bool false, .int .i64 0]) ?_ 2 _ rfl; (with_reducible repeat (first | refine blk_drewN ?_ _ | refine blk_drew ?_ | refine blk_alloc ?_ _)); refine blk_put (cs := #[.int .i64 t137, .int .i64 0, .string (⟨#[]⟩ : ByteArray), .bool false, .int .i64 0]) ?_ 1 _ rfl; (with_reducible repeat (first | refine blk_drewN ?_ _ | refine blk_drew ?_ | refine blk_alloc ?_ _)); refine blk_put (cs := #[.int .i64 0, .int .i64 0, .string (⟨#[]⟩ : ByteArray), .bool false, .int .i64 0]) ?_ 0 _ rfl; (with_reducible repeat (first | refine blk_drewN ?_ _ | refine blk_drew ?_ | refine blk_alloc ?_ _)); exact BK136.out) Tryz.underlying29 rfl (by kernel_rfl)) rfl ?_
  exact ⟨by first | rfl | (simp [errW_none, errW_some] <;> rfl) | (simp [*, errW_none, errW_some] <;> rfl), be⟩
 ·rw [if_neg c2] at H
  have c2b0 : decide (255 < (a0.size : Int)) = false := decide_eq_false c2
  have c2b1 : decide (255 < a0.size) = false := decide_eq_false (by omega)
  clear c2
  simp only [Option.some.injEq, Prod.mk.injEq] at H
  obtain ⟨rfl, rfl, rfl, rfl, rfl⟩ := H
  go_enter Tryz.func28, Tryz.ntmps28
  go_wp2_with (first | ((with_reducible refine gate_dst (N := 2) rfl ?_); refine bx (N := 2) (cs := #[.int .i64 0, .int .i64 0, .string (⟨#[]⟩ : ByteArray), .bool false, .int .i64 0]) (t := 29) ?_; intro gb136 hg w7 hbox hb; have BK136 := Aside0.mk (hbox); have GW136 := (bw hg); have GE136 := (bw hg); replace HB := (bs hb); clear hb hbox hg; obtain ⟨hcz8_0, hcz8_1, hcz8_2, hcz8_3, hcz8_4, hfz8_0, hfz8_1, hfz8_2, hfz8_3, hfz8_4⟩ := bc5 BK136))
  refine bodyPost_ret (results_cell_row rfl _ _ gb136 29 #[.int .i64 2, .int .i64 0, .string a0, .bool false, .int .i64 0] (0, 0) _ rfl (by (with_reducible repeat (first | refine blk_drewN ?_ _ | refine blk_drew ?_ | refine blk_alloc ?_ _)); refine blk_put (cs := #[.int .i64 2, .int .i64 0, .string a0, .bool false, .int .i64 0]) ?_ 4 _ rfl; (with_reducible repeat (first | refine blk_drewN ?_ _ | refine blk_drew ?_ | refine blk_alloc ?_ _)); refine blk_put (cs := #[.int .i64 2, .int .i64 0, .string a0, .bool false, .int .i64 0]) ?_ 3 _ rfl; (with_reducible repeat (first | refine blk_drewN ?_ _ | refine blk_drew ?_ | refine blk_alloc ?_ _)); refine blk_put (cs := #[.int .i64 2, .int .i64 0, .string (⟨#[]⟩ : ByteArray), .bool false, .int .i64 0]) ?_ 2 _ rfl; (with_reducible repeat (first | refine blk_drewN ?_ _ | refine blk_drew ?_ | refine blk_alloc ?_ _)); refine blk_put (cs := #[.int .i64 2, .int .i64 0, .string (⟨#[]⟩ : ByteArray), .bool false, .int .i64 0]) ?_ 1 _ rfl; (with_reducible repeat (first | refine blk_drewN ?_ _ | refine blk_drew ?_ | refine blk_alloc ?_ _)); refine blk_put (cs := #[.int .i64 0, .int .i64 0, .string (⟨#[]⟩ : ByteArray), .bool false, .int .i64 0]) ?_ 0 _ rfl; (with_reducible repeat (first | refine blk_drewN ?_ _ | refine blk_drew ?_ | refine blk_alloc ?_ _)); exact BK136.out) Tryz.underlying29 rfl (by kernel_rfl)) rfl ?_
  exact ⟨by first | rfl | (simp [errW_none, errW_some] <;> rfl) | (simp [*, errW_none, errW_some] <;> rfl), be⟩
end Go.Proofs.YtcihleahjnpaaaaGreatDoor.P
