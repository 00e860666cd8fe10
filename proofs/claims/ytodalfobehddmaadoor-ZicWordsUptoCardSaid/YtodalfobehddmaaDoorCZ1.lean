/- What functions of the program come to, proved by walking their code; no condition beside those that each theorem states (part 1 of 4) -/
import Derived.Test.YtodalfobehddmaaDoorProg
import Derived.Laws.Rows
import Derived.Below
import Derived.Deep.Draws
import Derived.Deep.AppendLies
import Derived.Maps.AppendAt
import Derived.OwnWalk
import Derived.Laws.BytesArg
import Derived.Laws.MakeOwn
import Derived.Laws.OwnMore
import Derived.Deep.OwnRows
import Derived.Tactics
import Derived.Lib.ConvBytes
import Derived.Laws.Slices
import Derived.WalkKit
import Derived.KernelRfl
import Derived.RowKit3
import Derived.Deep.LoopGhost
import Derived.Deep.QuietTactic
import Derived.BigQuiet
import Derived.WideLaws
import Derived.Deep.DeepCutAuto
import Derived.Deep.CutBlock
import Derived.Deep.RegionHeld3
import Derived.Lib.AppendStr
import Derived.ArgAppend
import Derived.Laws.IdiomCopy
import Derived.OrdersHeld
import Derived.Laws.BitsLemmas
import Derived.RowKit
import Derived.Test.YtodalfobehddmaaDoorWWords
import Derived.Test.YtodalfobehddmaaDoorWLast
import Derived.Test.YtodalfobehddmaaDoorWTab
import Derived.Test.YtodalfobehddmaaDoorWEqStruct
import Derived.Test.YtodalfobehddmaaDoorWRepsOne
import Derived.Test.YtodalfobehddmaaDoorWGuard
import Derived.Lib.Hide
import Derived.Laws.IdiomStrings
import Derived.Shelf.Strings.Builder1
import Derived.Shelf.Strings.Builder2
import Derived.Shelf.Strings.OnBuilder
import Derived.Shelf.Strconv.Itoa0
import Derived.Shelf.Strconv.Itoa1
import Derived.Shelf.LaysM
import Derived.Shelf.Strconv.Itoa2
import Derived.Shelf.Strconv.Itoa3
import Derived.Shelf.Strings.Search1
import Derived.Shelf.Strings.Search2
import Derived.Shelf.Strings.Search3
import Derived.Shelf.Strings.Cut
import Derived.Shelf.Strings.Count
import Derived.Shelf.Strings.Shaped
import Derived.Shelf.Strings.Prefix
import Derived.Shelf.Strings.Split
import Derived.Shelf.Strings.SplitShaped
import Derived.Shelf.Bits.Mul64
import Derived.Shelf.Unicode.DecodeSlow
import Derived.Lib.IndexBytes
import Derived.Laws.RangeAny
import Derived.Lib.CutLaws
import Derived.Lib.SplitLaws
import Derived.Lib.Strings
set_option linter.unusedVariables false
set_option linter.unusedSimpArgs false
namespace Go.Proofs.YtodalfobehddmaaDoor.Mx
open Go
def mx (a b : Int) : Int := if a < b then b else a
theorem max2_int (k k' : IntKind) (x y : Int) : Builtin.max2 (.int k x) (.int k' y) = pure (.int k (if x < y then y else x)) := by
  unfold Builtin.max2
  simp
theorem min2_int (k k' : IntKind) (x y : Int) : Builtin.min2 (.int k x) (.int k' y) = pure (.int k (if y < x then y else x)) := by
  unfold Builtin.min2
  simp
theorem max_two (ats : Array TypeId) (ty : TypeId) (a b : Value) : Builtin.max_ ats ty #[a, b] = (Builtin.max2 a b >>= fun s => pure s) := by
  unfold Builtin.max_
  simp
theorem min_two (ats : Array TypeId) (ty : TypeId) (a b : Value) : Builtin.min_ ats ty #[a, b] = (Builtin.min2 a b >>= fun s => pure s) := by
  unfold Builtin.min_
  simp
theorem max_three (ats : Array TypeId) (ty : TypeId) (a b c : Value) : Builtin.max_ ats ty #[a, b, c] = (Builtin.max2 a b >>= fun s => Builtin.max2 s c >>= fun s => pure s) := by
  unfold Builtin.max_
  simp
theorem min_three (ats : Array TypeId) (ty : TypeId) (a b c : Value) : Builtin.min_ ats ty #[a, b, c] = (Builtin.min2 a b >>= fun s => Builtin.min2 s c >>= fun s => pure s) := by
  unfold Builtin.min_
  simp
section
variable {P : Program} {ops : Array Oper} {Q : Exit → Act → World → Prop} {o : Oper} {rest : List Oper} {a : Act} {W : World}
theorem gate_callee {f : FuncId} {xs : Array Operand} {ts : Array TypeId} (_ : o.op = .call { callee := .value (.func f), args := xs, argTypes := ts }) (go : wpList P ops Q (o :: rest) a W) : wpList P ops Q (o :: rest) a W := go
end
end Go.Proofs.YtodalfobehddmaaDoor.Mx
namespace Go.Proofs.YtodalfobehddmaaDoor.Z
open Go.RowKit Go.Proofs.YtodalfobehddmaaDoorW.PrintWords Go.Proofs.YtodalfobehddmaaDoorW.PrintLast Go.Proofs.YtodalfobehddmaaDoor.Mx
attribute [local go_sem] max2_int min2_int max_two min_two max_three min_three   -- for this text's walks alone
def errW : Option Int → Value
  | none => .nilIface
  | some c => .iface 0 (.int .i64 c)
theorem errW_none : errW none = .nilIface := rfl
theorem errW_some (c : Int) : errW (some c) = .iface 0 (.int .i64 c) := rfl
theorem info9 : (Tryd.prog.info? 9).map (fun i => (i.zero, i.size, i.bytes)) = some (some (.string ⟨#[]⟩), 1, 16) := by kernel_rfl
theorem info46 : (Tryd.prog.info? 46).map (fun i => (i.zero, i.size, i.bytes)) = some (some (.agg #[(.int .i64 0), (.int .i64 0), (.bool false)]), 3, 24) := by kernel_rfl
structure S46 where
  f0 : Int
  f1 : Int
  f2 : Bool
def z46 : S46 := ⟨(0 : Int), (0 : Int), false⟩
def k46 : Kd S46 := Kd.iso (Kd.pair (Kd.int .i64) (Kd.pair (Kd.int .i64) Kd.bool)) (fun x : S46 => (x.f0, x.f1, x.f2))
theorem k46_open {w : World} {x : S46} {cs : List Value} (h : k46.K w x cs) : cs = [.int .i64 x.f0, .int .i64 x.f1, .bool x.f2] := by
  obtain ⟨_, _, rfl, rfl, ⟨_, _, rfl, rfl, rfl⟩⟩ := h
  exact rfl
theorem k46_openM {w : World} {base : Nat} {ok : Nat → Prop} {x : S46} {cs : List Value} (h : k46.M w base ok x cs) : cs = [.int .i64 x.f0, .int .i64 x.f1, .bool x.f2] := by
  obtain ⟨_, _, rfl, rfl, ⟨_, _, rfl, rfl, rfl⟩⟩ := h
  exact rfl
theorem k46_mk (w : World) (x : S46)  : k46.K w x [.int .i64 x.f0, .int .i64 x.f1, .bool x.f2] := ⟨[.int .i64 x.f0], [.int .i64 x.f1, .bool x.f2], rfl, rfl, ⟨[.int .i64 x.f1], [.bool x.f2], rfl, rfl, rfl⟩⟩
theorem k46_mkM (w : World) (base : Nat) (ok : Nat → Prop) (x : S46)  : k46.M w base ok x [.int .i64 x.f0, .int .i64 x.f1, .bool x.f2] := ⟨[.int .i64 x.f0], [.int .i64 x.f1, .bool x.f2], rfl, rfl, ⟨[.int .i64 x.f1], [.bool x.f2], rfl, rfl, rfl⟩⟩
def rd_T46 (xs : List S46) (i : Int) : S46 := xs.getD i.toNat z46
theorem at_T46 {w : World} {A : Option Addr} {n : Nat} {xs : List S46} (h : Kd.C k46 w A n xs) (i : Int) (h0 : 0 ≤ i) (h1 : i < n) : ∃ ad , A = some ad ∧ w.cell? (ad.add (i.toNat * 3)) = some (.int .i64 (rd_T46 xs i).f0) ∧ w.cell? ⟨(ad.add (i.toNat * 3)).block, (ad.add (i.toNat * 3)).off + 1, none⟩ = some (.int .i64 (rd_T46 xs i).f1) ∧ w.cell? ⟨(ad.add (i.toNat * 3)).block, (ad.add (i.toNat * 3)).off + 2, none⟩ = some (.bool (rd_T46 xs i).f2) := by
  obtain ⟨ad, c, e, _, hK, hc0⟩ := Kd.C_get h z46 i h0 h1
  have hc : ∀ j u, c[j]? = some u → w.cell? (ad.add (i.toNat * 3 + j)) = some u := hc0
  obtain rfl := k46_open hK
  exact ⟨ad, e, hc 0 _ rfl, by rw [← add_field _ _ 1 (by omega)]; exact hc 1 _ rfl, by rw [← add_field _ _ 2 (by omega)]; exact hc 2 _ rfl⟩
def rd_L4 (xs : List (List S46)) (i : Int) : (List S46) := xs.getD i.toNat ([] : List S46)
theorem at_L4 {w : World} {A : Option Addr} {n : Nat} {xs : List (List S46)} (h : Kd.C (Kd.slice 46 k46) w A n xs) (i : Int) (h0 : 0 ≤ i) (h1 : i < n) : ∃ ad A0 c0, A = some ad ∧ w.cell? (ad.add i.toNat) = some (.slice A0 (rd_L4 xs i).length c0) ∧ (rd_L4 xs i).length ≤ c0 ∧ k46.C w A0 (rd_L4 xs i).length (rd_L4 xs i) := by
  obtain ⟨ad, c, e, _, hK, hc0⟩ := Kd.C_get h ([] : List S46) i h0 h1
  have hc : ∀ j u, c[j]? = some u → w.cell? (ad.add (i.toNat * 1 + j)) = some u := hc0
  obtain ⟨A0, c0, rfl, l0, g0⟩ := hK
  exact ⟨ad, A0, c0, e, by have hq := hc 0 _ rfl; rwa [Nat.mul_one, Nat.add_zero] at hq, l0, g0⟩
structure S24 where
  f0 : (List S46)
  f1 : Bool
  f2 : Int
def z24 : S24 := ⟨([] : List S46), false, (0 : Int)⟩
def k24 : Kd S24 := Kd.iso (Kd.pair (Kd.slice 46 k46) (Kd.pair Kd.bool (Kd.int .i64))) (fun x : S24 => (x.f0, x.f1, x.f2))
theorem k24_open {w : World} {x : S24} {cs : List Value} (h : k24.K w x cs) : ∃ A0 c0, cs = [.slice A0 x.f0.length c0, .bool x.f1, .int .i64 x.f2] ∧ x.f0.length ≤ c0 ∧ k46.C w A0 x.f0.length x.f0 := by
  obtain ⟨_, _, rfl, ⟨A0, c0, rfl, l0, g0⟩, ⟨_, _, rfl, rfl, rfl⟩⟩ := h
  exact ⟨A0, c0, rfl, l0, g0⟩
theorem k24_openM {w : World} {base : Nat} {ok : Nat → Prop} {x : S24} {cs : List Value} (h : k24.M w base ok x cs) : ∃ v0, cs = [v0, .bool x.f1, .int .i64 x.f2] ∧ k46.R 46 w base ok v0 x.f0 := by
  obtain ⟨_, _, rfl, ⟨v0, rfl, g0⟩, ⟨_, _, rfl, rfl, rfl⟩⟩ := h
  exact ⟨v0, rfl, g0⟩
theorem k24_mk (w : World) (x : S24) {A0 : Option Addr} {c0 : Nat} (l0 : x.f0.length ≤ c0) (g0 : k46.C w A0 x.f0.length x.f0) : k24.K w x [.slice A0 x.f0.length c0, .bool x.f1, .int .i64 x.f2] := ⟨[.slice A0 x.f0.length c0], [.bool x.f1, .int .i64 x.f2], rfl, ⟨A0, c0, rfl, l0, g0⟩, ⟨[.bool x.f1], [.int .i64 x.f2], rfl, rfl, rfl⟩⟩
theorem k24_mkM (w : World) (base : Nat) (ok : Nat → Prop) (x : S24) {v0 : Value} (g0 : k46.R 46 w base ok v0 x.f0) : k24.M w base ok x [v0, .bool x.f1, .int .i64 x.f2] := ⟨[v0], [.bool x.f1, .int .i64 x.f2], rfl, ⟨v0, rfl, g0⟩, ⟨[.bool x.f1], [.int .i64 x.f2], rfl, rfl, rfl⟩⟩
def rd_T24 (xs : List S24) (i : Int) : S24 := xs.getD i.toNat z24
theorem at_T24 {w : World} {A : Option Addr} {n : Nat} {xs : List S24} (h : Kd.C k24 w A n xs) (i : Int) (h0 : 0 ≤ i) (h1 : i < n) : ∃ ad A0 c0, A = some ad ∧ w.cell? (ad.add (i.toNat * 3)) = some (.slice A0 (rd_T24 xs i).f0.length c0) ∧ w.cell? ⟨(ad.add (i.toNat * 3)).block, (ad.add (i.toNat * 3)).off + 1, none⟩ = some (.bool (rd_T24 xs i).f1) ∧ w.cell? ⟨(ad.add (i.toNat * 3)).block, (ad.add (i.toNat * 3)).off + 2, none⟩ = some (.int .i64 (rd_T24 xs i).f2) ∧ (rd_T24 xs i).f0.length ≤ c0 ∧ k46.C w A0 (rd_T24 xs i).f0.length (rd_T24 xs i).f0 := by
  obtain ⟨ad, c, e, _, hK, hc0⟩ := Kd.C_get h z24 i h0 h1
  have hc : ∀ j u, c[j]? = some u → w.cell? (ad.add (i.toNat * 3 + j)) = some u := hc0
  obtain ⟨A0, c0, rfl, l0, g0⟩ := k24_open hK
  exact ⟨ad, A0, c0, e, hc 0 _ rfl, by rw [← add_field _ _ 1 (by omega)]; exact hc 1 _ rfl, by rw [← add_field _ _ 2 (by omega)]; exact hc 2 _ rfl, l0, g0⟩
structure S31 where
  f0 : Int
  f1 : Int
def z31 : S31 := ⟨(0 : Int), (0 : Int)⟩
def k31 : Kd S31 := Kd.iso (Kd.pair (Kd.int .i64) (Kd.int .i64)) (fun x : S31 => (x.f0, x.f1))
theorem k31_open {w : World} {x : S31} {cs : List Value} (h : k31.K w x cs) : cs = [.int .i64 x.f0, .int .i64 x.f1] := by
  obtain ⟨_, _, rfl, rfl, rfl⟩ := h
  exact rfl
theorem k31_openM {w : World} {base : Nat} {ok : Nat → Prop} {x : S31} {cs : List Value} (h : k31.M w base ok x cs) : cs = [.int .i64 x.f0, .int .i64 x.f1] := by
  obtain ⟨_, _, rfl, rfl, rfl⟩ := h
  exact rfl
theorem k31_mk (w : World) (x : S31)  : k31.K w x [.int .i64 x.f0, .int .i64 x.f1] := ⟨[.int .i64 x.f0], [.int .i64 x.f1], rfl, rfl, rfl⟩
theorem k31_mkM (w : World) (base : Nat) (ok : Nat → Prop) (x : S31)  : k31.M w base ok x [.int .i64 x.f0, .int .i64 x.f1] := ⟨[.int .i64 x.f0], [.int .i64 x.f1], rfl, rfl, rfl⟩
def rd_T31 (xs : List S31) (i : Int) : S31 := xs.getD i.toNat z31
theorem at_T31 {w : World} {A : Option Addr} {n : Nat} {xs : List S31} (h : Kd.C k31 w A n xs) (i : Int) (h0 : 0 ≤ i) (h1 : i < n) : ∃ ad , A = some ad ∧ w.cell? (ad.add (i.toNat * 2)) = some (.int .i64 (rd_T31 xs i).f0) ∧ w.cell? ⟨(ad.add (i.toNat * 2)).block, (ad.add (i.toNat * 2)).off + 1, none⟩ = some (.int .i64 (rd_T31 xs i).f1) := by
  obtain ⟨ad, c, e, _, hK, hc0⟩ := Kd.C_get h z31 i h0 h1
  have hc : ∀ j u, c[j]? = some u → w.cell? (ad.add (i.toNat * 2 + j)) = some u := hc0
  obtain rfl := k31_open hK
  exact ⟨ad, e, hc 0 _ rfl, by rw [← add_field _ _ 1 (by omega)]; exact hc 1 _ rfl⟩
end Go.Proofs.YtodalfobehddmaaDoor.Z
namespace Go.Proofs.YtodalfobehddmaaDoor.Y.S
open Go.RowKit Go.Proofs.YtodalfobehddmaaDoorW.PrintWords Go.Proofs.YtodalfobehddmaaDoorW.PrintLast Go.Proofs.YtodalfobehddmaaDoor.Mx
attribute [local go_sem] max2_int min2_int max_two min_two max_three min_three   -- for this text's walks alone
open Go.Proofs.YtodalfobehddmaaDoor.Z
end Go.Proofs.YtodalfobehddmaaDoor.Y.S
namespace Go.Proofs.YtodalfobehddmaaDoor.Z
open Go.RowKit Go.Proofs.YtodalfobehddmaaDoorW.PrintWords Go.Proofs.YtodalfobehddmaaDoorW.PrintLast Go.Proofs.YtodalfobehddmaaDoor.Mx
def leapB (y : Int) : Bool := y % 4 == 0 && (y % 100 != 0 || y % 400 == 0)
theorem leapB_calls (y : Int) (w : World) (h0 : 0 ≤ y) (h1 : y ≤ 99999) :
    Calls Tryd.prog 98 #[.int .i64 y] w fun e w' => e = .returned (.bool (leapB y)) ∧ w = w' := by
  go_enter Tryd.func98, Tryd.ntmps98
  go_wp2
  · go_ret
    refine ⟨?_, rfl⟩
    rename_i h2 h3
    simp [leapB, h2, h3]
  · go_ret
    refine ⟨?_, rfl⟩
    rename_i h2 h3
    simp [leapB, h2, h3]
  · go_ret
    refine ⟨?_, rfl⟩
    rename_i h2
    simp [leapB, h2]
def lastN (y m : Int) : Int :=
  if m = 2 then (if leapB y = true then 29 else 28) else if m = 4 ∨ m = 6 ∨ m = 9 ∨ m = 11 then 30 else 31
def day_Last.f (a0 : Int) (a1 : Int) : Option (Int × Bool) :=
  if a0 < 1 ∨ 9999 < a0 ∨ a1 < 1 ∨ 12 < a1 then some (0, false) else some (lastN a0 a1, true)
theorem last_no (y m : Int) (w : World) (h : y < 1 ∨ 9999 < y ∨ m < 1 ∨ 12 < m) :
    Calls Tryd.prog 79 #[.int .i64 y, .int .i64 m] w fun e w' => e = .returned (.tuple #[.int .i64 0, .bool false]) ∧ w = w' := by
  go_enter Tryd.func79, Tryd.ntmps79
  go_wp2_with fail
  all_goals first | (exfalso; omega) | (go_ret2; exact ⟨rfl, rfl⟩)
theorem daysAt0 (w : World) : (Instr.index 142 (.agg #[.int .i64 31, .int .i64 28, .int .i64 31, .int .i64 30, .int .i64 31, .int .i64 30, .int .i64 31, .int .i64 31, .int .i64 30, .int .i64 31, .int .i64 30, .int .i64 31]) (.int .i64 0)).run Tryd.prog w = .ok (.int .i64 31) w := by kernel_rfl
theorem daysAt1 (w : World) : (Instr.index 142 (.agg #[.int .i64 31, .int .i64 28, .int .i64 31, .int .i64 30, .int .i64 31, .int .i64 30, .int .i64 31, .int .i64 31, .int .i64 30, .int .i64 31, .int .i64 30, .int .i64 31]) (.int .i64 1)).run Tryd.prog w = .ok (.int .i64 28) w := by kernel_rfl
theorem daysAt2 (w : World) : (Instr.index 142 (.agg #[.int .i64 31, .int .i64 28, .int .i64 31, .int .i64 30, .int .i64 31, .int .i64 30, .int .i64 31, .int .i64 31, .int .i64 30, .int .i64 31, .int .i64 30, .int .i64 31]) (.int .i64 2)).run Tryd.prog w = .ok (.int .i64 31) w := by kernel_rfl
theorem daysAt3 (w : World) : (Instr.index 142 (.agg #[.int .i64 31, .int .i64 28, .int .i64 31, .int .i64 30, .int .i64 31, .int .i64 30, .int .i64 31, .int .i64 31, .int .i64 30, .int .i64 31, .int .i64 30, .int .i64 31]) (.int .i64 3)).run Tryd.prog w = .ok (.int .i64 30) w := by kernel_rfl
theorem daysAt4 (w : World) : (Instr.index 142 (.agg #[.int .i64 31, .int .i64 28, .int .i64 31, .int .i64 30, .int .i64 31, .int .i64 30, .int .i64 31, .int .i64 31, .int .i64 30, .int .i64 31, .int .i64 30, .int .i64 31]) (.int .i64 4)).run Tryd.prog w = .ok (.int .i64 31) w := by kernel_rfl
theorem daysAt5 (w : World) : (Instr.index 142 (.agg #[.int .i64 31, .int .i64 28, .int .i64 31, .int .i64 30, .int .i64 31, .int .i64 30, .int .i64 31, .int .i64 31, .int .i64 30, .int .i64 31, .int .i64 30, .int .i64 31]) (.int .i64 5)).run Tryd.prog w = .ok (.int .i64 30) w := by kernel_rfl
theorem daysAt6 (w : World) : (Instr.index 142 (.agg #[.int .i64 31, .int .i64 28, .int .i64 31, .int .i64 30, .int .i64 31, .int .i64 30, .int .i64 31, .int .i64 31, .int .i64 30, .int .i64 31, .int .i64 30, .int .i64 31]) (.int .i64 6)).run Tryd.prog w = .ok (.int .i64 31) w := by kernel_rfl
theorem daysAt7 (w : World) : (Instr.index 142 (.agg #[.int .i64 31, .int .i64 28, .int .i64 31, .int .i64 30, .int .i64 31, .int .i64 30, .int .i64 31, .int .i64 31, .int .i64 30, .int .i64 31, .int .i64 30, .int .i64 31]) (.int .i64 7)).run Tryd.prog w = .ok (.int .i64 31) w := by kernel_rfl
theorem daysAt8 (w : World) : (Instr.index 142 (.agg #[.int .i64 31, .int .i64 28, .int .i64 31, .int .i64 30, .int .i64 31, .int .i64 30, .int .i64 31, .int .i64 31, .int .i64 30, .int .i64 31, .int .i64 30, .int .i64 31]) (.int .i64 8)).run Tryd.prog w = .ok (.int .i64 30) w := by kernel_rfl
theorem daysAt9 (w : World) : (Instr.index 142 (.agg #[.int .i64 31, .int .i64 28, .int .i64 31, .int .i64 30, .int .i64 31, .int .i64 30, .int .i64 31, .int .i64 31, .int .i64 30, .int .i64 31, .int .i64 30, .int .i64 31]) (.int .i64 9)).run Tryd.prog w = .ok (.int .i64 31) w := by kernel_rfl
theorem daysAt10 (w : World) : (Instr.index 142 (.agg #[.int .i64 31, .int .i64 28, .int .i64 31, .int .i64 30, .int .i64 31, .int .i64 30, .int .i64 31, .int .i64 31, .int .i64 30, .int .i64 31, .int .i64 30, .int .i64 31]) (.int .i64 10)).run Tryd.prog w = .ok (.int .i64 30) w := by kernel_rfl
theorem daysAt11 (w : World) : (Instr.index 142 (.agg #[.int .i64 31, .int .i64 28, .int .i64 31, .int .i64 30, .int .i64 31, .int .i64 30, .int .i64 31, .int .i64 31, .int .i64 30, .int .i64 31, .int .i64 30, .int .i64 31]) (.int .i64 11)).run Tryd.prog w = .ok (.int .i64 31) w := by kernel_rfl
set_option maxRecDepth 100000 in
theorem last_feb (y : Int) (w : World) (h0 : 1 ≤ y) (h1 : y ≤ 9999) :
    Calls Tryd.prog 79 #[.int .i64 y, .int .i64 2] w fun e w' => e = .returned (.tuple #[.int .i64 (lastN y 2), .bool true]) ∧ w = w' := by
  cases hl : leapB y with
  | true =>
    have hv : lastN y 2 = 29 := by simp [lastN, hl]
    have HL := Lib.hid hl; clear hl
    rw [hv]
    clear hv
    have i1 := daysAt1
    go_enter Tryd.func79, Tryd.ntmps79
    go_wp2_with (go_at_call 98; (with_reducible refine (leapB_calls _ _ (by omega) (by omega)).mono ?_); rintro e w' ⟨rfl, rfl⟩; rw [HL.out])
    all_goals first | (exfalso; omega) | (go_ret2; exact ⟨rfl, rfl⟩)
  | false =>
    have hv : lastN y 2 = 28 := by simp [lastN, hl]
    have HL := Lib.hid hl; clear hl
    rw [hv]
    clear hv
    have i1 := daysAt1
    go_enter Tryd.func79, Tryd.ntmps79
    go_wp2_with (go_at_call 98; (with_reducible refine (leapB_calls _ _ (by omega) (by omega)).mono ?_); rintro e w' ⟨rfl, rfl⟩; rw [HL.out])
    all_goals first | (exfalso; omega) | (go_ret2; exact ⟨rfl, rfl⟩)
set_option maxRecDepth 100000 in
theorem last_1 (y : Int) (w : World) (h0 : 1 ≤ y) (h1 : y ≤ 9999) :
    Calls Tryd.prog 79 #[.int .i64 y, .int .i64 1] w fun e w' => e = .returned (.tuple #[.int .i64 31, .bool true]) ∧ w = w' := by
  have i1 := daysAt0
  go_enter Tryd.func79, Tryd.ntmps79
  go_wp2_with fail
  all_goals first | (exfalso; omega) | (go_ret2; exact ⟨rfl, rfl⟩)
set_option maxRecDepth 100000 in
theorem last_3 (y : Int) (w : World) (h0 : 1 ≤ y) (h1 : y ≤ 9999) :
    Calls Tryd.prog 79 #[.int .i64 y, .int .i64 3] w fun e w' => e = .returned (.tuple #[.int .i64 31, .bool true]) ∧ w = w' := by
  have i1 := daysAt2
  go_enter Tryd.func79, Tryd.ntmps79
  go_wp2_with fail
  all_goals first | (exfalso; omega) | (go_ret2; exact ⟨rfl, rfl⟩)
set_option maxRecDepth 100000 in
theorem last_4 (y : Int) (w : World) (h0 : 1 ≤ y) (h1 : y ≤ 9999) :
    Calls Tryd.prog 79 #[.int .i64 y, .int .i64 4] w fun e w' => e = .returned (.tuple #[.int .i64 30, .bool true]) ∧ w = w' := by
  have i1 := daysAt3
  go_enter Tryd.func79, Tryd.ntmps79
  go_wp2_with fail
  all_goals first | (exfalso; omega) | (go_ret2; exact ⟨rfl, rfl⟩)
set_option maxRecDepth 100000 in
theorem last_5 (y : Int) (w : World) (h0 : 1 ≤ y) (h1 : y ≤ 9999) :
    Calls Tryd.prog 79 #[.int .i64 y, .int .i64 5] w fun e w' => e = .returned (.tuple #[.int .i64 31, .bool true]) ∧ w = w' := by
  have i1 := daysAt4
  go_enter Tryd.func79, Tryd.ntmps79
  go_wp2_with fail
  all_goals first | (exfalso; omega) | (go_ret2; exact ⟨rfl, rfl⟩)
set_option maxRecDepth 100000 in
theorem last_6 (y : Int) (w : World) (h0 : 1 ≤ y) (h1 : y ≤ 9999) :
    Calls Tryd.prog 79 #[.int .i64 y, .int .i64 6] w fun e w' => e = .returned (.tuple #[.int .i64 30, .bool true]) ∧ w = w' := by
  have i1 := daysAt5
  go_enter Tryd.func79, Tryd.ntmps79
  go_wp2_with fail
  all_goals first | (exfalso; omega) | (go_ret2; exact ⟨rfl, rfl⟩)
set_option maxRecDepth 100000 in
theorem last_7 (y : Int) (w : World) (h0 : 1 ≤ y) (h1 : y ≤ 9999) :
    Calls Tryd.prog 79 #[.int .i64 y, .int .i64 7] w fun e w' => e = .returned (.tuple #[.int .i64 31, .bool true]) ∧ w = w' := by
  have i1 := daysAt6
  go_enter Tryd.func79, Tryd.ntmps79
  go_wp2_with fail
  all_goals first | (exfalso; omega) | (go_ret2; exact ⟨rfl, rfl⟩)
set_option maxRecDepth 100000 in
theorem last_8 (y : Int) (w : World) (h0 : 1 ≤ y) (h1 : y ≤ 9999) :
    Calls Tryd.prog 79 #[.int .i64 y, .int .i64 8] w fun e w' => e = .returned (.tuple #[.int .i64 31, .bool true]) ∧ w = w' := by
  have i1 := daysAt7
  go_enter Tryd.func79, Tryd.ntmps79
  go_wp2_with fail
  all_goals first | (exfalso; omega) | (go_ret2; exact ⟨rfl, rfl⟩)
set_option maxRecDepth 100000 in
theorem last_9 (y : Int) (w : World) (h0 : 1 ≤ y) (h1 : y ≤ 9999) :
    Calls Tryd.prog 79 #[.int .i64 y, .int .i64 9] w fun e w' => e = .returned (.tuple #[.int .i64 30, .bool true]) ∧ w = w' := by
  have i1 := daysAt8
  go_enter Tryd.func79, Tryd.ntmps79
  go_wp2_with fail
  all_goals first | (exfalso; omega) | (go_ret2; exact ⟨rfl, rfl⟩)
set_option maxRecDepth 100000 in
theorem last_10 (y : Int) (w : World) (h0 : 1 ≤ y) (h1 : y ≤ 9999) :
    Calls Tryd.prog 79 #[.int .i64 y, .int .i64 10] w fun e w' => e = .returned (.tuple #[.int .i64 31, .bool true]) ∧ w = w' := by
  have i1 := daysAt9
  go_enter Tryd.func79, Tryd.ntmps79
  go_wp2_with fail
  all_goals first | (exfalso; omega) | (go_ret2; exact ⟨rfl, rfl⟩)
set_option maxRecDepth 100000 in
theorem last_11 (y : Int) (w : World) (h0 : 1 ≤ y) (h1 : y ≤ 9999) :
    Calls Tryd.prog 79 #[.int .i64 y, .int .i64 11] w fun e w' => e = .returned (.tuple #[.int .i64 30, .bool true]) ∧ w = w' := by
  have i1 := daysAt10
  go_enter Tryd.func79, Tryd.ntmps79
  go_wp2_with fail
  all_goals first | (exfalso; omega) | (go_ret2; exact ⟨rfl, rfl⟩)
set_option maxRecDepth 100000 in
theorem last_12 (y : Int) (w : World) (h0 : 1 ≤ y) (h1 : y ≤ 9999) :
    Calls Tryd.prog 79 #[.int .i64 y, .int .i64 12] w fun e w' => e = .returned (.tuple #[.int .i64 31, .bool true]) ∧ w = w' := by
  have i1 := daysAt11
  go_enter Tryd.func79, Tryd.ntmps79
  go_wp2_with fail
  all_goals first | (exfalso; omega) | (go_ret2; exact ⟨rfl, rfl⟩)
theorem last_yes (y m : Int) (w : World) (h0 : 1 ≤ y) (h1 : y ≤ 9999) (h2 : 1 ≤ m) (h3 : m ≤ 12) :
    Calls Tryd.prog 79 #[.int .i64 y, .int .i64 m] w fun e w' => e = .returned (.tuple #[.int .i64 (lastN y m), .bool true]) ∧ w = w' := by
  have hm : m = 1 ∨ m = 2 ∨ m = 3 ∨ m = 4 ∨ m = 5 ∨ m = 6 ∨ m = 7 ∨ m = 8 ∨ m = 9 ∨ m = 10 ∨ m = 11 ∨ m = 12 := by omega
  rcases hm with rfl | rfl | rfl | rfl | rfl | rfl | rfl | rfl | rfl | rfl | rfl | rfl
  · exact last_1 y w h0 h1
  · exact last_feb y w h0 h1
  · exact last_3 y w h0 h1
  · exact last_4 y w h0 h1
  · exact last_5 y w h0 h1
  · exact last_6 y w h0 h1
  · exact last_7 y w h0 h1
  · exact last_8 y w h0 h1
  · exact last_9 y w h0 h1
  · exact last_10 y w h0 h1
  · exact last_11 y w h0 h1
  · exact last_12 y w h0 h1
theorem day_Last.calls (a0 : Int) (a1 : Int) (r1 : Int) (r2 : Bool) (w : World) (h : day_Last.f a0 a1 = some (r1, r2)) :
    Calls Tryd.prog 79 #[.int .i64 a0, .int .i64 a1] w fun e w' => e = .returned (.tuple #[.int .i64 r1, .bool r2]) ∧ Below w.heap.size w w' := by
  unfold day_Last.f at h
  split at h
  · rename_i c
    simp only [Option.some.injEq, Prod.mk.injEq] at h
    obtain ⟨rfl, rfl⟩ := h
    refine (last_no a0 a1 w c).mono ?_
    rintro e w' ⟨rfl, rfl⟩
    exact ⟨rfl, Below.refl _ _⟩
  · rename_i c
    simp only [Option.some.injEq, Prod.mk.injEq] at h
    obtain ⟨rfl, rfl⟩ := h
    refine (last_yes a0 a1 w (by omega) (by omega) (by omega) (by omega)).mono ?_
    rintro e w' ⟨rfl, rfl⟩
    exact ⟨rfl, Below.refl _ _⟩
end Go.Proofs.YtodalfobehddmaaDoor.Z
namespace Go.Proofs.YtodalfobehddmaaDoor.Z
open Go.RowKit Go.Proofs.YtodalfobehddmaaDoorW.PrintWords Go.Proofs.YtodalfobehddmaaDoorW.PrintLast Go.Proofs.YtodalfobehddmaaDoor.Mx
attribute [local go_sem] max2_int min2_int max_two min_two max_three min_three   -- for this text's walks alone
def num_Div.f (a0 : Int) (a1 : Int) : Option (Int × Int × Bool) := if a1 < 1 then (some (0, 0, false)) else (if a1 = 0 then (none) else (if (Int.tmod a0 a1) < 0 then (some (wrap64 ((wrap64 (Int.tdiv a0 a1)) - 1), wrap64 ((Int.tmod a0 a1) + a1), true)) else (some (wrap64 (Int.tdiv a0 a1), Int.tmod a0 a1, true))))
set_option maxHeartbeats 8000000 in
set_option maxRecDepth 100000 in
theorem num_Div.calls (a0 : Int) (a1 : Int) (r1 : Int) (r2 : Int) (r3 : Bool) (w : World) (h : num_Div.f a0 a1 = some (r1, r2, r3)) :
    Calls Tryd.prog 74 #[.int .i64 a0, .int .i64 a1] w fun e w' => e = .returned (.tuple #[.int .i64 r1, .int .i64 r2, .bool r3]) ∧ Drawn0 w w' := by
  have H : (if a1 < 1 then (some (0, 0, false)) else (if a1 = 0 then (none) else (if (Int.tmod a0 a1) < 0 then (some (wrap64 ((wrap64 (Int.tdiv a0 a1)) - 1), wrap64 ((Int.tmod a0 a1) + a1), true)) else (some (wrap64 (Int.tdiv a0 a1), Int.tmod a0 a1, true))))) = some (r1, r2, r3) := h
  clear h
  by_cases c3 : a1 < 1
  · rw [if_pos c3] at H
    have c3b0 : decide (a1 < 1) = true := decide_eq_true c3
    clear c3
    simp only [Option.some.injEq, Prod.mk.injEq] at H
    obtain ⟨rfl, rfl, rfl⟩ := H
    go_enter Tryd.func74, Tryd.ntmps74
    go_wp2
    repeat (go_quiet (fail); try go_wp2)
    go_ret3
    exact ⟨by first | rfl | (simp; done) | (simp [*]; done), by repeat (first | exact Drawn0.refl _ | apply Drawn0.step)⟩
  · rw [if_neg c3] at H
    have c3b0 : decide (a1 < 1) = false := decide_eq_false c3
    clear c3
    by_cases c4 : a1 = 0
    · rw [if_pos c4] at H
      exact absurd H (by simp)
    · rw [if_neg c4] at H
      have c4b0 : (a1 == 0) = false := beq_eq_false_iff_ne.mpr c4
      have c4b1 : (a1 != 0) = true := bne_iff_ne.mpr c4
      by_cases c5 : (Int.tmod a0 a1) < 0
      · rw [if_pos c5] at H
        have c5b0 : decide ((Int.tmod a0 a1) < 0) = true := decide_eq_true c5
        clear c5
        simp only [Option.some.injEq, Prod.mk.injEq] at H
        obtain ⟨rfl, rfl, rfl⟩ := H
        go_enter Tryd.func74, Tryd.ntmps74
        go_wp2
        repeat (go_quiet (fail); try go_wp2)
        go_ret3
        exact ⟨by first | rfl | (simp; done) | (simp [*]; done), by repeat (first | exact Drawn0.refl _ | apply Drawn0.step)⟩
      · rw [if_neg c5] at H
        have c5b0 : decide ((Int.tmod a0 a1) < 0) = false := decide_eq_false c5
        clear c5
        simp only [Option.some.injEq, Prod.mk.injEq] at H
        obtain ⟨rfl, rfl, rfl⟩ := H
        go_enter Tryd.func74, Tryd.ntmps74
        go_wp2
        repeat (go_quiet (fail); try go_wp2)
        go_ret3
        exact ⟨by first | rfl | (simp; done) | (simp [*]; done), by repeat (first | exact Drawn0.refl _ | apply Drawn0.step)⟩
def day_Date.j0 : Nat → Int → Bool → Option (Int × Int × Int × Bool)
  | 0, _, _ => none
  | k + 1, x0, x15 => if x15 = true then (some (0, 0, 0, false)) else ((num_Div.f (wrap64 (x0 + 719468)) 146097).bind fun bt101 => (if (wrap64 ((wrap64 (Int.tdiv (wrap64 ((wrap64 (5 * (wrap64 (bt101.2.1 - (wrap64 ((wrap64 ((wrap64 (365 * (wrap64 (Int.tdiv (wrap64 ((wrap64 ((wrap64 (bt101.2.1 - (wrap64 (Int.tdiv bt101.2.1 1460)))) + (wrap64 (Int.tdiv bt101.2.1 36524)))) - (wrap64 (Int.tdiv bt101.2.1 146096)))) 365)))) + (wrap64 (Int.tdiv (wrap64 (Int.tdiv (wrap64 ((wrap64 ((wrap64 (bt101.2.1 - (wrap64 (Int.tdiv bt101.2.1 1460)))) + (wrap64 (Int.tdiv bt101.2.1 36524)))) - (wrap64 (Int.tdiv bt101.2.1 146096)))) 365)) 4)))) - (wrap64 (Int.tdiv (wrap64 (Int.tdiv (wrap64 ((wrap64 ((wrap64 (bt101.2.1 - (wrap64 (Int.tdiv bt101.2.1 1460)))) + (wrap64 (Int.tdiv bt101.2.1 36524)))) - (wrap64 (Int.tdiv bt101.2.1 146096)))) 365)) 100)))))))) + 2)) 153)) + 3)) > 12 then (some (wrap64 ((wrap64 (400 * bt101.1)) + (wrap64 ((wrap64 (Int.tdiv (wrap64 ((wrap64 ((wrap64 (bt101.2.1 - (wrap64 (Int.tdiv bt101.2.1 1460)))) + (wrap64 (Int.tdiv bt101.2.1 36524)))) - (wrap64 (Int.tdiv bt101.2.1 146096)))) 365)) + 1))), wrap64 ((wrap64 ((wrap64 (Int.tdiv (wrap64 ((wrap64 (5 * (wrap64 (bt101.2.1 - (wrap64 ((wrap64 ((wrap64 (365 * (wrap64 (Int.tdiv (wrap64 ((wrap64 ((wrap64 (bt101.2.1 - (wrap64 (Int.tdiv bt101.2.1 1460)))) + (wrap64 (Int.tdiv bt101.2.1 36524)))) - (wrap64 (Int.tdiv bt101.2.1 146096)))) 365)))) + (wrap64 (Int.tdiv (wrap64 (Int.tdiv (wrap64 ((wrap64 ((wrap64 (bt101.2.1 - (wrap64 (Int.tdiv bt101.2.1 1460)))) + (wrap64 (Int.tdiv bt101.2.1 36524)))) - (wrap64 (Int.tdiv bt101.2.1 146096)))) 365)) 4)))) - (wrap64 (Int.tdiv (wrap64 (Int.tdiv (wrap64 ((wrap64 ((wrap64 (bt101.2.1 - (wrap64 (Int.tdiv bt101.2.1 1460)))) + (wrap64 (Int.tdiv bt101.2.1 36524)))) - (wrap64 (Int.tdiv bt101.2.1 146096)))) 365)) 100)))))))) + 2)) 153)) + 3)) - 12), wrap64 ((wrap64 ((wrap64 (bt101.2.1 - (wrap64 ((wrap64 ((wrap64 (365 * (wrap64 (Int.tdiv (wrap64 ((wrap64 ((wrap64 (bt101.2.1 - (wrap64 (Int.tdiv bt101.2.1 1460)))) + (wrap64 (Int.tdiv bt101.2.1 36524)))) - (wrap64 (Int.tdiv bt101.2.1 146096)))) 365)))) + (wrap64 (Int.tdiv (wrap64 (Int.tdiv (wrap64 ((wrap64 ((wrap64 (bt101.2.1 - (wrap64 (Int.tdiv bt101.2.1 1460)))) + (wrap64 (Int.tdiv bt101.2.1 36524)))) - (wrap64 (Int.tdiv bt101.2.1 146096)))) 365)) 4)))) - (wrap64 (Int.tdiv (wrap64 (Int.tdiv (wrap64 ((wrap64 ((wrap64 (bt101.2.1 - (wrap64 (Int.tdiv bt101.2.1 1460)))) + (wrap64 (Int.tdiv bt101.2.1 36524)))) - (wrap64 (Int.tdiv bt101.2.1 146096)))) 365)) 100)))))) - (wrap64 (Int.tdiv (wrap64 ((wrap64 (153 * (wrap64 (Int.tdiv (wrap64 ((wrap64 (5 * (wrap64 (bt101.2.1 - (wrap64 ((wrap64 ((wrap64 (365 * (wrap64 (Int.tdiv (wrap64 ((wrap64 ((wrap64 (bt101.2.1 - (wrap64 (Int.tdiv bt101.2.1 1460)))) + (wrap64 (Int.tdiv bt101.2.1 36524)))) - (wrap64 (Int.tdiv bt101.2.1 146096)))) 365)))) + (wrap64 (Int.tdiv (wrap64 (Int.tdiv (wrap64 ((wrap64 ((wrap64 (bt101.2.1 - (wrap64 (Int.tdiv bt101.2.1 1460)))) + (wrap64 (Int.tdiv bt101.2.1 36524)))) - (wrap64 (Int.tdiv bt101.2.1 146096)))) 365)) 4)))) - (wrap64 (Int.tdiv (wrap64 (Int.tdiv (wrap64 ((wrap64 ((wrap64 (bt101.2.1 - (wrap64 (Int.tdiv bt101.2.1 1460)))) + (wrap64 (Int.tdiv bt101.2.1 36524)))) - (wrap64 (Int.tdiv bt101.2.1 146096)))) 365)) 100)))))))) + 2)) 153)))) + 2)) 5)))) + 1), true)) else (some (wrap64 ((wrap64 (400 * bt101.1)) + (wrap64 (Int.tdiv (wrap64 ((wrap64 ((wrap64 (bt101.2.1 - (wrap64 (Int.tdiv bt101.2.1 1460)))) + (wrap64 (Int.tdiv bt101.2.1 36524)))) - (wrap64 (Int.tdiv bt101.2.1 146096)))) 365))), wrap64 ((wrap64 (Int.tdiv (wrap64 ((wrap64 (5 * (wrap64 (bt101.2.1 - (wrap64 ((wrap64 ((wrap64 (365 * (wrap64 (Int.tdiv (wrap64 ((wrap64 ((wrap64 (bt101.2.1 - (wrap64 (Int.tdiv bt101.2.1 1460)))) + (wrap64 (Int.tdiv bt101.2.1 36524)))) - (wrap64 (Int.tdiv bt101.2.1 146096)))) 365)))) + (wrap64 (Int.tdiv (wrap64 (Int.tdiv (wrap64 ((wrap64 ((wrap64 (bt101.2.1 - (wrap64 (Int.tdiv bt101.2.1 1460)))) + (wrap64 (Int.tdiv bt101.2.1 36524)))) - (wrap64 (Int.tdiv bt101.2.1 146096)))) 365)) 4)))) - (wrap64 (Int.tdiv (wrap64 (Int.tdiv (wrap64 ((wrap64 ((wrap64 (bt101.2.1 - (wrap64 (Int.tdiv bt101.2.1 1460)))) + (wrap64 (Int.tdiv bt101.2.1 36524)))) - (wrap64 (Int.tdiv bt101.2.1 146096)))) 365)) 100)))))))) + 2)) 153)) + 3), wrap64 ((wrap64 ((wrap64 (bt101.2.1 - (wrap64 ((wrap64 ((wrap64 (365 * (wrap64 (Int.tdiv (wrap64 ((wrap64 ((wrap64 (bt101.2.1 - (wrap64 (Int.tdiv bt101.2.1 1460)))) + (wrap64 (Int.tdiv bt101.2.1 36524)))) - (wrap64 (Int.tdiv bt101.2.1 146096)))) 365)))) + (wrap64 (Int.tdiv (wrap64 (Int.tdiv (wrap64 ((wrap64 ((wrap64 (bt101.2.1 - (wrap64 (Int.tdiv bt101.2.1 1460)))) + (wrap64 (Int.tdiv bt101.2.1 36524)))) - (wrap64 (Int.tdiv bt101.2.1 146096)))) 365)) 4)))) - (wrap64 (Int.tdiv (wrap64 (Int.tdiv (wrap64 ((wrap64 ((wrap64 (bt101.2.1 - (wrap64 (Int.tdiv bt101.2.1 1460)))) + (wrap64 (Int.tdiv bt101.2.1 36524)))) - (wrap64 (Int.tdiv bt101.2.1 146096)))) 365)) 100)))))) - (wrap64 (Int.tdiv (wrap64 ((wrap64 (153 * (wrap64 (Int.tdiv (wrap64 ((wrap64 (5 * (wrap64 (bt101.2.1 - (wrap64 ((wrap64 ((wrap64 (365 * (wrap64 (Int.tdiv (wrap64 ((wrap64 ((wrap64 (bt101.2.1 - (wrap64 (Int.tdiv bt101.2.1 1460)))) + (wrap64 (Int.tdiv bt101.2.1 36524)))) - (wrap64 (Int.tdiv bt101.2.1 146096)))) 365)))) + (wrap64 (Int.tdiv (wrap64 (Int.tdiv (wrap64 ((wrap64 ((wrap64 (bt101.2.1 - (wrap64 (Int.tdiv bt101.2.1 1460)))) + (wrap64 (Int.tdiv bt101.2.1 36524)))) - (wrap64 (Int.tdiv bt101.2.1 146096)))) 365)) 4)))) - (wrap64 (Int.tdiv (wrap64 (Int.tdiv (wrap64 ((wrap64 ((wrap64 (bt101.2.1 - (wrap64 (Int.tdiv bt101.2.1 1460)))) + (wrap64 (Int.tdiv bt101.2.1 36524)))) - (wrap64 (Int.tdiv bt101.2.1 146096)))) 365)) 100)))))))) + 2)) 153)))) + 2)) 5)))) + 1), true))))
def day_Date.f (k : Nat) (a0 : Int) : Option (Int × Int × Int × Bool) := if a0 < (-719162) then (day_Date.j0 k a0 true) else (day_Date.j0 k a0 (decide (a0 > 2932896)))
theorem day_Date.mono_l : ∀ k, (∀ y0 y1, LeO (day_Date.j0 k y0 y1) (day_Date.j0 (k + 1) y0 y1))
  | 0 => fun _ _ r h => by simp [day_Date.j0] at h
  | k + 1 => by
    have ih0 := day_Date.mono_l k
    · intro y0 y1
      unfold day_Date.j0
      repeat' first
      | (with_reducible exact ih0 _ _)
      | (with_reducible exact LeO.refl _)
      | (with_reducible exact LeO.none _)
      | (with_reducible refine LeO.ite ?_ ?_)
      | (with_reducible refine LeO.bind ?_ (fun _ => ?_))
      | exact ih0 _ _
      | exact LeO.none _
      | refine LeO.ite ?_ ?_
      | refine LeO.bind ?_ (fun _ => ?_)
theorem day_Date.mono : ∀ a0 k, LeO (day_Date.f k a0) (day_Date.f (k + 1) a0) := by
  intro a0 k
  have ih0 := day_Date.mono_l k
  unfold day_Date.f
  repeat' first
      | (with_reducible exact ih0 _ _)
      | (with_reducible exact LeO.refl _)
      | (with_reducible exact LeO.none _)
      | (with_reducible refine LeO.ite ?_ ?_)
      | (with_reducible refine LeO.bind ?_ (fun _ => ?_))
      | exact ih0 _ _
      | exact LeO.none _
      | refine LeO.ite ?_ ?_
      | refine LeO.bind ?_ (fun _ => ?_)
set_option maxHeartbeats 8000000 in
set_option maxRecDepth 100000 in
theorem day_Date.calls (k : Nat) (a0 : Int) (r1 : Int) (r2 : Int) (r3 : Int) (r4 : Bool) (w : World) (h : day_Date.f k a0 = some (r1, r2, r3, r4)) :
    Calls Tryd.prog 52 #[.int .i64 a0] w fun e w' => e = .returned (.tuple #[.int .i64 r1, .int .i64 r2, .int .i64 r3, .bool r4]) ∧ Drawn0 w w' := by
  have H : (if a0 < (-719162) then (day_Date.j0 k a0 true) else (day_Date.j0 k a0 (decide (a0 > 2932896)))) = some (r1, r2, r3, r4) := h
  clear h
  have HC2 := Aside0.mk H
  clear H
  go_enter Tryd.func52, Tryd.ntmps52
  go_upto_region 1 with (fail)
  go_cut [15] (fun v15 wc => ∃ (kq : Nat) (x15_1 : Bool), v15 = .bool x15_1 ∧ Aside0 (day_Date.j0 kq a0 x15_1 = some (r1, r2, r3, r4)) ∧ Aside0 (kq ≤ k) ∧ Drawn0 w wc)
  case first =>
    have H := HC2.out
    clear HC2
    by_cases c3 : a0 < (-719162)
    · rw [if_pos c3] at H
      have c3b0 : decide (a0 < (-719162)) = true := decide_eq_true c3
      clear c3
      (first | rw [c3b0] | (simp only [i64_w, i32_w]; rw [c3b0]) | skip)
      have H' := Aside0.mk H
      clear H
      go_wp2
      go_meet
      case rel => exact ⟨_, (true), (by first | rfl | (simp; done) | (simp [*]; done)), H', ⟨by first | omega | exact Nat.le_refl _⟩, by repeat (first | exact Drawn0.refl _ | apply Drawn0.step)⟩
    · rw [if_neg c3] at H
      have c3b0 : decide (a0 < (-719162)) = false := decide_eq_false c3
      clear c3
      (first | rw [c3b0] | (simp only [i64_w, i32_w]; rw [c3b0]) | skip)
      have H' := Aside0.mk H
      clear H
      go_wp2
      go_meet
      case rel => exact ⟨_, (decide (a0 > 2932896)), (by first | rfl | (simp; done) | (simp [*]; done)), H', ⟨by first | omega | exact Nat.le_refl _⟩, by repeat (first | exact Drawn0.refl _ | apply Drawn0.step)⟩
  case rest =>
    clear HC2
    try clear p2
    try clear c3
    try clear c3b0
    obtain ⟨kq, x15_1, rfl, HA, HJ1, ⟨mc1, rfl⟩⟩ := hcut
    cases kq with
    | zero => exact absurd HA.out (by simp [day_Date.j0])
    | succ kj1 =>
      have H := HA.out
      clear HA
      simp only [day_Date.j0] at H
      by_cases c4 : x15_1 = true
      · subst c4
        have H1 : (some (0, 0, 0, false)) = some (r1, r2, r3, r4) := by rw [if_pos rfl] at H; exact H
        clear H
        have H := H1
        clear H1
        simp only [Option.some.injEq, Prod.mk.injEq] at H
        obtain ⟨rfl, rfl, rfl, rfl⟩ := H
        go_wp2
        refine bodyPost_ret (results_list (rs := [.tmp 2, .tmp 3, .tmp 4, .tmp 5]) rfl (by simp) (.tmp (.tmp (.tmp (.tmp .nil))))) rfl ?_
        exact ⟨by first | rfl | (simp; done) | (simp [*]; done), by repeat (first | exact Drawn0.refl _ | apply Drawn0.step)⟩
      · replace c4 := Bool.eq_false_iff.mpr c4
        subst c4
        have H1 : ((num_Div.f (wrap64 (a0 + 719468)) 146097).bind fun bt101 => (if (wrap64 ((wrap64 (Int.tdiv (wrap64 ((wrap64 (5 * (wrap64 (bt101.2.1 - (wrap64 ((wrap64 ((wrap64 (365 * (wrap64 (Int.tdiv (wrap64 ((wrap64 ((wrap64 (bt101.2.1 - (wrap64 (Int.tdiv bt101.2.1 1460)))) + (wrap64 (Int.tdiv bt101.2.1 36524)))) - (wrap64 (Int.tdiv bt101.2.1 146096)))) 365)))) + (wrap64 (Int.tdiv (wrap64 (Int.tdiv (wrap64 ((wrap64 ((wrap64 (bt101.2.1 - (wrap64 (Int.tdiv bt101.2.1 1460)))) + (wrap64 (Int.tdiv bt101.2.1 36524)))) - (wrap64 (Int.tdiv bt101.2.1 146096)))) 365)) 4)))) - (wrap64 (Int.tdiv (wrap64 (Int.tdiv (wrap64 ((wrap64 ((wrap64 (bt101.2.1 - (wrap64 (Int.tdiv bt101.2.1 1460)))) + (wrap64 (Int.tdiv bt101.2.1 36524)))) - (wrap64 (Int.tdiv bt101.2.1 146096)))) 365)) 100)))))))) + 2)) 153)) + 3)) > 12 then (some (wrap64 ((wrap64 (400 * bt101.1)) + (wrap64 ((wrap64 (Int.tdiv (wrap64 ((wrap64 ((wrap64 (bt101.2.1 - (wrap64 (Int.tdiv bt101.2.1 1460)))) + (wrap64 (Int.tdiv bt101.2.1 36524)))) - (wrap64 (Int.tdiv bt101.2.1 146096)))) 365)) + 1))), wrap64 ((wrap64 ((wrap64 (Int.tdiv (wrap64 ((wrap64 (5 * (wrap64 (bt101.2.1 - (wrap64 ((wrap64 ((wrap64 (365 * (wrap64 (Int.tdiv (wrap64 ((wrap64 ((wrap64 (bt101.2.1 - (wrap64 (Int.tdiv bt101.2.1 1460)))) + (wrap64 (Int.tdiv bt101.2.1 36524)))) - (wrap64 (Int.tdiv bt101.2.1 146096)))) 365)))) + (wrap64 (Int.tdiv (wrap64 (Int.tdiv (wrap64 ((wrap64 ((wrap64 (bt101.2.1 - (wrap64 (Int.tdiv bt101.2.1 1460)))) + (wrap64 (Int.tdiv bt101.2.1 36524)))) - (wrap64 (Int.tdiv bt101.2.1 146096)))) 365)) 4)))) - (wrap64 (Int.tdiv (wrap64 (Int.tdiv (wrap64 ((wrap64 ((wrap64 (bt101.2.1 - (wrap64 (Int.tdiv bt101.2.1 1460)))) + (wrap64 (Int.tdiv bt101.2.1 36524)))) - (wrap64 (Int.tdiv bt101.2.1 146096)))) 365)) 100)))))))) + 2)) 153)) + 3)) - 12), wrap64 ((wrap64 ((wrap64 (bt101.2.1 - (wrap64 ((wrap64 ((wrap64 (365 * (wrap64 (Int.tdiv (wrap64 ((wrap64 ((wrap64 (bt101.2.1 - (wrap64 (Int.tdiv bt101.2.1 1460)))) + (wrap64 (Int.tdiv bt101.2.1 36524)))) - (wrap64 (Int.tdiv bt101.2.1 146096)))) 365)))) + (wrap64 (Int.tdiv (wrap64 (Int.tdiv (wrap64 ((wrap64 ((wrap64 (bt101.2.1 - (wrap64 (Int.tdiv bt101.2.1 1460)))) + (wrap64 (Int.tdiv bt101.2.1 36524)))) - (wrap64 (Int.tdiv bt101.2.1 146096)))) 365)) 4)))) - (wrap64 (Int.tdiv (wrap64 (Int.tdiv (wrap64 ((wrap64 ((wrap64 (bt101.2.1 - (wrap64 (Int.tdiv bt101.2.1 1460)))) + (wrap64 (Int.tdiv bt101.2.1 36524)))) - (wrap64 (Int.tdiv bt101.2.1 146096)))) 365)) 100)))))) - (wrap64 (Int.tdiv (wrap64 ((wrap64 (153 * (wrap64 (Int.tdiv (wrap64 ((wrap64 (5 * (wrap64 (bt101.2.1 - (wrap64 ((wrap64 ((wrap64 (365 * (wrap64 (Int.tdiv (wrap64 ((wrap64 ((wrap64 (bt101.2.1 - (wrap64 (Int.tdiv bt101.2.1 1460)))) + (wrap64 (Int.tdiv bt101.2.1 36524)))) - (wrap64 (Int.tdiv bt101.2.1 146096)))) 365)))) + (wrap64 (Int.tdiv (wrap64 (Int.tdiv (wrap64 ((wrap64 ((wrap64 (bt101.2.1 - (wrap64 (Int.tdiv bt101.2.1 1460)))) + (wrap64 (Int.tdiv bt101.2.1 36524)))) - (wrap64 (Int.tdiv bt101.2.1 146096)))) 365)) 4)))) - (wrap64 (Int.tdiv (wrap64 (Int.tdiv (wrap64 ((wrap64 ((wrap64 (bt101.2.1 - (wrap64 (Int.tdiv bt101.2.1 1460)))) + (wrap64 (Int.tdiv bt101.2.1 36524)))) - (wrap64 (Int.tdiv bt101.2.1 146096)))) 365)) 100)))))))) + 2)) 153)))) + 2)) 5)))) + 1), true)) else (some (wrap64 ((wrap64 (400 * bt101.1)) + (wrap64 (Int.tdiv (wrap64 ((wrap64 ((wrap64 (bt101.2.1 - (wrap64 (Int.tdiv bt101.2.1 1460)))) + (wrap64 (Int.tdiv bt101.2.1 36524)))) - (wrap64 (Int.tdiv bt101.2.1 146096)))) 365))), wrap64 ((wrap64 (Int.tdiv (wrap64 ((wrap64 (5 * (wrap64 (bt101.2.1 - (wrap64 ((wrap64 ((wrap64 (365 * (wrap64 (Int.tdiv (wrap64 ((wrap64 ((wrap64 (bt101.2.1 - (wrap64 (Int.tdiv bt101.2.1 1460)))) + (wrap64 (Int.tdiv bt101.2.1 36524)))) - (wrap64 (Int.tdiv bt101.2.1 146096)))) 365)))) + (wrap64 (Int.tdiv (wrap64 (Int.tdiv (wrap64 ((wrap64 ((wrap64 (bt101.2.1 - (wrap64 (Int.tdiv bt101.2.1 1460)))) + (wrap64 (Int.tdiv bt101.2.1 36524)))) - (wrap64 (Int.tdiv bt101.2.1 146096)))) 365)) 4)))) - (wrap64 (Int.tdiv (wrap64 (Int.tdiv (wrap64 ((wrap64 ((wrap64 (bt101.2.1 - (wrap64 (Int.tdiv bt101.2.1 1460)))) + (wrap64 (Int.tdiv bt101.2.1 36524)))) - (wrap64 (Int.tdiv bt101.2.1 146096)))) 365)) 100)))))))) + 2)) 153)) + 3), wrap64 ((wrap64 ((wrap64 (bt101.2.1 - (wrap64 ((wrap64 ((wrap64 (365 * (wrap64 (Int.tdiv (wrap64 ((wrap64 ((wrap64 (bt101.2.1 - (wrap64 (Int.tdiv bt101.2.1 1460)))) + (wrap64 (Int.tdiv bt101.2.1 36524)))) - (wrap64 (Int.tdiv bt101.2.1 146096)))) 365)))) + (wrap64 (Int.tdiv (wrap64 (Int.tdiv (wrap64 ((wrap64 ((wrap64 (bt101.2.1 - (wrap64 (Int.tdiv bt101.2.1 1460)))) + (wrap64 (Int.tdiv bt101.2.1 36524)))) - (wrap64 (Int.tdiv bt101.2.1 146096)))) 365)) 4)))) - (wrap64 (Int.tdiv (wrap64 (Int.tdiv (wrap64 ((wrap64 ((wrap64 (bt101.2.1 - (wrap64 (Int.tdiv bt101.2.1 1460)))) + (wrap64 (Int.tdiv bt101.2.1 36524)))) - (wrap64 (Int.tdiv bt101.2.1 146096)))) 365)) 100)))))) - (wrap64 (Int.tdiv (wrap64 ((wrap64 (153 * (wrap64 (Int.tdiv (wrap64 ((wrap64 (5 * (wrap64 (bt101.2.1 - (wrap64 ((wrap64 ((wrap64 (365 * (wrap64 (Int.tdiv (wrap64 ((wrap64 ((wrap64 (bt101.2.1 - (wrap64 (Int.tdiv bt101.2.1 1460)))) + (wrap64 (Int.tdiv bt101.2.1 36524)))) - (wrap64 (Int.tdiv bt101.2.1 146096)))) 365)))) + (wrap64 (Int.tdiv (wrap64 (Int.tdiv (wrap64 ((wrap64 ((wrap64 (bt101.2.1 - (wrap64 (Int.tdiv bt101.2.1 1460)))) + (wrap64 (Int.tdiv bt101.2.1 36524)))) - (wrap64 (Int.tdiv bt101.2.1 146096)))) 365)) 4)))) - (wrap64 (Int.tdiv (wrap64 (Int.tdiv (wrap64 ((wrap64 ((wrap64 (bt101.2.1 - (wrap64 (Int.tdiv bt101.2.1 1460)))) + (wrap64 (Int.tdiv bt101.2.1 36524)))) - (wrap64 (Int.tdiv bt101.2.1 146096)))) 365)) 100)))))))) + 2)) 153)))) + 2)) 5)))) + 1), true)))) = some (r1, r2, r3, r4) := by rw [if_neg (show ¬ (false = true) by decide)] at H; exact H
        clear H
        have H := H1
        clear H1
        replace H := Option.bind_eq_some_iff.mp H
        obtain ⟨⟨t101, t102, t103⟩, A50, H⟩ := H
        replace H : (if (wrap64 ((wrap64 (Int.tdiv (wrap64 ((wrap64 (5 * (wrap64 (t102 - (wrap64 ((wrap64 ((wrap64 (365 * (wrap64 (Int.tdiv (wrap64 ((wrap64 ((wrap64 (t102 - (wrap64 (Int.tdiv t102 1460)))) + (wrap64 (Int.tdiv t102 36524)))) - (wrap64 (Int.tdiv t102 146096)))) 365)))) + (wrap64 (Int.tdiv (wrap64 (Int.tdiv (wrap64 ((wrap64 ((wrap64 (t102 - (wrap64 (Int.tdiv t102 1460)))) + (wrap64 (Int.tdiv t102 36524)))) - (wrap64 (Int.tdiv t102 146096)))) 365)) 4)))) - (wrap64 (Int.tdiv (wrap64 (Int.tdiv (wrap64 ((wrap64 ((wrap64 (t102 - (wrap64 (Int.tdiv t102 1460)))) + (wrap64 (Int.tdiv t102 36524)))) - (wrap64 (Int.tdiv t102 146096)))) 365)) 100)))))))) + 2)) 153)) + 3)) > 12 then (some (wrap64 ((wrap64 (400 * t101)) + (wrap64 ((wrap64 (Int.tdiv (wrap64 ((wrap64 ((wrap64 (t102 - (wrap64 (Int.tdiv t102 1460)))) + (wrap64 (Int.tdiv t102 36524)))) - (wrap64 (Int.tdiv t102 146096)))) 365)) + 1))), wrap64 ((wrap64 ((wrap64 (Int.tdiv (wrap64 ((wrap64 (5 * (wrap64 (t102 - (wrap64 ((wrap64 ((wrap64 (365 * (wrap64 (Int.tdiv (wrap64 ((wrap64 ((wrap64 (t102 - (wrap64 (Int.tdiv t102 1460)))) + (wrap64 (Int.tdiv t102 36524)))) - (wrap64 (Int.tdiv t102 146096)))) 365)))) + (wrap64 (Int.tdiv (wrap64 (Int.tdiv (wrap64 ((wrap64 ((wrap64 (t102 - (wrap64 (Int.tdiv t102 1460)))) + (wrap64 (Int.tdiv t102 36524)))) - (wrap64 (Int.tdiv t102 146096)))) 365)) 4)))) - (wrap64 (Int.tdiv (wrap64 (Int.tdiv (wrap64 ((wrap64 ((wrap64 (t102 - (wrap64 (Int.tdiv t102 1460)))) + (wrap64 (Int.tdiv t102 36524)))) - (wrap64 (Int.tdiv t102 146096)))) 365)) 100)))))))) + 2)) 153)) + 3)) - 12), wrap64 ((wrap64 ((wrap64 (t102 - (wrap64 ((wrap64 ((wrap64 (365 * (wrap64 (Int.tdiv (wrap64 ((wrap64 ((wrap64 (t102 - (wrap64 (Int.tdiv t102 1460)))) + (wrap64 (Int.tdiv t102 36524)))) - (wrap64 (Int.tdiv t102 146096)))) 365)))) + (wrap64 (Int.tdiv (wrap64 (Int.tdiv (wrap64 ((wrap64 ((wrap64 (t102 - (wrap64 (Int.tdiv t102 1460)))) + (wrap64 (Int.tdiv t102 36524)))) - (wrap64 (Int.tdiv t102 146096)))) 365)) 4)))) - (wrap64 (Int.tdiv (wrap64 (Int.tdiv (wrap64 ((wrap64 ((wrap64 (t102 - (wrap64 (Int.tdiv t102 1460)))) + (wrap64 (Int.tdiv t102 36524)))) - (wrap64 (Int.tdiv t102 146096)))) 365)) 100)))))) - (wrap64 (Int.tdiv (wrap64 ((wrap64 (153 * (wrap64 (Int.tdiv (wrap64 ((wrap64 (5 * (wrap64 (t102 - (wrap64 ((wrap64 ((wrap64 (365 * (wrap64 (Int.tdiv (wrap64 ((wrap64 ((wrap64 (t102 - (wrap64 (Int.tdiv t102 1460)))) + (wrap64 (Int.tdiv t102 36524)))) - (wrap64 (Int.tdiv t102 146096)))) 365)))) + (wrap64 (Int.tdiv (wrap64 (Int.tdiv (wrap64 ((wrap64 ((wrap64 (t102 - (wrap64 (Int.tdiv t102 1460)))) + (wrap64 (Int.tdiv t102 36524)))) - (wrap64 (Int.tdiv t102 146096)))) 365)) 4)))) - (wrap64 (Int.tdiv (wrap64 (Int.tdiv (wrap64 ((wrap64 ((wrap64 (t102 - (wrap64 (Int.tdiv t102 1460)))) + (wrap64 (Int.tdiv t102 36524)))) - (wrap64 (Int.tdiv t102 146096)))) 365)) 100)))))))) + 2)) 153)))) + 2)) 5)))) + 1), true)) else (some (wrap64 ((wrap64 (400 * t101)) + (wrap64 (Int.tdiv (wrap64 ((wrap64 ((wrap64 (t102 - (wrap64 (Int.tdiv t102 1460)))) + (wrap64 (Int.tdiv t102 36524)))) - (wrap64 (Int.tdiv t102 146096)))) 365))), wrap64 ((wrap64 (Int.tdiv (wrap64 ((wrap64 (5 * (wrap64 (t102 - (wrap64 ((wrap64 ((wrap64 (365 * (wrap64 (Int.tdiv (wrap64 ((wrap64 ((wrap64 (t102 - (wrap64 (Int.tdiv t102 1460)))) + (wrap64 (Int.tdiv t102 36524)))) - (wrap64 (Int.tdiv t102 146096)))) 365)))) + (wrap64 (Int.tdiv (wrap64 (Int.tdiv (wrap64 ((wrap64 ((wrap64 (t102 - (wrap64 (Int.tdiv t102 1460)))) + (wrap64 (Int.tdiv t102 36524)))) - (wrap64 (Int.tdiv t102 146096)))) 365)) 4)))) - (wrap64 (Int.tdiv (wrap64 (Int.tdiv (wrap64 ((wrap64 ((wrap64 (t102 - (wrap64 (Int.tdiv t102 1460)))) + (wrap64 (Int.tdiv t102 36524)))) - (wrap64 (Int.tdiv t102 146096)))) 365)) 100)))))))) + 2)) 153)) + 3), wrap64 ((wrap64 ((wrap64 (t102 - (wrap64 ((wrap64 ((wrap64 (365 * (wrap64 (Int.tdiv (wrap64 ((wrap64 ((wrap64 (t102 - (wrap64 (Int.tdiv t102 1460)))) + (wrap64 (Int.tdiv t102 36524)))) - (wrap64 (Int.tdiv t102 146096)))) 365)))) + (wrap64 (Int.tdiv (wrap64 (Int.tdiv (wrap64 ((wrap64 ((wrap64 (t102 - (wrap64 (Int.tdiv t102 1460)))) + (wrap64 (Int.tdiv t102 36524)))) - (wrap64 (Int.tdiv t102 146096)))) 365)) 4)))) - (wrap64 (Int.tdiv (wrap64 (Int.tdiv (wrap64 ((wrap64 ((wrap64 (t102 - (wrap64 (Int.tdiv t102 1460)))) + (wrap64 (Int.tdiv t102 36524)))) - (wrap64 (Int.tdiv t102 146096)))) 365)) 100)))))) - (wrap64 (Int.tdiv (wrap64 ((wrap64 (153 * (wrap64 (Int.tdiv (wrap64 ((wrap64 (5 * (wrap64 (t102 - (wrap64 ((wrap64 ((wrap64 (365 * (wrap64 (Int.tdiv (wrap64 ((wrap64 ((wrap64 (t102 - (wrap64 (Int.tdiv t102 1460)))) + (wrap64 (Int.tdiv t102 36524)))) - (wrap64 (Int.tdiv t102 146096)))) 365)))) + (wrap64 (Int.tdiv (wrap64 (Int.tdiv (wrap64 ((wrap64 ((wrap64 (t102 - (wrap64 (Int.tdiv t102 1460)))) + (wrap64 (Int.tdiv t102 36524)))) - (wrap64 (Int.tdiv t102 146096)))) 365)) 4)))) - (wrap64 (Int.tdiv (wrap64 (Int.tdiv (wrap64 ((wrap64 ((wrap64 (t102 - (wrap64 (Int.tdiv t102 1460)))) + (wrap64 (Int.tdiv t102 36524)))) - (wrap64 (Int.tdiv t102 146096)))) 365)) 100)))))))) + 2)) 153)))) + 2)) 5)))) + 1), true))) = some (r1, r2, r3, r4) := H
        have A5 := Aside0.mk A50
        clear A50
        by_cases c6 : (wrap64 ((wrap64 (Int.tdiv (wrap64 ((wrap64 (5 * (wrap64 (t102 - (wrap64 ((wrap64 ((wrap64 (365 * (wrap64 (Int.tdiv (wrap64 ((wrap64 ((wrap64 (t102 - (wrap64 (Int.tdiv t102 1460)))) + (wrap64 (Int.tdiv t102 36524)))) - (wrap64 (Int.tdiv t102 146096)))) 365)))) + (wrap64 (Int.tdiv (wrap64 (Int.tdiv (wrap64 ((wrap64 ((wrap64 (t102 - (wrap64 (Int.tdiv t102 1460)))) + (wrap64 (Int.tdiv t102 36524)))) - (wrap64 (Int.tdiv t102 146096)))) 365)) 4)))) - (wrap64 (Int.tdiv (wrap64 (Int.tdiv (wrap64 ((wrap64 ((wrap64 (t102 - (wrap64 (Int.tdiv t102 1460)))) + (wrap64 (Int.tdiv t102 36524)))) - (wrap64 (Int.tdiv t102 146096)))) 365)) 100)))))))) + 2)) 153)) + 3)) > 12
        · rw [if_pos c6] at H
          have c6b0 : decide (12 < (wrap64 ((wrap64 (Int.tdiv (wrap64 ((wrap64 (5 * (wrap64 (t102 - (wrap64 ((wrap64 ((wrap64 (365 * (wrap64 (Int.tdiv (wrap64 ((wrap64 ((wrap64 (t102 - (wrap64 (Int.tdiv t102 1460)))) + (wrap64 (Int.tdiv t102 36524)))) - (wrap64 (Int.tdiv t102 146096)))) 365)))) + (wrap64 (Int.tdiv (wrap64 (Int.tdiv (wrap64 ((wrap64 ((wrap64 (t102 - (wrap64 (Int.tdiv t102 1460)))) + (wrap64 (Int.tdiv t102 36524)))) - (wrap64 (Int.tdiv t102 146096)))) 365)) 4)))) - (wrap64 (Int.tdiv (wrap64 (Int.tdiv (wrap64 ((wrap64 ((wrap64 (t102 - (wrap64 (Int.tdiv t102 1460)))) + (wrap64 (Int.tdiv t102 36524)))) - (wrap64 (Int.tdiv t102 146096)))) 365)) 100)))))))) + 2)) 153)) + 3))) = true := decide_eq_true c6
          clear c6
          simp only [Option.some.injEq, Prod.mk.injEq] at H
          obtain ⟨rfl, rfl, rfl, rfl⟩ := H
          go_wp2_with (first | ((with_reducible refine gate_callee (f := 74) rfl ?_); refine goesL_ (some 19) rfl rfl Tryd.func74 (by kernel_rfl) rfl #[.int .i64 (wrap64 (a0 + 719468)), .int .i64 146097] rfl (by (try simp only [List.map_toArray, List.map_cons, List.map_nil]); first | done | rfl | (simp only [List.length_drop, List.length_take]; rfl)) ?_; (with_reducible refine (num_Div.calls (wrap64 (a0 + 719468)) 146097 t101 t102 t103 _ A5.out).mono ?_); rintro e w' ⟨rfl, ⟨nd, rfl⟩⟩; refine ⟨_, rfl, ?_⟩))
          refine bodyPost_ret (results_list (rs := [.tmp 2, .tmp 3, .tmp 4, .tmp 5]) rfl (by simp) (.tmp (.tmp (.tmp (.tmp .nil))))) rfl ?_
          exact ⟨by first | rfl | (simp; done) | (simp [*]; done), by repeat (first | exact Drawn0.refl _ | apply Drawn0.step)⟩
        · rw [if_neg c6] at H
          have c6b0 : decide (12 < (wrap64 ((wrap64 (Int.tdiv (wrap64 ((wrap64 (5 * (wrap64 (t102 - (wrap64 ((wrap64 ((wrap64 (365 * (wrap64 (Int.tdiv (wrap64 ((wrap64 ((wrap64 (t102 - (wrap64 (Int.tdiv t102 1460)))) + (wrap64 (Int.tdiv t102 36524)))) - (wrap64 (Int.tdiv t102 146096)))) 365)))) + (wrap64 (Int.tdiv (wrap64 (Int.tdiv (wrap64 ((wrap64 ((wrap64 (t102 - (wrap64 (Int.tdiv t102 1460)))) + (wrap64 (Int.tdiv t102 36524)))) - (wrap64 (Int.tdiv t102 146096)))) 365)) 4)))) - (wrap64 (Int.tdiv (wrap64 (Int.tdiv (wrap64 ((wrap64 ((wrap64 (t102 - (wrap64 (Int.tdiv t102 1460)))) + (wrap64 (Int.tdiv t102 36524)))) - (wrap64 (Int.tdiv t102 146096)))) 365)) 100)))))))) + 2)) 153)) + 3))) = false := decide_eq_false c6
          clear c6
          simp only [Option.some.injEq, Prod.mk.injEq] at H
          obtain ⟨rfl, rfl, rfl, rfl⟩ := H
          go_wp2_with (first | ((with_reducible refine gate_callee (f := 74) rfl ?_); refine goesL_ (some 19) rfl rfl Tryd.func74 (by kernel_rfl) rfl #[.int .i64 (wrap64 (a0 + 719468)), .int .i64 146097] rfl (by (try simp only [List.map_toArray, List.map_cons, List.map_nil]); first | done | rfl | (simp only [List.length_drop, List.length_take]; rfl)) ?_; (with_reducible refine (num_Div.calls (wrap64 (a0 + 719468)) 146097 t101 t102 t103 _ A5.out).mono ?_); rintro e w' ⟨rfl, ⟨nd, rfl⟩⟩; refine ⟨_, rfl, ?_⟩))
          refine bodyPost_ret (results_list (rs := [.tmp 2, .tmp 3, .tmp 4, .tmp 5]) rfl (by simp) (.tmp (.tmp (.tmp (.tmp .nil))))) rfl ?_
          exact ⟨by first | rfl | (simp; done) | (simp [*]; done), by repeat (first | exact Drawn0.refl _ | apply Drawn0.step)⟩
def day_Number.j0 : Nat → Int → Int → Int → Bool → Option (Int × Bool)
  | 0, _, _, _, _ => none
  | k + 1, x0, x1, x2, x30 => if x30 = true then (some (0, false)) else (if x1 < 3 then ((num_Div.f (wrap64 (x0 - 1)) 400).bind fun bt106 => (some (wrap64 ((wrap64 ((wrap64 ((wrap64 ((wrap64 ((wrap64 (146097 * bt106.1)) + (wrap64 (365 * bt106.2.1)))) + (wrap64 (Int.tdiv bt106.2.1 4)))) - (wrap64 (Int.tdiv bt106.2.1 100)))) + (wrap64 ((wrap64 ((wrap64 (Int.tdiv (wrap64 ((wrap64 (153 * (wrap64 ((wrap64 (x1 + 12)) - 3)))) + 2)) 5)) + x2)) - 1)))) - 719468), true))) else ((num_Div.f x0 400).bind fun bt109 => (some (wrap64 ((wrap64 ((wrap64 ((wrap64 ((wrap64 ((wrap64 (146097 * bt109.1)) + (wrap64 (365 * bt109.2.1)))) + (wrap64 (Int.tdiv bt109.2.1 4)))) - (wrap64 (Int.tdiv bt109.2.1 100)))) + (wrap64 ((wrap64 ((wrap64 (Int.tdiv (wrap64 ((wrap64 (153 * (wrap64 (x1 - 3)))) + 2)) 5)) + x2)) - 1)))) - 719468), true))))
def day_Number.f (k : Nat) (a0 : Int) (a1 : Int) (a2 : Int) : Option (Int × Bool) := (day_Last.f a0 a1).bind fun bt104 => (if bt104.2 = true then (if a2 < 1 then (day_Number.j0 k a0 a1 a2 true) else (day_Number.j0 k a0 a1 a2 (decide (a2 > bt104.1)))) else (day_Number.j0 k a0 a1 a2 true))
theorem day_Number.mono_l : ∀ k, (∀ y0 y1 y2 y3, LeO (day_Number.j0 k y0 y1 y2 y3) (day_Number.j0 (k + 1) y0 y1 y2 y3))
  | 0 => fun _ _ _ _ r h => by simp [day_Number.j0] at h
  | k + 1 => by
    have ih0 := day_Number.mono_l k
    · intro y0 y1 y2 y3
      unfold day_Number.j0
      repeat' first
      | (with_reducible exact ih0 _ _ _ _)
      | (with_reducible exact LeO.refl _)
      | (with_reducible exact LeO.none _)
      | (with_reducible refine LeO.ite ?_ ?_)
      | (with_reducible refine LeO.bind ?_ (fun _ => ?_))
      | exact ih0 _ _ _ _
      | exact LeO.none _
      | refine LeO.ite ?_ ?_
      | refine LeO.bind ?_ (fun _ => ?_)
theorem day_Number.mono : ∀ a0 a1 a2 k, LeO (day_Number.f k a0 a1 a2) (day_Number.f (k + 1) a0 a1 a2) := by
  intro a0 a1 a2 k
  have ih0 := day_Number.mono_l k
  unfold day_Number.f
  repeat' first
      | (with_reducible exact ih0 _ _ _ _)
      | (with_reducible exact LeO.refl _)
      | (with_reducible exact LeO.none _)
      | (with_reducible refine LeO.ite ?_ ?_)
      | (with_reducible refine LeO.bind ?_ (fun _ => ?_))
      | exact ih0 _ _ _ _
      | exact LeO.none _
      | refine LeO.ite ?_ ?_
      | refine LeO.bind ?_ (fun _ => ?_)
set_option maxHeartbeats 8000000 in
set_option maxRecDepth 100000 in
theorem day_Number.calls (k : Nat) (a0 : Int) (a1 : Int) (a2 : Int) (r1 : Int) (r2 : Bool) (w : World) (h : day_Number.f k a0 a1 a2 = some (r1, r2)) :
    Calls Tryd.prog 58 #[.int .i64 a0, .int .i64 a1, .int .i64 a2] w fun e w' => e = .returned (.tuple #[.int .i64 r1, .bool r2]) ∧ Below w.heap.size w w' := by
  have HB := Aside0.mk (Below.refl w.heap.size w)
  have H : ((day_Last.f a0 a1).bind fun bt104 => (if bt104.2 = true then (if a2 < 1 then (day_Number.j0 k a0 a1 a2 true) else (day_Number.j0 k a0 a1 a2 (decide (a2 > bt104.1)))) else (day_Number.j0 k a0 a1 a2 true))) = some (r1, r2) := h
  clear h
  replace H := Option.bind_eq_some_iff.mp H
  obtain ⟨⟨t104, t105⟩, A40, H⟩ := H
  replace H : (if t105 = true then (if a2 < 1 then (day_Number.j0 k a0 a1 a2 true) else (day_Number.j0 k a0 a1 a2 (decide (a2 > t104)))) else (day_Number.j0 k a0 a1 a2 true)) = some (r1, r2) := H
  have A4 := Aside0.mk A40
  clear A40
  have HC5 := Aside0.mk H
  clear H
  go_enter Tryd.func58, Tryd.ntmps58
  go_upto_region 2 with (first | ((with_reducible refine gate_callee (f := 79) rfl ?_); refine goesL_ (some 17) rfl rfl Tryd.func79 (by kernel_rfl) rfl #[.int .i64 a0, .int .i64 a1] rfl (by (try simp only [List.map_toArray, List.map_cons, List.map_nil]); first | done | rfl | (simp only [List.length_drop, List.length_take]; rfl)) ?_; (with_reducible refine (day_Last.calls a0 a1 t104 t105 _ A4.out).mono ?_); rintro e w6 ⟨rfl, hb⟩; refine ⟨_, rfl, ?_⟩; have n0_ := Aside0.mk (below_step (by repeat (first | (with_reducible first | exact HB.out | apply below_alloc | apply pw_below_drewN | apply below_drew1) | exact HB.out)) hb); clear HB; have HB := n0_; clear n0_; (try clear hb); (try clear hb2); (try clear hk); (try clear hi)))
  (try simp only [Act.put, List.setIfInBounds_toArray, List.set_cons_zero, List.set_cons_succ])
  go_cut [30] (fun v30 wc => ∃ (kq : Nat) (x30_4 : Bool), v30 = .bool x30_4 ∧ Aside0 (day_Number.j0 kq a0 a1 a2 x30_4 = some (r1, r2)) ∧ Aside0 (kq ≤ k) ∧ Aside0 (Below w.heap.size w wc))
  case first =>
    have H := HC5.out
    clear HC5
    by_cases c7 : t105 = true
    · subst c7
      have H1 : (if a2 < 1 then (day_Number.j0 k a0 a1 a2 true) else (day_Number.j0 k a0 a1 a2 (decide (a2 > t104)))) = some (r1, r2) := by rw [if_pos rfl] at H; exact H
      clear H
      have H := H1
      clear H1
      by_cases c8 : a2 < 1
      · rw [if_pos c8] at H
        have c8b0 : decide (a2 < 1) = true := decide_eq_true c8
        clear c8
        (first | rw [c8b0] | (simp only [i64_w, i32_w]; rw [c8b0]) | skip)
        have H' := Aside0.mk H
        clear H
        go_wp2
        go_meet
        case rel => exact ⟨_, (true), (by first | rfl | (simp; done) | (simp [*]; done)), H', ⟨by first | omega | exact Nat.le_refl _⟩, ⟨by repeat (first | (with_reducible first | exact HB.out | apply below_alloc | apply pw_below_drewN | apply below_drew1) | exact HB.out)⟩⟩
      · rw [if_neg c8] at H
        have c8b0 : decide (a2 < 1) = false := decide_eq_false c8
        clear c8
        (first | rw [c8b0] | (simp only [i64_w, i32_w]; rw [c8b0]) | skip)
        have H' := Aside0.mk H
        clear H
        go_wp2
        go_meet
        case rel => exact ⟨_, (decide (a2 > t104)), (by first | rfl | (simp; done) | (simp [*]; done)), H', ⟨by first | omega | exact Nat.le_refl _⟩, ⟨by repeat (first | (with_reducible first | exact HB.out | apply below_alloc | apply pw_below_drewN | apply below_drew1) | exact HB.out)⟩⟩
    · replace c7 := Bool.eq_false_iff.mpr c7
      subst c7
      have H1 : (day_Number.j0 k a0 a1 a2 true) = some (r1, r2) := by rw [if_neg (show ¬ (false = true) by decide)] at H; exact H
      clear H
      have H := H1
      clear H1
      have H' := Aside0.mk H
      clear H
      go_wp2
      go_meet
      case rel => exact ⟨_, (true), (by first | rfl | (simp; done) | (simp [*]; done)), H', ⟨by first | omega | exact Nat.le_refl _⟩, ⟨by repeat (first | (with_reducible first | exact HB.out | apply below_alloc | apply pw_below_drewN | apply below_drew1) | exact HB.out)⟩⟩
  case rest =>
    clear HC5
    try clear p2
    try clear c5
    try clear c7
    try clear c8
    try clear c8b0
    obtain ⟨kq, x30_4, rfl, HA, HJ4, HB⟩ := hcut
    cases kq with
    | zero => exact absurd HA.out (by simp [day_Number.j0])
    | succ kj4 =>
      have H := HA.out
      clear HA
      simp only [day_Number.j0] at H
      by_cases c9 : x30_4 = true
      · subst c9
        have H1 : (some (0, false)) = some (r1, r2) := by rw [if_pos rfl] at H; exact H
        clear H
        have H := H1
        clear H1
        simp only [Option.some.injEq, Prod.mk.injEq] at H
        obtain ⟨rfl, rfl⟩ := H
        go_wp2
        go_ret2
        exact ⟨by first | rfl | (simp [errW_none, errW_some] <;> rfl) | (simp [*, errW_none, errW_some] <;> rfl), by repeat (first | (with_reducible first | exact HB.out | apply below_alloc | apply pw_below_drewN | apply below_drew1) | exact HB.out)⟩
      · replace c9 := Bool.eq_false_iff.mpr c9
        subst c9
        have H1 : (if a1 < 3 then ((num_Div.f (wrap64 (a0 - 1)) 400).bind fun bt106 => (some (wrap64 ((wrap64 ((wrap64 ((wrap64 ((wrap64 ((wrap64 (146097 * bt106.1)) + (wrap64 (365 * bt106.2.1)))) + (wrap64 (Int.tdiv bt106.2.1 4)))) - (wrap64 (Int.tdiv bt106.2.1 100)))) + (wrap64 ((wrap64 ((wrap64 (Int.tdiv (wrap64 ((wrap64 (153 * (wrap64 ((wrap64 (a1 + 12)) - 3)))) + 2)) 5)) + a2)) - 1)))) - 719468), true))) else ((num_Div.f a0 400).bind fun bt109 => (some (wrap64 ((wrap64 ((wrap64 ((wrap64 ((wrap64 ((wrap64 (146097 * bt109.1)) + (wrap64 (365 * bt109.2.1)))) + (wrap64 (Int.tdiv bt109.2.1 4)))) - (wrap64 (Int.tdiv bt109.2.1 100)))) + (wrap64 ((wrap64 ((wrap64 (Int.tdiv (wrap64 ((wrap64 (153 * (wrap64 (a1 - 3)))) + 2)) 5)) + a2)) - 1)))) - 719468), true)))) = some (r1, r2) := by rw [if_neg (show ¬ (false = true) by decide)] at H; exact H
        clear H
        have H := H1
        clear H1
        by_cases c10 : a1 < 3
        · rw [if_pos c10] at H
          have c10b0 : decide (a1 < 3) = true := decide_eq_true c10
          clear c10
          replace H := Option.bind_eq_some_iff.mp H
          obtain ⟨⟨t106, t107, t108⟩, A110, H⟩ := H
          replace H : (some (wrap64 ((wrap64 ((wrap64 ((wrap64 ((wrap64 ((wrap64 (146097 * t106)) + (wrap64 (365 * t107)))) + (wrap64 (Int.tdiv t107 4)))) - (wrap64 (Int.tdiv t107 100)))) + (wrap64 ((wrap64 ((wrap64 (Int.tdiv (wrap64 ((wrap64 (153 * (wrap64 ((wrap64 (a1 + 12)) - 3)))) + 2)) 5)) + a2)) - 1)))) - 719468), true)) = some (r1, r2) := H
          have A11 := Aside0.mk A110
          clear A110
          simp only [Option.some.injEq, Prod.mk.injEq] at H
          obtain ⟨rfl, rfl⟩ := H
          go_wp2_with (first | ((with_reducible refine gate_callee (f := 74) rfl ?_); refine goesL_ (some 39) rfl rfl Tryd.func74 (by kernel_rfl) rfl #[.int .i64 (wrap64 (a0 - 1)), .int .i64 400] rfl (by (try simp only [List.map_toArray, List.map_cons, List.map_nil]); first | done | rfl | (simp only [List.length_drop, List.length_take]; rfl)) ?_; (with_reducible refine (num_Div.calls (wrap64 (a0 - 1)) 400 t106 t107 t108 _ A11.out).mono ?_); rintro e w' ⟨rfl, ⟨nd, rfl⟩⟩; refine ⟨_, rfl, ?_⟩))
          go_ret2
          exact ⟨by first | rfl | (simp [errW_none, errW_some] <;> rfl) | (simp [*, errW_none, errW_some] <;> rfl), by repeat (first | (with_reducible first | exact HB.out | apply below_alloc | apply pw_below_drewN | apply below_drew1) | exact HB.out)⟩
        · rw [if_neg c10] at H
          have c10b0 : decide (a1 < 3) = false := decide_eq_false c10
          clear c10
          replace H := Option.bind_eq_some_iff.mp H
          obtain ⟨⟨t109, t110, t111⟩, A120, H⟩ := H
          replace H : (some (wrap64 ((wrap64 ((wrap64 ((wrap64 ((wrap64 ((wrap64 (146097 * t109)) + (wrap64 (365 * t110)))) + (wrap64 (Int.tdiv t110 4)))) - (wrap64 (Int.tdiv t110 100)))) + (wrap64 ((wrap64 ((wrap64 (Int.tdiv (wrap64 ((wrap64 (153 * (wrap64 (a1 - 3)))) + 2)) 5)) + a2)) - 1)))) - 719468), true)) = some (r1, r2) := H
          have A12 := Aside0.mk A120
          clear A120
          simp only [Option.some.injEq, Prod.mk.injEq] at H
          obtain ⟨rfl, rfl⟩ := H
          go_wp2_with (first | ((with_reducible refine gate_callee (f := 74) rfl ?_); refine goesL_ (some 39) rfl rfl Tryd.func74 (by kernel_rfl) rfl #[.int .i64 a0, .int .i64 400] rfl (by (try simp only [List.map_toArray, List.map_cons, List.map_nil]); first | done | rfl | (simp only [List.length_drop, List.length_take]; rfl)) ?_; (with_reducible refine (num_Div.calls a0 400 t109 t110 t111 _ A12.out).mono ?_); rintro e w' ⟨rfl, ⟨nd, rfl⟩⟩; refine ⟨_, rfl, ?_⟩))
          go_ret2
          exact ⟨by first | rfl | (simp [errW_none, errW_some] <;> rfl) | (simp [*, errW_none, errW_some] <;> rfl), by repeat (first | (with_reducible first | exact HB.out | apply below_alloc | apply pw_below_drewN | apply below_drew1) | exact HB.out)⟩
def day_End.f (k : Nat) (a0 : Int) : Option (Bool) := (day_Date.f k a0).bind fun bt112 => ((day_Last.f bt112.1 bt112.2.1).bind fun bt116 => (if bt112.2.2.2 = true then (some (bt112.2.2.1 == bt116.1)) else (some false)))
theorem day_End.mono : ∀ a0 k, LeO (day_End.f k a0) (day_End.f (k + 1) a0) := by
  intro a0 k
  unfold day_End.f
  repeat' first
      | (with_reducible exact day_Date.mono _ _)
      | (with_reducible exact LeO.refl _)
      | (with_reducible exact LeO.none _)
      | (with_reducible refine LeO.ite ?_ ?_)
      | (with_reducible refine LeO.bind ?_ (fun _ => ?_))
      | exact day_Date.mono _ _
      | exact LeO.none _
      | refine LeO.ite ?_ ?_
      | refine LeO.bind ?_ (fun _ => ?_)
set_option maxHeartbeats 8000000 in
set_option maxRecDepth 100000 in
theorem day_End.calls (k : Nat) (a0 : Int) (r : Bool) (w : World) (h : day_End.f k a0 = some r) :
    Calls Tryd.prog 75 #[.int .i64 a0] w fun e w' => e = .returned (.bool r) ∧ Below w.heap.size w w' := by
  have HB := Aside0.mk (Below.refl w.heap.size w)
  have H : ((day_Date.f k a0).bind fun bt112 => ((day_Last.f bt112.1 bt112.2.1).bind fun bt116 => (if bt112.2.2.2 = true then (some (bt112.2.2.1 == bt116.1)) else (some false)))) = some r := h
  clear h
  replace H := Option.bind_eq_some_iff.mp H
  obtain ⟨⟨t112, t113, t114, t115⟩, A20, H⟩ := H
  replace H : ((day_Last.f t112 t113).bind fun bt116 => (if t115 = true then (some (t114 == bt116.1)) else (some false))) = some r := H
  have A2 := Aside0.mk A20
  clear A20
  replace H := Option.bind_eq_some_iff.mp H
  obtain ⟨⟨t116, t117⟩, A30, H⟩ := H
  replace H : (if t115 = true then (some (t114 == t116)) else (some false)) = some r := H
  have A3 := Aside0.mk A30
  clear A30
  by_cases c4 : t115 = true
  · subst c4
    have H1 : (some (t114 == t116)) = some r := by rw [if_pos rfl] at H; exact H
    clear H
    have H := H1
    clear H1
    obtain rfl := Option.some.inj H
    go_enter Tryd.func75, Tryd.ntmps75
    go_wp2_with (first | ((with_reducible refine gate_callee (f := 52) rfl ?_); refine goesL_ (some 11) rfl rfl Tryd.func52 (by kernel_rfl) rfl #[.int .i64 a0] rfl (by (try simp only [List.map_toArray, List.map_cons, List.map_nil]); first | done | rfl | (simp only [List.length_drop, List.length_take]; rfl)) ?_; (with_reducible refine (day_Date.calls k a0 t112 t113 t114 true _ A2.out).mono ?_); rintro e w' ⟨rfl, ⟨nd, rfl⟩⟩; refine ⟨_, rfl, ?_⟩) | ((with_reducible refine gate_callee (f := 79) rfl ?_); refine goesL_ (some 19) rfl rfl Tryd.func79 (by kernel_rfl) rfl #[.int .i64 t112, .int .i64 t113] rfl (by (try simp only [List.map_toArray, List.map_cons, List.map_nil]); first | done | rfl | (simp only [List.length_drop, List.length_take]; rfl)) ?_; (with_reducible refine (day_Last.calls t112 t113 t116 t117 _ A3.out).mono ?_); rintro e w5 ⟨rfl, hb⟩; refine ⟨_, rfl, ?_⟩; have n0_ := Aside0.mk (below_step (by repeat (first | (with_reducible first | exact HB.out | apply below_alloc | apply pw_below_drewN | apply below_drew1) | exact HB.out)) hb); clear HB; have HB := n0_; clear n0_; (try clear hb); (try clear hb2); (try clear hk); (try clear hi)))
    go_ret
    exact ⟨by first | rfl | (simp [errW_none, errW_some] <;> rfl) | (simp [*, errW_none, errW_some] <;> rfl), by repeat (first | (with_reducible first | exact HB.out | apply below_alloc | apply pw_below_drewN | apply below_drew1) | exact HB.out)⟩
  · replace c4 := Bool.eq_false_iff.mpr c4
    subst c4
    have H1 : (some false) = some r := by rw [if_neg (show ¬ (false = true) by decide)] at H; exact H
    clear H
    have H := H1
    clear H1
    obtain rfl := Option.some.inj H
    go_enter Tryd.func75, Tryd.ntmps75
    go_wp2_with (first | ((with_reducible refine gate_callee (f := 52) rfl ?_); refine goesL_ (some 11) rfl rfl Tryd.func52 (by kernel_rfl) rfl #[.int .i64 a0] rfl (by (try simp only [List.map_toArray, List.map_cons, List.map_nil]); first | done | rfl | (simp only [List.length_drop, List.length_take]; rfl)) ?_; (with_reducible refine (day_Date.calls k a0 t112 t113 t114 false _ A2.out).mono ?_); rintro e w' ⟨rfl, ⟨nd, rfl⟩⟩; refine ⟨_, rfl, ?_⟩) | ((with_reducible refine gate_callee (f := 79) rfl ?_); refine goesL_ (some 19) rfl rfl Tryd.func79 (by kernel_rfl) rfl #[.int .i64 t112, .int .i64 t113] rfl (by (try simp only [List.map_toArray, List.map_cons, List.map_nil]); first | done | rfl | (simp only [List.length_drop, List.length_take]; rfl)) ?_; (with_reducible refine (day_Last.calls t112 t113 t116 t117 _ A3.out).mono ?_); rintro e w6 ⟨rfl, hb⟩; refine ⟨_, rfl, ?_⟩; have n0_ := Aside0.mk (below_step (by repeat (first | (with_reducible first | exact HB.out | apply below_alloc | apply pw_below_drewN | apply below_drew1) | exact HB.out)) hb); clear HB; have HB := n0_; clear n0_; (try clear hb); (try clear hb2); (try clear hk); (try clear hi)))
    go_ret
    exact ⟨by first | rfl | (simp [errW_none, errW_some] <;> rfl) | (simp [*, errW_none, errW_some] <;> rfl), by repeat (first | (with_reducible first | exact HB.out | apply below_alloc | apply pw_below_drewN | apply below_drew1) | exact HB.out)⟩
mutual
def leap_wrong.j0 : Nat → Int → Bool → Int → Int → Bool → Option (Int)
  | 0, _, _, _, _, _ => none
  | k + 1, x2, x10, x119000, x119001, x119002 => if x10 = true then (some 9) else ((day_End.f k x119000).bind fun t119 => (if t119 = true then (if x119001 = 1 then (leap_wrong.j1 k x2 false x119000 x119001 x119002) else (leap_wrong.j1 k x2 (x119001 != (-1)) x119000 x119001 x119002)) else (some 5)))
def leap_wrong.j1 : Nat → Int → Bool → Int → Int → Bool → Option (Int)
  | 0, _, _, _, _, _ => none
  | k + 1, x2, x22, x119000, x119001, x119002 => if x22 = true then (some 6) else (if x119000 ≤ x2 then (some 4) else (some 0))
end
def leap_wrong.f (k : Nat) (a0 : Int) (a1_0 : Int) (a1_1 : Int) (a1_2 : Bool) (a2 : Int) : Option (Int) := if a0 ≥ 200 then (some 8) else (if a1_0 < 730 then (leap_wrong.j0 k a2 (decide (a1_0 < 730)) a1_0 a1_1 a1_2) else (leap_wrong.j0 k a2 (decide (a1_0 ≥ 2932896)) a1_0 a1_1 a1_2))
theorem leap_wrong.mono_l : ∀ k, (∀ y0 y1 y2 y3 y4, LeO (leap_wrong.j0 k y0 y1 y2 y3 y4) (leap_wrong.j0 (k + 1) y0 y1 y2 y3 y4)) ∧ (∀ y0 y1 y2 y3 y4, LeO (leap_wrong.j1 k y0 y1 y2 y3 y4) (leap_wrong.j1 (k + 1) y0 y1 y2 y3 y4))
  | 0 => ⟨fun _ _ _ _ _ r h => by simp [leap_wrong.j0] at h, fun _ _ _ _ _ r h => by simp [leap_wrong.j1] at h⟩
  | k + 1 => by
    obtain ⟨ih0, ih1⟩ := leap_wrong.mono_l k
    refine ⟨?_, ?_⟩
    · intro y0 y1 y2 y3 y4
      unfold leap_wrong.j0
      repeat' first
      | (with_reducible exact ih0 _ _ _ _ _)
      | (with_reducible exact ih1 _ _ _ _ _)
      | (with_reducible exact day_End.mono _ _)
      | (with_reducible exact LeO.refl _)
      | (with_reducible exact LeO.none _)
      | (with_reducible refine LeO.ite ?_ ?_)
      | (with_reducible refine LeO.bind ?_ (fun _ => ?_))
      | exact ih0 _ _ _ _ _
      | exact ih1 _ _ _ _ _
      | exact day_End.mono _ _
      | exact LeO.none _
      | refine LeO.ite ?_ ?_
      | refine LeO.bind ?_ (fun _ => ?_)
    · intro y0 y1 y2 y3 y4
      unfold leap_wrong.j1
      repeat' first
      | (with_reducible exact ih0 _ _ _ _ _)
      | (with_reducible exact ih1 _ _ _ _ _)
      | (with_reducible exact day_End.mono _ _)
      | (with_reducible exact LeO.refl _)
      | (with_reducible exact LeO.none _)
      | (with_reducible refine LeO.ite ?_ ?_)
      | (with_reducible refine LeO.bind ?_ (fun _ => ?_))
      | exact ih0 _ _ _ _ _
      | exact ih1 _ _ _ _ _
      | exact day_End.mono _ _
      | exact LeO.none _
      | refine LeO.ite ?_ ?_
      | refine LeO.bind ?_ (fun _ => ?_)
theorem leap_wrong.mono : ∀ a0 a1 a2 a3 a4 k, LeO (leap_wrong.f k a0 a1 a2 a3 a4) (leap_wrong.f (k + 1) a0 a1 a2 a3 a4) := by
  intro a0 a1 a2 a3 a4 k
  obtain ⟨ih0, ih1⟩ := leap_wrong.mono_l k
  unfold leap_wrong.f
  repeat' first
      | (with_reducible exact ih0 _ _ _ _ _)
      | (with_reducible exact ih1 _ _ _ _ _)
      | (with_reducible exact day_End.mono _ _)
      | (with_reducible exact LeO.refl _)
      | (with_reducible exact LeO.none _)
      | (with_reducible refine LeO.ite ?_ ?_)
      | (with_reducible refine LeO.bind ?_ (fun _ => ?_))
      | exact ih0 _ _ _ _ _
      | exact ih1 _ _ _ _ _
      | exact day_End.mono _ _
      | exact LeO.none _
      | refine LeO.ite ?_ ?_
      | refine LeO.bind ?_ (fun _ => ?_)
set_option maxHeartbeats 8000000 in
set_option maxRecDepth 100000 in
theorem leap_wrong.calls (k : Nat) (a0 : Int) (a1_0 : Int) (a1_1 : Int) (a1_2 : Bool) (a2 : Int) (r : Int) (w : World) (h : leap_wrong.f k a0 a1_0 a1_1 a1_2 a2 = some r) :
    Calls Tryd.prog 55 #[.int .i64 a0, .agg #[.int .i64 a1_0, .int .i64 a1_1, .bool a1_2], .int .i64 a2] w fun e w' => e = .returned (.int .i64 r) ∧ Below w.heap.size w w' := by
  have hu46 := Tryd.underlying46
  have HB := Aside0.mk (Below.refl w.heap.size w)
  have H : (if a0 ≥ 200 then (some 8) else (if a1_0 < 730 then (leap_wrong.j0 k a2 (decide (a1_0 < 730)) a1_0 a1_1 a1_2) else (leap_wrong.j0 k a2 (decide (a1_0 ≥ 2932896)) a1_0 a1_1 a1_2))) = some r := h
  clear h
  by_cases c4 : a0 ≥ 200
  · rw [if_pos c4] at H
    have c4b0 : decide (200 ≤ a0) = true := decide_eq_true c4
    clear c4
    obtain rfl := Option.some.inj H
    go_enter Tryd.func55, Tryd.ntmps55
    go_wp2_with (first | ((with_reducible refine gate_dst (N := 4) rfl ?_); refine box_event ?hg (N := 4) ?hd (cs := #[.int .i64 a1_0, .int .i64 a1_1, .bool a1_2]) (t := 46) ?hr ?_; (case hd => rfl); (case hg => rfl); (case hr => first | (go_simp; done) | (go_simp; rfl)); intro gb118 hg w5 hbox hb; have n0_ := Aside0.mk (below_step (by repeat (first | (with_reducible first | exact HB.out | apply below_alloc | apply pw_below_drewN | apply below_drew1) | exact HB.out)) hb); have n1_ := Aside0.mk (hbox); have n2_ := Aside0.mk ((by rw [hg]; exact (below_size (by repeat (first | (with_reducible first | exact HB.out | apply below_alloc | apply pw_below_drewN | apply below_drew1) | exact HB.out))) : w.heap.size ≤ gb118)); have n3_ := Aside0.mk ((by rw [hg]; exact (below_size (by repeat (first | (with_reducible first | exact HB.out | apply below_alloc | apply pw_below_drewN | apply below_drew1) | exact HB.out))) : w.heap.size ≤ gb118)); clear HB; have HB := n0_; have BK118 := n1_; have GW118 := n2_; have GE118 := n3_; clear n0_ n1_ n2_ n3_; clear hb hbox hg))
    go_ret
    exact ⟨by first | rfl | (simp [errW_none, errW_some] <;> rfl) | (simp [*, errW_none, errW_some] <;> rfl), by repeat (first | (with_reducible first | exact HB.out | apply below_alloc | apply pw_below_drewN | apply below_drew1 | refine below_set ?_ GE118.out) | exact HB.out)⟩
  · rw [if_neg c4] at H
    have c4b0 : decide (200 ≤ a0) = false := decide_eq_false c4
    clear c4
    have HC6 := Aside0.mk H
    clear H
    go_enter Tryd.func55, Tryd.ntmps55
    go_upto_if 10 with (first | ((with_reducible refine gate_dst (N := 4) rfl ?_); refine box_event ?hg (N := 4) ?hd (cs := #[.int .i64 a1_0, .int .i64 a1_1, .bool a1_2]) (t := 46) ?hr ?_; (case hd => rfl); (case hg => rfl); (case hr => first | (go_simp; done) | (go_simp; rfl)); intro gb118 hg w7 hbox hb; have n0_ := Aside0.mk (below_step (by repeat (first | (with_reducible first | exact HB.out | apply below_alloc | apply pw_below_drewN | apply below_drew1) | exact HB.out)) hb); have n1_ := Aside0.mk (hbox); have n2_ := Aside0.mk ((by rw [hg]; exact (below_size (by repeat (first | (with_reducible first | exact HB.out | apply below_alloc | apply pw_below_drewN | apply below_drew1) | exact HB.out))) : w.heap.size ≤ gb118)); have n3_ := Aside0.mk ((by rw [hg]; exact (below_size (by repeat (first | (with_reducible first | exact HB.out | apply below_alloc | apply pw_below_drewN | apply below_drew1) | exact HB.out))) : w.heap.size ≤ gb118)); clear HB; have HB := n0_; have BK118 := n1_; have GW118 := n2_; have GE118 := n3_; clear n0_ n1_ n2_ n3_; clear hb hbox hg; have hcz8_0 : w7.cell? ⟨gb118, 0, none⟩ = some (.int .i64 a1_0) := (blk_cell BK118.out 0).trans rfl; have hcz8_1 : w7.cell? ⟨gb118, 1, none⟩ = some (.int .i64 a1_1) := (blk_cell BK118.out 1).trans rfl; have hcz8_2 : w7.cell? ⟨gb118, 2, none⟩ = some (.bool a1_2) := (blk_cell BK118.out 2).trans rfl; have hfz8_0 := blk_frozen BK118.out 0; have hfz8_1 := blk_frozen BK118.out 1; have hfz8_2 := blk_frozen BK118.out 2))
    (try simp only [Act.put, List.setIfInBounds_toArray, List.set_cons_zero, List.set_cons_succ])
    go_cut [10] (fun v10 wc => ∃ (kq : Nat) (x10_5 : Bool), v10 = .bool x10_5 ∧ Aside0 (leap_wrong.j0 kq a2 x10_5 a1_0 a1_1 a1_2 = some r) ∧ Aside0 (kq ≤ k) ∧ Aside0 (wc.heap[gb118]? = some (.cells #[.int .i64 a1_0, .int .i64 a1_1, .bool a1_2] 46 (0, 0))) ∧ Aside0 (Below w.heap.size w wc))
    case first =>
      have H := HC6.out
      clear HC6
      by_cases c9 : a1_0 < 730
      · rw [if_pos c9] at H
        have c9b0 : decide (a1_0 < 730) = true := decide_eq_true c9
        clear c9
        (first | rw [c9b0] | (simp only [i64_w, i32_w]; rw [c9b0]) | skip)
        have H' := Aside0.mk H
        clear H
        go_wp2
        go_meet
        case rel => exact ⟨_, (decide (a1_0 < 730)), (by first | rfl | (simp; done) | (simp [*]; done)), H', ⟨by first | omega | exact Nat.le_refl _⟩, ⟨by (with_reducible repeat (first | refine blk_drewN ?_ _ | refine blk_drew ?_ | refine blk_alloc ?_ _)); exact BK118.out⟩, ⟨by repeat (first | (with_reducible first | exact HB.out | apply below_alloc | apply pw_below_drewN | apply below_drew1 | refine below_set ?_ GE118.out) | exact HB.out)⟩⟩
      · rw [if_neg c9] at H
        have c9b0 : decide (a1_0 < 730) = false := decide_eq_false c9
        clear c9
        (first | rw [c9b0] | (simp only [i64_w, i32_w]; rw [c9b0]) | skip)
        have H' := Aside0.mk H
        clear H
        have hcz10_0 : w7.cell? ⟨gb118, 0, none⟩ = some (.int .i64 a1_0) := (blk_cell BK118.out 0).trans rfl
        have hcz10_1 : w7.cell? ⟨gb118, 1, none⟩ = some (.int .i64 a1_1) := (blk_cell BK118.out 1).trans rfl
        have hcz10_2 : w7.cell? ⟨gb118, 2, none⟩ = some (.bool a1_2) := (blk_cell BK118.out 2).trans rfl
        have hfz10_0 := blk_frozen BK118.out 0
        have hfz10_1 := blk_frozen BK118.out 1
        have hfz10_2 := blk_frozen BK118.out 2
        go_wp2
        go_meet
        case rel => exact ⟨_, (decide (a1_0 ≥ 2932896)), (by first | rfl | (simp; done) | (simp [*]; done)), H', ⟨by first | omega | exact Nat.le_refl _⟩, ⟨by (with_reducible repeat (first | refine blk_drewN ?_ _ | refine blk_drew ?_ | refine blk_alloc ?_ _)); exact BK118.out⟩, ⟨by repeat (first | (with_reducible first | exact HB.out | apply below_alloc | apply pw_below_drewN | apply below_drew1 | refine below_set ?_ GE118.out) | exact HB.out)⟩⟩
    case rest =>
      clear HC6
      try clear p2
      try clear c4
      try clear c4b0
      try clear c5
      try clear c9
      try clear c9b0
      try clear hcz10_0
      try clear hcz10_1
      try clear hcz10_2
      try clear hcz8_0
      try clear hcz8_1
      try clear hcz8_2
      try clear hfz10_0
      try clear hfz10_1
      try clear hfz10_2
      try clear hfz8_0
      try clear hfz8_1
      try clear hfz8_2
      obtain ⟨kq, x10_5, rfl, HA, HJ5, BK118, HB⟩ := hcut
      cases kq with
      | zero => exact absurd HA.out (by simp [leap_wrong.j0])
      | succ kj5 =>
        have H := HA.out
        clear HA
        simp only [leap_wrong.j0] at H
        by_cases c11 : x10_5 = true
        · subst c11
          have H1 : (some 9) = some r := by rw [if_pos rfl] at H; exact H
          clear H
          have H := H1
          clear H1
          obtain rfl := Option.some.inj H
          go_wp2
          go_ret
          exact ⟨by first | rfl | (simp [errW_none, errW_some] <;> rfl) | (simp [*, errW_none, errW_some] <;> rfl), by repeat (first | (with_reducible first | exact HB.out | apply below_alloc | apply pw_below_drewN | apply below_drew1 | refine below_set ?_ GE118.out) | exact HB.out)⟩
        · replace c11 := Bool.eq_false_iff.mpr c11
          subst c11
          have H1 : ((day_End.f kj5 a1_0).bind fun t119 => (if t119 = true then (if a1_1 = 1 then (leap_wrong.j1 kj5 a2 false a1_0 a1_1 a1_2) else (leap_wrong.j1 kj5 a2 (a1_1 != (-1)) a1_0 a1_1 a1_2)) else (some 5))) = some r := by rw [if_neg (show ¬ (false = true) by decide)] at H; exact H
          clear H
          have H := H1
          clear H1
          replace H := Option.bind_eq_some_iff.mp H
          obtain ⟨t119, A120, H⟩ := H
          replace H : (if t119 = true then (if a1_1 = 1 then (leap_wrong.j1 kj5 a2 false a1_0 a1_1 a1_2) else (leap_wrong.j1 kj5 a2 (a1_1 != (-1)) a1_0 a1_1 a1_2)) else (some 5)) = some r := H
          have A12 := Aside0.mk A120
          clear A120
          by_cases c13 : t119 = true
          · subst c13
            have H1 : (if a1_1 = 1 then (leap_wrong.j1 kj5 a2 false a1_0 a1_1 a1_2) else (leap_wrong.j1 kj5 a2 (a1_1 != (-1)) a1_0 a1_1 a1_2)) = some r := by rw [if_pos rfl] at H; exact H
            clear H
            have H := H1
            clear H1
            have HC14 := Aside0.mk H
            clear H
            have hcz15_0 : wc.cell? ⟨gb118, 0, none⟩ = some (.int .i64 a1_0) := (blk_cell BK118.out 0).trans rfl
            have hcz15_1 : wc.cell? ⟨gb118, 1, none⟩ = some (.int .i64 a1_1) := (blk_cell BK118.out 1).trans rfl
            have hcz15_2 : wc.cell? ⟨gb118, 2, none⟩ = some (.bool a1_2) := (blk_cell BK118.out 2).trans rfl
            have hfz15_0 := blk_frozen BK118.out 0
            have hfz15_1 := blk_frozen BK118.out 1
            have hfz15_2 := blk_frozen BK118.out 2
            go_upto_region 8 with (first | ((with_reducible refine gate_callee (f := 75) rfl ?_); refine goesL_ (some 20) rfl rfl Tryd.func75 (by kernel_rfl) rfl #[.int .i64 a1_0] rfl (by (try simp only [List.map_toArray, List.map_cons, List.map_nil]); first | done | rfl | (simp only [List.length_drop, List.length_take]; rfl)) ?_; (with_reducible refine (day_End.calls kj5 a1_0 true _ A12.out).mono ?_); rintro e w16 ⟨rfl, hb⟩; refine ⟨_, rfl, ?_⟩; have n0_ := Aside0.mk (blk_below (g := gb118) (o := .cells #[.int .i64 a1_0, .int .i64 a1_1, .bool a1_2] 46 (0, 0)) (by (with_reducible repeat (first | refine blk_drewN ?_ _ | refine blk_drew ?_ | refine blk_alloc ?_ _)); exact BK118.out) hb); have n1_ := Aside0.mk (below_step (by repeat (first | (with_reducible first | exact HB.out | apply below_alloc | apply pw_below_drewN | apply below_drew1 | refine below_set ?_ GE118.out) | exact HB.out)) hb); clear BK118; clear HB; have BK118 := n0_; have HB := n1_; clear n0_ n1_; (try clear hb); (try clear hb2); (try clear hk); (try clear hi)))
            (try simp only [Act.put, List.setIfInBounds_toArray, List.set_cons_zero, List.set_cons_succ])
            go_cut [22] (fun v22 wc => ∃ (kq : Nat) (x22_13 : Bool), v22 = .bool x22_13 ∧ Aside0 (leap_wrong.j1 kq a2 x22_13 a1_0 a1_1 a1_2 = some r) ∧ Aside0 (kq ≤ kj5) ∧ Aside0 (wc.heap[gb118]? = some (.cells #[.int .i64 a1_0, .int .i64 a1_1, .bool a1_2] 46 (0, 0))) ∧ Aside0 (Below w.heap.size w wc))
            case first =>
              have H := HC14.out
              clear HC14
              by_cases c17 : a1_1 = 1
              · rw [if_pos c17] at H
                have c17b0 : (a1_1 == 1) = true := beq_iff_eq.mpr c17
                have c17b1 : (a1_1 != 1) = false := bne_eq_false_iff_eq.mpr c17
                clear c17
                (first | rw [c17b0] | (simp only [i64_w, i32_w]; rw [c17b0]) | skip)
                have H' := Aside0.mk H
                clear H
                have hcz18_0 : w16.cell? ⟨gb118, 0, none⟩ = some (.int .i64 a1_0) := (blk_cell BK118.out 0).trans rfl
                have hcz18_1 : w16.cell? ⟨gb118, 1, none⟩ = some (.int .i64 a1_1) := (blk_cell BK118.out 1).trans rfl
                have hcz18_2 : w16.cell? ⟨gb118, 2, none⟩ = some (.bool a1_2) := (blk_cell BK118.out 2).trans rfl
                have hfz18_0 := blk_frozen BK118.out 0
                have hfz18_1 := blk_frozen BK118.out 1
                have hfz18_2 := blk_frozen BK118.out 2
                go_wp2
                go_meet
                case rel => exact ⟨_, (false), (by first | rfl | (simp; done) | (simp [*]; done)), H', ⟨by have := HJ5.out; first | omega | exact Nat.le_refl _⟩, ⟨by (with_reducible repeat (first | refine blk_drewN ?_ _ | refine blk_drew ?_ | refine blk_alloc ?_ _)); exact BK118.out⟩, ⟨by repeat (first | (with_reducible first | exact HB.out | apply below_alloc | apply pw_below_drewN | apply below_drew1 | refine below_set ?_ GE118.out) | exact HB.out)⟩⟩
              · rw [if_neg c17] at H
                have c17b0 : (a1_1 == 1) = false := beq_eq_false_iff_ne.mpr c17
                have c17b1 : (a1_1 != 1) = true := bne_iff_ne.mpr c17
                (first | rw [c17b0] | (simp only [i64_w, i32_w]; rw [c17b0]) | skip)
                have H' := Aside0.mk H
                clear H
                have hcz19_0 : w16.cell? ⟨gb118, 0, none⟩ = some (.int .i64 a1_0) := (blk_cell BK118.out 0).trans rfl
                have hcz19_1 : w16.cell? ⟨gb118, 1, none⟩ = some (.int .i64 a1_1) := (blk_cell BK118.out 1).trans rfl
                have hcz19_2 : w16.cell? ⟨gb118, 2, none⟩ = some (.bool a1_2) := (blk_cell BK118.out 2).trans rfl
                have hfz19_0 := blk_frozen BK118.out 0
                have hfz19_1 := blk_frozen BK118.out 1
                have hfz19_2 := blk_frozen BK118.out 2
                go_wp2
                go_meet
                case rel => exact ⟨_, ((a1_1 != (-1))), (by first | rfl | (simp; done) | (simp [*]; done)), H', ⟨by have := HJ5.out; first | omega | exact Nat.le_refl _⟩, ⟨by (with_reducible repeat (first | refine blk_drewN ?_ _ | refine blk_drew ?_ | refine blk_alloc ?_ _)); exact BK118.out⟩, ⟨by repeat (first | (with_reducible first | exact HB.out | apply below_alloc | apply pw_below_drewN | apply below_drew1 | refine below_set ?_ GE118.out) | exact HB.out)⟩⟩
            case rest =>
              clear HC14
              try clear c1
              try clear p2
              try clear c4
              try clear c4b0
              try clear c5
              try clear c7
              try clear c9
              try clear c9b0
              try clear c11
              try clear c13
              try clear c17
              try clear c17b0
              try clear c17b1
              try clear hcz10_0
              try clear hcz10_1
              try clear hcz10_2
              try clear hcz15_0
              try clear hcz15_1
              try clear hcz15_2
              try clear hcz18_0
              try clear hcz18_1
              try clear hcz18_2
              try clear hcz19_0
              try clear hcz19_1
              try clear hcz19_2
              try clear hcz8_0
              try clear hcz8_1
              try clear hcz8_2
              try clear hfz10_0
              try clear hfz10_1
              try clear hfz10_2
              try clear hfz15_0
              try clear hfz15_1
              try clear hfz15_2
              try clear hfz18_0
              try clear hfz18_1
              try clear hfz18_2
              try clear hfz19_0
              try clear hfz19_1
              try clear hfz19_2
              try clear hfz8_0
              try clear hfz8_1
              try clear hfz8_2
              try clear p2
              obtain ⟨kq, x22_13, rfl, HA, HJ13, BK118, HB⟩ := hcut
              cases kq with
              | zero => exact absurd HA.out (by simp [leap_wrong.j1])
              | succ kj13 =>
                have H := HA.out
                clear HA
                simp only [leap_wrong.j1] at H
                by_cases c20 : x22_13 = true
                · subst c20
                  have H1 : (some 6) = some r := by rw [if_pos rfl] at H; exact H
                  clear H
                  have H := H1
                  clear H1
                  obtain rfl := Option.some.inj H
                  go_wp2
                  go_ret
                  exact ⟨by first | rfl | (simp [errW_none, errW_some] <;> rfl) | (simp [*, errW_none, errW_some] <;> rfl), by repeat (first | (with_reducible first | exact HB.out | apply below_alloc | apply pw_below_drewN | apply below_drew1 | refine below_set ?_ GE118.out) | exact HB.out)⟩
                · replace c20 := Bool.eq_false_iff.mpr c20
                  subst c20
                  have H1 : (if a1_0 ≤ a2 then (some 4) else (some 0)) = some r := by rw [if_neg (show ¬ (false = true) by decide)] at H; exact H
                  clear H
                  have H := H1
                  clear H1
                  by_cases c21 : a1_0 ≤ a2
                  · rw [if_pos c21] at H
                    have c21b0 : decide (a1_0 ≤ a2) = true := decide_eq_true c21
                    clear c21
                    obtain rfl := Option.some.inj H
                    have hcz22_0 : wc.cell? ⟨gb118, 0, none⟩ = some (.int .i64 a1_0) := (blk_cell BK118.out 0).trans rfl
                    have hcz22_1 : wc.cell? ⟨gb118, 1, none⟩ = some (.int .i64 a1_1) := (blk_cell BK118.out 1).trans rfl
                    have hcz22_2 : wc.cell? ⟨gb118, 2, none⟩ = some (.bool a1_2) := (blk_cell BK118.out 2).trans rfl
                    have hfz22_0 := blk_frozen BK118.out 0
                    have hfz22_1 := blk_frozen BK118.out 1
                    have hfz22_2 := blk_frozen BK118.out 2
                    go_wp2
                    go_ret
                    exact ⟨by first | rfl | (simp [errW_none, errW_some] <;> rfl) | (simp [*, errW_none, errW_some] <;> rfl), by repeat (first | (with_reducible first | exact HB.out | apply below_alloc | apply pw_below_drewN | apply below_drew1 | refine below_set ?_ GE118.out) | exact HB.out)⟩
                  · rw [if_neg c21] at H
                    have c21b0 : decide (a1_0 ≤ a2) = false := decide_eq_false c21
                    clear c21
                    obtain rfl := Option.some.inj H
                    have hcz23_0 : wc.cell? ⟨gb118, 0, none⟩ = some (.int .i64 a1_0) := (blk_cell BK118.out 0).trans rfl
                    have hcz23_1 : wc.cell? ⟨gb118, 1, none⟩ = some (.int .i64 a1_1) := (blk_cell BK118.out 1).trans rfl
                    have hcz23_2 : wc.cell? ⟨gb118, 2, none⟩ = some (.bool a1_2) := (blk_cell BK118.out 2).trans rfl
                    have hfz23_0 := blk_frozen BK118.out 0
                    have hfz23_1 := blk_frozen BK118.out 1
                    have hfz23_2 := blk_frozen BK118.out 2
                    go_wp2
                    go_ret
                    exact ⟨by first | rfl | (simp [errW_none, errW_some] <;> rfl) | (simp [*, errW_none, errW_some] <;> rfl), by repeat (first | (with_reducible first | exact HB.out | apply below_alloc | apply pw_below_drewN | apply below_drew1 | refine below_set ?_ GE118.out) | exact HB.out)⟩
          · replace c13 := Bool.eq_false_iff.mpr c13
            subst c13
            have H1 : (some 5) = some r := by rw [if_neg (show ¬ (false = true) by decide)] at H; exact H
            clear H
            have H := H1
            clear H1
            obtain rfl := Option.some.inj H
            have hcz24_0 : wc.cell? ⟨gb118, 0, none⟩ = some (.int .i64 a1_0) := (blk_cell BK118.out 0).trans rfl
            have hcz24_1 : wc.cell? ⟨gb118, 1, none⟩ = some (.int .i64 a1_1) := (blk_cell BK118.out 1).trans rfl
            have hcz24_2 : wc.cell? ⟨gb118, 2, none⟩ = some (.bool a1_2) := (blk_cell BK118.out 2).trans rfl
            have hfz24_0 := blk_frozen BK118.out 0
            have hfz24_1 := blk_frozen BK118.out 1
            have hfz24_2 := blk_frozen BK118.out 2
            go_wp2_with (first | ((with_reducible refine gate_callee (f := 75) rfl ?_); refine goesL_ (some 20) rfl rfl Tryd.func75 (by kernel_rfl) rfl #[.int .i64 a1_0] rfl (by (try simp only [List.map_toArray, List.map_cons, List.map_nil]); first | done | rfl | (simp only [List.length_drop, List.length_take]; rfl)) ?_; (with_reducible refine (day_End.calls kj5 a1_0 false _ A12.out).mono ?_); rintro e w25 ⟨rfl, hb⟩; refine ⟨_, rfl, ?_⟩; have n0_ := Aside0.mk (blk_below (g := gb118) (o := .cells #[.int .i64 a1_0, .int .i64 a1_1, .bool a1_2] 46 (0, 0)) (by (with_reducible repeat (first | refine blk_drewN ?_ _ | refine blk_drew ?_ | refine blk_alloc ?_ _)); exact BK118.out) hb); have n1_ := Aside0.mk (below_step (by repeat (first | (with_reducible first | exact HB.out | apply below_alloc | apply pw_below_drewN | apply below_drew1 | refine below_set ?_ GE118.out) | exact HB.out)) hb); clear BK118; clear HB; have BK118 := n0_; have HB := n1_; clear n0_ n1_; (try clear hb); (try clear hb2); (try clear hk); (try clear hi)))
            go_ret
            exact ⟨by first | rfl | (simp [errW_none, errW_some] <;> rfl) | (simp [*, errW_none, errW_some] <;> rfl), by repeat (first | (with_reducible first | exact HB.out | apply below_alloc | apply pw_below_drewN | apply below_drew1 | refine below_set ?_ GE118.out) | exact HB.out)⟩
end Go.Proofs.YtodalfobehddmaaDoor.Z
namespace Go.Proofs.YtodalfobehddmaaDoor.Z
open Go.RowKit Go.Proofs.YtodalfobehddmaaDoorW.PrintWords Go.Proofs.YtodalfobehddmaaDoorW.PrintLast Go.Proofs.YtodalfobehddmaaDoor.Mx
structure BytesAt (g : Nat) (l : List UInt8) (w : World) : Prop where
  cell : ∀ j (h : j < l.length), w.cell? ⟨g, j, none⟩ = some (.int .u8 (l[j].toNat : Int))
  free : ∀ j, j < l.length → w.frozen? ⟨g, j, none⟩ = false
theorem BytesAt.set {g : Nat} {l : List UInt8} {w : World} (h : BytesAt g l w) (k : Nat) (hk : k < l.length) (c : UInt8) (v : Int) (hv : v = (c.toNat : Int)) :
    BytesAt g (l.set k c) (w.setCell ⟨g, k, none⟩ (.int .u8 v)) := by
  subst hv
  constructor
  · intro j hj
    have hj' : j < l.length := by simpa using hj
    by_cases e : j = k
    · subst e
      rw [World.cell?_setCell_same _ _ _ (h.cell j hj')]
      simp
    · rw [World.cell?_setCell_other _ _ _ _ (by intro e'; injection e' with _ e2 _; exact e e2.symm), h.cell j hj']
      rw [List.getElem_set_ne (Ne.symm e)]
  · intro j hj
    rw [World.frozen?_setCell]
    exact h.free j (by simpa using hj)
theorem BytesAt.made (w : World) (s : ByteArray) (cap : Nat) :
    BytesAt w.heap.size s.data.toList (w.drew.alloc (.cells (bytesRow s cap) 5 ((bytesRow s cap).size, (bytesRow s cap).size + 1))) := by
  constructor
  · intro j hj
    have e := World.cell?_alloc_mark w.drew (bytesRow s cap) 5 ((bytesRow s cap).size, (bytesRow s cap).size + 1) j
    have e' : (w.drew.alloc (.cells (bytesRow s cap) 5 ((bytesRow s cap).size, (bytesRow s cap).size + 1))).cell? ⟨w.heap.size, j, none⟩ = (bytesRow s cap)[j]? := e
    rw [e', bytesRow_at s cap j (by simpa using hj)]
    rfl
  · intro j hj
    have e : (w.drew.alloc (.cells (bytesRow s cap) 5 ((bytesRow s cap).size, (bytesRow s cap).size + 1))).frozen? ⟨w.heap.size, j, none⟩ = (decide ((bytesRow s cap).size ≤ j) && decide (j < (bytesRow s cap).size + 1)) := World.frozen?_alloc_mark w.drew (bytesRow s cap) 5 _ _ j
    rw [e]
    have hs : j < s.data.size := by simpa using hj
    have h2 : j < (bytesRow s cap).size := by
      unfold bytesRow
      rw [Array.size_append, Array.size_map]
      omega
    rw [decide_eq_false (by omega)]
    rfl
theorem BytesAt.below {g : Nat} {l : List UInt8} {w w' : World} {B : Nat} (h : BytesAt g l w) (hb : Below B w w') (hg : g < B) : BytesAt g l w' :=
  ⟨fun j hj => (hb.cell (p := ⟨g, j, none⟩) hg).trans (h.cell j hj), fun j hj => (hb.frozen (p := ⟨g, j, none⟩) hg).trans (h.free j hj)⟩
theorem BytesAt.back {P : Program} {g : Nat} {l : List UInt8} {w : World} (h : BytesAt g l w) (src dst e : TypeId) (n cap : Nat) (hn : n = l.length) (hs : P.underlying src = some (.slice e)) (he : P.underlying e = some (.int .u8)) (hd : P.underlying dst = some .string) :
    (convert src dst (.slice (some ⟨g, 0, none⟩) n cap)).run P w = .ok (.string ⟨l.toArray⟩) w := by
  subst hn
  refine run_convert_bytes_back w src dst e ⟨g, 0, none⟩ cap l hs he hd (fun j hj => ?_)
  rw [add_plain]
  exact h.cell j hj
end Go.Proofs.YtodalfobehddmaaDoor.Z
namespace Go.Proofs
open Go.Shelf
def Tryd.lays156_ren : Go.Shelf.Ren := ⟨fun | 156 => 48 | 165 => 70 | 166 => 71 | 169 => 72 | 240 => 90 | 241 => 91 | 276 => 110 | 277 => 111 | n => n, fun | 31 => 35 | 9 => 9 | 3 => 3 | 4 => 4 | 0 => 0 | 20 => 20 | 72 => 113 | 76 => 117 | 70 => 111 | 37 => 65 | 75 => 116 | 127 => 136 | 164 => 157 | 5 => 5 | 80 => 69 | n => n, fun | n => n⟩
theorem Tryd.lays156 : Go.Proofs.Lays.n156 Tryd.prog Tryd.lays156_ren := {
  mixed := by kernel_rfl
  f156 := Tryd.func48.trans (congrArg some (by kernel_rfl))
  f165 := Tryd.func70.trans (congrArg some (by kernel_rfl))
  f166 := Tryd.func71.trans (congrArg some (by kernel_rfl))
  f169 := Tryd.func72.trans (congrArg some (by kernel_rfl))
  f240 := Tryd.func90.trans (congrArg some (by kernel_rfl))
  f241 := Tryd.func91.trans (congrArg some (by kernel_rfl))
  f276 := Tryd.func110.trans (congrArg some (by kernel_rfl))
  f277 := Tryd.func111.trans (congrArg some (by kernel_rfl))
  t0 := Tryd.underlying0
  a0 := Tryd.isAgg0
  z0 := Tryd.sizeOf0
  v0 := Tryd.zeroValue0
  t3 := Tryd.underlying3
  a3 := Tryd.isAgg3
  z3 := Tryd.sizeOf3
  v3 := Tryd.zeroValue3
  t4 := Tryd.underlying4
  a4 := Tryd.isAgg4
  z4 := Tryd.sizeOf4
  v4 := Tryd.zeroValue4
  t9 := Tryd.underlying9
  a9 := Tryd.isAgg9
  z9 := Tryd.sizeOf9
  v9 := Tryd.zeroValue9
  t20 := Tryd.underlying20
  a20 := Tryd.isAgg20
  z20 := Tryd.sizeOf20
  v20 := Tryd.zeroValue20
  t31 := Tryd.underlying35
  a31 := Tryd.isAgg35
  z31 := Tryd.sizeOf35
  v31 := Tryd.zeroValue35
  t37 := Tryd.underlying65
  a37 := Tryd.isAgg65
  z37 := Tryd.sizeOf65
  v37 := Tryd.zeroValue65
  t70 := Tryd.underlying111
  a70 := Tryd.isAgg111
  z70 := Tryd.sizeOf111
  v70 := Tryd.zeroValue111
  t72 := Tryd.underlying113
  a72 := Tryd.isAgg113
  z72 := Tryd.sizeOf113
  v72 := Tryd.zeroValue113
  t75 := Tryd.underlying116
  a75 := Tryd.isAgg116
  z75 := Tryd.sizeOf116
  v75 := Tryd.zeroValue116
  t76 := Tryd.underlying117
  a76 := Tryd.isAgg117
  z76 := Tryd.sizeOf117
  v76 := Tryd.zeroValue117
  t127 := Tryd.underlying136
  a127 := Tryd.isAgg136
  z127 := Tryd.sizeOf136
  v127 := Tryd.zeroValue136
  t164 := Tryd.underlying157
  a164 := Tryd.isAgg157
  z164 := Tryd.sizeOf157
  v164 := Tryd.zeroValue157 }
theorem Tryd.Builder_Extra_156 : Builder.Extra Tryd.prog Tryd.lays156_ren := {
  sizeBuilder := by kernel_rfl
  liesBuilder := by kernel_rfl
  t5 := Tryd.underlying5
  a5 := Tryd.isAgg5
  z5 := Tryd.sizeOf5
  v5 := Tryd.zeroValue5
  infoByte := by kernel_rfl
  cellsByte := by kernel_rfl
  sizeByte := by kernel_rfl
  neB5 := by decide }
open Go.RowKit in
theorem Tryd.strings_Join (bk o c : Nat) (xs : List ByteArray) (sep : ByteArray) (w : World) (hcells : ∀ (j : Nat) x, xs[j]? = some x → w.cell? ⟨bk, o + j, none⟩ = some (.string x)) (hbk : bk < w.heap.size) (hN : xs.length ≤ 140737488355328) (hcap : xs.length ≤ c) (hlen : (Lib.join (xs.map (·.data.toList)) sep.data.toList).length ≤ 140737488355328) :
    Calls Tryd.prog 48 #[.slice (some ⟨bk, o, none⟩) xs.length c, .string sep] w fun e w' => e = .returned (.string ⟨(Lib.join (xs.map (·.data.toList)) sep.data.toList).toArray⟩) ∧ Below w.heap.size w w' := Any.strings_Join Tryd.lays156 Tryd.Builder_Extra_156 bk o c xs sep w hcells hbk hN hcap hlen
def Tryd.laysM171_ren : Go.Shelf.Ren := ⟨fun | 171 => 38 | 243 => 63 | 246 => 85 | 283 => 103 | 284 => 104 | 285 => 105 | 286 => 106 | 129 => 116 | 317 => 115 | 318 => 117 | 319 => 118 | 320 => 119 | 337 => 120 | 338 => 121 | n => n, fun | 3 => 3 | 9 => 9 | 2 => 2 | 4 => 4 | 171 => 147 | 0 => 0 | 53 => 133 | 37 => 65 | 5 => 5 | 173 => 150 | 212 => 163 | 51 => 49 | 20 => 20 | 213 => 164 | 46 => 86 | 232 => 171 | 233 => 172 | n => n, fun | 17 => 1 | 18 => 4 | 19 => 5 | n => n⟩
theorem Tryd.laysM171 : Go.Proofs.LaysM.n171 Tryd.prog Tryd.laysM171_ren := {
  mixed := by kernel_rfl
  f129 := Tryd.func116.trans (congrArg some (by kernel_rfl))
  f171 := Tryd.func38.trans (congrArg some (by kernel_rfl))
  f243 := Tryd.func63.trans (congrArg some (by kernel_rfl))
  f246 := Tryd.func85.trans (congrArg some (by kernel_rfl))
  f283 := Tryd.func103.trans (congrArg some (by kernel_rfl))
  f284 := Tryd.func104.trans (congrArg some (by kernel_rfl))
  f285 := Tryd.func105.trans (congrArg some (by kernel_rfl))
  f286 := Tryd.func106.trans (congrArg some (by kernel_rfl))
  f317 := Tryd.func115.trans (congrArg some (by kernel_rfl))
  f318 := Tryd.func117.trans (congrArg some (by kernel_rfl))
  f319 := Tryd.func118.trans (congrArg some (by kernel_rfl))
  f320 := Tryd.func119.trans (congrArg some (by kernel_rfl))
  f337 := Tryd.func120.trans (congrArg some (by kernel_rfl))
  f338 := Tryd.func121.trans (congrArg some (by kernel_rfl))
  t0 := Tryd.underlying0
  a0 := Tryd.isAgg0
  z0 := Tryd.sizeOf0
  v0 := Tryd.zeroValue0
  t2 := Tryd.underlying2
  a2 := Tryd.isAgg2
  z2 := Tryd.sizeOf2
  v2 := Tryd.zeroValue2
  t3 := Tryd.underlying3
  a3 := Tryd.isAgg3
  z3 := Tryd.sizeOf3
  v3 := Tryd.zeroValue3
  t4 := Tryd.underlying4
  a4 := Tryd.isAgg4
  z4 := Tryd.sizeOf4
  v4 := Tryd.zeroValue4
  t5 := Tryd.underlying5
  a5 := Tryd.isAgg5
  z5 := Tryd.sizeOf5
  v5 := Tryd.zeroValue5
  t9 := Tryd.underlying9
  a9 := Tryd.isAgg9
  z9 := Tryd.sizeOf9
  v9 := Tryd.zeroValue9
  t20 := Tryd.underlying20
  a20 := Tryd.isAgg20
  z20 := Tryd.sizeOf20
  v20 := Tryd.zeroValue20
  t37 := Tryd.underlying65
  a37 := Tryd.isAgg65
  z37 := Tryd.sizeOf65
  v37 := Tryd.zeroValue65
  t46 := Tryd.underlying86
  a46 := Tryd.isAgg86
  z46 := Tryd.sizeOf86
  v46 := Tryd.zeroValue86
  t51 := Tryd.underlying49
  a51 := Tryd.isAgg49
  z51 := Tryd.sizeOf49
  v51 := Tryd.zeroValue49
  t53 := Tryd.underlying133
  a53 := Tryd.isAgg133
  z53 := Tryd.sizeOf133
  v53 := Tryd.zeroValue133
  t171 := Tryd.underlying147
  a171 := Tryd.isAgg147
  z171 := Tryd.sizeOf147
  v171 := Tryd.zeroValue147
  t173 := Tryd.underlying150
  a173 := Tryd.isAgg150
  z173 := Tryd.sizeOf150
  v173 := Tryd.zeroValue150
  t212 := Tryd.underlying163
  a212 := Tryd.isAgg163
  z212 := Tryd.sizeOf163
  v212 := Tryd.zeroValue163
  t213 := Tryd.underlying164
  a213 := Tryd.isAgg164
  z213 := Tryd.sizeOf164
  t232 := Tryd.underlying171
  a232 := Tryd.isAgg171
  z232 := Tryd.sizeOf171
  v232 := Tryd.zeroValue171
  t233 := Tryd.underlying172
  a233 := Tryd.isAgg172
  z233 := Tryd.sizeOf172
  v233 := Tryd.zeroValue172
  g17 := by kernel_rfl
  g18 := by kernel_rfl
  g19 := by kernel_rfl
  i0 := by kernel_rfl
  i2 := by kernel_rfl
  i3 := by kernel_rfl
  i4 := by kernel_rfl
  i5 := by kernel_rfl
  i9 := by kernel_rfl
  i20 := by kernel_rfl
  i37 := by kernel_rfl
  i46 := by kernel_rfl
  i51 := by kernel_rfl
  i53 := by kernel_rfl
  i171 := by kernel_rfl
  i173 := by kernel_rfl
  i212 := by kernel_rfl
  i232 := by kernel_rfl
  i233 := by kernel_rfl
  m17 := by kernel_rfl
  m18 := by kernel_rfl
  m19 := by kernel_rfl }
open Go.RowKit Go.Sort Go.Lib in
theorem Tryd.strconv_Itoa (n : Int) (h0 : -9223372036854775808 ≤ n) (h1 : n ≤ 9223372036854775807) (w : World) (htab : Lib.TabIs Tryd.prog w "internal/strconv.uint64pow10" .u64 Lib.pow10Tab) :
    Calls Tryd.prog 38 #[.int .i64 n] w fun e w' => e = .returned (.string ⟨(Lib.itoa n).toArray⟩) ∧ ∃ k os, w' = grow (w.drewN k) os := Any.strconv_Itoa Tryd.laysM171 n h0 h1 w htab
def Tryd.lays219_ren : Go.Shelf.Ren := ⟨fun | 219 => 76 | 217 => 94 | 225 => 95 | 224 => 96 | 267 => 97 | 266 => 112 | 314 => 113 | n => n, fun | 9 => 9 | 3 => 3 | 4 => 4 | 5 => 5 | 46 => 86 | 146 => 160 | 51 => 49 | n => n, fun | 1 => 0 | n => n⟩
theorem Tryd.lays219 : Go.Proofs.Lays.n219 Tryd.prog Tryd.lays219_ren := {
  mixed := by kernel_rfl
  f217 := Tryd.func94.trans (congrArg some (by kernel_rfl))
  f219 := Tryd.func76.trans (congrArg some (by kernel_rfl))
  f224 := Tryd.func96.trans (congrArg some (by kernel_rfl))
  f225 := Tryd.func95.trans (congrArg some (by kernel_rfl))
  f266 := Tryd.func112.trans (congrArg some (by kernel_rfl))
  f267 := Tryd.func97.trans (congrArg some (by kernel_rfl))
  f314 := Tryd.func113.trans (congrArg some (by kernel_rfl))
  t3 := Tryd.underlying3
  a3 := Tryd.isAgg3
  z3 := Tryd.sizeOf3
  v3 := Tryd.zeroValue3
  t4 := Tryd.underlying4
  a4 := Tryd.isAgg4
  z4 := Tryd.sizeOf4
  v4 := Tryd.zeroValue4
  t5 := Tryd.underlying5
  a5 := Tryd.isAgg5
  z5 := Tryd.sizeOf5
  v5 := Tryd.zeroValue5
  t9 := Tryd.underlying9
  a9 := Tryd.isAgg9
  z9 := Tryd.sizeOf9
  v9 := Tryd.zeroValue9
  t46 := Tryd.underlying86
  a46 := Tryd.isAgg86
  z46 := Tryd.sizeOf86
  v46 := Tryd.zeroValue86
  t51 := Tryd.underlying49
  a51 := Tryd.isAgg49
  z51 := Tryd.sizeOf49
  v51 := Tryd.zeroValue49
  t146 := Tryd.underlying160
  a146 := Tryd.isAgg160
  z146 := Tryd.sizeOf160
  v146 := Tryd.zeroValue160
  g1 := by kernel_rfl }
open Go.RowKit Go.Lib in
theorem Tryd.stringslite_Index_one (s : ByteArray) (c : UInt8) (w : World) :
    Calls Tryd.prog 76 #[.string s, .string ⟨#[c]⟩] w fun e w' => e = .returned (.int .i64 (Lib.indexByte s.data.toList c)) ∧ w' = w := Any.stringslite_Index_one Tryd.lays219 s c w
def Tryd.lays143_ren : Go.Shelf.Ren := ⟨fun | 143 => 83 | 219 => 76 | 217 => 94 | 225 => 95 | 224 => 96 | 267 => 97 | 266 => 112 | 314 => 113 | n => n, fun | 9 => 9 | 3 => 3 | 4 => 4 | 5 => 5 | 46 => 86 | 146 => 160 | 51 => 49 | n => n, fun | 1 => 0 | n => n⟩
theorem Tryd.lays143 : Go.Proofs.Lays.n143 Tryd.prog Tryd.lays143_ren := {
  mixed := by kernel_rfl
  f143 := Tryd.func83.trans (congrArg some (by kernel_rfl))
  f217 := Tryd.func94.trans (congrArg some (by kernel_rfl))
  f219 := Tryd.func76.trans (congrArg some (by kernel_rfl))
  f224 := Tryd.func96.trans (congrArg some (by kernel_rfl))
  f225 := Tryd.func95.trans (congrArg some (by kernel_rfl))
  f266 := Tryd.func112.trans (congrArg some (by kernel_rfl))
  f267 := Tryd.func97.trans (congrArg some (by kernel_rfl))
  f314 := Tryd.func113.trans (congrArg some (by kernel_rfl))
  t3 := Tryd.underlying3
  a3 := Tryd.isAgg3
  z3 := Tryd.sizeOf3
  v3 := Tryd.zeroValue3
  t4 := Tryd.underlying4
  a4 := Tryd.isAgg4
  z4 := Tryd.sizeOf4
  v4 := Tryd.zeroValue4
  t5 := Tryd.underlying5
  a5 := Tryd.isAgg5
  z5 := Tryd.sizeOf5
  v5 := Tryd.zeroValue5
  t9 := Tryd.underlying9
  a9 := Tryd.isAgg9
  z9 := Tryd.sizeOf9
  v9 := Tryd.zeroValue9
  t46 := Tryd.underlying86
  a46 := Tryd.isAgg86
  z46 := Tryd.sizeOf86
  v46 := Tryd.zeroValue86
  t51 := Tryd.underlying49
  a51 := Tryd.isAgg49
  z51 := Tryd.sizeOf49
  v51 := Tryd.zeroValue49
  t146 := Tryd.underlying160
  a146 := Tryd.isAgg160
  z146 := Tryd.sizeOf160
  v146 := Tryd.zeroValue160
  g1 := by kernel_rfl }
open Go.RowKit Go.Lib in
theorem Tryd.strings_Index_one (s : ByteArray) (c : UInt8) (w : World) :
    Calls Tryd.prog 83 #[.string s, .string ⟨#[c]⟩] w fun e w' => e = .returned (.int .i64 (Lib.indexByte s.data.toList c)) ∧ w' = w := Any.strings_Index_one Tryd.lays143 s c w
def Tryd.lays145_ren : Go.Shelf.Ren := ⟨fun | 145 => 31 | 220 => 56 | 219 => 76 | 217 => 94 | 225 => 95 | 224 => 96 | 267 => 97 | 266 => 112 | 314 => 113 | n => n, fun | 9 => 9 | 4 => 4 | 59 => 60 | 3 => 3 | 5 => 5 | 46 => 86 | 146 => 160 | 51 => 49 | n => n, fun | 1 => 0 | n => n⟩
theorem Tryd.lays145 : Go.Proofs.Lays.n145 Tryd.prog Tryd.lays145_ren := {
  mixed := by kernel_rfl
  f145 := Tryd.func31.trans (congrArg some (by kernel_rfl))
  f217 := Tryd.func94.trans (congrArg some (by kernel_rfl))
  f219 := Tryd.func76.trans (congrArg some (by kernel_rfl))
  f220 := Tryd.func56.trans (congrArg some (by kernel_rfl))
  f224 := Tryd.func96.trans (congrArg some (by kernel_rfl))
  f225 := Tryd.func95.trans (congrArg some (by kernel_rfl))
  f266 := Tryd.func112.trans (congrArg some (by kernel_rfl))
  f267 := Tryd.func97.trans (congrArg some (by kernel_rfl))
  f314 := Tryd.func113.trans (congrArg some (by kernel_rfl))
  t3 := Tryd.underlying3
  a3 := Tryd.isAgg3
  z3 := Tryd.sizeOf3
  v3 := Tryd.zeroValue3
  t4 := Tryd.underlying4
  a4 := Tryd.isAgg4
  z4 := Tryd.sizeOf4
  v4 := Tryd.zeroValue4
  t5 := Tryd.underlying5
  a5 := Tryd.isAgg5
  z5 := Tryd.sizeOf5
  v5 := Tryd.zeroValue5
  t9 := Tryd.underlying9
  a9 := Tryd.isAgg9
  z9 := Tryd.sizeOf9
  v9 := Tryd.zeroValue9
  t46 := Tryd.underlying86
  a46 := Tryd.isAgg86
  z46 := Tryd.sizeOf86
  v46 := Tryd.zeroValue86
  t51 := Tryd.underlying49
  a51 := Tryd.isAgg49
  z51 := Tryd.sizeOf49
  v51 := Tryd.zeroValue49
  t59 := Tryd.underlying60
  a59 := Tryd.isAgg60
  z59 := Tryd.sizeOf60
  v59 := Tryd.zeroValue60
  t146 := Tryd.underlying160
  a146 := Tryd.isAgg160
  z146 := Tryd.sizeOf160
  v146 := Tryd.zeroValue160
  g1 := by kernel_rfl }
open Go.RowKit Go.Lib in
theorem Tryd.strings_Cut (s sep : ByteArray) (m : Int) (w : World) (hs : s.size < 4294967281) (hm : w.cell? ⟨0, 0, none⟩ = some (.int .i64 m)) :
    Calls Tryd.prog 31 #[.string s, .string sep] w fun e w' => e = .returned (.tuple #[.string ⟨(Lib.cut s.data.toList sep.data.toList).1.toArray⟩, .string ⟨(Lib.cut s.data.toList sep.data.toList).2.1.toArray⟩, .bool (Lib.cut s.data.toList sep.data.toList).2.2]) ∧ ∃ n, w' = w.drewN n := Any.strings_Cut Tryd.lays145 s sep m w hs hm
def Tryd.lays138_ren : Go.Shelf.Ren := ⟨fun | 138 => 82 | 195 => 100 | 218 => 102 | 143 => 83 | 219 => 76 | 217 => 94 | 225 => 95 | 224 => 96 | 267 => 97 | 266 => 112 | 314 => 113 | n => n, fun | 9 => 9 | 3 => 3 | 4 => 4 | 5 => 5 | 0 => 0 | 46 => 86 | 146 => 160 | 51 => 49 | n => n, fun | 1 => 0 | n => n⟩
theorem Tryd.lays138 : Go.Proofs.Lays.n138 Tryd.prog Tryd.lays138_ren := {
  mixed := by kernel_rfl
  f138 := Tryd.func82.trans (congrArg some (by kernel_rfl))
  f143 := Tryd.func83.trans (congrArg some (by kernel_rfl))
  f195 := Tryd.func100.trans (congrArg some (by kernel_rfl))
  f217 := Tryd.func94.trans (congrArg some (by kernel_rfl))
  f218 := Tryd.func102.trans (congrArg some (by kernel_rfl))
  f219 := Tryd.func76.trans (congrArg some (by kernel_rfl))
  f224 := Tryd.func96.trans (congrArg some (by kernel_rfl))
  f225 := Tryd.func95.trans (congrArg some (by kernel_rfl))
  f266 := Tryd.func112.trans (congrArg some (by kernel_rfl))
  f267 := Tryd.func97.trans (congrArg some (by kernel_rfl))
  f314 := Tryd.func113.trans (congrArg some (by kernel_rfl))
  t0 := Tryd.underlying0
  a0 := Tryd.isAgg0
  z0 := Tryd.sizeOf0
  v0 := Tryd.zeroValue0
  t3 := Tryd.underlying3
  a3 := Tryd.isAgg3
  z3 := Tryd.sizeOf3
  v3 := Tryd.zeroValue3
  t4 := Tryd.underlying4
  a4 := Tryd.isAgg4
  z4 := Tryd.sizeOf4
  v4 := Tryd.zeroValue4
  t5 := Tryd.underlying5
  a5 := Tryd.isAgg5
  z5 := Tryd.sizeOf5
  v5 := Tryd.zeroValue5
  t9 := Tryd.underlying9
  a9 := Tryd.isAgg9
  z9 := Tryd.sizeOf9
  v9 := Tryd.zeroValue9
  t46 := Tryd.underlying86
  a46 := Tryd.isAgg86
  z46 := Tryd.sizeOf86
  v46 := Tryd.zeroValue86
  t51 := Tryd.underlying49
  a51 := Tryd.isAgg49
  z51 := Tryd.sizeOf49
  v51 := Tryd.zeroValue49
  t146 := Tryd.underlying160
  a146 := Tryd.isAgg160
  z146 := Tryd.sizeOf160
  v146 := Tryd.zeroValue160
  g1 := by kernel_rfl }
open Go.RowKit Go.Lib in
theorem Tryd.strings_Count_one (s : ByteArray) (c : UInt8) (w : World) :
    Calls Tryd.prog 82 #[.string s, .string ⟨#[c]⟩] w fun e w' => e = .returned (.int .i64 (Lib.countByte s.data.toList c)) ∧ w' = w := Any.strings_Count_one Tryd.lays138 s c w
def Tryd.lays99_ren : Go.Shelf.Ren := ⟨fun | 99 => 36 | 206 => 62 | n => n, fun | 9 => 9 | 4 => 4 | 3 => 3 | n => n, fun | n => n⟩
theorem Tryd.lays99 : Go.Proofs.Lays.n99 Tryd.prog Tryd.lays99_ren := {
  mixed := by kernel_rfl
  f99 := Tryd.func36.trans (congrArg some (by kernel_rfl))
  f206 := Tryd.func62.trans (congrArg some (by kernel_rfl))
  t3 := Tryd.underlying3
  a3 := Tryd.isAgg3
  z3 := Tryd.sizeOf3
  v3 := Tryd.zeroValue3
  t4 := Tryd.underlying4
  a4 := Tryd.isAgg4
  z4 := Tryd.sizeOf4
  v4 := Tryd.zeroValue4
  t9 := Tryd.underlying9
  a9 := Tryd.isAgg9
  z9 := Tryd.sizeOf9
  v9 := Tryd.zeroValue9 }
open Go.RowKit Go.Lib in
theorem Tryd.strings_HasPrefix (s p : ByteArray) (w : World) :
    Calls Tryd.prog 36 #[.string s, .string p] w fun e w' => e = .returned (.bool (Lib.hasPrefix s.data.toList p.data.toList)) ∧ w' = w := Any.strings_HasPrefix Tryd.lays99 s p w
def Tryd.lays102_ren : Go.Shelf.Ren := ⟨fun | 102 => 34 | 209 => 61 | 207 => 84 | n => n, fun | 9 => 9 | 4 => 4 | 3 => 3 | n => n, fun | n => n⟩
theorem Tryd.lays102 : Go.Proofs.Lays.n102 Tryd.prog Tryd.lays102_ren := {
  mixed := by kernel_rfl
  f102 := Tryd.func34.trans (congrArg some (by kernel_rfl))
  f207 := Tryd.func84.trans (congrArg some (by kernel_rfl))
  f209 := Tryd.func61.trans (congrArg some (by kernel_rfl))
  t3 := Tryd.underlying3
  a3 := Tryd.isAgg3
  z3 := Tryd.sizeOf3
  v3 := Tryd.zeroValue3
  t4 := Tryd.underlying4
  a4 := Tryd.isAgg4
  z4 := Tryd.sizeOf4
  v4 := Tryd.zeroValue4
  t9 := Tryd.underlying9
  a9 := Tryd.isAgg9
  z9 := Tryd.sizeOf9
  v9 := Tryd.zeroValue9 }
open Go.RowKit Go.Lib in
theorem Tryd.strings_TrimSuffix (s p : ByteArray) (w : World) (hs : s.size ≤ 9223372036854775807) :
    Calls Tryd.prog 34 #[.string s, .string p] w fun e w' => e = .returned (.string ⟨(Lib.trimSuffix s.data.toList p.data.toList).toArray⟩) ∧ w' = w := Any.strings_TrimSuffix Tryd.lays102 s p w hs
def Tryd.lays221_ren : Go.Shelf.Ren := ⟨fun | 221 => 60 | 268 => 81 | 138 => 82 | 143 => 83 | 195 => 100 | 197 => 101 | 218 => 102 | 219 => 76 | 260 => 114 | 217 => 94 | 225 => 95 | 224 => 96 | 267 => 97 | 266 => 112 | 314 => 113 | n => n, fun | 9 => 9 | 3 => 3 | 31 => 35 | 4 => 4 | 0 => 0 | 105 => 145 | 21 => 21 | 5 => 5 | 46 => 86 | 119 => 166 | 139 => 169 | 138 => 168 | 146 => 160 | 51 => 49 | n => n, fun | 1 => 0 | 3 => 2 | 4 => 3 | n => n⟩
theorem Tryd.lays221 : Go.Proofs.Lays.n221 Tryd.prog Tryd.lays221_ren := {
  mixed := by kernel_rfl
  f138 := Tryd.func82.trans (congrArg some (by kernel_rfl))
  f143 := Tryd.func83.trans (congrArg some (by kernel_rfl))
  f195 := Tryd.func100.trans (congrArg some (by kernel_rfl))
  f197 := Tryd.func101.trans (congrArg some (by kernel_rfl))
  f217 := Tryd.func94.trans (congrArg some (by kernel_rfl))
  f218 := Tryd.func102.trans (congrArg some (by kernel_rfl))
  f219 := Tryd.func76.trans (congrArg some (by kernel_rfl))
  f221 := Tryd.func60.trans (congrArg some (by kernel_rfl))
  f224 := Tryd.func96.trans (congrArg some (by kernel_rfl))
  f225 := Tryd.func95.trans (congrArg some (by kernel_rfl))
  f260 := Tryd.func114.trans (congrArg some (by kernel_rfl))
  f266 := Tryd.func112.trans (congrArg some (by kernel_rfl))
  f267 := Tryd.func97.trans (congrArg some (by kernel_rfl))
  f268 := Tryd.func81.trans (congrArg some (by kernel_rfl))
  f314 := Tryd.func113.trans (congrArg some (by kernel_rfl))
  t0 := Tryd.underlying0
  a0 := Tryd.isAgg0
  z0 := Tryd.sizeOf0
  v0 := Tryd.zeroValue0
  t3 := Tryd.underlying3
  a3 := Tryd.isAgg3
  z3 := Tryd.sizeOf3
  v3 := Tryd.zeroValue3
  t4 := Tryd.underlying4
  a4 := Tryd.isAgg4
  z4 := Tryd.sizeOf4
  v4 := Tryd.zeroValue4
  t5 := Tryd.underlying5
  a5 := Tryd.isAgg5
  z5 := Tryd.sizeOf5
  v5 := Tryd.zeroValue5
  t9 := Tryd.underlying9
  a9 := Tryd.isAgg9
  z9 := Tryd.sizeOf9
  v9 := Tryd.zeroValue9
  t21 := Tryd.underlying21
  a21 := Tryd.isAgg21
  z21 := Tryd.sizeOf21
  v21 := Tryd.zeroValue21
  t31 := Tryd.underlying35
  a31 := Tryd.isAgg35
  z31 := Tryd.sizeOf35
  v31 := Tryd.zeroValue35
  t46 := Tryd.underlying86
  a46 := Tryd.isAgg86
  z46 := Tryd.sizeOf86
  v46 := Tryd.zeroValue86
  t51 := Tryd.underlying49
  a51 := Tryd.isAgg49
  z51 := Tryd.sizeOf49
  v51 := Tryd.zeroValue49
  t105 := Tryd.underlying145
  a105 := Tryd.isAgg145
  z105 := Tryd.sizeOf145
  v105 := Tryd.zeroValue145
  t119 := Tryd.underlying166
  a119 := Tryd.isAgg166
  z119 := Tryd.sizeOf166
  t138 := Tryd.underlying168
  a138 := Tryd.isAgg168
  z138 := Tryd.sizeOf168
  v138 := Tryd.zeroValue168
  t139 := Tryd.underlying169
  a139 := Tryd.isAgg169
  z139 := Tryd.sizeOf169
  v139 := Tryd.zeroValue169
  t146 := Tryd.underlying160
  a146 := Tryd.isAgg160
  z146 := Tryd.sizeOf160
  v146 := Tryd.zeroValue160
  g1 := by kernel_rfl
  g3 := by kernel_rfl
  g4 := by kernel_rfl }
def Tryd.lays146_ren : Go.Shelf.Ren := ⟨fun | 146 => 33 | 221 => 60 | 268 => 81 | 138 => 82 | 143 => 83 | 195 => 100 | 197 => 101 | 218 => 102 | 219 => 76 | 260 => 114 | 217 => 94 | 225 => 95 | 224 => 96 | 267 => 97 | 266 => 112 | 314 => 113 | n => n, fun | 9 => 9 | 31 => 35 | 3 => 3 | 4 => 4 | 0 => 0 | 105 => 145 | 21 => 21 | 5 => 5 | 46 => 86 | 119 => 166 | 139 => 169 | 138 => 168 | 146 => 160 | 51 => 49 | n => n, fun | 1 => 0 | 3 => 2 | 4 => 3 | n => n⟩
theorem Tryd.lays146 : Go.Proofs.Lays.n146 Tryd.prog Tryd.lays146_ren := {
  mixed := by kernel_rfl
  f138 := Tryd.func82.trans (congrArg some (by kernel_rfl))
  f143 := Tryd.func83.trans (congrArg some (by kernel_rfl))
  f146 := Tryd.func33.trans (congrArg some (by kernel_rfl))
  f195 := Tryd.func100.trans (congrArg some (by kernel_rfl))
  f197 := Tryd.func101.trans (congrArg some (by kernel_rfl))
  f217 := Tryd.func94.trans (congrArg some (by kernel_rfl))
  f218 := Tryd.func102.trans (congrArg some (by kernel_rfl))
  f219 := Tryd.func76.trans (congrArg some (by kernel_rfl))
  f221 := Tryd.func60.trans (congrArg some (by kernel_rfl))
  f224 := Tryd.func96.trans (congrArg some (by kernel_rfl))
  f225 := Tryd.func95.trans (congrArg some (by kernel_rfl))
  f260 := Tryd.func114.trans (congrArg some (by kernel_rfl))
  f266 := Tryd.func112.trans (congrArg some (by kernel_rfl))
  f267 := Tryd.func97.trans (congrArg some (by kernel_rfl))
  f268 := Tryd.func81.trans (congrArg some (by kernel_rfl))
  f314 := Tryd.func113.trans (congrArg some (by kernel_rfl))
  t0 := Tryd.underlying0
  a0 := Tryd.isAgg0
  z0 := Tryd.sizeOf0
  v0 := Tryd.zeroValue0
  t3 := Tryd.underlying3
  a3 := Tryd.isAgg3
  z3 := Tryd.sizeOf3
  v3 := Tryd.zeroValue3
  t4 := Tryd.underlying4
  a4 := Tryd.isAgg4
  z4 := Tryd.sizeOf4
  v4 := Tryd.zeroValue4
  t5 := Tryd.underlying5
  a5 := Tryd.isAgg5
  z5 := Tryd.sizeOf5
  v5 := Tryd.zeroValue5
  t9 := Tryd.underlying9
  a9 := Tryd.isAgg9
  z9 := Tryd.sizeOf9
  v9 := Tryd.zeroValue9
  t21 := Tryd.underlying21
  a21 := Tryd.isAgg21
  z21 := Tryd.sizeOf21
  v21 := Tryd.zeroValue21
  t31 := Tryd.underlying35
  a31 := Tryd.isAgg35
  z31 := Tryd.sizeOf35
  v31 := Tryd.zeroValue35
  t46 := Tryd.underlying86
  a46 := Tryd.isAgg86
  z46 := Tryd.sizeOf86
  v46 := Tryd.zeroValue86
  t51 := Tryd.underlying49
  a51 := Tryd.isAgg49
  z51 := Tryd.sizeOf49
  v51 := Tryd.zeroValue49
  t105 := Tryd.underlying145
  a105 := Tryd.isAgg145
  z105 := Tryd.sizeOf145
  v105 := Tryd.zeroValue145
  t119 := Tryd.underlying166
  a119 := Tryd.isAgg166
  z119 := Tryd.sizeOf166
  t138 := Tryd.underlying168
  a138 := Tryd.isAgg168
  z138 := Tryd.sizeOf168
  v138 := Tryd.zeroValue168
  t139 := Tryd.underlying169
  a139 := Tryd.isAgg169
  z139 := Tryd.sizeOf169
  v139 := Tryd.zeroValue169
  t146 := Tryd.underlying160
  a146 := Tryd.isAgg160
  z146 := Tryd.sizeOf160
  v146 := Tryd.zeroValue160
  g1 := by kernel_rfl
  g3 := by kernel_rfl
  g4 := by kernel_rfl }
open Go.RowKit Go.Lib in
theorem Tryd.strings_Split (s sep : ByteArray) (m : Int) (w : World) (hs : s.size < 4294967281) (hm : w.cell? ⟨0, 0, none⟩ = some (.int .i64 m)) (h1 : 1 ≤ sep.size) :
    Calls Tryd.prog 33 #[.string s, .string sep] w fun e w' =>
      e = .returned (.slice (some ⟨w.heap.size, 0, none⟩) (Lib.countB s sep + 1) (Lib.countB s sep + 1)) ∧ w' = w.alloc (.cells ((Lib.splitB sep 0 (Lib.countB s sep) s).map Value.string).toArray 9) := Any.strings_Split Tryd.lays146 (by kernel_rfl) s sep m w hs hm h1
def Tryd.lays147_ren : Go.Shelf.Ren := ⟨fun | 147 => 49 | 221 => 60 | 268 => 81 | 138 => 82 | 143 => 83 | 195 => 100 | 197 => 101 | 218 => 102 | 219 => 76 | 260 => 114 | 217 => 94 | 225 => 95 | 224 => 96 | 267 => 97 | 266 => 112 | 314 => 113 | n => n, fun | 9 => 9 | 3 => 3 | 31 => 35 | 4 => 4 | 0 => 0 | 105 => 145 | 21 => 21 | 5 => 5 | 46 => 86 | 119 => 166 | 139 => 169 | 138 => 168 | 146 => 160 | 51 => 49 | n => n, fun | 1 => 0 | 3 => 2 | 4 => 3 | n => n⟩
theorem Tryd.lays147 : Go.Proofs.Lays.n147 Tryd.prog Tryd.lays147_ren := {
  mixed := by kernel_rfl
  f138 := Tryd.func82.trans (congrArg some (by kernel_rfl))
  f143 := Tryd.func83.trans (congrArg some (by kernel_rfl))
  f147 := Tryd.func49.trans (congrArg some (by kernel_rfl))
  f195 := Tryd.func100.trans (congrArg some (by kernel_rfl))
  f197 := Tryd.func101.trans (congrArg some (by kernel_rfl))
  f217 := Tryd.func94.trans (congrArg some (by kernel_rfl))
  f218 := Tryd.func102.trans (congrArg some (by kernel_rfl))
  f219 := Tryd.func76.trans (congrArg some (by kernel_rfl))
  f221 := Tryd.func60.trans (congrArg some (by kernel_rfl))
  f224 := Tryd.func96.trans (congrArg some (by kernel_rfl))
  f225 := Tryd.func95.trans (congrArg some (by kernel_rfl))
  f260 := Tryd.func114.trans (congrArg some (by kernel_rfl))
  f266 := Tryd.func112.trans (congrArg some (by kernel_rfl))
  f267 := Tryd.func97.trans (congrArg some (by kernel_rfl))
  f268 := Tryd.func81.trans (congrArg some (by kernel_rfl))
  f314 := Tryd.func113.trans (congrArg some (by kernel_rfl))
  t0 := Tryd.underlying0
  a0 := Tryd.isAgg0
  z0 := Tryd.sizeOf0
  v0 := Tryd.zeroValue0
  t3 := Tryd.underlying3
  a3 := Tryd.isAgg3
  z3 := Tryd.sizeOf3
  v3 := Tryd.zeroValue3
  t4 := Tryd.underlying4
  a4 := Tryd.isAgg4
  z4 := Tryd.sizeOf4
  v4 := Tryd.zeroValue4
  t5 := Tryd.underlying5
  a5 := Tryd.isAgg5
  z5 := Tryd.sizeOf5
  v5 := Tryd.zeroValue5
  t9 := Tryd.underlying9
  a9 := Tryd.isAgg9
  z9 := Tryd.sizeOf9
  v9 := Tryd.zeroValue9
  t21 := Tryd.underlying21
  a21 := Tryd.isAgg21
  z21 := Tryd.sizeOf21
  v21 := Tryd.zeroValue21
  t31 := Tryd.underlying35
  a31 := Tryd.isAgg35
  z31 := Tryd.sizeOf35
  v31 := Tryd.zeroValue35
  t46 := Tryd.underlying86
  a46 := Tryd.isAgg86
  z46 := Tryd.sizeOf86
  v46 := Tryd.zeroValue86
  t51 := Tryd.underlying49
  a51 := Tryd.isAgg49
  z51 := Tryd.sizeOf49
  v51 := Tryd.zeroValue49
  t105 := Tryd.underlying145
  a105 := Tryd.isAgg145
  z105 := Tryd.sizeOf145
  v105 := Tryd.zeroValue145
  t119 := Tryd.underlying166
  a119 := Tryd.isAgg166
  z119 := Tryd.sizeOf166
  t138 := Tryd.underlying168
  a138 := Tryd.isAgg168
  z138 := Tryd.sizeOf168
  v138 := Tryd.zeroValue168
  t139 := Tryd.underlying169
  a139 := Tryd.isAgg169
  z139 := Tryd.sizeOf169
  v139 := Tryd.zeroValue169
  t146 := Tryd.underlying160
  a146 := Tryd.isAgg160
  z146 := Tryd.sizeOf160
  v146 := Tryd.zeroValue160
  g1 := by kernel_rfl
  g3 := by kernel_rfl
  g4 := by kernel_rfl }
open Go.RowKit Go.Lib in
theorem Tryd.strings_SplitN (s sep : ByteArray) (n : Nat) (m : Int) (w : World) (hs : s.size < 4294967281) (hm : w.cell? ⟨0, 0, none⟩ = some (.int .i64 m)) (h1 : 1 ≤ sep.size) (hn : 1 ≤ n) (hn63 : n ≤ 9223372036854775807) :
    Calls Tryd.prog 49 #[.string s, .string sep, .int .i64 n] w fun e w' =>
      e = .returned (.slice (some ⟨w.heap.size, 0, none⟩) (Lib.splitB sep 0 (min n (s.size + 1) - 1) s).length (min n (s.size + 1))) ∧ w' = w.alloc (.cells (Lib.cellsOf (Lib.splitB sep 0 (min n (s.size + 1) - 1) s) (min n (s.size + 1))) 9) := Any.strings_SplitN Tryd.lays147 (by kernel_rfl) s sep n m w hs hm h1 hn hn63
def Tryd.lays264_ren : Go.Shelf.Ren := ⟨fun | 264 => 92 | n => n, fun | 53 => 133 | 46 => 86 | n => n, fun | n => n⟩
theorem Tryd.lays264 : Go.Proofs.Lays.n264 Tryd.prog Tryd.lays264_ren := {
  mixed := by kernel_rfl
  f264 := Tryd.func92.trans (congrArg some (by kernel_rfl))
  t46 := Tryd.underlying86
  a46 := Tryd.isAgg86
  z46 := Tryd.sizeOf86
  v46 := Tryd.zeroValue86
  t53 := Tryd.underlying133
  a53 := Tryd.isAgg133
  z53 := Tryd.sizeOf133
  v53 := Tryd.zeroValue133 }
open Go.RowKit Go.Lib in
theorem Tryd.bits_Mul64 (x y : Nat) (hx : x < 18446744073709551616) (hy : y < 18446744073709551616) (w : World) :
    Calls Tryd.prog 92 #[.int .u64 x, .int .u64 y] w fun e w' => e = .returned (.tuple #[.int .u64 ((x * y / 18446744073709551616 : Nat) : Int), .int .u64 ((x * y % 18446744073709551616 : Nat) : Int)]) ∧ w' = w := Any.bits_Mul64 Tryd.lays264 x y hx hy w
end Go.Proofs
namespace Go.Proofs.YtodalfobehddmaaDoor.Z
open Go.RowKit Go.Proofs.YtodalfobehddmaaDoorW.PrintWords Go.Proofs.YtodalfobehddmaaDoorW.PrintLast Go.Proofs.YtodalfobehddmaaDoor.Mx
def addI (a b : Int) : Int × Bool := if -9223372036854775808 ≤ a + b ∧ a + b ≤ 9223372036854775807 then (a + b, true) else (0, false)
theorem add_any (a b : Int) (w : World) (ha : -9223372036854775808 ≤ a) (ha2 : a ≤ 9223372036854775807) (hb : -9223372036854775808 ≤ b) (hb2 : b ≤ 9223372036854775807) :
    Calls Tryd.prog 64 #[.int .i64 a, .int .i64 b] w fun e w' => e = .returned (.tuple #[.int .i64 (addI a b).1, .bool (addI a b).2]) ∧ w = w' := by
  by_cases h : -9223372036854775808 ≤ a + b ∧ a + b ≤ 9223372036854775807
  · have e : addI a b = (a + b, true) := by unfold addI; rw [if_pos h]
    rw [e]
    clear e
    obtain ⟨h1, h2⟩ := h
    by_cases hp : 0 < b
    · have q1 : decide (a < a + b) = true := decide_eq_true (by omega)
      have q2 : decide (0 < b) = true := decide_eq_true hp
      go_enter Tryd.func64, Tryd.ntmps64
      go_wp2_with fail
      all_goals (go_ret2; exact ⟨rfl, rfl⟩)
    · have q1 : decide (a < a + b) = false := decide_eq_false (by omega)
      have q2 : decide (0 < b) = false := decide_eq_false hp
      go_enter Tryd.func64, Tryd.ntmps64
      go_wp2_with fail
      all_goals (go_ret2; exact ⟨rfl, rfl⟩)
  · have e : addI a b = (0, false) := by unfold addI; rw [if_neg h]
    rw [e]
    clear e
    by_cases hp : 0 < b
    · have hw : wrap64 (a + b) = a + b - 18446744073709551616 := by unfold wrap64; omega
      have HW := Lib.hid hw
      have q1 : decide (a < wrap64 (a + b)) = false := decide_eq_false (by omega)
      have q2 : decide (0 < b) = true := decide_eq_true hp
      have q3 : (b != 0) = true := bne_iff_ne.2 (by omega)
      clear hw h
      go_enter Tryd.func64, Tryd.ntmps64
      go_wp2_with fail
      all_goals (go_ret2; exact ⟨rfl, rfl⟩)
    · have hw : wrap64 (a + b) = a + b + 18446744073709551616 := by unfold wrap64; omega
      have q1 : decide (a < wrap64 (a + b)) = true := decide_eq_true (by omega)
      have q2 : decide (0 < b) = false := decide_eq_false hp
      have q3 : (b != 0) = true := bne_iff_ne.2 (by omega)
      clear hw h
      go_enter Tryd.func64, Tryd.ntmps64
      go_wp2_with fail
      all_goals (go_ret2; exact ⟨rfl, rfl⟩)
theorem size_pos (a : Int) (w : World) (ha : 0 ≤ a) (ha2 : a ≤ 9223372036854775807) :
    Calls Tryd.prog 93 #[.int .i64 a] w fun e w' => e = .returned (.int .u64 a) ∧ w = w' := by
  have q : IntKind.u64.wrap a = a := by simp [IntKind.wrap, IntKind.bits]; omega
  have HQ := Lib.hid q
  clear q
  have q1 : decide (a < 0) = false := decide_eq_false (by omega)
  go_enter Tryd.func93, Tryd.ntmps93
  go_wp2_with fail
  all_goals (try rw [HQ.out])
  all_goals (go_ret; exact ⟨by first | rfl | rw [HQ.out], rfl⟩)
theorem mul_ten (a : Int) (w : World) (ha : 0 ≤ a) (ha2 : a ≤ 9223372036854775807) :
    Calls Tryd.prog 73 #[.int .i64 a, .int .i64 10] w fun e w' => e = .returned (.tuple #[.int .i64 (if a * 10 ≤ 9223372036854775807 then a * 10 else 0), .bool (decide (a * 10 ≤ 9223372036854775807))]) ∧ w = w' := by
  obtain ⟨n, rfl⟩ := Int.eq_ofNat_of_zero_le ha
  have hm : ∀ w : World, Calls Tryd.prog 92 #[.int .u64 (n : Int), .int .u64 10] w fun e w' => e = .returned (.tuple #[.int .u64 ((n * 10 / 18446744073709551616 : Nat) : Int), .int .u64 ((n * 10 % 18446744073709551616 : Nat) : Int)]) ∧ w' = w :=
    fun w => Tryd.bits_Mul64 n 10 (by omega) (by omega) w
  have q1 : decide ((n : Int) < 0) = false := decide_eq_false (by omega)
  by_cases h : (n : Int) * 10 ≤ 9223372036854775807
  · rw [if_pos h, decide_eq_true h]
    have e1 : ((n * 10 / 18446744073709551616 : Nat) : Int) = 0 := by omega
    have e2 : ((n * 10 % 18446744073709551616 : Nat) : Int) = (n : Int) * 10 := by omega
    rw [e1, e2] at hm
    clear e1 e2
    have HM := Lib.hid hm; clear hm
    have q2 : decide ((9223372036854775807 : Int) < (n : Int) * 10) = false := decide_eq_false (by omega)
    go_enter Tryd.func73, Tryd.ntmps73
    go_wp2_with (first | (go_at_call 93; (with_reducible refine (size_pos _ _ (by omega) (by omega)).mono ?_); rintro e w' ⟨rfl, rfl⟩) | (go_at_call 92; (with_reducible refine (HM.out _).mono ?_); rintro e w' ⟨rfl, rfl⟩))
    all_goals (go_ret2; exact ⟨rfl, rfl⟩)
  · rw [if_neg h, decide_eq_false h]
    by_cases hh : ((n * 10 / 18446744073709551616 : Nat) : Int) = 0
    · have e2 : ((n * 10 % 18446744073709551616 : Nat) : Int) = (n : Int) * 10 := by omega
      rw [hh, e2] at hm
      clear hh e2
      have HM := Lib.hid hm; clear hm
      have q2 : decide ((9223372036854775807 : Int) < (n : Int) * 10) = true := decide_eq_true (by omega)
      go_enter Tryd.func73, Tryd.ntmps73
      go_wp2_with (first | (go_at_call 93; (with_reducible refine (size_pos _ _ (by omega) (by omega)).mono ?_); rintro e w' ⟨rfl, rfl⟩) | (go_at_call 92; (with_reducible refine (HM.out _).mono ?_); rintro e w' ⟨rfl, rfl⟩))
      all_goals (go_ret2; exact ⟨rfl, rfl⟩)
    · generalize ((n * 10 / 18446744073709551616 : Nat) : Int) = hi at hm hh
      generalize ((n * 10 % 18446744073709551616 : Nat) : Int) = lo at hm
      have HM := Lib.hid hm; clear hm
      have q2 : (hi != 0) = true := bne_iff_ne.2 hh
      clear hh
      go_enter Tryd.func73, Tryd.ntmps73
      go_wp2_with (first | (go_at_call 93; (with_reducible refine (size_pos _ _ (by omega) (by omega)).mono ?_); rintro e w' ⟨rfl, rfl⟩) | (go_at_call 92; (with_reducible refine (HM.out _).mono ?_); rintro e w' ⟨rfl, rfl⟩))
      all_goals (go_ret2; exact ⟨rfl, rfl⟩)
end Go.Proofs.YtodalfobehddmaaDoor.Z
namespace Go.Proofs.YtodalfobehddmaaDoor.Z
open Go.RowKit Go.Proofs.YtodalfobehddmaaDoorW.PrintWords Go.Proofs.YtodalfobehddmaaDoorW.PrintLast Go.Proofs.YtodalfobehddmaaDoor.Mx
def numStep (n : Int) (c : UInt8) : Option Int :=
  if 48 ≤ c.toNat ∧ c.toNat ≤ 57 ∧ 10 * n + ((c.toNat : Int) - 48) ≤ 9223372036854775807 then some (10 * n + ((c.toNat : Int) - 48)) else none
def numFrom : Int → List UInt8 → Option Int
  | n, [] => some n
  | n, c :: t => match numStep n c with
    | some m => numFrom m t
    | none => none
def numL (l : List UInt8) : Int × Bool := match numFrom 0 l with
  | some n => (n, !l.isEmpty)
  | none => (0, false)
theorem numStep_range {n m : Int} {c : UInt8} (h : numStep n c = some m) (h0 : 0 ≤ n) : 0 ≤ m ∧ m ≤ 9223372036854775807 ∧ 48 ≤ c.toNat ∧ c.toNat ≤ 57 ∧ m = n * 10 + ((c.toNat : Int) - 48) := by
  unfold numStep at h
  split at h
  · rename_i q
    obtain rfl := Option.some.inj h
    omega
  · cases h
def lines_Number.f (a0 : ByteArray) : Option (Int × Bool) := if a0.size ≤ maxLen then some (numL a0.data.toList) else none
set_option maxHeartbeats 1000000 in
set_option maxRecDepth 100000 in
theorem number_walk (s : ByteArray) (l : List UInt8) (hl : s.data.toList = l) (r1 : Int) (r2 : Bool) (hr : numL l = (r1, r2)) (w : World) (hs : s.size ≤ maxLen) :
    Calls Tryd.prog 50 #[.string s] w fun e w' => e = .returned (.tuple #[.int .i64 r1, .bool r2]) ∧ Below w.heap.size w w' := by
  unfold maxLen at hs
  have hcv := fun w : World => run_bytes_of_string (P := Tryd.prog) w 9 65 5 s Tryd.underlying9 Tryd.underlying65 Tryd.underlying5
  have HM := Aside0.mk (show BytesAt w.heap.size l (w.alloc (.cells (bytesRow s (grownCap w s.size 0 5)) 5 ((bytesRow s (grownCap w s.size 0 5)).size, (bytesRow s (grownCap w s.size 0 5)).size + 1))).drew by
    rw [← hl]; exact BytesAt.made w s (grownCap w s.size 0 5))
  have HB := Aside0.mk (show Below w.heap.size w (w.alloc (.cells (bytesRow s (grownCap w s.size 0 5)) 5 ((bytesRow s (grownCap w s.size 0 5)).size, (bytesRow s (grownCap w s.size 0 5)).size + 1))).drew from ((Below.refl _ _).alloc (Nat.le_refl _) _).drew)
  have hn : l.length = s.size := by rw [← hl]; rfl
  have HN := Aside0.mk hn
  have hn1 : l.length ≤ s.size := by omega
  have hn2 : s.size ≤ l.length := by omega
  have HR := Aside0.mk hr
  have H0 : Aside0 (numFrom 0 (l.drop 0) = numFrom 0 l) := ⟨by rw [List.drop_zero]⟩
  clear hn hl hr
  go_enter Tryd.func50, Tryd.ntmps50
  go_wp2_with fail
  clear hcv
  generalize grownCap w s.size 0 5 = cap at HM HB ⊢
  generalize (w.alloc (.cells (bytesRow s cap) 5 ((bytesRow s cap).size, (bytesRow s cap).size + 1))).drew = w1 at HM HB ⊢
  go_loop [2, 13] (fun v i => ∃ (k : Nat) (n : Int), k ≤ l.length ∧ i = .int .i64 k ∧ v = .int .i64 n ∧ 0 ≤ n ∧ n ≤ 9223372036854775807 ∧ Aside0 (numFrom n (l.drop k) = numFrom 0 l)) (fun _ i => s.size - (intOf i).toNat)
  case atStart => exact ⟨0, 0, Nat.zero_le _, rfl, rfl, by omega, by omega, H0⟩
  case round =>
    clear H0
    obtain ⟨k, n, hk, rfl, rfl, hn0, hnm, HF⟩ := hrel
    by_cases hlt : k < l.length
    · have hlt' : k < s.size := by omega
      have hcell := HM.out.cell k hlt
      have hc255 := l[k].toNat_lt
      have HD := Aside0.mk (List.drop_eq_getElem_cons hlt)
      generalize l[k] = c at *
      cases hst : numStep n c with
      | some m =>
        obtain ⟨hm0, hmm, hc1, hc2, hme⟩ := numStep_range hst hn0
        have HE := Aside0.mk hme
        have q1 : decide ((c.toNat : Int) < 48) = false := decide_eq_false (by omega)
        have q2 : decide ((57 : Int) < (c.toNat : Int)) = false := decide_eq_false (by omega)
        have q3 : n * 10 ≤ 9223372036854775807 := by omega
        have HA : Aside0 (addI (n * 10) ((c.toNat : Int) - 48) = (m, true)) := ⟨by unfold addI; rw [if_pos (by omega), ← hme]⟩
        have HF2 : Aside0 (numFrom m (l.drop (k + 1)) = numFrom 0 l) := ⟨by rw [← HF.out, HD.out, numFrom, hst]⟩
        have q4 : 48 ≤ (c.toNat : Int) := by omega
        have q5 : (c.toNat : Int) ≤ 57 := by omega
        have HT := Aside0.mk (decide_eq_true q3)
        have HQ : Aside0 ((if n * 10 ≤ 9223372036854775807 then n * 10 else 0) = n * 10) := ⟨if_pos q3⟩
        clear hst hme
        go_wp2_with (first | (go_at_call 73; (with_reducible refine (mul_ten _ _ hn0 hnm).mono ?_); rintro e w' ⟨rfl, rfl⟩; rw [HT.out, HQ.out]) | (go_at_call 64; (with_reducible refine (add_any _ _ _ (by omega) (by omega) (by omega) (by omega)).mono ?_); rintro e w' ⟨rfl, rfl⟩; rw [HA.out]))
        all_goals
          go_round
          case rel => exact ⟨k + 1, m, by omega, by go_num, rfl, hm0, hmm, HF2⟩
          case measure => simp [intOf]; omega
      | none =>
        have HX : Aside0 (r1 = 0 ∧ r2 = false) := ⟨by
          have h1 : numFrom 0 l = none := by rw [← HF.out, HD.out, numFrom, hst]
          have h2 := HR.out
          unfold numL at h2
          rw [h1] at h2
          injection h2 with h3 h4
          exact ⟨h3.symm, h4.symm⟩⟩
        obtain ⟨rfl, rfl⟩ := HX.out
        clear HX
        by_cases q1 : c.toNat < 48
        · have q2 : decide ((c.toNat : Int) < 48) = true := decide_eq_true (by omega)
          have HA1 : Aside0 (-9223372036854775808 ≤ (c.toNat : Int) - 48 ∧ (c.toNat : Int) - 48 ≤ 9223372036854775807) := ⟨by omega⟩
          clear hst
          by_cases q3 : n * 10 ≤ 9223372036854775807
          · have HT := Aside0.mk (decide_eq_true q3)
            have HQ : Aside0 ((if n * 10 ≤ 9223372036854775807 then n * 10 else 0) = n * 10) := ⟨if_pos q3⟩
            go_wp2_with (first | (go_at_call 73; (with_reducible refine (mul_ten _ _ hn0 hnm).mono ?_); rintro e w' ⟨rfl, rfl⟩; rw [HT.out, HQ.out]) | (go_at_call 64; (with_reducible refine (add_any _ _ _ (by omega) (by omega) (by omega) (by omega)).mono ?_); rintro e w' ⟨rfl, rfl⟩))
            all_goals (go_ret2; exact ⟨rfl, HB.out⟩)
          · have HT := Aside0.mk (decide_eq_false q3)
            have HQ : Aside0 ((if n * 10 ≤ 9223372036854775807 then n * 10 else 0) = 0) := ⟨if_neg q3⟩
            go_wp2_with (first | (go_at_call 73; (with_reducible refine (mul_ten _ _ hn0 hnm).mono ?_); rintro e w' ⟨rfl, rfl⟩; rw [HT.out, HQ.out]) | (go_at_call 64; (with_reducible refine (add_any _ _ _ (by omega) (by omega) (by omega) (by omega)).mono ?_); rintro e w' ⟨rfl, rfl⟩))
            all_goals (go_ret2; exact ⟨rfl, HB.out⟩)
        · have q2 : decide ((c.toNat : Int) < 48) = false := decide_eq_false (by omega)
          have q4 : 48 ≤ (c.toNat : Int) := by omega
          by_cases q5 : c.toNat ≤ 57
          · have q6 : decide ((57 : Int) < (c.toNat : Int)) = false := decide_eq_false (by omega)
            have q7 : ¬ (10 * n + ((c.toNat : Int) - 48) ≤ 9223372036854775807) := by
              intro q8
              unfold numStep at hst
              rw [if_pos ⟨by omega, by omega, q8⟩] at hst
              cases hst
            have HA : Aside0 (n * 10 ≤ 9223372036854775807 → addI (n * 10) ((c.toNat : Int) - 48) = (0, false)) := ⟨fun _ => by unfold addI; rw [if_neg (by omega)]⟩
            clear hst q7
            by_cases q3 : n * 10 ≤ 9223372036854775807
            · have HT := Aside0.mk (decide_eq_true q3)
              have HQ : Aside0 ((if n * 10 ≤ 9223372036854775807 then n * 10 else 0) = n * 10) := ⟨if_pos q3⟩
              have HA2 := Aside0.mk (HA.out q3)
              go_wp2_with (first | (go_at_call 73; (with_reducible refine (mul_ten _ _ hn0 hnm).mono ?_); rintro e w' ⟨rfl, rfl⟩; rw [HT.out, HQ.out]) | (go_at_call 64; (with_reducible refine (add_any _ _ _ (by omega) (by omega) (by omega) (by omega)).mono ?_); rintro e w' ⟨rfl, rfl⟩; rw [HA2.out]))
              all_goals (go_ret2; exact ⟨rfl, HB.out⟩)
            · have HT := Aside0.mk (decide_eq_false q3)
              have HQ : Aside0 ((if n * 10 ≤ 9223372036854775807 then n * 10 else 0) = 0) := ⟨if_neg q3⟩
              go_wp2_with (first | (go_at_call 73; (with_reducible refine (mul_ten _ _ hn0 hnm).mono ?_); rintro e w' ⟨rfl, rfl⟩; rw [HT.out, HQ.out]) | (go_at_call 64; (with_reducible refine (add_any _ _ _ (by omega) (by omega) (by omega) (by omega)).mono ?_); rintro e w' ⟨rfl, rfl⟩))
              all_goals (go_ret2; exact ⟨rfl, HB.out⟩)
          · have q6 : decide ((57 : Int) < (c.toNat : Int)) = true := decide_eq_true (by omega)
            clear hst
            by_cases q3 : n * 10 ≤ 9223372036854775807
            · have HT := Aside0.mk (decide_eq_true q3)
              have HQ : Aside0 ((if n * 10 ≤ 9223372036854775807 then n * 10 else 0) = n * 10) := ⟨if_pos q3⟩
              go_wp2_with (first | (go_at_call 73; (with_reducible refine (mul_ten _ _ hn0 hnm).mono ?_); rintro e w' ⟨rfl, rfl⟩; rw [HT.out, HQ.out]) | (go_at_call 64; (with_reducible refine (add_any _ _ _ (by omega) (by omega) (by omega) (by omega)).mono ?_); rintro e w' ⟨rfl, rfl⟩))
              all_goals (go_ret2; exact ⟨rfl, HB.out⟩)
            · have HT := Aside0.mk (decide_eq_false q3)
              have HQ : Aside0 ((if n * 10 ≤ 9223372036854775807 then n * 10 else 0) = 0) := ⟨if_neg q3⟩
              go_wp2_with (first | (go_at_call 73; (with_reducible refine (mul_ten _ _ hn0 hnm).mono ?_); rintro e w' ⟨rfl, rfl⟩; rw [HT.out, HQ.out]) | (go_at_call 64; (with_reducible refine (add_any _ _ _ (by omega) (by omega) (by omega) (by omega)).mono ?_); rintro e w' ⟨rfl, rfl⟩))
              all_goals (go_ret2; exact ⟨rfl, HB.out⟩)
    · have hk2 : k = l.length := by omega
      subst hk2
      have HX : Aside0 (r1 = n ∧ r2 = decide (0 < s.size)) := ⟨by
        have h1 : numFrom 0 l = some n := by rw [← HF.out, List.drop_length, numFrom]
        have h2 := HR.out
        unfold numL at h2
        rw [h1] at h2
        injection h2 with h3 h4
        refine ⟨h3.symm, h4.symm.trans ?_⟩
        rw [← HN.out]
        cases l <;> simp⟩
      obtain ⟨rfl, rfl⟩ := HX.out
      clear HX
      go_wp2_with fail
      all_goals (go_ret2; exact ⟨rfl, HB.out⟩)
theorem lines_Number.calls (a0 : ByteArray) (r1 : Int) (r2 : Bool) (w : World) (h : lines_Number.f a0 = some (r1, r2)) :
    Calls Tryd.prog 50 #[.string a0] w fun e w' => e = .returned (.tuple #[.int .i64 r1, .bool r2]) ∧ Below w.heap.size w w' := by
  unfold lines_Number.f at h
  split at h
  · exact number_walk a0 _ rfl r1 r2 (Option.some.inj h) w (by assumption)
  · cases h
end Go.Proofs.YtodalfobehddmaaDoor.Z
namespace Go.Proofs.YtodalfobehddmaaDoor.Z
open Go.RowKit Go.Proofs.YtodalfobehddmaaDoorW.PrintWords Go.Proofs.YtodalfobehddmaaDoorW.PrintLast Go.Proofs.YtodalfobehddmaaDoor.Mx
theorem one_index (s : ByteArray) (c : UInt8) (w : World) :
    Calls Tryd.prog 76 #[.string s, .string ⟨#[c]⟩] w fun e w' => e = .returned (.int .i64 (Lib.indexB s ⟨#[c]⟩)) ∧ w' = w := by
  refine (Tryd.stringslite_Index_one s c w).mono ?_
  rintro e w' ⟨rfl, rfl⟩
  exact ⟨by rw [← Lib.index_one], rfl⟩
theorem one_index2 (s : ByteArray) (c : UInt8) (w : World) :
    Calls Tryd.prog 83 #[.string s, .string ⟨#[c]⟩] w fun e w' => e = .returned (.int .i64 (Lib.indexB s ⟨#[c]⟩)) ∧ w' = w := by
  refine (Tryd.strings_Index_one s c w).mono ?_
  rintro e w' ⟨rfl, rfl⟩
  exact ⟨by rw [← Lib.index_one], rfl⟩
theorem one_count (s : ByteArray) (c : UInt8) (w : World) :
    Calls Tryd.prog 82 #[.string s, .string ⟨#[c]⟩] w fun e w' => e = .returned (.int .i64 (Lib.countB s ⟨#[c]⟩)) ∧ w' = w := by
  refine (Tryd.strings_Count_one s c w).mono ?_
  rintro e w' ⟨rfl, rfl⟩
  refine ⟨?_, rfl⟩
  show _ = Ending.returned (Value.int .i64 ((Lib.count s.data.toList [c] : Nat) : Int))
  rw [Lib.count_one]
  rfl
set_option maxHeartbeats 2000000 in
set_option maxRecDepth 100000 in
theorem lite_cut (s : ByteArray) (c : UInt8) (w : World) (hs : s.size ≤ 9223372036854775806) :
    Calls Tryd.prog 56 #[.string s, .string ⟨#[c]⟩] w fun e w' => e = .returned (.tuple #[.string ⟨(Lib.cut s.data.toList [c]).1.toArray⟩, .string ⟨(Lib.cut s.data.toList [c]).2.1.toArray⟩, .bool (Lib.cut s.data.toList [c]).2.2]) ∧ Drawn0 w w' := by
  rcases Lib.indexB_cases s ⟨#[c]⟩ with hix | ⟨i, hix, hroom⟩
  · obtain ⟨e1, e2, e3⟩ := Lib.cutB_miss s ⟨#[c]⟩ hix
    rw [e1, e2, e3]
    clear e1 e2 e3
    have HX := Lib.hid hix; clear hix
    go_enter Tryd.func56, Tryd.ntmps56
    go_wp2_with (go_at_call 76; (with_reducible refine (one_index _ _ _).mono ?_); rintro e w' ⟨rfl, rfl⟩; rw [HX.out])
    go_ret3
    exact ⟨rfl, Drawn0.refl _⟩
  · obtain ⟨e1, e2, e3⟩ := Lib.cutB_hit s ⟨#[c]⟩ i hix
    have h1 : (⟨#[c]⟩ : ByteArray).size = 1 := rfl
    rw [h1] at e2 hroom
    rw [e1, e2, e3]
    clear e1 e2 e3 h1
    have HX := Lib.hid hix; clear hix
    have c1 : (0 : Int) ≤ ↑i := by omega
    have c2 : (↑i : Int) ≤ ↑s.size := by omega
    have c3 : (0 : Int) ≤ ↑i + 1 := by omega
    have c4 : (↑i + 1 : Int) ≤ ↑s.size := by omega
    go_enter Tryd.func56, Tryd.ntmps56
    go_wp2_with (go_at_call 76; (with_reducible refine (one_index _ _ _).mono ?_); rintro e w' ⟨rfl, rfl⟩; rw [HX.out])
    go_region
    go_wp2
    go_ret3
    exact ⟨rfl, (Drawn0.refl _).step 1⟩
theorem cut_one (s : ByteArray) (c : UInt8) (w : World) (hs : s.size ≤ 9223372036854775806) :
    Calls Tryd.prog 31 #[.string s, .string ⟨#[c]⟩] w fun e w' => e = .returned (.tuple #[.string ⟨(Lib.cut s.data.toList [c]).1.toArray⟩, .string ⟨(Lib.cut s.data.toList [c]).2.1.toArray⟩, .bool (Lib.cut s.data.toList [c]).2.2]) ∧ Drawn0 w w' := by
  generalize hr : Lib.cut s.data.toList [c] = r
  have HR := Lib.hid hr; clear hr
  go_enter Tryd.func31, Tryd.ntmps31
  go_wp2_with (go_at_call 56; (with_reducible refine (lite_cut _ _ _ hs).mono ?_); rintro e w' ⟨rfl, hd⟩; rw [HR.out])
  go_ret3
  exact ⟨rfl, hd⟩
def strings_Cut.f (a0 : ByteArray) (a1 : ByteArray) : Option (ByteArray × ByteArray × Bool) :=
  if a1.size = 1 ∧ a0.size ≤ 9223372036854775806 then some (⟨(Lib.cut a0.data.toList a1.data.toList).1.toArray⟩, ⟨(Lib.cut a0.data.toList a1.data.toList).2.1.toArray⟩, (Lib.cut a0.data.toList a1.data.toList).2.2) else none
theorem strings_Cut.calls (a0 : ByteArray) (a1 : ByteArray) (r1 : ByteArray) (r2 : ByteArray) (r3 : Bool) (w : World) (h : strings_Cut.f a0 a1 = some (r1, r2, r3)) :
    Calls Tryd.prog 31 #[.string a0, .string a1] w fun e w' => e = .returned (.tuple #[.string r1, .string r2, .bool r3]) ∧ Below w.heap.size w w' := by
  unfold strings_Cut.f at h
  split at h
  · rename_i hc
    obtain ⟨c, rfl⟩ := Lib.one_byte a1 hc.1
    simp only [Option.some.injEq, Prod.mk.injEq] at h
    obtain ⟨rfl, rfl, rfl⟩ := h
    refine (cut_one a0 c w hc.2).mono ?_
    rintro e w' ⟨rfl, hd⟩
    exact ⟨rfl, hd.below⟩
  · cases h
theorem genSplit_one (s : ByteArray) (c : UInt8) (n : Int) (N : Nat) (w : World) (hs : s.size < 4294967281) (hn0 : n ≠ 0) (hn63 : n ≤ 9223372036854775807) (hN : (N : Int) = min (if n < 0 then (Lib.countB s ⟨#[c]⟩ : Int) + 1 else n) ((s.size : Int) + 1)) :
    Calls Tryd.prog 60 #[.string s, .string ⟨#[c]⟩, .int .i64 0, .int .i64 n] w fun e w' =>
      e = .returned (.slice (some ⟨w.heap.size, 0, none⟩) (Lib.splitB ⟨#[c]⟩ 0 (N - 1) s).length N) ∧ w' = w.alloc (.cells (Lib.cellsOf (Lib.splitB ⟨#[c]⟩ 0 (N - 1) s) N) 9) :=
  Any.strings_genSplit_core Tryd.lays221 (by kernel_rfl) s ⟨#[c]⟩ 0 n N w hs (Nat.le_refl 1) (Nat.zero_le _)
    (fun x cs hx => one_index2 x c _) (one_count s c w) hn0 hn63 hN
theorem split_one (s : ByteArray) (c : UInt8) (w : World) (hs : s.size < 4294967281) :
    Calls Tryd.prog 33 #[.string s, .string ⟨#[c]⟩] w fun e w' =>
      e = .returned (.slice (some ⟨w.heap.size, 0, none⟩) (Lib.splitB ⟨#[c]⟩ 0 (Lib.countB s ⟨#[c]⟩) s).length (Lib.splitB ⟨#[c]⟩ 0 (Lib.countB s ⟨#[c]⟩) s).length) ∧ w' = w.alloc (.cells ((Lib.splitB ⟨#[c]⟩ 0 (Lib.countB s ⟨#[c]⟩) s).map Value.string).toArray 9) := by
  have hle := Lib.countB_le ⟨#[c]⟩ (Nat.le_refl 1) s.size s (Nat.le_refl _)
  have hlen := Lib.splitB_all ⟨#[c]⟩ (Nat.le_refl 1) 0 _ s rfl
  have k := genSplit_one s c (-1) (Lib.countB s ⟨#[c]⟩ + 1) w hs (by decide) (by decide) (by rw [if_pos (by decide)]; omega)
  rw [Nat.add_sub_cancel] at k
  have e2 : Lib.cellsOf (Lib.splitB ⟨#[c]⟩ 0 (Lib.countB s ⟨#[c]⟩) s) (Lib.countB s ⟨#[c]⟩ + 1) = ((Lib.splitB ⟨#[c]⟩ 0 (Lib.countB s ⟨#[c]⟩) s).map Value.string).toArray := by rw [← hlen]; exact Lib.cellsOf_full _
  rw [e2, ← hlen] at k
  clear hle e2
  generalize Lib.splitB ⟨#[c]⟩ 0 (Lib.countB s ⟨#[c]⟩) s = r at k hlen ⊢
  clear hlen
  go_enter Tryd.func33, Tryd.ntmps33
  go_wp2_with (go_at_call 60; (with_reducible refine k.mono ?_); rintro e w' ⟨rfl, hw⟩; rw [hw])
  go_ret
  exact ⟨rfl, rfl⟩
theorem splitN_one (s : ByteArray) (c : UInt8) (n : Nat) (w : World) (hs : s.size < 4294967281) (hn : 1 ≤ n) (hn63 : n ≤ 9223372036854775807) :
    Calls Tryd.prog 49 #[.string s, .string ⟨#[c]⟩, .int .i64 n] w fun e w' =>
      e = .returned (.slice (some ⟨w.heap.size, 0, none⟩) (Lib.splitB ⟨#[c]⟩ 0 (min n (s.size + 1) - 1) s).length (min n (s.size + 1))) ∧ w' = w.alloc (.cells (Lib.cellsOf (Lib.splitB ⟨#[c]⟩ 0 (min n (s.size + 1) - 1) s) (min n (s.size + 1))) 9) := by
  have k := genSplit_one s c (n : Int) (min n (s.size + 1)) w hs (by omega) (by omega) (by rw [if_neg (by omega)]; omega)
  generalize Lib.splitB ⟨#[c]⟩ 0 (min n (s.size + 1) - 1) s = r at k ⊢
  generalize min n (s.size + 1) = N at k ⊢
  go_enter Tryd.func49, Tryd.ntmps49
  go_wp2_with (go_at_call 60; (with_reducible refine k.mono ?_); rintro e w' ⟨rfl, hw⟩; rw [hw])
  go_ret
  exact ⟨rfl, rfl⟩
end Go.Proofs.YtodalfobehddmaaDoor.Z
namespace Go.Proofs.YtodalfobehddmaaDoor.Z
def blankU (c : UInt8) : Bool := c == 32 || c == 9
def wgo : List UInt8 → List UInt8 → List (List UInt8)
  | cur, [] => if cur.isEmpty then [] else [cur]
  | cur, c :: t => if blankU c then (if cur.isEmpty then wgo [] t else cur :: wgo [] t) else wgo (cur ++ [c]) t
def wordsL (l : List UInt8) : List (List UInt8) := wgo [] l
theorem wgo_tail : ∀ (l cur : List UInt8), wgo cur (l ++ [32]) = wgo cur l
  | [], cur => by cases cur <;> simp [wgo, blankU]
  | c :: t, cur => by
    simp only [List.cons_append, wgo]
    rw [wgo_tail t [], wgo_tail t (cur ++ [c])]
theorem wgo_blank (cur t : List UInt8) (c : UInt8) (h : blankU c = true) : wgo cur (c :: t) = if cur.isEmpty then wgo [] t else cur :: wgo [] t := by
  rw [wgo, if_pos h]
theorem wgo_seg : ∀ (seg cur t : List UInt8), (∀ c ∈ seg, blankU c = false) → wgo cur (seg ++ t) = wgo (cur ++ seg) t
  | [], cur, t, _ => by simp
  | c :: g, cur, t, h => by
    rw [List.cons_append, wgo, if_neg (by rw [h c (by simp)]; decide), wgo_seg g (cur ++ [c]) t (fun d hd => h d (by simp [hd]))]
    simp
theorem decode_cont (s : ByteArray) (pos : Nat) (h : pos < s.size) (j : Nat) (hj0 : 0 < j) (hj : j < (Utf8.decode s pos).2) : pos + j < s.size ∧ 128 ≤ (s.get! (pos + j)).toNat := by
  revert hj
  simp only [Utf8.decode]
  repeat' split
  all_goals intro hj
  all_goals simp_all
  all_goals try omega
  · have : j = 1 := by omega
    subst this
    omega
  · have : j = 1 ∨ j = 2 := by omega
    rcases this with rfl | rfl <;> omega
  · have : j = 1 ∨ j = 2 ∨ j = 3 := by omega
    rcases this with rfl | rfl | rfl <;> omega
def mkB (x : List UInt8) : ByteArray := ⟨x.toArray⟩
theorem mkB_data (b : ByteArray) : mkB b.data.toList = b := by cases b; rfl
structure WInv (l : List UInt8) (pos : Nat) (cur : List UInt8) (done : List (List UInt8)) : Prop where
  sum : done ++ wgo cur ((l ++ [32]).drop pos) = wordsL l
  le : pos ≤ l.length + 1
  len : cur.length ≤ pos
  cut : cur = ((l ++ [32]).take pos).drop (pos - cur.length)
  fin : pos = l.length + 1 → cur = []
  num : done.length ≤ pos
theorem WInv.start (l : List UInt8) : WInv l 0 [] [] :=
  ⟨by simp [wgo_tail, wordsL], by omega, by simp, by simp, fun h => by omega, by simp⟩
theorem drop_cons_at (l : List UInt8) (pos : Nat) (h : pos < l.length) (c : UInt8) (hc : l[pos] = c) : l.drop pos = c :: l.drop (pos + 1) := by
  rw [List.drop_eq_getElem_cons h, hc]
theorem WInv.blank0 {l : List UInt8} {pos : Nat} {done : List (List UInt8)} (h : WInv l pos [] done) (hp : pos < (l ++ [32]).length) (hb : blankU (l ++ [32])[pos] = true) : WInv l (pos + 1) [] done := by
  refine ⟨?_, by simp at hp; omega, by simp, by simp, fun _ => rfl, by have := h.num; omega⟩
  have := h.sum
  rw [drop_cons_at _ pos hp _ rfl, wgo_blank _ _ _ hb] at this
  simpa using this
theorem WInv.blank1 {l cur : List UInt8} {pos : Nat} {done : List (List UInt8)} (h : WInv l pos cur done) (hc : cur ≠ []) (hp : pos < (l ++ [32]).length) (hb : blankU (l ++ [32])[pos] = true) : WInv l (pos + 1) [] (done ++ [cur]) := by
  refine ⟨?_, by simp at hp; omega, by simp, by simp, fun _ => rfl, by have := h.num; simp; omega⟩
  have := h.sum
  rw [drop_cons_at _ pos hp _ rfl, wgo_blank _ _ _ hb] at this
  have he : cur.isEmpty = false := by cases cur <;> simp_all
  rw [he] at this
  simpa using this
theorem WInv.seg {l cur : List UInt8} {pos : Nat} {done : List (List UInt8)} (h : WInv l pos cur done) (wd : Nat) (h1 : 1 ≤ wd) (hp : pos + wd ≤ (l ++ [32]).length)
    (hn : ∀ j (hj : j < (l ++ [32]).length), pos ≤ j → j < pos + wd → blankU (l ++ [32])[j] = false) : pos + wd ≤ l.length ∧ WInv l (pos + wd) (cur ++ ((l ++ [32]).drop pos).take wd) done := by
  have hlast : pos + wd ≤ l.length := by
    rcases Nat.lt_or_ge l.length (pos + wd) with hlt | hge
    · have := hn l.length (by simp) (by simp at hp; omega) hlt
      simp [blankU] at this
    · exact hge
  have hl2 : (l ++ [32]).length = l.length + 1 := by simp
  generalize hT : l ++ [32] = T at *
  have hsl : ((T.drop pos).take wd).length = wd := by rw [List.length_take, List.length_drop]; omega
  refine ⟨hlast, ?_, by omega, by rw [List.length_append, hsl]; have := h.len; omega, ?_, fun e => by omega, by have := h.num; omega⟩
  · have hs := h.sum
    rw [hT] at hs ⊢
    have e : T.drop pos = (T.drop pos).take wd ++ T.drop (pos + wd) := by
      rw [← List.drop_drop, List.take_append_drop]
    rw [e, wgo_seg] at hs
    · exact hs
    · intro c hc
      obtain ⟨i, hi, rfl⟩ := List.mem_iff_getElem.1 hc
      rw [hsl] at hi
      rw [List.getElem_take, List.getElem_drop]
      exact hn (pos + i) (by omega) (by omega) (by omega)
  · rw [hT]
    have hle := h.len
    have hcut := h.cut
    rw [hT] at hcut
    rw [List.length_append, hsl]
    have e1 : pos + wd - (cur.length + wd) = pos - cur.length := by omega
    rw [e1]
    have e2 : T.take (pos + wd) = T.take pos ++ (T.drop pos).take wd := by rw [List.take_add]
    rw [e2, List.drop_append_of_le_length (by rw [List.length_take]; omega), ← hcut]
theorem WInv.word {l cur : List UInt8} {pos : Nat} {done : List (List UInt8)} (h : WInv l pos cur done) (hc : cur ≠ []) (s : ByteArray) (hs : s.data.toList = l) : pos ≤ l.length ∧ s.extract (pos - cur.length) pos = mkB cur := by
  have hpl : pos ≤ l.length := by
    have := h.le
    rcases Nat.lt_or_ge l.length pos with hlt | hge
    · exact absurd (h.fin (by omega)) hc
    · exact hge
  refine ⟨hpl, ?_⟩
  have e : (s.extract (pos - cur.length) pos).data.toList = cur := by
    have hcut := h.cut
    rw [List.take_append_of_le_length hpl] at hcut
    rw [ByteArray.data_extract, Array.toList_extract, hs, List.extract_eq_take_drop]
    rw [List.drop_take] at hcut
    exact hcut.symm
  have e2 := mkB_data (s.extract (pos - cur.length) pos)
  rw [e] at e2
  exact e2.symm
theorem get_bang (s : ByteArray) (i : Nat) (h : i < s.size) : s.get! i = s[i] := by
  show s.get! i = _
  simp [ByteArray.get!, getElem!_pos, h]
  rfl
theorem decode_sees (s : ByteArray) (pos : Nat) (h : pos < s.size) :
    ((s[pos]).toNat < 128 ∧ Utf8.decode s pos = ((s[pos]).toNat, 1)) ∨
    (128 ≤ (Utf8.decode s pos).1 ∧ 1 ≤ (Utf8.decode s pos).2 ∧ pos + (Utf8.decode s pos).2 ≤ s.size ∧ ∀ j (hj : j < s.size), pos ≤ j → j < pos + (Utf8.decode s pos).2 → 128 ≤ (s[j]).toNat) := by
  by_cases ha : (s[pos]).toNat < 128
  · exact .inl ⟨ha, decode_ascii s pos h ha⟩
  · right
    obtain ⟨h1, h2⟩ := decode_high s pos h (by omega)
    refine ⟨h1, h2, ?_, ?_⟩
    · rcases Nat.lt_or_ge 1 (Utf8.decode s pos).2 with hw | hw
      · have := (decode_cont s pos h ((Utf8.decode s pos).2 - 1) (by omega) (by omega)).1
        omega
      · omega
    · intro j hj hj1 hj2
      by_cases e : j = pos
      · subst e; omega
      · have := (decode_cont s pos h (j - pos) (by omega) (by omega)).2
        rw [show pos + (j - pos) = j by omega, get_bang s j hj] at this
        exact this
theorem blankU_high (c : UInt8) (h : c.toNat ≠ 32) (h' : c.toNat ≠ 9) : blankU c = false := by
  unfold blankU
  have a : (c == 32) = false := by
    rw [beq_eq_false_iff_ne]; intro e; subst e; exact h rfl
  have b : (c == 9) = false := by
    rw [beq_eq_false_iff_ne]; intro e; subst e; exact h' rfl
  rw [a, b]; rfl
theorem bytes_get (s : ByteArray) (l : List UInt8) (h : s.data.toList = l) (i : Nat) (hi : i < s.size) (hi' : i < l.length) : s[i] = l[i] := by
  subst h
  rfl
end Go.Proofs.YtodalfobehddmaaDoor.Z
namespace Go.Proofs.YtodalfobehddmaaDoor.Z
def cutAt (c : UInt8) : List UInt8 → Option (List UInt8 × List UInt8)
  | [] => none
  | b :: t => if b == c then some ([], t) else match cutAt c t with
    | some (x, r) => some (b :: x, r)
    | none => none
def cutL (c : UInt8) (l : List UInt8) : List UInt8 × List UInt8 × Bool := match cutAt c l with
  | some (x, r) => (x, r, true)
  | none => (l, [], false)
theorem cutAt_index (c : UInt8) : ∀ l : List UInt8, (cutAt c l = none ∧ Lib.index l [c] = -1) ∨ ∃ i : Nat, Lib.index l [c] = i ∧ i < l.length ∧ cutAt c l = some (l.take i, l.drop (i + 1))
  | [] => .inl ⟨rfl, rfl⟩
  | b :: t => by
    rw [Lib.index_one]
    unfold cutAt Lib.indexByte
    by_cases h : (b == c) = true
    · rw [if_pos h, if_pos h]
      exact .inr ⟨0, rfl, by simp, by simp⟩
    · rw [if_neg h, if_neg h]
      rcases cutAt_index c t with ⟨h1, h2⟩ | ⟨i, h1, h2, h3⟩
      · rw [Lib.index_one] at h2
        rw [h1, h2]
        exact .inl ⟨rfl, rfl⟩
      · rw [Lib.index_one] at h1
        rw [h3, h1]
        have : ((i : Int) == -1) = false := beq_eq_false_iff_ne.2 (by omega)
        rw [this]
        exact .inr ⟨i + 1, by simp, by simp; omega, by simp⟩
theorem cut_eq (c : UInt8) (l : List UInt8) : Lib.cut l [c] = cutL c l := by
  unfold Lib.cut cutL
  rcases cutAt_index c l with ⟨h1, h2⟩ | ⟨i, h1, h2, h3⟩
  · rw [h1, h2, if_neg (by decide)]
  · rw [h3, h1, if_pos (by omega)]
    simp
def rawSplit (c : UInt8) : List UInt8 → List (List UInt8)
  | [] => [[]]
  | b :: t => if b == c then [] :: rawSplit c t else match rawSplit c t with
    | [] => [[b]]
    | h :: r => (b :: h) :: r
theorem rawSplit_cut (c : UInt8) : ∀ l : List UInt8, rawSplit c l = match cutAt c l with
    | some (x, r) => x :: rawSplit c r
    | none => [l]
  | [] => rfl
  | b :: t => by
    conv => lhs; rw [rawSplit]
    rw [cutAt]
    by_cases h : (b == c) = true
    · rw [if_pos h, if_pos h]
    · rw [if_neg h, if_neg h, rawSplit_cut c t]
      rcases cutAt c t with _ | ⟨x, r⟩ <;> simp
theorem cutAt_count (c : UInt8) : ∀ l : List UInt8, (cutAt c l = none → l.count c = 0) ∧ ∀ x r, cutAt c l = some (x, r) → l.count c = 1 + r.count c ∧ r.length < l.length
  | [] => by simp [cutAt]
  | b :: t => by
    unfold cutAt
    by_cases h : (b == c) = true
    · rw [if_pos h]
      have e : b = c := by simpa using h
      subst e
      refine ⟨fun h => by simp at h, fun x r he => ?_⟩
      simp only [Option.some.injEq, Prod.mk.injEq] at he
      obtain ⟨rfl, rfl⟩ := he
      simp; omega
    · rw [if_neg h]
      obtain ⟨h1, h2⟩ := cutAt_count c t
      have e : b ≠ c := by simpa using h
      rw [List.count_cons_of_ne e]
      rcases hq : cutAt c t with _ | ⟨x, r⟩
      · exact ⟨fun _ => h1 hq, fun x r he => by simp at he⟩
      · refine ⟨fun h => by simp at h, fun x' r' he => ?_⟩
        simp only [Option.some.injEq, Prod.mk.injEq] at he
        obtain ⟨rfl, rfl⟩ := he
        have := h2 x r hq
        simp; omega
theorem splitK_eq (c : UInt8) : ∀ (k : Nat) (l : List UInt8), l.count c = k → Lib.splitK [c] 0 k l = rawSplit c l
  | 0, l, hk => by
    rw [rawSplit_cut]
    rcases hq : cutAt c l with _ | ⟨x, r⟩
    · rfl
    · have := ((cutAt_count c l).2 x r hq).1
      omega
  | k + 1, l, hk => by
    rw [rawSplit_cut]
    unfold Lib.splitK
    rcases cutAt_index c l with ⟨h1, h2⟩ | ⟨i, h1, h2, h3⟩
    · have := (cutAt_count c l).1 h1
      omega
    · rw [h3, h1]
      have : ((i : Int) == -1) = false := beq_eq_false_iff_ne.2 (by omega)
      rw [this]
      have hc := ((cutAt_count c l).2 _ _ h3).1
      simp only [Int.toNat_natCast, Nat.add_zero, List.length_singleton]
      rw [if_neg (by decide), splitK_eq c k _ (by omega)]
theorem rawSplit_ne (c : UInt8) (l : List UInt8) : rawSplit c l ≠ [] := by
  rw [rawSplit_cut]
  rcases cutAt c l with _ | ⟨x, r⟩ <;> simp
theorem splitB_eq (c : UInt8) (s : ByteArray) : Lib.splitB ⟨#[c]⟩ 0 (Lib.countB s ⟨#[c]⟩) s = (rawSplit c s.data.toList).map mkB := by
  have h := Lib.splitB_data ⟨#[c]⟩ 0 (Lib.countB s ⟨#[c]⟩) s
  have hc : Lib.countB s ⟨#[c]⟩ = s.data.toList.count c := Lib.count_one c s.data.toList
  rw [hc] at h ⊢
  have h2 : Lib.splitK (⟨#[c]⟩ : ByteArray).data.toList 0 (s.data.toList.count c) s.data.toList = rawSplit c s.data.toList := splitK_eq c _ _ rfl
  rw [h2] at h
  rw [← h, List.map_map]
  have e : (mkB ∘ fun x : ByteArray => x.data.toList) = id := by funext x; exact mkB_data x
  rw [e, List.map_id]
def trimCR (x : List UInt8) : List UInt8 := if x.getLast? = some 13 then x.dropLast else x
theorem trim_eq (x : List UInt8) : Lib.trimSuffix x [13] = trimCR x := by
  unfold Lib.trimSuffix Lib.hasSuffix trimCR
  by_cases h : x.getLast? = some 13
  · obtain ⟨y, rfl⟩ := List.getLast?_eq_some_iff.1 h
    rw [if_pos h, if_pos (by simp [List.isSuffixOf_iff_suffix])]
    simp
  · rw [if_neg h, if_neg]
    intro hs
    rw [List.isSuffixOf_iff_suffix] at hs
    obtain ⟨y, rfl⟩ := hs
    exact h (by simp)
def lastOff (p : List (List UInt8)) : List (List UInt8) := if p.getLast? = some [] then p.dropLast else p
def linesL (l : List UInt8) : List (List UInt8) := (lastOff (rawSplit 10 l)).map trimCR
end Go.Proofs.YtodalfobehddmaaDoor.Z
namespace Go.Proofs.YtodalfobehddmaaDoor.Z
open Go.RowKit Go.Proofs.YtodalfobehddmaaDoorW.PrintWords Go.Proofs.YtodalfobehddmaaDoorW.PrintLast Go.Proofs.YtodalfobehddmaaDoor.Mx
structure StrBlk (g : Nat) (l : List ByteArray) (w : World) : Prop where
  heap : w.heap[g]? = some (.cells (l.map Value.string).toArray 9 (0, 0))
theorem StrBlk.cell {g : Nat} {l : List ByteArray} {w : World} (h : StrBlk g l w) (j : Nat) (hj : j < l.length) : w.cell? ⟨g, j, none⟩ = some (.string l[j]) := by
  rw [World.cell?, h.heap]
  simp [hj]
theorem StrBlk.free {g : Nat} {l : List ByteArray} {w : World} (h : StrBlk g l w) (j : Nat) : w.frozen? ⟨g, j, none⟩ = false := by
  rw [World.frozen?, h.heap]
  simp
theorem StrBlk.set {g : Nat} {l : List ByteArray} {w : World} (h : StrBlk g l w) (k : Nat) (hk : k < l.length) (x : ByteArray) : StrBlk g (l.set k x) (w.setCell ⟨g, k, none⟩ (.string x)) := by
  constructor
  have hg : g < w.heap.size := (Array.getElem?_eq_some_iff.1 h.heap).1
  have he := (Array.getElem?_eq_some_iff.1 h.heap).2
  simp only [World.setCell]
  rw [Array.getElem?_modify, if_pos rfl, h.heap]
  simp [List.map_set]
theorem StrBlk.made (w : World) (l : List ByteArray) : StrBlk w.heap.size l (w.alloc (.cells (l.map Value.string).toArray 9)) :=
  ⟨by show (w.heap.push _)[w.heap.size]? = _; simp⟩
theorem StrBlk.row {g : Nat} {l : List ByteArray} {w : World} (h : StrBlk g l w) (base : Nat) (hb : base ≤ g) (m : Nat) (hm : m ≤ l.length) (hl : l.length ≤ maxLen) : Kd.R Kd.string 9 w base (fun _ => True) (.slice (some ⟨g, 0, none⟩) m l.length) (l.take m) := by
  have hlen : (l.take m).length = m := by rw [List.length_take]; omega
  refine Kd.R_of_own ?_ (fun _ _ => trivial)
  refine ⟨by simp [encs], .inr ⟨g, l.length, _, by rw [hlen], hb, h.heap, by rw [hlen]; exact hm, hl, by simp, ?_⟩⟩
  rw [hlen]
  simp [encs, List.map_take]
theorem StrBlk.same {g : Nat} {l : List ByteArray} {w w' : World} (h : StrBlk g l w) (he : w = w') : StrBlk g l w' := he ▸ h
def lines_Split.f (a0 : ByteArray) : Option (List ByteArray) := if a0.size < 4294967281 then some ((linesL a0.data.toList).map mkB) else none
def trimAt (p : List ByteArray) (k : Nat) : List ByteArray := (p.take k).map (fun x => mkB (trimCR x.data.toList)) ++ p.drop k
theorem trimAt_length (p : List ByteArray) (k : Nat) : (trimAt p k).length = p.length := by simp [trimAt]; omega
theorem trimAt_get (p : List ByteArray) (k : Nat) (h : k < p.length) : (trimAt p k)[k]'(by rw [trimAt_length]; exact h) = p[k] := by
  unfold trimAt
  rw [List.getElem_append_right (by simp; omega)]
  simp [Nat.min_eq_left (Nat.le_of_lt h)]
theorem trimAt_step (p : List ByteArray) (k : Nat) (h : k < p.length) : trimAt p (k + 1) = (trimAt p k).set k (mkB (trimCR p[k].data.toList)) := by
  unfold trimAt
  rw [List.take_succ_eq_append_getElem h, List.drop_eq_getElem_cons h, List.set_append_right _ _ (by simp; omega), List.map_append, List.append_assoc]
  congr 1
  have e : k - (List.map (fun x : ByteArray => mkB (trimCR x.data.toList)) (List.take k p)).length = 0 := by simp; omega
  rw [e, List.set_cons_zero]
  rfl
theorem trimAt_take (p : List ByteArray) (m : Nat) (h : m ≤ p.length) : (trimAt p m).take m = (p.take m).map (fun x => mkB (trimCR x.data.toList)) := by
  unfold trimAt
  rw [List.take_append_of_le_length (by simp; omega), List.take_of_length_le (by simp; omega)]
theorem trim_calls (x : ByteArray) (w : World) (hx : x.size ≤ 9223372036854775807) :
    Calls Tryd.prog 34 #[.string x, .string ⟨#[13]⟩] w fun e w' => e = .returned (.string (mkB (trimCR x.data.toList))) ∧ w = w' := by
  refine (Tryd.strings_TrimSuffix x ⟨#[13]⟩ w hx).mono ?_
  rintro e w' ⟨rfl, rfl⟩
  exact ⟨by rw [show Lib.trimSuffix x.data.toList (⟨#[13]⟩ : ByteArray).data.toList = trimCR x.data.toList from trim_eq _]; rfl, rfl⟩
theorem piece_size (p : List ByteArray) (n : Nat) (h : ∀ x ∈ p, x.size ≤ n) (k : Nat) (hk : k < p.length) : p[k].size ≤ n := h _ (List.getElem_mem hk)
theorem split_from (s : ByteArray) (p : List ByteArray) (x : ByteArray) (m : Nat) (hp : p.length = m + 1) (hx : p[m]? = some x) (n : Nat) (hsz : ∀ x ∈ p, x.size ≤ n) (hn : n ≤ 9223372036854775807) (hm : m < 4294967281) (t : Nat) (ht : t = if x.data.toList = [] then m else m + 1) (w : World)
    (hc : Calls Tryd.prog 33 #[.string s, .string ⟨#[10]⟩] w fun e w' => e = .returned (.slice (some ⟨w.heap.size, 0, none⟩) (m + 1) (m + 1)) ∧ w' = w.alloc (.cells (p.map Value.string).toArray 9)) :
    Calls Tryd.prog 17 #[.string s] w fun e w' => ∃ v0_ : Value, e = .returned (v0_) ∧ Kd.R Kd.string 9 w' w.heap.size (fun _ => True) v0_ ((p.take t).map (fun x => mkB (trimCR x.data.toList))) ∧ Below w.heap.size w w' := by
  have HC := Aside0.mk hc
  have HP := Aside0.mk hp
  have HS := Aside0.mk hsz
  have HN := Aside0.mk hn
  have HB0 : Aside0 (StrBlk w.heap.size (trimAt p 0) (w.alloc (.cells (p.map Value.string).toArray 9))) := ⟨by rw [show trimAt p 0 = p by simp [trimAt]]; exact StrBlk.made w p⟩
  have HL0 := Aside0.mk (show Below w.heap.size w (w.alloc (.cells (p.map Value.string).toArray 9)) from (Below.refl _ _).alloc (Nat.le_refl _) _)
  have hcell0 : (w.alloc (.cells (p.map Value.string).toArray 9)).cell? ⟨w.heap.size, m, none⟩ = some (.string x) := by
    have h := (StrBlk.made w p).cell m (by omega)
    rw [(List.getElem?_eq_some_iff.1 hx).2] at h
    exact h
  clear hc hp hsz hn hx
  generalize hw0 : w.alloc (.cells (p.map Value.string).toArray 9) = w0 at *
  have HW0 := Aside0.mk hw0
  clear hw0
  by_cases he : x.data.toList = []
  · have he1 : x.toList = [] := by rw [Lib.toList_data]; exact he
    have ht2 : t = m := by rw [ht, if_pos he]
    subst ht2
    clear ht he
    have htm : t ≤ t + 1 := by omega
    go_enter Tryd.func17, Tryd.ntmps17
    go_wp2_with (go_at_call 33; (with_reducible refine HC.out.mono ?_); rintro e w' ⟨rfl, rfl⟩)
    clear hcell0 he1
    go_loopw [21] (fun i wr => ∃ k : Nat, k ≤ t ∧ i = .int .i64 k ∧ Aside0 (StrBlk w.heap.size (trimAt p k) wr) ∧ Aside0 (Below w.heap.size w wr)) (fun i _ => t - (intOf i).toNat)
    case atStart => exact ⟨0, Nat.zero_le _, rfl, HB0, HL0⟩
    case round =>
      clear HB0 HL0
      obtain ⟨k, hk, rfl, HB, HL⟩ := hrel
      by_cases hlt : k < t
      · have hpk : k < p.length := by rw [HP.out]; omega
        have HX := Aside0.mk (HS.out _ (List.getElem_mem hpk))
        have hcell := HB.out.cell k (by rw [trimAt_length]; exact hpk)
        rw [trimAt_get p k hpk] at hcell
        have hfree := HB.out.free k
        have HST := Aside0.mk (trimAt_step p k hpk)
        have HPK := Aside0.mk hpk
        go_wp2_with (go_at_call 34; (with_reducible refine (trim_calls _ _ (Nat.le_trans HX.out HN.out)).mono ?_); rintro e w' ⟨rfl, rfl⟩)
        all_goals
          go_roundw
          case rel => exact ⟨k + 1, by omega, by go_num, ⟨by rw [HST.out]; exact HB.out.set k (by rw [trimAt_length]; exact HPK.out) _⟩, ⟨HL.out.setCell (Nat.le_refl _) _⟩⟩
          case measure => simp [intOf]; omega
      · have hk2 : t = k := by omega
        subst hk2
        go_wp2_with fail
        all_goals
          go_ret
          refine ⟨_, rfl, ?_, HL.out⟩
          have h := HB.out.row w.heap.size (Nat.le_refl _) (t) (by rw [trimAt_length, HP.out]; omega) (by rw [trimAt_length, HP.out]; unfold maxLen; omega)
          rw [trimAt_length, HP.out, trimAt_take p _ (by rw [HP.out]; omega)] at h
          exact h
  · have he1 : x.toList.isEmpty = false := by
      rw [Lib.toList_data]
      cases hq : x.data.toList with
      | nil => exact absurd hq he
      | cons _ _ => rfl
    have he2 : ¬ (x.toList = []) := by rw [Lib.toList_data]; exact he
    have ht2 : t = m + 1 := by rw [ht, if_neg he]
    subst ht2
    clear ht he
    have htm : m + 1 ≤ m + 1 := Nat.le_refl _
    go_enter Tryd.func17, Tryd.ntmps17
    go_wp2_with (go_at_call 33; (with_reducible refine HC.out.mono ?_); rintro e w' ⟨rfl, rfl⟩)
    clear hcell0 he1 he2
    go_loopw [21] (fun i wr => ∃ k : Nat, k ≤ (m + 1) ∧ i = .int .i64 k ∧ Aside0 (StrBlk w.heap.size (trimAt p k) wr) ∧ Aside0 (Below w.heap.size w wr)) (fun i _ => (m + 1) - (intOf i).toNat)
    case atStart => exact ⟨0, Nat.zero_le _, rfl, HB0, HL0⟩
    case round =>
      clear HB0 HL0
      obtain ⟨k, hk, rfl, HB, HL⟩ := hrel
      by_cases hlt : k < (m + 1)
      · have hpk : k < p.length := by rw [HP.out]; omega
        have HX := Aside0.mk (HS.out _ (List.getElem_mem hpk))
        have hcell := HB.out.cell k (by rw [trimAt_length]; exact hpk)
        rw [trimAt_get p k hpk] at hcell
        have hfree := HB.out.free k
        have HST := Aside0.mk (trimAt_step p k hpk)
        have HPK := Aside0.mk hpk
        go_wp2_with (go_at_call 34; (with_reducible refine (trim_calls _ _ (Nat.le_trans HX.out HN.out)).mono ?_); rintro e w' ⟨rfl, rfl⟩)
        all_goals
          go_roundw
          case rel => exact ⟨k + 1, by omega, by go_num, ⟨by rw [HST.out]; exact HB.out.set k (by rw [trimAt_length]; exact HPK.out) _⟩, ⟨HL.out.setCell (Nat.le_refl _) _⟩⟩
          case measure => simp [intOf]; omega
      · have hk2 : k = (m + 1) := by omega
        subst hk2
        go_wp2_with fail
        all_goals
          go_ret
          refine ⟨_, rfl, ?_, HL.out⟩
          have h := HB.out.row w.heap.size (Nat.le_refl _) ((m + 1)) (by rw [trimAt_length, HP.out]; omega) (by rw [trimAt_length, HP.out]; unfold maxLen; omega)
          rw [trimAt_length, HP.out, trimAt_take p _ (by rw [HP.out]; omega)] at h
          exact h
theorem splitB_size (c : UInt8) (s : ByteArray) : ∀ x ∈ Lib.splitB ⟨#[c]⟩ 0 (Lib.countB s ⟨#[c]⟩) s, x.size ≤ s.size := by
  rw [splitB_eq]
  have h : ∀ (l : List UInt8), ∀ y ∈ rawSplit c l, y.length ≤ l.length := by
    intro l
    induction l with
    | nil => intro y hy; simp [rawSplit] at hy; simp [hy]
    | cons b t ih =>
      intro y hy
      rw [rawSplit] at hy
      split at hy
      · rcases List.mem_cons.1 hy with rfl | hy
        · simp
        · have := ih y hy; simp; omega
      · rcases hq : rawSplit c t with _ | ⟨g, r⟩
        · rw [hq] at hy
          simp at hy
          simp [hy]
        · rw [hq] at hy ih
          rcases List.mem_cons.1 hy with rfl | hy
          · have := ih g (by simp); simp; omega
          · have := ih y (by simp [hy]); simp; omega
  intro x hx
  obtain ⟨y, hy, rfl⟩ := List.mem_map.1 hx
  exact h s.data.toList y hy
theorem take_lastOff (p : List (List UInt8)) (m : Nat) (hp : p.length = m + 1) (x : List UInt8) (hx : p[m]? = some x) : p.take (if x = [] then m else m + 1) = lastOff p := by
  unfold lastOff
  have hl : p.getLast? = some x := by rw [List.getLast?_eq_getElem?, hp]; exact hx
  rw [hl]
  by_cases h : x = []
  · rw [if_pos h, if_pos (by rw [h]), List.dropLast_eq_take, hp]
    rfl
  · rw [if_neg h, if_neg (by simpa using h), List.take_of_length_le (by omega)]
theorem lines_Split.calls (a0 : ByteArray) (r : List ByteArray) (w : World) (h : lines_Split.f a0 = some r) :
    Calls Tryd.prog 17 #[.string a0] w fun e w' => ∃ v0_ : Value, e = .returned (v0_) ∧ Kd.R Kd.string 9 w' w.heap.size (fun _ => True) v0_ r ∧ Below w.heap.size w w' := by
  unfold lines_Split.f at h
  split at h
  · rename_i hz
    obtain rfl := Option.some.inj h
    have hc := split_one a0 10 w hz
    have hs := splitB_size 10 a0
    rw [splitB_eq] at hc hs
    have hraw : ∃ m, (rawSplit 10 a0.data.toList).length = m + 1 := by
      have := rawSplit_ne 10 a0.data.toList
      cases hq : rawSplit 10 a0.data.toList with
      | nil => exact absurd hq this
      | cons _ t => exact ⟨t.length, rfl⟩
    obtain ⟨m, hm⟩ := hraw
    have hle : m < 4294967281 := by
      have h1 := Lib.countB_le ⟨#[10]⟩ (Nat.le_refl 1) a0.size a0 (Nat.le_refl _)
      have h2 := Lib.splitB_all ⟨#[10]⟩ (Nat.le_refl 1) 0 _ a0 rfl
      rw [splitB_eq, List.length_map, hm] at h2
      omega
    obtain ⟨x, hx⟩ : ∃ x, (rawSplit 10 a0.data.toList)[m]? = some x := ⟨_, List.getElem?_eq_getElem (by omega)⟩
    have hlm : ((rawSplit 10 a0.data.toList).map mkB).length = m + 1 := by rw [List.length_map, hm]
    rw [hlm] at hc
    refine (split_from a0 ((rawSplit 10 a0.data.toList).map mkB) (mkB x) m hlm (by rw [List.getElem?_map, hx]; rfl) a0.size hs (by omega) hle (if x = [] then m else m + 1) (by by_cases h : x = [] <;> simp [h, mkB]) w hc).mono ?_
    rintro e w' ⟨v, rfl, hr, hb⟩
    refine ⟨v, rfl, ?_, hb⟩
    rw [← List.map_take, take_lastOff _ m hm x hx, List.map_map] at hr
    unfold linesL
    rw [List.map_map]
    exact hr
  · cases h
end Go.Proofs.YtodalfobehddmaaDoor.Z
namespace Go.Proofs.YtodalfobehddmaaDoor.Z
open Go.RowKit Go.Proofs.YtodalfobehddmaaDoorW.PrintWords Go.Proofs.YtodalfobehddmaaDoorW.PrintLast Go.Proofs.YtodalfobehddmaaDoor.Mx
attribute [local go_sem] max2_int min2_int max_two min_two max_three min_three
def secondI (h m s : Int) : Int × Bool :=
  if h = 23 ∧ m = 59 ∧ s = 60 then (86400, true)
  else if h < 0 ∨ m < 0 ∨ s < 0 ∨ 23 < h ∨ 59 < m ∨ 59 < s then (0, false) else ((h * 60 + m) * 60 + s, true)
set_option maxHeartbeats 2000000 in
theorem second_any (h m s : Int) (w : World) (h0 : 0 ≤ h) (h1 : h ≤ 99999) (m0 : 0 ≤ m) (m1 : m ≤ 99999) (s0 : 0 ≤ s) (s1 : s ≤ 99999) (r1 : Int) (r2 : Bool) (hr : secondI h m s = (r1, r2)) :
    Calls Tryd.prog 51 #[.int .i64 h, .int .i64 m, .int .i64 s] w fun e w' => e = .returned (.tuple #[.int .i64 r1, .bool r2]) ∧ w = w' := by
  by_cases hl : h = 23 ∧ m = 59 ∧ s = 60
  · obtain ⟨rfl, rfl, rfl⟩ := hl
    injection hr with e1 e2
    subst e1; subst e2
    go_enter Tryd.func51, Tryd.ntmps51
    go_wp2_with fail
    all_goals (go_ret2; exact ⟨rfl, rfl⟩)
  · have hq : (h == 23 && m == 59 && s == 60) = false := by
      rw [Bool.eq_false_iff]
      intro e
      simp only [Bool.and_eq_true, beq_iff_eq] at e
      exact hl ⟨e.1.1, e.1.2, e.2⟩
    have hneg : decide (min (min h m) s < 0) = false := decide_eq_false (by omega)
    have hneg2 : decide (min h (min m s) < 0) = false := decide_eq_false (by omega)
    unfold secondI at hr
    rw [if_neg hl] at hr
    by_cases hb : 23 < h ∨ 59 < m ∨ 59 < s
    · rw [if_pos (by omega)] at hr
      injection hr with e1 e2
      subst e1; subst e2
      go_enter Tryd.func51, Tryd.ntmps51
      go_wp2_with fail
      all_goals first | (exfalso; omega) | (go_ret2; exact ⟨rfl, rfl⟩)
    · rw [if_neg (by omega)] at hr
      injection hr with e1 e2
      subst e1; subst e2
      clear hl
      go_enter Tryd.func51, Tryd.ntmps51
      go_wp2_with fail
      all_goals first | (exfalso; omega) | (go_ret2; refine ⟨?_, rfl⟩; first | rfl | (simp; done) | (simp; omega))
end Go.Proofs.YtodalfobehddmaaDoor.Z
namespace Go.Proofs.YtodalfobehddmaaDoor.Z
open Go.RowKit Go.Proofs.YtodalfobehddmaaDoorW.PrintWords Go.Proofs.YtodalfobehddmaaDoorW.PrintLast Go.Proofs.YtodalfobehddmaaDoor.Mx
attribute [local go_sem] max2_int min2_int max_two min_two max_three min_three
theorem numFrom_small : ∀ (l : List UInt8) (n m b : Int), numFrom n l = some m → 0 ≤ n → n ≤ b → 0 ≤ m ∧ m ≤ b * 10 ^ l.length + (10 ^ l.length - 1)
  | [], n, m, b, h, h0, hb => by
    simp only [numFrom, Option.some.injEq] at h
    subst h
    simp
    omega
  | c :: t, n, m, b, h, h0, hb => by
    simp only [numFrom] at h
    cases hq : numStep n c with
    | none => rw [hq] at h; cases h
    | some k =>
      rw [hq] at h
      obtain ⟨k0, _, c0, c1, hk⟩ := numStep_range hq h0
      have := numFrom_small t k m (10 * b + 9) h k0 (by omega)
      simp only [List.length_cons, Int.pow_succ]
      refine ⟨this.1, ?_⟩
      have e : (10 * b + 9) * 10 ^ t.length = 10 * (b * 10 ^ t.length) + 9 * 10 ^ t.length := by rw [Int.add_mul, Int.mul_assoc]
      have e2 : b * (10 ^ t.length * 10) = 10 * (b * 10 ^ t.length) := by rw [← Int.mul_assoc, Int.mul_comm]
      omega
theorem numL_two {l : List UInt8} {n : Int} (h : numL l = (n, true)) (hl : l.length ≤ 2) : 0 ≤ n ∧ n ≤ 99 := by
  unfold numL at h
  cases hq : numFrom 0 l with
  | none => rw [hq] at h; simp at h
  | some m =>
    rw [hq] at h
    injection h with h1 h2
    subst h1
    have := numFrom_small l 0 m 0 hq (by omega) (by omega)
    refine ⟨this.1, ?_⟩
    have h3 := this.2
    match l, hl with
    | [], _ => simp at h3; omega
    | [_], _ => simp at h3; omega
    | [_, _], _ => simp at h3; omega
def smallN (x : List UInt8) : Int × Bool := if x.length ≤ 2 then numL x else (0, false)
def clockL (l : List UInt8) : Int × Bool := match cutAt 58 l with
  | none => (0, false)
  | some (a, r) => match cutAt 58 r with
    | none => (0, false)
    | some (b, c) => if (numL a).2 = true ∧ a.length ≤ 2 ∧ (numL b).2 = true ∧ b.length ≤ 2 ∧ (numL c).2 = true ∧ c.length ≤ 2 then secondI (numL a).1 (numL b).1 (numL c).1 else (0, false)
def pieces3 (l : List UInt8) : List (List UInt8) := match cutAt 58 l with
  | none => [l]
  | some (a, r) => match cutAt 58 r with
    | none => [a, r]
    | some (b, c) => [a, b, c]
theorem splitK_hit {c : UInt8} {l x r : List UInt8} (h : cutAt c l = some (x, r)) (k : Nat) : Lib.splitK [c] 0 (k + 1) l = x :: Lib.splitK [c] 0 k r := by
  rcases cutAt_index c l with ⟨h1, h2⟩ | ⟨i, h1, h2, h3⟩
  · rw [h1] at h; cases h
  · rw [h] at h3
    simp only [Option.some.injEq, Prod.mk.injEq] at h3
    obtain ⟨rfl, rfl⟩ := h3
    conv => lhs; rw [Lib.splitK]
    rw [h1]
    have : ((i : Int) == -1) = false := beq_eq_false_iff_ne.2 (by omega)
    rw [this]
    simp
theorem splitK_miss {c : UInt8} {l : List UInt8} (h : cutAt c l = none) (k : Nat) : Lib.splitK [c] 0 k l = [l] := by
  cases k with
  | zero => rfl
  | succ k =>
    rcases cutAt_index c l with ⟨h1, h2⟩ | ⟨i, h1, h2, h3⟩
    · unfold Lib.splitK
      rw [h2]
      rfl
    · rw [h] at h3; cases h3
theorem pieces3_eq (s : ByteArray) (l : List UInt8) (hl : s.data.toList = l) : Lib.splitB ⟨#[58]⟩ 0 (min 3 (s.size + 1) - 1) s = (pieces3 l).map mkB := by
  have h := Lib.splitB_data ⟨#[58]⟩ 0 (min 3 (s.size + 1) - 1) s
  have hz : l.length = s.size := by rw [← hl]; rfl
  have e : Lib.splitK (⟨#[58]⟩ : ByteArray).data.toList 0 (min 3 (s.size + 1) - 1) s.data.toList = pieces3 l := by
    rw [hl]
    show Lib.splitK [58] 0 _ l = _
    unfold pieces3
    cases h1 : cutAt 58 l with
    | none => exact splitK_miss h1 _
    | some p =>
      obtain ⟨a, r⟩ := p
      have l1 := ((cutAt_count 58 l).2 a r h1).2
      cases h2 : cutAt 58 r with
      | none =>
        obtain ⟨k, hk⟩ : ∃ k, min 3 (s.size + 1) - 1 = k + 1 := ⟨min 3 (s.size + 1) - 2, by omega⟩
        rw [hk, splitK_hit h1, splitK_miss h2]
        simp only [h2]
      | some q =>
        obtain ⟨b, c⟩ := q
        have l2 := ((cutAt_count 58 r).2 b c h2).2
        have hk : min 3 (s.size + 1) - 1 = 1 + 1 := by omega
        rw [hk, splitK_hit h1, splitK_hit h2]
        simp only [h2]
        rfl
  rw [e] at h
  rw [← h, List.map_map]
  have e2 : (mkB ∘ fun x : ByteArray => x.data.toList) = id := by funext x; exact mkB_data x
  rw [e2, List.map_id]
structure Arr3 (g : Nat) (f : Nat → Int) (w : World) : Prop where
  cell : ∀ j, j < 3 → w.cell? ⟨g, j, none⟩ = some (.int .i64 (f j))
  free : ∀ j, j < 3 → w.frozen? ⟨g, j, none⟩ = false
theorem Arr3.set {g : Nat} {f : Nat → Int} {w : World} (h : Arr3 g f w) (k : Nat) (hk : k < 3) (v : Int) : Arr3 g (fun j => if j = k then v else f j) (w.setCell ⟨g, k, none⟩ (.int .i64 v)) := by
  constructor
  · intro j hj
    by_cases e : j = k
    · subst e
      rw [World.cell?_setCell_same _ _ _ (h.cell j hj)]
      simp
    · rw [World.cell?_setCell_other _ _ _ _ (by intro e'; injection e' with _ e2 _; exact e e2.symm), h.cell j hj]
      simp [e]
  · intro j hj
    rw [World.frozen?_setCell]
    exact h.free j hj
theorem Arr3.below {g : Nat} {f : Nat → Int} {w w' : World} {B : Nat} (h : Arr3 g f w) (hb : Below B w w') (hg : g < B) : Arr3 g f w' :=
  ⟨fun j hj => (hb.cell (p := ⟨g, j, none⟩) hg).trans (h.cell j hj), fun j hj => (hb.frozen (p := ⟨g, j, none⟩) hg).trans (h.free j hj)⟩
theorem Arr3.congr {g : Nat} {f f' : Nat → Int} {w : World} (h : Arr3 g f w) (e : ∀ j, j < 3 → f j = f' j) : Arr3 g f' w :=
  ⟨fun j hj => by rw [← e j hj]; exact h.cell j hj, h.free⟩
theorem Arr3.lt {g : Nat} {f : Nat → Int} {w : World} (h : Arr3 g f w) : g < w.heap.size := World.block_lt_of_cell? w _ (h.cell 0 (by omega))
def TextsAt (g : Nat) (p : List (List UInt8)) (w : World) : Prop := ∀ j (h : j < p.length), w.cell? ⟨g, j, none⟩ = some (.string (mkB p[j]))
theorem TextsAt.below {g : Nat} {p : List (List UInt8)} {w w' : World} {B : Nat} (h : TextsAt g p w) (hb : Below B w w') (hg : g < B) : TextsAt g p w' :=
  fun j hj => (hb.cell (p := ⟨g, j, none⟩) hg).trans (h j hj)
theorem TextsAt.far {g g' : Nat} {p : List (List UInt8)} {w : World} (h : TextsAt g p w) (k : Nat) (v : Value) (hne : g' ≠ g) : TextsAt g p (w.setCell ⟨g', k, none⟩ v) :=
  fun j hj => (World.cell?_setCell_far _ _ _ _ hne).trans (h j hj)
theorem TextsAt.made (w : World) (p : List (List UInt8)) (N : Nat) : TextsAt w.heap.size p (w.alloc (.cells (Lib.cellsOf (p.map mkB) N) 9)) := by
  intro j hj
  have e : (w.alloc (.cells (Lib.cellsOf (p.map mkB) N) 9)).heap[w.heap.size]? = some (.cells (Lib.cellsOf (p.map mkB) N) 9) := by
    show (w.heap.push _)[w.heap.size]? = _
    simp
  rw [World.cell?, e]
  simp [Lib.cellsOf, List.getElem?_append, hj]
def seenN (p : List (List UInt8)) (k j : Nat) : Int := if j < k then (numL (p.getD j [])).1 else 0
def goodN (p : List (List UInt8)) (k : Nat) : Prop := ∀ j, j < k → (numL (p.getD j [])).2 = true ∧ (p.getD j []).length ≤ 2
def clockP (p : List (List UInt8)) : Int × Bool := match p with
  | [a, b, c] => if (numL a).2 = true ∧ a.length ≤ 2 ∧ (numL b).2 = true ∧ b.length ≤ 2 ∧ (numL c).2 = true ∧ c.length ≤ 2 then secondI (numL a).1 (numL b).1 (numL c).1 else (0, false)
  | _ => (0, false)
theorem clockP_eq (l : List UInt8) : clockP (pieces3 l) = clockL l := by
  unfold pieces3 clockL
  cases h1 : cutAt 58 l with
  | none => rfl
  | some p =>
    obtain ⟨a, r⟩ := p
    cases h2 : cutAt 58 r with
    | none => simp only [h2]; rfl
    | some q => obtain ⟨b, c⟩ := q; simp only [h2]; rfl
theorem pieces3_len (l : List UInt8) : (pieces3 l).length ≤ 3 ∧ 1 ≤ (pieces3 l).length := by
  unfold pieces3
  cases cutAt 58 l with
  | none => simp
  | some p => cases h2 : cutAt 58 p.2 <;> simp [h2]
theorem clockP_three {p : List (List UInt8)} (h : p.length = 3) (hg : goodN p 3) : clockP p = secondI (seenN p 3 0) (seenN p 3 1) (seenN p 3 2) := by
  match p, h with
  | [a, b, c], _ =>
    have h0 := hg 0 (by omega)
    have h1 := hg 1 (by omega)
    have h2 := hg 2 (by omega)
    simp only [List.getD_cons_zero, List.getD_cons_succ] at h0 h1 h2
    show (if _ then _ else _) = _
    rw [if_pos ⟨h0.1, h0.2, h1.1, h1.2, h2.1, h2.2⟩]
    simp [seenN]
theorem clockP_bad {p : List (List UInt8)} (k : Nat) (hk : k < p.length) (hb : ¬ ((numL (p.getD k [])).2 = true ∧ (p.getD k []).length ≤ 2)) : clockP p = (0, false) := by
  unfold clockP
  split
  · rename_i a b c
    rw [if_neg]
    intro h
    apply hb
    have hk' : k = 0 ∨ k = 1 ∨ k = 2 := by simp at hk; omega
    rcases hk' with rfl | rfl | rfl
    · exact ⟨h.1, h.2.1⟩
    · exact ⟨h.2.2.1, h.2.2.2.1⟩
    · exact ⟨h.2.2.2.2.1, h.2.2.2.2.2⟩
  · rfl
theorem clockP_few {p : List (List UInt8)} (h : p.length < 3) : clockP p = (0, false) := by
  unfold clockP
  split
  · simp at h
  · rfl
def zic_Clock.f (a0 : ByteArray) : Option (Int × Bool) := if a0.size < 4294967281 then some (clockL a0.data.toList) else none
theorem number_bytes (x : List UInt8) (w : World) (hx : x.length ≤ maxLen) : Calls Tryd.prog 50 #[.string (mkB x)] w fun e w' => e = .returned (.tuple #[.int .i64 (numL x).1, .bool (numL x).2]) ∧ Below w.heap.size w w' :=
  number_walk (mkB x) x rfl _ _ rfl w hx
set_option maxHeartbeats 2000000 in
set_option maxRecDepth 100000 in
theorem clock_walk (s : ByteArray) (p : List (List UInt8)) (hp : pieces3 s.data.toList = p) (hpl : ∀ x ∈ p, x.length ≤ maxLen) (r1 : Int) (r2 : Bool) (hr : clockP p = (r1, r2)) (w : World) (hs : s.size < 4294967281) :
    Calls Tryd.prog 27 #[.string s] w fun e w' => e = .returned (.tuple #[.int .i64 r1, .bool r2]) ∧ Below w.heap.size w w' := by
  have hsp := fun w : World => splitN_one s 58 3 w hs (by omega) (by omega)
  rw [pieces3_eq s _ rfl, hp] at hsp
  have HSP : Aside0 (∀ w : World, Calls Tryd.prog 49 #[.string s, .string ⟨#[58]⟩, .int .i64 3] w fun e w' =>
      e = .returned (.slice (some ⟨w.heap.size, 0, none⟩) p.length (min 3 (s.size + 1))) ∧ w' = w.alloc (.cells (Lib.cellsOf (p.map mkB) (min 3 (s.size + 1))) 9)) := ⟨fun w => by have h := hsp w; rw [List.length_map] at h; exact h⟩
  have HR := Aside0.mk hr
  have HPL := Aside0.mk hpl
  have hp3 : p.length ≤ 3 := by rw [← hp]; exact (pieces3_len _).1
  clear hsp hp hr hpl
  generalize min 3 (s.size + 1) = N at HSP
  by_cases hlt3 : p.length < 3
  · have HX : Aside0 (r1 = 0 ∧ r2 = false) := ⟨by
      have h := HR.out
      rw [clockP_few hlt3] at h
      injection h with h1 h2
      exact ⟨h1.symm, h2.symm⟩⟩
    obtain ⟨rfl, rfl⟩ := HX.out
    clear HX
    go_enter Tryd.func27, Tryd.ntmps27
    go_wp2_with (go_at_call 49; (with_reducible refine (HSP.out _).mono ?_); rintro e w1 ⟨rfl, rfl⟩)
    all_goals first | (exfalso; omega) | (go_ret2; exact ⟨rfl, ((Below.refl _ _).alloc (Nat.le_refl _) _).alloc (by simp) _⟩)
  · have hl3 : p.length = 3 := by omega
    have HL3 := Aside0.mk hl3
    clear hlt3 hp3
    rw [hl3] at HSP
    clear hl3
    have HA : Aside0 (Arr3 w.heap.size (seenN p 0) ((w.alloc (.cells #[.int .i64 0, .int .i64 0, .int .i64 0] 89)).alloc (.cells (Lib.cellsOf (p.map mkB) N) 9))) := ⟨by
      have hs1 : (w.alloc (.cells #[.int .i64 0, .int .i64 0, .int .i64 0] 89)).heap.size = w.heap.size + 1 := by simp
      refine Arr3.below (w := w.alloc (.cells #[.int .i64 0, .int .i64 0, .int .i64 0] 89)) (B := w.heap.size + 1) ⟨?_, ?_⟩ ((Below.refl _ _).alloc (by rw [hs1]; exact Nat.le_refl _) _) (by omega)
      · intro j hj
        rw [World.cell?_alloc_mark]
        have : j = 0 ∨ j = 1 ∨ j = 2 := by omega
        rcases this with rfl | rfl | rfl <;> rfl
      · intro j hj
        have h := World.frozen?_alloc_mark w #[.int .i64 0, .int .i64 0, .int .i64 0] 89 0 0 j
        rw [h]; simp⟩
    have HT : Aside0 (TextsAt (w.heap.size + 1) p ((w.alloc (.cells #[.int .i64 0, .int .i64 0, .int .i64 0] 89)).alloc (.cells (Lib.cellsOf (p.map mkB) N) 9))) := ⟨by
      have h := TextsAt.made (w.alloc (.cells #[.int .i64 0, .int .i64 0, .int .i64 0] 89)) p N
      have hs1 : (w.alloc (.cells #[.int .i64 0, .int .i64 0, .int .i64 0] 89)).heap.size = w.heap.size + 1 := by simp
      rw [hs1] at h
      exact h⟩
    have HB : Aside0 (Below w.heap.size w ((w.alloc (.cells #[.int .i64 0, .int .i64 0, .int .i64 0] 89)).alloc (.cells (Lib.cellsOf (p.map mkB) N) 9))) := ⟨((Below.refl _ _).alloc (Nat.le_refl _) _).alloc (by simp) _⟩
    have HZ : Aside0 (w.heap.size + 1 < ((w.alloc (.cells #[.int .i64 0, .int .i64 0, .int .i64 0] 89)).alloc (.cells (Lib.cellsOf (p.map mkB) N) 9)).heap.size) := ⟨by simp⟩
    go_enter Tryd.func27, Tryd.ntmps27
    go_wp2_with (go_at_call 49; (with_reducible refine (HSP.out _).mono ?_); rintro e w1 ⟨rfl, rfl⟩)
    generalize ((w.alloc (.cells #[.int .i64 0, .int .i64 0, .int .i64 0] 89)).alloc (.cells (Lib.cellsOf (p.map mkB) N) 9)) = w0 at *
    go_loopw [17] (fun i wr => ∃ k : Nat, k ≤ 3 ∧ i = .int .i64 k ∧ Aside0 (Arr3 w.heap.size (seenN p k) wr) ∧ Aside0 (TextsAt (w.heap.size + 1) p wr) ∧ Aside0 (Below w.heap.size w wr) ∧ Aside0 (w.heap.size + 1 < wr.heap.size) ∧ Aside0 (goodN p k)) (fun i _ => 3 - (intOf i).toNat)
    case atStart => exact ⟨0, by omega, rfl, HA, HT, HB, HZ, ⟨fun j h => by omega⟩⟩
    case round =>
      clear HA HT HB HZ
      obtain ⟨k, hk, rfl, HA, HT, HB, HZ, HG⟩ := hrel
      by_cases hlt : k < 3
      · have hkp : k < p.length := by rw [HL3.out]; exact hlt
        have hcell := HT.out k hkp
        have HLM := Aside0.mk (HPL.out _ (List.getElem_mem hkp))
        have HGD : Aside0 (p.getD k [] = p[k]) := ⟨by simp [List.getD, hkp]⟩
        generalize p[k] = x at *
        have HKP := Aside0.mk hkp
        have hfree := HA.out.free k hlt
        by_cases hgood : (numL x).2 = true ∧ x.length ≤ 2
        · obtain ⟨hg1, hg2⟩ := hgood
          have HG1 := Aside0.mk hg1
          have hq : decide (2 < (mkB x).size) = false := decide_eq_false (by show ¬ 2 < x.length; omega)
          have hq2 : decide ((2 : Int) < ((mkB x).size : Int)) = false := decide_eq_false (by show ¬ (2 : Int) < (x.length : Int); omega)
          have HG2 := Aside0.mk hg2
          generalize hv : (numL x).1 = v at *
          have HV := Aside0.mk hv
          clear hv hg1 hg2
          go_wp2_with (go_at_call 50; (with_reducible refine (number_bytes _ _ HLM.out).mono ?_); rintro e w1 ⟨rfl, hb1⟩; rw [HG1.out, HV.out]; have HB1 := Aside0.mk hb1; clear hb1; have hfree1 := (HB1.out.frozen (p := ⟨w.heap.size, k, none⟩) (HA.out.lt)).trans hfree; have hca1 := (HB1.out.cell (p := ⟨w.heap.size, k, none⟩) (HA.out.lt)).trans (HA.out.cell k hlt))
          all_goals
            go_roundw
            case rel =>
              refine ⟨k + 1, by omega, by go_num, ⟨?_⟩, ⟨?_⟩, ⟨?_⟩, ⟨?_⟩, ⟨?_⟩⟩
              · refine ((HA.out.below HB1.out HA.out.lt).set k hlt v).congr (fun j hj => ?_)
                unfold seenN
                by_cases e : j = k
                · subst e
                  rw [if_pos rfl, if_pos (by omega), HGD.out, HV.out]
                · rw [if_neg e]
                  by_cases e2 : j < k
                  · rw [if_pos e2, if_pos (by omega)]
                  · rw [if_neg e2, if_neg (by omega)]
              · exact (HT.out.below HB1.out HZ.out).far k _ (by omega)
              · exact (HB.out.trans (HB1.out.mono HB.out.size)).setCell (Nat.le_refl _) _
              · have := HB1.out.size; have := HZ.out; simp; omega
              · intro j hj
                by_cases e : j = k
                · subst e
                  rw [HGD.out]
                  exact ⟨HG1.out, HG2.out⟩
                · exact HG.out j (by omega)
            case measure => simp [intOf]; omega
        · have HX : Aside0 (r1 = 0 ∧ r2 = false) := ⟨by
            have h := HR.out
            rw [clockP_bad k HKP.out (by rw [HGD.out]; exact hgood)] at h
            injection h with h1 h2
            exact ⟨h1.symm, h2.symm⟩⟩
          obtain ⟨rfl, rfl⟩ := HX.out
          clear HX
          by_cases hg1 : (numL x).2 = true
          · have HG1 := Aside0.mk hg1
            have hq : decide (2 < (mkB x).size) = true := decide_eq_true (by show 2 < x.length; have : ¬ x.length ≤ 2 := fun h => hgood ⟨hg1, h⟩; omega)
            have hq2 : decide ((2 : Int) < ((mkB x).size : Int)) = true := decide_eq_true (by have := of_decide_eq_true hq; omega)
            have hq3 : 2 < (mkB x).size := of_decide_eq_true hq
            clear hg1 hgood
            go_wp2_with (go_at_call 50; (with_reducible refine (number_bytes _ _ HLM.out).mono ?_); rintro e w1 ⟨rfl, hb1⟩; rw [HG1.out]; have HB1 := Aside0.mk hb1; clear hb1)
            all_goals (go_ret2; exact ⟨rfl, HB.out.trans (HB1.out.mono HB.out.size)⟩)
          · have HG1 : Aside0 ((numL x).2 = false) := ⟨by simpa using hg1⟩
            clear hg1 hgood
            go_wp2_with (go_at_call 50; (with_reducible refine (number_bytes _ _ HLM.out).mono ?_); rintro e w1 ⟨rfl, hb1⟩; rw [HG1.out]; have HB1 := Aside0.mk hb1; clear hb1)
            all_goals (go_ret2; exact ⟨rfl, HB.out.trans (HB1.out.mono HB.out.size)⟩)
      · have hk3 : k = 3 := by omega
        subst hk3
        have hc0 := HA.out.cell 0 (by omega)
        have hc1 := HA.out.cell 1 (by omega)
        have hc2 := HA.out.cell 2 (by omega)
        have hb : ∀ j, j < 3 → 0 ≤ seenN p 3 j ∧ seenN p 3 j ≤ 99 := fun j hj => by
          unfold seenN
          rw [if_pos hj]
          have h := HG.out j hj
          exact numL_two (l := p.getD j []) (by rw [← h.1]) h.2
        have b0 := hb 0 (by omega)
        have b1 := hb 1 (by omega)
        have b2 := hb 2 (by omega)
        clear hb
        have HRS : Aside0 (secondI (seenN p 3 0) (seenN p 3 1) (seenN p 3 2) = (r1, r2)) := ⟨by rw [← clockP_three HL3.out HG.out]; exact HR.out⟩
        generalize seenN p 3 0 = n0 at *
        generalize seenN p 3 1 = n1 at *
        generalize seenN p 3 2 = n2 at *
        obtain ⟨b01, b02⟩ := b0
        obtain ⟨b11, b12⟩ := b1
        obtain ⟨b21, b22⟩ := b2
        go_wp2_with (go_at_call 51; (with_reducible refine (second_any _ _ _ _ b01 (by omega) b11 (by omega) b21 (by omega) _ _ HRS.out).mono ?_); rintro e w1 ⟨rfl, rfl⟩)
        all_goals (go_ret2; exact ⟨rfl, HB.out⟩)
theorem pieces3_size (l : List UInt8) : ∀ x ∈ pieces3 l, x.length ≤ l.length := by
  have hc : ∀ (c : UInt8) (l x r : List UInt8), cutAt c l = some (x, r) → x.length ≤ l.length ∧ r.length ≤ l.length := by
    intro c l x r h
    rcases cutAt_index c l with ⟨h1, h2⟩ | ⟨i, h1, h2, h3⟩
    · rw [h1] at h; cases h
    · rw [h] at h3
      simp only [Option.some.injEq, Prod.mk.injEq] at h3
      obtain ⟨rfl, rfl⟩ := h3
      simp; omega
  unfold pieces3
  cases h1 : cutAt 58 l with
  | none => simp
  | some p =>
    obtain ⟨a, r⟩ := p
    have l1 := hc 58 l a r h1
    cases h2 : cutAt 58 r with
    | none =>
      simp only [h2]
      intro x hx
      simp at hx
      rcases hx with rfl | rfl <;> omega
    | some q =>
      obtain ⟨b, c⟩ := q
      have l2 := hc 58 r b c h2
      simp only [h2]
      intro x hx
      simp at hx
      rcases hx with rfl | rfl | rfl <;> omega
theorem zic_Clock.calls (a0 : ByteArray) (r1 : Int) (r2 : Bool) (w : World) (h : zic_Clock.f a0 = some (r1, r2)) :
    Calls Tryd.prog 27 #[.string a0] w fun e w' => e = .returned (.tuple #[.int .i64 r1, .bool r2]) ∧ Below w.heap.size w w' := by
  unfold zic_Clock.f at h
  split at h
  · rename_i hz
    refine clock_walk a0 _ rfl (fun x hx => ?_) r1 r2 (by rw [clockP_eq]; exact Option.some.inj h) w hz
    have := pieces3_size _ x hx
    have e : a0.data.toList.length = a0.size := rfl
    unfold maxLen
    omega
  · cases h
end Go.Proofs.YtodalfobehddmaaDoor.Z
namespace Go.Proofs.YtodalfobehddmaaDoor.Z
open Go.RowKit Go.Proofs.YtodalfobehddmaaDoorW.PrintWords Go.Proofs.YtodalfobehddmaaDoorW.PrintLast Go.Proofs.YtodalfobehddmaaDoor.Mx
def lowU (c : UInt8) : UInt8 := if 65 ≤ c.toNat ∧ c.toNat ≤ 90 then c + 32 else c
def foldL (l : List UInt8) : List UInt8 := l.map lowU
def foldAt (l : List UInt8) (k : Nat) : List UInt8 := foldL (l.take k) ++ l.drop k
theorem foldAt_length (l : List UInt8) (k : Nat) : (foldAt l k).length = l.length := by simp [foldAt, foldL]; omega
theorem foldAt_step (l : List UInt8) (k : Nat) (h : k < l.length) : foldAt l (k + 1) = (foldAt l k).set k (lowU l[k]) := by
  unfold foldAt foldL
  rw [List.take_succ_eq_append_getElem h, List.drop_eq_getElem_cons h, List.set_append_right _ _ (by simp; omega), List.map_append, List.append_assoc]
  congr 1
  have e : k - (List.map lowU (List.take k l)).length = 0 := by simp; omega
  rw [e, List.set_cons_zero]
  rfl
theorem foldAt_get (l : List UInt8) (k : Nat) (h : k < l.length) : (foldAt l k)[k]'(by rw [foldAt_length]; exact h) = l[k] := by
  unfold foldAt foldL
  rw [List.getElem_append_right (by simp; omega)]
  simp [Nat.min_eq_left (Nat.le_of_lt h)]
theorem foldAt_keep (l : List UInt8) (k : Nat) (h : k < l.length) (hk : lowU l[k] = l[k]) : foldAt l (k + 1) = foldAt l k := by
  rw [foldAt_step l k h, hk]
  apply List.ext_getElem (by simp)
  intro i h1 h2
  by_cases e : i = k
  · subst e
    rw [List.getElem_set_self, foldAt_get l i h]
  · rw [List.getElem_set_ne (Ne.symm e)]
theorem foldAt_end (l : List UInt8) : foldAt l l.length = foldL l := by simp [foldAt]
theorem lowU_great (c : UInt8) (h1 : 65 ≤ c.toNat) (h2 : c.toNat ≤ 90) : ((lowU c).toNat : Int) = (c.toNat : Int) + 32 := by
  unfold lowU
  rw [if_pos ⟨h1, h2⟩, UInt8.toNat_add]
  simp
  omega
theorem lowU_small (c : UInt8) (h : ¬ (65 ≤ c.toNat ∧ c.toNat ≤ 90)) : lowU c = c := by
  unfold lowU
  rw [if_neg h]
def lines_Fold.f (a0 : ByteArray) : Option (ByteArray) := if a0.size ≤ maxLen then some ⟨(foldL a0.data.toList).toArray⟩ else none
set_option maxHeartbeats 1000000 in
set_option maxRecDepth 100000 in
theorem fold_walk (s : ByteArray) (l : List UInt8) (hl : s.data.toList = l) (w : World) (hs : s.size ≤ maxLen) :
    Calls Tryd.prog 19 #[.string s] w fun e w' => e = .returned (.string ⟨(foldL l).toArray⟩) ∧ Below w.heap.size w w' := by
  unfold maxLen at hs
  have hcv := fun w : World => run_bytes_of_string (P := Tryd.prog) w 9 65 5 s Tryd.underlying9 Tryd.underlying65 Tryd.underlying5
  have HM := Aside0.mk (show BytesAt w.heap.size (foldAt l 0) (w.alloc (.cells (bytesRow s (grownCap w s.size 0 5)) 5 ((bytesRow s (grownCap w s.size 0 5)).size, (bytesRow s (grownCap w s.size 0 5)).size + 1))).drew by
    rw [show foldAt l 0 = s.data.toList by simp [foldAt, foldL, hl]]; exact BytesAt.made w s (grownCap w s.size 0 5))
  have HB := Aside0.mk (show Below w.heap.size w (w.alloc (.cells (bytesRow s (grownCap w s.size 0 5)) 5 ((bytesRow s (grownCap w s.size 0 5)).size, (bytesRow s (grownCap w s.size 0 5)).size + 1))).drew from ((Below.refl _ _).alloc (Nat.le_refl _) _).drew)
  have hn : l.length = s.size := by rw [← hl]; rfl
  have HN := Aside0.mk hn
  have hn1 : l.length ≤ s.size := by omega
  have hn2 : s.size ≤ l.length := by omega
  clear hn hl
  go_enter Tryd.func19, Tryd.ntmps19
  go_wp2_with fail
  clear hcv
  generalize grownCap w s.size 0 5 = cap at HM HB ⊢
  generalize (w.alloc (.cells (bytesRow s cap) 5 ((bytesRow s cap).size, (bytesRow s cap).size + 1))).drew = w1 at HM HB ⊢
  go_loopw [10] (fun i wr => ∃ k : Nat, k ≤ l.length ∧ i = .int .i64 k ∧ Aside0 (BytesAt w.heap.size (foldAt l k) wr) ∧ Aside0 (Below w.heap.size w wr)) (fun i _ => s.size - (intOf i).toNat)
  case atStart => exact ⟨0, Nat.zero_le _, rfl, HM, HB⟩
  case round =>
    clear HM HB
    obtain ⟨k, hk, rfl, HM, HB⟩ := hrel
    by_cases hlt : k < l.length
    · have hlt' : k < s.size := by omega
      have hcell := HM.out.cell k (by rw [foldAt_length]; exact hlt)
      rw [foldAt_get l k hlt] at hcell
      have hfree := HM.out.free k (by rw [foldAt_length]; exact hlt)
      have hc255 := l[k].toNat_lt
      by_cases hup : 65 ≤ l[k].toNat ∧ l[k].toNat ≤ 90
      · have h1 : decide ((65 : Int) ≤ (l[k].toNat : Int)) = true := decide_eq_true (by omega)
        have h2 : decide ((l[k].toNat : Int) ≤ 90) = true := decide_eq_true (by omega)
        have HV := Aside0.mk (lowU_great l[k] hup.1 hup.2)
        have HS := Aside0.mk (foldAt_step l k hlt)
        have h3 : (l[k].toNat : Int) ≤ 90 := by omega
        have h4 : 65 ≤ (l[k].toNat : Int) := by omega
        clear hup
        go_wp2_with fail
        all_goals
          go_roundw
          case rel => exact ⟨k + 1, by omega, by go_num, ⟨by rw [HS.out]; exact HM.out.set k (by rw [foldAt_length]; exact hlt) _ _ (by rw [HV.out])⟩, ⟨HB.out.setCell (Nat.le_refl _) _⟩⟩
          case measure => simp [intOf]; omega
      · have HS := Aside0.mk (foldAt_keep l k hlt (lowU_small _ hup))
        by_cases hu1 : 65 ≤ l[k].toNat
        · have h1 : decide ((65 : Int) ≤ (l[k].toNat : Int)) = true := decide_eq_true (by omega)
          have h2 : decide ((l[k].toNat : Int) ≤ 90) = false := decide_eq_false (by omega)
          clear hup
          go_wp2_with fail
          all_goals
            go_roundw
            case rel => exact ⟨k + 1, by omega, by go_num, ⟨by rw [HS.out]; exact HM.out⟩, HB⟩
            case measure => simp [intOf]; omega
        · have h1 : decide ((65 : Int) ≤ (l[k].toNat : Int)) = false := decide_eq_false (by omega)
          clear hup
          go_wp2_with fail
          all_goals
            go_roundw
            case rel => exact ⟨k + 1, by omega, by go_num, ⟨by rw [HS.out]; exact HM.out⟩, HB⟩
            case measure => simp [intOf]; omega
    · have hk2 : k = l.length := by omega
      subst hk2
      rw [foldAt_end] at HM
      have hback := HM.out.back (P := Tryd.prog) 65 9 5 s.size cap (by simp [foldL]; exact HN.out.symm) Tryd.underlying65 Tryd.underlying5 Tryd.underlying9
      go_wp2_with fail
      all_goals
        go_ret
        exact ⟨rfl, HB.out⟩
theorem lines_Fold.calls (a0 : ByteArray) (r : ByteArray) (w : World) (h : lines_Fold.f a0 = some r) :
    Calls Tryd.prog 19 #[.string a0] w fun e w' => e = .returned (.string r) ∧ Below w.heap.size w w' := by
  unfold lines_Fold.f at h
  split at h
  · obtain rfl := Option.some.inj h
    exact fold_walk a0 _ rfl w (by assumption)
  · cases h
end Go.Proofs.YtodalfobehddmaaDoor.Z
namespace Go.Proofs.YtodalfobehddmaaDoor.Z
open Go.RowKit Go.Proofs.YtodalfobehddmaaDoorW.PrintWords Go.Proofs.YtodalfobehddmaaDoorW.PrintLast Go.Proofs.YtodalfobehddmaaDoor.Mx
def monthNames : List (List UInt8) := [[106, 97, 110, 117, 97, 114, 121],
  [102, 101, 98, 114, 117, 97, 114, 121],
  [109, 97, 114, 99, 104],
  [97, 112, 114, 105, 108],
  [109, 97, 121],
  [106, 117, 110, 101],
  [106, 117, 108, 121],
  [97, 117, 103, 117, 115, 116],
  [115, 101, 112, 116, 101, 109, 98, 101, 114],
  [111, 99, 116, 111, 98, 101, 114],
  [110, 111, 118, 101, 109, 98, 101, 114],
  [100, 101, 99, 101, 109, 98, 101, 114]]
def monthF (f : List UInt8) : Int × Bool :=
  if f.length < 3 then (0, false) else match monthNames.findIdx? (fun n => f.isPrefixOf n) with
    | some k => ((k : Int) + 1, true)
    | none => (0, false)
def nameVals : Array Value := (monthNames.map (fun n => Value.string (mkB n))).toArray
theorem names_calls (w : World) : Calls Tryd.prog 35 #[] w fun e w' => e = .returned (.agg nameVals) ∧ Below w.heap.size w w' := by
  go_enter Tryd.func35, Tryd.ntmps35
  go_wp2_with fail
  refine bodyPost_ret (v := .agg nameVals) (by simp [results, Tryd.results35, go_sem, nameVals, monthNames, mkB]) rfl ⟨rfl, ?_⟩
  exact (Below.refl _ _).alloc (Nat.le_refl _) _
theorem namesAt0 (w : World) : (Instr.index 66 (.agg nameVals) (.int .i64 ((0 : Nat) : Int))).run Tryd.prog w = .ok (.string (mkB (monthNames[0]'(by decide)))) w := by kernel_rfl
theorem namesAt1 (w : World) : (Instr.index 66 (.agg nameVals) (.int .i64 ((1 : Nat) : Int))).run Tryd.prog w = .ok (.string (mkB (monthNames[1]'(by decide)))) w := by kernel_rfl
theorem namesAt2 (w : World) : (Instr.index 66 (.agg nameVals) (.int .i64 ((2 : Nat) : Int))).run Tryd.prog w = .ok (.string (mkB (monthNames[2]'(by decide)))) w := by kernel_rfl
theorem namesAt3 (w : World) : (Instr.index 66 (.agg nameVals) (.int .i64 ((3 : Nat) : Int))).run Tryd.prog w = .ok (.string (mkB (monthNames[3]'(by decide)))) w := by kernel_rfl
theorem namesAt4 (w : World) : (Instr.index 66 (.agg nameVals) (.int .i64 ((4 : Nat) : Int))).run Tryd.prog w = .ok (.string (mkB (monthNames[4]'(by decide)))) w := by kernel_rfl
theorem namesAt5 (w : World) : (Instr.index 66 (.agg nameVals) (.int .i64 ((5 : Nat) : Int))).run Tryd.prog w = .ok (.string (mkB (monthNames[5]'(by decide)))) w := by kernel_rfl
theorem namesAt6 (w : World) : (Instr.index 66 (.agg nameVals) (.int .i64 ((6 : Nat) : Int))).run Tryd.prog w = .ok (.string (mkB (monthNames[6]'(by decide)))) w := by kernel_rfl
theorem namesAt7 (w : World) : (Instr.index 66 (.agg nameVals) (.int .i64 ((7 : Nat) : Int))).run Tryd.prog w = .ok (.string (mkB (monthNames[7]'(by decide)))) w := by kernel_rfl
theorem namesAt8 (w : World) : (Instr.index 66 (.agg nameVals) (.int .i64 ((8 : Nat) : Int))).run Tryd.prog w = .ok (.string (mkB (monthNames[8]'(by decide)))) w := by kernel_rfl
theorem namesAt9 (w : World) : (Instr.index 66 (.agg nameVals) (.int .i64 ((9 : Nat) : Int))).run Tryd.prog w = .ok (.string (mkB (monthNames[9]'(by decide)))) w := by kernel_rfl
theorem namesAt10 (w : World) : (Instr.index 66 (.agg nameVals) (.int .i64 ((10 : Nat) : Int))).run Tryd.prog w = .ok (.string (mkB (monthNames[10]'(by decide)))) w := by kernel_rfl
theorem namesAt11 (w : World) : (Instr.index 66 (.agg nameVals) (.int .i64 ((11 : Nat) : Int))).run Tryd.prog w = .ok (.string (mkB (monthNames[11]'(by decide)))) w := by kernel_rfl
theorem names_index (k : Nat) (hk : k < 12) (n : List UInt8) (hn : monthNames[k]? = some n) (w : World) : (Instr.index 66 (.agg nameVals) (.int .i64 (k : Int))).run Tryd.prog w = .ok (.string (mkB n)) w := by
  have h : k = 0 ∨ k = 1 ∨ k = 2 ∨ k = 3 ∨ k = 4 ∨ k = 5 ∨ k = 6 ∨ k = 7 ∨ k = 8 ∨ k = 9 ∨ k = 10 ∨ k = 11 := by omega
  rcases h with rfl | rfl | rfl | rfl | rfl | rfl | rfl | rfl | rfl | rfl | rfl | rfl
  · obtain rfl := Option.some.inj hn
    exact namesAt0 w
  · obtain rfl := Option.some.inj hn
    exact namesAt1 w
  · obtain rfl := Option.some.inj hn
    exact namesAt2 w
  · obtain rfl := Option.some.inj hn
    exact namesAt3 w
  · obtain rfl := Option.some.inj hn
    exact namesAt4 w
  · obtain rfl := Option.some.inj hn
    exact namesAt5 w
  · obtain rfl := Option.some.inj hn
    exact namesAt6 w
  · obtain rfl := Option.some.inj hn
    exact namesAt7 w
  · obtain rfl := Option.some.inj hn
    exact namesAt8 w
  · obtain rfl := Option.some.inj hn
    exact namesAt9 w
  · obtain rfl := Option.some.inj hn
    exact namesAt10 w
  · obtain rfl := Option.some.inj hn
    exact namesAt11 w
theorem monthF_hit {f : List UInt8} {k : Nat} {n : List UInt8} (hf : 3 ≤ f.length) (hn : monthNames[k]? = some n) (h : f.isPrefixOf n = true) (hno : ∀ j m, j < k → monthNames[j]? = some m → f.isPrefixOf m = false) : monthF f = ((k : Int) + 1, true) := by
  unfold monthF
  rw [if_neg (by omega)]
  have e : monthNames.findIdx? (fun n => f.isPrefixOf n) = some k := by
    rw [List.findIdx?_eq_some_iff_getElem]
    obtain ⟨hk, he⟩ := List.getElem?_eq_some_iff.1 hn
    refine ⟨hk, by rw [he]; exact h, fun j hj => ?_⟩
    rw [hno j _ hj (List.getElem?_eq_getElem (by omega))]
    decide
  rw [e]
theorem monthF_miss {f : List UInt8} (hno : ∀ j m, j < 12 → monthNames[j]? = some m → f.isPrefixOf m = false) : monthF f = (0, false) := by
  unfold monthF
  split
  · rfl
  · have e : monthNames.findIdx? (fun n => f.isPrefixOf n) = none := by
      rw [List.findIdx?_eq_none_iff]
      intro m hm
      obtain ⟨j, hj⟩ := List.getElem?_of_mem hm
      have hl : monthNames.length = 12 := rfl
      obtain ⟨hk, _⟩ := List.getElem?_eq_some_iff.1 hj
      exact hno j m (by omega) hj
    rw [e]
def zic_Month.f (a0 : ByteArray) : Option (Int × Bool) := if a0.size ≤ maxLen then some (monthF (foldL a0.data.toList)) else none
set_option maxHeartbeats 1000000 in
set_option maxRecDepth 100000 in
theorem month_walk (s : ByteArray) (f : List UInt8) (hf : foldL s.data.toList = f) (r1 : Int) (r2 : Bool) (hr : monthF f = (r1, r2)) (w : World) (hs : s.size ≤ maxLen) :
    Calls Tryd.prog 20 #[.string s] w fun e w' => e = .returned (.tuple #[.int .i64 r1, .bool r2]) ∧ Below w.heap.size w w' := by
  have hfs := fun w : World => fold_walk s _ rfl w hs
  rw [hf] at hfs
  have HFS := Aside0.mk hfs
  have HR := Aside0.mk hr
  obtain ⟨fb, hfb⟩ : ∃ fb, (⟨f.toArray⟩ : ByteArray) = fb := ⟨_, rfl⟩
  rw [hfb] at HFS
  have HFB : Aside0 (fb.data.toList = f) := ⟨by rw [← hfb]⟩
  have HFL : Aside0 (fb.size = f.length) := ⟨by rw [← hfb]; rfl⟩
  clear hf hfs hr hfb
  by_cases hlen : fb.size < 3
  · have hq : decide ((2 : Int) < (fb.size : Int)) = false := decide_eq_false (by omega)
    have hq2 : decide (2 < fb.size) = false := decide_eq_false (by omega)
    have HX : Aside0 (r1 = 0 ∧ r2 = false) := ⟨by
      have h := HR.out
      unfold monthF at h
      rw [if_pos (by rw [← HFL.out]; exact hlen)] at h
      injection h with h1 h2
      exact ⟨h1.symm, h2.symm⟩⟩
    obtain ⟨rfl, rfl⟩ := HX.out
    clear HX
    go_enter Tryd.func20, Tryd.ntmps20
    go_wp2_with (first | (go_at_call 19; (with_reducible refine (HFS.out _).mono ?_); rintro e w1 ⟨rfl, hb1⟩; have HB1 := Aside0.mk hb1; clear hb1) | (go_at_call 35; (with_reducible refine (names_calls _).mono ?_); rintro e w2 ⟨rfl, hb2⟩; have HB := Aside0.mk (HB1.out.trans (hb2.mono HB1.out.size)); clear hb2))
    go_loop [10] (fun i => ∃ k : Nat, k ≤ 12 ∧ i = .int .i64 k) (fun i => 12 - (intOf i).toNat)
    case atStart => exact ⟨0, by omega, rfl⟩
    case round =>
      obtain ⟨k, hk, rfl⟩ := hrel
      by_cases hlt : k < 12
      · obtain ⟨n, hn⟩ : ∃ n, monthNames[k]? = some n := ⟨_, List.getElem?_eq_getElem hlt⟩
        have hix := names_index k hlt n hn
        clear hn
        go_wp2_with fail
        all_goals
          go_round
          case rel => exact ⟨k + 1, by omega, by go_num⟩
          case measure => simp [intOf]; omega
      · go_wp2_with fail
        all_goals (go_ret2; exact ⟨rfl, HB.out⟩)
  · have hq : decide ((2 : Int) < (fb.size : Int)) = true := decide_eq_true (by omega)
    have hq2 : decide (2 < fb.size) = true := decide_eq_true (by omega)
    have hlen2 : 2 < fb.size := by omega
    go_enter Tryd.func20, Tryd.ntmps20
    go_wp2_with (first | (go_at_call 19; (with_reducible refine (HFS.out _).mono ?_); rintro e w1 ⟨rfl, hb1⟩; have HB1 := Aside0.mk hb1; clear hb1) | (go_at_call 35; (with_reducible refine (names_calls _).mono ?_); rintro e w2 ⟨rfl, hb2⟩; have HB := Aside0.mk (HB1.out.trans (hb2.mono HB1.out.size)); clear hb2))
    go_loop [10] (fun i => ∃ k : Nat, k ≤ 12 ∧ i = .int .i64 k ∧ Aside0 (∀ j m, j < k → monthNames[j]? = some m → f.isPrefixOf m = false)) (fun i => 12 - (intOf i).toNat)
    case atStart => exact ⟨0, by omega, rfl, ⟨fun j m h => by omega⟩⟩
    case round =>
      obtain ⟨k, hk, rfl, HNO⟩ := hrel
      by_cases hlt : k < 12
      · obtain ⟨n, hn⟩ : ∃ n, monthNames[k]? = some n := ⟨_, List.getElem?_eq_getElem hlt⟩
        have hix := names_index k hlt n hn
        have HNM := Aside0.mk hn
        clear hn
        have HP : Aside0 (Lib.hasPrefix (mkB n).data.toList fb.data.toList = f.isPrefixOf n) := ⟨by rw [HFB.out]; rfl⟩
        cases hpre : f.isPrefixOf n with
        | true =>
          have HPR := Aside0.mk hpre
          clear hpre
          have HX : Aside0 (r1 = (k : Int) + 1 ∧ r2 = true) := ⟨by
            have h := HR.out
            rw [monthF_hit (by rw [← HFL.out]; omega) HNM.out HPR.out HNO.out] at h
            injection h with h1 h2
            exact ⟨h1.symm, h2.symm⟩⟩
          obtain ⟨rfl, rfl⟩ := HX.out
          clear HX
          go_wp2_with (go_at_call 36; (with_reducible refine (Tryd.strings_HasPrefix _ _ _).mono ?_); rintro e w' ⟨rfl, rfl⟩; rw [HP.out, HPR.out])
          all_goals (go_ret2; exact ⟨rfl, HB.out⟩)
        | false =>
          have HPR := Aside0.mk hpre
          clear hpre
          go_wp2_with (go_at_call 36; (with_reducible refine (Tryd.strings_HasPrefix _ _ _).mono ?_); rintro e w' ⟨rfl, rfl⟩; rw [HP.out, HPR.out])
          all_goals
            go_round
            case rel =>
              exact ⟨k + 1, by omega, by go_num, ⟨fun j m hj hm => by
                by_cases e : j = k
                · subst e
                  have := HNM.out
                  rw [hm] at this
                  obtain rfl := Option.some.inj this
                  exact HPR.out
                · exact HNO.out j m (by omega) hm⟩⟩
            case measure => simp [intOf]; omega
      · have hk2 : k = 12 := by omega
        subst hk2
        have HX : Aside0 (r1 = 0 ∧ r2 = false) := ⟨by
          have h := HR.out
          rw [monthF_miss HNO.out] at h
          injection h with h1 h2
          exact ⟨h1.symm, h2.symm⟩⟩
        obtain ⟨rfl, rfl⟩ := HX.out
        clear HX
        go_wp2_with fail
        all_goals (go_ret2; exact ⟨rfl, HB.out⟩)
theorem zic_Month.calls (a0 : ByteArray) (r1 : Int) (r2 : Bool) (w : World) (h : zic_Month.f a0 = some (r1, r2)) :
    Calls Tryd.prog 20 #[.string a0] w fun e w' => e = .returned (.tuple #[.int .i64 r1, .bool r2]) ∧ Below w.heap.size w w' := by
  unfold zic_Month.f at h
  split at h
  · exact month_walk a0 _ rfl r1 r2 (Option.some.inj h) w (by assumption)
  · cases h
end Go.Proofs.YtodalfobehddmaaDoor.Z
