/- The law epact/epactlaw11.ZicWords holds: the row and its tied card (arguments of at most so many values and letters together as the given row says). Condition: package-level variables of Go's library hold what the program's text lays (the card ties them). (part 1 of 1) -/
import Derived.Test.YtodalfobehddmaaDoorCards
import Derived.Test.YtodalfobehddmaaDoorTie
import Derived.WalkKit
import Derived.ProofKit
import Derived.OpenShut
import Derived.ShutString
import Derived.ChangeOld
import Derived.Below
import Derived.SizedLaws
import Derived.SevenTiedAt
import Derived.Deep.DeepWitnessRowRef
import Derived.Test.YtodalfobehddmaaDoorCZ4
set_option linter.unusedVariables false
set_option linter.unusedSimpArgs false
namespace Go.Proofs.YtodalfobehddmaaDoor.Y
open Go.RowKit Go.Proofs.YtodalfobehddmaaDoorW.PrintWords Go.Proofs.YtodalfobehddmaaDoorW.PrintLast Go.Proofs.YtodalfobehddmaaDoor.Mx
attribute [local go_sem] max2_int min2_int max_two min_two max_three min_three   -- for this text's walks alone
open Go.Proofs.YtodalfobehddmaaDoor.Z
end Go.Proofs.YtodalfobehddmaaDoor.Y
namespace Go.Proofs.YtodalfobehddmaaDoor.Y
open Go.RowKit Go.Proofs.YtodalfobehddmaaDoorW.PrintWords Go.Proofs.YtodalfobehddmaaDoorW.PrintLast Go.Proofs.YtodalfobehddmaaDoor.Mx
attribute [local go_sem] max2_int min2_int max_two min_two max_three min_three   -- for this text's walks alone
open Go.Proofs.YtodalfobehddmaaDoor.Z
theorem eqA31 (d : Nat) (w : World) (x0 y0 : Int) (x1 y1 : Int) :
    (Op.equalIn (d + 2) 31 (.agg #[.int .i64 x0, .int .i64 x1]) (.agg #[.int .i64 y0, .int .i64 y1])).run Tryd.prog w = .ok (x0 == y0 && (x1 == y1)) w := by
  refine eqA_of Tryd.underlying31 (by kernel_rfl) ?_
  refine eqf_cons (by rfl) (by go_simp; rfl) (by go_simp; rfl) (by go_simp) ?_
  exact eqf_last (by rfl) (by go_simp; rfl) (by go_simp; rfl) (by go_simp)
end Go.Proofs.YtodalfobehddmaaDoor.Y
namespace Go.Proofs.YtodalfobehddmaaDoor.Y
open Go.RowKit Go.Proofs.YtodalfobehddmaaDoorW.PrintWords Go.Proofs.YtodalfobehddmaaDoorW.PrintLast Go.Proofs.YtodalfobehddmaaDoor.Mx
attribute [local go_sem] max2_int min2_int max_two min_two max_three min_three   -- for this text's walks alone
open Go.Proofs.YtodalfobehddmaaDoor.Z
attribute [local go_sem high] eqA31
mutual
def epactlaw11_ZicWords.j0 : Nat → ByteArray → ByteArray → Int → Bool → List ByteArray → Bool → Option (Bool)
  | 0, _, _, _, _, _, _ => none
  | k + 1, x0, x1, x2, x7, x8, x39 => if x39 = true then (some x7) else (epactlaw11_ZicWords.l0 k x0 x1 x2 x7 x8 0)
def epactlaw11_ZicWords.l0 : Nat → ByteArray → ByteArray → Int → Bool → List ByteArray → Int → Option (Bool)
  | 0, _, _, _, _, _, _ => none
  | k + 1, x0, x1, x2, x7, x8, x9 => if x9 < (x1.size : Int) then (if 0 ≤ x9 then (if (bt x1 x9) = 10 then (some x7) else (epactlaw11_ZicWords.l0 k x0 x1 x2 x7 x8 (wrap64 (x9 + 1)))) else (none)) else (epactlaw11_ZicWords.l1 k x0 x1 x2 x7 x8 (⟨#[]⟩ : ByteArray) 0)
def epactlaw11_ZicWords.l1 : Nat → ByteArray → ByteArray → Int → Bool → List ByteArray → ByteArray → Int → Option (Bool)
  | 0, _, _, _, _, _, _, _ => none
  | k + 1, x0, x1, x2, x7, x8, x10, x11 => if x11 ≤ (x8.length : Int) then (if x11 = x2 then (if x10.size + 2 ≤ 9223372036854775807 then (if (x10 ++ (⟨#[32, 35]⟩ : ByteArray)).size + x1.size ≤ 9223372036854775807 then (if ((x10 ++ (⟨#[32, 35]⟩ : ByteArray)) ++ x1).size + 1 ≤ 9223372036854775807 then (epactlaw11_ZicWords.j3 k x0 x1 x2 x7 x8 (((x10 ++ (⟨#[32, 35]⟩ : ByteArray)) ++ x1) ++ (⟨#[10]⟩ : ByteArray)) x11) else (none)) else (none)) else (none)) else (epactlaw11_ZicWords.j3 k x0 x1 x2 x7 x8 x10 x11)) else (epactlaw11_ZicWords.l3 k x0 x2 x7 x10 0)
def epactlaw11_ZicWords.j3 : Nat → ByteArray → ByteArray → Int → Bool → List ByteArray → ByteArray → Int → Option (Bool)
  | 0, _, _, _, _, _, _, _ => none
  | k + 1, x0, x1, x2, x7, x8, x10, x11 => if x11 < (x8.length : Int) then (if 0 ≤ x11 then ((lines_Words.f (rdOf ByteArray.empty x8 x11)).bind fun t139 => (epactlaw11_ZicWords.l2 k x0 x1 x2 x7 x8 x10 x11 t139 0)) else (none)) else (epactlaw11_ZicWords.l1 k x0 x1 x2 x7 x8 x10 (wrap64 (x11 + 1)))
def epactlaw11_ZicWords.l2 : Nat → ByteArray → ByteArray → Int → Bool → List ByteArray → ByteArray → Int → List ByteArray → Int → Option (Bool)
  | 0, _, _, _, _, _, _, _, _, _ => none
  | k + 1, x0, x1, x2, x7, x8, x10, x11, x12, x13 => if x13 < (x12.length : Int) then (if x10.size + 2 ≤ 9223372036854775807 then (if 0 ≤ x13 then ((lines_Fold.f (rdOf ByteArray.empty x12 x13)).bind fun t143 => (if (x10 ++ (⟨#[9, 32]⟩ : ByteArray)).size + t143.size ≤ 9223372036854775807 then (epactlaw11_ZicWords.l2 k x0 x1 x2 x7 x8 ((x10 ++ (⟨#[9, 32]⟩ : ByteArray)) ++ t143) x11 x12 (wrap64 (x13 + 1))) else (none))) else (none)) else (none)) else (if x10.size + 1 ≤ 9223372036854775807 then (epactlaw11_ZicWords.l1 k x0 x1 x2 x7 x8 (x10 ++ (⟨#[10]⟩ : ByteArray)) (wrap64 (x11 + 1))) else (none))
def epactlaw11_ZicWords.l3 : Nat → ByteArray → Int → Bool → ByteArray → Int → Option (Bool)
  | 0, _, _, _, _, _ => none
  | k + 1, x0, x2, x7, x10, x14 => if x14 < (x0.size : Int) then (if 0 ≤ x14 then (if (bt x0 x14) = 35 then (some x7) else (if (bt x0 x14) = 13 then (some x7) else (epactlaw11_ZicWords.l3 k x0 x2 x7 x10 (wrap64 (x14 + 1))))) else (none)) else ((zic_Parse.f x0).bind fun bt144 => ((zic_Parse.f x10).bind fun bt153 => (if bt144.2.2.2.1 > x2 then (if x7 = true then ((epactref09_Same.f bt144.1 bt144.2.1 bt144.2.2.1 bt153.1 bt153.2.1 bt153.2.2.1).bind fun t162 => (if t162 = true then (some ((wrap64 (bt144.2.2.2.1 + 1)) == bt153.2.2.2.1 && (bt144.2.2.2.2 == bt153.2.2.2.2))) else (some false))) else (some false)) else (if x7 = true then ((epactref09_Same.f bt144.1 bt144.2.1 bt144.2.2.1 bt153.1 bt153.2.1 bt153.2.2.1).bind fun t163 => (if t163 = true then (some (bt144.2.2.2.1 == bt153.2.2.2.1 && (bt144.2.2.2.2 == bt153.2.2.2.2))) else (some false))) else (some false)))))
end
def epactlaw11_ZicWords.f (k : Nat) (a0 : ByteArray) (a1 : ByteArray) (a2 : Int) : Option (Bool) := (epactlaw11_small.f).bind fun t134 => ((lines_Split.f a0).bind fun t135 => (if (a0.size : Int) > 2000 then (epactlaw11_ZicWords.j0 k a0 a1 a2 t134 t135 true) else (if (a1.size : Int) > 100 then (epactlaw11_ZicWords.j0 k a0 a1 a2 t134 t135 true) else (if a2 < 0 then (epactlaw11_ZicWords.j0 k a0 a1 a2 t134 t135 true) else (epactlaw11_ZicWords.j0 k a0 a1 a2 t134 t135 (decide (a2 > (t135.length : Int))))))))
theorem epactlaw11_ZicWords.mono_l : ∀ k, (∀ y0 y1 y2 y3 y4 y5, LeO (epactlaw11_ZicWords.j0 k y0 y1 y2 y3 y4 y5) (epactlaw11_ZicWords.j0 (k + 1) y0 y1 y2 y3 y4 y5)) ∧ (∀ y0 y1 y2 y3 y4 y5, LeO (epactlaw11_ZicWords.l0 k y0 y1 y2 y3 y4 y5) (epactlaw11_ZicWords.l0 (k + 1) y0 y1 y2 y3 y4 y5)) ∧ (∀ y0 y1 y2 y3 y4 y5 y6, LeO (epactlaw11_ZicWords.l1 k y0 y1 y2 y3 y4 y5 y6) (epactlaw11_ZicWords.l1 (k + 1) y0 y1 y2 y3 y4 y5 y6)) ∧ (∀ y0 y1 y2 y3 y4 y5 y6, LeO (epactlaw11_ZicWords.j3 k y0 y1 y2 y3 y4 y5 y6) (epactlaw11_ZicWords.j3 (k + 1) y0 y1 y2 y3 y4 y5 y6)) ∧ (∀ y0 y1 y2 y3 y4 y5 y6 y7 y8, LeO (epactlaw11_ZicWords.l2 k y0 y1 y2 y3 y4 y5 y6 y7 y8) (epactlaw11_ZicWords.l2 (k + 1) y0 y1 y2 y3 y4 y5 y6 y7 y8)) ∧ (∀ y0 y1 y2 y3 y4, LeO (epactlaw11_ZicWords.l3 k y0 y1 y2 y3 y4) (epactlaw11_ZicWords.l3 (k + 1) y0 y1 y2 y3 y4))
  | 0 => ⟨fun _ _ _ _ _ _ r h => by simp [epactlaw11_ZicWords.j0] at h, fun _ _ _ _ _ _ r h => by simp [epactlaw11_ZicWords.l0] at h, fun _ _ _ _ _ _ _ r h => by simp [epactlaw11_ZicWords.l1] at h, fun _ _ _ _ _ _ _ r h => by simp [epactlaw11_ZicWords.j3] at h, fun _ _ _ _ _ _ _ _ _ r h => by simp [epactlaw11_ZicWords.l2] at h, fun _ _ _ _ _ r h => by simp [epactlaw11_ZicWords.l3] at h⟩
  | k + 1 => by
    obtain ⟨ih0, ih1, ih2, ih3, ih4, ih5⟩ := epactlaw11_ZicWords.mono_l k
    refine ⟨?_, ?_, ?_, ?_, ?_, ?_⟩
    · intro y0 y1 y2 y3 y4 y5
      unfold epactlaw11_ZicWords.j0
      repeat' first
      | (with_reducible exact ih0 _ _ _ _ _ _)
      | (with_reducible exact ih1 _ _ _ _ _ _)
      | (with_reducible exact ih2 _ _ _ _ _ _ _)
      | (with_reducible exact ih3 _ _ _ _ _ _ _)
      | (with_reducible exact ih4 _ _ _ _ _ _ _ _ _)
      | (with_reducible exact ih5 _ _ _ _ _)
      | (with_reducible exact LeO.refl _)
      | (with_reducible exact LeO.none _)
      | (with_reducible refine LeO.ite ?_ ?_)
      | (with_reducible refine LeO.bind ?_ (fun _ => ?_))
      | exact ih0 _ _ _ _ _ _
      | exact ih1 _ _ _ _ _ _
      | exact ih2 _ _ _ _ _ _ _
      | exact ih3 _ _ _ _ _ _ _
      | exact ih4 _ _ _ _ _ _ _ _ _
      | exact ih5 _ _ _ _ _
      | exact LeO.none _
      | refine LeO.ite ?_ ?_
      | refine LeO.bind ?_ (fun _ => ?_)
    · intro y0 y1 y2 y3 y4 y5
      unfold epactlaw11_ZicWords.l0
      repeat' first
      | (with_reducible exact ih0 _ _ _ _ _ _)
      | (with_reducible exact ih1 _ _ _ _ _ _)
      | (with_reducible exact ih2 _ _ _ _ _ _ _)
      | (with_reducible exact ih3 _ _ _ _ _ _ _)
      | (with_reducible exact ih4 _ _ _ _ _ _ _ _ _)
      | (with_reducible exact ih5 _ _ _ _ _)
      | (with_reducible exact LeO.refl _)
      | (with_reducible exact LeO.none _)
      | (with_reducible refine LeO.ite ?_ ?_)
      | (with_reducible refine LeO.bind ?_ (fun _ => ?_))
      | exact ih0 _ _ _ _ _ _
      | exact ih1 _ _ _ _ _ _
      | exact ih2 _ _ _ _ _ _ _
      | exact ih3 _ _ _ _ _ _ _
      | exact ih4 _ _ _ _ _ _ _ _ _
      | exact ih5 _ _ _ _ _
      | exact LeO.none _
      | refine LeO.ite ?_ ?_
      | refine LeO.bind ?_ (fun _ => ?_)
    · intro y0 y1 y2 y3 y4 y5 y6
      unfold epactlaw11_ZicWords.l1
      repeat' first
      | (with_reducible exact ih0 _ _ _ _ _ _)
      | (with_reducible exact ih1 _ _ _ _ _ _)
      | (with_reducible exact ih2 _ _ _ _ _ _ _)
      | (with_reducible exact ih3 _ _ _ _ _ _ _)
      | (with_reducible exact ih4 _ _ _ _ _ _ _ _ _)
      | (with_reducible exact ih5 _ _ _ _ _)
      | (with_reducible exact LeO.refl _)
      | (with_reducible exact LeO.none _)
      | (with_reducible refine LeO.ite ?_ ?_)
      | (with_reducible refine LeO.bind ?_ (fun _ => ?_))
      | exact ih0 _ _ _ _ _ _
      | exact ih1 _ _ _ _ _ _
      | exact ih2 _ _ _ _ _ _ _
      | exact ih3 _ _ _ _ _ _ _
      | exact ih4 _ _ _ _ _ _ _ _ _
      | exact ih5 _ _ _ _ _
      | exact LeO.none _
      | refine LeO.ite ?_ ?_
      | refine LeO.bind ?_ (fun _ => ?_)
    · intro y0 y1 y2 y3 y4 y5 y6
      unfold epactlaw11_ZicWords.j3
      repeat' first
      | (with_reducible exact ih0 _ _ _ _ _ _)
      | (with_reducible exact ih1 _ _ _ _ _ _)
      | (with_reducible exact ih2 _ _ _ _ _ _ _)
      | (with_reducible exact ih3 _ _ _ _ _ _ _)
      | (with_reducible exact ih4 _ _ _ _ _ _ _ _ _)
      | (with_reducible exact ih5 _ _ _ _ _)
      | (with_reducible exact LeO.refl _)
      | (with_reducible exact LeO.none _)
      | (with_reducible refine LeO.ite ?_ ?_)
      | (with_reducible refine LeO.bind ?_ (fun _ => ?_))
      | exact ih0 _ _ _ _ _ _
      | exact ih1 _ _ _ _ _ _
      | exact ih2 _ _ _ _ _ _ _
      | exact ih3 _ _ _ _ _ _ _
      | exact ih4 _ _ _ _ _ _ _ _ _
      | exact ih5 _ _ _ _ _
      | exact LeO.none _
      | refine LeO.ite ?_ ?_
      | refine LeO.bind ?_ (fun _ => ?_)
    · intro y0 y1 y2 y3 y4 y5 y6 y7 y8
      unfold epactlaw11_ZicWords.l2
      repeat' first
      | (with_reducible exact ih0 _ _ _ _ _ _)
      | (with_reducible exact ih1 _ _ _ _ _ _)
      | (with_reducible exact ih2 _ _ _ _ _ _ _)
      | (with_reducible exact ih3 _ _ _ _ _ _ _)
      | (with_reducible exact ih4 _ _ _ _ _ _ _ _ _)
      | (with_reducible exact ih5 _ _ _ _ _)
      | (with_reducible exact LeO.refl _)
      | (with_reducible exact LeO.none _)
      | (with_reducible refine LeO.ite ?_ ?_)
      | (with_reducible refine LeO.bind ?_ (fun _ => ?_))
      | exact ih0 _ _ _ _ _ _
      | exact ih1 _ _ _ _ _ _
      | exact ih2 _ _ _ _ _ _ _
      | exact ih3 _ _ _ _ _ _ _
      | exact ih4 _ _ _ _ _ _ _ _ _
      | exact ih5 _ _ _ _ _
      | exact LeO.none _
      | refine LeO.ite ?_ ?_
      | refine LeO.bind ?_ (fun _ => ?_)
    · intro y0 y1 y2 y3 y4
      unfold epactlaw11_ZicWords.l3
      repeat' first
      | (with_reducible exact ih0 _ _ _ _ _ _)
      | (with_reducible exact ih1 _ _ _ _ _ _)
      | (with_reducible exact ih2 _ _ _ _ _ _ _)
      | (with_reducible exact ih3 _ _ _ _ _ _ _)
      | (with_reducible exact ih4 _ _ _ _ _ _ _ _ _)
      | (with_reducible exact ih5 _ _ _ _ _)
      | (with_reducible exact LeO.refl _)
      | (with_reducible exact LeO.none _)
      | (with_reducible refine LeO.ite ?_ ?_)
      | (with_reducible refine LeO.bind ?_ (fun _ => ?_))
      | exact ih0 _ _ _ _ _ _
      | exact ih1 _ _ _ _ _ _
      | exact ih2 _ _ _ _ _ _ _
      | exact ih3 _ _ _ _ _ _ _
      | exact ih4 _ _ _ _ _ _ _ _ _
      | exact ih5 _ _ _ _ _
      | exact LeO.none _
      | refine LeO.ite ?_ ?_
      | refine LeO.bind ?_ (fun _ => ?_)
theorem epactlaw11_ZicWords.mono : ∀ a0 a1 a2 k, LeO (epactlaw11_ZicWords.f k a0 a1 a2) (epactlaw11_ZicWords.f (k + 1) a0 a1 a2) := by
  intro a0 a1 a2 k
  obtain ⟨ih0, ih1, ih2, ih3, ih4, ih5⟩ := epactlaw11_ZicWords.mono_l k
  unfold epactlaw11_ZicWords.f
  repeat' first
      | (with_reducible exact ih0 _ _ _ _ _ _)
      | (with_reducible exact ih1 _ _ _ _ _ _)
      | (with_reducible exact ih2 _ _ _ _ _ _ _)
      | (with_reducible exact ih3 _ _ _ _ _ _ _)
      | (with_reducible exact ih4 _ _ _ _ _ _ _ _ _)
      | (with_reducible exact ih5 _ _ _ _ _)
      | (with_reducible exact LeO.refl _)
      | (with_reducible exact LeO.none _)
      | (with_reducible refine LeO.ite ?_ ?_)
      | (with_reducible refine LeO.bind ?_ (fun _ => ?_))
      | exact ih0 _ _ _ _ _ _
      | exact ih1 _ _ _ _ _ _
      | exact ih2 _ _ _ _ _ _ _
      | exact ih3 _ _ _ _ _ _ _
      | exact ih4 _ _ _ _ _ _ _ _ _
      | exact ih5 _ _ _ _ _
      | exact LeO.none _
      | refine LeO.ite ?_ ?_
      | refine LeO.bind ?_ (fun _ => ?_)
set_option maxHeartbeats 8000000 in
set_option maxRecDepth 100000 in
theorem epactlaw11_ZicWords.calls (k : Nat) (a0 : ByteArray) (a1 : ByteArray) (a2 : Int) (r : Bool) (w : World) (hr_ : Aside0 (r = true)) (h : epactlaw11_ZicWords.f k a0 a1 a2 = some r) (hG : Gl w) :
    Calls Tryd.prog 5 #[.string a0, .string a1, .int .i64 a2] w fun e w' => e = .returned (.bool r) ∧ Below w.heap.size w w' := by
  have HG := Aside0.mk hG
  clear hG
  have hu24 := Tryd.underlying24
  have hu31 := Tryd.underlying31
  have HB := Aside0.mk (Below.refl w.heap.size w)
  have H : ((epactlaw11_small.f).bind fun t134 => ((lines_Split.f a0).bind fun t135 => (if (a0.size : Int) > 2000 then (epactlaw11_ZicWords.j0 k a0 a1 a2 t134 t135 true) else (if (a1.size : Int) > 100 then (epactlaw11_ZicWords.j0 k a0 a1 a2 t134 t135 true) else (if a2 < 0 then (epactlaw11_ZicWords.j0 k a0 a1 a2 t134 t135 true) else (epactlaw11_ZicWords.j0 k a0 a1 a2 t134 t135 (decide (a2 > (t135.length : Int))))))))) = some r := h
  clear h
  replace H := Option.bind_eq_some_iff.mp H
  obtain ⟨t134, A40, H⟩ := H
  replace H : ((lines_Split.f a0).bind fun t135 => (if (a0.size : Int) > 2000 then (epactlaw11_ZicWords.j0 k a0 a1 a2 t134 t135 true) else (if (a1.size : Int) > 100 then (epactlaw11_ZicWords.j0 k a0 a1 a2 t134 t135 true) else (if a2 < 0 then (epactlaw11_ZicWords.j0 k a0 a1 a2 t134 t135 true) else (epactlaw11_ZicWords.j0 k a0 a1 a2 t134 t135 (decide (a2 > (t135.length : Int)))))))) = some r := H
  have A4 := Aside0.mk A40
  clear A40
  replace H := Option.bind_eq_some_iff.mp H
  obtain ⟨t135, A50, H⟩ := H
  replace H : (if (a0.size : Int) > 2000 then (epactlaw11_ZicWords.j0 k a0 a1 a2 t134 t135 true) else (if (a1.size : Int) > 100 then (epactlaw11_ZicWords.j0 k a0 a1 a2 t134 t135 true) else (if a2 < 0 then (epactlaw11_ZicWords.j0 k a0 a1 a2 t134 t135 true) else (epactlaw11_ZicWords.j0 k a0 a1 a2 t134 t135 (decide (a2 > (t135.length : Int))))))) = some r := H
  have A5 := Aside0.mk A50
  clear A50
  have HC6 := Aside0.mk H
  clear H
  go_enter Tryd.func5, Tryd.ntmps5
  go_upto_region 3 with (first | ((with_reducible refine gate_callee (f := 11) rfl ?_); refine goesL_ (some 19) rfl rfl Tryd.func11 (by kernel_rfl) rfl #[] rfl (by (try simp only [List.map_toArray, List.map_cons, List.map_nil]); first | done | rfl | (simp only [List.length_drop, List.length_take]; rfl)) ?_; (with_reducible refine (epactlaw11_small.calls  t134 _ A4.out (hG := by exact gl_below HG.out (by repeat (first | (with_reducible first | exact HB.out | apply below_alloc | apply pw_below_drewN | apply below_drew1 | refine below_set ?_ (Aside0.out (by with_reducible assumption))) | exact HB.out)))).mono ?_); rintro e w7 ⟨rfl, hb⟩; refine ⟨_, rfl, ?_⟩; have n0_ := Aside0.mk (below_step (by repeat (first | (with_reducible first | exact HB.out | apply below_alloc | apply pw_below_drewN | apply below_drew1) | exact HB.out)) hb); clear HB; have HB := n0_; clear n0_; (try clear hb); (try clear hb2); (try clear hk); (try clear hi)) | ((with_reducible refine gate_callee (f := 17) rfl ?_); refine goesL_ (some 21) rfl rfl Tryd.func17 (by kernel_rfl) rfl #[.string a0] rfl (by (try simp only [List.map_toArray, List.map_cons, List.map_nil]); first | done | rfl | (simp only [List.length_drop, List.length_take]; rfl)) ?_; (with_reducible refine (lines_Split.calls a0 t135 _ A5.out).mono ?_); rintro e w8 ⟨v136, rfl, ho0, hb⟩; refine ⟨_, rfl, ?_⟩; have n0_ := Aside0.mk (Kd.R_lower ho0 (below_size (by repeat (first | (with_reducible first | exact HB.out | apply below_alloc | apply pw_below_drewN | apply below_drew1) | exact HB.out)))); have n1_ := Aside0.mk (below_step (by repeat (first | (with_reducible first | exact HB.out | apply below_alloc | apply pw_below_drewN | apply below_drew1) | exact HB.out)) hb); clear HB; have HO137 := n0_; have HB := n1_; clear n0_ n1_; (try clear hb); (try clear hb2); (try clear hk); (try clear hi); (try clear ho0)))
  (try simp only [Act.put, List.setIfInBounds_toArray, List.set_cons_zero, List.set_cons_succ])
  go_cut [39] (fun v39 wc => ∃ (kq : Nat) (x39_5 : Bool), v39 = .bool x39_5 ∧ Aside0 (epactlaw11_ZicWords.j0 kq a0 a1 a2 t134 t135 x39_5 = some r) ∧ Aside0 (kq ≤ k) ∧ Aside0 (Kd.R Kd.string 9 wc w.heap.size (fun _ => True) v136 t135) ∧ Aside0 (Below w.heap.size w wc))
  case first =>
    have H := HC6.out
    clear HC6
    by_cases c9 : (a0.size : Int) > 2000
    · rw [if_pos c9] at H
      have c9b0 : decide (2000 < (a0.size : Int)) = true := decide_eq_true c9
      have c9b1 : decide (2000 < a0.size) = true := decide_eq_true (by omega)
      clear c9
      (first | rw [c9b0] | (simp only [i64_w, i32_w]; rw [c9b0]) | skip)
      have H' := Aside0.mk H
      clear H
      go_wp2
      go_meet
      case rel => exact ⟨_, (true), (by first | rfl | (simp; done) | (simp [*]; done)), H', ⟨by first | omega | exact Nat.le_refl _⟩, ⟨by (with_reducible repeat (first | apply Kd.R_alloc | apply Kd.R_drewN | apply Kd.R_drew)); exact HO137.out⟩, ⟨by repeat (first | (with_reducible first | exact HB.out | apply below_alloc | apply pw_below_drewN | apply below_drew1) | exact HB.out)⟩⟩
    · rw [if_neg c9] at H
      have c9b0 : decide (2000 < (a0.size : Int)) = false := decide_eq_false c9
      have c9b1 : decide (2000 < a0.size) = false := decide_eq_false (by omega)
      clear c9
      (first | rw [c9b0] | (simp only [i64_w, i32_w]; rw [c9b0]) | skip)
      by_cases c10 : (a1.size : Int) > 100
      · rw [if_pos c10] at H
        have c10b0 : decide (100 < (a1.size : Int)) = true := decide_eq_true c10
        have c10b1 : decide (100 < a1.size) = true := decide_eq_true (by omega)
        clear c10
        have H' := Aside0.mk H
        clear H
        go_wp2
        go_meet
        case rel => exact ⟨_, (true), (by first | rfl | (simp; done) | (simp [*]; done)), H', ⟨by first | omega | exact Nat.le_refl _⟩, ⟨by (with_reducible repeat (first | apply Kd.R_alloc | apply Kd.R_drewN | apply Kd.R_drew)); exact HO137.out⟩, ⟨by repeat (first | (with_reducible first | exact HB.out | apply below_alloc | apply pw_below_drewN | apply below_drew1) | exact HB.out)⟩⟩
      · rw [if_neg c10] at H
        have c10b0 : decide (100 < (a1.size : Int)) = false := decide_eq_false c10
        have c10b1 : decide (100 < a1.size) = false := decide_eq_false (by omega)
        clear c10
        by_cases c11 : a2 < 0
        · rw [if_pos c11] at H
          have c11b0 : decide (a2 < 0) = true := decide_eq_true c11
          clear c11
          have H' := Aside0.mk H
          clear H
          go_wp2
          go_meet
          case rel => exact ⟨_, (true), (by first | rfl | (simp; done) | (simp [*]; done)), H', ⟨by first | omega | exact Nat.le_refl _⟩, ⟨by (with_reducible repeat (first | apply Kd.R_alloc | apply Kd.R_drewN | apply Kd.R_drew)); exact HO137.out⟩, ⟨by repeat (first | (with_reducible first | exact HB.out | apply below_alloc | apply pw_below_drewN | apply below_drew1) | exact HB.out)⟩⟩
        · rw [if_neg c11] at H
          have c11b0 : decide (a2 < 0) = false := decide_eq_false c11
          clear c11
          have H' := Aside0.mk H
          clear H
          obtain ⟨Ao12, co12, eo12⟩ := Kd.R_slice HO137.out
          subst eo12
          go_wp2
          go_meet
          case rel => exact ⟨_, (decide (a2 > (t135.length : Int))), (by first | rfl | (simp; done) | (simp [*]; done)), H', ⟨by first | omega | exact Nat.le_refl _⟩, ⟨by (with_reducible repeat (first | apply Kd.R_alloc | apply Kd.R_drewN | apply Kd.R_drew)); exact HO137.out⟩, ⟨by repeat (first | (with_reducible first | exact HB.out | apply below_alloc | apply pw_below_drewN | apply below_drew1) | exact HB.out)⟩⟩
  case rest =>
    clear HC6
    try clear c1
    try clear p2
    try clear c5
    try clear c9
    try clear c9b0
    try clear c9b1
    try clear c10
    try clear c10b0
    try clear c10b1
    try clear c11
    try clear c11b0
    obtain ⟨kq, x39_5, rfl, HA, HJ5, HO_8, HB⟩ := hcut
    cases kq with
    | zero => exact absurd HA.out (by simp [epactlaw11_ZicWords.j0])
    | succ kj5 =>
      have H := HA.out
      clear HA
      simp only [epactlaw11_ZicWords.j0] at H
      by_cases c13 : x39_5 = true
      · subst c13
        have H1 : (some t134) = some r := by rw [if_pos rfl] at H; exact H
        clear H
        have H := H1
        clear H1
        obtain rfl := Option.some.inj H
        go_wp2
        go_ret
        exact ⟨by first | rfl | (simp [errW_none, errW_some] <;> rfl) | (simp [*, errW_none, errW_some] <;> rfl), by repeat (first | (with_reducible first | exact HB.out | apply below_alloc | apply pw_below_drewN | apply below_drew1) | exact HB.out)⟩
      · replace c13 := Bool.eq_false_iff.mpr c13
        subst c13
        have H1 : (epactlaw11_ZicWords.l0 kj5 a0 a1 a2 t134 t135 0) = some r := by rw [if_neg (show ¬ (false = true) by decide)] at H; exact H
        clear H
        have H := H1
        clear H1
        have H' := Aside0.mk H
        clear H
        go_wp2
        go_loopg [9] kj5 (fun kq v9 w' => ∃ (x9_2 : Int), v9 = .int .i64 x9_2 ∧ Aside0 (epactlaw11_ZicWords.l0 kq a0 a1 a2 t134 t135 x9_2 = some r) ∧ Aside0 (kq ≤ kj5) ∧ Aside0 (Kd.R Kd.string 9 w' w.heap.size (fun _ => True) v136 t135) ∧ Aside0 (Below w.heap.size w w'))
        case atStart => exact ⟨(0), (by first | rfl | (simp; done) | (simp [*]; done)), H', ⟨Nat.le_refl _⟩, ⟨by (with_reducible repeat (first | apply Kd.R_alloc | apply Kd.R_drewN | apply Kd.R_drew)); exact HO_8.out⟩, ⟨by repeat (first | (with_reducible first | exact HB.out | apply below_alloc | apply pw_below_drewN | apply below_drew1) | exact HB.out)⟩⟩
        case round =>
          clear H'
          try clear c1
          try clear p2
          try clear c5
          try clear c9
          try clear c9b0
          try clear c9b1
          try clear c10
          try clear c10b0
          try clear c10b1
          try clear c11
          try clear c11b0
          try clear c13
          try clear p2
          obtain ⟨x9_2, rfl, HA, HK2, HO_8, HB⟩ := hrel
          cases gk with
          | zero => exact absurd HA.out (by simp [epactlaw11_ZicWords.l0])
          | succ k2 =>
            have H := HA.out
            clear HA
            simp only [epactlaw11_ZicWords.l0] at H
            by_cases c14 : x9_2 < (a1.size : Int)
            · rw [if_pos c14] at H
              have c14b0 : decide (x9_2 < (a1.size : Int)) = true := decide_eq_true c14
              clear c14
              by_cases c15 : 0 ≤ x9_2
              · rw [if_pos c15] at H
                have c15b0 : decide (0 ≤ x9_2) = true := decide_eq_true c15
                clear c15
                by_cases c17 : (bt a1 x9_2) = 10
                · rw [if_pos c17] at H
                  have c17b0 : ((bt a1 x9_2) == 10) = true := beq_iff_eq.mpr c17
                  have c17b1 : ((bt a1 x9_2) != 10) = false := bne_eq_false_iff_eq.mpr c17
                  clear c17
                  obtain rfl := Option.some.inj H
                  have p16 : 0 ≤ (x9_2 : Int) := of_decide_eq_true (by first | (with_reducible assumption) | assumption)
                  have q16 : x9_2 < (a1.size : Int) := of_decide_eq_true (by first | (with_reducible assumption) | assumption)
                  have hx16 := bt_at a1 x9_2
                  replace p16 := eq_true p16
                  replace q16 := eq_true q16
                  go_wp2
                  go_ret
                  exact ⟨by first | rfl | (simp [errW_none, errW_some] <;> rfl) | (simp [*, errW_none, errW_some] <;> rfl), by repeat (first | (with_reducible first | exact HB.out | apply below_alloc | apply pw_below_drewN | apply below_drew1) | exact HB.out)⟩
                · rw [if_neg c17] at H
                  have c17b0 : ((bt a1 x9_2) == 10) = false := beq_eq_false_iff_ne.mpr c17
                  have c17b1 : ((bt a1 x9_2) != 10) = true := bne_iff_ne.mpr c17
                  have H' := Aside0.mk H
                  clear H
                  have p16 : 0 ≤ (x9_2 : Int) := of_decide_eq_true (by first | (with_reducible assumption) | assumption)
                  have q16 : x9_2 < (a1.size : Int) := of_decide_eq_true (by first | (with_reducible assumption) | assumption)
                  have hx16 := bt_at a1 x9_2
                  replace p16 := eq_true p16
                  replace q16 := eq_true q16
                  go_wp2
                  go_roundg k2
                  case measure => have := HJ5.out; have := HK2.out; omega
                  case rel => exact ⟨(wrap64 (x9_2 + 1)), (by first | rfl | (simp; done) | (simp [*]; done)), H', ⟨by have := HJ5.out; have := HK2.out; omega⟩, ⟨by (with_reducible repeat (first | apply Kd.R_alloc | apply Kd.R_drewN | apply Kd.R_drew)); exact HO_8.out⟩, ⟨by repeat (first | (with_reducible first | exact HB.out | apply below_alloc | apply pw_below_drewN | apply below_drew1) | exact HB.out)⟩⟩
              · rw [if_neg c15] at H
                exact absurd H (by simp)
            · rw [if_neg c14] at H
              have c14b0 : decide (x9_2 < (a1.size : Int)) = false := decide_eq_false c14
              clear c14
              have H' := Aside0.mk H
              clear H
              go_wp2
              go_loopg [10, 11] k2 (fun kq v10 v11 w' => ∃ (x10_3 : ByteArray) (x11_3 : Int), v10 = .string x10_3 ∧ v11 = .int .i64 x11_3 ∧ Aside0 (epactlaw11_ZicWords.l1 kq a0 a1 a2 t134 t135 x10_3 x11_3 = some r) ∧ Aside0 (kq ≤ k2) ∧ Aside0 (Kd.R Kd.string 9 w' w.heap.size (fun _ => True) v136 t135) ∧ Aside0 (Below w.heap.size w w'))
              case atStart => exact ⟨((⟨#[]⟩ : ByteArray)), (0), (by first | rfl | (simp; done) | (simp [*]; done)), (by first | rfl | (simp; done) | (simp [*]; done)), H', ⟨Nat.le_refl _⟩, ⟨by (with_reducible repeat (first | apply Kd.R_alloc | apply Kd.R_drewN | apply Kd.R_drew)); exact HO_8.out⟩, ⟨by repeat (first | (with_reducible first | exact HB.out | apply below_alloc | apply pw_below_drewN | apply below_drew1) | exact HB.out)⟩⟩
              case round =>
                clear H'
                try clear c1
                try clear p1
                try clear q1
                try clear hx1
                try clear p2
                try clear c5
                try clear p6
                try clear c9
                try clear c9b0
                try clear c9b1
                try clear c10
                try clear c10b0
                try clear c10b1
                try clear c11
                try clear c11b0
                try clear c13
                try clear c14
                try clear c14b0
                try clear c15
                try clear c15b0
                try clear p16
                try clear q16
                try clear hx16
                try clear c17
                try clear c17b0
                try clear c17b1
                try clear p16
                try clear p2
                try clear q16
                obtain ⟨x10_3, x11_3, rfl, rfl, HA, HK3, HO_8, HB⟩ := hrel
                cases gk with
                | zero => exact absurd HA.out (by simp [epactlaw11_ZicWords.l1])
                | succ k3 =>
                  have H := HA.out
                  clear HA
                  simp only [epactlaw11_ZicWords.l1] at H
                  by_cases c18 : x11_3 ≤ (t135.length : Int)
                  · rw [if_pos c18] at H
                    have c18b0 : decide (x11_3 ≤ (t135.length : Int)) = true := decide_eq_true c18
                    clear c18
                    have HC19 := Aside0.mk H
                    clear H
                    obtain ⟨Ao20, co20, eo20⟩ := Kd.R_slice HO_8.out
                    subst eo20
                    go_upto_if 60 with (fail)
                    go_cut [10] (fun v10 wc => ∃ (kq : Nat) (x10_18 : ByteArray), v10 = .string x10_18 ∧ Aside0 (epactlaw11_ZicWords.j3 kq a0 a1 a2 t134 t135 x10_18 x11_3 = some r) ∧ Aside0 (kq ≤ k3) ∧ Aside0 (Kd.R Kd.string 9 wc w.heap.size (fun _ => True) (.slice Ao20 t135.length co20) t135) ∧ Aside0 (Below w.heap.size w wc))
                    case first =>
                      have H := HC19.out
                      clear HC19
                      by_cases c21 : x11_3 = a2
                      · rw [if_pos c21] at H
                        have c21b0 : (x11_3 == a2) = true := beq_iff_eq.mpr c21
                        have c21b1 : (x11_3 != a2) = false := bne_eq_false_iff_eq.mpr c21
                        clear c21
                        (first | rw [c21b0] | (simp only [i64_w, i32_w]; rw [c21b0]) | skip)
                        by_cases c22 : x10_3.size + 2 ≤ 9223372036854775807
                        · rw [if_pos c22] at H
                          have c22b0 := eq_true c22
                          have c22b1 : decide (x10_3.size + 2 ≤ 9223372036854775807) = true := decide_eq_true c22
                          try have c22b2 : (9223372036854775807 < x10_3.size + 2) = False := eq_false (Nat.not_lt.2 c22)
                          by_cases c23 : (x10_3 ++ (⟨#[32, 35]⟩ : ByteArray)).size + a1.size ≤ 9223372036854775807
                          · rw [if_pos c23] at H
                            have c23b0 := eq_true c23
                            have c23b1 : decide ((x10_3 ++ (⟨#[32, 35]⟩ : ByteArray)).size + a1.size ≤ 9223372036854775807) = true := decide_eq_true c23
                            try have c23b2 : (9223372036854775807 < (x10_3 ++ (⟨#[32, 35]⟩ : ByteArray)).size + a1.size) = False := eq_false (Nat.not_lt.2 c23)
                            have c23b3 : (9223372036854775807 < x10_3.size + 2 + a1.size) = False := by have h_ := eq_false (Nat.not_lt.2 c23); simp only [ByteArray.size_append] at h_; exact h_
                            by_cases c24 : ((x10_3 ++ (⟨#[32, 35]⟩ : ByteArray)) ++ a1).size + 1 ≤ 9223372036854775807
                            · rw [if_pos c24] at H
                              have c24b0 := eq_true c24
                              have c24b1 : decide (((x10_3 ++ (⟨#[32, 35]⟩ : ByteArray)) ++ a1).size + 1 ≤ 9223372036854775807) = true := decide_eq_true c24
                              try have c24b2 : (9223372036854775807 < ((x10_3 ++ (⟨#[32, 35]⟩ : ByteArray)) ++ a1).size + 1) = False := eq_false (Nat.not_lt.2 c24)
                              have c24b3 : (9223372036854775807 < x10_3.size + 2 + a1.size + 1) = False := by have h_ := eq_false (Nat.not_lt.2 c24); simp only [ByteArray.size_append] at h_; exact h_
                              have H' := Aside0.mk H
                              clear H
                              go_wp2
                              go_meet
                              case rel => exact ⟨_, (((x10_3 ++ (⟨#[32, 35]⟩ : ByteArray)) ++ a1) ++ (⟨#[10]⟩ : ByteArray)), (by first | rfl | (simp; done) | (simp [*]; done)), H', ⟨by have := HJ5.out; have := HK2.out; have := HK3.out; first | omega | exact Nat.le_refl _⟩, ⟨by (with_reducible repeat (first | apply Kd.R_alloc | apply Kd.R_drewN | apply Kd.R_drew)); exact HO_8.out⟩, ⟨by repeat (first | (with_reducible first | exact HB.out | apply below_alloc | apply pw_below_drewN | apply below_drew1) | exact HB.out)⟩⟩
                            · rw [if_neg c24] at H
                              exact absurd H (by simp)
                          · rw [if_neg c23] at H
                            exact absurd H (by simp)
                        · rw [if_neg c22] at H
                          exact absurd H (by simp)
                      · rw [if_neg c21] at H
                        have c21b0 : (x11_3 == a2) = false := beq_eq_false_iff_ne.mpr c21
                        have c21b1 : (x11_3 != a2) = true := bne_iff_ne.mpr c21
                        (first | rw [c21b0] | (simp only [i64_w, i32_w]; rw [c21b0]) | skip)
                        have H' := Aside0.mk H
                        clear H
                        go_wp2
                        go_meet
                        case rel => exact ⟨_, (x10_3), (by first | rfl | (simp; done) | (simp [*]; done)), H', ⟨by have := HJ5.out; have := HK2.out; have := HK3.out; first | omega | exact Nat.le_refl _⟩, ⟨by (with_reducible repeat (first | apply Kd.R_alloc | apply Kd.R_drewN | apply Kd.R_drew)); exact HO_8.out⟩, ⟨by repeat (first | (with_reducible first | exact HB.out | apply below_alloc | apply pw_below_drewN | apply below_drew1) | exact HB.out)⟩⟩
                    case rest =>
                      clear HC19
                      try clear c1
                      try clear p1
                      try clear q1
                      try clear hx1
                      try clear c2
                      try clear p2
                      try clear c5
                      try clear p6
                      try clear c9
                      try clear c9b0
                      try clear c9b1
                      try clear c10
                      try clear c10b0
                      try clear c10b1
                      try clear c11
                      try clear c11b0
                      try clear c13
                      try clear c14
                      try clear c14b0
                      try clear c15
                      try clear c15b0
                      try clear p16
                      try clear q16
                      try clear hx16
                      try clear c17
                      try clear c17b0
                      try clear c17b1
                      try clear c18
                      try clear c18b0
                      try clear c21
                      try clear c21b0
                      try clear c21b1
                      try clear c22
                      try clear c22b0
                      try clear c22b1
                      try clear c22b2
                      try clear c23
                      try clear c23b0
                      try clear c23b1
                      try clear c23b2
                      try clear c24
                      try clear c24b0
                      try clear c24b1
                      try clear c24b2
                      try clear p1
                      try clear p16
                      try clear p2
                      try clear p6
                      try clear q1
                      try clear q16
                      obtain ⟨kq, x10_18, rfl, HA, HJ18, HO_8, HB⟩ := hcut
                      cases kq with
                      | zero => exact absurd HA.out (by simp [epactlaw11_ZicWords.j3])
                      | succ kj18 =>
                        have H := HA.out
                        clear HA
                        simp only [epactlaw11_ZicWords.j3] at H
                        by_cases c25 : x11_3 < (t135.length : Int)
                        · rw [if_pos c25] at H
                          have c25b0 : decide (x11_3 < (t135.length : Int)) = true := decide_eq_true c25
                          clear c25
                          by_cases c26 : 0 ≤ x11_3
                          · rw [if_pos c26] at H
                            have c26b0 : decide (0 ≤ x11_3) = true := decide_eq_true c26
                            clear c26
                            replace H := Option.bind_eq_some_iff.mp H
                            obtain ⟨t139, A270, H⟩ := H
                            replace H : (epactlaw11_ZicWords.l2 kj18 a0 a1 a2 t134 t135 x10_18 x11_3 t139 0) = some r := H
                            have A27 := Aside0.mk A270
                            clear A270
                            have H' := Aside0.mk H
                            clear H
                            have p138 : 0 ≤ (x11_3 : Int) := of_decide_eq_true (by first | (with_reducible assumption) | assumption)
                            have q138 : x11_3 < (t135.length : Int) := of_decide_eq_true (by first | (with_reducible assumption) | assumption)
                            obtain ⟨ad138, e138, hx138_0⟩ := Kd.at_string (Kd.R_reads' HO_8.out).2.2 x11_3 p138 q138
                            cases e138
                            replace p138 := eq_true p138
                            replace q138 := eq_true q138
                            go_wp2_with (first | ((with_reducible refine gate_callee (f := 18) rfl ?_); refine goesL_ (some 74) rfl rfl Tryd.func18 (by kernel_rfl) rfl #[.string (rdOf ByteArray.empty t135 x11_3)] rfl (by (try simp only [List.map_toArray, List.map_cons, List.map_nil]); first | done | rfl | (simp only [List.length_drop, List.length_take]; rfl)) ?_; (with_reducible refine (lines_Words.calls (rdOf ByteArray.empty t135 x11_3) t139 _ A27.out).mono ?_); rintro e w28 ⟨v140, rfl, ho0, hb⟩; refine ⟨_, rfl, ?_⟩; have n0_ := Aside0.mk (Kd.R_elder' (by (with_reducible repeat (first | apply Kd.R_alloc | apply Kd.R_drewN | apply Kd.R_drew)); exact HO_8.out) (Kd.R_base ho0) hb); have n1_ := Aside0.mk (Kd.R_lower (Kd.R_new' ho0 (Kd.R_lt (by (with_reducible repeat (first | apply Kd.R_alloc | apply Kd.R_drewN | apply Kd.R_drew)); exact HO_8.out))) (below_size (by repeat (first | (with_reducible first | exact HB.out | apply below_alloc | apply pw_below_drewN | apply below_drew1) | exact HB.out)))); have n2_ := Aside0.mk (below_step (by repeat (first | (with_reducible first | exact HB.out | apply below_alloc | apply pw_below_drewN | apply below_drew1) | exact HB.out)) hb); clear HO_8; clear HB; have HO_8 := n0_; have HO141 := n1_; have HB := n2_; clear n0_ n1_ n2_; (try clear hb); (try clear hb2); (try clear hk); (try clear hi); (try clear ho0)))
                            go_loopg [10, 13] kj18 (fun kq v10 v13 w' => ∃ (x10_5 : ByteArray) (x13_5 : Int), v10 = .string x10_5 ∧ v13 = .int .i64 x13_5 ∧ Aside0 (epactlaw11_ZicWords.l2 kq a0 a1 a2 t134 t135 x10_5 x11_3 t139 x13_5 = some r) ∧ Aside0 (kq ≤ kj18) ∧ Aside0 (Kd.R Kd.string 9 w' w.heap.size (fun k_ => some k_ ≠ (v140 : Value).ownBlock) (.slice (some ad138) t135.length co20) t135) ∧ Aside0 (Kd.R Kd.string 9 w' w.heap.size (fun k_ => some k_ ≠ ((.slice (some ad138) t135.length co20) : Value).ownBlock) v140 t139) ∧ Aside0 (Below w.heap.size w w'))
                            case atStart => exact ⟨(x10_18), (0), (by first | rfl | (simp; done) | (simp [*]; done)), (by first | rfl | (simp; done) | (simp [*]; done)), H', ⟨Nat.le_refl _⟩, ⟨by (with_reducible repeat (first | apply Kd.R_alloc | apply Kd.R_drewN | apply Kd.R_drew)); exact Kd.R_mono HO_8.out (fun _ hk => hk.2)⟩, ⟨by (with_reducible repeat (first | apply Kd.R_alloc | apply Kd.R_drewN | apply Kd.R_drew)); exact Kd.R_mono HO141.out (fun _ hk => hk.2)⟩, ⟨by repeat (first | (with_reducible first | exact HB.out | apply below_alloc | apply pw_below_drewN | apply below_drew1) | exact HB.out)⟩⟩
                            case round =>
                              clear H'
                              try clear c1
                              try clear p1
                              try clear q1
                              try clear hx1
                              try clear c2
                              try clear p2
                              try clear c5
                              try clear p6
                              try clear c9
                              try clear c9b0
                              try clear c9b1
                              try clear c10
                              try clear c10b0
                              try clear c10b1
                              try clear c11
                              try clear c11b0
                              try clear c13
                              try clear p13
                              try clear q13
                              try clear hx13
                              try clear c14
                              try clear c14b0
                              try clear c15
                              try clear c15b0
                              try clear p16
                              try clear q16
                              try clear hx16
                              try clear c17
                              try clear c17b0
                              try clear c17b1
                              try clear c18
                              try clear c18b0
                              try clear c21
                              try clear c21b0
                              try clear c21b1
                              try clear c22
                              try clear c22b0
                              try clear c22b1
                              try clear c22b2
                              try clear c23
                              try clear c23b0
                              try clear c23b1
                              try clear c23b2
                              try clear c24
                              try clear c24b0
                              try clear c24b1
                              try clear c24b2
                              try clear c25
                              try clear c25b0
                              try clear c26
                              try clear c26b0
                              try clear hx138_0
                              try clear p1
                              try clear p138
                              try clear p16
                              try clear p2
                              try clear p6
                              try clear q1
                              try clear q138
                              try clear q16
                              obtain ⟨x10_5, x13_5, rfl, rfl, HA, HK5, HO_8, HO_12, HB⟩ := hrel
                              cases gk with
                              | zero => exact absurd HA.out (by simp [epactlaw11_ZicWords.l2])
                              | succ k5 =>
                                have H := HA.out
                                clear HA
                                simp only [epactlaw11_ZicWords.l2] at H
                                by_cases c29 : x13_5 < (t139.length : Int)
                                · rw [if_pos c29] at H
                                  have c29b0 : decide (x13_5 < (t139.length : Int)) = true := decide_eq_true c29
                                  clear c29
                                  by_cases c30 : x10_5.size + 2 ≤ 9223372036854775807
                                  · rw [if_pos c30] at H
                                    have c30b0 := eq_true c30
                                    have c30b1 : decide (x10_5.size + 2 ≤ 9223372036854775807) = true := decide_eq_true c30
                                    try have c30b2 : (9223372036854775807 < x10_5.size + 2) = False := eq_false (Nat.not_lt.2 c30)
                                    by_cases c31 : 0 ≤ x13_5
                                    · rw [if_pos c31] at H
                                      have c31b0 : decide (0 ≤ x13_5) = true := decide_eq_true c31
                                      clear c31
                                      replace H := Option.bind_eq_some_iff.mp H
                                      obtain ⟨t143, A320, H⟩ := H
                                      replace H : (if (x10_5 ++ (⟨#[9, 32]⟩ : ByteArray)).size + t143.size ≤ 9223372036854775807 then (epactlaw11_ZicWords.l2 k5 a0 a1 a2 t134 t135 ((x10_5 ++ (⟨#[9, 32]⟩ : ByteArray)) ++ t143) x11_3 t139 (wrap64 (x13_5 + 1))) else (none)) = some r := H
                                      have A32 := Aside0.mk A320
                                      clear A320
                                      by_cases c33 : (x10_5 ++ (⟨#[9, 32]⟩ : ByteArray)).size + t143.size ≤ 9223372036854775807
                                      · rw [if_pos c33] at H
                                        have c33b0 := eq_true c33
                                        have c33b1 : decide ((x10_5 ++ (⟨#[9, 32]⟩ : ByteArray)).size + t143.size ≤ 9223372036854775807) = true := decide_eq_true c33
                                        try have c33b2 : (9223372036854775807 < (x10_5 ++ (⟨#[9, 32]⟩ : ByteArray)).size + t143.size) = False := eq_false (Nat.not_lt.2 c33)
                                        have c33b3 : (9223372036854775807 < x10_5.size + 2 + t143.size) = False := by have h_ := eq_false (Nat.not_lt.2 c33); simp only [ByteArray.size_append] at h_; exact h_
                                        have H' := Aside0.mk H
                                        clear H
                                        obtain ⟨Ao34, co34, eo34⟩ := Kd.R_slice HO_12.out
                                        subst eo34
                                        have p142 : 0 ≤ (x13_5 : Int) := of_decide_eq_true (by first | (with_reducible assumption) | assumption)
                                        have q142 : x13_5 < (t139.length : Int) := of_decide_eq_true (by first | (with_reducible assumption) | assumption)
                                        obtain ⟨ad142, e142, hx142_0⟩ := Kd.at_string (Kd.R_reads' HO_12.out).2.2 x13_5 p142 q142
                                        cases e142
                                        replace p142 := eq_true p142
                                        replace q142 := eq_true q142
                                        go_wp2_with (first | ((with_reducible refine gate_callee (f := 19) rfl ?_); refine goesL_ (some 87) rfl rfl Tryd.func19 (by kernel_rfl) rfl #[.string (rdOf ByteArray.empty t139 x13_5)] rfl (by (try simp only [List.map_toArray, List.map_cons, List.map_nil]); first | done | rfl | (simp only [List.length_drop, List.length_take]; rfl)) ?_; (with_reducible refine (lines_Fold.calls (rdOf ByteArray.empty t139 x13_5) t143 _ A32.out).mono ?_); rintro e w35 ⟨rfl, hb⟩; refine ⟨_, rfl, ?_⟩; have n0_ := Aside0.mk (Kd.R_below (by (with_reducible repeat (first | apply Kd.R_alloc | apply Kd.R_drewN | apply Kd.R_drew)); exact HO_8.out) hb); have n1_ := Aside0.mk (Kd.R_below (by (with_reducible repeat (first | apply Kd.R_alloc | apply Kd.R_drewN | apply Kd.R_drew)); exact HO_12.out) hb); have n2_ := Aside0.mk (below_step (by repeat (first | (with_reducible first | exact HB.out | apply below_alloc | apply pw_below_drewN | apply below_drew1) | exact HB.out)) hb); clear HO_8; clear HO_12; clear HB; have HO_8 := n0_; have HO_12 := n1_; have HB := n2_; clear n0_ n1_ n2_; (try clear hb); (try clear hb2); (try clear hk); (try clear hi)))
                                        go_roundg k5
                                        case measure => have := HJ5.out; have := HK2.out; have := HK3.out; have := HJ18.out; have := HK5.out; omega
                                        case rel => exact ⟨((x10_5 ++ (⟨#[9, 32]⟩ : ByteArray)) ++ t143), (wrap64 (x13_5 + 1)), (by first | rfl | (simp; done) | (simp [*]; done)), (by first | rfl | (simp; done) | (simp [*]; done)), H', ⟨by have := HJ5.out; have := HK2.out; have := HK3.out; have := HJ18.out; have := HK5.out; omega⟩, ⟨by (with_reducible repeat (first | apply Kd.R_alloc | apply Kd.R_drewN | apply Kd.R_drew)); exact HO_8.out⟩, ⟨by (with_reducible repeat (first | apply Kd.R_alloc | apply Kd.R_drewN | apply Kd.R_drew)); exact HO_12.out⟩, ⟨by repeat (first | (with_reducible first | exact HB.out | apply below_alloc | apply pw_below_drewN | apply below_drew1) | exact HB.out)⟩⟩
                                      · rw [if_neg c33] at H
                                        exact absurd H (by simp)
                                    · rw [if_neg c31] at H
                                      exact absurd H (by simp)
                                  · rw [if_neg c30] at H
                                    exact absurd H (by simp)
                                · rw [if_neg c29] at H
                                  have c29b0 : decide (x13_5 < (t139.length : Int)) = false := decide_eq_false c29
                                  clear c29
                                  by_cases c36 : x10_5.size + 1 ≤ 9223372036854775807
                                  · rw [if_pos c36] at H
                                    have c36b0 := eq_true c36
                                    have c36b1 : decide (x10_5.size + 1 ≤ 9223372036854775807) = true := decide_eq_true c36
                                    try have c36b2 : (9223372036854775807 < x10_5.size + 1) = False := eq_false (Nat.not_lt.2 c36)
                                    have H' := Aside0.mk H
                                    clear H
                                    obtain ⟨Ao37, co37, eo37⟩ := Kd.R_slice HO_12.out
                                    subst eo37
                                    go_wp2
                                    go_roundg k5
                                    case measure => have := HJ5.out; have := HK2.out; have := HK3.out; have := HJ18.out; have := HK5.out; omega
                                    case rel => exact ⟨(x10_5 ++ (⟨#[10]⟩ : ByteArray)), (wrap64 (x11_3 + 1)), (by first | rfl | (simp; done) | (simp [*]; done)), (by first | rfl | (simp; done) | (simp [*]; done)), H', ⟨by have := HJ5.out; have := HK2.out; have := HK3.out; have := HJ18.out; have := HK5.out; omega⟩, ⟨by (with_reducible repeat (first | apply Kd.R_alloc | apply Kd.R_drewN | apply Kd.R_drew)); exact Kd.R_mono HO_8.out (fun _ hk => trivial)⟩, ⟨by repeat (first | (with_reducible first | exact HB.out | apply below_alloc | apply pw_below_drewN | apply below_drew1) | exact HB.out)⟩⟩
                                  · rw [if_neg c36] at H
                                    exact absurd H (by simp)
                          · rw [if_neg c26] at H
                            exact absurd H (by simp)
                        · rw [if_neg c25] at H
                          have c25b0 : decide (x11_3 < (t135.length : Int)) = false := decide_eq_false c25
                          clear c25
                          have H' := Aside0.mk H
                          clear H
                          go_wp2
                          go_roundg kj18
                          case measure => have := HJ5.out; have := HK2.out; have := HK3.out; have := HJ18.out; omega
                          case rel => exact ⟨(x10_18), (wrap64 (x11_3 + 1)), (by first | rfl | (simp; done) | (simp [*]; done)), (by first | rfl | (simp; done) | (simp [*]; done)), H', ⟨by have := HJ5.out; have := HK2.out; have := HK3.out; have := HJ18.out; omega⟩, ⟨by (with_reducible repeat (first | apply Kd.R_alloc | apply Kd.R_drewN | apply Kd.R_drew)); exact HO_8.out⟩, ⟨by repeat (first | (with_reducible first | exact HB.out | apply below_alloc | apply pw_below_drewN | apply below_drew1) | exact HB.out)⟩⟩
                  · rw [if_neg c18] at H
                    have c18b0 : decide (x11_3 ≤ (t135.length : Int)) = false := decide_eq_false c18
                    clear c18
                    have H' := Aside0.mk H
                    clear H
                    obtain ⟨Ao38, co38, eo38⟩ := Kd.R_slice HO_8.out
                    subst eo38
                    go_wp2
                    go_loopg [14] k3 (fun kq v14 w' => ∃ (x14_4 : Int), v14 = .int .i64 x14_4 ∧ Aside0 (epactlaw11_ZicWords.l3 kq a0 a2 t134 x10_3 x14_4 = some r) ∧ Aside0 (kq ≤ k3) ∧ Aside0 (Below w.heap.size w w'))
                    case atStart => exact ⟨(0), (by first | rfl | (simp; done) | (simp [*]; done)), H', ⟨Nat.le_refl _⟩, ⟨by repeat (first | (with_reducible first | exact HB.out | apply below_alloc | apply pw_below_drewN | apply below_drew1) | exact HB.out)⟩⟩
                    case round =>
                      clear H'
                      try clear c1
                      try clear p1
                      try clear q1
                      try clear hx1
                      try clear c2
                      try clear p2
                      try clear c3
                      try clear c5
                      try clear p6
                      try clear c9
                      try clear c9b0
                      try clear c9b1
                      try clear c10
                      try clear c10b0
                      try clear c10b1
                      try clear c11
                      try clear c11b0
                      try clear c13
                      try clear p13
                      try clear q13
                      try clear hx13
                      try clear c14
                      try clear c14b0
                      try clear p14
                      try clear q14
                      try clear hx14
                      try clear c15
                      try clear c15b0
                      try clear p16
                      try clear q16
                      try clear hx16
                      try clear c17
                      try clear c17b0
                      try clear c17b1
                      try clear c18
                      try clear c18b0
                      try clear c19
                      try clear c21
                      try clear c21b0
                      try clear c21b1
                      try clear c22
                      try clear c22b0
                      try clear c22b1
                      try clear c22b2
                      try clear c23
                      try clear c23b0
                      try clear c23b1
                      try clear c23b2
                      try clear c24
                      try clear c24b0
                      try clear c24b1
                      try clear c24b2
                      try clear c25
                      try clear c25b0
                      try clear c26
                      try clear c26b0
                      try clear c29
                      try clear c29b0
                      try clear c30
                      try clear c30b0
                      try clear c30b1
                      try clear c30b2
                      try clear c31
                      try clear c31b0
                      try clear c33
                      try clear c33b0
                      try clear c33b1
                      try clear c33b2
                      try clear c36
                      try clear c36b0
                      try clear c36b1
                      try clear c36b2
                      try clear hx138_0
                      try clear hx142_0
                      try clear p1
                      try clear p13
                      try clear p138
                      try clear p142
                      try clear p16
                      try clear p2
                      try clear p6
                      try clear q1
                      try clear q13
                      try clear q138
                      try clear q142
                      try clear q16
                      obtain ⟨x14_4, rfl, HA, HK4, HB⟩ := hrel
                      cases gk with
                      | zero => exact absurd HA.out (by simp [epactlaw11_ZicWords.l3])
                      | succ k4 =>
                        have H := HA.out
                        clear HA
                        simp only [epactlaw11_ZicWords.l3] at H
                        by_cases c39 : x14_4 < (a0.size : Int)
                        · rw [if_pos c39] at H
                          have c39b0 : decide (x14_4 < (a0.size : Int)) = true := decide_eq_true c39
                          clear c39
                          by_cases c40 : 0 ≤ x14_4
                          · rw [if_pos c40] at H
                            have c40b0 : decide (0 ≤ x14_4) = true := decide_eq_true c40
                            clear c40
                            by_cases c42 : (bt a0 x14_4) = 35
                            · rw [if_pos c42] at H
                              have c42b0 : ((bt a0 x14_4) == 35) = true := beq_iff_eq.mpr c42
                              have c42b1 : ((bt a0 x14_4) != 35) = false := bne_eq_false_iff_eq.mpr c42
                              clear c42
                              obtain rfl := Option.some.inj H
                              have p41 : 0 ≤ (x14_4 : Int) := of_decide_eq_true (by first | (with_reducible assumption) | assumption)
                              have q41 : x14_4 < (a0.size : Int) := of_decide_eq_true (by first | (with_reducible assumption) | assumption)
                              have hx41 := bt_at a0 x14_4
                              replace p41 := eq_true p41
                              replace q41 := eq_true q41
                              go_wp2
                              go_ret
                              exact ⟨by first | rfl | (simp [errW_none, errW_some] <;> rfl) | (simp [*, errW_none, errW_some] <;> rfl), by repeat (first | (with_reducible first | exact HB.out | apply below_alloc | apply pw_below_drewN | apply below_drew1) | exact HB.out)⟩
                            · rw [if_neg c42] at H
                              have c42b0 : ((bt a0 x14_4) == 35) = false := beq_eq_false_iff_ne.mpr c42
                              have c42b1 : ((bt a0 x14_4) != 35) = true := bne_iff_ne.mpr c42
                              by_cases c44 : (bt a0 x14_4) = 13
                              · rw [if_pos c44] at H
                                have c44b0 : ((bt a0 x14_4) == 13) = true := beq_iff_eq.mpr c44
                                have c44b1 : ((bt a0 x14_4) != 13) = false := bne_eq_false_iff_eq.mpr c44
                                clear c44
                                obtain rfl := Option.some.inj H
                                have p41 : 0 ≤ (x14_4 : Int) := of_decide_eq_true (by first | (with_reducible assumption) | assumption)
                                have q41 : x14_4 < (a0.size : Int) := of_decide_eq_true (by first | (with_reducible assumption) | assumption)
                                have hx41 := bt_at a0 x14_4
                                replace p41 := eq_true p41
                                replace q41 := eq_true q41
                                have p43 : 0 ≤ (x14_4 : Int) := of_decide_eq_true (by first | (with_reducible assumption) | assumption)
                                have q43 : x14_4 < (a0.size : Int) := of_decide_eq_true (by first | (with_reducible assumption) | assumption)
                                have hx43 := bt_at a0 x14_4
                                replace p43 := eq_true p43
                                replace q43 := eq_true q43
                                go_wp2
                                go_ret
                                exact ⟨by first | rfl | (simp [errW_none, errW_some] <;> rfl) | (simp [*, errW_none, errW_some] <;> rfl), by repeat (first | (with_reducible first | exact HB.out | apply below_alloc | apply pw_below_drewN | apply below_drew1) | exact HB.out)⟩
                              · rw [if_neg c44] at H
                                have c44b0 : ((bt a0 x14_4) == 13) = false := beq_eq_false_iff_ne.mpr c44
                                have c44b1 : ((bt a0 x14_4) != 13) = true := bne_iff_ne.mpr c44
                                have H' := Aside0.mk H
                                clear H
                                have p41 : 0 ≤ (x14_4 : Int) := of_decide_eq_true (by first | (with_reducible assumption) | assumption)
                                have q41 : x14_4 < (a0.size : Int) := of_decide_eq_true (by first | (with_reducible assumption) | assumption)
                                have hx41 := bt_at a0 x14_4
                                replace p41 := eq_true p41
                                replace q41 := eq_true q41
                                have p43 : 0 ≤ (x14_4 : Int) := of_decide_eq_true (by first | (with_reducible assumption) | assumption)
                                have q43 : x14_4 < (a0.size : Int) := of_decide_eq_true (by first | (with_reducible assumption) | assumption)
                                have hx43 := bt_at a0 x14_4
                                replace p43 := eq_true p43
                                replace q43 := eq_true q43
                                go_wp2
                                go_roundg k4
                                case measure => have := HJ5.out; have := HK2.out; have := HK3.out; have := HK4.out; omega
                                case rel => exact ⟨(wrap64 (x14_4 + 1)), (by first | rfl | (simp; done) | (simp [*]; done)), H', ⟨by have := HJ5.out; have := HK2.out; have := HK3.out; have := HK4.out; omega⟩, ⟨by repeat (first | (with_reducible first | exact HB.out | apply below_alloc | apply pw_below_drewN | apply below_drew1) | exact HB.out)⟩⟩
                          · rw [if_neg c40] at H
                            exact absurd H (by simp)
                        · rw [if_neg c39] at H
                          have c39b0 : decide (x14_4 < (a0.size : Int)) = false := decide_eq_false c39
                          clear c39
                          replace H := Option.bind_eq_some_iff.mp H
                          obtain ⟨⟨t144, t147, t148, t149, t150⟩, A450, H⟩ := H
                          replace H : ((zic_Parse.f x10_3).bind fun bt153 => (if t149 > a2 then (if t134 = true then ((epactref09_Same.f t144 t147 t148 bt153.1 bt153.2.1 bt153.2.2.1).bind fun t162 => (if t162 = true then (some ((wrap64 (t149 + 1)) == bt153.2.2.2.1 && (t150 == bt153.2.2.2.2))) else (some false))) else (some false)) else (if t134 = true then ((epactref09_Same.f t144 t147 t148 bt153.1 bt153.2.1 bt153.2.2.1).bind fun t163 => (if t163 = true then (some (t149 == bt153.2.2.2.1 && (t150 == bt153.2.2.2.2))) else (some false))) else (some false)))) = some r := H
                          have A45 := Aside0.mk A450
                          clear A450
                          replace H := Option.bind_eq_some_iff.mp H
                          obtain ⟨⟨t153, t156, t157, t158, t159⟩, A460, H⟩ := H
                          replace H : (if t149 > a2 then (if t134 = true then ((epactref09_Same.f t144 t147 t148 t153 t156 t157).bind fun t162 => (if t162 = true then (some ((wrap64 (t149 + 1)) == t158 && (t150 == t159))) else (some false))) else (some false)) else (if t134 = true then ((epactref09_Same.f t144 t147 t148 t153 t156 t157).bind fun t163 => (if t163 = true then (some (t149 == t158 && (t150 == t159))) else (some false))) else (some false))) = some r := H
                          have A46 := Aside0.mk A460
                          clear A460
                          by_cases c47 : t149 > a2
                          · rw [if_pos c47] at H
                            have c47b0 : decide (a2 < t149) = true := decide_eq_true c47
                            clear c47
                            by_cases c48 : t134 = true
                            · subst c48
                              have H1 : ((epactref09_Same.f t144 t147 t148 t153 t156 t157).bind fun t162 => (if t162 = true then (some ((wrap64 (t149 + 1)) == t158 && (t150 == t159))) else (some false))) = some r := by rw [if_pos rfl] at H; exact H
                              clear H
                              have H := H1
                              clear H1
                              replace H := Option.bind_eq_some_iff.mp H
                              obtain ⟨t162, A490, H⟩ := H
                              replace H : (if t162 = true then (some ((wrap64 (t149 + 1)) == t158 && (t150 == t159))) else (some false)) = some r := H
                              have A49 := Aside0.mk A490
                              clear A490
                              by_cases c50 : t162 = true
                              · subst c50
                                have H1 : (some ((wrap64 (t149 + 1)) == t158 && (t150 == t159))) = some r := by rw [if_pos rfl] at H; exact H
                                clear H
                                have H := H1
                                clear H1
                                obtain rfl := Option.some.inj H
                                go_wp2_with (first | ((with_reducible refine gate_callee (f := 15) rfl ?_); refine goesL_ (some 110) rfl rfl Tryd.func15 (by kernel_rfl) rfl #[.string a0] rfl (by (try simp only [List.map_toArray, List.map_cons, List.map_nil]); first | done | rfl | (simp only [List.length_drop, List.length_take]; rfl)) ?_; (with_reducible refine (zic_Parse.calls a0 t144 t147 t148 t149 t150 _ A45.out).mono ?_); rintro e w51 ⟨v145, rfl, ho0, hb⟩; refine ⟨_, rfl, ?_⟩; have n0_ := Aside0.mk (Kd.R_lower ho0 (below_size (by repeat (first | (with_reducible first | exact HB.out | apply below_alloc | apply pw_below_drewN | apply below_drew1) | exact HB.out)))); have n1_ := Aside0.mk (below_step (by repeat (first | (with_reducible first | exact HB.out | apply below_alloc | apply pw_below_drewN | apply below_drew1) | exact HB.out)) hb); clear HB; have HO146 := n0_; have HB := n1_; clear n0_ n1_; (try clear hb); (try clear hb2); (try clear hk); (try clear hi); (try clear ho0)) | ((with_reducible refine gate_dst (N := 15) rfl ?_); (try (refine gate_guard (by rfl) ?_; dsimp only)); refine box_event ?hg (N := 15) ?hd (cs := #[.slice none 0 0, .bool false, .int .i64 0]) (t := 24) ?hr ?_; (case hd => rfl); (case hg => rfl); (case hr => first | (go_simp; done) | (go_simp; rfl)); intro gb151 hg w52 hbox hb; have n0_ := Aside0.mk (Kd.R_below (by (with_reducible repeat (first | apply Kd.R_alloc | apply Kd.R_drewN | apply Kd.R_drew)); exact HO146.out) hb); have n1_ := Aside0.mk (below_step (by repeat (first | (with_reducible first | exact HB.out | apply below_alloc | apply pw_below_drewN | apply below_drew1) | exact HB.out)) hb); have n2_ := Aside0.mk (hbox); have n3_ := Aside0.mk ((by rw [hg]; exact (below_size (by repeat (first | (with_reducible first | exact HB.out | apply below_alloc | apply pw_below_drewN | apply below_drew1) | exact HB.out))) : w.heap.size ≤ gb151)); have n4_ := Aside0.mk ((by rw [hg]; exact (below_size (by repeat (first | (with_reducible first | exact HB.out | apply below_alloc | apply pw_below_drewN | apply below_drew1) | exact HB.out))) : w.heap.size ≤ gb151)); clear HO146; clear HB; have HO146 := n0_; have HB := n1_; have BK151 := n2_; have GW151 := n3_; have GE151 := n4_; clear n0_ n1_ n2_ n3_ n4_; clear hb hbox hg) | ((with_reducible refine gate_dst (N := 16) rfl ?_); (try (refine gate_guard (by rfl) ?_; dsimp only)); refine box_event ?hg (N := 16) ?hd (cs := #[.int .i64 0, .int .i64 0]) (t := 31) ?hr ?_; (case hd => rfl); (case hg => rfl); (case hr => first | (go_simp; done) | (go_simp; rfl)); intro gb152 hg w53 hbox hb; have n0_ := Aside0.mk (Kd.R_below (by (with_reducible repeat (first | apply Kd.R_alloc | apply Kd.R_drewN | apply Kd.R_drew)); exact HO146.out) hb); have n1_ := Aside0.mk (blk_below (g := gb151) (o := .cells #[.slice none 0 0, .bool false, .int .i64 0] 24 (0, 0)) (by (with_reducible repeat (first | refine blk_drewN ?_ _ | refine blk_drew ?_ | refine blk_alloc ?_ _)); exact BK151.out) hb); have n2_ := Aside0.mk (below_step (by repeat (first | (with_reducible first | exact HB.out | apply below_alloc | apply pw_below_drewN | apply below_drew1 | refine below_set ?_ GE151.out) | exact HB.out)) hb); have n3_ := Aside0.mk (hbox); have n4_ := Aside0.mk ((by rw [hg]; exact (below_size (by repeat (first | (with_reducible first | exact HB.out | apply below_alloc | apply pw_below_drewN | apply below_drew1 | refine below_set ?_ GE151.out) | exact HB.out))) : w.heap.size ≤ gb152)); have n5_ := Aside0.mk ((by rw [hg]; exact (below_size (by repeat (first | (with_reducible first | exact HB.out | apply below_alloc | apply pw_below_drewN | apply below_drew1 | refine below_set ?_ GE151.out) | exact HB.out))) : w.heap.size ≤ gb152)); have n6_ := Aside0.mk ((by rw [hg]; exact Nat.ne_of_lt (blk_lt (g := gb151) (o := .cells #[.slice none 0 0, .bool false, .int .i64 0] 24 (0, 0)) (by (with_reducible repeat (first | refine blk_drewN ?_ _ | refine blk_drew ?_ | refine blk_alloc ?_ _)); exact BK151.out)) : gb151 ≠ gb152)); have n7_ := Aside0.mk ((by rw [hg]; exact Nat.ne_of_gt (blk_lt (g := gb151) (o := .cells #[.slice none 0 0, .bool false, .int .i64 0] 24 (0, 0)) (by (with_reducible repeat (first | refine blk_drewN ?_ _ | refine blk_drew ?_ | refine blk_alloc ?_ _)); exact BK151.out)) : gb152 ≠ gb151)); clear HO146; clear BK151; clear HB; have HO146 := n0_; have BK151 := n1_; have HB := n2_; have BK152 := n3_; have GW152 := n4_; have GE152 := n5_; have NB151_152 := n6_; have NB152_151 := n7_; clear n0_ n1_ n2_ n3_ n4_ n5_ n6_ n7_; clear hb hbox hg; obtain ⟨Ao54, co54, eo54⟩ := Kd.R_slice HO146.out; subst eo54; have hnb55 := NB151_152.out; have hnc55 := NB152_151.out; have hcz56_0 : w53.cell? ⟨gb151, 0, none⟩ = some (.slice none 0 0) := (blk_cell BK151.out 0).trans rfl; have hcz56_1 : w53.cell? ⟨gb151, 1, none⟩ = some (.bool false) := (blk_cell BK151.out 1).trans rfl; have hcz56_2 : w53.cell? ⟨gb151, 2, none⟩ = some (.int .i64 0) := (blk_cell BK151.out 2).trans rfl; have hfz56_0 := blk_frozen BK151.out 0; have hfz56_1 := blk_frozen BK151.out 1; have hfz56_2 := blk_frozen BK151.out 2; have hcz57_0 : w53.cell? ⟨gb152, 0, none⟩ = some (.int .i64 0) := (blk_cell BK152.out 0).trans rfl; have hcz57_1 : w53.cell? ⟨gb152, 1, none⟩ = some (.int .i64 0) := (blk_cell BK152.out 1).trans rfl; have hfz57_0 := blk_frozen BK152.out 0; have hfz57_1 := blk_frozen BK152.out 1) | ((with_reducible refine gate_callee (f := 15) rfl ?_); refine goesL_ (some 115) rfl rfl Tryd.func15 (by kernel_rfl) rfl #[.string x10_3] rfl (by (try simp only [List.map_toArray, List.map_cons, List.map_nil]); first | done | rfl | (simp only [List.length_drop, List.length_take]; rfl)) ?_; (with_reducible refine (zic_Parse.calls x10_3 t153 t156 t157 t158 t159 _ A46.out).mono ?_); rintro e w58 ⟨v154, rfl, ho0, hb⟩; refine ⟨_, rfl, ?_⟩; have n0_ := Aside0.mk (Kd.R_elder' (by (with_reducible repeat (first | apply Kd.R_alloc | apply Kd.R_drewN | apply Kd.R_drew)); exact (Kd.R_mono (Kd.R_mono (Kd.R_far (p := ⟨gb152, 1, none⟩) (Kd.R_far (p := ⟨gb152, 0, none⟩) (Kd.R_far (p := ⟨gb151, 2, none⟩) (Kd.R_far (p := ⟨gb151, 1, none⟩) (Kd.R_far (p := ⟨gb151, 0, none⟩) (Kd.R_types (Kd.R_types HO146.out BK151.out (by decide)) BK152.out (by decide)) (fun _ hk => hk.1.2) (.slice Ao54 t144.length co54)) (fun _ hk => hk.1.2) (.bool t147)) (fun _ hk => hk.1.2) (.int .i64 t148)) (fun _ hk => hk.2) (.int .i64 t149)) (fun _ hk => hk.2) (.int .i64 t150)) (fun _ h_ => h_.1)) (fun _ h_ => h_.1))) (Kd.R_base ho0) hb); have n1_ := Aside0.mk (Kd.R_lower (Kd.R_new' ho0 (Kd.R_lt (by (with_reducible repeat (first | apply Kd.R_alloc | apply Kd.R_drewN | apply Kd.R_drew)); exact (Kd.R_mono (Kd.R_mono (Kd.R_far (p := ⟨gb152, 1, none⟩) (Kd.R_far (p := ⟨gb152, 0, none⟩) (Kd.R_far (p := ⟨gb151, 2, none⟩) (Kd.R_far (p := ⟨gb151, 1, none⟩) (Kd.R_far (p := ⟨gb151, 0, none⟩) (Kd.R_types (Kd.R_types HO146.out BK151.out (by decide)) BK152.out (by decide)) (fun _ hk => hk.1.2) (.slice Ao54 t144.length co54)) (fun _ hk => hk.1.2) (.bool t147)) (fun _ hk => hk.1.2) (.int .i64 t148)) (fun _ hk => hk.2) (.int .i64 t149)) (fun _ hk => hk.2) (.int .i64 t150)) (fun _ h_ => h_.1)) (fun _ h_ => h_.1))))) (below_size (by repeat (first | (with_reducible first | exact HB.out | apply below_alloc | apply pw_below_drewN | apply below_drew1 | refine below_set ?_ GE151.out | refine below_set ?_ GE152.out) | exact HB.out)))); have n2_ := Aside0.mk (blk_below (g := gb151) (o := .cells #[.slice Ao54 t144.length co54, .bool t147, .int .i64 t148] 24 (0, 0)) (by (with_reducible repeat (first | refine blk_drewN ?_ _ | refine blk_drew ?_ | refine blk_alloc ?_ _)); refine blk_far ?_ NB151_152.out _; (with_reducible repeat (first | refine blk_drewN ?_ _ | refine blk_drew ?_ | refine blk_alloc ?_ _)); refine blk_far ?_ NB151_152.out _; (with_reducible repeat (first | refine blk_drewN ?_ _ | refine blk_drew ?_ | refine blk_alloc ?_ _)); refine blk_put (cs := #[.slice Ao54 t144.length co54, .bool t147, .int .i64 0]) ?_ 2 _ rfl; (with_reducible repeat (first | refine blk_drewN ?_ _ | refine blk_drew ?_ | refine blk_alloc ?_ _)); refine blk_put (cs := #[.slice Ao54 t144.length co54, .bool false, .int .i64 0]) ?_ 1 _ rfl; (with_reducible repeat (first | refine blk_drewN ?_ _ | refine blk_drew ?_ | refine blk_alloc ?_ _)); refine blk_put (cs := #[.slice none 0 0, .bool false, .int .i64 0]) ?_ 0 _ rfl; (with_reducible repeat (first | refine blk_drewN ?_ _ | refine blk_drew ?_ | refine blk_alloc ?_ _)); exact BK151.out) hb); have n3_ := Aside0.mk (blk_below (g := gb152) (o := .cells #[.int .i64 t149, .int .i64 t150] 31 (0, 0)) (by (with_reducible repeat (first | refine blk_drewN ?_ _ | refine blk_drew ?_ | refine blk_alloc ?_ _)); refine blk_put (cs := #[.int .i64 t149, .int .i64 0]) ?_ 1 _ rfl; (with_reducible repeat (first | refine blk_drewN ?_ _ | refine blk_drew ?_ | refine blk_alloc ?_ _)); refine blk_put (cs := #[.int .i64 0, .int .i64 0]) ?_ 0 _ rfl; (with_reducible repeat (first | refine blk_drewN ?_ _ | refine blk_drew ?_ | refine blk_alloc ?_ _)); refine blk_far ?_ NB152_151.out _; (with_reducible repeat (first | refine blk_drewN ?_ _ | refine blk_drew ?_ | refine blk_alloc ?_ _)); refine blk_far ?_ NB152_151.out _; (with_reducible repeat (first | refine blk_drewN ?_ _ | refine blk_drew ?_ | refine blk_alloc ?_ _)); refine blk_far ?_ NB152_151.out _; (with_reducible repeat (first | refine blk_drewN ?_ _ | refine blk_drew ?_ | refine blk_alloc ?_ _)); exact BK152.out) hb); have n4_ := Aside0.mk (below_step (by repeat (first | (with_reducible first | exact HB.out | apply below_alloc | apply pw_below_drewN | apply below_drew1 | refine below_set ?_ GE151.out | refine below_set ?_ GE152.out) | exact HB.out)) hb); clear HO146; clear BK151; clear BK152; clear HB; have HO146 := n0_; have HO155 := n1_; have BK151 := n2_; have BK152 := n3_; have HB := n4_; clear n0_ n1_ n2_ n3_ n4_; (try clear hb); (try clear hb2); (try clear hk); (try clear hi); (try clear ho0)) | ((with_reducible refine gate_dst (N := 17) rfl ?_); (try (refine gate_guard (by rfl) ?_; dsimp only)); refine box_event ?hg (N := 17) ?hd (cs := #[.slice none 0 0, .bool false, .int .i64 0]) (t := 24) ?hr ?_; (case hd => rfl); (case hg => rfl); (case hr => first | (go_simp; done) | (go_simp; rfl)); intro gb160 hg w59 hbox hb; have n0_ := Aside0.mk (Kd.R_below (by (with_reducible repeat (first | apply Kd.R_alloc | apply Kd.R_drewN | apply Kd.R_drew)); exact HO146.out) hb); have n1_ := Aside0.mk (Kd.R_below (by (with_reducible repeat (first | apply Kd.R_alloc | apply Kd.R_drewN | apply Kd.R_drew)); exact HO155.out) hb); have n2_ := Aside0.mk (blk_below (g := gb151) (o := .cells #[.slice Ao54 t144.length co54, .bool t147, .int .i64 t148] 24 (0, 0)) (by (with_reducible repeat (first | refine blk_drewN ?_ _ | refine blk_drew ?_ | refine blk_alloc ?_ _)); exact BK151.out) hb); have n3_ := Aside0.mk (blk_below (g := gb152) (o := .cells #[.int .i64 t149, .int .i64 t150] 31 (0, 0)) (by (with_reducible repeat (first | refine blk_drewN ?_ _ | refine blk_drew ?_ | refine blk_alloc ?_ _)); exact BK152.out) hb); have n4_ := Aside0.mk (below_step (by repeat (first | (with_reducible first | exact HB.out | apply below_alloc | apply pw_below_drewN | apply below_drew1 | refine below_set ?_ GE151.out | refine below_set ?_ GE152.out) | exact HB.out)) hb); have n5_ := Aside0.mk (hbox); have n6_ := Aside0.mk ((by rw [hg]; exact (below_size (by repeat (first | (with_reducible first | exact HB.out | apply below_alloc | apply pw_below_drewN | apply below_drew1 | refine below_set ?_ GE151.out | refine below_set ?_ GE152.out) | exact HB.out))) : w.heap.size ≤ gb160)); have n7_ := Aside0.mk ((by rw [hg]; exact (below_size (by repeat (first | (with_reducible first | exact HB.out | apply below_alloc | apply pw_below_drewN | apply below_drew1 | refine below_set ?_ GE151.out | refine below_set ?_ GE152.out) | exact HB.out))) : w.heap.size ≤ gb160)); have n8_ := Aside0.mk ((by rw [hg]; exact Nat.ne_of_lt (blk_lt (g := gb151) (o := .cells #[.slice Ao54 t144.length co54, .bool t147, .int .i64 t148] 24 (0, 0)) (by (with_reducible repeat (first | refine blk_drewN ?_ _ | refine blk_drew ?_ | refine blk_alloc ?_ _)); exact BK151.out)) : gb151 ≠ gb160)); have n9_ := Aside0.mk ((by rw [hg]; exact Nat.ne_of_gt (blk_lt (g := gb151) (o := .cells #[.slice Ao54 t144.length co54, .bool t147, .int .i64 t148] 24 (0, 0)) (by (with_reducible repeat (first | refine blk_drewN ?_ _ | refine blk_drew ?_ | refine blk_alloc ?_ _)); exact BK151.out)) : gb160 ≠ gb151)); have n10_ := Aside0.mk ((by rw [hg]; exact Nat.ne_of_lt (blk_lt (g := gb152) (o := .cells #[.int .i64 t149, .int .i64 t150] 31 (0, 0)) (by (with_reducible repeat (first | refine blk_drewN ?_ _ | refine blk_drew ?_ | refine blk_alloc ?_ _)); exact BK152.out)) : gb152 ≠ gb160)); have n11_ := Aside0.mk ((by rw [hg]; exact Nat.ne_of_gt (blk_lt (g := gb152) (o := .cells #[.int .i64 t149, .int .i64 t150] 31 (0, 0)) (by (with_reducible repeat (first | refine blk_drewN ?_ _ | refine blk_drew ?_ | refine blk_alloc ?_ _)); exact BK152.out)) : gb160 ≠ gb152)); clear HO146; clear HO155; clear BK151; clear BK152; clear HB; have HO146 := n0_; have HO155 := n1_; have BK151 := n2_; have BK152 := n3_; have HB := n4_; have BK160 := n5_; have GW160 := n6_; have GE160 := n7_; have NB151_160 := n8_; have NB160_151 := n9_; have NB152_160 := n10_; have NB160_152 := n11_; clear n0_ n1_ n2_ n3_ n4_ n5_ n6_ n7_ n8_ n9_ n10_ n11_; clear hb hbox hg) | ((with_reducible refine gate_dst (N := 18) rfl ?_); (try (refine gate_guard (by rfl) ?_; dsimp only)); refine box_event ?hg (N := 18) ?hd (cs := #[.int .i64 0, .int .i64 0]) (t := 31) ?hr ?_; (case hd => rfl); (case hg => rfl); (case hr => first | (go_simp; done) | (go_simp; rfl)); intro gb161 hg w60 hbox hb; have n0_ := Aside0.mk (Kd.R_below (by (with_reducible repeat (first | apply Kd.R_alloc | apply Kd.R_drewN | apply Kd.R_drew)); exact HO146.out) hb); have n1_ := Aside0.mk (Kd.R_below (by (with_reducible repeat (first | apply Kd.R_alloc | apply Kd.R_drewN | apply Kd.R_drew)); exact HO155.out) hb); have n2_ := Aside0.mk (blk_below (g := gb151) (o := .cells #[.slice Ao54 t144.length co54, .bool t147, .int .i64 t148] 24 (0, 0)) (by (with_reducible repeat (first | refine blk_drewN ?_ _ | refine blk_drew ?_ | refine blk_alloc ?_ _)); exact BK151.out) hb); have n3_ := Aside0.mk (blk_below (g := gb152) (o := .cells #[.int .i64 t149, .int .i64 t150] 31 (0, 0)) (by (with_reducible repeat (first | refine blk_drewN ?_ _ | refine blk_drew ?_ | refine blk_alloc ?_ _)); exact BK152.out) hb); have n4_ := Aside0.mk (blk_below (g := gb160) (o := .cells #[.slice none 0 0, .bool false, .int .i64 0] 24 (0, 0)) (by (with_reducible repeat (first | refine blk_drewN ?_ _ | refine blk_drew ?_ | refine blk_alloc ?_ _)); exact BK160.out) hb); have n5_ := Aside0.mk (below_step (by repeat (first | (with_reducible first | exact HB.out | apply below_alloc | apply pw_below_drewN | apply below_drew1 | refine below_set ?_ GE151.out | refine below_set ?_ GE152.out | refine below_set ?_ GE160.out) | exact HB.out)) hb); have n6_ := Aside0.mk (hbox); have n7_ := Aside0.mk ((by rw [hg]; exact (below_size (by repeat (first | (with_reducible first | exact HB.out | apply below_alloc | apply pw_below_drewN | apply below_drew1 | refine below_set ?_ GE151.out | refine below_set ?_ GE152.out | refine below_set ?_ GE160.out) | exact HB.out))) : w.heap.size ≤ gb161)); have n8_ := Aside0.mk ((by rw [hg]; exact (below_size (by repeat (first | (with_reducible first | exact HB.out | apply below_alloc | apply pw_below_drewN | apply below_drew1 | refine below_set ?_ GE151.out | refine below_set ?_ GE152.out | refine below_set ?_ GE160.out) | exact HB.out))) : w.heap.size ≤ gb161)); have n9_ := Aside0.mk ((by rw [hg]; exact Nat.ne_of_lt (blk_lt (g := gb151) (o := .cells #[.slice Ao54 t144.length co54, .bool t147, .int .i64 t148] 24 (0, 0)) (by (with_reducible repeat (first | refine blk_drewN ?_ _ | refine blk_drew ?_ | refine blk_alloc ?_ _)); exact BK151.out)) : gb151 ≠ gb161)); have n10_ := Aside0.mk ((by rw [hg]; exact Nat.ne_of_gt (blk_lt (g := gb151) (o := .cells #[.slice Ao54 t144.length co54, .bool t147, .int .i64 t148] 24 (0, 0)) (by (with_reducible repeat (first | refine blk_drewN ?_ _ | refine blk_drew ?_ | refine blk_alloc ?_ _)); exact BK151.out)) : gb161 ≠ gb151)); have n11_ := Aside0.mk ((by rw [hg]; exact Nat.ne_of_lt (blk_lt (g := gb152) (o := .cells #[.int .i64 t149, .int .i64 t150] 31 (0, 0)) (by (with_reducible repeat (first | refine blk_drewN ?_ _ | refine blk_drew ?_ | refine blk_alloc ?_ _)); exact BK152.out)) : gb152 ≠ gb161)); have n12_ := Aside0.mk ((by rw [hg]; exact Nat.ne_of_gt (blk_lt (g := gb152) (o := .cells #[.int .i64 t149, .int .i64 t150] 31 (0, 0)) (by (with_reducible repeat (first | refine blk_drewN ?_ _ | refine blk_drew ?_ | refine blk_alloc ?_ _)); exact BK152.out)) : gb161 ≠ gb152)); have n13_ := Aside0.mk ((by rw [hg]; exact Nat.ne_of_lt (blk_lt (g := gb160) (o := .cells #[.slice none 0 0, .bool false, .int .i64 0] 24 (0, 0)) (by (with_reducible repeat (first | refine blk_drewN ?_ _ | refine blk_drew ?_ | refine blk_alloc ?_ _)); exact BK160.out)) : gb160 ≠ gb161)); have n14_ := Aside0.mk ((by rw [hg]; exact Nat.ne_of_gt (blk_lt (g := gb160) (o := .cells #[.slice none 0 0, .bool false, .int .i64 0] 24 (0, 0)) (by (with_reducible repeat (first | refine blk_drewN ?_ _ | refine blk_drew ?_ | refine blk_alloc ?_ _)); exact BK160.out)) : gb161 ≠ gb160)); clear HO146; clear HO155; clear BK151; clear BK152; clear BK160; clear HB; have HO146 := n0_; have HO155 := n1_; have BK151 := n2_; have BK152 := n3_; have BK160 := n4_; have HB := n5_; have BK161 := n6_; have GW161 := n7_; have GE161 := n8_; have NB151_161 := n9_; have NB161_151 := n10_; have NB152_161 := n11_; have NB161_152 := n12_; have NB160_161 := n13_; have NB161_160 := n14_; clear n0_ n1_ n2_ n3_ n4_ n5_ n6_ n7_ n8_ n9_ n10_ n11_ n12_ n13_ n14_; clear hb hbox hg; obtain ⟨Ao61, co61, eo61⟩ := Kd.R_slice HO155.out; subst eo61; have hnb62 := NB160_151.out; have hnc62 := NB151_160.out; have hnb63 := NB160_152.out; have hnc63 := NB152_160.out; have hnb64 := NB160_161.out; have hnc64 := NB161_160.out; have hcz65_0 : w60.cell? ⟨gb160, 0, none⟩ = some (.slice none 0 0) := (blk_cell BK160.out 0).trans rfl; have hcz65_1 : w60.cell? ⟨gb160, 1, none⟩ = some (.bool false) := (blk_cell BK160.out 1).trans rfl; have hcz65_2 : w60.cell? ⟨gb160, 2, none⟩ = some (.int .i64 0) := (blk_cell BK160.out 2).trans rfl; have hfz65_0 := blk_frozen BK160.out 0; have hfz65_1 := blk_frozen BK160.out 1; have hfz65_2 := blk_frozen BK160.out 2; have hnb66 := NB161_151.out; have hnc66 := NB151_161.out; have hnb67 := NB161_152.out; have hnc67 := NB152_161.out; have hcz68_0 : w60.cell? ⟨gb161, 0, none⟩ = some (.int .i64 0) := (blk_cell BK161.out 0).trans rfl; have hcz68_1 : w60.cell? ⟨gb161, 1, none⟩ = some (.int .i64 0) := (blk_cell BK161.out 1).trans rfl; have hfz68_0 := blk_frozen BK161.out 0; have hfz68_1 := blk_frozen BK161.out 1; have hcz69_0 : w60.cell? ⟨gb152, 0, none⟩ = some (.int .i64 t149) := (blk_cell BK152.out 0).trans rfl; have hcz69_1 : w60.cell? ⟨gb152, 1, none⟩ = some (.int .i64 t150) := (blk_cell BK152.out 1).trans rfl; have hfz69_0 := blk_frozen BK152.out 0; have hfz69_1 := blk_frozen BK152.out 1; have hcz70_0 : w60.cell? ⟨gb151, 0, none⟩ = some (.slice Ao54 t144.length co54) := (blk_cell BK151.out 0).trans rfl; have hcz70_1 : w60.cell? ⟨gb151, 1, none⟩ = some (.bool t147) := (blk_cell BK151.out 1).trans rfl; have hcz70_2 : w60.cell? ⟨gb151, 2, none⟩ = some (.int .i64 t148) := (blk_cell BK151.out 2).trans rfl; have hfz70_0 := blk_frozen BK151.out 0; have hfz70_1 := blk_frozen BK151.out 1; have hfz70_2 := blk_frozen BK151.out 2) | (go_at_call 16; (with_reducible refine (epactref09_Same.calls _ _ t144 t147 t148 _ _ t153 t156 t157 true _ ?side1 ?side2 ?side3 ?side4 A49.out).mono ?_); (case side1 => refine (Kd.R_reads' (e := 46) (base := w.heap.size) (ok := fun k_ => (True ∧ some k_ ≠ (.slice Ao61 t153.length co61 : Value).ownBlock)) (n := t144.length) (c := co54) ?_).2.2; exact (by (with_reducible repeat (first | apply Kd.R_alloc | apply Kd.R_drewN | apply Kd.R_drew)); exact (Kd.R_mono (Kd.R_mono (Kd.R_mono (Kd.R_far (p := ⟨gb152, 0, none⟩) (Kd.R_far (p := ⟨gb161, 1, none⟩) (Kd.R_far (p := ⟨gb161, 0, none⟩) (Kd.R_far (p := ⟨gb160, 2, none⟩) (Kd.R_far (p := ⟨gb160, 1, none⟩) (Kd.R_far (p := ⟨gb160, 0, none⟩) (Kd.R_types (Kd.R_types (Kd.R_types HO146.out BK160.out (by decide)) BK161.out (by decide)) BK152.out (by decide)) (fun _ hk => hk.1.1.2) (.slice Ao61 t153.length co61)) (fun _ hk => hk.1.1.2) (.bool t156)) (fun _ hk => hk.1.1.2) (.int .i64 t157)) (fun _ hk => hk.1.2) (.int .i64 t158)) (fun _ hk => hk.1.2) (.int .i64 t159)) (fun _ hk => hk.2) (.int .i64 (wrap64 (t149 + 1)))) (fun _ h_ => h_.1)) (fun _ h_ => h_.1)) (fun _ h_ => h_.1)))); (case side2 => exact (Kd.R_reads' HO146.out).2.1); (case side3 => refine (Kd.R_reads' (e := 46) (base := w.heap.size) (ok := fun k_ => (True ∧ some k_ ≠ (.slice Ao54 t144.length co54 : Value).ownBlock)) (n := t153.length) (c := co61) ?_).2.2; exact (by (with_reducible repeat (first | apply Kd.R_alloc | apply Kd.R_drewN | apply Kd.R_drew)); exact (Kd.R_mono (Kd.R_mono (Kd.R_mono (Kd.R_far (p := ⟨gb152, 0, none⟩) (Kd.R_far (p := ⟨gb161, 1, none⟩) (Kd.R_far (p := ⟨gb161, 0, none⟩) (Kd.R_far (p := ⟨gb160, 2, none⟩) (Kd.R_far (p := ⟨gb160, 1, none⟩) (Kd.R_far (p := ⟨gb160, 0, none⟩) (Kd.R_types (Kd.R_types (Kd.R_types HO155.out BK160.out (by decide)) BK161.out (by decide)) BK152.out (by decide)) (fun _ hk => hk.1.1.2) (.slice Ao61 t153.length co61)) (fun _ hk => hk.1.1.2) (.bool t156)) (fun _ hk => hk.1.1.2) (.int .i64 t157)) (fun _ hk => hk.1.2) (.int .i64 t158)) (fun _ hk => hk.1.2) (.int .i64 t159)) (fun _ hk => hk.2) (.int .i64 (wrap64 (t149 + 1)))) (fun _ h_ => h_.1)) (fun _ h_ => h_.1)) (fun _ h_ => h_.1)))); (case side4 => exact (Kd.R_reads' HO155.out).2.1); rintro e w71 ⟨rfl, hb⟩; have n0_ := Aside0.mk (Kd.R_below (by (with_reducible repeat (first | apply Kd.R_alloc | apply Kd.R_drewN | apply Kd.R_drew)); exact (Kd.R_mono (Kd.R_mono (Kd.R_mono (Kd.R_far (p := ⟨gb152, 0, none⟩) (Kd.R_far (p := ⟨gb161, 1, none⟩) (Kd.R_far (p := ⟨gb161, 0, none⟩) (Kd.R_far (p := ⟨gb160, 2, none⟩) (Kd.R_far (p := ⟨gb160, 1, none⟩) (Kd.R_far (p := ⟨gb160, 0, none⟩) (Kd.R_types (Kd.R_types (Kd.R_types HO146.out BK160.out (by decide)) BK161.out (by decide)) BK152.out (by decide)) (fun _ hk => hk.1.1.2) (.slice Ao61 t153.length co61)) (fun _ hk => hk.1.1.2) (.bool t156)) (fun _ hk => hk.1.1.2) (.int .i64 t157)) (fun _ hk => hk.1.2) (.int .i64 t158)) (fun _ hk => hk.1.2) (.int .i64 t159)) (fun _ hk => hk.2) (.int .i64 (wrap64 (t149 + 1)))) (fun _ h_ => h_.1)) (fun _ h_ => h_.1)) (fun _ h_ => h_.1))) hb); have n1_ := Aside0.mk (Kd.R_below (by (with_reducible repeat (first | apply Kd.R_alloc | apply Kd.R_drewN | apply Kd.R_drew)); exact (Kd.R_mono (Kd.R_mono (Kd.R_mono (Kd.R_far (p := ⟨gb152, 0, none⟩) (Kd.R_far (p := ⟨gb161, 1, none⟩) (Kd.R_far (p := ⟨gb161, 0, none⟩) (Kd.R_far (p := ⟨gb160, 2, none⟩) (Kd.R_far (p := ⟨gb160, 1, none⟩) (Kd.R_far (p := ⟨gb160, 0, none⟩) (Kd.R_types (Kd.R_types (Kd.R_types HO155.out BK160.out (by decide)) BK161.out (by decide)) BK152.out (by decide)) (fun _ hk => hk.1.1.2) (.slice Ao61 t153.length co61)) (fun _ hk => hk.1.1.2) (.bool t156)) (fun _ hk => hk.1.1.2) (.int .i64 t157)) (fun _ hk => hk.1.2) (.int .i64 t158)) (fun _ hk => hk.1.2) (.int .i64 t159)) (fun _ hk => hk.2) (.int .i64 (wrap64 (t149 + 1)))) (fun _ h_ => h_.1)) (fun _ h_ => h_.1)) (fun _ h_ => h_.1))) hb); have n2_ := Aside0.mk (blk_below (g := gb151) (o := .cells #[.slice Ao54 t144.length co54, .bool t147, .int .i64 t148] 24 (0, 0)) (by (with_reducible repeat (first | refine blk_drewN ?_ _ | refine blk_drew ?_ | refine blk_alloc ?_ _)); refine blk_far ?_ NB151_152.out _; (with_reducible repeat (first | refine blk_drewN ?_ _ | refine blk_drew ?_ | refine blk_alloc ?_ _)); refine blk_far ?_ NB151_161.out _; (with_reducible repeat (first | refine blk_drewN ?_ _ | refine blk_drew ?_ | refine blk_alloc ?_ _)); refine blk_far ?_ NB151_161.out _; (with_reducible repeat (first | refine blk_drewN ?_ _ | refine blk_drew ?_ | refine blk_alloc ?_ _)); refine blk_far ?_ NB151_160.out _; (with_reducible repeat (first | refine blk_drewN ?_ _ | refine blk_drew ?_ | refine blk_alloc ?_ _)); refine blk_far ?_ NB151_160.out _; (with_reducible repeat (first | refine blk_drewN ?_ _ | refine blk_drew ?_ | refine blk_alloc ?_ _)); refine blk_far ?_ NB151_160.out _; (with_reducible repeat (first | refine blk_drewN ?_ _ | refine blk_drew ?_ | refine blk_alloc ?_ _)); exact BK151.out) hb); have n3_ := Aside0.mk (blk_below (g := gb152) (o := .cells #[.int .i64 (wrap64 (t149 + 1)), .int .i64 t150] 31 (0, 0)) (by (with_reducible repeat (first | refine blk_drewN ?_ _ | refine blk_drew ?_ | refine blk_alloc ?_ _)); refine blk_put (cs := #[.int .i64 t149, .int .i64 t150]) ?_ 0 _ rfl; (with_reducible repeat (first | refine blk_drewN ?_ _ | refine blk_drew ?_ | refine blk_alloc ?_ _)); refine blk_far ?_ NB152_161.out _; (with_reducible repeat (first | refine blk_drewN ?_ _ | refine blk_drew ?_ | refine blk_alloc ?_ _)); refine blk_far ?_ NB152_161.out _; (with_reducible repeat (first | refine blk_drewN ?_ _ | refine blk_drew ?_ | refine blk_alloc ?_ _)); refine blk_far ?_ NB152_160.out _; (with_reducible repeat (first | refine blk_drewN ?_ _ | refine blk_drew ?_ | refine blk_alloc ?_ _)); refine blk_far ?_ NB152_160.out _; (with_reducible repeat (first | refine blk_drewN ?_ _ | refine blk_drew ?_ | refine blk_alloc ?_ _)); refine blk_far ?_ NB152_160.out _; (with_reducible repeat (first | refine blk_drewN ?_ _ | refine blk_drew ?_ | refine blk_alloc ?_ _)); exact BK152.out) hb); have n4_ := Aside0.mk (blk_below (g := gb160) (o := .cells #[.slice Ao61 t153.length co61, .bool t156, .int .i64 t157] 24 (0, 0)) (by (with_reducible repeat (first | refine blk_drewN ?_ _ | refine blk_drew ?_ | refine blk_alloc ?_ _)); refine blk_far ?_ NB160_152.out _; (with_reducible repeat (first | refine blk_drewN ?_ _ | refine blk_drew ?_ | refine blk_alloc ?_ _)); refine blk_far ?_ NB160_161.out _; (with_reducible repeat (first | refine blk_drewN ?_ _ | refine blk_drew ?_ | refine blk_alloc ?_ _)); refine blk_far ?_ NB160_161.out _; (with_reducible repeat (first | refine blk_drewN ?_ _ | refine blk_drew ?_ | refine blk_alloc ?_ _)); refine blk_put (cs := #[.slice Ao61 t153.length co61, .bool t156, .int .i64 0]) ?_ 2 _ rfl; (with_reducible repeat (first | refine blk_drewN ?_ _ | refine blk_drew ?_ | refine blk_alloc ?_ _)); refine blk_put (cs := #[.slice Ao61 t153.length co61, .bool false, .int .i64 0]) ?_ 1 _ rfl; (with_reducible repeat (first | refine blk_drewN ?_ _ | refine blk_drew ?_ | refine blk_alloc ?_ _)); refine blk_put (cs := #[.slice none 0 0, .bool false, .int .i64 0]) ?_ 0 _ rfl; (with_reducible repeat (first | refine blk_drewN ?_ _ | refine blk_drew ?_ | refine blk_alloc ?_ _)); exact BK160.out) hb); have n5_ := Aside0.mk (blk_below (g := gb161) (o := .cells #[.int .i64 t158, .int .i64 t159] 31 (0, 0)) (by (with_reducible repeat (first | refine blk_drewN ?_ _ | refine blk_drew ?_ | refine blk_alloc ?_ _)); refine blk_far ?_ NB161_152.out _; (with_reducible repeat (first | refine blk_drewN ?_ _ | refine blk_drew ?_ | refine blk_alloc ?_ _)); refine blk_put (cs := #[.int .i64 t158, .int .i64 0]) ?_ 1 _ rfl; (with_reducible repeat (first | refine blk_drewN ?_ _ | refine blk_drew ?_ | refine blk_alloc ?_ _)); refine blk_put (cs := #[.int .i64 0, .int .i64 0]) ?_ 0 _ rfl; (with_reducible repeat (first | refine blk_drewN ?_ _ | refine blk_drew ?_ | refine blk_alloc ?_ _)); refine blk_far ?_ NB161_160.out _; (with_reducible repeat (first | refine blk_drewN ?_ _ | refine blk_drew ?_ | refine blk_alloc ?_ _)); refine blk_far ?_ NB161_160.out _; (with_reducible repeat (first | refine blk_drewN ?_ _ | refine blk_drew ?_ | refine blk_alloc ?_ _)); refine blk_far ?_ NB161_160.out _; (with_reducible repeat (first | refine blk_drewN ?_ _ | refine blk_drew ?_ | refine blk_alloc ?_ _)); exact BK161.out) hb); have n6_ := Aside0.mk (below_step (by repeat (first | (with_reducible first | exact HB.out | apply below_alloc | apply pw_below_drewN | apply below_drew1 | refine below_set ?_ GE151.out | refine below_set ?_ GE152.out | refine below_set ?_ GE160.out | refine below_set ?_ GE161.out) | exact HB.out)) hb); clear HO146; clear HO155; clear BK151; clear BK152; clear BK160; clear BK161; clear HB; have HO146 := n0_; have HO155 := n1_; have BK151 := n2_; have BK152 := n3_; have BK160 := n4_; have BK161 := n5_; have HB := n6_; clear n0_ n1_ n2_ n3_ n4_ n5_ n6_; (try clear hb); (try clear hb2); (try clear hk); (try clear hi); have hcz72_0 : w71.cell? ⟨gb152, 0, none⟩ = some (.int .i64 (wrap64 (t149 + 1))) := (blk_cell BK152.out 0).trans rfl; have hcz72_1 : w71.cell? ⟨gb152, 1, none⟩ = some (.int .i64 t150) := (blk_cell BK152.out 1).trans rfl; have hfz72_0 := blk_frozen BK152.out 0; have hfz72_1 := blk_frozen BK152.out 1; have hcz73_0 : w71.cell? ⟨gb161, 0, none⟩ = some (.int .i64 t158) := (blk_cell BK161.out 0).trans rfl; have hcz73_1 : w71.cell? ⟨gb161, 1, none⟩ = some (.int .i64 t159) := (blk_cell BK161.out 1).trans rfl; have hfz73_0 := blk_frozen BK161.out 0; have hfz73_1 := blk_frozen BK161.out 1))
                                go_ret
                                exact ⟨by first | rfl | (simp [errW_none, errW_some] <;> rfl) | (simp [*, errW_none, errW_some] <;> rfl), by repeat (first | (with_reducible first | exact HB.out | apply below_alloc | apply pw_below_drewN | apply below_drew1 | refine below_set ?_ GE151.out | refine below_set ?_ GE152.out | refine below_set ?_ GE160.out | refine below_set ?_ GE161.out) | exact HB.out)⟩
                              · replace c50 := Bool.eq_false_iff.mpr c50
                                subst c50
                                have H1 : (some false) = some r := by rw [if_neg (show ¬ (false = true) by decide)] at H; exact H
                                clear H
                                have H := H1
                                clear H1
                                exact absurd ((Option.some.inj H).trans hr_.out) (by decide)
                            · replace c48 := Bool.eq_false_iff.mpr c48
                              subst c48
                              have H1 : (some false) = some r := by rw [if_neg (show ¬ (false = true) by decide)] at H; exact H
                              clear H
                              have H := H1
                              clear H1
                              exact absurd ((Option.some.inj H).trans hr_.out) (by decide)
                          · rw [if_neg c47] at H
                            have c47b0 : decide (a2 < t149) = false := decide_eq_false c47
                            clear c47
                            by_cases c74 : t134 = true
                            · subst c74
                              have H1 : ((epactref09_Same.f t144 t147 t148 t153 t156 t157).bind fun t163 => (if t163 = true then (some (t149 == t158 && (t150 == t159))) else (some false))) = some r := by rw [if_pos rfl] at H; exact H
                              clear H
                              have H := H1
                              clear H1
                              replace H := Option.bind_eq_some_iff.mp H
                              obtain ⟨t163, A750, H⟩ := H
                              replace H : (if t163 = true then (some (t149 == t158 && (t150 == t159))) else (some false)) = some r := H
                              have A75 := Aside0.mk A750
                              clear A750
                              by_cases c76 : t163 = true
                              · subst c76
                                have H1 : (some (t149 == t158 && (t150 == t159))) = some r := by rw [if_pos rfl] at H; exact H
                                clear H
                                have H := H1
                                clear H1
                                obtain rfl := Option.some.inj H
                                go_wp2_with (first | ((with_reducible refine gate_callee (f := 15) rfl ?_); refine goesL_ (some 110) rfl rfl Tryd.func15 (by kernel_rfl) rfl #[.string a0] rfl (by (try simp only [List.map_toArray, List.map_cons, List.map_nil]); first | done | rfl | (simp only [List.length_drop, List.length_take]; rfl)) ?_; (with_reducible refine (zic_Parse.calls a0 t144 t147 t148 t149 t150 _ A45.out).mono ?_); rintro e w77 ⟨v145, rfl, ho0, hb⟩; refine ⟨_, rfl, ?_⟩; have n0_ := Aside0.mk (Kd.R_lower ho0 (below_size (by repeat (first | (with_reducible first | exact HB.out | apply below_alloc | apply pw_below_drewN | apply below_drew1) | exact HB.out)))); have n1_ := Aside0.mk (below_step (by repeat (first | (with_reducible first | exact HB.out | apply below_alloc | apply pw_below_drewN | apply below_drew1) | exact HB.out)) hb); clear HB; have HO146 := n0_; have HB := n1_; clear n0_ n1_; (try clear hb); (try clear hb2); (try clear hk); (try clear hi); (try clear ho0)) | ((with_reducible refine gate_dst (N := 15) rfl ?_); (try (refine gate_guard (by rfl) ?_; dsimp only)); refine box_event ?hg (N := 15) ?hd (cs := #[.slice none 0 0, .bool false, .int .i64 0]) (t := 24) ?hr ?_; (case hd => rfl); (case hg => rfl); (case hr => first | (go_simp; done) | (go_simp; rfl)); intro gb151 hg w78 hbox hb; have n0_ := Aside0.mk (Kd.R_below (by (with_reducible repeat (first | apply Kd.R_alloc | apply Kd.R_drewN | apply Kd.R_drew)); exact HO146.out) hb); have n1_ := Aside0.mk (below_step (by repeat (first | (with_reducible first | exact HB.out | apply below_alloc | apply pw_below_drewN | apply below_drew1) | exact HB.out)) hb); have n2_ := Aside0.mk (hbox); have n3_ := Aside0.mk ((by rw [hg]; exact (below_size (by repeat (first | (with_reducible first | exact HB.out | apply below_alloc | apply pw_below_drewN | apply below_drew1) | exact HB.out))) : w.heap.size ≤ gb151)); have n4_ := Aside0.mk ((by rw [hg]; exact (below_size (by repeat (first | (with_reducible first | exact HB.out | apply below_alloc | apply pw_below_drewN | apply below_drew1) | exact HB.out))) : w.heap.size ≤ gb151)); clear HO146; clear HB; have HO146 := n0_; have HB := n1_; have BK151 := n2_; have GW151 := n3_; have GE151 := n4_; clear n0_ n1_ n2_ n3_ n4_; clear hb hbox hg) | ((with_reducible refine gate_dst (N := 16) rfl ?_); (try (refine gate_guard (by rfl) ?_; dsimp only)); refine box_event ?hg (N := 16) ?hd (cs := #[.int .i64 0, .int .i64 0]) (t := 31) ?hr ?_; (case hd => rfl); (case hg => rfl); (case hr => first | (go_simp; done) | (go_simp; rfl)); intro gb152 hg w79 hbox hb; have n0_ := Aside0.mk (Kd.R_below (by (with_reducible repeat (first | apply Kd.R_alloc | apply Kd.R_drewN | apply Kd.R_drew)); exact HO146.out) hb); have n1_ := Aside0.mk (blk_below (g := gb151) (o := .cells #[.slice none 0 0, .bool false, .int .i64 0] 24 (0, 0)) (by (with_reducible repeat (first | refine blk_drewN ?_ _ | refine blk_drew ?_ | refine blk_alloc ?_ _)); exact BK151.out) hb); have n2_ := Aside0.mk (below_step (by repeat (first | (with_reducible first | exact HB.out | apply below_alloc | apply pw_below_drewN | apply below_drew1 | refine below_set ?_ GE151.out) | exact HB.out)) hb); have n3_ := Aside0.mk (hbox); have n4_ := Aside0.mk ((by rw [hg]; exact (below_size (by repeat (first | (with_reducible first | exact HB.out | apply below_alloc | apply pw_below_drewN | apply below_drew1 | refine below_set ?_ GE151.out) | exact HB.out))) : w.heap.size ≤ gb152)); have n5_ := Aside0.mk ((by rw [hg]; exact (below_size (by repeat (first | (with_reducible first | exact HB.out | apply below_alloc | apply pw_below_drewN | apply below_drew1 | refine below_set ?_ GE151.out) | exact HB.out))) : w.heap.size ≤ gb152)); have n6_ := Aside0.mk ((by rw [hg]; exact Nat.ne_of_lt (blk_lt (g := gb151) (o := .cells #[.slice none 0 0, .bool false, .int .i64 0] 24 (0, 0)) (by (with_reducible repeat (first | refine blk_drewN ?_ _ | refine blk_drew ?_ | refine blk_alloc ?_ _)); exact BK151.out)) : gb151 ≠ gb152)); have n7_ := Aside0.mk ((by rw [hg]; exact Nat.ne_of_gt (blk_lt (g := gb151) (o := .cells #[.slice none 0 0, .bool false, .int .i64 0] 24 (0, 0)) (by (with_reducible repeat (first | refine blk_drewN ?_ _ | refine blk_drew ?_ | refine blk_alloc ?_ _)); exact BK151.out)) : gb152 ≠ gb151)); clear HO146; clear BK151; clear HB; have HO146 := n0_; have BK151 := n1_; have HB := n2_; have BK152 := n3_; have GW152 := n4_; have GE152 := n5_; have NB151_152 := n6_; have NB152_151 := n7_; clear n0_ n1_ n2_ n3_ n4_ n5_ n6_ n7_; clear hb hbox hg; obtain ⟨Ao80, co80, eo80⟩ := Kd.R_slice HO146.out; subst eo80; have hnb81 := NB151_152.out; have hnc81 := NB152_151.out; have hcz82_0 : w79.cell? ⟨gb151, 0, none⟩ = some (.slice none 0 0) := (blk_cell BK151.out 0).trans rfl; have hcz82_1 : w79.cell? ⟨gb151, 1, none⟩ = some (.bool false) := (blk_cell BK151.out 1).trans rfl; have hcz82_2 : w79.cell? ⟨gb151, 2, none⟩ = some (.int .i64 0) := (blk_cell BK151.out 2).trans rfl; have hfz82_0 := blk_frozen BK151.out 0; have hfz82_1 := blk_frozen BK151.out 1; have hfz82_2 := blk_frozen BK151.out 2; have hcz83_0 : w79.cell? ⟨gb152, 0, none⟩ = some (.int .i64 0) := (blk_cell BK152.out 0).trans rfl; have hcz83_1 : w79.cell? ⟨gb152, 1, none⟩ = some (.int .i64 0) := (blk_cell BK152.out 1).trans rfl; have hfz83_0 := blk_frozen BK152.out 0; have hfz83_1 := blk_frozen BK152.out 1) | ((with_reducible refine gate_callee (f := 15) rfl ?_); refine goesL_ (some 115) rfl rfl Tryd.func15 (by kernel_rfl) rfl #[.string x10_3] rfl (by (try simp only [List.map_toArray, List.map_cons, List.map_nil]); first | done | rfl | (simp only [List.length_drop, List.length_take]; rfl)) ?_; (with_reducible refine (zic_Parse.calls x10_3 t153 t156 t157 t158 t159 _ A46.out).mono ?_); rintro e w84 ⟨v154, rfl, ho0, hb⟩; refine ⟨_, rfl, ?_⟩; have n0_ := Aside0.mk (Kd.R_elder' (by (with_reducible repeat (first | apply Kd.R_alloc | apply Kd.R_drewN | apply Kd.R_drew)); exact (Kd.R_mono (Kd.R_mono (Kd.R_far (p := ⟨gb152, 1, none⟩) (Kd.R_far (p := ⟨gb152, 0, none⟩) (Kd.R_far (p := ⟨gb151, 2, none⟩) (Kd.R_far (p := ⟨gb151, 1, none⟩) (Kd.R_far (p := ⟨gb151, 0, none⟩) (Kd.R_types (Kd.R_types HO146.out BK151.out (by decide)) BK152.out (by decide)) (fun _ hk => hk.1.2) (.slice Ao80 t144.length co80)) (fun _ hk => hk.1.2) (.bool t147)) (fun _ hk => hk.1.2) (.int .i64 t148)) (fun _ hk => hk.2) (.int .i64 t149)) (fun _ hk => hk.2) (.int .i64 t150)) (fun _ h_ => h_.1)) (fun _ h_ => h_.1))) (Kd.R_base ho0) hb); have n1_ := Aside0.mk (Kd.R_lower (Kd.R_new' ho0 (Kd.R_lt (by (with_reducible repeat (first | apply Kd.R_alloc | apply Kd.R_drewN | apply Kd.R_drew)); exact (Kd.R_mono (Kd.R_mono (Kd.R_far (p := ⟨gb152, 1, none⟩) (Kd.R_far (p := ⟨gb152, 0, none⟩) (Kd.R_far (p := ⟨gb151, 2, none⟩) (Kd.R_far (p := ⟨gb151, 1, none⟩) (Kd.R_far (p := ⟨gb151, 0, none⟩) (Kd.R_types (Kd.R_types HO146.out BK151.out (by decide)) BK152.out (by decide)) (fun _ hk => hk.1.2) (.slice Ao80 t144.length co80)) (fun _ hk => hk.1.2) (.bool t147)) (fun _ hk => hk.1.2) (.int .i64 t148)) (fun _ hk => hk.2) (.int .i64 t149)) (fun _ hk => hk.2) (.int .i64 t150)) (fun _ h_ => h_.1)) (fun _ h_ => h_.1))))) (below_size (by repeat (first | (with_reducible first | exact HB.out | apply below_alloc | apply pw_below_drewN | apply below_drew1 | refine below_set ?_ GE151.out | refine below_set ?_ GE152.out) | exact HB.out)))); have n2_ := Aside0.mk (blk_below (g := gb151) (o := .cells #[.slice Ao80 t144.length co80, .bool t147, .int .i64 t148] 24 (0, 0)) (by (with_reducible repeat (first | refine blk_drewN ?_ _ | refine blk_drew ?_ | refine blk_alloc ?_ _)); refine blk_far ?_ NB151_152.out _; (with_reducible repeat (first | refine blk_drewN ?_ _ | refine blk_drew ?_ | refine blk_alloc ?_ _)); refine blk_far ?_ NB151_152.out _; (with_reducible repeat (first | refine blk_drewN ?_ _ | refine blk_drew ?_ | refine blk_alloc ?_ _)); refine blk_put (cs := #[.slice Ao80 t144.length co80, .bool t147, .int .i64 0]) ?_ 2 _ rfl; (with_reducible repeat (first | refine blk_drewN ?_ _ | refine blk_drew ?_ | refine blk_alloc ?_ _)); refine blk_put (cs := #[.slice Ao80 t144.length co80, .bool false, .int .i64 0]) ?_ 1 _ rfl; (with_reducible repeat (first | refine blk_drewN ?_ _ | refine blk_drew ?_ | refine blk_alloc ?_ _)); refine blk_put (cs := #[.slice none 0 0, .bool false, .int .i64 0]) ?_ 0 _ rfl; (with_reducible repeat (first | refine blk_drewN ?_ _ | refine blk_drew ?_ | refine blk_alloc ?_ _)); exact BK151.out) hb); have n3_ := Aside0.mk (blk_below (g := gb152) (o := .cells #[.int .i64 t149, .int .i64 t150] 31 (0, 0)) (by (with_reducible repeat (first | refine blk_drewN ?_ _ | refine blk_drew ?_ | refine blk_alloc ?_ _)); refine blk_put (cs := #[.int .i64 t149, .int .i64 0]) ?_ 1 _ rfl; (with_reducible repeat (first | refine blk_drewN ?_ _ | refine blk_drew ?_ | refine blk_alloc ?_ _)); refine blk_put (cs := #[.int .i64 0, .int .i64 0]) ?_ 0 _ rfl; (with_reducible repeat (first | refine blk_drewN ?_ _ | refine blk_drew ?_ | refine blk_alloc ?_ _)); refine blk_far ?_ NB152_151.out _; (with_reducible repeat (first | refine blk_drewN ?_ _ | refine blk_drew ?_ | refine blk_alloc ?_ _)); refine blk_far ?_ NB152_151.out _; (with_reducible repeat (first | refine blk_drewN ?_ _ | refine blk_drew ?_ | refine blk_alloc ?_ _)); refine blk_far ?_ NB152_151.out _; (with_reducible repeat (first | refine blk_drewN ?_ _ | refine blk_drew ?_ | refine blk_alloc ?_ _)); exact BK152.out) hb); have n4_ := Aside0.mk (below_step (by repeat (first | (with_reducible first | exact HB.out | apply below_alloc | apply pw_below_drewN | apply below_drew1 | refine below_set ?_ GE151.out | refine below_set ?_ GE152.out) | exact HB.out)) hb); clear HO146; clear BK151; clear BK152; clear HB; have HO146 := n0_; have HO155 := n1_; have BK151 := n2_; have BK152 := n3_; have HB := n4_; clear n0_ n1_ n2_ n3_ n4_; (try clear hb); (try clear hb2); (try clear hk); (try clear hi); (try clear ho0)) | ((with_reducible refine gate_dst (N := 17) rfl ?_); (try (refine gate_guard (by rfl) ?_; dsimp only)); refine box_event ?hg (N := 17) ?hd (cs := #[.slice none 0 0, .bool false, .int .i64 0]) (t := 24) ?hr ?_; (case hd => rfl); (case hg => rfl); (case hr => first | (go_simp; done) | (go_simp; rfl)); intro gb160 hg w85 hbox hb; have n0_ := Aside0.mk (Kd.R_below (by (with_reducible repeat (first | apply Kd.R_alloc | apply Kd.R_drewN | apply Kd.R_drew)); exact HO146.out) hb); have n1_ := Aside0.mk (Kd.R_below (by (with_reducible repeat (first | apply Kd.R_alloc | apply Kd.R_drewN | apply Kd.R_drew)); exact HO155.out) hb); have n2_ := Aside0.mk (blk_below (g := gb151) (o := .cells #[.slice Ao80 t144.length co80, .bool t147, .int .i64 t148] 24 (0, 0)) (by (with_reducible repeat (first | refine blk_drewN ?_ _ | refine blk_drew ?_ | refine blk_alloc ?_ _)); exact BK151.out) hb); have n3_ := Aside0.mk (blk_below (g := gb152) (o := .cells #[.int .i64 t149, .int .i64 t150] 31 (0, 0)) (by (with_reducible repeat (first | refine blk_drewN ?_ _ | refine blk_drew ?_ | refine blk_alloc ?_ _)); exact BK152.out) hb); have n4_ := Aside0.mk (below_step (by repeat (first | (with_reducible first | exact HB.out | apply below_alloc | apply pw_below_drewN | apply below_drew1 | refine below_set ?_ GE151.out | refine below_set ?_ GE152.out) | exact HB.out)) hb); have n5_ := Aside0.mk (hbox); have n6_ := Aside0.mk ((by rw [hg]; exact (below_size (by repeat (first | (with_reducible first | exact HB.out | apply below_alloc | apply pw_below_drewN | apply below_drew1 | refine below_set ?_ GE151.out | refine below_set ?_ GE152.out) | exact HB.out))) : w.heap.size ≤ gb160)); have n7_ := Aside0.mk ((by rw [hg]; exact (below_size (by repeat (first | (with_reducible first | exact HB.out | apply below_alloc | apply pw_below_drewN | apply below_drew1 | refine below_set ?_ GE151.out | refine below_set ?_ GE152.out) | exact HB.out))) : w.heap.size ≤ gb160)); have n8_ := Aside0.mk ((by rw [hg]; exact Nat.ne_of_lt (blk_lt (g := gb151) (o := .cells #[.slice Ao80 t144.length co80, .bool t147, .int .i64 t148] 24 (0, 0)) (by (with_reducible repeat (first | refine blk_drewN ?_ _ | refine blk_drew ?_ | refine blk_alloc ?_ _)); exact BK151.out)) : gb151 ≠ gb160)); have n9_ := Aside0.mk ((by rw [hg]; exact Nat.ne_of_gt (blk_lt (g := gb151) (o := .cells #[.slice Ao80 t144.length co80, .bool t147, .int .i64 t148] 24 (0, 0)) (by (with_reducible repeat (first | refine blk_drewN ?_ _ | refine blk_drew ?_ | refine blk_alloc ?_ _)); exact BK151.out)) : gb160 ≠ gb151)); have n10_ := Aside0.mk ((by rw [hg]; exact Nat.ne_of_lt (blk_lt (g := gb152) (o := .cells #[.int .i64 t149, .int .i64 t150] 31 (0, 0)) (by (with_reducible repeat (first | refine blk_drewN ?_ _ | refine blk_drew ?_ | refine blk_alloc ?_ _)); exact BK152.out)) : gb152 ≠ gb160)); have n11_ := Aside0.mk ((by rw [hg]; exact Nat.ne_of_gt (blk_lt (g := gb152) (o := .cells #[.int .i64 t149, .int .i64 t150] 31 (0, 0)) (by (with_reducible repeat (first | refine blk_drewN ?_ _ | refine blk_drew ?_ | refine blk_alloc ?_ _)); exact BK152.out)) : gb160 ≠ gb152)); clear HO146; clear HO155; clear BK151; clear BK152; clear HB; have HO146 := n0_; have HO155 := n1_; have BK151 := n2_; have BK152 := n3_; have HB := n4_; have BK160 := n5_; have GW160 := n6_; have GE160 := n7_; have NB151_160 := n8_; have NB160_151 := n9_; have NB152_160 := n10_; have NB160_152 := n11_; clear n0_ n1_ n2_ n3_ n4_ n5_ n6_ n7_ n8_ n9_ n10_ n11_; clear hb hbox hg) | ((with_reducible refine gate_dst (N := 18) rfl ?_); (try (refine gate_guard (by rfl) ?_; dsimp only)); refine box_event ?hg (N := 18) ?hd (cs := #[.int .i64 0, .int .i64 0]) (t := 31) ?hr ?_; (case hd => rfl); (case hg => rfl); (case hr => first | (go_simp; done) | (go_simp; rfl)); intro gb161 hg w86 hbox hb; have n0_ := Aside0.mk (Kd.R_below (by (with_reducible repeat (first | apply Kd.R_alloc | apply Kd.R_drewN | apply Kd.R_drew)); exact HO146.out) hb); have n1_ := Aside0.mk (Kd.R_below (by (with_reducible repeat (first | apply Kd.R_alloc | apply Kd.R_drewN | apply Kd.R_drew)); exact HO155.out) hb); have n2_ := Aside0.mk (blk_below (g := gb151) (o := .cells #[.slice Ao80 t144.length co80, .bool t147, .int .i64 t148] 24 (0, 0)) (by (with_reducible repeat (first | refine blk_drewN ?_ _ | refine blk_drew ?_ | refine blk_alloc ?_ _)); exact BK151.out) hb); have n3_ := Aside0.mk (blk_below (g := gb152) (o := .cells #[.int .i64 t149, .int .i64 t150] 31 (0, 0)) (by (with_reducible repeat (first | refine blk_drewN ?_ _ | refine blk_drew ?_ | refine blk_alloc ?_ _)); exact BK152.out) hb); have n4_ := Aside0.mk (blk_below (g := gb160) (o := .cells #[.slice none 0 0, .bool false, .int .i64 0] 24 (0, 0)) (by (with_reducible repeat (first | refine blk_drewN ?_ _ | refine blk_drew ?_ | refine blk_alloc ?_ _)); exact BK160.out) hb); have n5_ := Aside0.mk (below_step (by repeat (first | (with_reducible first | exact HB.out | apply below_alloc | apply pw_below_drewN | apply below_drew1 | refine below_set ?_ GE151.out | refine below_set ?_ GE152.out | refine below_set ?_ GE160.out) | exact HB.out)) hb); have n6_ := Aside0.mk (hbox); have n7_ := Aside0.mk ((by rw [hg]; exact (below_size (by repeat (first | (with_reducible first | exact HB.out | apply below_alloc | apply pw_below_drewN | apply below_drew1 | refine below_set ?_ GE151.out | refine below_set ?_ GE152.out | refine below_set ?_ GE160.out) | exact HB.out))) : w.heap.size ≤ gb161)); have n8_ := Aside0.mk ((by rw [hg]; exact (below_size (by repeat (first | (with_reducible first | exact HB.out | apply below_alloc | apply pw_below_drewN | apply below_drew1 | refine below_set ?_ GE151.out | refine below_set ?_ GE152.out | refine below_set ?_ GE160.out) | exact HB.out))) : w.heap.size ≤ gb161)); have n9_ := Aside0.mk ((by rw [hg]; exact Nat.ne_of_lt (blk_lt (g := gb151) (o := .cells #[.slice Ao80 t144.length co80, .bool t147, .int .i64 t148] 24 (0, 0)) (by (with_reducible repeat (first | refine blk_drewN ?_ _ | refine blk_drew ?_ | refine blk_alloc ?_ _)); exact BK151.out)) : gb151 ≠ gb161)); have n10_ := Aside0.mk ((by rw [hg]; exact Nat.ne_of_gt (blk_lt (g := gb151) (o := .cells #[.slice Ao80 t144.length co80, .bool t147, .int .i64 t148] 24 (0, 0)) (by (with_reducible repeat (first | refine blk_drewN ?_ _ | refine blk_drew ?_ | refine blk_alloc ?_ _)); exact BK151.out)) : gb161 ≠ gb151)); have n11_ := Aside0.mk ((by rw [hg]; exact Nat.ne_of_lt (blk_lt (g := gb152) (o := .cells #[.int .i64 t149, .int .i64 t150] 31 (0, 0)) (by (with_reducible repeat (first | refine blk_drewN ?_ _ | refine blk_drew ?_ | refine blk_alloc ?_ _)); exact BK152.out)) : gb152 ≠ gb161)); have n12_ := Aside0.mk ((by rw [hg]; exact Nat.ne_of_gt (blk_lt (g := gb152) (o := .cells #[.int .i64 t149, .int .i64 t150] 31 (0, 0)) (by (with_reducible repeat (first | refine blk_drewN ?_ _ | refine blk_drew ?_ | refine blk_alloc ?_ _)); exact BK152.out)) : gb161 ≠ gb152)); have n13_ := Aside0.mk ((by rw [hg]; exact Nat.ne_of_lt (blk_lt (g := gb160) (o := .cells #[.slice none 0 0, .bool false, .int .i64 0] 24 (0, 0)) (by (with_reducible repeat (first | refine blk_drewN ?_ _ | refine blk_drew ?_ | refine blk_alloc ?_ _)); exact BK160.out)) : gb160 ≠ gb161)); have n14_ := Aside0.mk ((by rw [hg]; exact Nat.ne_of_gt (blk_lt (g := gb160) (o := .cells #[.slice none 0 0, .bool false, .int .i64 0] 24 (0, 0)) (by (with_reducible repeat (first | refine blk_drewN ?_ _ | refine blk_drew ?_ | refine blk_alloc ?_ _)); exact BK160.out)) : gb161 ≠ gb160)); clear HO146; clear HO155; clear BK151; clear BK152; clear BK160; clear HB; have HO146 := n0_; have HO155 := n1_; have BK151 := n2_; have BK152 := n3_; have BK160 := n4_; have HB := n5_; have BK161 := n6_; have GW161 := n7_; have GE161 := n8_; have NB151_161 := n9_; have NB161_151 := n10_; have NB152_161 := n11_; have NB161_152 := n12_; have NB160_161 := n13_; have NB161_160 := n14_; clear n0_ n1_ n2_ n3_ n4_ n5_ n6_ n7_ n8_ n9_ n10_ n11_ n12_ n13_ n14_; clear hb hbox hg; obtain ⟨Ao87, co87, eo87⟩ := Kd.R_slice HO155.out; subst eo87; have hnb88 := NB160_151.out; have hnc88 := NB151_160.out; have hnb89 := NB160_152.out; have hnc89 := NB152_160.out; have hnb90 := NB160_161.out; have hnc90 := NB161_160.out; have hcz91_0 : w86.cell? ⟨gb160, 0, none⟩ = some (.slice none 0 0) := (blk_cell BK160.out 0).trans rfl; have hcz91_1 : w86.cell? ⟨gb160, 1, none⟩ = some (.bool false) := (blk_cell BK160.out 1).trans rfl; have hcz91_2 : w86.cell? ⟨gb160, 2, none⟩ = some (.int .i64 0) := (blk_cell BK160.out 2).trans rfl; have hfz91_0 := blk_frozen BK160.out 0; have hfz91_1 := blk_frozen BK160.out 1; have hfz91_2 := blk_frozen BK160.out 2; have hnb92 := NB161_151.out; have hnc92 := NB151_161.out; have hnb93 := NB161_152.out; have hnc93 := NB152_161.out; have hcz94_0 : w86.cell? ⟨gb161, 0, none⟩ = some (.int .i64 0) := (blk_cell BK161.out 0).trans rfl; have hcz94_1 : w86.cell? ⟨gb161, 1, none⟩ = some (.int .i64 0) := (blk_cell BK161.out 1).trans rfl; have hfz94_0 := blk_frozen BK161.out 0; have hfz94_1 := blk_frozen BK161.out 1; have hcz95_0 : w86.cell? ⟨gb152, 0, none⟩ = some (.int .i64 t149) := (blk_cell BK152.out 0).trans rfl; have hcz95_1 : w86.cell? ⟨gb152, 1, none⟩ = some (.int .i64 t150) := (blk_cell BK152.out 1).trans rfl; have hfz95_0 := blk_frozen BK152.out 0; have hfz95_1 := blk_frozen BK152.out 1; have hcz96_0 : w86.cell? ⟨gb151, 0, none⟩ = some (.slice Ao80 t144.length co80) := (blk_cell BK151.out 0).trans rfl; have hcz96_1 : w86.cell? ⟨gb151, 1, none⟩ = some (.bool t147) := (blk_cell BK151.out 1).trans rfl; have hcz96_2 : w86.cell? ⟨gb151, 2, none⟩ = some (.int .i64 t148) := (blk_cell BK151.out 2).trans rfl; have hfz96_0 := blk_frozen BK151.out 0; have hfz96_1 := blk_frozen BK151.out 1; have hfz96_2 := blk_frozen BK151.out 2) | (go_at_call 16; (with_reducible refine (epactref09_Same.calls _ _ t144 t147 t148 _ _ t153 t156 t157 true _ ?side1 ?side2 ?side3 ?side4 A75.out).mono ?_); (case side1 => refine (Kd.R_reads' (e := 46) (base := w.heap.size) (ok := fun k_ => (True ∧ some k_ ≠ (.slice Ao87 t153.length co87 : Value).ownBlock)) (n := t144.length) (c := co80) ?_).2.2; exact (by (with_reducible repeat (first | apply Kd.R_alloc | apply Kd.R_drewN | apply Kd.R_drew)); exact (Kd.R_mono (Kd.R_mono (Kd.R_far (p := ⟨gb161, 1, none⟩) (Kd.R_far (p := ⟨gb161, 0, none⟩) (Kd.R_far (p := ⟨gb160, 2, none⟩) (Kd.R_far (p := ⟨gb160, 1, none⟩) (Kd.R_far (p := ⟨gb160, 0, none⟩) (Kd.R_types (Kd.R_types HO146.out BK160.out (by decide)) BK161.out (by decide)) (fun _ hk => hk.1.2) (.slice Ao87 t153.length co87)) (fun _ hk => hk.1.2) (.bool t156)) (fun _ hk => hk.1.2) (.int .i64 t157)) (fun _ hk => hk.2) (.int .i64 t158)) (fun _ hk => hk.2) (.int .i64 t159)) (fun _ h_ => h_.1)) (fun _ h_ => h_.1)))); (case side2 => exact (Kd.R_reads' HO146.out).2.1); (case side3 => refine (Kd.R_reads' (e := 46) (base := w.heap.size) (ok := fun k_ => (True ∧ some k_ ≠ (.slice Ao80 t144.length co80 : Value).ownBlock)) (n := t153.length) (c := co87) ?_).2.2; exact (by (with_reducible repeat (first | apply Kd.R_alloc | apply Kd.R_drewN | apply Kd.R_drew)); exact (Kd.R_mono (Kd.R_mono (Kd.R_far (p := ⟨gb161, 1, none⟩) (Kd.R_far (p := ⟨gb161, 0, none⟩) (Kd.R_far (p := ⟨gb160, 2, none⟩) (Kd.R_far (p := ⟨gb160, 1, none⟩) (Kd.R_far (p := ⟨gb160, 0, none⟩) (Kd.R_types (Kd.R_types HO155.out BK160.out (by decide)) BK161.out (by decide)) (fun _ hk => hk.1.2) (.slice Ao87 t153.length co87)) (fun _ hk => hk.1.2) (.bool t156)) (fun _ hk => hk.1.2) (.int .i64 t157)) (fun _ hk => hk.2) (.int .i64 t158)) (fun _ hk => hk.2) (.int .i64 t159)) (fun _ h_ => h_.1)) (fun _ h_ => h_.1)))); (case side4 => exact (Kd.R_reads' HO155.out).2.1); rintro e w97 ⟨rfl, hb⟩; have n0_ := Aside0.mk (Kd.R_below (by (with_reducible repeat (first | apply Kd.R_alloc | apply Kd.R_drewN | apply Kd.R_drew)); exact (Kd.R_mono (Kd.R_mono (Kd.R_far (p := ⟨gb161, 1, none⟩) (Kd.R_far (p := ⟨gb161, 0, none⟩) (Kd.R_far (p := ⟨gb160, 2, none⟩) (Kd.R_far (p := ⟨gb160, 1, none⟩) (Kd.R_far (p := ⟨gb160, 0, none⟩) (Kd.R_types (Kd.R_types HO146.out BK160.out (by decide)) BK161.out (by decide)) (fun _ hk => hk.1.2) (.slice Ao87 t153.length co87)) (fun _ hk => hk.1.2) (.bool t156)) (fun _ hk => hk.1.2) (.int .i64 t157)) (fun _ hk => hk.2) (.int .i64 t158)) (fun _ hk => hk.2) (.int .i64 t159)) (fun _ h_ => h_.1)) (fun _ h_ => h_.1))) hb); have n1_ := Aside0.mk (Kd.R_below (by (with_reducible repeat (first | apply Kd.R_alloc | apply Kd.R_drewN | apply Kd.R_drew)); exact (Kd.R_mono (Kd.R_mono (Kd.R_far (p := ⟨gb161, 1, none⟩) (Kd.R_far (p := ⟨gb161, 0, none⟩) (Kd.R_far (p := ⟨gb160, 2, none⟩) (Kd.R_far (p := ⟨gb160, 1, none⟩) (Kd.R_far (p := ⟨gb160, 0, none⟩) (Kd.R_types (Kd.R_types HO155.out BK160.out (by decide)) BK161.out (by decide)) (fun _ hk => hk.1.2) (.slice Ao87 t153.length co87)) (fun _ hk => hk.1.2) (.bool t156)) (fun _ hk => hk.1.2) (.int .i64 t157)) (fun _ hk => hk.2) (.int .i64 t158)) (fun _ hk => hk.2) (.int .i64 t159)) (fun _ h_ => h_.1)) (fun _ h_ => h_.1))) hb); have n2_ := Aside0.mk (blk_below (g := gb151) (o := .cells #[.slice Ao80 t144.length co80, .bool t147, .int .i64 t148] 24 (0, 0)) (by (with_reducible repeat (first | refine blk_drewN ?_ _ | refine blk_drew ?_ | refine blk_alloc ?_ _)); refine blk_far ?_ NB151_161.out _; (with_reducible repeat (first | refine blk_drewN ?_ _ | refine blk_drew ?_ | refine blk_alloc ?_ _)); refine blk_far ?_ NB151_161.out _; (with_reducible repeat (first | refine blk_drewN ?_ _ | refine blk_drew ?_ | refine blk_alloc ?_ _)); refine blk_far ?_ NB151_160.out _; (with_reducible repeat (first | refine blk_drewN ?_ _ | refine blk_drew ?_ | refine blk_alloc ?_ _)); refine blk_far ?_ NB151_160.out _; (with_reducible repeat (first | refine blk_drewN ?_ _ | refine blk_drew ?_ | refine blk_alloc ?_ _)); refine blk_far ?_ NB151_160.out _; (with_reducible repeat (first | refine blk_drewN ?_ _ | refine blk_drew ?_ | refine blk_alloc ?_ _)); exact BK151.out) hb); have n3_ := Aside0.mk (blk_below (g := gb152) (o := .cells #[.int .i64 t149, .int .i64 t150] 31 (0, 0)) (by (with_reducible repeat (first | refine blk_drewN ?_ _ | refine blk_drew ?_ | refine blk_alloc ?_ _)); refine blk_far ?_ NB152_161.out _; (with_reducible repeat (first | refine blk_drewN ?_ _ | refine blk_drew ?_ | refine blk_alloc ?_ _)); refine blk_far ?_ NB152_161.out _; (with_reducible repeat (first | refine blk_drewN ?_ _ | refine blk_drew ?_ | refine blk_alloc ?_ _)); refine blk_far ?_ NB152_160.out _; (with_reducible repeat (first | refine blk_drewN ?_ _ | refine blk_drew ?_ | refine blk_alloc ?_ _)); refine blk_far ?_ NB152_160.out _; (with_reducible repeat (first | refine blk_drewN ?_ _ | refine blk_drew ?_ | refine blk_alloc ?_ _)); refine blk_far ?_ NB152_160.out _; (with_reducible repeat (first | refine blk_drewN ?_ _ | refine blk_drew ?_ | refine blk_alloc ?_ _)); exact BK152.out) hb); have n4_ := Aside0.mk (blk_below (g := gb160) (o := .cells #[.slice Ao87 t153.length co87, .bool t156, .int .i64 t157] 24 (0, 0)) (by (with_reducible repeat (first | refine blk_drewN ?_ _ | refine blk_drew ?_ | refine blk_alloc ?_ _)); refine blk_far ?_ NB160_161.out _; (with_reducible repeat (first | refine blk_drewN ?_ _ | refine blk_drew ?_ | refine blk_alloc ?_ _)); refine blk_far ?_ NB160_161.out _; (with_reducible repeat (first | refine blk_drewN ?_ _ | refine blk_drew ?_ | refine blk_alloc ?_ _)); refine blk_put (cs := #[.slice Ao87 t153.length co87, .bool t156, .int .i64 0]) ?_ 2 _ rfl; (with_reducible repeat (first | refine blk_drewN ?_ _ | refine blk_drew ?_ | refine blk_alloc ?_ _)); refine blk_put (cs := #[.slice Ao87 t153.length co87, .bool false, .int .i64 0]) ?_ 1 _ rfl; (with_reducible repeat (first | refine blk_drewN ?_ _ | refine blk_drew ?_ | refine blk_alloc ?_ _)); refine blk_put (cs := #[.slice none 0 0, .bool false, .int .i64 0]) ?_ 0 _ rfl; (with_reducible repeat (first | refine blk_drewN ?_ _ | refine blk_drew ?_ | refine blk_alloc ?_ _)); exact BK160.out) hb); have n5_ := Aside0.mk (blk_below (g := gb161) (o := .cells #[.int .i64 t158, .int .i64 t159] 31 (0, 0)) (by (with_reducible repeat (first | refine blk_drewN ?_ _ | refine blk_drew ?_ | refine blk_alloc ?_ _)); refine blk_put (cs := #[.int .i64 t158, .int .i64 0]) ?_ 1 _ rfl; (with_reducible repeat (first | refine blk_drewN ?_ _ | refine blk_drew ?_ | refine blk_alloc ?_ _)); refine blk_put (cs := #[.int .i64 0, .int .i64 0]) ?_ 0 _ rfl; (with_reducible repeat (first | refine blk_drewN ?_ _ | refine blk_drew ?_ | refine blk_alloc ?_ _)); refine blk_far ?_ NB161_160.out _; (with_reducible repeat (first | refine blk_drewN ?_ _ | refine blk_drew ?_ | refine blk_alloc ?_ _)); refine blk_far ?_ NB161_160.out _; (with_reducible repeat (first | refine blk_drewN ?_ _ | refine blk_drew ?_ | refine blk_alloc ?_ _)); refine blk_far ?_ NB161_160.out _; (with_reducible repeat (first | refine blk_drewN ?_ _ | refine blk_drew ?_ | refine blk_alloc ?_ _)); exact BK161.out) hb); have n6_ := Aside0.mk (below_step (by repeat (first | (with_reducible first | exact HB.out | apply below_alloc | apply pw_below_drewN | apply below_drew1 | refine below_set ?_ GE151.out | refine below_set ?_ GE152.out | refine below_set ?_ GE160.out | refine below_set ?_ GE161.out) | exact HB.out)) hb); clear HO146; clear HO155; clear BK151; clear BK152; clear BK160; clear BK161; clear HB; have HO146 := n0_; have HO155 := n1_; have BK151 := n2_; have BK152 := n3_; have BK160 := n4_; have BK161 := n5_; have HB := n6_; clear n0_ n1_ n2_ n3_ n4_ n5_ n6_; (try clear hb); (try clear hb2); (try clear hk); (try clear hi); have hcz98_0 : w97.cell? ⟨gb152, 0, none⟩ = some (.int .i64 t149) := (blk_cell BK152.out 0).trans rfl; have hcz98_1 : w97.cell? ⟨gb152, 1, none⟩ = some (.int .i64 t150) := (blk_cell BK152.out 1).trans rfl; have hfz98_0 := blk_frozen BK152.out 0; have hfz98_1 := blk_frozen BK152.out 1; have hcz99_0 : w97.cell? ⟨gb161, 0, none⟩ = some (.int .i64 t158) := (blk_cell BK161.out 0).trans rfl; have hcz99_1 : w97.cell? ⟨gb161, 1, none⟩ = some (.int .i64 t159) := (blk_cell BK161.out 1).trans rfl; have hfz99_0 := blk_frozen BK161.out 0; have hfz99_1 := blk_frozen BK161.out 1))
                                go_ret
                                exact ⟨by first | rfl | (simp [errW_none, errW_some] <;> rfl) | (simp [*, errW_none, errW_some] <;> rfl), by repeat (first | (with_reducible first | exact HB.out | apply below_alloc | apply pw_below_drewN | apply below_drew1 | refine below_set ?_ GE151.out | refine below_set ?_ GE152.out | refine below_set ?_ GE160.out | refine below_set ?_ GE161.out) | exact HB.out)⟩
                              · replace c76 := Bool.eq_false_iff.mpr c76
                                subst c76
                                have H1 : (some false) = some r := by rw [if_neg (show ¬ (false = true) by decide)] at H; exact H
                                clear H
                                have H := H1
                                clear H1
                                exact absurd ((Option.some.inj H).trans hr_.out) (by decide)
                            · replace c74 := Bool.eq_false_iff.mpr c74
                              subst c74
                              have H1 : (some false) = some r := by rw [if_neg (show ¬ (false = true) by decide)] at H; exact H
                              clear H
                              have H := H1
                              clear H1
                              exact absurd ((Option.some.inj H).trans hr_.out) (by decide)
def epactlaw11_ZicWords.Pure : Prop := ∀ (a0 : ByteArray) (a1 : ByteArray) (a2 : Int), a0.size ≤ 140737488351232 → a1.size ≤ 140737488351232 → (Lit.int .i64 a2).wf = true → ∃ k, epactlaw11_ZicWords.f k a0 a1 a2 = some true
theorem epactlaw11_ZicWords.walk (P : epactlaw11_ZicWords.Pure) (a0 : ByteArray) (a1 : ByteArray) (a2 : Int) (w : World) (w0 : a0.size ≤ 140737488351232) (w1 : a1.size ≤ 140737488351232) (w2 : (Lit.int .i64 a2).wf = true) (hG : Gl w) :
    Calls Tryd.prog 5 #[.string a0, .string a1, .int .i64 a2] w fun e w' => e = .returned (.bool true) ∧ Below w.heap.size w w' := by
  obtain ⟨k, h⟩ := P a0 a1 a2 w0 w1 w2
  refine (epactlaw11_ZicWords.calls k a0 a1 a2 true w ⟨rfl⟩ h (hG := hG)).mono ?_
  rintro e w' ⟨rfl, hd⟩
  exact ⟨rfl, hd⟩
end Go.Proofs.YtodalfobehddmaaDoor.Y
namespace Go.Proofs.YtodalfobehddmaaDoor.Y
open Go.RowKit Go.Proofs.YtodalfobehddmaaDoorW.PrintWords Go.Proofs.YtodalfobehddmaaDoorW.PrintLast Go.Proofs.YtodalfobehddmaaDoor.Mx
open Go.Proofs.YtodalfobehddmaaDoor.Z
theorem cutAt_none {c : UInt8} : ∀ {l : List UInt8}, c ∉ l → cutAt c l = none
  | [], _ => rfl
  | b :: t, h => by
    rw [cutAt, if_neg (by intro e; exact h (by rw [beq_iff_eq] at e; rw [e]; simp)), cutAt_none (fun hh => h (by simp [hh]))]
theorem cutAt_some {c : UInt8} : ∀ {x r : List UInt8}, c ∉ x → cutAt c (x ++ c :: r) = some (x, r)
  | [], r, _ => by rw [List.nil_append, cutAt, if_pos (by simp)]
  | b :: t, r, h => by
    rw [List.cons_append, cutAt, if_neg (by intro e; exact h (by rw [beq_iff_eq] at e; rw [e]; simp)), cutAt_some (fun hh => h (by simp [hh]))]
theorem cutL_none {c : UInt8} {l : List UInt8} (h : c ∉ l) : cutL c l = (l, [], false) := by
  unfold cutL
  rw [cutAt_none h]
theorem rawSplit_line {x : List UInt8} (h : (10 : UInt8) ∉ x) (r : List UInt8) : rawSplit 10 (x ++ 10 :: r) = x :: rawSplit 10 r := by
  rw [rawSplit_cut, cutAt_some h]
theorem rawSplit_flat : ∀ xs : List (List UInt8), (∀ x ∈ xs, (10 : UInt8) ∉ x) → rawSplit 10 ((xs.map (· ++ [10])).flatten) = xs ++ [[]]
  | [], _ => rfl
  | x :: t, h => by
    rw [List.map_cons, List.flatten_cons, List.append_assoc, List.singleton_append, rawSplit_line (h x (by simp)), rawSplit_flat t (fun y hy => h y (by simp [hy]))]
    rfl
theorem trimCR_none {x : List UInt8} (h : (13 : UInt8) ∉ x) : trimCR x = x := by
  unfold trimCR
  rw [if_neg]
  intro hx
  exact h (List.mem_of_getLast? hx)
theorem linesL_flat (xs : List (List UInt8)) (h10 : ∀ x ∈ xs, (10 : UInt8) ∉ x) (h13 : ∀ x ∈ xs, (13 : UInt8) ∉ x) : linesL ((xs.map (· ++ [10])).flatten) = xs := by
  unfold linesL
  rw [rawSplit_flat xs h10]
  unfold lastOff
  rw [if_pos (by simp), List.dropLast_concat]
  conv => rhs; rw [← List.map_id xs]
  exact List.map_congr_left (fun x hx => trimCR_none (h13 x hx))
theorem join_two (x y : List UInt8) (r : List (List UInt8)) (c : UInt8) : Lib.join (x :: y :: r) [c] = x ++ c :: Lib.join (y :: r) [c] := by
  simp [Lib.join, List.intercalate]
def Good (w : List UInt8) : Prop := w ≠ [] ∧ ∀ c ∈ w, 43 ≤ c.toNat
theorem good_blank {c : UInt8} (h : 43 ≤ c.toNat) : blankU c = false := blankU_high c (by omega) (by omega)
theorem words_join : ∀ ws : List (List UInt8), (∀ w ∈ ws, Good w) → wordsL (Lib.join ws [9]) = ws
  | [], _ => rfl
  | [x], h => by
    have hx := h x (by simp)
    rw [Lib.join_one]
    unfold wordsL
    have e := wgo_seg x [] [] (fun c hc => good_blank (hx.2 c hc))
    rw [List.append_nil, List.nil_append] at e
    rw [e, wgo, if_neg]
    intro hh
    exact hx.1 (by simpa using hh)
  | x :: y :: r, h => by
    have hx := h x (by simp)
    have ih := words_join (y :: r) (fun w hw => h w (by simp only [List.mem_cons] at *; exact .inr hw))
    unfold wordsL at ih ⊢
    rw [join_two, wgo_seg x [] _ (fun c hc => good_blank (hx.2 c hc)), List.nil_append, wgo_blank _ _ _ rfl, if_neg, ih]
    intro hh
    exact hx.1 (by simpa using hh)
theorem mem_join : ∀ (ws : List (List UInt8)) (c : UInt8), c ∈ Lib.join ws [9] → c = 9 ∨ ∃ w ∈ ws, c ∈ w
  | [], c, h => by simp [Lib.join, List.intercalate] at h
  | [x], c, h => by
    rw [Lib.join_one] at h
    exact .inr ⟨x, by simp, h⟩
  | x :: y :: r, c, h => by
    rw [join_two, List.mem_append, List.mem_cons] at h
    rcases h with h | h | h
    · exact .inr ⟨x, by simp, h⟩
    · exact .inl h
    · rcases mem_join (y :: r) c h with h | ⟨w, hw, hc⟩
      · exact .inl h
      · exact .inr ⟨w, by simp only [List.mem_cons] at *; exact .inr hw, hc⟩
theorem join_not {ws : List (List UInt8)} (h : ∀ w ∈ ws, Good w) (c : UInt8) (hc : c.toNat < 43) (h9 : c ≠ 9) : c ∉ Lib.join ws [9] := by
  intro hm
  rcases mem_join ws c hm with e | ⟨w, hw, hcw⟩
  · exact h9 e
  · have := (h w hw).2 c hcw
    omega
theorem digit_toNat (n : Nat) (h : n < 10) : (UInt8.ofNat (48 + n)).toNat = 48 + n := by
  show (48 + n) % 256 = 48 + n
  omega
theorem dec_good : ∀ (k u : Nat), u ≤ k → Good (Lib.decDigits u) ∧ ∀ c ∈ Lib.decDigits u, 48 ≤ c.toNat ∧ c.toNat ≤ 57
  | k, u, hk => by
    by_cases h : u < 10
    · rw [Lib.decDigits_one h]
      have := digit_toNat u h
      refine ⟨⟨by simp, fun c hc => ?_⟩, fun c hc => ?_⟩
      · rw [List.mem_singleton.1 hc]; omega
      · rw [List.mem_singleton.1 hc]; omega
    · obtain ⟨k, rfl⟩ : ∃ m, k = m + 1 := ⟨k - 1, by omega⟩
      have ih := dec_good k (u / 10) (by omega)
      have hd := digit_toNat (u % 10) (by omega)
      rw [Lib.decDigits, dif_neg h]
      refine ⟨⟨by simp, fun c hc => ?_⟩, fun c hc => ?_⟩
      · rcases List.mem_append.1 hc with hc | hc
        · exact ih.1.2 c hc
        · rw [List.mem_singleton.1 hc]; omega
      · rcases List.mem_append.1 hc with hc | hc
        · exact ih.2 c hc
        · rw [List.mem_singleton.1 hc]; omega
theorem numFrom_snoc : ∀ (l : List UInt8) (n : Int) (c : UInt8), numFrom n (l ++ [c]) = (numFrom n l).bind fun m => numStep m c
  | [], n, c => by
    simp only [List.nil_append, numFrom, Option.bind_some]
    cases numStep n c <;> rfl
  | b :: t, n, c => by
    rw [List.cons_append, numFrom, numFrom]
    cases numStep n b with
    | none => rfl
    | some m => exact numFrom_snoc t m c
theorem num_dec : ∀ (k u : Nat), u ≤ k → u ≤ 9223372036854775807 → numFrom 0 (Lib.decDigits u) = some (u : Int)
  | k, u, hk, hu => by
    by_cases h : u < 10
    · rw [Lib.decDigits_one h]
      have := digit_toNat u h
      rw [numFrom, numStep, if_pos ⟨by omega, by omega, by omega⟩]
      simp only [numFrom]
      congr 1
      omega
    · obtain ⟨k, rfl⟩ : ∃ m, k = m + 1 := ⟨k - 1, by omega⟩
      have ih := num_dec k (u / 10) (by omega) (by omega)
      have hd := digit_toNat (u % 10) (by omega)
      rw [Lib.decDigits, dif_neg h, numFrom_snoc, ih, Option.bind_some, numStep, if_pos ⟨by omega, by omega, by omega⟩]
      congr 1
      omega
theorem itoa_pos (n : Int) (h0 : 0 ≤ n) : Lib.itoa n = Lib.decDigits n.toNat := by
  unfold Lib.itoa
  rw [if_neg (by omega)]
theorem itoa_good (n : Int) (h0 : 0 ≤ n) : Good (Lib.itoa n) := by
  rw [itoa_pos n h0]
  exact (dec_good _ _ (Nat.le_refl _)).1
theorem num_itoa (n : Int) (h0 : 0 ≤ n) (h1 : n ≤ 9223372036854775807) : numL (Lib.itoa n) = (n, true) := by
  have hg := itoa_good n h0
  rw [itoa_pos n h0] at hg ⊢
  unfold numL
  rw [num_dec _ _ (Nat.le_refl _) (by omega)]
  simp only
  have he : (Lib.decDigits n.toNat).isEmpty = false := by
    cases hq : Lib.decDigits n.toNat with
    | nil => exact absurd hq hg.1
    | cons _ _ => rfl
  rw [he]
  simp
  omega
theorem two_fin : ∀ k : Fin 100, numL (two (k : Int)) = ((k : Int), true) ∧ (two (k : Int)).length = 2 ∧ (58 : UInt8) ∉ two (k : Int) ∧ (∀ c ∈ two (k : Int), 43 ≤ c.toNat) := by decide +kernel
theorem two_num (n : Int) (h0 : 0 ≤ n) (h1 : n ≤ 99) : numL (two n) = (n, true) ∧ (two n).length = 2 ∧ (58 : UInt8) ∉ two n ∧ (∀ c ∈ two n, 43 ≤ c.toNat) := by
  have h := two_fin ⟨n.toNat, by omega⟩
  have e : ((⟨n.toNat, by omega⟩ : Fin 100) : Int) = n := by simp; omega
  rw [e] at h
  exact h
theorem mon_fin : ∀ j : Fin 12, monthF (foldL (monL ((j : Int) + 1))) = ((j : Int) + 1, true) ∧ monL ((j : Int) + 1) ≠ [] ∧ ∀ c ∈ monL ((j : Int) + 1), 43 ≤ c.toNat := by decide +kernel
theorem mon_back (m : Int) (h0 : 1 ≤ m) (h1 : m ≤ 12) : monthF (foldL (monL m)) = (m, true) ∧ Good (monL m) := by
  have h := mon_fin ⟨(m - 1).toNat, by omega⟩
  have e : ((⟨(m - 1).toNat, by omega⟩ : Fin 12) : Int) + 1 = m := by simp; omega
  rw [e] at h
  exact ⟨h.1, h.2⟩
theorem clock_back (sec : Int) (h0 : 0 ≤ sec) (h1 : sec < 86400) : clockL (clockT sec) = (sec, true) ∧ Good (clockT sec) := by
  have hs : stampClock sec = (sec / 3600, sec / 60 % 60, sec % 60, true) := by unfold stampClock; exact if_pos ⟨h0, h1⟩
  unfold clockT
  rw [hs]
  simp only
  obtain ⟨n1, l1, d1, g1⟩ := two_num (sec / 3600) (by omega) (by omega)
  obtain ⟨n2, l2, d2, g2⟩ := two_num (sec / 60 % 60) (by omega) (by omega)
  obtain ⟨n3, l3, d3, g3⟩ := two_num (sec % 60) (by omega) (by omega)
  constructor
  · unfold clockL
    rw [show two (sec / 3600) ++ [58] ++ two (sec / 60 % 60) ++ [58] ++ two (sec % 60) = two (sec / 3600) ++ 58 :: (two (sec / 60 % 60) ++ 58 :: two (sec % 60)) by simp, cutAt_some d1]
    simp only
    rw [cutAt_some d2]
    simp only
    rw [n1, n2, n3, l1, l2, l3, if_pos ⟨rfl, by decide, rfl, by decide, rfl, by decide⟩]
    unfold secondI
    simp only
    rw [if_neg (by omega), if_neg (by omega)]
    congr 1
    omega
  · refine ⟨by intro e; have := congrArg List.length e; simp [l1, l2, l3] at this, fun c hc => ?_⟩
    simp only [List.mem_append, List.mem_singleton] at hc
    rcases hc with (((hc | hc) | hc) | hc) | hc
    · exact g1 c hc
    · subst hc; decide
    · exact g2 c hc
    · subst hc; decide
    · exact g3 c hc
def wordsW (kind : List UInt8) (d : Int) (rest : List (List UInt8)) : List (List UInt8) := [kind, Lib.itoa (dateY d), monL (dateM d), Lib.itoa (dateD d)] ++ rest
theorem wordsW_good {kind : List UInt8} {d : Int} {rest : List (List UInt8)} (hd : inDays d) (hk : Good kind) (hr : ∀ w ∈ rest, Good w) : ∀ w ∈ wordsW kind d rest, Good w := by
  obtain ⟨y0, y1, m0, m1, d0, d1⟩ := dateRange d hd
  intro w hw
  unfold wordsW at hw
  rcases List.mem_append.1 hw with hw | hw
  · simp only [List.mem_cons, List.mem_nil_iff, or_false] at hw
    rcases hw with rfl | rfl | rfl | rfl
    · exact hk
    · exact itoa_good _ (by omega)
    · exact (mon_back _ m0 m1).2
    · exact itoa_good _ (by omega)
  · exact hr w hw
theorem parseLine_words {k : Int} {ws : List (List UInt8)} (hg : ∀ w ∈ ws, Good w) (h0 : ws ≠ []) (l : List S46) (a u : Int) : parseLine k (Lib.join ws [9]) l a u = lineStep l false 0 a u (k + 1) ws := by
  unfold parseLine
  rw [cutL_none (join_not hg 35 (by decide) (by decide)), words_join ws hg, if_neg h0]
theorem dateRow_back (kind : Int) (d : Int) (hd : inDays d) (e : List UInt8) (sec : Int) (he : clockL e = (sec, true)) : dateRow kind (Lib.itoa (dateY d)) (monL (dateM d)) (Lib.itoa (dateD d)) e = some ⟨kind, dateY d, dateM d, dateD d, sec, [], false⟩ := by
  obtain ⟨y0, y1, m0, m1, d0, d1⟩ := dateRange d hd
  unfold dateRow
  rw [num_itoa _ (by omega) (by omega), (mon_back _ m0 m1).1, num_itoa _ (by omega) (by omega), he, if_pos ⟨rfl, rfl, rfl, rfl⟩]
def bodyW (l : S46) : List UInt8 := Lib.join (wordsW leapGreat l.f0 [if l.f1 < 0 then earlyL else lateL, if l.f1 < 0 then [45] else [43], if l.f2 = true then [82] else [83]]) [9]
def endW (exp : Int) : List UInt8 := Lib.join (wordsW expiresGreat (exp / 86400) [clockT (exp % 86400)]) [9]
theorem good_list (l : List UInt8) (h0 : l ≠ []) (h : ∀ c ∈ l, 43 ≤ c.toNat) : Good l := ⟨h0, h⟩
theorem body_good (x : S46) (hd : inDays x.f0) : ∀ w ∈ wordsW leapGreat x.f0 [if x.f1 < 0 then earlyL else lateL, if x.f1 < 0 then [45] else [43], if x.f2 = true then [82] else [83]], Good w := by
  refine wordsW_good hd (good_list _ (by decide) (by decide)) ?_
  intro w hw
  simp only [List.mem_cons, List.mem_nil_iff, or_false] at hw
  rcases hw with rfl | rfl | rfl <;> split <;> exact good_list _ (by decide) (by decide)
theorem end_good (exp : Int) (hd : inDays (exp / 86400)) : ∀ w ∈ wordsW expiresGreat (exp / 86400) [clockT (exp % 86400)], Good w := by
  refine wordsW_good hd (good_list _ (by decide) (by decide)) ?_
  intro w hw
  rw [List.mem_singleton] at hw
  rw [hw]
  exact (clock_back _ (by omega) (by omega)).2
theorem stepOf_late : stepOf [43] 86400 = 1 := by decide
theorem stepOf_early : stepOf [45] 86399 = -1 := by decide
theorem read_leap (x : S46) (hd : inDays x.f0) : readL (wordsW leapGreat x.f0 [if x.f1 < 0 then earlyL else lateL, if x.f1 < 0 then [45] else [43], if x.f2 = true then [82] else [83]]) = some ⟨0, dateY x.f0, dateM x.f0, dateD x.f0, if x.f1 < 0 then 86399 else 86400, if x.f1 < 0 then [45] else [43], x.f2⟩ := by
  have hc1 : clockL earlyL = (86399, true) := by decide +kernel
  have hc2 : clockL lateL = (86400, true) := by decide +kernel
  unfold wordsW
  rw [List.cons_append, List.cons_append, List.cons_append, List.cons_append, List.nil_append, readL7]
  have hw : foldL leapGreat = leapWord := by decide
  have hr1 : isRoll [82] = true := by decide
  have hr2 : isRoll [83] = false := by decide
  have hs2 : isStat [83] = true := by decide
  by_cases h1 : x.f1 < 0
  · rw [if_pos h1, if_pos h1, if_pos h1, dateRow_back 0 x.f0 hd earlyL 86399 hc1]
    by_cases h2 : x.f2 = true
    · rw [if_pos h2, if_pos ⟨hw, .inr rfl, .inl hr1⟩, h2]; rfl
    · rw [if_neg h2, if_pos ⟨hw, .inr rfl, .inr hs2⟩, Bool.eq_false_iff.2 h2]; rfl
  · rw [if_neg h1, if_neg h1, if_neg h1, dateRow_back 0 x.f0 hd lateL 86400 hc2]
    by_cases h2 : x.f2 = true
    · rw [if_pos h2, if_pos ⟨hw, .inl rfl, .inl hr1⟩, h2]; rfl
    · rw [if_neg h2, if_pos ⟨hw, .inl rfl, .inr hs2⟩, Bool.eq_false_iff.2 h2]; rfl
theorem read_end (exp : Int) (hd : inDays (exp / 86400)) : readL (wordsW expiresGreat (exp / 86400) [clockT (exp % 86400)]) = some ⟨1, dateY (exp / 86400), dateM (exp / 86400), dateD (exp / 86400), exp % 86400, [], false⟩ := by
  unfold wordsW
  rw [List.cons_append, List.cons_append, List.cons_append, List.cons_append, List.nil_append, readL5]
  rw [if_pos (by decide), dateRow_back 1 _ hd _ (exp % 86400) (clock_back _ (by omega) (by omega)).1]
theorem line_leap (p : List S46) (x : S46) (hd : inDays x.f0) (hs : x.f1 = 1 ∨ x.f1 = -1) (hr : rightN (p ++ [x]) false 0 = true) (k a u : Int) : parseLine k (bodyW x) p a u = (0, (p ++ [x], a, u)) := by
  unfold bodyW
  rw [parseLine_words (body_good x hd) (by simp [wordsW])]
  unfold lineStep
  rw [read_leap x hd]
  simp only
  have hv := date_valid x.f0 hd.1 hd.2
  rw [if_neg (by intro h; exact absurd h.1 (by decide)), if_neg (by intro h; exact h hv.1), if_pos trivial, hv.2]
  have hst : stepOf (if x.f1 < 0 then [45] else [43]) (if x.f1 < 0 then 86399 else 86400) = x.f1 := by
    rcases hs with h | h
    · rw [if_neg (by omega), if_neg (by omega), h]; decide
    · rw [if_pos (by omega), if_pos (by omega), h]; decide
  unfold leapIn
  rw [hst, if_neg (by rcases hs with h | h <;> omega)]
  have hx : (⟨x.f0, x.f1, x.f2⟩ : S46) = x := rfl
  rw [hx]
  have h0 : (checkN (p ++ [x]) false 0).2 = 0 := by
    unfold rightN at hr
    simpa using hr
  rw [h0]
theorem scan_prefix : ∀ (p q : List S46) (k a b : Int), scanN k a (p ++ q) = .inr b → ∃ c, scanN k a p = .inr c
  | [], q, k, a, b, h => ⟨a, rfl⟩
  | x :: t, q, k, a, b, h => by
    rw [List.cons_append, scanN] at h
    rw [scanN]
    split at h
    · rename_i hw
      rw [if_pos hw]
      exact scan_prefix t q _ _ b h
    · cases h
theorem right_prefix {p q : List S46} {b : Int} (h : scanN 0 729 (p ++ q) = .inr b) : rightN p false 0 = true := by
  obtain ⟨c, hc⟩ := scan_prefix p q 0 729 b h
  unfold rightN checkN
  rw [hc]
  rfl
theorem parse_leaps : ∀ (q p : List S46) (b k : Int) (rest : List (List UInt8)), scanN 0 729 (p ++ q) = .inr b → parseGo k (q.map bodyW ++ rest) p 0 0 = parseGo (k + q.length) rest (p ++ q) 0 0
  | [], p, b, k, rest, h => by simp
  | x :: t, p, b, k, rest, h => by
    have hx := (scanN_right _ _ _ _ h).1 x (by simp)
    have hr : rightN (p ++ [x]) false 0 = true := right_prefix (q := t) (b := b) (by rw [List.append_assoc]; exact h)
    rw [List.map_cons, List.cons_append, parseGo, line_leap p x ⟨by omega, by omega⟩ hx.2.2 hr, if_pos rfl]
    have ih := parse_leaps t (p ++ [x]) b (k + 1) rest (by rw [List.append_assoc]; exact h)
    simp only
    rw [ih, List.append_assoc, List.length_cons]
    congr 1
    push_cast
    omega
theorem lineW_body (x : S46) : lineW x = bodyW x ++ [10] := rfl
theorem expiryW_end (exp : Int) : expiryW exp = endW exp ++ [10] := rfl
theorem body_not (x : S46) (hd : inDays x.f0) (c : UInt8) (hc : c.toNat < 43) (h9 : c ≠ 9) : c ∉ bodyW x := join_not (body_good x hd) c hc h9
theorem end_not (exp : Int) (hd : inDays (exp / 86400)) (c : UInt8) (hc : c.toNat < 43) (h9 : c ≠ 9) : c ∉ endW exp := join_not (end_good exp hd) c hc h9
theorem text_lines (l : List S46) (has : Bool) (exp : Int) (hr : rightN l has exp = true) : linesL (textOf l has exp) = l.map bodyW ++ (if has = true then [endW exp] else []) := by
  obtain ⟨a, ha, he⟩ := rightN_scan hr
  have hsc := (scanN_right l _ _ _ ha).1
  have hd : ∀ x ∈ l, inDays x.f0 := fun x hx => ⟨by have := (hsc x hx); omega, by have := (hsc x hx); omega⟩
  have hT : textOf l has exp = (((l.map bodyW ++ (if has = true then [endW exp] else [])).map (· ++ [10])).flatten) := by
    unfold textOf
    rw [List.map_append, List.flatten_append, List.map_map]
    congr 1
    cases has with
    | true => simp [expiryW_end]
    | false => rfl
  have hall : ∀ c : UInt8, c.toNat < 43 → c ≠ 9 → ∀ x ∈ l.map bodyW ++ (if has = true then [endW exp] else []), c ∉ x := by
    intro c hc h9 x hx
    rcases List.mem_append.1 hx with hx | hx
    · obtain ⟨y, hy, rfl⟩ := List.mem_map.1 hx
      exact body_not y (hd y hy) c hc h9
    · cases has with
      | true =>
        obtain ⟨x0, x1⟩ := right_expires hr
        rw [if_pos rfl, List.mem_singleton] at hx
        rw [hx]
        exact end_not exp ⟨by omega, by omega⟩ c hc h9
      | false => simp at hx
  rw [hT]
  exact linesL_flat _ (hall 10 (by decide) (by decide)) (hall 13 (by decide) (by decide))
theorem parse_text (l : List S46) (has : Bool) (exp : Int) (hr : rightN l has exp = true) : parseL (textOf l has exp) = (l, has, exp, 0, 0) := by
  obtain ⟨a, ha, he⟩ := rightN_scan hr
  unfold parseL
  rw [text_lines l has exp hr]
  have h1 := parse_leaps l [] a 0 (if has = true then [endW exp] else []) ha
  rw [h1, List.nil_append]
  cases has with
  | false =>
    have hx : exp = 0 := by
      unfold endsN at he
      simpa using he
    rw [if_neg (by decide), hx]
    rfl
  | true =>
    obtain ⟨x0, x1⟩ := right_expires hr
    have hd : inDays (exp / 86400) := ⟨by omega, by omega⟩
    have hv := date_valid (exp / 86400) hd.1 hd.2
    rw [if_pos rfl, parseGo]
    have hl : parseLine (0 + (l.length : Int)) (endW exp) l 0 0 = (0, (l, 0 + (l.length : Int) + 1, exp)) := by
      unfold endW
      rw [parseLine_words (end_good exp hd) (by simp [wordsW])]
      unfold lineStep
      rw [read_end exp hd]
      simp only
      rw [if_neg (by intro h; exact absurd h.2 (by decide)), if_neg (by intro h; exact h hv.1), if_neg (by decide), if_neg (by omega), hv.2]
      congr 3
      omega
    rw [hl, if_pos rfl]
    simp only [parseGo]
    unfold parseEnd
    simp only
    rw [if_pos (by omega), hr, if_pos rfl]
end Go.Proofs.YtodalfobehddmaaDoor.Y
namespace Go.Proofs.YtodalfobehddmaaDoor.Y
open Go.RowKit Go.Proofs.YtodalfobehddmaaDoorW.PrintWords Go.Proofs.YtodalfobehddmaaDoorW.PrintLast Go.Proofs.YtodalfobehddmaaDoor.Mx
open Go.Proofs.YtodalfobehddmaaDoor.Z
theorem lineStep_right {l : List S46} {a u no : Int} {ws : List (List UInt8)} (h : (lineStep l false 0 a u no ws).1 = 0) (hl : rightN l false 0 = true) :
    rightN (lineStep l false 0 a u no ws).2.1 false 0 = true ∧ ((lineStep l false 0 a u no ws).2.2.1 = a ∨ (lineStep l false 0 a u no ws).2.2.1 = no) := by
  unfold lineStep at h ⊢
  split at h
  · cases h
  · rename_i r hr
    split at h
    · cases h
    · rename_i h1
      rw [if_neg h1]
      split at h
      · cases h
      · rename_i h2
        rw [if_neg h2]
        split at h
        · rename_i h3
          rw [if_pos h3]
          refine ⟨?_, .inl rfl⟩
          unfold leapIn at h
          split at h
          · cases h
          · unfold rightN
            simpa using h
        · rename_i h3
          rw [if_neg h3]
          split at h
          · cases h
          · rename_i h4
            rw [if_neg h4]
            exact ⟨hl, .inr rfl⟩
theorem parseLine_right {k : Int} {x : List UInt8} {l : List S46} {a u : Int} (h : (parseLine k x l a u).1 = 0) (hl : rightN l false 0 = true) :
    rightN (parseLine k x l a u).2.1 false 0 = true ∧ ((parseLine k x l a u).2.2.1 = a ∨ (parseLine k x l a u).2.2.1 = k + 1) := by
  unfold parseLine at h ⊢
  split
  · exact ⟨hl, .inl rfl⟩
  · rename_i hw
    rw [if_neg hw] at h
    exact lineStep_right h hl
def GoOk (k : Int) (n : Nat) : (Int × Int) ⊕ (List S46 × Int × Int) → Prop
  | .inl (m, e) => k + 1 ≤ m ∧ m ≤ k + n ∧ e ≠ 0
  | .inr (l, a, _) => rightN l false 0 = true ∧ a ≤ k + n
theorem GoOk.more {k : Int} {n : Nat} {r : (Int × Int) ⊕ (List S46 × Int × Int)} (h : GoOk (k + 1) n r) : GoOk k (n + 1) r := by
  cases r with
  | inl r => obtain ⟨m, e⟩ := r; simp only [GoOk] at *; exact ⟨by omega, by omega, h.2.2⟩
  | inr r => obtain ⟨l, a, u⟩ := r; simp only [GoOk] at *; exact ⟨h.1, by omega⟩
theorem parseGo_right : ∀ (xs : List (List UInt8)) (k : Int) (l : List S46) (a u : Int), 0 ≤ k → a ≤ k → rightN l false 0 = true → GoOk k xs.length (parseGo k xs l a u)
  | [], k, l, a, u, hk, ha, hl => by
    rw [parseGo]
    exact ⟨hl, by simp; omega⟩
  | x :: t, k, l, a, u, hk, ha, hl => by
    rw [parseGo]
    by_cases h0 : (parseLine k x l a u).1 = 0
    · rw [if_pos h0]
      obtain ⟨h1, h2⟩ := parseLine_right h0 hl
      exact (parseGo_right t (k + 1) _ _ _ (by omega) (by rcases h2 with h2 | h2 <;> omega) h1).more
    · rw [if_neg h0]
      simp only [GoOk]
      exact ⟨Int.le_refl _, by simp only [List.length_cons]; omega, h0⟩
theorem parseL_right (s : List UInt8) : ((parseL s).2.2.2.2 = 0 → (parseL s).2.2.2.1 = 0 ∧ rightN (parseL s).1 (parseL s).2.1 (parseL s).2.2.1 = true) ∧
    ((parseL s).2.2.2.2 ≠ 0 → (parseL s).1 = [] ∧ (parseL s).2.1 = false ∧ (parseL s).2.2.1 = 0 ∧ 1 ≤ (parseL s).2.2.2.1 ∧ (parseL s).2.2.2.1 ≤ (linesL s).length) := by
  have h := parseGo_right (linesL s) 0 [] 0 0 (by omega) (by omega) rfl
  unfold parseL
  revert h
  cases parseGo 0 (linesL s) [] 0 0 with
  | inl r =>
    obtain ⟨n, e⟩ := r
    intro h
    simp only [GoOk] at h
    unfold parseEnd
    exact ⟨fun h0 => absurd h0 h.2.2, fun _ => ⟨rfl, rfl, rfl, by simp only; omega, by simp only; omega⟩⟩
  | inr r =>
    obtain ⟨l, a, u⟩ := r
    intro h
    simp only [GoOk] at h
    unfold parseEnd
    by_cases ha : 0 < a
    · simp only
      rw [if_pos ha]
      by_cases hr : rightN l true u = true
      · rw [if_pos hr]
        exact ⟨fun _ => ⟨rfl, hr⟩, fun h0 => absurd rfl h0⟩
      · rw [if_neg hr]
        exact ⟨(fun h0 => absurd (show (9 : Int) = 0 from h0) (by decide)), fun _ => ⟨rfl, rfl, rfl, by simp only; omega, by simp only; omega⟩⟩
    · simp only
      rw [if_neg ha]
      exact ⟨fun _ => ⟨rfl, h.1⟩, fun h0 => absurd rfl h0⟩
theorem parseL_length (s : List UInt8) : (parseL s).1.length ≤ 200 := by
  have h := parseL_right s
  by_cases h0 : (parseL s).2.2.2.2 = 0
  · exact right_length (h.1 h0).2
  · rw [(h.2 h0).1]
    simp
end Go.Proofs.YtodalfobehddmaaDoor.Y
namespace Go.Proofs.YtodalfobehddmaaDoor.Y
open Go.RowKit Go.Proofs.YtodalfobehddmaaDoorW.PrintWords Go.Proofs.YtodalfobehddmaaDoorW.PrintLast Go.Proofs.YtodalfobehddmaaDoor.Mx
open Go.Proofs.YtodalfobehddmaaDoor.Z
theorem lowU_cases (c : UInt8) : (lowU c = c ∧ ¬ (65 ≤ c.toNat ∧ c.toNat ≤ 90)) ∨ ((65 ≤ c.toNat ∧ c.toNat ≤ 90) ∧ (lowU c).toNat = c.toNat + 32) := by
  by_cases h : 65 ≤ c.toNat ∧ c.toNat ≤ 90
  · right
    have := lowU_great c h.1 h.2
    exact ⟨h, by omega⟩
  · left
    exact ⟨lowU_small c h, h⟩
theorem lowU_iff (c d : UInt8) (h : ¬ (65 ≤ d.toNat ∧ d.toNat ≤ 90)) (h' : ¬ (97 ≤ d.toNat ∧ d.toNat ≤ 122)) : lowU c = d ↔ c = d := by
  rcases lowU_cases c with ⟨e, _⟩ | ⟨hc, e⟩
  · rw [e]
  · constructor
    · intro h2
      rw [h2] at e
      omega
    · intro h2
      rw [h2] at hc
      exact absurd hc h
theorem lowU_twice (c : UInt8) : lowU (lowU c) = lowU c := by
  rcases lowU_cases c with ⟨e, _⟩ | ⟨hc, e⟩
  · rw [e, e]
  · exact lowU_small _ (by omega)
theorem foldL_twice (x : List UInt8) : foldL (foldL x) = foldL x := by
  unfold foldL
  rw [List.map_map]
  exact List.map_congr_left (fun c _ => lowU_twice c)
theorem numStep_fold (n : Int) (c : UInt8) : numStep n (lowU c) = numStep n c := by
  rcases lowU_cases c with ⟨e, _⟩ | ⟨hc, e⟩
  · rw [e]
  · unfold numStep
    rw [if_neg (by omega), if_neg (by omega)]
theorem numFrom_fold : ∀ (l : List UInt8) (n : Int), numFrom n (foldL l) = numFrom n l
  | [], _ => rfl
  | c :: t, n => by
    show numFrom n (lowU c :: foldL t) = _
    rw [numFrom, numFrom, numStep_fold]
    cases numStep n c with
    | none => rfl
    | some m => exact numFrom_fold t m
theorem numL_fold (l : List UInt8) : numL (foldL l) = numL l := by
  unfold numL
  rw [numFrom_fold]
  cases l <;> rfl
theorem cutAt_fold (c : UInt8) (h : ¬ (65 ≤ c.toNat ∧ c.toNat ≤ 90)) (h' : ¬ (97 ≤ c.toNat ∧ c.toNat ≤ 122)) : ∀ l : List UInt8, cutAt c (foldL l) = (cutAt c l).map (fun p => (foldL p.1, foldL p.2))
  | [] => rfl
  | b :: t => by
    show cutAt c (lowU b :: foldL t) = _
    rw [cutAt, cutAt, cutAt_fold c h h' t]
    by_cases e : b = c
    · rw [if_pos (by rw [beq_iff_eq]; exact (lowU_iff b c h h').2 e), if_pos (by rw [beq_iff_eq]; exact e)]
      rfl
    · rw [if_neg (by rw [beq_iff_eq]; exact fun hh => e ((lowU_iff b c h h').1 hh)), if_neg (by rw [beq_iff_eq]; exact e)]
      cases cutAt c t with
      | none => rfl
      | some p => rfl
theorem foldL_length (l : List UInt8) : (foldL l).length = l.length := by simp [foldL]
theorem clockL_fold (l : List UInt8) : clockL (foldL l) = clockL l := by
  unfold clockL
  rw [cutAt_fold 58 (by decide) (by decide)]
  cases cutAt 58 l with
  | none => rfl
  | some p =>
    obtain ⟨a, r⟩ := p
    simp only [Option.map_some]
    rw [cutAt_fold 58 (by decide) (by decide)]
    cases cutAt 58 r with
    | none => rfl
    | some q =>
      obtain ⟨b, c⟩ := q
      simp only [Option.map_some]
      rw [numL_fold, numL_fold, numL_fold, foldL_length, foldL_length, foldL_length]
theorem dateRow_fold (k : Int) (a b c e : List UInt8) : dateRow k (foldL a) (foldL b) (foldL c) (foldL e) = dateRow k a b c e := by
  unfold dateRow
  rw [numL_fold, numL_fold, foldL_twice, clockL_fold]
theorem fold_one (s : List UInt8) (d : UInt8) (h : ¬ (65 ≤ d.toNat ∧ d.toNat ≤ 90)) (h' : ¬ (97 ≤ d.toNat ∧ d.toNat ≤ 122)) : foldL s = [d] ↔ s = [d] := by
  match s with
  | [] => simp [foldL]
  | [c] =>
    show [lowU c] = [d] ↔ [c] = [d]
    rw [List.cons.injEq, List.cons.injEq, lowU_iff c d h h']
  | a :: b :: t => simp [foldL]
theorem readL_fold (ws : List (List UInt8)) : readL (ws.map foldL) = readL ws := by
  match ws with
  | [w0, a, b, c, e, s, r] =>
    show readL [foldL w0, foldL a, foldL b, foldL c, foldL e, foldL s, foldL r] = _
    rw [readL7, readL7, foldL_twice, dateRow_fold]
    have h1 := fold_one s 43 (by decide) (by decide)
    have h2 := fold_one s 45 (by decide) (by decide)
    have h3 : isRoll (foldL r) = isRoll r := by unfold isRoll; rw [foldL_twice]
    have h4 : isStat (foldL r) = isStat r := by unfold isStat; rw [foldL_twice]
    rw [h3, h4]
    by_cases hc : foldL w0 = leapWord ∧ (s = [43] ∨ s = [45]) ∧ (isRoll r = true ∨ isStat r = true)
    · rw [if_pos hc, if_pos ⟨hc.1, hc.2.1.imp h1.2 h2.2, hc.2.2⟩]
      have hs : foldL s = s := by
        rcases hc.2.1 with h | h
        · rw [h1.2 h, h]
        · rw [h2.2 h, h]
      rw [hs]
    · rw [if_neg hc, if_neg (fun h => hc ⟨h.1, h.2.1.imp h1.1 h2.1, h.2.2⟩)]
  | [w0, a, b, c, e] =>
    show readL [foldL w0, foldL a, foldL b, foldL c, foldL e] = _
    rw [readL5, readL5, foldL_twice, dateRow_fold]
  | [] => rfl
  | [_] => rfl
  | [_, _] => rfl
  | [_, _, _] => rfl
  | [_, _, _, _] => rfl
  | [_, _, _, _, _, _] => rfl
  | _ :: _ :: _ :: _ :: _ :: _ :: _ :: _ :: _ => rfl
def seg (w : List UInt8) : List UInt8 := [9, 32] ++ foldL w
def bodyF (x : List UInt8) : List UInt8 := ((wordsL x).map seg).flatten
theorem blank_fold (c : UInt8) : blankU (lowU c) = blankU c := by
  rcases lowU_cases c with ⟨e, _⟩ | ⟨hc, e⟩
  · rw [e]
  · rw [blankU_high (lowU c) (by omega) (by omega), blankU_high c (by omega) (by omega)]
theorem wgo_words : ∀ (l cur : List UInt8), (∀ c ∈ cur, blankU c = false) → (∀ w ∈ wgo cur l, w ≠ [] ∧ ∀ c ∈ w, blankU c = false ∧ (c ∈ cur ∨ c ∈ l))
  | [], cur, hc, w, hw => by
    unfold wgo at hw
    split at hw
    · cases hw
    · rename_i h0
      rw [List.mem_singleton] at hw
      subst hw
      exact ⟨by intro e; subst e; exact h0 rfl, fun c hcw => ⟨hc c hcw, .inl hcw⟩⟩
  | d :: t, cur, hc, w, hw => by
    unfold wgo at hw
    split at hw
    · split at hw
      · obtain ⟨h1, h2⟩ := wgo_words t [] (by simp) w hw
        exact ⟨h1, fun c hcw => ⟨(h2 c hcw).1, .inr ((h2 c hcw).2.elim (fun h => by cases h) (fun h => by simp [h]))⟩⟩
      · rename_i h0
        rcases List.mem_cons.1 hw with rfl | hw
        · exact ⟨by intro e; subst e; exact h0 rfl, fun c hcw => ⟨hc c hcw, .inl hcw⟩⟩
        · obtain ⟨h1, h2⟩ := wgo_words t [] (by simp) w hw
          exact ⟨h1, fun c hcw => ⟨(h2 c hcw).1, .inr ((h2 c hcw).2.elim (fun h => by cases h) (fun h => by simp [h]))⟩⟩
    · rename_i hb
      obtain ⟨h1, h2⟩ := wgo_words t (cur ++ [d]) (by
        intro c hcc
        rcases List.mem_append.1 hcc with h | h
        · exact hc c h
        · rw [List.mem_singleton.1 h]; exact Bool.eq_false_iff.2 hb) w hw
      refine ⟨h1, fun c hcw => ⟨(h2 c hcw).1, ?_⟩⟩
      rcases (h2 c hcw).2 with h | h
      · rcases List.mem_append.1 h with h | h
        · exact .inl h
        · exact .inr (by rw [List.mem_singleton.1 h]; simp)
      · exact .inr (by simp [h])
theorem words_have (x : List UInt8) : ∀ w ∈ wordsL x, w ≠ [] ∧ ∀ c ∈ w, blankU c = false ∧ c ∈ x := by
  intro w hw
  obtain ⟨h1, h2⟩ := wgo_words x [] (by simp) w hw
  exact ⟨h1, fun c hc => ⟨(h2 c hc).1, (h2 c hc).2.elim (fun h => by cases h) (fun h => h)⟩⟩
theorem words_segs : ∀ ws : List (List UInt8), (∀ w ∈ ws, w ≠ [] ∧ ∀ c ∈ w, blankU c = false) → ∀ cur : List UInt8, wgo cur ((ws.map seg).flatten) = (if cur.isEmpty then [] else [cur]) ++ ws.map foldL
  | [], _, cur => by
    simp only [List.map_nil, List.flatten_nil, List.append_nil]
    rw [wgo]
  | w :: t, h, cur => by
    have hw := h w (by simp)
    have hf : ∀ c ∈ foldL w, blankU c = false := by
      intro c hc
      obtain ⟨d, hd, rfl⟩ := List.mem_map.1 hc
      rw [blank_fold]
      exact hw.2 d hd
    rw [List.map_cons, List.flatten_cons, List.map_cons]
    unfold seg
    rw [List.append_assoc, List.cons_append, List.cons_append, List.nil_append, wgo_blank _ _ _ rfl]
    have e1 : wgo [] (32 :: (foldL w ++ (t.map seg).flatten)) = foldL w :: t.map foldL := by
      rw [wgo_blank _ _ _ rfl, if_pos (show ([] : List UInt8).isEmpty = true from rfl), wgo_seg (foldL w) [] _ hf, List.nil_append]
      have ih := words_segs t (fun v hv => h v (by simp [hv])) (foldL w)
      have hne : (foldL w).isEmpty = false := by
        cases w with
        | nil => exact absurd rfl hw.1
        | cons _ _ => rfl
      rw [hne] at ih
      simpa using ih
    have e2 : (List.map (fun w => [9, 32] ++ foldL w) t).flatten = (t.map seg).flatten := rfl
    rw [e2, e1]
    cases hq : cur.isEmpty <;> simp
theorem words_body (x : List UInt8) : wordsL (bodyF x) = (wordsL x).map foldL := by
  have h := words_segs (wordsL x) (fun w hw => ⟨(words_have x w hw).1, fun c hc => ((words_have x w hw).2 c hc).1⟩) []
  exact h
theorem body_bytes (x : List UInt8) (d : UInt8) (h : ¬ (65 ≤ d.toNat ∧ d.toNat ≤ 90)) (h' : ¬ (97 ≤ d.toNat ∧ d.toNat ≤ 122)) (h9 : d ≠ 9) (h32 : d ≠ 32) (hx : d ∉ x) : d ∉ bodyF x := by
  intro hm
  unfold bodyF at hm
  obtain ⟨s, hs, hd⟩ := List.mem_flatten.1 hm
  obtain ⟨w, hw, rfl⟩ := List.mem_map.1 hs
  unfold seg at hd
  rcases List.mem_append.1 hd with hd | hd
  · simp only [List.mem_cons, List.mem_nil_iff, or_false] at hd
    rcases hd with hd | hd
    · exact h9 hd
    · exact h32 hd
  · obtain ⟨c, hc, e⟩ := List.mem_map.1 hd
    have hcd := (lowU_iff c d h h').1 e
    subst hcd
    exact hx ((words_have x w hw).2 c hc).2
theorem parseLine_body (k : Int) (x : List UInt8) (hx : (35 : UInt8) ∉ x) (l : List S46) (a u : Int) : parseLine k (bodyF x) l a u = parseLine k x l a u := by
  unfold parseLine
  rw [cutL_none hx, cutL_none (body_bytes x 35 (by decide) (by decide) (by decide) (by decide) hx)]
  simp only
  rw [words_body]
  by_cases h : wordsL x = []
  · rw [h]; rfl
  · rw [if_neg h, if_neg (by intro e; exact h (List.map_eq_nil_iff.1 e))]
    unfold lineStep
    rw [readL_fold]
theorem parseGo_body : ∀ (xs : List (List UInt8)) (k : Int) (l : List S46) (a u : Int), (∀ x ∈ xs, (35 : UInt8) ∉ x) → parseGo k (xs.map bodyF) l a u = parseGo k xs l a u
  | [], _, _, _, _, _ => rfl
  | x :: t, k, l, a, u, h => by
    rw [List.map_cons, parseGo, parseGo, parseLine_body k x (h x (by simp))]
    split
    · exact parseGo_body t _ _ _ _ (fun y hy => h y (by simp [hy]))
    · rfl
theorem parseGo_append : ∀ (xs ys : List (List UInt8)) (k : Int) (l : List S46) (a u : Int), parseGo k (xs ++ ys) l a u = match parseGo k xs l a u with
    | .inl r => .inl r
    | .inr (l', a', u') => parseGo (k + xs.length) ys l' a' u'
  | [], ys, k, l, a, u => by simp [parseGo]
  | x :: t, ys, k, l, a, u => by
    rw [List.cons_append, parseGo, parseGo]
    split
    · rw [parseGo_append t ys]
      cases parseGo (k + 1) t (parseLine k x l a u).2.1 (parseLine k x l a u).2.2.1 (parseLine k x l a u).2.2.2 with
      | inl r => rfl
      | inr r =>
        simp only [List.length_cons]
        congr 1
        push_cast
        omega
    · rfl
def sh (K n : Int) : Int := if n > K then n + 1 else n
def shR (K : Int) : (Int × Int) ⊕ (List S46 × Int × Int) → (Int × Int) ⊕ (List S46 × Int × Int)
  | .inl (n, e) => .inl (sh K n, e)
  | .inr (l, a, u) => .inr (l, sh K a, u)
theorem sh_pos {K a : Int} (hK : 0 ≤ K) : 0 < sh K a ↔ 0 < a := by
  unfold sh
  split <;> omega
theorem lineStep_shift (K : Int) (hK : 0 ≤ K) (i : Int) (hi : K ≤ i) (l : List S46) (a u : Int) (ws : List (List UInt8)) :
    lineStep l false 0 (sh K a) u (i + 1 + 1) ws = ((lineStep l false 0 a u (i + 1) ws).1, (lineStep l false 0 a u (i + 1) ws).2.1, sh K (lineStep l false 0 a u (i + 1) ws).2.2.1, (lineStep l false 0 a u (i + 1) ws).2.2.2) := by
  have hp := @sh_pos K a hK
  have hn : sh K (i + 1) = i + 1 + 1 := by unfold sh; rw [if_pos (by omega)]
  unfold lineStep
  cases readL ws with
  | none => rfl
  | some r =>
    simp only
    by_cases h1 : r.kind = 1 ∧ 0 < a
    · rw [if_pos h1, if_pos ⟨h1.1, hp.2 h1.2⟩]
    · rw [if_neg h1, if_neg (fun h => h1 ⟨h.1, hp.1 h.2⟩)]
      by_cases h2 : ¬ validN r.y r.m r.d
      · rw [if_pos h2, if_pos h2]
      · rw [if_neg h2, if_neg h2]
        by_cases h3 : r.kind = 0
        · rw [if_pos h3, if_pos h3]
        · rw [if_neg h3, if_neg h3]
          by_cases h4 : r.sec = 86400
          · rw [if_pos h4, if_pos h4]
          · rw [if_neg h4, if_neg h4]
            simp only
            rw [hn]
theorem parseLine_shift (K : Int) (hK : 0 ≤ K) (i : Int) (hi : K ≤ i) (x : List UInt8) (l : List S46) (a u : Int) :
    parseLine (i + 1) x l (sh K a) u = ((parseLine i x l a u).1, (parseLine i x l a u).2.1, sh K (parseLine i x l a u).2.2.1, (parseLine i x l a u).2.2.2) := by
  unfold parseLine
  split
  · rfl
  · exact lineStep_shift K hK i hi l a u _
theorem parseGo_shift (K : Int) (hK : 0 ≤ K) : ∀ (xs : List (List UInt8)) (i : Int) (l : List S46) (a u : Int), K ≤ i → parseGo (i + 1) xs l (sh K a) u = shR K (parseGo i xs l a u)
  | [], _, _, _, _, _ => rfl
  | x :: t, i, l, a, u, hi => by
    rw [parseGo, parseGo, parseLine_shift K hK i hi]
    simp only
    split
    · exact parseGo_shift K hK t (i + 1) _ _ _ (by omega)
    · simp only [shR, sh]
      rw [if_pos (by omega)]
theorem parseEnd_shift (K : Int) (hK : 0 ≤ K) (r : (Int × Int) ⊕ (List S46 × Int × Int)) : parseEnd (shR K r) = ((parseEnd r).1, (parseEnd r).2.1, (parseEnd r).2.2.1, sh K (parseEnd r).2.2.2.1, (parseEnd r).2.2.2.2) := by
  have h0 : sh K 0 = 0 := by unfold sh; rw [if_neg (by omega)]
  cases r with
  | inl r => obtain ⟨n, e⟩ := r; rfl
  | inr r =>
    obtain ⟨l, a, u⟩ := r
    have hp := @sh_pos K a hK
    show parseEnd (.inr (l, sh K a, u)) = _
    unfold parseEnd
    simp only
    by_cases h1 : 0 < a
    · rw [if_pos h1, if_pos (hp.2 h1)]
      by_cases h2 : rightN l true u = true
      · rw [if_pos h2, if_pos h2]
        simp only
        rw [h0]
      · rw [if_neg h2, if_neg h2]
    · rw [if_neg h1, if_neg (fun h => h1 (hp.1 h))]
      simp only
      rw [h0]
theorem parse_remark (ls : List (List UInt8)) (h35 : ∀ x ∈ ls, (35 : UInt8) ∉ x) (K : Nat) (hKl : K ≤ ls.length) (rem : List UInt8) (hrem : ∃ r, rem = 32 :: 35 :: r) :
    parseEnd (parseGo 0 ((ls.take K).map bodyF ++ rem :: (ls.drop K).map bodyF) [] 0 0) =
      ((parseEnd (parseGo 0 ls [] 0 0)).1, (parseEnd (parseGo 0 ls [] 0 0)).2.1, (parseEnd (parseGo 0 ls [] 0 0)).2.2.1, sh K (parseEnd (parseGo 0 ls [] 0 0)).2.2.2.1, (parseEnd (parseGo 0 ls [] 0 0)).2.2.2.2) := by
  obtain ⟨r, rfl⟩ := hrem
  rw [← parseEnd_shift (K : Int) (by omega)]
  congr 1
  have hls : ls = ls.take K ++ ls.drop K := (List.take_append_drop K ls).symm
  conv => rhs; rw [hls]
  rw [parseGo_append, parseGo_append, parseGo_body _ _ _ _ _ (fun x hx => h35 x (List.mem_of_mem_take hx))]
  have hb := parseGo_right (ls.take K) 0 [] 0 0 (by omega) (by omega) rfl
  have htk : ((ls.take K).length : Int) = K := by rw [List.length_take]; omega
  have hmk : (((ls.take K).map bodyF).length : Int) = K := by rw [List.length_map]; exact htk
  revert hb
  cases parseGo 0 (ls.take K) [] 0 0 with
  | inl q =>
    obtain ⟨n, e⟩ := q
    intro hb
    simp only [GoOk] at hb
    show Sum.inl (n, e) = Sum.inl (sh K n, e)
    unfold sh
    rw [if_neg (by omega)]
  | inr q =>
    obtain ⟨l, a, u⟩ := q
    intro hb
    simp only [GoOk] at hb
    simp only
    rw [hmk, htk, Int.zero_add, parseGo]
    have hw : parseLine (K : Int) (32 :: 35 :: r) l a u = (0, (l, a, u)) := by
      unfold parseLine
      have hc : (cutL 35 (32 :: 35 :: r)).1 = [32] := by
        unfold cutL
        rw [show (32 :: 35 :: r : List UInt8) = [32] ++ 35 :: r from rfl, cutAt_some (by decide)]
      rw [hc, if_pos (by decide)]
    rw [hw, if_pos rfl]
    simp only
    rw [parseGo_body _ _ _ _ _ (fun x hx => h35 x (List.mem_of_mem_drop hx))]
    have ha : sh K a = a := by unfold sh; rw [if_neg (by omega)]
    have h := parseGo_shift K (by omega) (ls.drop K) K l a u (Int.le_refl _)
    rw [ha] at h
    exact h
def anewL (ls : List (List UInt8)) (K : Nat) (r : List UInt8) : List UInt8 := (((ls.take K).map bodyF ++ ([32, 35] ++ r) :: (ls.drop K).map bodyF).map (· ++ [10])).flatten
theorem wgo_sub {l cur : List UInt8} {c : UInt8} : c ∈ (wgo cur l).flatten → c ∈ cur ∨ c ∈ l := by
  intro h
  obtain ⟨w, hw, hc⟩ := List.mem_flatten.1 h
  induction l generalizing cur with
  | nil =>
    unfold wgo at hw
    split at hw
    · cases hw
    · rw [List.mem_singleton] at hw; subst hw; exact .inl hc
  | cons d t ih =>
    unfold wgo at hw
    split at hw
    · split at hw
      · rcases ih (List.mem_flatten.2 ⟨w, hw, hc⟩) hw with h | h
        · cases h
        · exact .inr (by simp [h])
      · rcases List.mem_cons.1 hw with rfl | hw
        · exact .inl hc
        · rcases ih (List.mem_flatten.2 ⟨w, hw, hc⟩) hw with h | h
          · cases h
          · exact .inr (by simp [h])
    · rcases ih (List.mem_flatten.2 ⟨w, hw, hc⟩) hw with h | h
      · rcases List.mem_append.1 h with h | h
        · exact .inl h
        · exact .inr (by rw [List.mem_singleton.1 h]; simp)
      · exact .inr (by simp [h])
theorem rawSplit_sub (c d : UInt8) : ∀ (l : List UInt8), ∀ x ∈ rawSplit c l, d ∈ x → d ∈ l ∧ d ≠ c
  | [], x, hx, hd => by
    rw [rawSplit, List.mem_singleton] at hx
    subst hx
    cases hd
  | b :: t, x, hx, hd => by
    rw [rawSplit] at hx
    split at hx
    · rcases List.mem_cons.1 hx with rfl | hx
      · cases hd
      · have := rawSplit_sub c d t x hx hd
        exact ⟨by simp [this.1], this.2⟩
    · rename_i hb
      rcases hq : rawSplit c t with _ | ⟨g, r⟩
      · exact absurd hq (rawSplit_ne c t)
      · rw [hq] at hx
        have ih := rawSplit_sub c d t
        rcases List.mem_cons.1 hx with rfl | hx
        · rcases List.mem_cons.1 hd with rfl | hd
          · exact ⟨by simp, by intro e; exact hb (by rw [e]; simp)⟩
          · have := ih g (by rw [hq]; simp) hd
            exact ⟨by simp [this.1], this.2⟩
        · have := ih x (by rw [hq]; simp [hx]) hd
          exact ⟨by simp [this.1], this.2⟩
theorem linesL_sub (l : List UInt8) (d : UInt8) : ∀ x ∈ linesL l, d ∈ x → d ∈ l ∧ d ≠ 10 := by
  intro x hx hd
  unfold linesL at hx
  obtain ⟨y, hy, rfl⟩ := List.mem_map.1 hx
  have hdy : d ∈ y := by
    unfold trimCR at hd
    split at hd
    · exact (List.dropLast_sublist y).subset hd
    · exact hd
  exact rawSplit_sub 10 d l y ((lastOff_sub _).2 y hy) hdy
theorem linesL_trims (xs : List (List UInt8)) (h10 : ∀ x ∈ xs, (10 : UInt8) ∉ x) : linesL ((xs.map (· ++ [10])).flatten) = xs.map trimCR := by
  unfold linesL
  rw [rawSplit_flat xs h10]
  unfold lastOff
  rw [if_pos (by simp), List.dropLast_concat]
theorem linesL_anew (s : List UInt8) (h13 : (13 : UInt8) ∉ s) (K : Nat) (hK : K ≤ (linesL s).length) (r : List UInt8) (hr : (10 : UInt8) ∉ r) :
    ∃ rem, (∃ q, rem = 32 :: 35 :: q) ∧ linesL (anewL (linesL s) K r) = ((linesL s).take K).map bodyF ++ rem :: ((linesL s).drop K).map bodyF := by
  have hb10 : ∀ x ∈ linesL s, (10 : UInt8) ∉ bodyF x := fun x hx => body_bytes x 10 (by decide) (by decide) (by decide) (by decide) (fun h => (linesL_sub s 10 x hx h).2 rfl)
  have hb13 : ∀ x ∈ linesL s, (13 : UInt8) ∉ bodyF x := fun x hx => body_bytes x 13 (by decide) (by decide) (by decide) (by decide) (fun h => h13 (linesL_sub s 13 x hx h).1)
  refine ⟨trimCR ([32, 35] ++ r), ?_, ?_⟩
  · unfold trimCR
    split
    · rename_i h
      cases r with
      | nil => simp at h
      | cons b t => exact ⟨(b :: t).dropLast, by simp⟩
    · exact ⟨r, rfl⟩
  · unfold anewL
    rw [linesL_trims]
    · rw [List.map_append, List.map_cons]
      congr 1
      · conv => rhs; rw [← List.map_id (((linesL s).take K).map bodyF)]
        refine List.map_congr_left (fun x hx => ?_)
        obtain ⟨y, hy, rfl⟩ := List.mem_map.1 hx
        exact trimCR_none (hb13 y (List.mem_of_mem_take hy))
      · congr 1
        conv => rhs; rw [← List.map_id (((linesL s).drop K).map bodyF)]
        refine List.map_congr_left (fun x hx => ?_)
        obtain ⟨y, hy, rfl⟩ := List.mem_map.1 hx
        exact trimCR_none (hb13 y (List.mem_of_mem_drop hy))
    · intro x hx
      rcases List.mem_append.1 hx with hx | hx
      · obtain ⟨y, hy, rfl⟩ := List.mem_map.1 hx
        exact hb10 y (List.mem_of_mem_take hy)
      · rcases List.mem_cons.1 hx with rfl | hx
        · intro hm
          simp only [List.mem_append, List.mem_cons, List.mem_nil_iff, or_false] at hm
          rcases hm with (h | h) | h
          · exact absurd h (by decide)
          · exact absurd h (by decide)
          · exact hr h
        · obtain ⟨y, hy, rfl⟩ := List.mem_map.1 hx
          exact hb10 y (List.mem_of_mem_drop hy)
theorem parse_anew (s : List UInt8) (h35 : (35 : UInt8) ∉ s) (h13 : (13 : UInt8) ∉ s) (K : Nat) (hK : K ≤ (linesL s).length) (r : List UInt8) (hr : (10 : UInt8) ∉ r) :
    parseL (anewL (linesL s) K r) = ((parseL s).1, (parseL s).2.1, (parseL s).2.2.1, sh K (parseL s).2.2.2.1, (parseL s).2.2.2.2) := by
  obtain ⟨rem, hrem, hl⟩ := linesL_anew s h13 K hK r hr
  unfold parseL
  rw [hl]
  exact parse_remark (linesL s) (fun x hx h => h35 (linesL_sub s 35 x hx h).1) K hK rem hrem
end Go.Proofs.YtodalfobehddmaaDoor.Y
namespace Go.Proofs.YtodalfobehddmaaDoor.Y
open Go.RowKit Go.Proofs.YtodalfobehddmaaDoorW.PrintWords Go.Proofs.YtodalfobehddmaaDoorW.PrintLast Go.Proofs.YtodalfobehddmaaDoor.Mx
open Go.Proofs.YtodalfobehddmaaDoor.Z
def Ev (g : Nat → Option Bool) : Prop := ∃ K, ∀ k, K ≤ k → g k = some true
theorem Ev.now {g : Nat → Option Bool} (h : ∀ k, g (k + 1) = some true) : Ev g := ⟨1, fun k hk => by obtain ⟨m, rfl⟩ : ∃ m, k = m + 1 := ⟨k - 1, by omega⟩; exact h m⟩
theorem Ev.step {g h : Nat → Option Bool} (e : ∀ k, g (k + 1) = h k) (he : Ev h) : Ev g := by
  obtain ⟨K, hK⟩ := he
  refine ⟨K + 1, fun k hk => ?_⟩
  obtain ⟨m, rfl⟩ : ∃ m, k = m + 1 := ⟨k - 1, by omega⟩
  rw [e m]
  exact hK m (by omega)
theorem bt_get (s : ByteArray) (i : Nat) (h : i < s.data.toList.length) : bt s (i : Int) = ((s.data.toList[i]).toNat : Int) := by
  unfold bt
  rw [Int.toNat_natCast]
  have h2 : i < s.size := h
  rw [dif_pos h2]
  rfl
theorem u8_of_int {c : UInt8} {n : Nat} (hn : n < 256) (h : (c.toNat : Int) = n) : c = UInt8.ofNat n := by
  apply UInt8.toNat_inj.1
  show c.toNat = n % 256
  omega
theorem final_l3 (s : ByteArray) (t : List UInt8) (K : Nat) (r : List UInt8) (hs : s.size ≤ 2000) (ht : t.length ≤ 100000000) (hKl : K ≤ (linesL s.data.toList).length) (hr : (10 : UInt8) ∉ r) (hte : t = anewL (linesL s.data.toList) K r) :
    ∀ (j i : Nat), s.size - i = j → i ≤ s.size → (∀ m (h : m < s.data.toList.length), m < i → s.data.toList[m] ≠ 35 ∧ s.data.toList[m] ≠ 13) → Ev (fun k => epactlaw11_ZicWords.l3 k s K true (mkB t) i) := by
  have hsz : s.data.toList.length = s.size := rfl
  have hll := linesL_len s.data.toList
  intro j
  induction j with
  | zero =>
    intro i hj hi hno
    refine Ev.now (fun k => ?_)
    have e : i = s.size := by omega
    subst e
    have h35 : (35 : UInt8) ∉ s.data.toList := by
      intro h
      obtain ⟨m, hm, e⟩ := List.mem_iff_getElem.1 h
      exact (hno m hm (by omega)).1 e
    have h13 : (13 : UInt8) ∉ s.data.toList := by
      intro h
      obtain ⟨m, hm, e⟩ := List.mem_iff_getElem.1 h
      exact (hno m hm (by omega)).2 e
    have hp := parse_anew s.data.toList h35 h13 K hKl r hr
    have hright := parseL_right s.data.toList
    have hlen := parseL_length s.data.toList
    simp only [epactlaw11_ZicWords.l3]
    rw [if_neg (by omega)]
    unfold zic_Parse.f
    rw [if_pos (by omega), if_pos (by show t.length ≤ 4294967280; omega)]
    simp only [Option.bind_some]
    rw [show (mkB t).data.toList = t from rfl, hte, hp]
    simp only
    have hS : epactref09_Same.f (parseL s.data.toList).1 (parseL s.data.toList).2.1 (parseL s.data.toList).2.2.1 (parseL s.data.toList).1 (parseL s.data.toList).2.1 (parseL s.data.toList).2.2.1 = some true := by
      unfold epactref09_Same.f
      rw [if_pos (by omega)]
      congr 1
      exact decide_eq_true ⟨rfl, rfl, rfl⟩
    have hline : 0 ≤ (parseL s.data.toList).2.2.2.1 ∧ (parseL s.data.toList).2.2.2.1 ≤ 3000 := by
      by_cases h0 : (parseL s.data.toList).2.2.2.2 = 0
      · have := (hright.1 h0).1; omega
      · have := hright.2 h0; omega
    unfold sh
    by_cases hc : (parseL s.data.toList).2.2.2.1 > (K : Int)
    · rw [if_pos hc, if_pos hc, if_pos trivial, hS, wrap_id _ (by omega) (by omega)]
      simp
    · rw [if_neg hc, if_neg hc, if_pos trivial, hS]
      simp
  | succ j ih =>
    intro i hj hi hno
    have hlt : i < s.size := by omega
    have hb := bt_get s i hlt
    by_cases c1 : bt s (i : Int) = 35
    · exact Ev.now (fun k => by simp only [epactlaw11_ZicWords.l3]; rw [if_pos (by omega), if_pos (by omega), if_pos c1])
    · by_cases c2 : bt s (i : Int) = 13
      · exact Ev.now (fun k => by simp only [epactlaw11_ZicWords.l3]; rw [if_pos (by omega), if_pos (by omega), if_neg c1, if_pos c2])
      · refine Ev.step (h := fun k => epactlaw11_ZicWords.l3 k s K true (mkB t) ((i + 1 : Nat) : Int)) (fun k => ?_) (ih (i + 1) (by omega) (by omega) ?_)
        · simp only [epactlaw11_ZicWords.l3]
          rw [if_pos (by omega), if_pos (by omega), if_neg c1, if_neg c2, wrap_id _ (by omega) (by omega)]
          rfl
        · intro m hm hmi
          by_cases e : m = i
          · subst e
            rw [hb] at c1 c2
            exact ⟨fun e => c1 (by rw [e]; rfl), fun e => c2 (by rw [e]; rfl)⟩
          · exact hno m hm (by omega)
theorem words_count : ∀ (l cur : List UInt8), (wgo cur l).length ≤ l.length + (if cur.isEmpty then 0 else 1) ∧ ((wgo cur l).flatten).length ≤ cur.length + l.length
  | [], cur => by
    unfold wgo
    cases cur with
    | nil => simp
    | cons b t => simp
  | d :: t, cur => by
    unfold wgo
    have h1 := words_count t []
    have h2 := words_count t (cur ++ [d])
    split
    · cases hq : cur.isEmpty with
      | true => rw [if_pos rfl]; simp at *; omega
      | false => rw [if_neg (by decide)]; simp at *; omega
    · cases hq : cur.isEmpty <;> simp [hq] at * <;> omega
theorem mem_flat_le : ∀ (L : List (List UInt8)) (w : List UInt8), w ∈ L → w.length ≤ L.flatten.length
  | x :: t, w, h => by
    rw [List.flatten_cons, List.length_append]
    rcases List.mem_cons.1 h with rfl | h
    · omega
    · have := mem_flat_le t w h; omega
theorem segs_length : ∀ ws : List (List UInt8), ((ws.map seg).flatten).length = 2 * ws.length + (ws.flatten).length
  | [] => rfl
  | w :: t => by
    have := segs_length t
    simp only [List.map_cons, List.flatten_cons, List.length_append, List.length_cons, seg, foldL_length, List.length_nil]
    omega
theorem bodyF_length (x : List UInt8) : (bodyF x).length ≤ 3 * x.length := by
  have h := words_count x []
  unfold bodyF wordsL
  rw [segs_length]
  obtain ⟨h1, h2⟩ := h
  rw [if_pos (show ([] : List UInt8).isEmpty = true from rfl)] at h1
  simp only [List.length_nil] at h2
  omega
def restG (K : Nat) (r : List UInt8) : Nat → List (List UInt8) → List UInt8
  | i, [] => if i = K then [32, 35] ++ r ++ [10] else []
  | i, x :: t => (if i = K then [32, 35] ++ r ++ [10] else []) ++ (bodyF x ++ [10] ++ restG K r (i + 1) t)
theorem restG_behind (K : Nat) (r : List UInt8) : ∀ (xs : List (List UInt8)) (i : Nat), K < i → restG K r i xs = ((xs.map bodyF).map (· ++ [10])).flatten
  | [], i, h => by simp [restG]; omega
  | x :: t, i, h => by
    rw [restG, if_neg (by omega), restG_behind K r t (i + 1) (by omega)]
    simp
theorem restG_ahead (K : Nat) (r : List UInt8) : ∀ (xs : List (List UInt8)) (i : Nat), i ≤ K → K - i ≤ xs.length → restG K r i xs = (((xs.take (K - i)).map bodyF ++ ([32, 35] ++ r) :: (xs.drop (K - i)).map bodyF).map (· ++ [10])).flatten
  | [], i, h, hl => by
    have e : i = K := by simp at hl; omega
    subst e
    simp [restG]
  | x :: t, i, h, hl => by
    by_cases e : i = K
    · subst e
      rw [restG, if_pos rfl, restG_behind i r t (i + 1) (by omega)]
      simp
    · have e2 : K - i = (K - (i + 1)) + 1 := by omega
      rw [restG, if_neg e, restG_ahead K r t (i + 1) (by omega) (by simp at hl; omega), e2]
      simp
theorem fold_at (ws : List (List UInt8)) (j : Nat) (hj : j < ws.length) (hw : ∀ w ∈ ws, w.length ≤ 2000) : lines_Fold.f (rdOf ByteArray.empty (ws.map mkB) (j : Int)) = some (mkB (foldL ws[j])) := by
  rw [rdOf_map ws j ws[j] (List.getElem?_eq_getElem hj) _ rfl]
  exact fold_f _ (by have := hw ws[j] (List.getElem_mem hj); omega)
theorem words_l2 (s a1 : ByteArray) (K : Int) (x8 : List ByteArray) (i : Nat) (hi : i ≤ 100000) (ws : List (List UInt8)) (hw : ∀ w ∈ ws, w.length ≤ 2000) (hws : ws.length ≤ 2000) :
    ∀ (m j : Nat) (t : List UInt8), ws.length - j = m → j ≤ ws.length → t.length ≤ 1000000000 + j * 2002 → Ev (fun k => epactlaw11_ZicWords.l1 k s a1 K true x8 (mkB (t ++ ((ws.drop j).map seg).flatten ++ [10])) ((i + 1 : Nat) : Int)) →
    Ev (fun k => epactlaw11_ZicWords.l2 k s a1 K true x8 (mkB t) i (ws.map mkB) j) := by
  intro m
  induction m with
  | zero =>
    intro j t hm hj ht he
    have e : j = ws.length := by omega
    subst e
    rw [List.drop_of_length_le (Nat.le_refl _)] at he
    simp only [List.map_nil, List.flatten_nil, List.append_nil] at he
    refine Ev.step (fun k => ?_) he
    simp only [epactlaw11_ZicWords.l2]
    rw [if_neg (by rw [List.length_map]; omega), if_pos (by show t.length + 1 ≤ _; omega), wrap_id _ (by omega) (by omega), show (⟨#[10]⟩ : ByteArray) = mkB [10] from rfl, mkB_app]
    rfl
  | succ m ih =>
    intro j t hm hj ht he
    have hlt : j < ws.length := by omega
    have hwj := hw ws[j] (List.getElem_mem hlt)
    have hfl := foldL_length ws[j]
    have he2 : Ev (fun k => epactlaw11_ZicWords.l2 k s a1 K true x8 (mkB (t ++ seg ws[j])) i (ws.map mkB) ((j + 1 : Nat) : Int)) := by
      refine ih (j + 1) (t ++ seg ws[j]) (by omega) (by omega) ?_ ?_
      · rw [List.length_append]
        have : (seg ws[j]).length = 2 + ws[j].length := by unfold seg; rw [List.length_append, foldL_length]; rfl
        omega
      · rw [List.drop_eq_getElem_cons hlt, List.map_cons, List.flatten_cons] at he
        simpa only [List.append_assoc] using he
    refine Ev.step (fun k => ?_) he2
    simp only [epactlaw11_ZicWords.l2]
    rw [if_pos (by rw [List.length_map]; omega), if_pos (by show t.length + 2 ≤ _; omega), if_pos (by omega), fold_at ws j hlt hw]
    simp only [Option.bind_some]
    rw [show (⟨#[9, 32]⟩ : ByteArray) = mkB [9, 32] from rfl, mkB_app, if_pos (by show (t ++ [9, 32]).length + (foldL ws[j]).length ≤ _; rw [List.length_append, hfl]; simp; omega), mkB_app, wrap_id _ (by omega) (by omega), List.append_assoc]
    rfl
theorem words_l1 (s a1 : ByteArray) (K : Nat) (ls : List (List UInt8)) (hls : ∀ x ∈ ls, x.length ≤ 2000) (hln : ls.length ≤ 2001) (hr : a1.size ≤ 100) (T : List UInt8)
    (hfin : Ev (fun k => epactlaw11_ZicWords.l3 k s K true (mkB T) 0)) :
    ∀ (m i : Nat) (t : List UInt8), ls.length - i = m → i ≤ ls.length → t.length ≤ i * 10000 → t ++ restG K a1.data.toList i (ls.drop i) = T →
    Ev (fun k => epactlaw11_ZicWords.l1 k s a1 K true (ls.map mkB) (mkB t) i) := by
  have ha1 : a1.data.toList.length = a1.size := rfl
  have ha2 : mkB a1.data.toList = a1 := mkB_data a1
  intro m
  induction m with
  | zero =>
    intro i t hm hi ht hT
    have e : i = ls.length := by omega
    subst e
    rw [List.drop_of_length_le (Nat.le_refl _), restG] at hT
    have hout : ∀ t' : List UInt8, t' = T → Ev (fun k => epactlaw11_ZicWords.l1 k s a1 K true (ls.map mkB) (mkB t') ((ls.length + 1 : Nat) : Int)) := by
      intro t' h'
      subst h'
      refine Ev.step (fun k => ?_) hfin
      simp only [epactlaw11_ZicWords.l1]
      rw [if_neg (by rw [List.length_map]; omega)]
    have hj3 : ∀ t' : List UInt8, t' = T → Ev (fun k => epactlaw11_ZicWords.j3 k s a1 K true (ls.map mkB) (mkB t') (ls.length : Int)) := by
      intro t' h'
      refine Ev.step (fun k => ?_) (hout t' h')
      simp only [epactlaw11_ZicWords.j3]
      rw [if_neg (by rw [List.length_map]; omega), wrap_id _ (by omega) (by omega)]
      rfl
    by_cases hk : ls.length = K
    · rw [if_pos hk] at hT
      refine Ev.step (fun k => ?_) (hj3 (t ++ ([32, 35] ++ a1.data.toList ++ [10])) hT)
      simp only [epactlaw11_ZicWords.l1]
      rw [if_pos (by rw [List.length_map]; omega), if_pos (by omega), if_pos (by show t.length + 2 ≤ _; omega), show (⟨#[32, 35]⟩ : ByteArray) = mkB [32, 35] from rfl, mkB_app, if_pos (by show (t ++ [32, 35]).length + a1.size ≤ _; rw [List.length_append]; simp; omega)]
      have e2 : mkB (t ++ [32, 35]) ++ a1 = mkB (t ++ [32, 35] ++ a1.data.toList) := by have h_ := mkB_app (t ++ [32, 35]) a1.data.toList; rw [ha2] at h_; exact h_
      rw [e2, if_pos (by show (t ++ [32, 35] ++ a1.data.toList).length + 1 ≤ _; rw [List.length_append, List.length_append]; simp; omega), show (⟨#[10]⟩ : ByteArray) = mkB [10] from rfl, mkB_app]
      simp only [List.append_assoc]
    · rw [if_neg hk, List.append_nil] at hT
      refine Ev.step (fun k => ?_) (hj3 t hT)
      simp only [epactlaw11_ZicWords.l1]
      rw [if_pos (by rw [List.length_map]; omega), if_neg (by omega)]
  | succ m ih =>
    intro i t hm hi ht hT
    have hlt : i < ls.length := by omega
    have hx := hls ls[i] (List.getElem_mem hlt)
    rw [List.drop_eq_getElem_cons hlt, restG] at hT
    have hwc := words_count ls[i] []
    have hbl := bodyF_length ls[i]
    have hj3 : ∀ t' : List UInt8, t'.length ≤ i * 10000 + 103 → t' ++ (bodyF ls[i] ++ [10] ++ restG K a1.data.toList (i + 1) (ls.drop (i + 1))) = T → Ev (fun k => epactlaw11_ZicWords.j3 k s a1 K true (ls.map mkB) (mkB t') (i : Int)) := by
      intro t' ht' hT'
      have h2 : Ev (fun k => epactlaw11_ZicWords.l2 k s a1 K true (ls.map mkB) (mkB t') i ((wordsL ls[i]).map mkB) ((0 : Nat) : Int)) := by
        refine words_l2 s a1 K (ls.map mkB) i (by omega) (wordsL ls[i]) ?_ ?_ _ 0 t' rfl (by omega) (by omega) ?_
        · intro w hw
          have h1 : w.length ≤ ((wordsL ls[i]).flatten).length := mem_flat_le _ w hw
          have h2 := hwc.2
          unfold wordsL at h1
          simp only [List.length_nil] at h2
          omega
        · have h2 := hwc.1
          unfold wordsL
          rw [if_pos (show ([] : List UInt8).isEmpty = true from rfl)] at h2
          omega
        · rw [List.drop_zero]
          refine ih (i + 1) (t' ++ ((wordsL ls[i]).map seg).flatten ++ [10]) (by omega) (by omega) ?_ ?_
          · have e : ((wordsL ls[i]).map seg).flatten = bodyF ls[i] := rfl
            rw [e, List.length_append, List.length_append]
            simp
            omega
          · have e : ((wordsL ls[i]).map seg).flatten = bodyF ls[i] := rfl
            rw [e, ← hT']
            simp only [List.append_assoc]
      refine Ev.step (fun k => ?_) h2
      simp only [epactlaw11_ZicWords.j3]
      rw [if_pos (by rw [List.length_map]; omega), if_pos (by omega), rdOf_map ls i ls[i] (List.getElem?_eq_getElem hlt) _ rfl]
      unfold lines_Words.f
      rw [if_pos (by show ls[i].length ≤ _; omega)]
      simp only [Option.bind_some]
      rfl
    have hlen103 : (t ++ ([32, 35] ++ a1.data.toList ++ [10])).length ≤ i * 10000 + 103 := by
      rw [List.length_append, List.length_append, List.length_append]
      simp only [List.length_cons, List.length_nil]
      omega
    by_cases hk : i = K
    · rw [if_pos hk] at hT
      refine Ev.step (fun k => ?_) (hj3 (t ++ ([32, 35] ++ a1.data.toList ++ [10])) hlen103 (by rw [List.append_assoc]; exact hT))
      simp only [epactlaw11_ZicWords.l1]
      rw [if_pos (by rw [List.length_map]; omega), if_pos (by omega), if_pos (by show t.length + 2 ≤ _; omega), show (⟨#[32, 35]⟩ : ByteArray) = mkB [32, 35] from rfl, mkB_app, if_pos (by show (t ++ [32, 35]).length + a1.size ≤ _; rw [List.length_append]; simp; omega)]
      have e2 : mkB (t ++ [32, 35]) ++ a1 = mkB (t ++ [32, 35] ++ a1.data.toList) := by have h_ := mkB_app (t ++ [32, 35]) a1.data.toList; rw [ha2] at h_; exact h_
      rw [e2, if_pos (by show (t ++ [32, 35] ++ a1.data.toList).length + 1 ≤ _; rw [List.length_append, List.length_append]; simp; omega), show (⟨#[10]⟩ : ByteArray) = mkB [10] from rfl, mkB_app]
      simp only [List.append_assoc]
    · rw [if_neg hk, List.nil_append] at hT
      refine Ev.step (fun k => ?_) (hj3 t (Nat.le_trans ht (Nat.le_add_right _ _)) hT)
      simp only [epactlaw11_ZicWords.l1]
      rw [if_pos (by rw [List.length_map]; omega), if_neg (by omega)]
theorem restG_length (K : Nat) (r : List UInt8) (hr : r.length ≤ 100) : ∀ (xs : List (List UInt8)) (i : Nat), (∀ x ∈ xs, x.length ≤ 2000) → (restG K r i xs).length ≤ 103 + xs.length * 7000
  | [], i, _ => by
    rw [restG]
    split <;> simp; omega
  | x :: t, i, h => by
    have h1 := restG_length K r hr t (i + 1) (fun y hy => h y (by simp [hy]))
    have h2 := bodyF_length x
    have h3 := h x (by simp)
    rw [restG, List.length_append, List.length_append, List.length_append, List.length_cons]
    have h4 : ((if i = K then [32, 35] ++ r ++ [10] else []) : List UInt8).length ≤ 103 := by
      split
      · simp; omega
      · simp
    simp only [List.length_cons, List.length_nil]
    omega
theorem words_l0 (s a1 : ByteArray) (K : Nat) (hs : s.size ≤ 2000) (hr : a1.size ≤ 100) (hK : K ≤ (linesL s.data.toList).length) :
    ∀ (m i : Nat), a1.size - i = m → i ≤ a1.size → (∀ n (h : n < a1.data.toList.length), n < i → a1.data.toList[n] ≠ 10) → Ev (fun k => epactlaw11_ZicWords.l0 k s a1 K true ((linesL s.data.toList).map mkB) i) := by
  have hsz : s.data.toList.length = s.size := rfl
  have ha1 : a1.data.toList.length = a1.size := rfl
  have hll := linesL_len s.data.toList
  intro m
  induction m with
  | zero =>
    intro i hm hi hno
    have e : i = a1.size := by omega
    subst e
    have h10 : (10 : UInt8) ∉ a1.data.toList := by
      intro h
      obtain ⟨n, hn, e⟩ := List.mem_iff_getElem.1 h
      exact hno n hn (by omega) e
    have hls : ∀ x ∈ linesL s.data.toList, x.length ≤ 2000 := fun x hx => by have := hll.2 x hx; omega
    have hg := restG_ahead K a1.data.toList (linesL s.data.toList) 0 (by omega) (by omega)
    have hgl := restG_length K a1.data.toList (by omega) (linesL s.data.toList) 0 hls
    rw [Nat.sub_zero] at hg
    have he := words_l1 s a1 K (linesL s.data.toList) hls (by omega) hr (restG K a1.data.toList 0 (linesL s.data.toList))
      (final_l3 s _ K a1.data.toList hs (by omega) hK h10 hg s.size 0 (by omega) (by omega) (fun m h h0 => absurd h0 (by omega))) (linesL s.data.toList).length 0 [] (by omega) (by omega) (by simp) (by simp)
    refine Ev.step (fun k => ?_) he
    simp only [epactlaw11_ZicWords.l0]
    rw [if_neg (by omega)]
    rfl
  | succ m ih =>
    intro i hm hi hno
    have hlt : i < a1.size := by omega
    have hb := bt_get a1 i hlt
    by_cases c1 : bt a1 (i : Int) = 10
    · exact Ev.now (fun k => by simp only [epactlaw11_ZicWords.l0]; rw [if_pos (by omega), if_pos (by omega), if_pos c1])
    · refine Ev.step (fun k => ?_) (ih (i + 1) (by omega) (by omega) ?_)
      · simp only [epactlaw11_ZicWords.l0]
        rw [if_pos (by omega), if_pos (by omega), if_neg c1, wrap_id _ (by omega) (by omega)]
        rfl
      · intro n hn hni
        by_cases e : n = i
        · subst e
          rw [hb] at c1
          exact fun e => c1 (by rw [e]; rfl)
        · exact hno n hn (by omega)
theorem zicWords_pure (s a1 : ByteArray) (a2 : Int) (_hs : s.size ≤ 140737488351232) (_ha : a1.size ≤ 140737488351232) (_h2 : (Lit.int .i64 a2).wf = true) (hs : s.size ≤ 1048576) (_ha1 : a1.size ≤ 1048576) : ∃ k, epactlaw11_ZicWords.f k s a1 a2 = some true := by
  have hsz : s.data.toList.length = s.size := rfl
  have yes : ∀ l : List ByteArray, epactlaw11_ZicWords.j0 1 s a1 a2 true l true = some true := fun l => by simp only [epactlaw11_ZicWords.j0]; rw [if_pos trivial]
  have go : ∀ g : Nat → Option Bool, (∀ k, epactlaw11_ZicWords.f k s a1 a2 = g k) → (∃ k, g k = some true) → ∃ k, epactlaw11_ZicWords.f k s a1 a2 = some true := fun g h ⟨k, hk⟩ => ⟨k, (h k).trans hk⟩
  have hf : ∀ k, epactlaw11_ZicWords.f k s a1 a2 = (if (s.size : Int) > 2000 then (epactlaw11_ZicWords.j0 k s a1 a2 true ((linesL s.data.toList).map mkB) true) else (if (a1.size : Int) > 100 then (epactlaw11_ZicWords.j0 k s a1 a2 true ((linesL s.data.toList).map mkB) true) else (if a2 < 0 then (epactlaw11_ZicWords.j0 k s a1 a2 true ((linesL s.data.toList).map mkB) true) else (epactlaw11_ZicWords.j0 k s a1 a2 true ((linesL s.data.toList).map mkB) (decide (a2 > (((linesL s.data.toList).map mkB).length : Int))))))) := by
    intro k
    unfold epactlaw11_ZicWords.f epactlaw11_small.f lines_Split.f
    rw [if_pos (show s.size < 4294967281 by omega)]
    simp only [Option.bind_some]
  refine go _ hf ?_
  by_cases c1 : (s.size : Int) > 2000
  · exact ⟨1, by rw [if_pos c1]; exact yes _⟩
  · by_cases c2 : (a1.size : Int) > 100
    · exact ⟨1, by rw [if_neg c1, if_pos c2]; exact yes _⟩
    · by_cases c3 : a2 < 0
      · exact ⟨1, by rw [if_neg c1, if_neg c2, if_pos c3]; exact yes _⟩
      · by_cases c4 : a2 > (((linesL s.data.toList).map mkB).length : Int)
        · exact ⟨1, by rw [if_neg c1, if_neg c2, if_neg c3, decide_eq_true c4]; exact yes _⟩
        · rw [List.length_map] at c4
          obtain ⟨k, hk⟩ := words_l0 s a1 a2.toNat (by omega) (by omega) (by omega) a1.size 0 (by omega) (by omega) (fun n h h0 => absurd h0 (by omega))
          have h := hk k (Nat.le_refl _)
          rw [Int.toNat_of_nonneg (by omega)] at h
          refine ⟨k + 1, ?_⟩
          rw [if_neg c1, if_neg c2, if_neg c3, decide_eq_false (by rw [List.length_map]; exact c4)]
          simp only [epactlaw11_ZicWords.j0]
          rw [if_neg (by decide)]
          exact h
end Go.Proofs.YtodalfobehddmaaDoor.Y
namespace Go.Proofs.YtodalfobehddmaaDoor.zicWords
open Go.ChangeShapes Go.WideShapes Go.ChangeAt Go.RowKit
open Go.ChangeMaps (open_string shut_string)
open Go.Proofs.YtodalfobehddmaaDoorW.PrintWords
set_option maxRecDepth 100000 in
theorem contract (H : Type) (enc : TypeId × Value → H) (W : World) (base : Nat) (args : Array Value) (ds gs : List (DataW H)) (before : List MemPlace)
    (hval0 : ∀ (j : Nat) t v, Tryd.f5.params[j]? = some t → args[j]? = some v → Value.okWide Tryd.prog W .any base t v)
    (hW : DataW.Whole enc Tryd.prog Tryd.f5.params.toList Rows.zicWordsSpec.vars false W args.toList ds gs before)
    (hsz0 : (DataW.weightsEach Tryd.prog (Tryd.f5.params.toList ++ Rows.zicWordsSpec.plain.varTypes Tryd.prog) (ds ++ gs)).all (· ≤ reachBytes) = true)
    (hk : Rows.uptoSmall H (ds ++ gs) = true)
    (hL : laidMetH Tryd.prog Y.laidL W) :
    Calls Tryd.prog 5 args W fun e W' => ∃ v, e = .returned v ∧ Rows.zicWordsSpec.post enc Tryd.prog Tryd.f5 false true false false W args v W' := by
  have hG := Y.gl_of_laidH hL
  have hsz := hsz0
  have hval := hval0
  have hW' := hW
  obtain ⟨p, q, hA0, hV, rfl, hfz, hnd⟩ := hW
  have hA : DataW.TrodAll enc Tryd.prog W 0 (fun _ => true) true Tryd.f5.params.toList args.toList ds p := hA0
  rw [Tryd.params5] at hA hval hsz
  obtain ⟨v0, vs0, d0, ds0, p0, q0, hargs, rfl, rfl, h0, r0⟩ := trodAll_cons hA
  obtain ⟨v1, vs1, d1, ds1, p1, q1, rfl, rfl, rfl, h1, r1⟩ := trodAll_cons r0
  obtain ⟨v2, vs2, d2, ds2, p2, q2, rfl, rfl, rfl, h2, r2⟩ := trodAll_cons r1
  obtain ⟨rfl, rfl, rfl⟩ := trodAll_nil r2
  obtain rfl : args = #[v0, v1, v2] := by cases args; simp_all
  obtain ⟨rfl, rfl⟩ := trodVars_none hV
  obtain ⟨a0, rfl, rfl, rfl, y0⟩ := open_string Tryd.underlying9 (hval 0 9 v0 rfl rfl) h0
  have w0 : a0.size ≤ 140737488351232 := by
    have z := sized_string hsz (j := 0) (t := 9) rfl rfl
    rw [Array.length_toList] at z
    exact z
  obtain ⟨a1, rfl, rfl, rfl, y1⟩ := open_string Tryd.underlying9 (hval 1 9 v1 rfl rfl) h1
  have w1 : a1.size ≤ 140737488351232 := by
    have z := sized_string hsz (j := 1) (t := 9) rfl rfl
    rw [Array.length_toList] at z
    exact z
  obtain ⟨a2, rfl, rfl, rfl, w2⟩ := open_int Tryd.underlying3 (hval 2 3 v2 rfl rfl) h2
  have hu := of_decide_eq_true hk
  simp only [List.append_nil, Rows.uptoBulkAll, Rows.uptoBulk] at hu
  have u0 : a0.size ≤ 1048576 := by
    have e_ : a0.data.toList.length = a0.size := rfl
    omega
  have u1 : a1.size ≤ 1048576 := by
    have e_ : a1.data.toList.length = a1.size := rfl
    omega
  clear hA0 hval0 hsz0 hsz hval hk hu
  obtain ⟨k, hf⟩ := Y.zicWords_pure a0 a1 a2 w0 w1 w2 u0 u1
  refine (Y.epactlaw11_ZicWords.calls k a0 a1 a2 true W ⟨rfl⟩ hf hG).mono fun e W' ⟨he, bel⟩ => ?_
  subst he
  exact ⟨_, rfl, _, _, _, [], _, [], hW', trodAll_mk1 (shut_bool Tryd.underlying4 _), (trodAll_cons_mk (shut_string Tryd.underlying9 y0) (trodAll_cons_mk (shut_string Tryd.underlying9 y1) (trodAll_cons_mk (shut_int Tryd.underlying3 w2) trodAll_mk0))), rfl, bel.frame _, fun h => by cases h⟩
theorem reads (os : Os) {H : Type} (enc : TypeId × Value → H) : ∃ places, DataW.whole enc Tryd.prog ((World.laidAll Tryd.prog os Y.laidL).forCall (fun _ _ => 0) ⟨#[], #[.string ByteArray.empty, .string ByteArray.empty, .int .i64 0], []⟩).memory Tryd.f5.params.toList Rows.zicWordsSpec.vars false (#[.string ByteArray.empty, .string ByteArray.empty, .int .i64 0] : Array Value).toList 8 = some ([.lit (.string []), .lit (.string []), .lit (.int .i64 0)], [], places) :=
  ⟨[], by kernel_rfl⟩
set_option maxRecDepth 100000 in
theorem lifted (os : Os) (started : os.Started) (H : Type) (enc : TypeId × Value → H) (F : Stop.Interp) :
    ReturnsInHanded {} Tryd.checked os 5 .any ((Rows.OpenSpec.upto Rows.zicWordsSpec).preRow enc Tryd.prog Tryd.f5 Rows.zicWordsUptoRow.domain false Rows.zicWordsUptoRow.laid) (((Rows.OpenSpec.upto Rows.zicWordsSpec).at F).post enc Tryd.prog Tryd.f5 false true false false) := by
  obtain ⟨places, hx⟩ := reads os enc
  refine returnsInHanded_of_row (C := Tryd.checked) (s := Rows.OpenSpec.upto Rows.zicWordsSpec) Y.own started (by kernel_rfl) Tryd.func5
    (witness_row_atRef (enc := enc) (C := Tryd.checked) false (World.laidAll Tryd.prog os Y.laidL) #[.string ByteArray.empty, .string ByteArray.empty, .int .i64 0] (World.laidAll_os _ _ _) (by kernel_rfl) (by kernel_rfl) (by kernel_rfl)
      (OpenSpec.preRow_of_cond 8 hx (by kernel_rfl) (fun k hk => by cases hk; kernel_rfl) (by kernel_rfl) (Y.world_met os _))) ?_
  intro W base args ds gs before hval hW _ hcond hsz hL _ _
  exact contract H enc W base args ds gs before hval hW hsz (hcond _ rfl) hL
theorem said : Rows.ZicWordsUptoSaid :=
  OpenClaim.holds_of_cond 5 Tryd.f5 rfl rfl rfl rfl rfl rfl rfl ⟨rfl, rfl, rfl, rfl, rfl⟩ rfl rfl rfl rfl rfl (by kernel_rfl) Tryd.func5 (by kernel_rfl)
    (of_decide_eq_true (by kernel_rfl)) (by unfold Func.isWrapper; first | (rw [if_pos (by decide +kernel)]; kernel_rfl) | (rw [if_neg (by decide +kernel)]; exact ⟨rfl, rfl⟩))
    (fun os started H enc _ F => by rw [OpenClaim.pre_eq_preRow]; exact lifted os started H enc F)
theorem plain (f : FuncId) (fn : Func) (hf : Tryd.pinned.checked.prog.funcNamed "epact/epactlaw11.ZicWords" = some f) (hfn : Tryd.pinned.checked.prog.funcs[f]? = some fn) :
    false = Tryd.pinned.checked.prog.looks [] ∧ ∀ (j : Nat) t, fn.params[j]? = some t → Tryd.pinned.checked.prog.wantsStandIn t = false := by
  obtain rfl : f = 5 := Option.some.inj ((show Tryd.prog.funcNamed "epact/epactlaw11.ZicWords" = some 5 by kernel_rfl).symm.trans hf) |>.symm
  obtain rfl : fn = Tryd.f5 := (Option.some.inj (Tryd.func5.symm.trans hfn)).symm
  refine ⟨by kernel_rfl, fun j t ht => ?_⟩
  rw [Tryd.params5] at ht
  have hm : t ∈ [9, 9, 3] := by simpa using Array.mem_of_getElem? ht
  have hall : ([9, 9, 3].all fun u => !Tryd.prog.wantsStandIn u) = true := by kernel_rfl
  exact (show Tryd.prog.wantsStandIn t = false by simpa using List.all_eq_true.1 hall t hm)
theorem card : Rows.ZicWordsUptoCardSaid :=
  Claim7.holds_tied_plain_at .later [] _ _ _ _ said (fun _ h => by cases h) (by kernel_rfl) (fun _ h => by cases h) zicWordsUpto_row_tie rfl ⟨rfl, rfl⟩ (by kernel_rfl) rfl plain (by kernel_rfl)
end Go.Proofs.YtodalfobehddmaaDoor.zicWords
namespace Go.Proofs.YtodalfobehddmaaDoor
theorem zicWordsUpto_card : Rows.ZicWordsUptoCardSaid := zicWords.card
end Go.Proofs.YtodalfobehddmaaDoor
