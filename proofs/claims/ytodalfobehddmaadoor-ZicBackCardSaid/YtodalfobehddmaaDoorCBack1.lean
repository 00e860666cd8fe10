/- The law epact/epactlaw11.ZicBack holds: the row and its tied card. Condition: package-level variables of Go's library hold what the program's text lays (the card ties them). (part 1 of 1) -/
import Derived.Test.YtodalfobehddmaaDoorCards
import Derived.Test.YtodalfobehddmaaDoorTie
import Derived.WalkKit
import Derived.ProofKit
import Derived.OpenShut
import Derived.ShutString
import Derived.ChangeOld
import Derived.Below
import Derived.SizedLaws
import Derived.SevenTiedAt
import Derived.Deep.DeepWitnessRowRef
import Derived.Test.YtodalfobehddmaaDoorCZ4
set_option linter.unusedVariables false
set_option linter.unusedSimpArgs false
namespace Go.Proofs.YtodalfobehddmaaDoor.Y
open Go.RowKit Go.Proofs.YtodalfobehddmaaDoorW.PrintWords Go.Proofs.YtodalfobehddmaaDoorW.PrintLast Go.Proofs.YtodalfobehddmaaDoor.Mx
attribute [local go_sem] max2_int min2_int max_two min_two max_three min_three   -- for this text's walks alone
open Go.Proofs.YtodalfobehddmaaDoor.Z
end Go.Proofs.YtodalfobehddmaaDoor.Y
namespace Go.Proofs.YtodalfobehddmaaDoor.Y
open Go.RowKit Go.Proofs.YtodalfobehddmaaDoorW.PrintWords Go.Proofs.YtodalfobehddmaaDoorW.PrintLast Go.Proofs.YtodalfobehddmaaDoor.Mx
attribute [local go_sem] max2_int min2_int max_two min_two max_three min_three   -- for this text's walks alone
open Go.Proofs.YtodalfobehddmaaDoor.Z
theorem eqA31 (d : Nat) (w : World) (x0 y0 : Int) (x1 y1 : Int) :
    (Op.equalIn (d + 2) 31 (.agg #[.int .i64 x0, .int .i64 x1]) (.agg #[.int .i64 y0, .int .i64 y1])).run Tryd.prog w = .ok (x0 == y0 && (x1 == y1)) w := by
  refine eqA_of Tryd.underlying31 (by kernel_rfl) ?_
  refine eqf_cons (by rfl) (by go_simp; rfl) (by go_simp; rfl) (by go_simp) ?_
  exact eqf_last (by rfl) (by go_simp; rfl) (by go_simp; rfl) (by go_simp)
end Go.Proofs.YtodalfobehddmaaDoor.Y
namespace Go.Proofs.YtodalfobehddmaaDoor.Y
open Go.RowKit Go.Proofs.YtodalfobehddmaaDoorW.PrintWords Go.Proofs.YtodalfobehddmaaDoorW.PrintLast Go.Proofs.YtodalfobehddmaaDoor.Mx
attribute [local go_sem] max2_int min2_int max_two min_two max_three min_three   -- for this text's walks alone
open Go.Proofs.YtodalfobehddmaaDoor.Z
def epactlaw09_Few.f (l0_0 : List (S46)) (a0_1 : Bool) (a0_2 : Int) : Option (Bool) := some (decide ((l0_0.length : Int) ≤ 300))
set_option maxHeartbeats 8000000 in
set_option maxRecDepth 100000 in
theorem epactlaw09_Few.calls (A0_0 : Option Addr) (c0_0 : Nat) (l0_0 : List (S46)) (a0_1 : Bool) (a0_2 : Int) (r : Bool) (w : World) (hr0_0 : Kd.C k46 w A0_0 l0_0.length l0_0) (hc0_0 : l0_0.length ≤ c0_0) (h : epactlaw09_Few.f l0_0 a0_1 a0_2 = some r) :
    Calls Tryd.prog 12 #[.agg #[.slice A0_0 l0_0.length c0_0, .bool a0_1, .int .i64 a0_2]] w fun e w' => e = .returned (.bool r) ∧ Below w.heap.size w w' := by
  have hu24 := Tryd.underlying24
  have HR0_0 := Aside0.mk hr0_0
  have HC0_0 := Aside0.mk hc0_0
  clear hr0_0 hc0_0
  have HB := Aside0.mk (Below.refl w.heap.size w)
  have H : (some (decide ((l0_0.length : Int) ≤ 300))) = some r := h
  clear h
  obtain rfl := Option.some.inj H
  go_enter Tryd.func12, Tryd.ntmps12
  go_wp2_with (first | ((with_reducible refine gate_dst (N := 1) rfl ?_); refine box_event ?hg (N := 1) ?hd (cs := #[.slice A0_0 l0_0.length c0_0, .bool a0_1, .int .i64 a0_2]) (t := 24) ?hr ?_; (case hd => rfl); (case hg => rfl); (case hr => first | (go_simp; done) | (go_simp; rfl)); intro gb101 hg w2 hbox hb; have n0_ := Aside0.mk (below_step (by repeat (first | (with_reducible first | exact HB.out | apply below_alloc | apply pw_below_drewN | apply below_drew1) | exact HB.out)) hb); have n1_ := Aside0.mk (hbox); have n2_ := Aside0.mk ((by rw [hg]; exact (below_size (by repeat (first | (with_reducible first | exact HB.out | apply below_alloc | apply pw_below_drewN | apply below_drew1) | exact HB.out))) : w.heap.size ≤ gb101)); have n3_ := Aside0.mk ((by rw [hg]; exact (below_size (by repeat (first | (with_reducible first | exact HB.out | apply below_alloc | apply pw_below_drewN | apply below_drew1) | exact HB.out))) : w.heap.size ≤ gb101)); clear HB; have HB := n0_; have BK101 := n1_; have GW101 := n2_; have GE101 := n3_; clear n0_ n1_ n2_ n3_; clear hb hbox hg; have hcz3_0 : w2.cell? ⟨gb101, 0, none⟩ = some (.slice A0_0 l0_0.length c0_0) := (blk_cell BK101.out 0).trans rfl; have hcz3_1 : w2.cell? ⟨gb101, 1, none⟩ = some (.bool a0_1) := (blk_cell BK101.out 1).trans rfl; have hcz3_2 : w2.cell? ⟨gb101, 2, none⟩ = some (.int .i64 a0_2) := (blk_cell BK101.out 2).trans rfl; have hfz3_0 := blk_frozen BK101.out 0; have hfz3_1 := blk_frozen BK101.out 1; have hfz3_2 := blk_frozen BK101.out 2))
  go_ret
  exact ⟨by first | rfl | (simp [errW_none, errW_some] <;> rfl) | (simp [*, errW_none, errW_some] <;> rfl), by repeat (first | (with_reducible first | exact HB.out | apply below_alloc | apply pw_below_drewN | apply below_drew1 | refine below_set ?_ GE101.out) | exact HB.out)⟩
end Go.Proofs.YtodalfobehddmaaDoor.Y
namespace Go.Proofs.YtodalfobehddmaaDoor.Y
open Go.RowKit Go.Proofs.YtodalfobehddmaaDoorW.PrintWords Go.Proofs.YtodalfobehddmaaDoorW.PrintLast Go.Proofs.YtodalfobehddmaaDoor.Mx
attribute [local go_sem] max2_int min2_int max_two min_two max_three min_three   -- for this text's walks alone
open Go.Proofs.YtodalfobehddmaaDoor.Z
attribute [local go_sem high] eqA31
def epactlaw11_ZicBack.f (l0_0 : List (S46)) (a0_1 : Bool) (a0_2 : Int) : Option (Bool) := (epactlaw11_small.f).bind fun t103 => ((epactlaw09_Few.f l0_0 a0_1 a0_2).bind fun t104 => (if t104 = true then ((zic_Text.f l0_0 a0_1 a0_2).bind fun bt105 => (if bt105.2 = true then ((zic_Parse.f bt105.1).bind fun bt107 => (if t103 = true then (if (bt107.2.2.2.1 == 0 && (bt107.2.2.2.2 == 0)) = true then ((epactref09_Same.f bt107.1 bt107.2.1 bt107.2.2.1 l0_0 a0_1 a0_2).bind fun t116 => (if t116 = true then ((leap_Right.f l0_0 a0_1 a0_2).bind fun t117 => (some t117)) else (some false))) else (some false)) else (some false))) else (if t103 = true then (if bt105.1.toList = ([] : List UInt8) then ((leap_Right.f l0_0 a0_1 a0_2).bind fun t118 => (some (!t118))) else (some false)) else (some false)))) else (some t103)))
set_option maxHeartbeats 8000000 in
set_option maxRecDepth 100000 in
theorem epactlaw11_ZicBack.calls (A0_0 : Option Addr) (c0_0 : Nat) (l0_0 : List (S46)) (a0_1 : Bool) (a0_2 : Int) (r : Bool) (w : World) (hr0_0 : Kd.C k46 w A0_0 l0_0.length l0_0) (hc0_0 : l0_0.length ≤ c0_0) (hr_ : Aside0 (r = true)) (h : epactlaw11_ZicBack.f l0_0 a0_1 a0_2 = some r) (hG : Gl w) :
    Calls Tryd.prog 3 #[.agg #[.slice A0_0 l0_0.length c0_0, .bool a0_1, .int .i64 a0_2]] w fun e w' => e = .returned (.bool r) ∧ Below w.heap.size w w' := by
  have HG := Aside0.mk hG
  clear hG
  have hu24 := Tryd.underlying24
  have hu31 := Tryd.underlying31
  have HR0_0 := Aside0.mk hr0_0
  have HC0_0 := Aside0.mk hc0_0
  clear hr0_0 hc0_0
  have HB := Aside0.mk (Below.refl w.heap.size w)
  have H : ((epactlaw11_small.f).bind fun t103 => ((epactlaw09_Few.f l0_0 a0_1 a0_2).bind fun t104 => (if t104 = true then ((zic_Text.f l0_0 a0_1 a0_2).bind fun bt105 => (if bt105.2 = true then ((zic_Parse.f bt105.1).bind fun bt107 => (if t103 = true then (if (bt107.2.2.2.1 == 0 && (bt107.2.2.2.2 == 0)) = true then ((epactref09_Same.f bt107.1 bt107.2.1 bt107.2.2.1 l0_0 a0_1 a0_2).bind fun t116 => (if t116 = true then ((leap_Right.f l0_0 a0_1 a0_2).bind fun t117 => (some t117)) else (some false))) else (some false)) else (some false))) else (if t103 = true then (if bt105.1.toList = ([] : List UInt8) then ((leap_Right.f l0_0 a0_1 a0_2).bind fun t118 => (some (!t118))) else (some false)) else (some false)))) else (some t103)))) = some r := h
  clear h
  replace H := Option.bind_eq_some_iff.mp H
  obtain ⟨t103, A20, H⟩ := H
  replace H : ((epactlaw09_Few.f l0_0 a0_1 a0_2).bind fun t104 => (if t104 = true then ((zic_Text.f l0_0 a0_1 a0_2).bind fun bt105 => (if bt105.2 = true then ((zic_Parse.f bt105.1).bind fun bt107 => (if t103 = true then (if (bt107.2.2.2.1 == 0 && (bt107.2.2.2.2 == 0)) = true then ((epactref09_Same.f bt107.1 bt107.2.1 bt107.2.2.1 l0_0 a0_1 a0_2).bind fun t116 => (if t116 = true then ((leap_Right.f l0_0 a0_1 a0_2).bind fun t117 => (some t117)) else (some false))) else (some false)) else (some false))) else (if t103 = true then (if bt105.1.toList = ([] : List UInt8) then ((leap_Right.f l0_0 a0_1 a0_2).bind fun t118 => (some (!t118))) else (some false)) else (some false)))) else (some t103))) = some r := H
  have A2 := Aside0.mk A20
  clear A20
  replace H := Option.bind_eq_some_iff.mp H
  obtain ⟨t104, A30, H⟩ := H
  replace H : (if t104 = true then ((zic_Text.f l0_0 a0_1 a0_2).bind fun bt105 => (if bt105.2 = true then ((zic_Parse.f bt105.1).bind fun bt107 => (if t103 = true then (if (bt107.2.2.2.1 == 0 && (bt107.2.2.2.2 == 0)) = true then ((epactref09_Same.f bt107.1 bt107.2.1 bt107.2.2.1 l0_0 a0_1 a0_2).bind fun t116 => (if t116 = true then ((leap_Right.f l0_0 a0_1 a0_2).bind fun t117 => (some t117)) else (some false))) else (some false)) else (some false))) else (if t103 = true then (if bt105.1.toList = ([] : List UInt8) then ((leap_Right.f l0_0 a0_1 a0_2).bind fun t118 => (some (!t118))) else (some false)) else (some false)))) else (some t103)) = some r := H
  have A3 := Aside0.mk A30
  clear A30
  by_cases c4 : t104 = true
  · subst c4
    have H1 : ((zic_Text.f l0_0 a0_1 a0_2).bind fun bt105 => (if bt105.2 = true then ((zic_Parse.f bt105.1).bind fun bt107 => (if t103 = true then (if (bt107.2.2.2.1 == 0 && (bt107.2.2.2.2 == 0)) = true then ((epactref09_Same.f bt107.1 bt107.2.1 bt107.2.2.1 l0_0 a0_1 a0_2).bind fun t116 => (if t116 = true then ((leap_Right.f l0_0 a0_1 a0_2).bind fun t117 => (some t117)) else (some false))) else (some false)) else (some false))) else (if t103 = true then (if bt105.1.toList = ([] : List UInt8) then ((leap_Right.f l0_0 a0_1 a0_2).bind fun t118 => (some (!t118))) else (some false)) else (some false)))) = some r := by rw [if_pos rfl] at H; exact H
    clear H
    have H := H1
    clear H1
    replace H := Option.bind_eq_some_iff.mp H
    obtain ⟨⟨t105, t106⟩, A50, H⟩ := H
    replace H : (if t106 = true then ((zic_Parse.f t105).bind fun bt107 => (if t103 = true then (if (bt107.2.2.2.1 == 0 && (bt107.2.2.2.2 == 0)) = true then ((epactref09_Same.f bt107.1 bt107.2.1 bt107.2.2.1 l0_0 a0_1 a0_2).bind fun t116 => (if t116 = true then ((leap_Right.f l0_0 a0_1 a0_2).bind fun t117 => (some t117)) else (some false))) else (some false)) else (some false))) else (if t103 = true then (if t105.toList = ([] : List UInt8) then ((leap_Right.f l0_0 a0_1 a0_2).bind fun t118 => (some (!t118))) else (some false)) else (some false))) = some r := H
    have A5 := Aside0.mk A50
    clear A50
    by_cases c6 : t106 = true
    · subst c6
      have H1 : ((zic_Parse.f t105).bind fun bt107 => (if t103 = true then (if (bt107.2.2.2.1 == 0 && (bt107.2.2.2.2 == 0)) = true then ((epactref09_Same.f bt107.1 bt107.2.1 bt107.2.2.1 l0_0 a0_1 a0_2).bind fun t116 => (if t116 = true then ((leap_Right.f l0_0 a0_1 a0_2).bind fun t117 => (some t117)) else (some false))) else (some false)) else (some false))) = some r := by rw [if_pos rfl] at H; exact H
      clear H
      have H := H1
      clear H1
      replace H := Option.bind_eq_some_iff.mp H
      obtain ⟨⟨t107, t110, t111, t112, t113⟩, A70, H⟩ := H
      replace H : (if t103 = true then (if (t112 == 0 && (t113 == 0)) = true then ((epactref09_Same.f t107 t110 t111 l0_0 a0_1 a0_2).bind fun t116 => (if t116 = true then ((leap_Right.f l0_0 a0_1 a0_2).bind fun t117 => (some t117)) else (some false))) else (some false)) else (some false)) = some r := H
      have A7 := Aside0.mk A70
      clear A70
      by_cases c8 : t103 = true
      · subst c8
        have H1 : (if (t112 == 0 && (t113 == 0)) = true then ((epactref09_Same.f t107 t110 t111 l0_0 a0_1 a0_2).bind fun t116 => (if t116 = true then ((leap_Right.f l0_0 a0_1 a0_2).bind fun t117 => (some t117)) else (some false))) else (some false)) = some r := by rw [if_pos rfl] at H; exact H
        clear H
        have H := H1
        clear H1
        by_cases c9 : (t112 == 0 && (t113 == 0)) = true
        · rw [if_pos c9] at H
          have c9b0 : (t112 == 0 && (t113 == 0)) = true := c9
          (try (have c9b1 : decide (t112 = 0 && (t113 == 0)) = true := by simpa using c9))
          (try (have c9b2 : (t112 == 0 && (t113 == 0)) = true := by simpa using c9))
          clear c9
          replace H := Option.bind_eq_some_iff.mp H
          obtain ⟨t116, A100, H⟩ := H
          replace H : (if t116 = true then ((leap_Right.f l0_0 a0_1 a0_2).bind fun t117 => (some t117)) else (some false)) = some r := H
          have A10 := Aside0.mk A100
          clear A100
          by_cases c11 : t116 = true
          · subst c11
            have H1 : ((leap_Right.f l0_0 a0_1 a0_2).bind fun t117 => (some t117)) = some r := by rw [if_pos rfl] at H; exact H
            clear H
            have H := H1
            clear H1
            replace H := Option.bind_eq_some_iff.mp H
            obtain ⟨t117, A120, H⟩ := H
            replace H : (some t117) = some r := H
            have A12 := Aside0.mk A120
            clear A120
            obtain rfl := Option.some.inj H
            go_enter Tryd.func3, Tryd.ntmps3
            go_wp2_with (first | ((with_reducible refine gate_dst (N := 1) rfl ?_); refine box_event ?hg (N := 1) ?hd (cs := #[.slice A0_0 l0_0.length c0_0, .bool a0_1, .int .i64 a0_2]) (t := 24) ?hr ?_; (case hd => rfl); (case hg => rfl); (case hr => first | (go_simp; done) | (go_simp; rfl)); intro gb102 hg w13 hbox hb; have n0_ := Aside0.mk (below_step (by repeat (first | (with_reducible first | exact HB.out | apply below_alloc | apply pw_below_drewN | apply below_drew1) | exact HB.out)) hb); have n1_ := Aside0.mk (hbox); have n2_ := Aside0.mk ((by rw [hg]; exact (below_size (by repeat (first | (with_reducible first | exact HB.out | apply below_alloc | apply pw_below_drewN | apply below_drew1) | exact HB.out))) : w.heap.size ≤ gb102)); have n3_ := Aside0.mk ((by rw [hg]; exact (below_size (by repeat (first | (with_reducible first | exact HB.out | apply below_alloc | apply pw_below_drewN | apply below_drew1) | exact HB.out))) : w.heap.size ≤ gb102)); clear HB; have HB := n0_; have BK102 := n1_; have GW102 := n2_; have GE102 := n3_; clear n0_ n1_ n2_ n3_; clear hb hbox hg) | ((with_reducible refine gate_callee (f := 11) rfl ?_); refine goesL_ (some 9) rfl rfl Tryd.func11 (by kernel_rfl) rfl #[] rfl (by (try simp only [List.map_toArray, List.map_cons, List.map_nil]); first | done | rfl | (simp only [List.length_drop, List.length_take]; rfl)) ?_; (with_reducible refine (epactlaw11_small.calls  true _ A2.out (hG := by exact gl_below HG.out (by repeat (first | (with_reducible first | exact HB.out | apply below_alloc | apply pw_below_drewN | apply below_drew1 | refine below_set ?_ (Aside0.out (by with_reducible assumption))) | exact HB.out)))).mono ?_); rintro e w14 ⟨rfl, hb⟩; refine ⟨_, rfl, ?_⟩; have n0_ := Aside0.mk (blk_below (g := gb102) (o := .cells #[.slice A0_0 l0_0.length c0_0, .bool a0_1, .int .i64 a0_2] 24 (0, 0)) (by (with_reducible repeat (first | refine blk_drewN ?_ _ | refine blk_drew ?_ | refine blk_alloc ?_ _)); exact BK102.out) hb); have n1_ := Aside0.mk (below_step (by repeat (first | (with_reducible first | exact HB.out | apply below_alloc | apply pw_below_drewN | apply below_drew1 | refine below_set ?_ GE102.out) | exact HB.out)) hb); clear BK102; clear HB; have BK102 := n0_; have HB := n1_; clear n0_ n1_; (try clear hb); (try clear hb2); (try clear hk); (try clear hi); have hcz15_0 : w14.cell? ⟨gb102, 0, none⟩ = some (.slice A0_0 l0_0.length c0_0) := (blk_cell BK102.out 0).trans rfl; have hcz15_1 : w14.cell? ⟨gb102, 1, none⟩ = some (.bool a0_1) := (blk_cell BK102.out 1).trans rfl; have hcz15_2 : w14.cell? ⟨gb102, 2, none⟩ = some (.int .i64 a0_2) := (blk_cell BK102.out 2).trans rfl; have hfz15_0 := blk_frozen BK102.out 0; have hfz15_1 := blk_frozen BK102.out 1; have hfz15_2 := blk_frozen BK102.out 2) | ((with_reducible refine gate_callee (f := 12) rfl ?_); refine goesL_ (some 11) rfl rfl Tryd.func12 (by kernel_rfl) rfl #[.agg #[.slice A0_0 l0_0.length c0_0, .bool a0_1, .int .i64 a0_2]] rfl (by (try simp only [List.map_toArray, List.map_cons, List.map_nil]); first | done | rfl | (simp only [List.length_drop, List.length_take]; rfl)) ?_; (with_reducible refine (epactlaw09_Few.calls _ _ l0_0 a0_1 a0_2 true _ ?side1 ?side2 A3.out).mono ?_); (case side1 => repeat (first | exact (Kd.C_below HR0_0.out HB.out) | (with_reducible refine Kd.C_alloc ?_ _) | (with_reducible refine Kd.C_drewN ?_ _) | (with_reducible refine Kd.C_drew ?_))); (case side2 => exact HC0_0.out); rintro e w16 ⟨rfl, hb⟩; refine ⟨_, rfl, ?_⟩; have n0_ := Aside0.mk (blk_below (g := gb102) (o := .cells #[.slice A0_0 l0_0.length c0_0, .bool a0_1, .int .i64 a0_2] 24 (0, 0)) (by (with_reducible repeat (first | refine blk_drewN ?_ _ | refine blk_drew ?_ | refine blk_alloc ?_ _)); exact BK102.out) hb); have n1_ := Aside0.mk (below_step (by repeat (first | (with_reducible first | exact HB.out | apply below_alloc | apply pw_below_drewN | apply below_drew1 | refine below_set ?_ GE102.out) | exact HB.out)) hb); clear BK102; clear HB; have BK102 := n0_; have HB := n1_; clear n0_ n1_; (try clear hb); (try clear hb2); (try clear hk); (try clear hi); have hcz17_0 : w16.cell? ⟨gb102, 0, none⟩ = some (.slice A0_0 l0_0.length c0_0) := (blk_cell BK102.out 0).trans rfl; have hcz17_1 : w16.cell? ⟨gb102, 1, none⟩ = some (.bool a0_1) := (blk_cell BK102.out 1).trans rfl; have hcz17_2 : w16.cell? ⟨gb102, 2, none⟩ = some (.int .i64 a0_2) := (blk_cell BK102.out 2).trans rfl; have hfz17_0 := blk_frozen BK102.out 0; have hfz17_1 := blk_frozen BK102.out 1; have hfz17_2 := blk_frozen BK102.out 2) | ((with_reducible refine gate_callee (f := 13) rfl ?_); refine goesL_ (some 17) rfl rfl Tryd.func13 (by kernel_rfl) rfl #[.agg #[.slice A0_0 l0_0.length c0_0, .bool a0_1, .int .i64 a0_2]] rfl (by (try simp only [List.map_toArray, List.map_cons, List.map_nil]); first | done | rfl | (simp only [List.length_drop, List.length_take]; rfl)) ?_; (with_reducible refine (zic_Text.calls _ _ l0_0 a0_1 a0_2 t105 true _ ?side1 ?side2 A5.out (hG := by exact gl_below HG.out (by repeat (first | (with_reducible first | exact HB.out | apply below_alloc | apply pw_below_drewN | apply below_drew1 | refine below_set ?_ (Aside0.out (by with_reducible assumption))) | exact HB.out)))).mono ?_); (case side1 => repeat (first | exact (Kd.C_below HR0_0.out HB.out) | (with_reducible refine Kd.C_alloc ?_ _) | (with_reducible refine Kd.C_drewN ?_ _) | (with_reducible refine Kd.C_drew ?_))); (case side2 => exact HC0_0.out); rintro e w18 ⟨rfl, hb⟩; refine ⟨_, rfl, ?_⟩; have n0_ := Aside0.mk (blk_below (g := gb102) (o := .cells #[.slice A0_0 l0_0.length c0_0, .bool a0_1, .int .i64 a0_2] 24 (0, 0)) (by (with_reducible repeat (first | refine blk_drewN ?_ _ | refine blk_drew ?_ | refine blk_alloc ?_ _)); exact BK102.out) hb); have n1_ := Aside0.mk (below_step (by repeat (first | (with_reducible first | exact HB.out | apply below_alloc | apply pw_below_drewN | apply below_drew1 | refine below_set ?_ GE102.out) | exact HB.out)) hb); clear BK102; clear HB; have BK102 := n0_; have HB := n1_; clear n0_ n1_; (try clear hb); (try clear hb2); (try clear hk); (try clear hi)) | ((with_reducible refine gate_callee (f := 15) rfl ?_); refine goesL_ (some 34) rfl rfl Tryd.func15 (by kernel_rfl) rfl #[.string t105] rfl (by (try simp only [List.map_toArray, List.map_cons, List.map_nil]); first | done | rfl | (simp only [List.length_drop, List.length_take]; rfl)) ?_; (with_reducible refine (zic_Parse.calls t105 t107 t110 t111 t112 t113 _ A7.out).mono ?_); rintro e w19 ⟨v108, rfl, ho0, hb⟩; refine ⟨_, rfl, ?_⟩; have n0_ := Aside0.mk (Kd.R_lower ho0 (below_size (by repeat (first | (with_reducible first | exact HB.out | apply below_alloc | apply pw_below_drewN | apply below_drew1 | refine below_set ?_ GE102.out) | exact HB.out)))); have n1_ := Aside0.mk (blk_below (g := gb102) (o := .cells #[.slice A0_0 l0_0.length c0_0, .bool a0_1, .int .i64 a0_2] 24 (0, 0)) (by (with_reducible repeat (first | refine blk_drewN ?_ _ | refine blk_drew ?_ | refine blk_alloc ?_ _)); exact BK102.out) hb); have n2_ := Aside0.mk (below_step (by repeat (first | (with_reducible first | exact HB.out | apply below_alloc | apply pw_below_drewN | apply below_drew1 | refine below_set ?_ GE102.out) | exact HB.out)) hb); clear BK102; clear HB; have HO109 := n0_; have BK102 := n1_; have HB := n2_; clear n0_ n1_ n2_; (try clear hb); (try clear hb2); (try clear hk); (try clear hi); (try clear ho0)) | ((with_reducible refine gate_dst (N := 7) rfl ?_); refine box_event ?hg (N := 7) ?hd (cs := #[.slice none 0 0, .bool false, .int .i64 0]) (t := 24) ?hr ?_; (case hd => rfl); (case hg => rfl); (case hr => first | (go_simp; done) | (go_simp; rfl)); intro gb114 hg w20 hbox hb; have n0_ := Aside0.mk (Kd.R_below (by (with_reducible repeat (first | apply Kd.R_alloc | apply Kd.R_drewN | apply Kd.R_drew)); exact HO109.out) hb); have n1_ := Aside0.mk (blk_below (g := gb102) (o := .cells #[.slice A0_0 l0_0.length c0_0, .bool a0_1, .int .i64 a0_2] 24 (0, 0)) (by (with_reducible repeat (first | refine blk_drewN ?_ _ | refine blk_drew ?_ | refine blk_alloc ?_ _)); exact BK102.out) hb); have n2_ := Aside0.mk (below_step (by repeat (first | (with_reducible first | exact HB.out | apply below_alloc | apply pw_below_drewN | apply below_drew1 | refine below_set ?_ GE102.out) | exact HB.out)) hb); have n3_ := Aside0.mk (hbox); have n4_ := Aside0.mk ((by rw [hg]; exact (below_size (by repeat (first | (with_reducible first | exact HB.out | apply below_alloc | apply pw_below_drewN | apply below_drew1 | refine below_set ?_ GE102.out) | exact HB.out))) : w.heap.size ≤ gb114)); have n5_ := Aside0.mk ((by rw [hg]; exact (below_size (by repeat (first | (with_reducible first | exact HB.out | apply below_alloc | apply pw_below_drewN | apply below_drew1 | refine below_set ?_ GE102.out) | exact HB.out))) : w.heap.size ≤ gb114)); have n6_ := Aside0.mk ((by rw [hg]; exact Nat.ne_of_lt (blk_lt (g := gb102) (o := .cells #[.slice A0_0 l0_0.length c0_0, .bool a0_1, .int .i64 a0_2] 24 (0, 0)) (by (with_reducible repeat (first | refine blk_drewN ?_ _ | refine blk_drew ?_ | refine blk_alloc ?_ _)); exact BK102.out)) : gb102 ≠ gb114)); have n7_ := Aside0.mk ((by rw [hg]; exact Nat.ne_of_gt (blk_lt (g := gb102) (o := .cells #[.slice A0_0 l0_0.length c0_0, .bool a0_1, .int .i64 a0_2] 24 (0, 0)) (by (with_reducible repeat (first | refine blk_drewN ?_ _ | refine blk_drew ?_ | refine blk_alloc ?_ _)); exact BK102.out)) : gb114 ≠ gb102)); clear HO109; clear BK102; clear HB; have HO109 := n0_; have BK102 := n1_; have HB := n2_; have BK114 := n3_; have GW114 := n4_; have GE114 := n5_; have NB102_114 := n6_; have NB114_102 := n7_; clear n0_ n1_ n2_ n3_ n4_ n5_ n6_ n7_; clear hb hbox hg) | ((with_reducible refine gate_dst (N := 8) rfl ?_); refine box_event ?hg (N := 8) ?hd (cs := #[.int .i64 0, .int .i64 0]) (t := 31) ?hr ?_; (case hd => rfl); (case hg => rfl); (case hr => first | (go_simp; done) | (go_simp; rfl)); intro gb115 hg w21 hbox hb; have n0_ := Aside0.mk (Kd.R_below (by (with_reducible repeat (first | apply Kd.R_alloc | apply Kd.R_drewN | apply Kd.R_drew)); exact HO109.out) hb); have n1_ := Aside0.mk (blk_below (g := gb102) (o := .cells #[.slice A0_0 l0_0.length c0_0, .bool a0_1, .int .i64 a0_2] 24 (0, 0)) (by (with_reducible repeat (first | refine blk_drewN ?_ _ | refine blk_drew ?_ | refine blk_alloc ?_ _)); exact BK102.out) hb); have n2_ := Aside0.mk (blk_below (g := gb114) (o := .cells #[.slice none 0 0, .bool false, .int .i64 0] 24 (0, 0)) (by (with_reducible repeat (first | refine blk_drewN ?_ _ | refine blk_drew ?_ | refine blk_alloc ?_ _)); exact BK114.out) hb); have n3_ := Aside0.mk (below_step (by repeat (first | (with_reducible first | exact HB.out | apply below_alloc | apply pw_below_drewN | apply below_drew1 | refine below_set ?_ GE102.out | refine below_set ?_ GE114.out) | exact HB.out)) hb); have n4_ := Aside0.mk (hbox); have n5_ := Aside0.mk ((by rw [hg]; exact (below_size (by repeat (first | (with_reducible first | exact HB.out | apply below_alloc | apply pw_below_drewN | apply below_drew1 | refine below_set ?_ GE102.out | refine below_set ?_ GE114.out) | exact HB.out))) : w.heap.size ≤ gb115)); have n6_ := Aside0.mk ((by rw [hg]; exact (below_size (by repeat (first | (with_reducible first | exact HB.out | apply below_alloc | apply pw_below_drewN | apply below_drew1 | refine below_set ?_ GE102.out | refine below_set ?_ GE114.out) | exact HB.out))) : w.heap.size ≤ gb115)); have n7_ := Aside0.mk ((by rw [hg]; exact Nat.ne_of_lt (blk_lt (g := gb102) (o := .cells #[.slice A0_0 l0_0.length c0_0, .bool a0_1, .int .i64 a0_2] 24 (0, 0)) (by (with_reducible repeat (first | refine blk_drewN ?_ _ | refine blk_drew ?_ | refine blk_alloc ?_ _)); exact BK102.out)) : gb102 ≠ gb115)); have n8_ := Aside0.mk ((by rw [hg]; exact Nat.ne_of_gt (blk_lt (g := gb102) (o := .cells #[.slice A0_0 l0_0.length c0_0, .bool a0_1, .int .i64 a0_2] 24 (0, 0)) (by (with_reducible repeat (first | refine blk_drewN ?_ _ | refine blk_drew ?_ | refine blk_alloc ?_ _)); exact BK102.out)) : gb115 ≠ gb102)); have n9_ := Aside0.mk ((by rw [hg]; exact Nat.ne_of_lt (blk_lt (g := gb114) (o := .cells #[.slice none 0 0, .bool false, .int .i64 0] 24 (0, 0)) (by (with_reducible repeat (first | refine blk_drewN ?_ _ | refine blk_drew ?_ | refine blk_alloc ?_ _)); exact BK114.out)) : gb114 ≠ gb115)); have n10_ := Aside0.mk ((by rw [hg]; exact Nat.ne_of_gt (blk_lt (g := gb114) (o := .cells #[.slice none 0 0, .bool false, .int .i64 0] 24 (0, 0)) (by (with_reducible repeat (first | refine blk_drewN ?_ _ | refine blk_drew ?_ | refine blk_alloc ?_ _)); exact BK114.out)) : gb115 ≠ gb114)); clear HO109; clear BK102; clear BK114; clear HB; have HO109 := n0_; have BK102 := n1_; have BK114 := n2_; have HB := n3_; have BK115 := n4_; have GW115 := n5_; have GE115 := n6_; have NB102_115 := n7_; have NB115_102 := n8_; have NB114_115 := n9_; have NB115_114 := n10_; clear n0_ n1_ n2_ n3_ n4_ n5_ n6_ n7_ n8_ n9_ n10_; clear hb hbox hg; obtain ⟨Ao22, co22, eo22⟩ := Kd.R_slice HO109.out; subst eo22; have hnb23 := NB114_102.out; have hnc23 := NB102_114.out; have hnb24 := NB114_115.out; have hnc24 := NB115_114.out; have hcz25_0 : w21.cell? ⟨gb114, 0, none⟩ = some (.slice none 0 0) := (blk_cell BK114.out 0).trans rfl; have hcz25_1 : w21.cell? ⟨gb114, 1, none⟩ = some (.bool false) := (blk_cell BK114.out 1).trans rfl; have hcz25_2 : w21.cell? ⟨gb114, 2, none⟩ = some (.int .i64 0) := (blk_cell BK114.out 2).trans rfl; have hfz25_0 := blk_frozen BK114.out 0; have hfz25_1 := blk_frozen BK114.out 1; have hfz25_2 := blk_frozen BK114.out 2; have hnb26 := NB115_102.out; have hnc26 := NB102_115.out; have hcz27_0 : w21.cell? ⟨gb115, 0, none⟩ = some (.int .i64 0) := (blk_cell BK115.out 0).trans rfl; have hcz27_1 : w21.cell? ⟨gb115, 1, none⟩ = some (.int .i64 0) := (blk_cell BK115.out 1).trans rfl; have hfz27_0 := blk_frozen BK115.out 0; have hfz27_1 := blk_frozen BK115.out 1; have hcz28_0 : w21.cell? ⟨gb102, 0, none⟩ = some (.slice A0_0 l0_0.length c0_0) := (blk_cell BK102.out 0).trans rfl; have hcz28_1 : w21.cell? ⟨gb102, 1, none⟩ = some (.bool a0_1) := (blk_cell BK102.out 1).trans rfl; have hcz28_2 : w21.cell? ⟨gb102, 2, none⟩ = some (.int .i64 a0_2) := (blk_cell BK102.out 2).trans rfl; have hfz28_0 := blk_frozen BK102.out 0; have hfz28_1 := blk_frozen BK102.out 1; have hfz28_2 := blk_frozen BK102.out 2) | (go_at_call 16; (with_reducible refine (epactref09_Same.calls _ _ t107 t110 t111 _ _ l0_0 a0_1 a0_2 true _ ?side1 ?side2 ?side3 ?side4 A10.out).mono ?_); (case side1 => refine (Kd.R_reads' (e := 46) (base := w.heap.size) (ok := fun k_ => True) (n := t107.length) (c := co22) ?_).2.2; exact (by (with_reducible repeat (first | apply Kd.R_alloc | apply Kd.R_drewN | apply Kd.R_drew)); exact (Kd.R_mono (Kd.R_mono (Kd.R_far (p := ⟨gb115, 1, none⟩) (Kd.R_far (p := ⟨gb115, 0, none⟩) (Kd.R_far (p := ⟨gb114, 2, none⟩) (Kd.R_far (p := ⟨gb114, 1, none⟩) (Kd.R_far (p := ⟨gb114, 0, none⟩) (Kd.R_types (Kd.R_types HO109.out BK114.out (by decide)) BK115.out (by decide)) (fun _ hk => hk.1.2) (.slice Ao22 t107.length co22)) (fun _ hk => hk.1.2) (.bool t110)) (fun _ hk => hk.1.2) (.int .i64 t111)) (fun _ hk => hk.2) (.int .i64 t112)) (fun _ hk => hk.2) (.int .i64 t113)) (fun _ h_ => h_.1)) (fun _ h_ => h_.1)))); (case side2 => exact (Kd.R_reads' HO109.out).2.1); (case side3 => exact Kd.C_below HR0_0.out (by repeat (first | (with_reducible first | exact HB.out | apply below_alloc | apply pw_below_drewN | apply below_drew1 | refine below_set ?_ GE102.out | refine below_set ?_ GE114.out | refine below_set ?_ GE115.out) | exact HB.out))); (case side4 => exact HC0_0.out); rintro e w29 ⟨rfl, hb⟩; have n0_ := Aside0.mk (Kd.R_below (by (with_reducible repeat (first | apply Kd.R_alloc | apply Kd.R_drewN | apply Kd.R_drew)); exact (Kd.R_mono (Kd.R_mono (Kd.R_far (p := ⟨gb115, 1, none⟩) (Kd.R_far (p := ⟨gb115, 0, none⟩) (Kd.R_far (p := ⟨gb114, 2, none⟩) (Kd.R_far (p := ⟨gb114, 1, none⟩) (Kd.R_far (p := ⟨gb114, 0, none⟩) (Kd.R_types (Kd.R_types HO109.out BK114.out (by decide)) BK115.out (by decide)) (fun _ hk => hk.1.2) (.slice Ao22 t107.length co22)) (fun _ hk => hk.1.2) (.bool t110)) (fun _ hk => hk.1.2) (.int .i64 t111)) (fun _ hk => hk.2) (.int .i64 t112)) (fun _ hk => hk.2) (.int .i64 t113)) (fun _ h_ => h_.1)) (fun _ h_ => h_.1))) hb); have n1_ := Aside0.mk (blk_below (g := gb102) (o := .cells #[.slice A0_0 l0_0.length c0_0, .bool a0_1, .int .i64 a0_2] 24 (0, 0)) (by (with_reducible repeat (first | refine blk_drewN ?_ _ | refine blk_drew ?_ | refine blk_alloc ?_ _)); refine blk_far ?_ NB102_115.out _; (with_reducible repeat (first | refine blk_drewN ?_ _ | refine blk_drew ?_ | refine blk_alloc ?_ _)); refine blk_far ?_ NB102_115.out _; (with_reducible repeat (first | refine blk_drewN ?_ _ | refine blk_drew ?_ | refine blk_alloc ?_ _)); refine blk_far ?_ NB102_114.out _; (with_reducible repeat (first | refine blk_drewN ?_ _ | refine blk_drew ?_ | refine blk_alloc ?_ _)); refine blk_far ?_ NB102_114.out _; (with_reducible repeat (first | refine blk_drewN ?_ _ | refine blk_drew ?_ | refine blk_alloc ?_ _)); refine blk_far ?_ NB102_114.out _; (with_reducible repeat (first | refine blk_drewN ?_ _ | refine blk_drew ?_ | refine blk_alloc ?_ _)); exact BK102.out) hb); have n2_ := Aside0.mk (blk_below (g := gb114) (o := .cells #[.slice Ao22 t107.length co22, .bool t110, .int .i64 t111] 24 (0, 0)) (by (with_reducible repeat (first | refine blk_drewN ?_ _ | refine blk_drew ?_ | refine blk_alloc ?_ _)); refine blk_far ?_ NB114_115.out _; (with_reducible repeat (first | refine blk_drewN ?_ _ | refine blk_drew ?_ | refine blk_alloc ?_ _)); refine blk_far ?_ NB114_115.out _; (with_reducible repeat (first | refine blk_drewN ?_ _ | refine blk_drew ?_ | refine blk_alloc ?_ _)); refine blk_put (cs := #[.slice Ao22 t107.length co22, .bool t110, .int .i64 0]) ?_ 2 _ rfl; (with_reducible repeat (first | refine blk_drewN ?_ _ | refine blk_drew ?_ | refine blk_alloc ?_ _)); refine blk_put (cs := #[.slice Ao22 t107.length co22, .bool false, .int .i64 0]) ?_ 1 _ rfl; (with_reducible repeat (first | refine blk_drewN ?_ _ | refine blk_drew ?_ | refine blk_alloc ?_ _)); refine blk_put (cs := #[.slice none 0 0, .bool false, .int .i64 0]) ?_ 0 _ rfl; (with_reducible repeat (first | refine blk_drewN ?_ _ | refine blk_drew ?_ | refine blk_alloc ?_ _)); exact BK114.out) hb); have n3_ := Aside0.mk (blk_below (g := gb115) (o := .cells #[.int .i64 t112, .int .i64 t113] 31 (0, 0)) (by (with_reducible repeat (first | refine blk_drewN ?_ _ | refine blk_drew ?_ | refine blk_alloc ?_ _)); refine blk_put (cs := #[.int .i64 t112, .int .i64 0]) ?_ 1 _ rfl; (with_reducible repeat (first | refine blk_drewN ?_ _ | refine blk_drew ?_ | refine blk_alloc ?_ _)); refine blk_put (cs := #[.int .i64 0, .int .i64 0]) ?_ 0 _ rfl; (with_reducible repeat (first | refine blk_drewN ?_ _ | refine blk_drew ?_ | refine blk_alloc ?_ _)); refine blk_far ?_ NB115_114.out _; (with_reducible repeat (first | refine blk_drewN ?_ _ | refine blk_drew ?_ | refine blk_alloc ?_ _)); refine blk_far ?_ NB115_114.out _; (with_reducible repeat (first | refine blk_drewN ?_ _ | refine blk_drew ?_ | refine blk_alloc ?_ _)); refine blk_far ?_ NB115_114.out _; (with_reducible repeat (first | refine blk_drewN ?_ _ | refine blk_drew ?_ | refine blk_alloc ?_ _)); exact BK115.out) hb); have n4_ := Aside0.mk (below_step (by repeat (first | (with_reducible first | exact HB.out | apply below_alloc | apply pw_below_drewN | apply below_drew1 | refine below_set ?_ GE102.out | refine below_set ?_ GE114.out | refine below_set ?_ GE115.out) | exact HB.out)) hb); clear HO109; clear BK102; clear BK114; clear BK115; clear HB; have HO109 := n0_; have BK102 := n1_; have BK114 := n2_; have BK115 := n3_; have HB := n4_; clear n0_ n1_ n2_ n3_ n4_; (try clear hb); (try clear hb2); (try clear hk); (try clear hi); have hcz30_0 : w29.cell? ⟨gb102, 0, none⟩ = some (.slice A0_0 l0_0.length c0_0) := (blk_cell BK102.out 0).trans rfl; have hcz30_1 : w29.cell? ⟨gb102, 1, none⟩ = some (.bool a0_1) := (blk_cell BK102.out 1).trans rfl; have hcz30_2 : w29.cell? ⟨gb102, 2, none⟩ = some (.int .i64 a0_2) := (blk_cell BK102.out 2).trans rfl; have hfz30_0 := blk_frozen BK102.out 0; have hfz30_1 := blk_frozen BK102.out 1; have hfz30_2 := blk_frozen BK102.out 2) | (go_at_call 14; (with_reducible refine (leap_Right.calls _ _ l0_0 a0_1 a0_2 t117 _ ?side1 ?side2 A12.out).mono ?_); (case side1 => repeat (first | exact (Kd.C_below HR0_0.out HB.out) | (with_reducible refine Kd.C_alloc ?_ _) | (with_reducible refine Kd.C_drewN ?_ _) | (with_reducible refine Kd.C_drew ?_))); (case side2 => exact HC0_0.out); rintro e w31 ⟨rfl, hb⟩; have n0_ := Aside0.mk (Kd.R_below (by (with_reducible repeat (first | apply Kd.R_alloc | apply Kd.R_drewN | apply Kd.R_drew)); exact HO109.out) hb); have n1_ := Aside0.mk (blk_below (g := gb102) (o := .cells #[.slice A0_0 l0_0.length c0_0, .bool a0_1, .int .i64 a0_2] 24 (0, 0)) (by (with_reducible repeat (first | refine blk_drewN ?_ _ | refine blk_drew ?_ | refine blk_alloc ?_ _)); exact BK102.out) hb); have n2_ := Aside0.mk (blk_below (g := gb114) (o := .cells #[.slice Ao22 t107.length co22, .bool t110, .int .i64 t111] 24 (0, 0)) (by (with_reducible repeat (first | refine blk_drewN ?_ _ | refine blk_drew ?_ | refine blk_alloc ?_ _)); exact BK114.out) hb); have n3_ := Aside0.mk (blk_below (g := gb115) (o := .cells #[.int .i64 t112, .int .i64 t113] 31 (0, 0)) (by (with_reducible repeat (first | refine blk_drewN ?_ _ | refine blk_drew ?_ | refine blk_alloc ?_ _)); exact BK115.out) hb); have n4_ := Aside0.mk (below_step (by repeat (first | (with_reducible first | exact HB.out | apply below_alloc | apply pw_below_drewN | apply below_drew1 | refine below_set ?_ GE102.out | refine below_set ?_ GE114.out | refine below_set ?_ GE115.out) | exact HB.out)) hb); clear HO109; clear BK102; clear BK114; clear BK115; clear HB; have HO109 := n0_; have BK102 := n1_; have BK114 := n2_; have BK115 := n3_; have HB := n4_; clear n0_ n1_ n2_ n3_ n4_; (try clear hb); (try clear hb2); (try clear hk); (try clear hi)))
            go_ret
            exact ⟨by first | rfl | (simp [errW_none, errW_some] <;> rfl) | (simp [*, errW_none, errW_some] <;> rfl), by repeat (first | (with_reducible first | exact HB.out | apply below_alloc | apply pw_below_drewN | apply below_drew1 | refine below_set ?_ GE102.out | refine below_set ?_ GE114.out | refine below_set ?_ GE115.out) | exact HB.out)⟩
          · replace c11 := Bool.eq_false_iff.mpr c11
            subst c11
            have H1 : (some false) = some r := by rw [if_neg (show ¬ (false = true) by decide)] at H; exact H
            clear H
            have H := H1
            clear H1
            exact absurd ((Option.some.inj H).trans hr_.out) (by decide)
        · rw [if_neg c9] at H
          have c9b0 : (t112 == 0 && (t113 == 0)) = false := by simpa using c9
          (try (have c9b1 : decide (t112 = 0 && (t113 == 0)) = false := by simpa using c9))
          (try (have c9b2 : (t112 == 0 && (t113 == 0)) = false := by simpa using c9))
          (try (have c9b3 : ¬ (t112 = 0 && (t113 == 0)) := by simpa using c9))
          clear c9
          exact absurd ((Option.some.inj H).trans hr_.out) (by decide)
      · replace c8 := Bool.eq_false_iff.mpr c8
        subst c8
        have H1 : (some false) = some r := by rw [if_neg (show ¬ (false = true) by decide)] at H; exact H
        clear H
        have H := H1
        clear H1
        exact absurd ((Option.some.inj H).trans hr_.out) (by decide)
    · replace c6 := Bool.eq_false_iff.mpr c6
      subst c6
      have H1 : (if t103 = true then (if t105.toList = ([] : List UInt8) then ((leap_Right.f l0_0 a0_1 a0_2).bind fun t118 => (some (!t118))) else (some false)) else (some false)) = some r := by rw [if_neg (show ¬ (false = true) by decide)] at H; exact H
      clear H
      have H := H1
      clear H1
      by_cases c32 : t103 = true
      · subst c32
        have H1 : (if t105.toList = ([] : List UInt8) then ((leap_Right.f l0_0 a0_1 a0_2).bind fun t118 => (some (!t118))) else (some false)) = some r := by rw [if_pos rfl] at H; exact H
        clear H
        have H := H1
        clear H1
        by_cases c33 : t105.toList = ([] : List UInt8)
        · rw [if_pos c33] at H
          have c33b0 : (t105.toList == ([] : List UInt8)) = true := beq_iff_eq.mpr c33
          have c33b1 : (t105.toList != ([] : List UInt8)) = false := bne_eq_false_iff_eq.mpr c33
          clear c33
          replace H := Option.bind_eq_some_iff.mp H
          obtain ⟨t118, A340, H⟩ := H
          replace H : (some (!t118)) = some r := H
          have A34 := Aside0.mk A340
          clear A340
          obtain rfl := Option.some.inj H
          go_enter Tryd.func3, Tryd.ntmps3
          go_wp2_with (first | ((with_reducible refine gate_dst (N := 1) rfl ?_); refine box_event ?hg (N := 1) ?hd (cs := #[.slice A0_0 l0_0.length c0_0, .bool a0_1, .int .i64 a0_2]) (t := 24) ?hr ?_; (case hd => rfl); (case hg => rfl); (case hr => first | (go_simp; done) | (go_simp; rfl)); intro gb102 hg w35 hbox hb; have n0_ := Aside0.mk (below_step (by repeat (first | (with_reducible first | exact HB.out | apply below_alloc | apply pw_below_drewN | apply below_drew1) | exact HB.out)) hb); have n1_ := Aside0.mk (hbox); have n2_ := Aside0.mk ((by rw [hg]; exact (below_size (by repeat (first | (with_reducible first | exact HB.out | apply below_alloc | apply pw_below_drewN | apply below_drew1) | exact HB.out))) : w.heap.size ≤ gb102)); have n3_ := Aside0.mk ((by rw [hg]; exact (below_size (by repeat (first | (with_reducible first | exact HB.out | apply below_alloc | apply pw_below_drewN | apply below_drew1) | exact HB.out))) : w.heap.size ≤ gb102)); clear HB; have HB := n0_; have BK102 := n1_; have GW102 := n2_; have GE102 := n3_; clear n0_ n1_ n2_ n3_; clear hb hbox hg) | ((with_reducible refine gate_callee (f := 11) rfl ?_); refine goesL_ (some 9) rfl rfl Tryd.func11 (by kernel_rfl) rfl #[] rfl (by (try simp only [List.map_toArray, List.map_cons, List.map_nil]); first | done | rfl | (simp only [List.length_drop, List.length_take]; rfl)) ?_; (with_reducible refine (epactlaw11_small.calls  true _ A2.out (hG := by exact gl_below HG.out (by repeat (first | (with_reducible first | exact HB.out | apply below_alloc | apply pw_below_drewN | apply below_drew1 | refine below_set ?_ (Aside0.out (by with_reducible assumption))) | exact HB.out)))).mono ?_); rintro e w36 ⟨rfl, hb⟩; refine ⟨_, rfl, ?_⟩; have n0_ := Aside0.mk (blk_below (g := gb102) (o := .cells #[.slice A0_0 l0_0.length c0_0, .bool a0_1, .int .i64 a0_2] 24 (0, 0)) (by (with_reducible repeat (first | refine blk_drewN ?_ _ | refine blk_drew ?_ | refine blk_alloc ?_ _)); exact BK102.out) hb); have n1_ := Aside0.mk (below_step (by repeat (first | (with_reducible first | exact HB.out | apply below_alloc | apply pw_below_drewN | apply below_drew1 | refine below_set ?_ GE102.out) | exact HB.out)) hb); clear BK102; clear HB; have BK102 := n0_; have HB := n1_; clear n0_ n1_; (try clear hb); (try clear hb2); (try clear hk); (try clear hi); have hcz37_0 : w36.cell? ⟨gb102, 0, none⟩ = some (.slice A0_0 l0_0.length c0_0) := (blk_cell BK102.out 0).trans rfl; have hcz37_1 : w36.cell? ⟨gb102, 1, none⟩ = some (.bool a0_1) := (blk_cell BK102.out 1).trans rfl; have hcz37_2 : w36.cell? ⟨gb102, 2, none⟩ = some (.int .i64 a0_2) := (blk_cell BK102.out 2).trans rfl; have hfz37_0 := blk_frozen BK102.out 0; have hfz37_1 := blk_frozen BK102.out 1; have hfz37_2 := blk_frozen BK102.out 2) | ((with_reducible refine gate_callee (f := 12) rfl ?_); refine goesL_ (some 11) rfl rfl Tryd.func12 (by kernel_rfl) rfl #[.agg #[.slice A0_0 l0_0.length c0_0, .bool a0_1, .int .i64 a0_2]] rfl (by (try simp only [List.map_toArray, List.map_cons, List.map_nil]); first | done | rfl | (simp only [List.length_drop, List.length_take]; rfl)) ?_; (with_reducible refine (epactlaw09_Few.calls _ _ l0_0 a0_1 a0_2 true _ ?side1 ?side2 A3.out).mono ?_); (case side1 => repeat (first | exact (Kd.C_below HR0_0.out HB.out) | (with_reducible refine Kd.C_alloc ?_ _) | (with_reducible refine Kd.C_drewN ?_ _) | (with_reducible refine Kd.C_drew ?_))); (case side2 => exact HC0_0.out); rintro e w38 ⟨rfl, hb⟩; refine ⟨_, rfl, ?_⟩; have n0_ := Aside0.mk (blk_below (g := gb102) (o := .cells #[.slice A0_0 l0_0.length c0_0, .bool a0_1, .int .i64 a0_2] 24 (0, 0)) (by (with_reducible repeat (first | refine blk_drewN ?_ _ | refine blk_drew ?_ | refine blk_alloc ?_ _)); exact BK102.out) hb); have n1_ := Aside0.mk (below_step (by repeat (first | (with_reducible first | exact HB.out | apply below_alloc | apply pw_below_drewN | apply below_drew1 | refine below_set ?_ GE102.out) | exact HB.out)) hb); clear BK102; clear HB; have BK102 := n0_; have HB := n1_; clear n0_ n1_; (try clear hb); (try clear hb2); (try clear hk); (try clear hi); have hcz39_0 : w38.cell? ⟨gb102, 0, none⟩ = some (.slice A0_0 l0_0.length c0_0) := (blk_cell BK102.out 0).trans rfl; have hcz39_1 : w38.cell? ⟨gb102, 1, none⟩ = some (.bool a0_1) := (blk_cell BK102.out 1).trans rfl; have hcz39_2 : w38.cell? ⟨gb102, 2, none⟩ = some (.int .i64 a0_2) := (blk_cell BK102.out 2).trans rfl; have hfz39_0 := blk_frozen BK102.out 0; have hfz39_1 := blk_frozen BK102.out 1; have hfz39_2 := blk_frozen BK102.out 2) | ((with_reducible refine gate_callee (f := 13) rfl ?_); refine goesL_ (some 17) rfl rfl Tryd.func13 (by kernel_rfl) rfl #[.agg #[.slice A0_0 l0_0.length c0_0, .bool a0_1, .int .i64 a0_2]] rfl (by (try simp only [List.map_toArray, List.map_cons, List.map_nil]); first | done | rfl | (simp only [List.length_drop, List.length_take]; rfl)) ?_; (with_reducible refine (zic_Text.calls _ _ l0_0 a0_1 a0_2 t105 false _ ?side1 ?side2 A5.out (hG := by exact gl_below HG.out (by repeat (first | (with_reducible first | exact HB.out | apply below_alloc | apply pw_below_drewN | apply below_drew1 | refine below_set ?_ (Aside0.out (by with_reducible assumption))) | exact HB.out)))).mono ?_); (case side1 => repeat (first | exact (Kd.C_below HR0_0.out HB.out) | (with_reducible refine Kd.C_alloc ?_ _) | (with_reducible refine Kd.C_drewN ?_ _) | (with_reducible refine Kd.C_drew ?_))); (case side2 => exact HC0_0.out); rintro e w40 ⟨rfl, hb⟩; refine ⟨_, rfl, ?_⟩; have n0_ := Aside0.mk (blk_below (g := gb102) (o := .cells #[.slice A0_0 l0_0.length c0_0, .bool a0_1, .int .i64 a0_2] 24 (0, 0)) (by (with_reducible repeat (first | refine blk_drewN ?_ _ | refine blk_drew ?_ | refine blk_alloc ?_ _)); exact BK102.out) hb); have n1_ := Aside0.mk (below_step (by repeat (first | (with_reducible first | exact HB.out | apply below_alloc | apply pw_below_drewN | apply below_drew1 | refine below_set ?_ GE102.out) | exact HB.out)) hb); clear BK102; clear HB; have BK102 := n0_; have HB := n1_; clear n0_ n1_; (try clear hb); (try clear hb2); (try clear hk); (try clear hi); have hcz41_0 : w40.cell? ⟨gb102, 0, none⟩ = some (.slice A0_0 l0_0.length c0_0) := (blk_cell BK102.out 0).trans rfl; have hcz41_1 : w40.cell? ⟨gb102, 1, none⟩ = some (.bool a0_1) := (blk_cell BK102.out 1).trans rfl; have hcz41_2 : w40.cell? ⟨gb102, 2, none⟩ = some (.int .i64 a0_2) := (blk_cell BK102.out 2).trans rfl; have hfz41_0 := blk_frozen BK102.out 0; have hfz41_1 := blk_frozen BK102.out 1; have hfz41_2 := blk_frozen BK102.out 2) | (go_at_call 14; (with_reducible refine (leap_Right.calls _ _ l0_0 a0_1 a0_2 t118 _ ?side1 ?side2 A34.out).mono ?_); (case side1 => repeat (first | exact (Kd.C_below HR0_0.out HB.out) | (with_reducible refine Kd.C_alloc ?_ _) | (with_reducible refine Kd.C_drewN ?_ _) | (with_reducible refine Kd.C_drew ?_))); (case side2 => exact HC0_0.out); rintro e w42 ⟨rfl, hb⟩; have n0_ := Aside0.mk (blk_below (g := gb102) (o := .cells #[.slice A0_0 l0_0.length c0_0, .bool a0_1, .int .i64 a0_2] 24 (0, 0)) (by (with_reducible repeat (first | refine blk_drewN ?_ _ | refine blk_drew ?_ | refine blk_alloc ?_ _)); exact BK102.out) hb); have n1_ := Aside0.mk (below_step (by repeat (first | (with_reducible first | exact HB.out | apply below_alloc | apply pw_below_drewN | apply below_drew1 | refine below_set ?_ GE102.out) | exact HB.out)) hb); clear BK102; clear HB; have BK102 := n0_; have HB := n1_; clear n0_ n1_; (try clear hb); (try clear hb2); (try clear hk); (try clear hi)))
          go_ret
          exact ⟨by first | rfl | (simp [errW_none, errW_some] <;> rfl) | (simp [*, errW_none, errW_some] <;> rfl), by repeat (first | (with_reducible first | exact HB.out | apply below_alloc | apply pw_below_drewN | apply below_drew1 | refine below_set ?_ GE102.out) | exact HB.out)⟩
        · rw [if_neg c33] at H
          have c33b0 : (t105.toList == ([] : List UInt8)) = false := beq_eq_false_iff_ne.mpr c33
          have c33b1 : (t105.toList != ([] : List UInt8)) = true := bne_iff_ne.mpr c33
          exact absurd ((Option.some.inj H).trans hr_.out) (by decide)
      · replace c32 := Bool.eq_false_iff.mpr c32
        subst c32
        have H1 : (some false) = some r := by rw [if_neg (show ¬ (false = true) by decide)] at H; exact H
        clear H
        have H := H1
        clear H1
        exact absurd ((Option.some.inj H).trans hr_.out) (by decide)
  · replace c4 := Bool.eq_false_iff.mpr c4
    subst c4
    have H1 : (some t103) = some r := by rw [if_neg (show ¬ (false = true) by decide)] at H; exact H
    clear H
    have H := H1
    clear H1
    obtain rfl := Option.some.inj H
    go_enter Tryd.func3, Tryd.ntmps3
    go_wp2_with (first | ((with_reducible refine gate_dst (N := 1) rfl ?_); refine box_event ?hg (N := 1) ?hd (cs := #[.slice A0_0 l0_0.length c0_0, .bool a0_1, .int .i64 a0_2]) (t := 24) ?hr ?_; (case hd => rfl); (case hg => rfl); (case hr => first | (go_simp; done) | (go_simp; rfl)); intro gb102 hg w43 hbox hb; have n0_ := Aside0.mk (below_step (by repeat (first | (with_reducible first | exact HB.out | apply below_alloc | apply pw_below_drewN | apply below_drew1) | exact HB.out)) hb); have n1_ := Aside0.mk (hbox); have n2_ := Aside0.mk ((by rw [hg]; exact (below_size (by repeat (first | (with_reducible first | exact HB.out | apply below_alloc | apply pw_below_drewN | apply below_drew1) | exact HB.out))) : w.heap.size ≤ gb102)); have n3_ := Aside0.mk ((by rw [hg]; exact (below_size (by repeat (first | (with_reducible first | exact HB.out | apply below_alloc | apply pw_below_drewN | apply below_drew1) | exact HB.out))) : w.heap.size ≤ gb102)); clear HB; have HB := n0_; have BK102 := n1_; have GW102 := n2_; have GE102 := n3_; clear n0_ n1_ n2_ n3_; clear hb hbox hg) | ((with_reducible refine gate_callee (f := 11) rfl ?_); refine goesL_ (some 9) rfl rfl Tryd.func11 (by kernel_rfl) rfl #[] rfl (by (try simp only [List.map_toArray, List.map_cons, List.map_nil]); first | done | rfl | (simp only [List.length_drop, List.length_take]; rfl)) ?_; (with_reducible refine (epactlaw11_small.calls  t103 _ A2.out (hG := by exact gl_below HG.out (by repeat (first | (with_reducible first | exact HB.out | apply below_alloc | apply pw_below_drewN | apply below_drew1 | refine below_set ?_ (Aside0.out (by with_reducible assumption))) | exact HB.out)))).mono ?_); rintro e w44 ⟨rfl, hb⟩; refine ⟨_, rfl, ?_⟩; have n0_ := Aside0.mk (blk_below (g := gb102) (o := .cells #[.slice A0_0 l0_0.length c0_0, .bool a0_1, .int .i64 a0_2] 24 (0, 0)) (by (with_reducible repeat (first | refine blk_drewN ?_ _ | refine blk_drew ?_ | refine blk_alloc ?_ _)); exact BK102.out) hb); have n1_ := Aside0.mk (below_step (by repeat (first | (with_reducible first | exact HB.out | apply below_alloc | apply pw_below_drewN | apply below_drew1 | refine below_set ?_ GE102.out) | exact HB.out)) hb); clear BK102; clear HB; have BK102 := n0_; have HB := n1_; clear n0_ n1_; (try clear hb); (try clear hb2); (try clear hk); (try clear hi); have hcz45_0 : w44.cell? ⟨gb102, 0, none⟩ = some (.slice A0_0 l0_0.length c0_0) := (blk_cell BK102.out 0).trans rfl; have hcz45_1 : w44.cell? ⟨gb102, 1, none⟩ = some (.bool a0_1) := (blk_cell BK102.out 1).trans rfl; have hcz45_2 : w44.cell? ⟨gb102, 2, none⟩ = some (.int .i64 a0_2) := (blk_cell BK102.out 2).trans rfl; have hfz45_0 := blk_frozen BK102.out 0; have hfz45_1 := blk_frozen BK102.out 1; have hfz45_2 := blk_frozen BK102.out 2) | ((with_reducible refine gate_callee (f := 12) rfl ?_); refine goesL_ (some 11) rfl rfl Tryd.func12 (by kernel_rfl) rfl #[.agg #[.slice A0_0 l0_0.length c0_0, .bool a0_1, .int .i64 a0_2]] rfl (by (try simp only [List.map_toArray, List.map_cons, List.map_nil]); first | done | rfl | (simp only [List.length_drop, List.length_take]; rfl)) ?_; (with_reducible refine (epactlaw09_Few.calls _ _ l0_0 a0_1 a0_2 false _ ?side1 ?side2 A3.out).mono ?_); (case side1 => repeat (first | exact (Kd.C_below HR0_0.out HB.out) | (with_reducible refine Kd.C_alloc ?_ _) | (with_reducible refine Kd.C_drewN ?_ _) | (with_reducible refine Kd.C_drew ?_))); (case side2 => exact HC0_0.out); rintro e w46 ⟨rfl, hb⟩; refine ⟨_, rfl, ?_⟩; have n0_ := Aside0.mk (blk_below (g := gb102) (o := .cells #[.slice A0_0 l0_0.length c0_0, .bool a0_1, .int .i64 a0_2] 24 (0, 0)) (by (with_reducible repeat (first | refine blk_drewN ?_ _ | refine blk_drew ?_ | refine blk_alloc ?_ _)); exact BK102.out) hb); have n1_ := Aside0.mk (below_step (by repeat (first | (with_reducible first | exact HB.out | apply below_alloc | apply pw_below_drewN | apply below_drew1 | refine below_set ?_ GE102.out) | exact HB.out)) hb); clear BK102; clear HB; have BK102 := n0_; have HB := n1_; clear n0_ n1_; (try clear hb); (try clear hb2); (try clear hk); (try clear hi)))
    go_ret
    exact ⟨by first | rfl | (simp [errW_none, errW_some] <;> rfl) | (simp [*, errW_none, errW_some] <;> rfl), by repeat (first | (with_reducible first | exact HB.out | apply below_alloc | apply pw_below_drewN | apply below_drew1 | refine below_set ?_ GE102.out) | exact HB.out)⟩
end Go.Proofs.YtodalfobehddmaaDoor.Y
namespace Go.Proofs.YtodalfobehddmaaDoor.Y
open Go.RowKit Go.Proofs.YtodalfobehddmaaDoorW.PrintWords Go.Proofs.YtodalfobehddmaaDoorW.PrintLast Go.Proofs.YtodalfobehddmaaDoor.Mx
open Go.Proofs.YtodalfobehddmaaDoor.Z
theorem cutAt_none {c : UInt8} : ∀ {l : List UInt8}, c ∉ l → cutAt c l = none
  | [], _ => rfl
  | b :: t, h => by
    rw [cutAt, if_neg (by intro e; exact h (by rw [beq_iff_eq] at e; rw [e]; simp)), cutAt_none (fun hh => h (by simp [hh]))]
theorem cutAt_some {c : UInt8} : ∀ {x r : List UInt8}, c ∉ x → cutAt c (x ++ c :: r) = some (x, r)
  | [], r, _ => by rw [List.nil_append, cutAt, if_pos (by simp)]
  | b :: t, r, h => by
    rw [List.cons_append, cutAt, if_neg (by intro e; exact h (by rw [beq_iff_eq] at e; rw [e]; simp)), cutAt_some (fun hh => h (by simp [hh]))]
theorem cutL_none {c : UInt8} {l : List UInt8} (h : c ∉ l) : cutL c l = (l, [], false) := by
  unfold cutL
  rw [cutAt_none h]
theorem rawSplit_line {x : List UInt8} (h : (10 : UInt8) ∉ x) (r : List UInt8) : rawSplit 10 (x ++ 10 :: r) = x :: rawSplit 10 r := by
  rw [rawSplit_cut, cutAt_some h]
theorem rawSplit_flat : ∀ xs : List (List UInt8), (∀ x ∈ xs, (10 : UInt8) ∉ x) → rawSplit 10 ((xs.map (· ++ [10])).flatten) = xs ++ [[]]
  | [], _ => rfl
  | x :: t, h => by
    rw [List.map_cons, List.flatten_cons, List.append_assoc, List.singleton_append, rawSplit_line (h x (by simp)), rawSplit_flat t (fun y hy => h y (by simp [hy]))]
    rfl
theorem trimCR_none {x : List UInt8} (h : (13 : UInt8) ∉ x) : trimCR x = x := by
  unfold trimCR
  rw [if_neg]
  intro hx
  exact h (List.mem_of_getLast? hx)
theorem linesL_flat (xs : List (List UInt8)) (h10 : ∀ x ∈ xs, (10 : UInt8) ∉ x) (h13 : ∀ x ∈ xs, (13 : UInt8) ∉ x) : linesL ((xs.map (· ++ [10])).flatten) = xs := by
  unfold linesL
  rw [rawSplit_flat xs h10]
  unfold lastOff
  rw [if_pos (by simp), List.dropLast_concat]
  conv => rhs; rw [← List.map_id xs]
  exact List.map_congr_left (fun x hx => trimCR_none (h13 x hx))
theorem join_two (x y : List UInt8) (r : List (List UInt8)) (c : UInt8) : Lib.join (x :: y :: r) [c] = x ++ c :: Lib.join (y :: r) [c] := by
  simp [Lib.join, List.intercalate]
def Good (w : List UInt8) : Prop := w ≠ [] ∧ ∀ c ∈ w, 43 ≤ c.toNat
theorem good_blank {c : UInt8} (h : 43 ≤ c.toNat) : blankU c = false := blankU_high c (by omega) (by omega)
theorem words_join : ∀ ws : List (List UInt8), (∀ w ∈ ws, Good w) → wordsL (Lib.join ws [9]) = ws
  | [], _ => rfl
  | [x], h => by
    have hx := h x (by simp)
    rw [Lib.join_one]
    unfold wordsL
    have e := wgo_seg x [] [] (fun c hc => good_blank (hx.2 c hc))
    rw [List.append_nil, List.nil_append] at e
    rw [e, wgo, if_neg]
    intro hh
    exact hx.1 (by simpa using hh)
  | x :: y :: r, h => by
    have hx := h x (by simp)
    have ih := words_join (y :: r) (fun w hw => h w (by simp only [List.mem_cons] at *; exact .inr hw))
    unfold wordsL at ih ⊢
    rw [join_two, wgo_seg x [] _ (fun c hc => good_blank (hx.2 c hc)), List.nil_append, wgo_blank _ _ _ rfl, if_neg, ih]
    intro hh
    exact hx.1 (by simpa using hh)
theorem mem_join : ∀ (ws : List (List UInt8)) (c : UInt8), c ∈ Lib.join ws [9] → c = 9 ∨ ∃ w ∈ ws, c ∈ w
  | [], c, h => by simp [Lib.join, List.intercalate] at h
  | [x], c, h => by
    rw [Lib.join_one] at h
    exact .inr ⟨x, by simp, h⟩
  | x :: y :: r, c, h => by
    rw [join_two, List.mem_append, List.mem_cons] at h
    rcases h with h | h | h
    · exact .inr ⟨x, by simp, h⟩
    · exact .inl h
    · rcases mem_join (y :: r) c h with h | ⟨w, hw, hc⟩
      · exact .inl h
      · exact .inr ⟨w, by simp only [List.mem_cons] at *; exact .inr hw, hc⟩
theorem join_not {ws : List (List UInt8)} (h : ∀ w ∈ ws, Good w) (c : UInt8) (hc : c.toNat < 43) (h9 : c ≠ 9) : c ∉ Lib.join ws [9] := by
  intro hm
  rcases mem_join ws c hm with e | ⟨w, hw, hcw⟩
  · exact h9 e
  · have := (h w hw).2 c hcw
    omega
theorem digit_toNat (n : Nat) (h : n < 10) : (UInt8.ofNat (48 + n)).toNat = 48 + n := by
  show (48 + n) % 256 = 48 + n
  omega
theorem dec_good : ∀ (k u : Nat), u ≤ k → Good (Lib.decDigits u) ∧ ∀ c ∈ Lib.decDigits u, 48 ≤ c.toNat ∧ c.toNat ≤ 57
  | k, u, hk => by
    by_cases h : u < 10
    · rw [Lib.decDigits_one h]
      have := digit_toNat u h
      refine ⟨⟨by simp, fun c hc => ?_⟩, fun c hc => ?_⟩
      · rw [List.mem_singleton.1 hc]; omega
      · rw [List.mem_singleton.1 hc]; omega
    · obtain ⟨k, rfl⟩ : ∃ m, k = m + 1 := ⟨k - 1, by omega⟩
      have ih := dec_good k (u / 10) (by omega)
      have hd := digit_toNat (u % 10) (by omega)
      rw [Lib.decDigits, dif_neg h]
      refine ⟨⟨by simp, fun c hc => ?_⟩, fun c hc => ?_⟩
      · rcases List.mem_append.1 hc with hc | hc
        · exact ih.1.2 c hc
        · rw [List.mem_singleton.1 hc]; omega
      · rcases List.mem_append.1 hc with hc | hc
        · exact ih.2 c hc
        · rw [List.mem_singleton.1 hc]; omega
theorem numFrom_snoc : ∀ (l : List UInt8) (n : Int) (c : UInt8), numFrom n (l ++ [c]) = (numFrom n l).bind fun m => numStep m c
  | [], n, c => by
    simp only [List.nil_append, numFrom, Option.bind_some]
    cases numStep n c <;> rfl
  | b :: t, n, c => by
    rw [List.cons_append, numFrom, numFrom]
    cases numStep n b with
    | none => rfl
    | some m => exact numFrom_snoc t m c
theorem num_dec : ∀ (k u : Nat), u ≤ k → u ≤ 9223372036854775807 → numFrom 0 (Lib.decDigits u) = some (u : Int)
  | k, u, hk, hu => by
    by_cases h : u < 10
    · rw [Lib.decDigits_one h]
      have := digit_toNat u h
      rw [numFrom, numStep, if_pos ⟨by omega, by omega, by omega⟩]
      simp only [numFrom]
      congr 1
      omega
    · obtain ⟨k, rfl⟩ : ∃ m, k = m + 1 := ⟨k - 1, by omega⟩
      have ih := num_dec k (u / 10) (by omega) (by omega)
      have hd := digit_toNat (u % 10) (by omega)
      rw [Lib.decDigits, dif_neg h, numFrom_snoc, ih, Option.bind_some, numStep, if_pos ⟨by omega, by omega, by omega⟩]
      congr 1
      omega
theorem itoa_pos (n : Int) (h0 : 0 ≤ n) : Lib.itoa n = Lib.decDigits n.toNat := by
  unfold Lib.itoa
  rw [if_neg (by omega)]
theorem itoa_good (n : Int) (h0 : 0 ≤ n) : Good (Lib.itoa n) := by
  rw [itoa_pos n h0]
  exact (dec_good _ _ (Nat.le_refl _)).1
theorem num_itoa (n : Int) (h0 : 0 ≤ n) (h1 : n ≤ 9223372036854775807) : numL (Lib.itoa n) = (n, true) := by
  have hg := itoa_good n h0
  rw [itoa_pos n h0] at hg ⊢
  unfold numL
  rw [num_dec _ _ (Nat.le_refl _) (by omega)]
  simp only
  have he : (Lib.decDigits n.toNat).isEmpty = false := by
    cases hq : Lib.decDigits n.toNat with
    | nil => exact absurd hq hg.1
    | cons _ _ => rfl
  rw [he]
  simp
  omega
theorem two_fin : ∀ k : Fin 100, numL (two (k : Int)) = ((k : Int), true) ∧ (two (k : Int)).length = 2 ∧ (58 : UInt8) ∉ two (k : Int) ∧ (∀ c ∈ two (k : Int), 43 ≤ c.toNat) := by decide +kernel
theorem two_num (n : Int) (h0 : 0 ≤ n) (h1 : n ≤ 99) : numL (two n) = (n, true) ∧ (two n).length = 2 ∧ (58 : UInt8) ∉ two n ∧ (∀ c ∈ two n, 43 ≤ c.toNat) := by
  have h := two_fin ⟨n.toNat, by omega⟩
  have e : ((⟨n.toNat, by omega⟩ : Fin 100) : Int) = n := by simp; omega
  rw [e] at h
  exact h
theorem mon_fin : ∀ j : Fin 12, monthF (foldL (monL ((j : Int) + 1))) = ((j : Int) + 1, true) ∧ monL ((j : Int) + 1) ≠ [] ∧ ∀ c ∈ monL ((j : Int) + 1), 43 ≤ c.toNat := by decide +kernel
theorem mon_back (m : Int) (h0 : 1 ≤ m) (h1 : m ≤ 12) : monthF (foldL (monL m)) = (m, true) ∧ Good (monL m) := by
  have h := mon_fin ⟨(m - 1).toNat, by omega⟩
  have e : ((⟨(m - 1).toNat, by omega⟩ : Fin 12) : Int) + 1 = m := by simp; omega
  rw [e] at h
  exact ⟨h.1, h.2⟩
theorem clock_back (sec : Int) (h0 : 0 ≤ sec) (h1 : sec < 86400) : clockL (clockT sec) = (sec, true) ∧ Good (clockT sec) := by
  have hs : stampClock sec = (sec / 3600, sec / 60 % 60, sec % 60, true) := by unfold stampClock; exact if_pos ⟨h0, h1⟩
  unfold clockT
  rw [hs]
  simp only
  obtain ⟨n1, l1, d1, g1⟩ := two_num (sec / 3600) (by omega) (by omega)
  obtain ⟨n2, l2, d2, g2⟩ := two_num (sec / 60 % 60) (by omega) (by omega)
  obtain ⟨n3, l3, d3, g3⟩ := two_num (sec % 60) (by omega) (by omega)
  constructor
  · unfold clockL
    rw [show two (sec / 3600) ++ [58] ++ two (sec / 60 % 60) ++ [58] ++ two (sec % 60) = two (sec / 3600) ++ 58 :: (two (sec / 60 % 60) ++ 58 :: two (sec % 60)) by simp, cutAt_some d1]
    simp only
    rw [cutAt_some d2]
    simp only
    rw [n1, n2, n3, l1, l2, l3, if_pos ⟨rfl, by decide, rfl, by decide, rfl, by decide⟩]
    unfold secondI
    simp only
    rw [if_neg (by omega), if_neg (by omega)]
    congr 1
    omega
  · refine ⟨by intro e; have := congrArg List.length e; simp [l1, l2, l3] at this, fun c hc => ?_⟩
    simp only [List.mem_append, List.mem_singleton] at hc
    rcases hc with (((hc | hc) | hc) | hc) | hc
    · exact g1 c hc
    · subst hc; decide
    · exact g2 c hc
    · subst hc; decide
    · exact g3 c hc
def wordsW (kind : List UInt8) (d : Int) (rest : List (List UInt8)) : List (List UInt8) := [kind, Lib.itoa (dateY d), monL (dateM d), Lib.itoa (dateD d)] ++ rest
theorem wordsW_good {kind : List UInt8} {d : Int} {rest : List (List UInt8)} (hd : inDays d) (hk : Good kind) (hr : ∀ w ∈ rest, Good w) : ∀ w ∈ wordsW kind d rest, Good w := by
  obtain ⟨y0, y1, m0, m1, d0, d1⟩ := dateRange d hd
  intro w hw
  unfold wordsW at hw
  rcases List.mem_append.1 hw with hw | hw
  · simp only [List.mem_cons, List.mem_nil_iff, or_false] at hw
    rcases hw with rfl | rfl | rfl | rfl
    · exact hk
    · exact itoa_good _ (by omega)
    · exact (mon_back _ m0 m1).2
    · exact itoa_good _ (by omega)
  · exact hr w hw
theorem parseLine_words {k : Int} {ws : List (List UInt8)} (hg : ∀ w ∈ ws, Good w) (h0 : ws ≠ []) (l : List S46) (a u : Int) : parseLine k (Lib.join ws [9]) l a u = lineStep l false 0 a u (k + 1) ws := by
  unfold parseLine
  rw [cutL_none (join_not hg 35 (by decide) (by decide)), words_join ws hg, if_neg h0]
theorem dateRow_back (kind : Int) (d : Int) (hd : inDays d) (e : List UInt8) (sec : Int) (he : clockL e = (sec, true)) : dateRow kind (Lib.itoa (dateY d)) (monL (dateM d)) (Lib.itoa (dateD d)) e = some ⟨kind, dateY d, dateM d, dateD d, sec, [], false⟩ := by
  obtain ⟨y0, y1, m0, m1, d0, d1⟩ := dateRange d hd
  unfold dateRow
  rw [num_itoa _ (by omega) (by omega), (mon_back _ m0 m1).1, num_itoa _ (by omega) (by omega), he, if_pos ⟨rfl, rfl, rfl, rfl⟩]
def bodyW (l : S46) : List UInt8 := Lib.join (wordsW leapGreat l.f0 [if l.f1 < 0 then earlyL else lateL, if l.f1 < 0 then [45] else [43], if l.f2 = true then [82] else [83]]) [9]
def endW (exp : Int) : List UInt8 := Lib.join (wordsW expiresGreat (exp / 86400) [clockT (exp % 86400)]) [9]
theorem good_list (l : List UInt8) (h0 : l ≠ []) (h : ∀ c ∈ l, 43 ≤ c.toNat) : Good l := ⟨h0, h⟩
theorem body_good (x : S46) (hd : inDays x.f0) : ∀ w ∈ wordsW leapGreat x.f0 [if x.f1 < 0 then earlyL else lateL, if x.f1 < 0 then [45] else [43], if x.f2 = true then [82] else [83]], Good w := by
  refine wordsW_good hd (good_list _ (by decide) (by decide)) ?_
  intro w hw
  simp only [List.mem_cons, List.mem_nil_iff, or_false] at hw
  rcases hw with rfl | rfl | rfl <;> split <;> exact good_list _ (by decide) (by decide)
theorem end_good (exp : Int) (hd : inDays (exp / 86400)) : ∀ w ∈ wordsW expiresGreat (exp / 86400) [clockT (exp % 86400)], Good w := by
  refine wordsW_good hd (good_list _ (by decide) (by decide)) ?_
  intro w hw
  rw [List.mem_singleton] at hw
  rw [hw]
  exact (clock_back _ (by omega) (by omega)).2
theorem stepOf_late : stepOf [43] 86400 = 1 := by decide
theorem stepOf_early : stepOf [45] 86399 = -1 := by decide
theorem read_leap (x : S46) (hd : inDays x.f0) : readL (wordsW leapGreat x.f0 [if x.f1 < 0 then earlyL else lateL, if x.f1 < 0 then [45] else [43], if x.f2 = true then [82] else [83]]) = some ⟨0, dateY x.f0, dateM x.f0, dateD x.f0, if x.f1 < 0 then 86399 else 86400, if x.f1 < 0 then [45] else [43], x.f2⟩ := by
  have hc1 : clockL earlyL = (86399, true) := by decide +kernel
  have hc2 : clockL lateL = (86400, true) := by decide +kernel
  unfold wordsW
  rw [List.cons_append, List.cons_append, List.cons_append, List.cons_append, List.nil_append, readL7]
  have hw : foldL leapGreat = leapWord := by decide
  have hr1 : isRoll [82] = true := by decide
  have hr2 : isRoll [83] = false := by decide
  have hs2 : isStat [83] = true := by decide
  by_cases h1 : x.f1 < 0
  · rw [if_pos h1, if_pos h1, if_pos h1, dateRow_back 0 x.f0 hd earlyL 86399 hc1]
    by_cases h2 : x.f2 = true
    · rw [if_pos h2, if_pos ⟨hw, .inr rfl, .inl hr1⟩, h2]; rfl
    · rw [if_neg h2, if_pos ⟨hw, .inr rfl, .inr hs2⟩, Bool.eq_false_iff.2 h2]; rfl
  · rw [if_neg h1, if_neg h1, if_neg h1, dateRow_back 0 x.f0 hd lateL 86400 hc2]
    by_cases h2 : x.f2 = true
    · rw [if_pos h2, if_pos ⟨hw, .inl rfl, .inl hr1⟩, h2]; rfl
    · rw [if_neg h2, if_pos ⟨hw, .inl rfl, .inr hs2⟩, Bool.eq_false_iff.2 h2]; rfl
theorem read_end (exp : Int) (hd : inDays (exp / 86400)) : readL (wordsW expiresGreat (exp / 86400) [clockT (exp % 86400)]) = some ⟨1, dateY (exp / 86400), dateM (exp / 86400), dateD (exp / 86400), exp % 86400, [], false⟩ := by
  unfold wordsW
  rw [List.cons_append, List.cons_append, List.cons_append, List.cons_append, List.nil_append, readL5]
  rw [if_pos (by decide), dateRow_back 1 _ hd _ (exp % 86400) (clock_back _ (by omega) (by omega)).1]
theorem line_leap (p : List S46) (x : S46) (hd : inDays x.f0) (hs : x.f1 = 1 ∨ x.f1 = -1) (hr : rightN (p ++ [x]) false 0 = true) (k a u : Int) : parseLine k (bodyW x) p a u = (0, (p ++ [x], a, u)) := by
  unfold bodyW
  rw [parseLine_words (body_good x hd) (by simp [wordsW])]
  unfold lineStep
  rw [read_leap x hd]
  simp only
  have hv := date_valid x.f0 hd.1 hd.2
  rw [if_neg (by intro h; exact absurd h.1 (by decide)), if_neg (by intro h; exact h hv.1), if_pos trivial, hv.2]
  have hst : stepOf (if x.f1 < 0 then [45] else [43]) (if x.f1 < 0 then 86399 else 86400) = x.f1 := by
    rcases hs with h | h
    · rw [if_neg (by omega), if_neg (by omega), h]; decide
    · rw [if_pos (by omega), if_pos (by omega), h]; decide
  unfold leapIn
  rw [hst, if_neg (by rcases hs with h | h <;> omega)]
  have hx : (⟨x.f0, x.f1, x.f2⟩ : S46) = x := rfl
  rw [hx]
  have h0 : (checkN (p ++ [x]) false 0).2 = 0 := by
    unfold rightN at hr
    simpa using hr
  rw [h0]
theorem scan_prefix : ∀ (p q : List S46) (k a b : Int), scanN k a (p ++ q) = .inr b → ∃ c, scanN k a p = .inr c
  | [], q, k, a, b, h => ⟨a, rfl⟩
  | x :: t, q, k, a, b, h => by
    rw [List.cons_append, scanN] at h
    rw [scanN]
    split at h
    · rename_i hw
      rw [if_pos hw]
      exact scan_prefix t q _ _ b h
    · cases h
theorem right_prefix {p q : List S46} {b : Int} (h : scanN 0 729 (p ++ q) = .inr b) : rightN p false 0 = true := by
  obtain ⟨c, hc⟩ := scan_prefix p q 0 729 b h
  unfold rightN checkN
  rw [hc]
  rfl
theorem parse_leaps : ∀ (q p : List S46) (b k : Int) (rest : List (List UInt8)), scanN 0 729 (p ++ q) = .inr b → parseGo k (q.map bodyW ++ rest) p 0 0 = parseGo (k + q.length) rest (p ++ q) 0 0
  | [], p, b, k, rest, h => by simp
  | x :: t, p, b, k, rest, h => by
    have hx := (scanN_right _ _ _ _ h).1 x (by simp)
    have hr : rightN (p ++ [x]) false 0 = true := right_prefix (q := t) (b := b) (by rw [List.append_assoc]; exact h)
    rw [List.map_cons, List.cons_append, parseGo, line_leap p x ⟨by omega, by omega⟩ hx.2.2 hr, if_pos rfl]
    have ih := parse_leaps t (p ++ [x]) b (k + 1) rest (by rw [List.append_assoc]; exact h)
    simp only
    rw [ih, List.append_assoc, List.length_cons]
    congr 1
    push_cast
    omega
theorem lineW_body (x : S46) : lineW x = bodyW x ++ [10] := rfl
theorem expiryW_end (exp : Int) : expiryW exp = endW exp ++ [10] := rfl
theorem body_not (x : S46) (hd : inDays x.f0) (c : UInt8) (hc : c.toNat < 43) (h9 : c ≠ 9) : c ∉ bodyW x := join_not (body_good x hd) c hc h9
theorem end_not (exp : Int) (hd : inDays (exp / 86400)) (c : UInt8) (hc : c.toNat < 43) (h9 : c ≠ 9) : c ∉ endW exp := join_not (end_good exp hd) c hc h9
theorem text_lines (l : List S46) (has : Bool) (exp : Int) (hr : rightN l has exp = true) : linesL (textOf l has exp) = l.map bodyW ++ (if has = true then [endW exp] else []) := by
  obtain ⟨a, ha, he⟩ := rightN_scan hr
  have hsc := (scanN_right l _ _ _ ha).1
  have hd : ∀ x ∈ l, inDays x.f0 := fun x hx => ⟨by have := (hsc x hx); omega, by have := (hsc x hx); omega⟩
  have hT : textOf l has exp = (((l.map bodyW ++ (if has = true then [endW exp] else [])).map (· ++ [10])).flatten) := by
    unfold textOf
    rw [List.map_append, List.flatten_append, List.map_map]
    congr 1
    cases has with
    | true => simp [expiryW_end]
    | false => rfl
  have hall : ∀ c : UInt8, c.toNat < 43 → c ≠ 9 → ∀ x ∈ l.map bodyW ++ (if has = true then [endW exp] else []), c ∉ x := by
    intro c hc h9 x hx
    rcases List.mem_append.1 hx with hx | hx
    · obtain ⟨y, hy, rfl⟩ := List.mem_map.1 hx
      exact body_not y (hd y hy) c hc h9
    · cases has with
      | true =>
        obtain ⟨x0, x1⟩ := right_expires hr
        rw [if_pos rfl, List.mem_singleton] at hx
        rw [hx]
        exact end_not exp ⟨by omega, by omega⟩ c hc h9
      | false => simp at hx
  rw [hT]
  exact linesL_flat _ (hall 10 (by decide) (by decide)) (hall 13 (by decide) (by decide))
theorem parse_text (l : List S46) (has : Bool) (exp : Int) (hr : rightN l has exp = true) : parseL (textOf l has exp) = (l, has, exp, 0, 0) := by
  obtain ⟨a, ha, he⟩ := rightN_scan hr
  unfold parseL
  rw [text_lines l has exp hr]
  have h1 := parse_leaps l [] a 0 (if has = true then [endW exp] else []) ha
  rw [h1, List.nil_append]
  cases has with
  | false =>
    have hx : exp = 0 := by
      unfold endsN at he
      simpa using he
    rw [if_neg (by decide), hx]
    rfl
  | true =>
    obtain ⟨x0, x1⟩ := right_expires hr
    have hd : inDays (exp / 86400) := ⟨by omega, by omega⟩
    have hv := date_valid (exp / 86400) hd.1 hd.2
    rw [if_pos rfl, parseGo]
    have hl : parseLine (0 + (l.length : Int)) (endW exp) l 0 0 = (0, (l, 0 + (l.length : Int) + 1, exp)) := by
      unfold endW
      rw [parseLine_words (end_good exp hd) (by simp [wordsW])]
      unfold lineStep
      rw [read_end exp hd]
      simp only
      rw [if_neg (by intro h; exact absurd h.2 (by decide)), if_neg (by intro h; exact h hv.1), if_neg (by decide), if_neg (by omega), hv.2]
      congr 3
      omega
    rw [hl, if_pos rfl]
    simp only [parseGo]
    unfold parseEnd
    simp only
    rw [if_pos (by omega), hr, if_pos rfl]
end Go.Proofs.YtodalfobehddmaaDoor.Y
namespace Go.Proofs.YtodalfobehddmaaDoor.Y
open Go.RowKit Go.Proofs.YtodalfobehddmaaDoorW.PrintWords Go.Proofs.YtodalfobehddmaaDoorW.PrintLast Go.Proofs.YtodalfobehddmaaDoor.Mx
open Go.Proofs.YtodalfobehddmaaDoor.Z
theorem textOf_length (l : List S46) (has : Bool) (exp : Int) (hr : rightN l has exp = true) : (textOf l has exp).length ≤ 1700000 := by
  obtain ⟨a, ha, he⟩ := rightN_scan hr
  have hsc := (scanN_right l _ _ _ ha).1
  have hlen := right_length hr
  have h1 : ∀ q : List S46, (∀ x ∈ q, 730 ≤ x.f0 ∧ x.f0 < 2932896) → ((q.map lineW).flatten).length ≤ q.length * 8000 := by
    intro q
    induction q with
    | nil => intro _; simp
    | cons x t ih =>
      intro h
      have h2 := ih (fun y hy => h y (by simp [hy]))
      have h3 := lineW_length x (h x (by simp))
      rw [List.map_cons, List.flatten_cons, List.length_append, List.length_cons]
      omega
  have h2 := h1 l (fun x hx => ⟨(hsc x hx).1, (hsc x hx).2.1⟩)
  unfold textOf
  rw [List.length_append]
  cases has with
  | false => rw [if_neg (by decide)]; simp only [List.length_nil]; omega
  | true =>
    obtain ⟨x0, x1⟩ := right_expires hr
    have h3 := writeL_length expiresGreat (exp / 86400) ⟨by omega, by omega⟩ [clockT (exp % 86400)] (by decide) (by simp) (by intro x hx; rw [List.mem_singleton] at hx; rw [hx]; show 8 ≤ 1000; decide)
    have e : (expiryW exp).length = (writeL expiresGreat (exp / 86400) [clockT (exp % 86400)]).length := rfl
    rw [if_pos rfl]
    omega
theorem zicBack_pure (l : List S46) (has : Bool) (exp : Int) : ∃ _k : Nat, epactlaw11_ZicBack.f l has exp = some true := by
  refine ⟨0, ?_⟩
  unfold epactlaw11_ZicBack.f epactlaw11_small.f epactlaw09_Few.f
  simp only [Option.bind_some]
  by_cases hf : (l.length : Int) ≤ 300
  · have hl : l.length ≤ 4611686018427387904 := by omega
    rw [decide_eq_true hf, if_pos rfl]
    unfold zic_Text.f
    rw [if_pos hl]
    simp only [Option.bind_some]
    unfold textL leap_Right.f
    by_cases hr : rightN l has exp = true
    · have hln := textOf_length l has exp hr
      have hsz : (mkB (textOf l has exp)).size = (textOf l has exp).length := rfl
      rw [if_pos hr, if_pos rfl]
      unfold zic_Parse.f
      rw [if_pos (by simp only; omega)]
      simp only [Option.bind_some]
      rw [show (mkB (textOf l has exp)).data.toList = textOf l has exp from rfl, parse_text l has exp hr]
      simp only
      rw [if_pos trivial, if_pos (by decide)]
      unfold epactref09_Same.f
      rw [if_pos hl]
      simp only [Option.bind_some]
      rw [show sameN l has exp l has exp = true from decide_eq_true ⟨rfl, rfl, rfl⟩, if_pos rfl, if_pos hl]
      simp only [Option.bind_some]
      rw [hr]
    · rw [if_neg hr, if_neg (by decide), if_pos trivial, if_pos (mkB_eq []), if_pos hl]
      simp only [Option.bind_some]
      rw [Bool.eq_false_iff.2 hr]
      rfl
  · rw [decide_eq_false hf, if_neg (by decide)]
end Go.Proofs.YtodalfobehddmaaDoor.Y
namespace Go.Proofs.YtodalfobehddmaaDoor.zicBack
open Go.ChangeShapes Go.WideShapes Go.ChangeAt Go.RowKit
open Go.ChangeMaps (open_string shut_string)
open Go.Proofs.YtodalfobehddmaaDoorW.PrintWords
theorem laidOut : laidOutB Tryd.prog = true := by kernel_rfl
set_option maxRecDepth 100000 in
theorem contract (H : Type) (enc : TypeId × Value → H) (W : World) (base : Nat) (args : Array Value) (ds gs : List (DataW H)) (before : List MemPlace)
    (hval0 : ∀ (j : Nat) t v, Tryd.f3.params[j]? = some t → args[j]? = some v → Value.okWide Tryd.prog W .any base t v)
    (hW : DataW.Whole enc Tryd.prog Tryd.f3.params.toList Rows.zicBackSpec.vars false W args.toList ds gs before)
    (hsz0 : (DataW.weightsEach Tryd.prog (Tryd.f3.params.toList ++ Rows.zicBackSpec.plain.varTypes Tryd.prog) (ds ++ gs)).all (· ≤ reachBytes) = true)
    (hL : laidMetH Tryd.prog Y.laidL W) :
    Calls Tryd.prog 3 args W fun e W' => ∃ v, e = .returned v ∧ Rows.zicBackSpec.post enc Tryd.prog Tryd.f3 false true false false W args v W' := by
  have hG := Y.gl_of_laidH hL
  have hsz := hsz0
  have hval := hval0
  have hW' := hW
  obtain ⟨p, q, hA0, hV, rfl, hfz, hnd⟩ := hW
  have hA : DataW.TrodAll enc Tryd.prog W 0 (fun _ => true) true Tryd.f3.params.toList args.toList ds p := hA0
  rw [Tryd.params3] at hA hval hsz
  obtain ⟨v0, vs0, d0, ds0, p0, q0, hargs, rfl, rfl, h0, r0⟩ := trodAll_cons hA
  obtain ⟨rfl, rfl, rfl⟩ := trodAll_nil r0
  obtain rfl : args = #[v0] := by cases args; simp_all
  obtain ⟨rfl, rfl⟩ := trodVars_none hV
  have k0 := h0
  have lt0 : ∀ x ∈ p0, x.block < W.heap.size := by obtain ⟨m, hm⟩ := k0; exact DataW.trod_lt m _ _ _ hm
  obtain ⟨A0, c0, l0, b0, e0, rfl, hC0, hc0⟩ := Y.open_table (hval 0 24 v0 rfl rfl) h0
  clear hA0 hval0 hsz0 hsz hval
  obtain ⟨k, hf⟩ := Y.zicBack_pure l0 b0 e0 
  refine (Y.epactlaw11_ZicBack.calls A0 c0 l0 b0 e0 true W hC0 hc0 ⟨rfl⟩ hf hG).mono fun e W' ⟨he, bel⟩ => ?_
  subst he
  exact ⟨_, rfl, _, _, _, [], _, [], hW', trodAll_mk1 (shut_bool Tryd.underlying4 _), (trodAll_cons_mk (Below.trod laidOut (by kernel_rfl) (of_decide_eq_true (by kernel_rfl)) k0 bel lt0) trodAll_mk0), rfl, bel.frame _, fun h => by cases h⟩
theorem reads (os : Os) {H : Type} (enc : TypeId × Value → H) : ∃ places, DataW.whole enc Tryd.prog ((World.laidAll Tryd.prog os Y.laidL).forCall (fun _ _ => 0) ⟨#[], #[.agg #[.slice none 0 0, .bool false, .int .i64 0]], []⟩).memory Tryd.f3.params.toList Rows.zicBackSpec.vars false (#[.agg #[.slice none 0 0, .bool false, .int .i64 0]] : Array Value).toList 8 = some ([.agg [.nil, .lit (.bool false), .lit (.int .i64 0)]], [], places) :=
  ⟨[], by kernel_rfl⟩
set_option maxRecDepth 100000 in
theorem lifted (os : Os) (started : os.Started) (H : Type) (enc : TypeId × Value → H) (F : Stop.Interp) :
    ReturnsInHanded {} Tryd.checked os 3 .any ((OpenSpec.ofChange Rows.zicBackSpec).preRow enc Tryd.prog Tryd.f3 Rows.zicBackRow.domain false Rows.zicBackRow.laid) (((OpenSpec.ofChange Rows.zicBackSpec).at F).post enc Tryd.prog Tryd.f3 false true false false) := by
  obtain ⟨places, hx⟩ := reads os enc
  refine returnsInHanded_of_row (C := Tryd.checked) (s := OpenSpec.ofChange Rows.zicBackSpec) Y.own started (by kernel_rfl) Tryd.func3
    (witness_row_atRef (enc := enc) (C := Tryd.checked) false (World.laidAll Tryd.prog os Y.laidL) #[.agg #[.slice none 0 0, .bool false, .int .i64 0]] (World.laidAll_os _ _ _) (by kernel_rfl) (by kernel_rfl) (by kernel_rfl)
      (OpenSpec.preRow_of_cond 8 hx (by kernel_rfl) (fun k hk => by cases hk) (by kernel_rfl) (Y.world_met os _))) ?_
  intro W base args ds gs before hval hW _ hcond hsz hL _ _
  exact contract H enc W base args ds gs before hval hW hsz hL
theorem said : Rows.ZicBackSaid :=
  OpenClaim.holds_of_cond 3 Tryd.f3 rfl rfl rfl rfl rfl rfl rfl ⟨rfl, rfl, rfl, rfl, rfl⟩ rfl rfl rfl rfl rfl (by kernel_rfl) Tryd.func3 (by kernel_rfl)
    (of_decide_eq_true (by kernel_rfl)) (by unfold Func.isWrapper; first | (rw [if_pos (by decide +kernel)]; kernel_rfl) | (rw [if_neg (by decide +kernel)]; exact ⟨rfl, rfl⟩))
    (fun os started H enc _ F => by rw [OpenClaim.pre_eq_preRow]; exact lifted os started H enc F)
theorem plain (f : FuncId) (fn : Func) (hf : Tryd.pinned.checked.prog.funcNamed "epact/epactlaw11.ZicBack" = some f) (hfn : Tryd.pinned.checked.prog.funcs[f]? = some fn) :
    false = Tryd.pinned.checked.prog.looks [] ∧ ∀ (j : Nat) t, fn.params[j]? = some t → Tryd.pinned.checked.prog.wantsStandIn t = false := by
  obtain rfl : f = 3 := Option.some.inj ((show Tryd.prog.funcNamed "epact/epactlaw11.ZicBack" = some 3 by kernel_rfl).symm.trans hf) |>.symm
  obtain rfl : fn = Tryd.f3 := (Option.some.inj (Tryd.func3.symm.trans hfn)).symm
  refine ⟨by kernel_rfl, fun j t ht => ?_⟩
  rw [Tryd.params3] at ht
  have hm : t ∈ [24] := by simpa using Array.mem_of_getElem? ht
  have hall : ([24].all fun u => !Tryd.prog.wantsStandIn u) = true := by kernel_rfl
  exact (show Tryd.prog.wantsStandIn t = false by simpa using List.all_eq_true.1 hall t hm)
theorem card : Rows.ZicBackCardSaid :=
  Claim7.holds_tied_plain_at .later [] _ _ _ _ said (fun _ h => by cases h) (by kernel_rfl) (fun _ h => by cases h) zicBack_row_tie rfl ⟨rfl, rfl⟩ (by kernel_rfl) rfl plain (by kernel_rfl)
end Go.Proofs.YtodalfobehddmaaDoor.zicBack
namespace Go.Proofs.YtodalfobehddmaaDoor
theorem zicBack_card : Rows.ZicBackCardSaid := zicBack.card
end Go.Proofs.YtodalfobehddmaaDoor
