/- The law epact/epactlaw11.ZicRight holds: the row and its tied card. Condition: package-level variables of Go's library hold what the program's text lays (the card ties them). (part 1 of 1) -/
import Derived.Test.YtodalfobehddmaaDoorCards
import Derived.Test.YtodalfobehddmaaDoorTie
import Derived.WalkKit
import Derived.ProofKit
import Derived.OpenShut
import Derived.ShutString
import Derived.ChangeOld
import Derived.Below
import Derived.SizedLaws
import Derived.SevenTiedAt
import Derived.Deep.DeepWitnessRowRef
import Derived.Test.YtodalfobehddmaaDoorCZ4
set_option linter.unusedVariables false
set_option linter.unusedSimpArgs false
namespace Go.Proofs.YtodalfobehddmaaDoor.Y
open Go.RowKit Go.Proofs.YtodalfobehddmaaDoorW.PrintWords Go.Proofs.YtodalfobehddmaaDoorW.PrintLast Go.Proofs.YtodalfobehddmaaDoor.Mx
attribute [local go_sem] max2_int min2_int max_two min_two max_three min_three   -- for this text's walks alone
open Go.Proofs.YtodalfobehddmaaDoor.Z
end Go.Proofs.YtodalfobehddmaaDoor.Y
namespace Go.Proofs.YtodalfobehddmaaDoor.Y
open Go.RowKit Go.Proofs.YtodalfobehddmaaDoorW.PrintWords Go.Proofs.YtodalfobehddmaaDoorW.PrintLast Go.Proofs.YtodalfobehddmaaDoor.Mx
attribute [local go_sem] max2_int min2_int max_two min_two max_three min_three   -- for this text's walks alone
open Go.Proofs.YtodalfobehddmaaDoor.Z
def epactlaw11_ZicRight.f (a0 : ByteArray) : Option (Bool) := (epactlaw11_small.f).bind fun t119 => (if (a0.size : Int) > 3000 then (some t119) else ((zic_Parse.f a0).bind fun bt120 => (if bt120.2.2.2.2 = 0 then (if t119 = true then (if bt120.2.2.2.1 = 0 then ((leap_Right.f bt120.1 bt120.2.1 bt120.2.2.1).bind fun t129 => (some t129)) else (some false)) else (some false)) else (if t119 = true then ((epactref09_Same.f bt120.1 bt120.2.1 bt120.2.2.1 ([] : List (S46)) false 0).bind fun t130 => (if t130 = true then (if bt120.2.2.2.1 ≥ 1 then ((lines_Split.f a0).bind fun t131 => (some (decide (bt120.2.2.2.1 ≤ (t131.length : Int))))) else (some false)) else (some false))) else (some false)))))
def epactlaw11_ZicRight.T6 : Bool × List (List Nat × List Nat) := (true, [([], []), ([0], [0]), ([1], [1]), ([1], [1]), ([2, 3, 1, 1], [1, 2, 3]), ([1, 4], [1, 4]), ([5, 4], [5]), ([6], [6]), ([7, 6], [6, 7]), ([8, 6], [6, 8]), ([6, 9], [6, 9]), ([10, 6], [10]), ([11], [11]), ([12, 11], [11, 12]), ([11], [11]), ([14, 11, 11], [11, 14]), ([15, 11], [11, 15]), ([13, 16, 11], [11, 13, 16]), ([11, 17], [11, 17]), ([18, 15, 0, 1, 2, 3, 4, 5, 6, 7, 8, 9, 10, 11, 12, 13, 14, 15, 16, 17, 18], [18])])
def epactlaw11_ZicRight.B6 : List Nat := [0, 1, 3, 3, 15, 31, 63, 127, 255, 511, 1023, 2047, 4095, 8191, 4095, 20479, 53247, 131071, 262143, 524287]
theorem epactlaw11_ZicRight.tab6 : rtab .any (opsOf Tryd.f4 6) = epactlaw11_ZicRight.T6 := by kernel_rfl
theorem epactlaw11_ZicRight.bits6 : waitsOk epactlaw11_ZicRight.T6.2 epactlaw11_ZicRight.B6 = true := by kernel_rfl
set_option maxHeartbeats 8000000 in
set_option maxRecDepth 100000 in
theorem epactlaw11_ZicRight.calls (a0 : ByteArray) (r : Bool) (w : World) (hr_ : Aside0 (r = true)) (h : epactlaw11_ZicRight.f a0 = some r) (hG : Gl w) :
    Calls Tryd.prog 4 #[.string a0] w fun e w' => e = .returned (.bool r) ∧ Below w.heap.size w w' := by
  have HG := Aside0.mk hG
  clear hG
  have hu24 := Tryd.underlying24
  have hu31 := Tryd.underlying31
  have HB := Aside0.mk (Below.refl w.heap.size w)
  have H : ((epactlaw11_small.f).bind fun t119 => (if (a0.size : Int) > 3000 then (some t119) else ((zic_Parse.f a0).bind fun bt120 => (if bt120.2.2.2.2 = 0 then (if t119 = true then (if bt120.2.2.2.1 = 0 then ((leap_Right.f bt120.1 bt120.2.1 bt120.2.2.1).bind fun t129 => (some t129)) else (some false)) else (some false)) else (if t119 = true then ((epactref09_Same.f bt120.1 bt120.2.1 bt120.2.2.1 ([] : List (S46)) false 0).bind fun t130 => (if t130 = true then (if bt120.2.2.2.1 ≥ 1 then ((lines_Split.f a0).bind fun t131 => (some (decide (bt120.2.2.2.1 ≤ (t131.length : Int))))) else (some false)) else (some false))) else (some false)))))) = some r := h
  clear h
  replace H := Option.bind_eq_some_iff.mp H
  obtain ⟨t119, A20, H⟩ := H
  replace H : (if (a0.size : Int) > 3000 then (some t119) else ((zic_Parse.f a0).bind fun bt120 => (if bt120.2.2.2.2 = 0 then (if t119 = true then (if bt120.2.2.2.1 = 0 then ((leap_Right.f bt120.1 bt120.2.1 bt120.2.2.1).bind fun t129 => (some t129)) else (some false)) else (some false)) else (if t119 = true then ((epactref09_Same.f bt120.1 bt120.2.1 bt120.2.2.1 ([] : List (S46)) false 0).bind fun t130 => (if t130 = true then (if bt120.2.2.2.1 ≥ 1 then ((lines_Split.f a0).bind fun t131 => (some (decide (bt120.2.2.2.1 ≤ (t131.length : Int))))) else (some false)) else (some false))) else (some false))))) = some r := H
  have A2 := Aside0.mk A20
  clear A20
  by_cases c3 : (a0.size : Int) > 3000
  · rw [if_pos c3] at H
    have c3b0 : decide (3000 < (a0.size : Int)) = true := decide_eq_true c3
    have c3b1 : decide (3000 < a0.size) = true := decide_eq_true (by omega)
    clear c3
    obtain rfl := Option.some.inj H
    go_enter Tryd.func4, Tryd.ntmps4
    go_wp2_with (first | ((with_reducible refine gate_callee (f := 11) rfl ?_); refine goesL_ (some 6) rfl rfl Tryd.func11 (by kernel_rfl) rfl #[] rfl (by (try simp only [List.map_toArray, List.map_cons, List.map_nil]); first | done | rfl | (simp only [List.length_drop, List.length_take]; rfl)) ?_; (with_reducible refine (epactlaw11_small.calls  t119 _ A2.out (hG := by exact gl_below HG.out (by repeat (first | (with_reducible first | exact HB.out | apply below_alloc | apply pw_below_drewN | apply below_drew1 | refine below_set ?_ (Aside0.out (by with_reducible assumption))) | exact HB.out)))).mono ?_); rintro e w4 ⟨rfl, hb⟩; refine ⟨_, rfl, ?_⟩; have n0_ := Aside0.mk (below_step (by repeat (first | (with_reducible first | exact HB.out | apply below_alloc | apply pw_below_drewN | apply below_drew1) | exact HB.out)) hb); clear HB; have HB := n0_; clear n0_; (try clear hb); (try clear hb2); (try clear hk); (try clear hi)))
    go_ret
    exact ⟨by first | rfl | (simp [errW_none, errW_some] <;> rfl) | (simp [*, errW_none, errW_some] <;> rfl), by repeat (first | (with_reducible first | exact HB.out | apply below_alloc | apply pw_below_drewN | apply below_drew1) | exact HB.out)⟩
  · rw [if_neg c3] at H
    have c3b0 : decide (3000 < (a0.size : Int)) = false := decide_eq_false c3
    have c3b1 : decide (3000 < a0.size) = false := decide_eq_false (by omega)
    clear c3
    replace H := Option.bind_eq_some_iff.mp H
    obtain ⟨⟨t120, t123, t124, t125, t126⟩, A50, H⟩ := H
    replace H : (if t126 = 0 then (if t119 = true then (if t125 = 0 then ((leap_Right.f t120 t123 t124).bind fun t129 => (some t129)) else (some false)) else (some false)) else (if t119 = true then ((epactref09_Same.f t120 t123 t124 ([] : List (S46)) false 0).bind fun t130 => (if t130 = true then (if t125 ≥ 1 then ((lines_Split.f a0).bind fun t131 => (some (decide (t125 ≤ (t131.length : Int))))) else (some false)) else (some false))) else (some false))) = some r := H
    have A5 := Aside0.mk A50
    clear A50
    by_cases c6 : t126 = 0
    · rw [if_pos c6] at H
      have c6b0 : (t126 == 0) = true := beq_iff_eq.mpr c6
      have c6b1 : (t126 != 0) = false := bne_eq_false_iff_eq.mpr c6
      clear c6
      by_cases c7 : t119 = true
      · subst c7
        have H1 : (if t125 = 0 then ((leap_Right.f t120 t123 t124).bind fun t129 => (some t129)) else (some false)) = some r := by rw [if_pos rfl] at H; exact H
        clear H
        have H := H1
        clear H1
        by_cases c8 : t125 = 0
        · rw [if_pos c8] at H
          have c8b0 : (t125 == 0) = true := beq_iff_eq.mpr c8
          have c8b1 : (t125 != 0) = false := bne_eq_false_iff_eq.mpr c8
          clear c8
          replace H := Option.bind_eq_some_iff.mp H
          obtain ⟨t129, A90, H⟩ := H
          replace H : (some t129) = some r := H
          have A9 := Aside0.mk A90
          clear A90
          obtain rfl := Option.some.inj H
          go_enter Tryd.func4, Tryd.ntmps4
          go_wp2_with (first | ((with_reducible refine gate_callee (f := 11) rfl ?_); refine goesL_ (some 6) rfl rfl Tryd.func11 (by kernel_rfl) rfl #[] rfl (by (try simp only [List.map_toArray, List.map_cons, List.map_nil]); first | done | rfl | (simp only [List.length_drop, List.length_take]; rfl)) ?_; (with_reducible refine (epactlaw11_small.calls  true _ A2.out (hG := by exact gl_below HG.out (by repeat (first | (with_reducible first | exact HB.out | apply below_alloc | apply pw_below_drewN | apply below_drew1 | refine below_set ?_ (Aside0.out (by with_reducible assumption))) | exact HB.out)))).mono ?_); rintro e w10 ⟨rfl, hb⟩; refine ⟨_, rfl, ?_⟩; have n0_ := Aside0.mk (below_step (by repeat (first | (with_reducible first | exact HB.out | apply below_alloc | apply pw_below_drewN | apply below_drew1) | exact HB.out)) hb); clear HB; have HB := n0_; clear n0_; (try clear hb); (try clear hb2); (try clear hk); (try clear hi)) | ((with_reducible refine gate_callee (f := 15) rfl ?_); refine goesL_ (some 13) rfl rfl Tryd.func15 (by kernel_rfl) rfl #[.string a0] rfl (by (try simp only [List.map_toArray, List.map_cons, List.map_nil]); first | done | rfl | (simp only [List.length_drop, List.length_take]; rfl)) ?_; (with_reducible refine (zic_Parse.calls a0 t120 t123 t124 t125 t126 _ A5.out).mono ?_); rintro e w11 ⟨v121, rfl, ho0, hb⟩; refine ⟨_, rfl, ?_⟩; have n0_ := Aside0.mk (Kd.R_lower ho0 (below_size (by repeat (first | (with_reducible first | exact HB.out | apply below_alloc | apply pw_below_drewN | apply below_drew1) | exact HB.out)))); have n1_ := Aside0.mk (below_step (by repeat (first | (with_reducible first | exact HB.out | apply below_alloc | apply pw_below_drewN | apply below_drew1) | exact HB.out)) hb); clear HB; have HO122 := n0_; have HB := n1_; clear n0_ n1_; (try clear hb); (try clear hb2); (try clear hk); (try clear hi); (try clear ho0)) | ((with_reducible refine gate_dst (N := 4) rfl ?_); (try (refine gate_guard (by rfl) ?_; dsimp only)); refine box_event ?hg (N := 4) ?hd (cs := #[.slice none 0 0, .bool false, .int .i64 0]) (t := 24) ?hr ?_; (case hd => rfl); (case hg => rfl); (case hr => first | (go_simp; done) | (go_simp; rfl)); intro gb127 hg w12 hbox hb; have n0_ := Aside0.mk (Kd.R_below (by (with_reducible repeat (first | apply Kd.R_alloc | apply Kd.R_drewN | apply Kd.R_drew)); exact HO122.out) hb); have n1_ := Aside0.mk (below_step (by repeat (first | (with_reducible first | exact HB.out | apply below_alloc | apply pw_below_drewN | apply below_drew1) | exact HB.out)) hb); have n2_ := Aside0.mk (hbox); have n3_ := Aside0.mk ((by rw [hg]; exact (below_size (by repeat (first | (with_reducible first | exact HB.out | apply below_alloc | apply pw_below_drewN | apply below_drew1) | exact HB.out))) : w.heap.size ≤ gb127)); have n4_ := Aside0.mk ((by rw [hg]; exact (below_size (by repeat (first | (with_reducible first | exact HB.out | apply below_alloc | apply pw_below_drewN | apply below_drew1) | exact HB.out))) : w.heap.size ≤ gb127)); clear HO122; clear HB; have HO122 := n0_; have HB := n1_; have BK127 := n2_; have GW127 := n3_; have GE127 := n4_; clear n0_ n1_ n2_ n3_ n4_; clear hb hbox hg) | ((with_reducible refine gate_dst (N := 5) rfl ?_); (try (refine gate_guard (by rfl) ?_; dsimp only)); refine box_event ?hg (N := 5) ?hd (cs := #[.int .i64 0, .int .i64 0]) (t := 31) ?hr ?_; (case hd => rfl); (case hg => rfl); (case hr => first | (go_simp; done) | (go_simp; rfl)); intro gb128 hg w13 hbox hb; have n0_ := Aside0.mk (Kd.R_below (by (with_reducible repeat (first | apply Kd.R_alloc | apply Kd.R_drewN | apply Kd.R_drew)); exact HO122.out) hb); have n1_ := Aside0.mk (blk_below (g := gb127) (o := .cells #[.slice none 0 0, .bool false, .int .i64 0] 24 (0, 0)) (by (with_reducible repeat (first | refine blk_drewN ?_ _ | refine blk_drew ?_ | refine blk_alloc ?_ _)); exact BK127.out) hb); have n2_ := Aside0.mk (below_step (by repeat (first | (with_reducible first | exact HB.out | apply below_alloc | apply pw_below_drewN | apply below_drew1 | refine below_set ?_ GE127.out) | exact HB.out)) hb); have n3_ := Aside0.mk (hbox); have n4_ := Aside0.mk ((by rw [hg]; exact (below_size (by repeat (first | (with_reducible first | exact HB.out | apply below_alloc | apply pw_below_drewN | apply below_drew1 | refine below_set ?_ GE127.out) | exact HB.out))) : w.heap.size ≤ gb128)); have n5_ := Aside0.mk ((by rw [hg]; exact (below_size (by repeat (first | (with_reducible first | exact HB.out | apply below_alloc | apply pw_below_drewN | apply below_drew1 | refine below_set ?_ GE127.out) | exact HB.out))) : w.heap.size ≤ gb128)); have n6_ := Aside0.mk ((by rw [hg]; exact Nat.ne_of_lt (blk_lt (g := gb127) (o := .cells #[.slice none 0 0, .bool false, .int .i64 0] 24 (0, 0)) (by (with_reducible repeat (first | refine blk_drewN ?_ _ | refine blk_drew ?_ | refine blk_alloc ?_ _)); exact BK127.out)) : gb127 ≠ gb128)); have n7_ := Aside0.mk ((by rw [hg]; exact Nat.ne_of_gt (blk_lt (g := gb127) (o := .cells #[.slice none 0 0, .bool false, .int .i64 0] 24 (0, 0)) (by (with_reducible repeat (first | refine blk_drewN ?_ _ | refine blk_drew ?_ | refine blk_alloc ?_ _)); exact BK127.out)) : gb128 ≠ gb127)); clear HO122; clear BK127; clear HB; have HO122 := n0_; have BK127 := n1_; have HB := n2_; have BK128 := n3_; have GW128 := n4_; have GE128 := n5_; have NB127_128 := n6_; have NB128_127 := n7_; clear n0_ n1_ n2_ n3_ n4_ n5_ n6_ n7_; clear hb hbox hg; obtain ⟨Ao14, co14, eo14⟩ := Kd.R_slice HO122.out; subst eo14; have hnb15 := NB127_128.out; have hnc15 := NB128_127.out; have hcz16_0 : w13.cell? ⟨gb127, 0, none⟩ = some (.slice none 0 0) := (blk_cell BK127.out 0).trans rfl; have hcz16_1 : w13.cell? ⟨gb127, 1, none⟩ = some (.bool false) := (blk_cell BK127.out 1).trans rfl; have hcz16_2 : w13.cell? ⟨gb127, 2, none⟩ = some (.int .i64 0) := (blk_cell BK127.out 2).trans rfl; have hfz16_0 := blk_frozen BK127.out 0; have hfz16_1 := blk_frozen BK127.out 1; have hfz16_2 := blk_frozen BK127.out 2; have hcz17_0 : w13.cell? ⟨gb128, 0, none⟩ = some (.int .i64 0) := (blk_cell BK128.out 0).trans rfl; have hcz17_1 : w13.cell? ⟨gb128, 1, none⟩ = some (.int .i64 0) := (blk_cell BK128.out 1).trans rfl; have hfz17_0 := blk_frozen BK128.out 0; have hfz17_1 := blk_frozen BK128.out 1) | (go_at_call 14; (with_reducible refine (leap_Right.calls _ _ t120 t123 t124 t129 _ ?side1 ?side2 A9.out).mono ?_); (case side1 => refine (Kd.R_reads' (e := 46) (base := w.heap.size) (ok := fun k_ => True) (n := t120.length) (c := co14) ?_).2.2; exact (by (with_reducible repeat (first | apply Kd.R_alloc | apply Kd.R_drewN | apply Kd.R_drew)); exact (Kd.R_mono (Kd.R_mono (Kd.R_far (p := ⟨gb128, 1, none⟩) (Kd.R_far (p := ⟨gb128, 0, none⟩) (Kd.R_far (p := ⟨gb127, 2, none⟩) (Kd.R_far (p := ⟨gb127, 1, none⟩) (Kd.R_far (p := ⟨gb127, 0, none⟩) (Kd.R_types (Kd.R_types HO122.out BK127.out (by decide)) BK128.out (by decide)) (fun _ hk => hk.1.2) (.slice Ao14 t120.length co14)) (fun _ hk => hk.1.2) (.bool t123)) (fun _ hk => hk.1.2) (.int .i64 t124)) (fun _ hk => hk.2) (.int .i64 t125)) (fun _ hk => hk.2) (.int .i64 t126)) (fun _ h_ => h_.1)) (fun _ h_ => h_.1)))); (case side2 => exact (Kd.R_reads' HO122.out).2.1); rintro e w18 ⟨rfl, hb⟩; have n0_ := Aside0.mk (Kd.R_below (by (with_reducible repeat (first | apply Kd.R_alloc | apply Kd.R_drewN | apply Kd.R_drew)); exact (Kd.R_mono (Kd.R_mono (Kd.R_far (p := ⟨gb128, 1, none⟩) (Kd.R_far (p := ⟨gb128, 0, none⟩) (Kd.R_far (p := ⟨gb127, 2, none⟩) (Kd.R_far (p := ⟨gb127, 1, none⟩) (Kd.R_far (p := ⟨gb127, 0, none⟩) (Kd.R_types (Kd.R_types HO122.out BK127.out (by decide)) BK128.out (by decide)) (fun _ hk => hk.1.2) (.slice Ao14 t120.length co14)) (fun _ hk => hk.1.2) (.bool t123)) (fun _ hk => hk.1.2) (.int .i64 t124)) (fun _ hk => hk.2) (.int .i64 t125)) (fun _ hk => hk.2) (.int .i64 t126)) (fun _ h_ => h_.1)) (fun _ h_ => h_.1))) hb); have n1_ := Aside0.mk (blk_below (g := gb127) (o := .cells #[.slice Ao14 t120.length co14, .bool t123, .int .i64 t124] 24 (0, 0)) (by (with_reducible repeat (first | refine blk_drewN ?_ _ | refine blk_drew ?_ | refine blk_alloc ?_ _)); refine blk_far ?_ NB127_128.out _; (with_reducible repeat (first | refine blk_drewN ?_ _ | refine blk_drew ?_ | refine blk_alloc ?_ _)); refine blk_far ?_ NB127_128.out _; (with_reducible repeat (first | refine blk_drewN ?_ _ | refine blk_drew ?_ | refine blk_alloc ?_ _)); refine blk_put (cs := #[.slice Ao14 t120.length co14, .bool t123, .int .i64 0]) ?_ 2 _ rfl; (with_reducible repeat (first | refine blk_drewN ?_ _ | refine blk_drew ?_ | refine blk_alloc ?_ _)); refine blk_put (cs := #[.slice Ao14 t120.length co14, .bool false, .int .i64 0]) ?_ 1 _ rfl; (with_reducible repeat (first | refine blk_drewN ?_ _ | refine blk_drew ?_ | refine blk_alloc ?_ _)); refine blk_put (cs := #[.slice none 0 0, .bool false, .int .i64 0]) ?_ 0 _ rfl; (with_reducible repeat (first | refine blk_drewN ?_ _ | refine blk_drew ?_ | refine blk_alloc ?_ _)); exact BK127.out) hb); have n2_ := Aside0.mk (blk_below (g := gb128) (o := .cells #[.int .i64 t125, .int .i64 t126] 31 (0, 0)) (by (with_reducible repeat (first | refine blk_drewN ?_ _ | refine blk_drew ?_ | refine blk_alloc ?_ _)); refine blk_put (cs := #[.int .i64 t125, .int .i64 0]) ?_ 1 _ rfl; (with_reducible repeat (first | refine blk_drewN ?_ _ | refine blk_drew ?_ | refine blk_alloc ?_ _)); refine blk_put (cs := #[.int .i64 0, .int .i64 0]) ?_ 0 _ rfl; (with_reducible repeat (first | refine blk_drewN ?_ _ | refine blk_drew ?_ | refine blk_alloc ?_ _)); refine blk_far ?_ NB128_127.out _; (with_reducible repeat (first | refine blk_drewN ?_ _ | refine blk_drew ?_ | refine blk_alloc ?_ _)); refine blk_far ?_ NB128_127.out _; (with_reducible repeat (first | refine blk_drewN ?_ _ | refine blk_drew ?_ | refine blk_alloc ?_ _)); refine blk_far ?_ NB128_127.out _; (with_reducible repeat (first | refine blk_drewN ?_ _ | refine blk_drew ?_ | refine blk_alloc ?_ _)); exact BK128.out) hb); have n3_ := Aside0.mk (below_step (by repeat (first | (with_reducible first | exact HB.out | apply below_alloc | apply pw_below_drewN | apply below_drew1 | refine below_set ?_ GE127.out | refine below_set ?_ GE128.out) | exact HB.out)) hb); clear HO122; clear BK127; clear BK128; clear HB; have HO122 := n0_; have BK127 := n1_; have BK128 := n2_; have HB := n3_; clear n0_ n1_ n2_ n3_; (try clear hb); (try clear hb2); (try clear hk); (try clear hi)))
          go_ret
          exact ⟨by first | rfl | (simp [errW_none, errW_some] <;> rfl) | (simp [*, errW_none, errW_some] <;> rfl), by repeat (first | (with_reducible first | exact HB.out | apply below_alloc | apply pw_below_drewN | apply below_drew1 | refine below_set ?_ GE127.out | refine below_set ?_ GE128.out) | exact HB.out)⟩
        · rw [if_neg c8] at H
          have c8b0 : (t125 == 0) = false := beq_eq_false_iff_ne.mpr c8
          have c8b1 : (t125 != 0) = true := bne_iff_ne.mpr c8
          exact absurd ((Option.some.inj H).trans hr_.out) (by decide)
      · replace c7 := Bool.eq_false_iff.mpr c7
        subst c7
        have H1 : (some false) = some r := by rw [if_neg (show ¬ (false = true) by decide)] at H; exact H
        clear H
        have H := H1
        clear H1
        exact absurd ((Option.some.inj H).trans hr_.out) (by decide)
    · rw [if_neg c6] at H
      have c6b0 : (t126 == 0) = false := beq_eq_false_iff_ne.mpr c6
      have c6b1 : (t126 != 0) = true := bne_iff_ne.mpr c6
      by_cases c19 : t119 = true
      · subst c19
        have H1 : ((epactref09_Same.f t120 t123 t124 ([] : List (S46)) false 0).bind fun t130 => (if t130 = true then (if t125 ≥ 1 then ((lines_Split.f a0).bind fun t131 => (some (decide (t125 ≤ (t131.length : Int))))) else (some false)) else (some false))) = some r := by rw [if_pos rfl] at H; exact H
        clear H
        have H := H1
        clear H1
        replace H := Option.bind_eq_some_iff.mp H
        obtain ⟨t130, A200, H⟩ := H
        replace H : (if t130 = true then (if t125 ≥ 1 then ((lines_Split.f a0).bind fun t131 => (some (decide (t125 ≤ (t131.length : Int))))) else (some false)) else (some false)) = some r := H
        have A20 := Aside0.mk A200
        clear A200
        by_cases c21 : t130 = true
        · subst c21
          have H1 : (if t125 ≥ 1 then ((lines_Split.f a0).bind fun t131 => (some (decide (t125 ≤ (t131.length : Int))))) else (some false)) = some r := by rw [if_pos rfl] at H; exact H
          clear H
          have H := H1
          clear H1
          by_cases c22 : t125 ≥ 1
          · rw [if_pos c22] at H
            have c22b0 : decide (1 ≤ t125) = true := decide_eq_true c22
            clear c22
            replace H := Option.bind_eq_some_iff.mp H
            obtain ⟨t131, A230, H⟩ := H
            replace H : (some (decide (t125 ≤ (t131.length : Int)))) = some r := H
            have A23 := Aside0.mk A230
            clear A230
            obtain rfl := Option.some.inj H
            go_enter Tryd.func4, Tryd.ntmps4
            try go_wp2_with (first | ((with_reducible refine gate_callee (f := 11) rfl ?_); refine goesL_ (some 6) rfl rfl Tryd.func11 (by kernel_rfl) rfl #[] rfl (by (try simp only [List.map_toArray, List.map_cons, List.map_nil]); first | done | rfl | (simp only [List.length_drop, List.length_take]; rfl)) ?_; (with_reducible refine (epactlaw11_small.calls  true _ A2.out (hG := by exact gl_below HG.out (by repeat (first | (with_reducible first | exact HB.out | apply below_alloc | apply pw_below_drewN | apply below_drew1 | refine below_set ?_ (Aside0.out (by with_reducible assumption))) | exact HB.out)))).mono ?_); rintro e w24 ⟨rfl, hb⟩; refine ⟨_, rfl, ?_⟩; have n0_ := Aside0.mk (below_step (by repeat (first | (with_reducible first | exact HB.out | apply below_alloc | apply pw_below_drewN | apply below_drew1) | exact HB.out)) hb); clear HB; have HB := n0_; clear n0_; (try clear hb); (try clear hb2); (try clear hk); (try clear hi)) | ((with_reducible refine gate_callee (f := 15) rfl ?_); refine goesL_ (some 13) rfl rfl Tryd.func15 (by kernel_rfl) rfl #[.string a0] rfl (by (try simp only [List.map_toArray, List.map_cons, List.map_nil]); first | done | rfl | (simp only [List.length_drop, List.length_take]; rfl)) ?_; (with_reducible refine (zic_Parse.calls a0 t120 t123 t124 t125 t126 _ A5.out).mono ?_); rintro e w25 ⟨v121, rfl, ho0, hb⟩; refine ⟨_, rfl, ?_⟩; have n0_ := Aside0.mk (Kd.R_lower ho0 (below_size (by repeat (first | (with_reducible first | exact HB.out | apply below_alloc | apply pw_below_drewN | apply below_drew1) | exact HB.out)))); have n1_ := Aside0.mk (below_step (by repeat (first | (with_reducible first | exact HB.out | apply below_alloc | apply pw_below_drewN | apply below_drew1) | exact HB.out)) hb); clear HB; have HO122 := n0_; have HB := n1_; clear n0_ n1_; (try clear hb); (try clear hb2); (try clear hk); (try clear hi); (try clear ho0)) | ((with_reducible refine gate_dst (N := 4) rfl ?_); (try (refine gate_guard (by rfl) ?_; dsimp only)); refine box_event ?hg (N := 4) ?hd (cs := #[.slice none 0 0, .bool false, .int .i64 0]) (t := 24) ?hr ?_; (case hd => rfl); (case hg => rfl); (case hr => first | (go_simp; done) | (go_simp; rfl)); intro gb127 hg w26 hbox hb; have n0_ := Aside0.mk (Kd.R_below (by (with_reducible repeat (first | apply Kd.R_alloc | apply Kd.R_drewN | apply Kd.R_drew)); exact HO122.out) hb); have n1_ := Aside0.mk (below_step (by repeat (first | (with_reducible first | exact HB.out | apply below_alloc | apply pw_below_drewN | apply below_drew1) | exact HB.out)) hb); have n2_ := Aside0.mk (hbox); have n3_ := Aside0.mk ((by rw [hg]; exact (below_size (by repeat (first | (with_reducible first | exact HB.out | apply below_alloc | apply pw_below_drewN | apply below_drew1) | exact HB.out))) : w.heap.size ≤ gb127)); have n4_ := Aside0.mk ((by rw [hg]; exact (below_size (by repeat (first | (with_reducible first | exact HB.out | apply below_alloc | apply pw_below_drewN | apply below_drew1) | exact HB.out))) : w.heap.size ≤ gb127)); clear HO122; clear HB; have HO122 := n0_; have HB := n1_; have BK127 := n2_; have GW127 := n3_; have GE127 := n4_; clear n0_ n1_ n2_ n3_ n4_; clear hb hbox hg) | ((with_reducible refine gate_dst (N := 5) rfl ?_); (try (refine gate_guard (by rfl) ?_; dsimp only)); refine box_event ?hg (N := 5) ?hd (cs := #[.int .i64 0, .int .i64 0]) (t := 31) ?hr ?_; (case hd => rfl); (case hg => rfl); (case hr => first | (go_simp; done) | (go_simp; rfl)); intro gb128 hg w27 hbox hb; have n0_ := Aside0.mk (Kd.R_below (by (with_reducible repeat (first | apply Kd.R_alloc | apply Kd.R_drewN | apply Kd.R_drew)); exact HO122.out) hb); have n1_ := Aside0.mk (blk_below (g := gb127) (o := .cells #[.slice none 0 0, .bool false, .int .i64 0] 24 (0, 0)) (by (with_reducible repeat (first | refine blk_drewN ?_ _ | refine blk_drew ?_ | refine blk_alloc ?_ _)); exact BK127.out) hb); have n2_ := Aside0.mk (below_step (by repeat (first | (with_reducible first | exact HB.out | apply below_alloc | apply pw_below_drewN | apply below_drew1 | refine below_set ?_ GE127.out) | exact HB.out)) hb); have n3_ := Aside0.mk (hbox); have n4_ := Aside0.mk ((by rw [hg]; exact (below_size (by repeat (first | (with_reducible first | exact HB.out | apply below_alloc | apply pw_below_drewN | apply below_drew1 | refine below_set ?_ GE127.out) | exact HB.out))) : w.heap.size ≤ gb128)); have n5_ := Aside0.mk ((by rw [hg]; exact (below_size (by repeat (first | (with_reducible first | exact HB.out | apply below_alloc | apply pw_below_drewN | apply below_drew1 | refine below_set ?_ GE127.out) | exact HB.out))) : w.heap.size ≤ gb128)); have n6_ := Aside0.mk ((by rw [hg]; exact Nat.ne_of_lt (blk_lt (g := gb127) (o := .cells #[.slice none 0 0, .bool false, .int .i64 0] 24 (0, 0)) (by (with_reducible repeat (first | refine blk_drewN ?_ _ | refine blk_drew ?_ | refine blk_alloc ?_ _)); exact BK127.out)) : gb127 ≠ gb128)); have n7_ := Aside0.mk ((by rw [hg]; exact Nat.ne_of_gt (blk_lt (g := gb127) (o := .cells #[.slice none 0 0, .bool false, .int .i64 0] 24 (0, 0)) (by (with_reducible repeat (first | refine blk_drewN ?_ _ | refine blk_drew ?_ | refine blk_alloc ?_ _)); exact BK127.out)) : gb128 ≠ gb127)); clear HO122; clear BK127; clear HB; have HO122 := n0_; have BK127 := n1_; have HB := n2_; have BK128 := n3_; have GW128 := n4_; have GE128 := n5_; have NB127_128 := n6_; have NB128_127 := n7_; clear n0_ n1_ n2_ n3_ n4_ n5_ n6_ n7_; clear hb hbox hg; obtain ⟨Ao28, co28, eo28⟩ := Kd.R_slice HO122.out; subst eo28; have hnb29 := NB127_128.out; have hnc29 := NB128_127.out; have hcz30_0 : w27.cell? ⟨gb127, 0, none⟩ = some (.slice none 0 0) := (blk_cell BK127.out 0).trans rfl; have hcz30_1 : w27.cell? ⟨gb127, 1, none⟩ = some (.bool false) := (blk_cell BK127.out 1).trans rfl; have hcz30_2 : w27.cell? ⟨gb127, 2, none⟩ = some (.int .i64 0) := (blk_cell BK127.out 2).trans rfl; have hfz30_0 := blk_frozen BK127.out 0; have hfz30_1 := blk_frozen BK127.out 1; have hfz30_2 := blk_frozen BK127.out 2; have hcz31_0 : w27.cell? ⟨gb128, 0, none⟩ = some (.int .i64 0) := (blk_cell BK128.out 0).trans rfl; have hcz31_1 : w27.cell? ⟨gb128, 1, none⟩ = some (.int .i64 0) := (blk_cell BK128.out 1).trans rfl; have hfz31_0 := blk_frozen BK128.out 0; have hfz31_1 := blk_frozen BK128.out 1))
            have n0_ : Aside0 (Kd.R k46 46 (((((w27.setCell ⟨gb127, 0, none⟩ (.slice Ao28 t120.length co28)).setCell ⟨gb127, 1, none⟩ (.bool t123)).setCell ⟨gb127, 2, none⟩ (.int .i64 t124)).setCell ⟨gb128, 0, none⟩ (.int .i64 t125)).setCell ⟨gb128, 1, none⟩ (.int .i64 t126)) w.heap.size (fun _ => True) (.slice Ao28 t120.length co28) t120) := ⟨by (with_reducible repeat (first | apply Kd.R_alloc | apply Kd.R_drewN | apply Kd.R_drew)); exact Kd.R_mono (Kd.R_far (p := ⟨gb128, 1, none⟩) (Kd.R_far (p := ⟨gb128, 0, none⟩) (Kd.R_far (p := ⟨gb127, 2, none⟩) (Kd.R_far (p := ⟨gb127, 1, none⟩) (Kd.R_far (p := ⟨gb127, 0, none⟩) (Kd.R_types (Kd.R_types HO122.out BK127.out (by decide)) BK128.out (by decide)) (fun _ hk => hk.1.2) (.slice Ao28 t120.length co28)) (fun _ hk => hk.1.2) (.bool t123)) (fun _ hk => hk.1.2) (.int .i64 t124)) (fun _ hk => hk.2) (.int .i64 t125)) (fun _ hk => hk.2) (.int .i64 t126)) (fun _ hk => trivial)⟩
            have n1_ : Aside0 ((((((w27.setCell ⟨gb127, 0, none⟩ (.slice Ao28 t120.length co28)).setCell ⟨gb127, 1, none⟩ (.bool t123)).setCell ⟨gb127, 2, none⟩ (.int .i64 t124)).setCell ⟨gb128, 0, none⟩ (.int .i64 t125)).setCell ⟨gb128, 1, none⟩ (.int .i64 t126)).heap[gb127]? = some (.cells #[.slice Ao28 t120.length co28, .bool t123, .int .i64 t124] 24 (0, 0))) := ⟨by (with_reducible repeat (first | refine blk_drewN ?_ _ | refine blk_drew ?_ | refine blk_alloc ?_ _)); refine blk_far ?_ NB127_128.out _; (with_reducible repeat (first | refine blk_drewN ?_ _ | refine blk_drew ?_ | refine blk_alloc ?_ _)); refine blk_far ?_ NB127_128.out _; (with_reducible repeat (first | refine blk_drewN ?_ _ | refine blk_drew ?_ | refine blk_alloc ?_ _)); refine blk_put (cs := #[.slice Ao28 t120.length co28, .bool t123, .int .i64 0]) ?_ 2 _ rfl; (with_reducible repeat (first | refine blk_drewN ?_ _ | refine blk_drew ?_ | refine blk_alloc ?_ _)); refine blk_put (cs := #[.slice Ao28 t120.length co28, .bool false, .int .i64 0]) ?_ 1 _ rfl; (with_reducible repeat (first | refine blk_drewN ?_ _ | refine blk_drew ?_ | refine blk_alloc ?_ _)); refine blk_put (cs := #[.slice none 0 0, .bool false, .int .i64 0]) ?_ 0 _ rfl; (with_reducible repeat (first | refine blk_drewN ?_ _ | refine blk_drew ?_ | refine blk_alloc ?_ _)); exact BK127.out⟩
            have n2_ : Aside0 ((((((w27.setCell ⟨gb127, 0, none⟩ (.slice Ao28 t120.length co28)).setCell ⟨gb127, 1, none⟩ (.bool t123)).setCell ⟨gb127, 2, none⟩ (.int .i64 t124)).setCell ⟨gb128, 0, none⟩ (.int .i64 t125)).setCell ⟨gb128, 1, none⟩ (.int .i64 t126)).heap[gb128]? = some (.cells #[.int .i64 t125, .int .i64 t126] 31 (0, 0))) := ⟨by (with_reducible repeat (first | refine blk_drewN ?_ _ | refine blk_drew ?_ | refine blk_alloc ?_ _)); refine blk_put (cs := #[.int .i64 t125, .int .i64 0]) ?_ 1 _ rfl; (with_reducible repeat (first | refine blk_drewN ?_ _ | refine blk_drew ?_ | refine blk_alloc ?_ _)); refine blk_put (cs := #[.int .i64 0, .int .i64 0]) ?_ 0 _ rfl; (with_reducible repeat (first | refine blk_drewN ?_ _ | refine blk_drew ?_ | refine blk_alloc ?_ _)); refine blk_far ?_ NB128_127.out _; (with_reducible repeat (first | refine blk_drewN ?_ _ | refine blk_drew ?_ | refine blk_alloc ?_ _)); refine blk_far ?_ NB128_127.out _; (with_reducible repeat (first | refine blk_drewN ?_ _ | refine blk_drew ?_ | refine blk_alloc ?_ _)); refine blk_far ?_ NB128_127.out _; (with_reducible repeat (first | refine blk_drewN ?_ _ | refine blk_drew ?_ | refine blk_alloc ?_ _)); exact BK128.out⟩
            have n3_ : Aside0 (Below w.heap.size w (((((w27.setCell ⟨gb127, 0, none⟩ (.slice Ao28 t120.length co28)).setCell ⟨gb127, 1, none⟩ (.bool t123)).setCell ⟨gb127, 2, none⟩ (.int .i64 t124)).setCell ⟨gb128, 0, none⟩ (.int .i64 t125)).setCell ⟨gb128, 1, none⟩ (.int .i64 t126))) := ⟨by repeat (first | (with_reducible first | exact HB.out | apply below_alloc | apply pw_below_drewN | apply below_drew1 | refine below_set ?_ GE127.out | refine below_set ?_ GE128.out) | exact HB.out)⟩
            (try clear HO122)
            (try clear BK127)
            (try clear BK128)
            (try clear HB)
            generalize (((((w27.setCell ⟨gb127, 0, none⟩ (.slice Ao28 t120.length co28)).setCell ⟨gb127, 1, none⟩ (.bool t123)).setCell ⟨gb127, 2, none⟩ (.int .i64 t124)).setCell ⟨gb128, 0, none⟩ (.int .i64 t125)).setCell ⟨gb128, 1, none⟩ (.int .i64 t126)) = w32 at n0_ n1_ n2_ n3_ ⊢
            have HO122 := n0_
            have BK127 := n1_
            have BK128 := n2_
            have HB := n3_
            clear n0_ n1_ n2_ n3_
            have n0_ := Aside0.mk (Kd.R_drew HO122.out)
            have n1_ := Aside0.mk (blk_drew BK127.out)
            have n2_ := Aside0.mk (blk_drew BK128.out)
            have n3_ := Aside0.mk (below_drew1 HB.out)
            clear HO122
            clear BK127
            clear BK128
            clear HB
            have HO122 := n0_
            have BK127 := n1_
            have BK128 := n2_
            have HB := n3_
            clear n0_ n1_ n2_ n3_
            refine start_ (n := 20) (S := fun w' => w'.cell? ⟨gb127, 0, none⟩ = some (.slice Ao28 t120.length co28) ∧ w'.cell? ⟨gb127, 1, none⟩ = some (.bool t123) ∧ w'.cell? ⟨gb127, 2, none⟩ = some (.int .i64 t124) ∧ w'.cell? ⟨gb128, 0, none⟩ = some (.int .i64 t125) ∧ w'.cell? ⟨gb128, 1, none⟩ = some (.int .i64 t126)) (ds := []) #[false, false, false, false, false, false, false, false, false, false, false, false, false, false, false, false, false, false, false, false] (by kernel_rfl) rfl rfl ⟨(blk_cell BK127.out 0).trans rfl, (blk_cell BK127.out 1).trans rfl, (blk_cell BK127.out 2).trans rfl, (blk_cell BK128.out 0).trans rfl, (blk_cell BK128.out 1).trans rfl⟩ (fun hHeld => ?_); refine with_tabW epactlaw11_ZicRight.tab6 epactlaw11_ZicRight.bits6 (fun HT_ HW_ => ?_)
            generalize w32.drew = w33 at HO122 BK127 BK128 HB hHeld ⊢
            refine pure_ (i := 0) (N := some 19) (v := ?_) (a' := ?_) #[true, false, false, false, false, false, false, false, false, false, false, false, false, false, false, false, false, false, false, false] rfl rfl (any_of HT_.out (by kernel_rfl)) (fun _ _ _ h => h) (Or.inl ⟨by rfl, ?_⟩) ?_ ?_
            rotate_left
            · intro w'
              go_simp
              with_reducible rfl
            rotate_left
            · simp only [Act.put, List.setIfInBounds_toArray, List.set_cons_zero, List.set_cons_succ, i64_w, i32_w]
              rfl
            refine pure_ (i := 1) (N := some 20) (v := ?_) (a' := ?_) #[true, true, false, false, false, false, false, false, false, false, false, false, false, false, false, false, false, false, false, false] rfl rfl (any_of HT_.out (by kernel_rfl)) (fun _ _ _ h => h) (Or.inl ⟨by rfl, ?_⟩) ?_ ?_
            rotate_left
            · intro w'
              go_simp
              with_reducible rfl
            rotate_left
            · simp only [Act.put, List.setIfInBounds_toArray, List.set_cons_zero, List.set_cons_succ, i64_w, i32_w]
              rfl
            refine pure_ (i := 3) (N := some 22) (v := ?_) (a' := ?_) #[true, true, false, true, false, false, false, false, false, false, false, false, false, false, false, false, false, false, false, false] rfl rfl (any_of HT_.out (by kernel_rfl)) (fun _ _ _ h => h) (Or.inl ⟨by rfl, ?_⟩) ?_ ?_
            rotate_left
            · intro w'
              go_simp
              with_reducible rfl
            rotate_left
            · simp only [Act.put, List.setIfInBounds_toArray, List.set_cons_zero, List.set_cons_succ, i64_w, i32_w]
              rfl
            refine take_ (i := 2) (N := some 21) (v := ?_) (a' := ?_) #[true, true, true, true, false, false, false, false, false, false, false, false, false, false, false, false, false, false, false, false] rfl rfl (take_ofW HT_.out HW_.out (by kernel_rfl)) (fun _ _ _ h => h) (Or.inl ⟨by rfl, ?_⟩) hHeld ?_ ?_
            rotate_left
            · rintro w' ⟨s0, s1, s2, s3, s4⟩
              go_simp
              with_reducible rfl
            rotate_left
            · simp only [Act.put, List.setIfInBounds_toArray, List.set_cons_zero, List.set_cons_succ, i64_w, i32_w]
              rfl
            refine one_ (i := 4) (N := some 23) #[true, true, true, true, true, false, false, false, false, false, false, false, false, false, false, false, false, false, false, false] rfl rfl (one_of HT_.out (by kernel_rfl)) (by decide) (fun K hK => ?_)
            refine goes_ Tryd.func16 (by kernel_rfl) rfl #[.agg #[.slice Ao28 t120.length co28, .bool t123, .int .i64 t124], .agg #[.slice none 0 0, .bool false, .int .i64 0]] (by rfl) rfl rfl (by (try simp only [List.map_toArray, List.map_cons, List.map_nil]); first | done | rfl | (simp only [List.length_drop, List.length_take]; rfl)) ?_
            refine (epactref09_Same.calls _ _ t120 t123 t124 _ _ ([] : List (S46)) false 0 true _ ?side1 ?side2 ?side3 ?side4 A20.out).mono ?_
            (case side1 => repeat (first | exact (Kd.R_reads' HO122.out).2.2 | (with_reducible refine Kd.C_alloc ?_ _) | (with_reducible refine Kd.C_drewN ?_ _) | (with_reducible refine Kd.C_drew ?_)))
            (case side2 => exact (Kd.R_reads' HO122.out).2.1)
            (case side3 => exact Kd.C_nil _ _)
            (case side4 => exact Nat.le_refl _)
            rintro e w34 ⟨rfl, hb⟩
            refine ⟨_, rfl, ?_⟩
            have n0_ := Aside0.mk (Kd.R_below (by (with_reducible repeat (first | apply Kd.R_alloc | apply Kd.R_drewN | apply Kd.R_drew)); exact HO122.out) hb)
            have n1_ := Aside0.mk (blk_below (g := gb127) (o := .cells #[.slice Ao28 t120.length co28, .bool t123, .int .i64 t124] 24 (0, 0)) (by (with_reducible repeat (first | refine blk_drewN ?_ _ | refine blk_drew ?_ | refine blk_alloc ?_ _)); exact BK127.out) hb)
            have n2_ := Aside0.mk (blk_below (g := gb128) (o := .cells #[.int .i64 t125, .int .i64 t126] 31 (0, 0)) (by (with_reducible repeat (first | refine blk_drewN ?_ _ | refine blk_drew ?_ | refine blk_alloc ?_ _)); exact BK128.out) hb)
            have n3_ := Aside0.mk (below_step (by repeat (first | (with_reducible first | exact HB.out | apply below_alloc | apply pw_below_drewN | apply below_drew1 | refine below_set ?_ GE127.out | refine below_set ?_ GE128.out) | exact HB.out)) hb)
            clear HO122
            clear BK127
            clear BK128
            clear HB
            have HO122 := n0_
            have BK127 := n1_
            have BK128 := n2_
            have HB := n3_
            clear n0_ n1_ n2_ n3_
            (try clear hb)
            (try clear hb2)
            (try clear hk)
            (try clear hi)
            refine hK.out _ _ ⟨(blk_cell BK127.out 0).trans rfl, (blk_cell BK127.out 1).trans rfl, (blk_cell BK127.out 2).trans rfl, (blk_cell BK128.out 0).trans rfl, (blk_cell BK128.out 1).trans rfl⟩ (fun hHeld => ?_)
            clear hK K
            refine norm_ (a' := ?_) ?_ ?_
            rotate_left
            · show Act.put _ (some 23) _ = _
              simp only [Act.put, List.setIfInBounds_toArray, List.set_cons_zero, List.set_cons_succ, i64_w, i32_w]
              rfl
            refine pure_ (i := 5) (N := some 24) (v := ?_) (a' := ?_) #[true, true, true, true, true, true, false, false, false, false, false, false, false, false, false, false, false, false, false, false] rfl rfl (any_of HT_.out (by kernel_rfl)) (fun _ _ _ h => h) (Or.inl ⟨by rfl, ?_⟩) ?_ ?_
            rotate_left
            · intro w'
              go_simp
              with_reducible rfl
            rotate_left
            · simp only [Act.put, List.setIfInBounds_toArray, List.set_cons_zero, List.set_cons_succ, i64_w, i32_w]
              rfl
            refine pure_ (i := 6) (N := some 25) (v := ?_) (a' := ?_) #[true, true, true, true, true, true, true, false, false, false, false, false, false, false, false, false, false, false, false, false] rfl rfl (any_of HT_.out (by kernel_rfl)) (fun _ _ _ h => h) (Or.inl ⟨by rfl, ?_⟩) ?_ ?_
            rotate_left
            · intro w'
              go_simp
              with_reducible rfl
            rotate_left
            · simp only [Act.put, List.setIfInBounds_toArray, List.set_cons_zero, List.set_cons_succ, i64_w, i32_w]
              rfl
            refine pure_ (i := 7) (N := some 26) (v := ?_) (a' := ?_) #[true, true, true, true, true, true, true, true, false, false, false, false, false, false, false, false, false, false, false, false] rfl rfl (any_of HT_.out (by kernel_rfl)) (fun _ _ _ h => h) (Or.inl ⟨by rfl, ?_⟩) ?_ ?_
            rotate_left
            · intro w'
              go_simp
              with_reducible rfl
            rotate_left
            · simp only [Act.put, List.setIfInBounds_toArray, List.set_cons_zero, List.set_cons_succ, i64_w, i32_w]
              rfl
            refine take_ (i := 8) (N := some 27) (v := ?_) (a' := ?_) #[true, true, true, true, true, true, true, true, true, false, false, false, false, false, false, false, false, false, false, false] rfl rfl (take_ofW HT_.out HW_.out (by kernel_rfl)) (fun _ _ _ h => h) (Or.inl ⟨by rfl, ?_⟩) hHeld ?_ ?_
            rotate_left
            · rintro w' ⟨s0, s1, s2, s3, s4⟩
              go_simp
              with_reducible rfl
            rotate_left
            · simp only [Act.put, List.setIfInBounds_toArray, List.set_cons_zero, List.set_cons_succ, i64_w, i32_w]
              rfl
            refine pure_ (i := 9) (N := some 28) (v := ?_) (a' := ?_) #[true, true, true, true, true, true, true, true, true, true, false, false, false, false, false, false, false, false, false, false] rfl rfl (any_of HT_.out (by kernel_rfl)) (fun _ _ _ h => h) (Or.inl ⟨by rfl, ?_⟩) ?_ ?_
            rotate_left
            · intro w'
              go_simp
              with_reducible rfl
            rotate_left
            · simp only [Act.put, List.setIfInBounds_toArray, List.set_cons_zero, List.set_cons_succ, i64_w, i32_w]
              rfl
            refine pure_ (i := 10) (N := some 29) (v := ?_) (a' := ?_) #[true, true, true, true, true, true, true, true, true, true, true, false, false, false, false, false, false, false, false, false] rfl rfl (any_of HT_.out (by kernel_rfl)) (fun _ _ _ h => h) (Or.inl ⟨by rfl, ?_⟩) ?_ ?_
            rotate_left
            · intro w'
              go_simp
              with_reducible rfl
            rotate_left
            · simp only [Act.put, List.setIfInBounds_toArray, List.set_cons_zero, List.set_cons_succ, i64_w, i32_w]
              rfl
            refine pure_ (i := 11) (N := some 30) (v := ?_) (a' := ?_) #[true, true, true, true, true, true, true, true, true, true, true, true, false, false, false, false, false, false, false, false] rfl rfl (any_of HT_.out (by kernel_rfl)) (fun _ _ _ h => h) (Or.inl ⟨by rfl, ?_⟩) ?_ ?_
            rotate_left
            · intro w'
              go_simp
              with_reducible rfl
            rotate_left
            · simp only [Act.put, List.setIfInBounds_toArray, List.set_cons_zero, List.set_cons_succ, i64_w, i32_w]
              rfl
            refine pure_ (i := 12) (N := some 31) (v := ?_) (a' := ?_) #[true, true, true, true, true, true, true, true, true, true, true, true, true, false, false, false, false, false, false, false] rfl rfl (any_of HT_.out (by kernel_rfl)) (fun _ _ _ h => h) (Or.inl ⟨by rfl, ?_⟩) ?_ ?_
            rotate_left
            · intro w'
              go_simp
              with_reducible rfl
            rotate_left
            · simp only [Act.put, List.setIfInBounds_toArray, List.set_cons_zero, List.set_cons_succ, i64_w, i32_w]
              rfl
            refine pure_ (i := 14) (N := some 33) (v := ?_) (a' := ?_) #[true, true, true, true, true, true, true, true, true, true, true, true, true, false, true, false, false, false, false, false] rfl rfl (any_of HT_.out (by kernel_rfl)) (fun _ _ _ h => h) (Or.inl ⟨by rfl, ?_⟩) ?_ ?_
            rotate_left
            · intro w'
              go_simp
              with_reducible rfl
            rotate_left
            · simp only [Act.put, List.setIfInBounds_toArray, List.set_cons_zero, List.set_cons_succ, i64_w, i32_w]
              rfl
            refine take_ (i := 13) (N := some 32) (v := ?_) (a' := ?_) #[true, true, true, true, true, true, true, true, true, true, true, true, true, true, true, false, false, false, false, false] rfl rfl (take_ofW HT_.out HW_.out (by kernel_rfl)) (fun _ _ _ h => h) (Or.inl ⟨by rfl, ?_⟩) hHeld ?_ ?_
            rotate_left
            · rintro w' ⟨s0, s1, s2, s3, s4⟩
              go_simp
              with_reducible rfl
            rotate_left
            · simp only [Act.put, List.setIfInBounds_toArray, List.set_cons_zero, List.set_cons_succ, i64_w, i32_w]
              rfl
            refine one_ (i := 15) (N := some 34) #[true, true, true, true, true, true, true, true, true, true, true, true, true, true, true, true, false, false, false, false] rfl rfl (one_of HT_.out (by kernel_rfl)) (by decide) (fun K hK => ?_)
            refine goes_ Tryd.func17 (by kernel_rfl) rfl #[.string a0] (by rfl) rfl rfl (by (try simp only [List.map_toArray, List.map_cons, List.map_nil]); first | done | rfl | (simp only [List.length_drop, List.length_take]; rfl)) ?_
            with_reducible refine (lines_Split.calls a0 t131 _ A23.out).mono ?_
            rintro e w35 ⟨v132, rfl, ho0, hb⟩
            refine ⟨_, rfl, ?_⟩
            have n0_ := Aside0.mk (Kd.R_below (by (with_reducible repeat (first | apply Kd.R_alloc | apply Kd.R_drewN | apply Kd.R_drew)); exact HO122.out) hb)
            have n1_ := Aside0.mk (Kd.R_lower ho0 (below_size (by repeat (first | (with_reducible first | exact HB.out | apply below_alloc | apply pw_below_drewN | apply below_drew1 | refine below_set ?_ GE127.out | refine below_set ?_ GE128.out) | exact HB.out))))
            have n2_ := Aside0.mk (blk_below (g := gb127) (o := .cells #[.slice Ao28 t120.length co28, .bool t123, .int .i64 t124] 24 (0, 0)) (by (with_reducible repeat (first | refine blk_drewN ?_ _ | refine blk_drew ?_ | refine blk_alloc ?_ _)); exact BK127.out) hb)
            have n3_ := Aside0.mk (blk_below (g := gb128) (o := .cells #[.int .i64 t125, .int .i64 t126] 31 (0, 0)) (by (with_reducible repeat (first | refine blk_drewN ?_ _ | refine blk_drew ?_ | refine blk_alloc ?_ _)); exact BK128.out) hb)
            have n4_ := Aside0.mk (below_step (by repeat (first | (with_reducible first | exact HB.out | apply below_alloc | apply pw_below_drewN | apply below_drew1 | refine below_set ?_ GE127.out | refine below_set ?_ GE128.out) | exact HB.out)) hb)
            clear HO122
            clear BK127
            clear BK128
            clear HB
            have HO122 := n0_
            have HO133 := n1_
            have BK127 := n2_
            have BK128 := n3_
            have HB := n4_
            clear n0_ n1_ n2_ n3_ n4_
            (try clear hb)
            (try clear hb2)
            (try clear hk)
            (try clear hi)
            (try clear ho0)
            obtain ⟨Ao36, co36, eo36⟩ := Kd.R_slice HO133.out
            (first | subst eo36 | (injection eo36 with f1_ f2_ f3_; have f4_ := f1_.symm; have f5_ := f3_.symm; clear f1_ f2_ f3_; subst f4_; subst f5_))
            refine hK.out _ _ ⟨(blk_cell BK127.out 0).trans rfl, (blk_cell BK127.out 1).trans rfl, (blk_cell BK127.out 2).trans rfl, (blk_cell BK128.out 0).trans rfl, (blk_cell BK128.out 1).trans rfl⟩ (fun hHeld => ?_)
            clear hK K
            refine norm_ (a' := ?_) ?_ ?_
            rotate_left
            · show Act.put _ (some 34) _ = _
              simp only [Act.put, List.setIfInBounds_toArray, List.set_cons_zero, List.set_cons_succ, i64_w, i32_w]
              rfl
            refine pure_ (i := 16) (N := some 35) (v := ?_) (a' := ?_) #[true, true, true, true, true, true, true, true, true, true, true, true, true, true, true, true, true, false, false, false] rfl rfl (any_of HT_.out (by kernel_rfl)) (fun _ _ _ h => h) (Or.inl ⟨by rfl, ?_⟩) ?_ ?_
            rotate_left
            · intro w'
              go_simp
              with_reducible rfl
            rotate_left
            · simp only [Act.put, List.setIfInBounds_toArray, List.set_cons_zero, List.set_cons_succ, i64_w, i32_w]
              rfl
            refine pure_ (i := 17) (N := some 36) (v := ?_) (a' := ?_) #[true, true, true, true, true, true, true, true, true, true, true, true, true, true, true, true, true, true, false, false] rfl rfl (any_of HT_.out (by kernel_rfl)) (fun _ _ _ h => h) (Or.inl ⟨by rfl, ?_⟩) ?_ ?_
            rotate_left
            · intro w'
              go_simp
              with_reducible rfl
            rotate_left
            · simp only [Act.put, List.setIfInBounds_toArray, List.set_cons_zero, List.set_cons_succ, i64_w, i32_w]
              rfl
            refine pure_ (i := 18) (N := some 37) (v := ?_) (a' := ?_) #[true, true, true, true, true, true, true, true, true, true, true, true, true, true, true, true, true, true, true, false] rfl rfl (any_of HT_.out (by kernel_rfl)) (fun _ _ _ h => h) (Or.inl ⟨by rfl, ?_⟩) ?_ ?_
            rotate_left
            · intro w'
              go_simp
              with_reducible rfl
            rotate_left
            · simp only [Act.put, List.setIfInBounds_toArray, List.set_cons_zero, List.set_cons_succ, i64_w, i32_w]
              rfl
            refine pure_ (i := 19) (N := some 2) (v := ?_) (a' := ?_) #[true, true, true, true, true, true, true, true, true, true, true, true, true, true, true, true, true, true, true, true] rfl rfl (any_of HT_.out (by kernel_rfl)) (fun _ _ _ h => h) (Or.inl ⟨by rfl, ?_⟩) ?_ ?_
            rotate_left
            · intro w'
              go_simp
              with_reducible rfl
            rotate_left
            · simp only [Act.put, List.setIfInBounds_toArray, List.set_cons_zero, List.set_cons_succ, i64_w, i32_w]
              rfl
            refine done_ (done_of HT_.out (by kernel_rfl)) ?_
            try go_wp2
            go_ret
            exact ⟨by first | rfl | (simp [errW_none, errW_some] <;> rfl) | (simp [*, errW_none, errW_some] <;> rfl), by repeat (first | (with_reducible first | exact HB.out | apply below_alloc | apply pw_below_drewN | apply below_drew1 | refine below_set ?_ GE127.out | refine below_set ?_ GE128.out) | exact HB.out)⟩
          · rw [if_neg c22] at H
            have c22b0 : decide (1 ≤ t125) = false := decide_eq_false c22
            clear c22
            exact absurd ((Option.some.inj H).trans hr_.out) (by decide)
        · replace c21 := Bool.eq_false_iff.mpr c21
          subst c21
          have H1 : (some false) = some r := by rw [if_neg (show ¬ (false = true) by decide)] at H; exact H
          clear H
          have H := H1
          clear H1
          exact absurd ((Option.some.inj H).trans hr_.out) (by decide)
      · replace c19 := Bool.eq_false_iff.mpr c19
        subst c19
        have H1 : (some false) = some r := by rw [if_neg (show ¬ (false = true) by decide)] at H; exact H
        clear H
        have H := H1
        clear H1
        exact absurd ((Option.some.inj H).trans hr_.out) (by decide)
def epactlaw11_ZicRight.Pure : Prop := ∀ (a0 : ByteArray), a0.size ≤ 140737488351232 → epactlaw11_ZicRight.f a0 = some true
theorem epactlaw11_ZicRight.walk (P : epactlaw11_ZicRight.Pure) (a0 : ByteArray) (w : World) (w0 : a0.size ≤ 140737488351232) (hG : Gl w) :
    Calls Tryd.prog 4 #[.string a0] w fun e w' => e = .returned (.bool true) ∧ Below w.heap.size w w' := by
  have h := P a0 w0
  refine (epactlaw11_ZicRight.calls a0 true w ⟨rfl⟩ h (hG := hG)).mono ?_
  rintro e w' ⟨rfl, hd⟩
  exact ⟨rfl, hd⟩
end Go.Proofs.YtodalfobehddmaaDoor.Y
namespace Go.Proofs.YtodalfobehddmaaDoor.Y
open Go.RowKit Go.Proofs.YtodalfobehddmaaDoorW.PrintWords Go.Proofs.YtodalfobehddmaaDoorW.PrintLast Go.Proofs.YtodalfobehddmaaDoor.Mx
open Go.Proofs.YtodalfobehddmaaDoor.Z
theorem lineStep_right {l : List S46} {a u no : Int} {ws : List (List UInt8)} (h : (lineStep l false 0 a u no ws).1 = 0) (hl : rightN l false 0 = true) :
    rightN (lineStep l false 0 a u no ws).2.1 false 0 = true ∧ ((lineStep l false 0 a u no ws).2.2.1 = a ∨ (lineStep l false 0 a u no ws).2.2.1 = no) := by
  unfold lineStep at h ⊢
  split at h
  · cases h
  · rename_i r hr
    split at h
    · cases h
    · rename_i h1
      rw [if_neg h1]
      split at h
      · cases h
      · rename_i h2
        rw [if_neg h2]
        split at h
        · rename_i h3
          rw [if_pos h3]
          refine ⟨?_, .inl rfl⟩
          unfold leapIn at h
          split at h
          · cases h
          · unfold rightN
            simpa using h
        · rename_i h3
          rw [if_neg h3]
          split at h
          · cases h
          · rename_i h4
            rw [if_neg h4]
            exact ⟨hl, .inr rfl⟩
theorem parseLine_right {k : Int} {x : List UInt8} {l : List S46} {a u : Int} (h : (parseLine k x l a u).1 = 0) (hl : rightN l false 0 = true) :
    rightN (parseLine k x l a u).2.1 false 0 = true ∧ ((parseLine k x l a u).2.2.1 = a ∨ (parseLine k x l a u).2.2.1 = k + 1) := by
  unfold parseLine at h ⊢
  split
  · exact ⟨hl, .inl rfl⟩
  · rename_i hw
    rw [if_neg hw] at h
    exact lineStep_right h hl
def GoOk (k : Int) (n : Nat) : (Int × Int) ⊕ (List S46 × Int × Int) → Prop
  | .inl (m, e) => k + 1 ≤ m ∧ m ≤ k + n ∧ e ≠ 0
  | .inr (l, a, _) => rightN l false 0 = true ∧ a ≤ k + n
theorem GoOk.more {k : Int} {n : Nat} {r : (Int × Int) ⊕ (List S46 × Int × Int)} (h : GoOk (k + 1) n r) : GoOk k (n + 1) r := by
  cases r with
  | inl r => obtain ⟨m, e⟩ := r; simp only [GoOk] at *; exact ⟨by omega, by omega, h.2.2⟩
  | inr r => obtain ⟨l, a, u⟩ := r; simp only [GoOk] at *; exact ⟨h.1, by omega⟩
theorem parseGo_right : ∀ (xs : List (List UInt8)) (k : Int) (l : List S46) (a u : Int), 0 ≤ k → a ≤ k → rightN l false 0 = true → GoOk k xs.length (parseGo k xs l a u)
  | [], k, l, a, u, hk, ha, hl => by
    rw [parseGo]
    exact ⟨hl, by simp; omega⟩
  | x :: t, k, l, a, u, hk, ha, hl => by
    rw [parseGo]
    by_cases h0 : (parseLine k x l a u).1 = 0
    · rw [if_pos h0]
      obtain ⟨h1, h2⟩ := parseLine_right h0 hl
      exact (parseGo_right t (k + 1) _ _ _ (by omega) (by rcases h2 with h2 | h2 <;> omega) h1).more
    · rw [if_neg h0]
      simp only [GoOk]
      exact ⟨Int.le_refl _, by simp only [List.length_cons]; omega, h0⟩
theorem parseL_right (s : List UInt8) : ((parseL s).2.2.2.2 = 0 → (parseL s).2.2.2.1 = 0 ∧ rightN (parseL s).1 (parseL s).2.1 (parseL s).2.2.1 = true) ∧
    ((parseL s).2.2.2.2 ≠ 0 → (parseL s).1 = [] ∧ (parseL s).2.1 = false ∧ (parseL s).2.2.1 = 0 ∧ 1 ≤ (parseL s).2.2.2.1 ∧ (parseL s).2.2.2.1 ≤ (linesL s).length) := by
  have h := parseGo_right (linesL s) 0 [] 0 0 (by omega) (by omega) rfl
  unfold parseL
  revert h
  cases parseGo 0 (linesL s) [] 0 0 with
  | inl r =>
    obtain ⟨n, e⟩ := r
    intro h
    simp only [GoOk] at h
    unfold parseEnd
    exact ⟨fun h0 => absurd h0 h.2.2, fun _ => ⟨rfl, rfl, rfl, by simp only; omega, by simp only; omega⟩⟩
  | inr r =>
    obtain ⟨l, a, u⟩ := r
    intro h
    simp only [GoOk] at h
    unfold parseEnd
    by_cases ha : 0 < a
    · simp only
      rw [if_pos ha]
      by_cases hr : rightN l true u = true
      · rw [if_pos hr]
        exact ⟨fun _ => ⟨rfl, hr⟩, fun h0 => absurd rfl h0⟩
      · rw [if_neg hr]
        exact ⟨(fun h0 => absurd (show (9 : Int) = 0 from h0) (by decide)), fun _ => ⟨rfl, rfl, rfl, by simp only; omega, by simp only; omega⟩⟩
    · simp only
      rw [if_neg ha]
      exact ⟨fun _ => ⟨rfl, h.1⟩, fun h0 => absurd rfl h0⟩
theorem parseL_length (s : List UInt8) : (parseL s).1.length ≤ 200 := by
  have h := parseL_right s
  by_cases h0 : (parseL s).2.2.2.2 = 0
  · exact right_length (h.1 h0).2
  · rw [(h.2 h0).1]
    simp
end Go.Proofs.YtodalfobehddmaaDoor.Y
namespace Go.Proofs.YtodalfobehddmaaDoor.Y
open Go.RowKit Go.Proofs.YtodalfobehddmaaDoorW.PrintWords Go.Proofs.YtodalfobehddmaaDoorW.PrintLast Go.Proofs.YtodalfobehddmaaDoor.Mx
open Go.Proofs.YtodalfobehddmaaDoor.Z
theorem zicRight_pure (s : ByteArray) (_hs : s.size ≤ 140737488351232) : ∃ _k : Nat, epactlaw11_ZicRight.f s = some true := by
  refine ⟨0, ?_⟩
  unfold epactlaw11_ZicRight.f epactlaw11_small.f
  simp only [Option.bind_some]
  by_cases hz : (s.size : Int) > 3000
  · rw [if_pos hz]
  · rw [if_neg hz]
    have h := parseL_right s.data.toList
    have hlen := parseL_length s.data.toList
    have hsz : s.data.toList.length = s.size := rfl
    have hll := linesL_len s.data.toList
    unfold zic_Parse.f
    rw [if_pos (by omega)]
    simp only [Option.bind_some]
    by_cases h0 : (parseL s.data.toList).2.2.2.2 = 0
    · obtain ⟨h1, h2⟩ := h.1 h0
      rw [if_pos h0, if_pos trivial, if_pos h1]
      unfold leap_Right.f
      rw [if_pos (by omega)]
      simp only [Option.bind_some]
      rw [h2]
    · obtain ⟨h1, h2, h3, h4, h5⟩ := h.2 h0
      rw [if_neg h0, if_pos trivial]
      unfold epactref09_Same.f
      rw [if_pos (by omega)]
      simp only [Option.bind_some]
      rw [show sameN (parseL s.data.toList).1 (parseL s.data.toList).2.1 (parseL s.data.toList).2.2.1 [] false 0 = true from decide_eq_true ⟨h1, h2, h3⟩, if_pos rfl, if_pos h4]
      unfold lines_Split.f
      rw [if_pos (by omega)]
      simp only [Option.bind_some, List.length_map]
      rw [decide_eq_true h5]
end Go.Proofs.YtodalfobehddmaaDoor.Y
namespace Go.Proofs.YtodalfobehddmaaDoor.zicRight
open Go.ChangeShapes Go.WideShapes Go.ChangeAt Go.RowKit
open Go.ChangeMaps (open_string shut_string)
open Go.Proofs.YtodalfobehddmaaDoorW.PrintWords
set_option maxRecDepth 100000 in
theorem contract (H : Type) (enc : TypeId × Value → H) (W : World) (base : Nat) (args : Array Value) (ds gs : List (DataW H)) (before : List MemPlace)
    (hval0 : ∀ (j : Nat) t v, Tryd.f4.params[j]? = some t → args[j]? = some v → Value.okWide Tryd.prog W .any base t v)
    (hW : DataW.Whole enc Tryd.prog Tryd.f4.params.toList Rows.zicRightSpec.vars false W args.toList ds gs before)
    (hsz0 : (DataW.weightsEach Tryd.prog (Tryd.f4.params.toList ++ Rows.zicRightSpec.plain.varTypes Tryd.prog) (ds ++ gs)).all (· ≤ reachBytes) = true)
    (hL : laidMetH Tryd.prog Y.laidL W) :
    Calls Tryd.prog 4 args W fun e W' => ∃ v, e = .returned v ∧ Rows.zicRightSpec.post enc Tryd.prog Tryd.f4 false true false false W args v W' := by
  have hG := Y.gl_of_laidH hL
  have hsz := hsz0
  have hval := hval0
  have hW' := hW
  obtain ⟨p, q, hA0, hV, rfl, hfz, hnd⟩ := hW
  have hA : DataW.TrodAll enc Tryd.prog W 0 (fun _ => true) true Tryd.f4.params.toList args.toList ds p := hA0
  rw [Tryd.params4] at hA hval hsz
  obtain ⟨v0, vs0, d0, ds0, p0, q0, hargs, rfl, rfl, h0, r0⟩ := trodAll_cons hA
  obtain ⟨rfl, rfl, rfl⟩ := trodAll_nil r0
  obtain rfl : args = #[v0] := by cases args; simp_all
  obtain ⟨rfl, rfl⟩ := trodVars_none hV
  obtain ⟨a0, rfl, rfl, rfl, y0⟩ := open_string Tryd.underlying9 (hval 0 9 v0 rfl rfl) h0
  have w0 : a0.size ≤ 140737488351232 := by
    have z := sized_string hsz (j := 0) (t := 9) rfl rfl
    rw [Array.length_toList] at z
    exact z
  clear hA0 hval0 hsz0 hsz hval
  obtain ⟨k, hf⟩ := Y.zicRight_pure a0 w0
  refine (Y.epactlaw11_ZicRight.calls a0 true W ⟨rfl⟩ hf hG).mono fun e W' ⟨he, bel⟩ => ?_
  subst he
  exact ⟨_, rfl, _, _, _, [], _, [], hW', trodAll_mk1 (shut_bool Tryd.underlying4 _), (trodAll_cons_mk (shut_string Tryd.underlying9 y0) trodAll_mk0), rfl, bel.frame _, fun h => by cases h⟩
theorem reads (os : Os) {H : Type} (enc : TypeId × Value → H) : ∃ places, DataW.whole enc Tryd.prog ((World.laidAll Tryd.prog os Y.laidL).forCall (fun _ _ => 0) ⟨#[], #[.string ByteArray.empty], []⟩).memory Tryd.f4.params.toList Rows.zicRightSpec.vars false (#[.string ByteArray.empty] : Array Value).toList 8 = some ([.lit (.string [])], [], places) :=
  ⟨[], by kernel_rfl⟩
set_option maxRecDepth 100000 in
theorem lifted (os : Os) (started : os.Started) (H : Type) (enc : TypeId × Value → H) (F : Stop.Interp) :
    ReturnsInHanded {} Tryd.checked os 4 .any ((OpenSpec.ofChange Rows.zicRightSpec).preRow enc Tryd.prog Tryd.f4 Rows.zicRightRow.domain false Rows.zicRightRow.laid) (((OpenSpec.ofChange Rows.zicRightSpec).at F).post enc Tryd.prog Tryd.f4 false true false false) := by
  obtain ⟨places, hx⟩ := reads os enc
  refine returnsInHanded_of_row (C := Tryd.checked) (s := OpenSpec.ofChange Rows.zicRightSpec) Y.own started (by kernel_rfl) Tryd.func4
    (witness_row_atRef (enc := enc) (C := Tryd.checked) false (World.laidAll Tryd.prog os Y.laidL) #[.string ByteArray.empty] (World.laidAll_os _ _ _) (by kernel_rfl) (by kernel_rfl) (by kernel_rfl)
      (OpenSpec.preRow_of_cond 8 hx (by kernel_rfl) (fun k hk => by cases hk) (by kernel_rfl) (Y.world_met os _))) ?_
  intro W base args ds gs before hval hW _ hcond hsz hL _ _
  exact contract H enc W base args ds gs before hval hW hsz hL
theorem said : Rows.ZicRightSaid :=
  OpenClaim.holds_of_cond 4 Tryd.f4 rfl rfl rfl rfl rfl rfl rfl ⟨rfl, rfl, rfl, rfl, rfl⟩ rfl rfl rfl rfl rfl (by kernel_rfl) Tryd.func4 (by kernel_rfl)
    (of_decide_eq_true (by kernel_rfl)) (by unfold Func.isWrapper; first | (rw [if_pos (by decide +kernel)]; kernel_rfl) | (rw [if_neg (by decide +kernel)]; exact ⟨rfl, rfl⟩))
    (fun os started H enc _ F => by rw [OpenClaim.pre_eq_preRow]; exact lifted os started H enc F)
theorem plain (f : FuncId) (fn : Func) (hf : Tryd.pinned.checked.prog.funcNamed "epact/epactlaw11.ZicRight" = some f) (hfn : Tryd.pinned.checked.prog.funcs[f]? = some fn) :
    false = Tryd.pinned.checked.prog.looks [] ∧ ∀ (j : Nat) t, fn.params[j]? = some t → Tryd.pinned.checked.prog.wantsStandIn t = false := by
  obtain rfl : f = 4 := Option.some.inj ((show Tryd.prog.funcNamed "epact/epactlaw11.ZicRight" = some 4 by kernel_rfl).symm.trans hf) |>.symm
  obtain rfl : fn = Tryd.f4 := (Option.some.inj (Tryd.func4.symm.trans hfn)).symm
  refine ⟨by kernel_rfl, fun j t ht => ?_⟩
  rw [Tryd.params4] at ht
  have hm : t ∈ [9] := by simpa using Array.mem_of_getElem? ht
  have hall : ([9].all fun u => !Tryd.prog.wantsStandIn u) = true := by kernel_rfl
  exact (show Tryd.prog.wantsStandIn t = false by simpa using List.all_eq_true.1 hall t hm)
theorem card : Rows.ZicRightCardSaid :=
  Claim7.holds_tied_plain_at .later [] _ _ _ _ said (fun _ h => by cases h) (by kernel_rfl) (fun _ h => by cases h) zicRight_row_tie rfl ⟨rfl, rfl⟩ (by kernel_rfl) rfl plain (by kernel_rfl)
end Go.Proofs.YtodalfobehddmaaDoor.zicRight
namespace Go.Proofs.YtodalfobehddmaaDoor
theorem zicRight_card : Rows.ZicRightCardSaid := zicRight.card
end Go.Proofs.YtodalfobehddmaaDoor
