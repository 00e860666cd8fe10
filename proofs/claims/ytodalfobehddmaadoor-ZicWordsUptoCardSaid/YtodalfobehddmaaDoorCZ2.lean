/- What functions of the program come to, proved by walking their code; no condition beside those that each theorem states (part 2 of 4) -/
import Derived.Deep.RegionLaw
import Derived.Lib.ItoaLen
import Derived.Test.YtodalfobehddmaaDoorCZ1
set_option linter.unusedVariables false
set_option linter.unusedSimpArgs false
namespace Go.Proofs.YtodalfobehddmaaDoor.Z
open Go.RowKit Go.Proofs.YtodalfobehddmaaDoorW.PrintWords Go.Proofs.YtodalfobehddmaaDoorW.PrintLast Go.Proofs.YtodalfobehddmaaDoor.Mx
attribute [local go_sem] max2_int min2_int max_two min_two max_three min_three   -- for this text's walks alone
def leap_Check.l0 : Nat → Int → List (S46) → Int → Int → List (S46) → Bool → Int → Option (Int × Int)
  | 0, _, _, _, _, _, _, _ => none
  | k + 1, x4, x11, x12, x13, x121000, x121001, x121002 => if x13 < x12 then (if 0 ≤ x13 then (if x13 < (x11.length : Int) then ((leap_wrong.f k x13 ((rd_T46 x11 x13).f0) ((rd_T46 x11 x13).f1) ((rd_T46 x11 x13).f2) x4).bind fun t123 => (if t123 = 0 then (leap_Check.l0 k ((rd_T46 x11 x13).f0) x11 x12 (wrap64 (x13 + 1)) x121000 x121001 x121002) else (some (x13, t123)))) else (none)) else (none)) else (if x121001 = true then (if x121002 < (mx (wrap64 ((wrap64 (x4 + 1)) * 86400)) 63072000) then (some ((x121000.length : Int), 9)) else (if x121002 > 253402300799 then (some ((x121000.length : Int), 9)) else (some ((x121000.length : Int), 0)))) else (if x121002 < 0 then (some ((x121000.length : Int), 9)) else (if x121002 > 0 then (some ((x121000.length : Int), 9)) else (some ((x121000.length : Int), 0)))))
def leap_Check.f (k : Nat) (l0_0 : List (S46)) (a0_1 : Bool) (a0_2 : Int) : Option (Int × Int) := leap_Check.l0 k 729 l0_0 (l0_0.length : Int) 0 l0_0 a0_1 a0_2
theorem leap_Check.mono_l : ∀ k, (∀ y0 y1 y2 y3 y4 y5 y6, LeO (leap_Check.l0 k y0 y1 y2 y3 y4 y5 y6) (leap_Check.l0 (k + 1) y0 y1 y2 y3 y4 y5 y6))
  | 0 => fun _ _ _ _ _ _ _ r h => by simp [leap_Check.l0] at h
  | k + 1 => by
    have ih0 := leap_Check.mono_l k
    · intro y0 y1 y2 y3 y4 y5 y6
      unfold leap_Check.l0
      repeat' first
      | (with_reducible exact ih0 _ _ _ _ _ _ _)
      | (with_reducible exact leap_wrong.mono _ _ _ _ _ _)
      | (with_reducible exact LeO.refl _)
      | (with_reducible exact LeO.none _)
      | (with_reducible refine LeO.ite ?_ ?_)
      | (with_reducible refine LeO.bind ?_ (fun _ => ?_))
      | exact ih0 _ _ _ _ _ _ _
      | exact leap_wrong.mono _ _ _ _ _ _
      | exact LeO.none _
      | refine LeO.ite ?_ ?_
      | refine LeO.bind ?_ (fun _ => ?_)
theorem leap_Check.mono : ∀ a0 a1 a2 k, LeO (leap_Check.f k a0 a1 a2) (leap_Check.f (k + 1) a0 a1 a2) := by
  intro a0 a1 a2 k
  have ih0 := leap_Check.mono_l k
  unfold leap_Check.f
  repeat' first
      | (with_reducible exact ih0 _ _ _ _ _ _ _)
      | (with_reducible exact leap_wrong.mono _ _ _ _ _ _)
      | (with_reducible exact LeO.refl _)
      | (with_reducible exact LeO.none _)
      | (with_reducible refine LeO.ite ?_ ?_)
      | (with_reducible refine LeO.bind ?_ (fun _ => ?_))
      | exact ih0 _ _ _ _ _ _ _
      | exact leap_wrong.mono _ _ _ _ _ _
      | exact LeO.none _
      | refine LeO.ite ?_ ?_
      | refine LeO.bind ?_ (fun _ => ?_)
set_option maxHeartbeats 8000000 in
set_option maxRecDepth 100000 in
theorem leap_Check.calls (k : Nat) (A0_0 : Option Addr) (c0_0 : Nat) (l0_0 : List (S46)) (a0_1 : Bool) (a0_2 : Int) (r1 : Int) (r2 : Int) (w : World) (hr0_0 : Kd.C k46 w A0_0 l0_0.length l0_0) (hc0_0 : l0_0.length ≤ c0_0) (h : leap_Check.f k l0_0 a0_1 a0_2 = some (r1, r2)) :
    Calls Tryd.prog 30 #[.agg #[.slice A0_0 l0_0.length c0_0, .bool a0_1, .int .i64 a0_2]] w fun e w' => e = .returned (.tuple #[.int .i64 r1, .int .i64 r2]) ∧ Below w.heap.size w w' := by
  have hu24 := Tryd.underlying24
  have hu46 := Tryd.underlying46
  have HR0_0 := Aside0.mk hr0_0
  have HC0_0 := Aside0.mk hc0_0
  clear hr0_0 hc0_0
  have HB := Aside0.mk (Below.refl w.heap.size w)
  have H : (leap_Check.l0 k 729 l0_0 (l0_0.length : Int) 0 l0_0 a0_1 a0_2) = some (r1, r2) := h
  clear h
  have H' := Aside0.mk H
  clear H
  go_enter Tryd.func30, Tryd.ntmps30
  go_wp2_with (first | ((with_reducible refine gate_dst (N := 1) rfl ?_); refine box_event ?hg (N := 1) ?hd (cs := #[.slice A0_0 l0_0.length c0_0, .bool a0_1, .int .i64 a0_2]) (t := 24) ?hr ?_; (case hd => rfl); (case hg => rfl); (case hr => first | (go_simp; done) | (go_simp; rfl)); intro gb120 hg w2 hbox hb; have n0_ := Aside0.mk (below_step (by repeat (first | (with_reducible first | exact HB.out | apply below_alloc | apply pw_below_drewN | apply below_drew1) | exact HB.out)) hb); have n1_ := Aside0.mk (hbox); have n2_ := Aside0.mk ((by rw [hg]; exact (below_size (by repeat (first | (with_reducible first | exact HB.out | apply below_alloc | apply pw_below_drewN | apply below_drew1) | exact HB.out))) : w.heap.size ≤ gb120)); have n3_ := Aside0.mk ((by rw [hg]; exact (below_size (by repeat (first | (with_reducible first | exact HB.out | apply below_alloc | apply pw_below_drewN | apply below_drew1) | exact HB.out))) : w.heap.size ≤ gb120)); clear HB; have HB := n0_; have BK120 := n1_; have GW120 := n2_; have GE120 := n3_; clear n0_ n1_ n2_ n3_; clear hb hbox hg; have hcz3_0 : w2.cell? ⟨gb120, 0, none⟩ = some (.slice A0_0 l0_0.length c0_0) := (blk_cell BK120.out 0).trans rfl; have hcz3_1 : w2.cell? ⟨gb120, 1, none⟩ = some (.bool a0_1) := (blk_cell BK120.out 1).trans rfl; have hcz3_2 : w2.cell? ⟨gb120, 2, none⟩ = some (.int .i64 a0_2) := (blk_cell BK120.out 2).trans rfl; have hfz3_0 := blk_frozen BK120.out 0; have hfz3_1 := blk_frozen BK120.out 1; have hfz3_2 := blk_frozen BK120.out 2))
  go_loopg [4, 13] k (fun kq v4 v13 w' => ∃ (x4_1 : Int) (x13_1 : Int), v4 = .int .i64 x4_1 ∧ v13 = .int .i64 x13_1 ∧ Aside0 (leap_Check.l0 kq x4_1 l0_0 (l0_0.length : Int) x13_1 l0_0 a0_1 a0_2 = some (r1, r2)) ∧ Aside0 (kq ≤ k) ∧ Aside0 (w'.heap[gb120]? = some (.cells #[(.slice A0_0 l0_0.length c0_0), .bool a0_1, .int .i64 a0_2] 24 (0, 0))) ∧ Aside0 (Below w.heap.size w w'))
  case atStart => exact ⟨(729), (0), (by first | rfl | (simp; done) | (simp [*]; done)), (by first | rfl | (simp; done) | (simp [*]; done)), H', ⟨Nat.le_refl _⟩, ⟨by (with_reducible repeat (first | refine blk_drewN ?_ _ | refine blk_drew ?_ | refine blk_alloc ?_ _)); exact BK120.out⟩, ⟨by repeat (first | (with_reducible first | exact HB.out | apply below_alloc | apply pw_below_drewN | apply below_drew1 | refine below_set ?_ GE120.out) | exact HB.out)⟩⟩
  case round =>
    clear H'
    try clear p2
    try clear c3
    try clear hcz3_0
    try clear hcz3_1
    try clear hcz3_2
    try clear hfz3_0
    try clear hfz3_1
    try clear hfz3_2
    obtain ⟨x4_1, x13_1, rfl, rfl, HA, HK1, BK120, HB⟩ := hrel
    cases gk with
    | zero => exact absurd HA.out (by simp [leap_Check.l0])
    | succ k1 =>
      have H := HA.out
      clear HA
      simp only [leap_Check.l0] at H
      by_cases c4 : x13_1 < (l0_0.length : Int)
      · rw [if_pos c4] at H
        have c4b0 : decide (x13_1 < (l0_0.length : Int)) = true := decide_eq_true c4
        clear c4
        by_cases c5 : 0 ≤ x13_1
        · rw [if_pos c5] at H
          have c5b0 : decide (0 ≤ x13_1) = true := decide_eq_true c5
          clear c5
          by_cases c6 : x13_1 < (l0_0.length : Int)
          · rw [if_pos c6] at H
            have c6b0 : decide (x13_1 < (l0_0.length : Int)) = true := decide_eq_true c6
            clear c6
            replace H := Option.bind_eq_some_iff.mp H
            obtain ⟨t123, A70, H⟩ := H
            replace H : (if t123 = 0 then (leap_Check.l0 k1 ((rd_T46 l0_0 x13_1).f0) l0_0 (l0_0.length : Int) (wrap64 (x13_1 + 1)) l0_0 a0_1 a0_2) else (some (x13_1, t123))) = some (r1, r2) := H
            have A7 := Aside0.mk A70
            clear A70
            by_cases c8 : t123 = 0
            · rw [if_pos c8] at H
              have c8b0 : (t123 == 0) = true := beq_iff_eq.mpr c8
              have c8b1 : (t123 != 0) = false := bne_eq_false_iff_eq.mpr c8
              clear c8
              have H' := Aside0.mk H
              clear H
              have p121 : 0 ≤ (x13_1 : Int) := of_decide_eq_true (by first | (with_reducible assumption) | assumption)
              have q121 : x13_1 < (l0_0.length : Int) := of_decide_eq_true (by first | (with_reducible assumption) | assumption)
              obtain ⟨ad121, e121, hx121_0, hx121_1, hx121_2⟩ := at_T46 HR0_0.out x13_1 p121 q121
              cases e121
              replace hx121_0 := (HB.out.cell (World.block_lt_of_cell? w _ hx121_0)).trans hx121_0
              replace hx121_1 := (HB.out.cell (World.block_lt_of_cell? w _ hx121_1)).trans hx121_1
              replace hx121_2 := (HB.out.cell (World.block_lt_of_cell? w _ hx121_2)).trans hx121_2
              replace p121 := eq_true p121
              replace q121 := eq_true q121
              go_wp2_with (first | ((with_reducible refine gate_dst (N := 6) rfl ?_); refine box_event ?hg (N := 6) ?hd (cs := #[.int .i64 0, .int .i64 0, .bool false]) (t := 46) ?hr ?_; (case hd => rfl); (case hg => rfl); (case hr => first | (go_simp; done) | (go_simp; rfl)); intro gb122 hg w9 hbox hb; have n0_ := Aside0.mk (blk_below (g := gb120) (o := .cells #[.slice (some ad121) l0_0.length c0_0, .bool a0_1, .int .i64 a0_2] 24 (0, 0)) (by (with_reducible repeat (first | refine blk_drewN ?_ _ | refine blk_drew ?_ | refine blk_alloc ?_ _)); exact BK120.out) hb); have n1_ := Aside0.mk (below_step (by repeat (first | (with_reducible first | exact HB.out | apply below_alloc | apply pw_below_drewN | apply below_drew1 | refine below_set ?_ GE120.out) | exact HB.out)) hb); have n2_ := Aside0.mk (hbox); have n3_ := Aside0.mk ((by rw [hg]; exact (below_size (by repeat (first | (with_reducible first | exact HB.out | apply below_alloc | apply pw_below_drewN | apply below_drew1 | refine below_set ?_ GE120.out) | exact HB.out))) : w.heap.size ≤ gb122)); have n4_ := Aside0.mk ((by rw [hg]; exact (below_size (by repeat (first | (with_reducible first | exact HB.out | apply below_alloc | apply pw_below_drewN | apply below_drew1 | refine below_set ?_ GE120.out) | exact HB.out))) : w.heap.size ≤ gb122)); have n5_ := Aside0.mk ((by rw [hg]; exact Nat.ne_of_lt (blk_lt (g := gb120) (o := .cells #[.slice (some ad121) l0_0.length c0_0, .bool a0_1, .int .i64 a0_2] 24 (0, 0)) (by (with_reducible repeat (first | refine blk_drewN ?_ _ | refine blk_drew ?_ | refine blk_alloc ?_ _)); exact BK120.out)) : gb120 ≠ gb122)); have n6_ := Aside0.mk ((by rw [hg]; exact Nat.ne_of_gt (blk_lt (g := gb120) (o := .cells #[.slice (some ad121) l0_0.length c0_0, .bool a0_1, .int .i64 a0_2] 24 (0, 0)) (by (with_reducible repeat (first | refine blk_drewN ?_ _ | refine blk_drew ?_ | refine blk_alloc ?_ _)); exact BK120.out)) : gb122 ≠ gb120)); clear BK120; clear HB; have BK120 := n0_; have HB := n1_; have BK122 := n2_; have GW122 := n3_; have GE122 := n4_; have NB120_122 := n5_; have NB122_120 := n6_; clear n0_ n1_ n2_ n3_ n4_ n5_ n6_; clear hb hbox hg; have hnb10 := NB122_120.out; have hnc10 := NB120_122.out; have hcz11_0 : w9.cell? ⟨gb122, 0, none⟩ = some (.int .i64 0) := (blk_cell BK122.out 0).trans rfl; have hcz11_1 : w9.cell? ⟨gb122, 1, none⟩ = some (.int .i64 0) := (blk_cell BK122.out 1).trans rfl; have hcz11_2 : w9.cell? ⟨gb122, 2, none⟩ = some (.bool false) := (blk_cell BK122.out 2).trans rfl; have hfz11_0 := blk_frozen BK122.out 0; have hfz11_1 := blk_frozen BK122.out 1; have hfz11_2 := blk_frozen BK122.out 2) | ((with_reducible refine gate_callee (f := 55) rfl ?_); refine goesL_ (some 21) rfl rfl Tryd.func55 (by kernel_rfl) rfl #[.int .i64 x13_1, .agg #[.int .i64 ((rd_T46 l0_0 x13_1).f0), .int .i64 ((rd_T46 l0_0 x13_1).f1), .bool ((rd_T46 l0_0 x13_1).f2)], .int .i64 x4_1] rfl (by (try simp only [List.map_toArray, List.map_cons, List.map_nil]); first | done | rfl | (simp only [List.length_drop, List.length_take]; rfl)) ?_; (with_reducible refine (leap_wrong.calls k1 x13_1 ((rd_T46 l0_0 x13_1).f0) ((rd_T46 l0_0 x13_1).f1) ((rd_T46 l0_0 x13_1).f2) x4_1 t123 _ A7.out).mono ?_); rintro e w12 ⟨rfl, hb⟩; refine ⟨_, rfl, ?_⟩; have n0_ := Aside0.mk (blk_below (g := gb120) (o := .cells #[.slice (some ad121) l0_0.length c0_0, .bool a0_1, .int .i64 a0_2] 24 (0, 0)) (by (with_reducible repeat (first | refine blk_drewN ?_ _ | refine blk_drew ?_ | refine blk_alloc ?_ _)); refine blk_far ?_ NB120_122.out _; (with_reducible repeat (first | refine blk_drewN ?_ _ | refine blk_drew ?_ | refine blk_alloc ?_ _)); refine blk_far ?_ NB120_122.out _; (with_reducible repeat (first | refine blk_drewN ?_ _ | refine blk_drew ?_ | refine blk_alloc ?_ _)); refine blk_far ?_ NB120_122.out _; (with_reducible repeat (first | refine blk_drewN ?_ _ | refine blk_drew ?_ | refine blk_alloc ?_ _)); exact BK120.out) hb); have n1_ := Aside0.mk (blk_below (g := gb122) (o := .cells #[.int .i64 ((rd_T46 l0_0 x13_1).f0), .int .i64 ((rd_T46 l0_0 x13_1).f1), .bool ((rd_T46 l0_0 x13_1).f2)] 46 (0, 0)) (by (with_reducible repeat (first | refine blk_drewN ?_ _ | refine blk_drew ?_ | refine blk_alloc ?_ _)); refine blk_put (cs := #[.int .i64 ((rd_T46 l0_0 x13_1).f0), .int .i64 ((rd_T46 l0_0 x13_1).f1), .bool false]) ?_ 2 _ rfl; (with_reducible repeat (first | refine blk_drewN ?_ _ | refine blk_drew ?_ | refine blk_alloc ?_ _)); refine blk_put (cs := #[.int .i64 ((rd_T46 l0_0 x13_1).f0), .int .i64 0, .bool false]) ?_ 1 _ rfl; (with_reducible repeat (first | refine blk_drewN ?_ _ | refine blk_drew ?_ | refine blk_alloc ?_ _)); refine blk_put (cs := #[.int .i64 0, .int .i64 0, .bool false]) ?_ 0 _ rfl; (with_reducible repeat (first | refine blk_drewN ?_ _ | refine blk_drew ?_ | refine blk_alloc ?_ _)); exact BK122.out) hb); have n2_ := Aside0.mk (below_step (by repeat (first | (with_reducible first | exact HB.out | apply below_alloc | apply pw_below_drewN | apply below_drew1 | refine below_set ?_ GE120.out | refine below_set ?_ GE122.out) | exact HB.out)) hb); clear BK120; clear BK122; clear HB; have BK120 := n0_; have BK122 := n1_; have HB := n2_; clear n0_ n1_ n2_; (try clear hb); (try clear hb2); (try clear hk); (try clear hi); have hcz13_0 : w12.cell? ⟨gb122, 0, none⟩ = some (.int .i64 ((rd_T46 l0_0 x13_1).f0)) := (blk_cell BK122.out 0).trans rfl; have hcz13_1 : w12.cell? ⟨gb122, 1, none⟩ = some (.int .i64 ((rd_T46 l0_0 x13_1).f1)) := (blk_cell BK122.out 1).trans rfl; have hcz13_2 : w12.cell? ⟨gb122, 2, none⟩ = some (.bool ((rd_T46 l0_0 x13_1).f2)) := (blk_cell BK122.out 2).trans rfl; have hfz13_0 := blk_frozen BK122.out 0; have hfz13_1 := blk_frozen BK122.out 1; have hfz13_2 := blk_frozen BK122.out 2))
              go_roundg k1
              case measure => have := HK1.out; omega
              case rel => exact ⟨((rd_T46 l0_0 x13_1).f0), (wrap64 (x13_1 + 1)), (by first | rfl | (simp; done) | (simp [*]; done)), (by first | rfl | (simp; done) | (simp [*]; done)), H', ⟨by have := HK1.out; omega⟩, ⟨by (with_reducible repeat (first | refine blk_drewN ?_ _ | refine blk_drew ?_ | refine blk_alloc ?_ _)); exact BK120.out⟩, ⟨by repeat (first | (with_reducible first | exact HB.out | apply below_alloc | apply pw_below_drewN | apply below_drew1 | refine below_set ?_ GE120.out | refine below_set ?_ GE122.out) | exact HB.out)⟩⟩
            · rw [if_neg c8] at H
              have c8b0 : (t123 == 0) = false := beq_eq_false_iff_ne.mpr c8
              have c8b1 : (t123 != 0) = true := bne_iff_ne.mpr c8
              simp only [Option.some.injEq, Prod.mk.injEq] at H
              obtain ⟨rfl, rfl⟩ := H
              have p121 : 0 ≤ (x13_1 : Int) := of_decide_eq_true (by first | (with_reducible assumption) | assumption)
              have q121 : x13_1 < (l0_0.length : Int) := of_decide_eq_true (by first | (with_reducible assumption) | assumption)
              obtain ⟨ad121, e121, hx121_0, hx121_1, hx121_2⟩ := at_T46 HR0_0.out x13_1 p121 q121
              cases e121
              replace hx121_0 := (HB.out.cell (World.block_lt_of_cell? w _ hx121_0)).trans hx121_0
              replace hx121_1 := (HB.out.cell (World.block_lt_of_cell? w _ hx121_1)).trans hx121_1
              replace hx121_2 := (HB.out.cell (World.block_lt_of_cell? w _ hx121_2)).trans hx121_2
              replace p121 := eq_true p121
              replace q121 := eq_true q121
              go_wp2_with (first | ((with_reducible refine gate_dst (N := 6) rfl ?_); refine box_event ?hg (N := 6) ?hd (cs := #[.int .i64 0, .int .i64 0, .bool false]) (t := 46) ?hr ?_; (case hd => rfl); (case hg => rfl); (case hr => first | (go_simp; done) | (go_simp; rfl)); intro gb122 hg w14 hbox hb; have n0_ := Aside0.mk (blk_below (g := gb120) (o := .cells #[.slice (some ad121) l0_0.length c0_0, .bool a0_1, .int .i64 a0_2] 24 (0, 0)) (by (with_reducible repeat (first | refine blk_drewN ?_ _ | refine blk_drew ?_ | refine blk_alloc ?_ _)); exact BK120.out) hb); have n1_ := Aside0.mk (below_step (by repeat (first | (with_reducible first | exact HB.out | apply below_alloc | apply pw_below_drewN | apply below_drew1 | refine below_set ?_ GE120.out) | exact HB.out)) hb); have n2_ := Aside0.mk (hbox); have n3_ := Aside0.mk ((by rw [hg]; exact (below_size (by repeat (first | (with_reducible first | exact HB.out | apply below_alloc | apply pw_below_drewN | apply below_drew1 | refine below_set ?_ GE120.out) | exact HB.out))) : w.heap.size ≤ gb122)); have n4_ := Aside0.mk ((by rw [hg]; exact (below_size (by repeat (first | (with_reducible first | exact HB.out | apply below_alloc | apply pw_below_drewN | apply below_drew1 | refine below_set ?_ GE120.out) | exact HB.out))) : w.heap.size ≤ gb122)); have n5_ := Aside0.mk ((by rw [hg]; exact Nat.ne_of_lt (blk_lt (g := gb120) (o := .cells #[.slice (some ad121) l0_0.length c0_0, .bool a0_1, .int .i64 a0_2] 24 (0, 0)) (by (with_reducible repeat (first | refine blk_drewN ?_ _ | refine blk_drew ?_ | refine blk_alloc ?_ _)); exact BK120.out)) : gb120 ≠ gb122)); have n6_ := Aside0.mk ((by rw [hg]; exact Nat.ne_of_gt (blk_lt (g := gb120) (o := .cells #[.slice (some ad121) l0_0.length c0_0, .bool a0_1, .int .i64 a0_2] 24 (0, 0)) (by (with_reducible repeat (first | refine blk_drewN ?_ _ | refine blk_drew ?_ | refine blk_alloc ?_ _)); exact BK120.out)) : gb122 ≠ gb120)); clear BK120; clear HB; have BK120 := n0_; have HB := n1_; have BK122 := n2_; have GW122 := n3_; have GE122 := n4_; have NB120_122 := n5_; have NB122_120 := n6_; clear n0_ n1_ n2_ n3_ n4_ n5_ n6_; clear hb hbox hg; have hnb15 := NB122_120.out; have hnc15 := NB120_122.out; have hcz16_0 : w14.cell? ⟨gb122, 0, none⟩ = some (.int .i64 0) := (blk_cell BK122.out 0).trans rfl; have hcz16_1 : w14.cell? ⟨gb122, 1, none⟩ = some (.int .i64 0) := (blk_cell BK122.out 1).trans rfl; have hcz16_2 : w14.cell? ⟨gb122, 2, none⟩ = some (.bool false) := (blk_cell BK122.out 2).trans rfl; have hfz16_0 := blk_frozen BK122.out 0; have hfz16_1 := blk_frozen BK122.out 1; have hfz16_2 := blk_frozen BK122.out 2) | ((with_reducible refine gate_callee (f := 55) rfl ?_); refine goesL_ (some 21) rfl rfl Tryd.func55 (by kernel_rfl) rfl #[.int .i64 x13_1, .agg #[.int .i64 ((rd_T46 l0_0 x13_1).f0), .int .i64 ((rd_T46 l0_0 x13_1).f1), .bool ((rd_T46 l0_0 x13_1).f2)], .int .i64 x4_1] rfl (by (try simp only [List.map_toArray, List.map_cons, List.map_nil]); first | done | rfl | (simp only [List.length_drop, List.length_take]; rfl)) ?_; (with_reducible refine (leap_wrong.calls k1 x13_1 ((rd_T46 l0_0 x13_1).f0) ((rd_T46 l0_0 x13_1).f1) ((rd_T46 l0_0 x13_1).f2) x4_1 t123 _ A7.out).mono ?_); rintro e w17 ⟨rfl, hb⟩; refine ⟨_, rfl, ?_⟩; have n0_ := Aside0.mk (blk_below (g := gb120) (o := .cells #[.slice (some ad121) l0_0.length c0_0, .bool a0_1, .int .i64 a0_2] 24 (0, 0)) (by (with_reducible repeat (first | refine blk_drewN ?_ _ | refine blk_drew ?_ | refine blk_alloc ?_ _)); refine blk_far ?_ NB120_122.out _; (with_reducible repeat (first | refine blk_drewN ?_ _ | refine blk_drew ?_ | refine blk_alloc ?_ _)); refine blk_far ?_ NB120_122.out _; (with_reducible repeat (first | refine blk_drewN ?_ _ | refine blk_drew ?_ | refine blk_alloc ?_ _)); refine blk_far ?_ NB120_122.out _; (with_reducible repeat (first | refine blk_drewN ?_ _ | refine blk_drew ?_ | refine blk_alloc ?_ _)); exact BK120.out) hb); have n1_ := Aside0.mk (blk_below (g := gb122) (o := .cells #[.int .i64 ((rd_T46 l0_0 x13_1).f0), .int .i64 ((rd_T46 l0_0 x13_1).f1), .bool ((rd_T46 l0_0 x13_1).f2)] 46 (0, 0)) (by (with_reducible repeat (first | refine blk_drewN ?_ _ | refine blk_drew ?_ | refine blk_alloc ?_ _)); refine blk_put (cs := #[.int .i64 ((rd_T46 l0_0 x13_1).f0), .int .i64 ((rd_T46 l0_0 x13_1).f1), .bool false]) ?_ 2 _ rfl; (with_reducible repeat (first | refine blk_drewN ?_ _ | refine blk_drew ?_ | refine blk_alloc ?_ _)); refine blk_put (cs := #[.int .i64 ((rd_T46 l0_0 x13_1).f0), .int .i64 0, .bool false]) ?_ 1 _ rfl; (with_reducible repeat (first | refine blk_drewN ?_ _ | refine blk_drew ?_ | refine blk_alloc ?_ _)); refine blk_put (cs := #[.int .i64 0, .int .i64 0, .bool false]) ?_ 0 _ rfl; (with_reducible repeat (first | refine blk_drewN ?_ _ | refine blk_drew ?_ | refine blk_alloc ?_ _)); exact BK122.out) hb); have n2_ := Aside0.mk (below_step (by repeat (first | (with_reducible first | exact HB.out | apply below_alloc | apply pw_below_drewN | apply below_drew1 | refine below_set ?_ GE120.out | refine below_set ?_ GE122.out) | exact HB.out)) hb); clear BK120; clear BK122; clear HB; have BK120 := n0_; have BK122 := n1_; have HB := n2_; clear n0_ n1_ n2_; (try clear hb); (try clear hb2); (try clear hk); (try clear hi)))
              go_ret2
              exact ⟨by first | rfl | (simp [errW_none, errW_some] <;> rfl) | (simp [*, errW_none, errW_some] <;> rfl), by repeat (first | (with_reducible first | exact HB.out | apply below_alloc | apply pw_below_drewN | apply below_drew1 | refine below_set ?_ GE120.out | refine below_set ?_ GE122.out) | exact HB.out)⟩
          · rw [if_neg c6] at H
            exact absurd H (by simp)
        · rw [if_neg c5] at H
          exact absurd H (by simp)
      · rw [if_neg c4] at H
        have c4b0 : decide (x13_1 < (l0_0.length : Int)) = false := decide_eq_false c4
        clear c4
        by_cases c18 : a0_1 = true
        · subst c18
          have H1 : (if a0_2 < (mx (wrap64 ((wrap64 (x4_1 + 1)) * 86400)) 63072000) then (some ((l0_0.length : Int), 9)) else (if a0_2 > 253402300799 then (some ((l0_0.length : Int), 9)) else (some ((l0_0.length : Int), 0)))) = some (r1, r2) := by rw [if_pos rfl] at H; exact H
          clear H
          have H := H1
          clear H1
          obtain ⟨ji19, hji19⟩ : ∃ j_ : Int, (mx (wrap64 ((wrap64 (x4_1 + 1)) * 86400)) 63072000) = j_ := ⟨_, rfl⟩
          replace H : (if a0_2 < (ji19) then (some ((l0_0.length : Int), 9)) else (if a0_2 > 253402300799 then (some ((l0_0.length : Int), 9)) else (some ((l0_0.length : Int), 0)))) = some (r1, r2) := by first | (rw [hji19] at H; exact H) | (simp only [hji19] at H ⊢; exact H)
          have hji19_ : (if (wrap64 ((wrap64 (x4_1 + 1)) * 86400)) < 63072000 then 63072000 else (wrap64 ((wrap64 (x4_1 + 1)) * 86400))) = ji19 := hji19
          by_cases c20 : a0_2 < (ji19)
          · rw [if_pos c20] at H
            have c20b0 : decide (a0_2 < (ji19)) = true := decide_eq_true c20
            clear c20
            simp only [Option.some.injEq, Prod.mk.injEq] at H
            obtain ⟨rfl, rfl⟩ := H
            have hcz21_0 : wr.cell? ⟨gb120, 0, none⟩ = some (.slice A0_0 l0_0.length c0_0) := (blk_cell BK120.out 0).trans rfl
            have hcz21_1 : wr.cell? ⟨gb120, 1, none⟩ = some (.bool true) := (blk_cell BK120.out 1).trans rfl
            have hcz21_2 : wr.cell? ⟨gb120, 2, none⟩ = some (.int .i64 a0_2) := (blk_cell BK120.out 2).trans rfl
            have hfz21_0 := blk_frozen BK120.out 0
            have hfz21_1 := blk_frozen BK120.out 1
            have hfz21_2 := blk_frozen BK120.out 2
            go_wp2
            go_ret2
            exact ⟨by first | rfl | (simp [errW_none, errW_some] <;> rfl) | (simp only [← hji19]; first | rfl | (simp [errW_none, errW_some] <;> rfl)) | (simp [*, errW_none, errW_some] <;> rfl), by repeat (first | (with_reducible first | exact HB.out | apply below_alloc | apply pw_below_drewN | apply below_drew1 | refine below_set ?_ GE120.out) | exact HB.out)⟩
          · rw [if_neg c20] at H
            have c20b0 : decide (a0_2 < (ji19)) = false := decide_eq_false c20
            clear c20
            by_cases c22 : a0_2 > 253402300799
            · rw [if_pos c22] at H
              have c22b0 : decide (253402300799 < a0_2) = true := decide_eq_true c22
              clear c22
              simp only [Option.some.injEq, Prod.mk.injEq] at H
              obtain ⟨rfl, rfl⟩ := H
              have hcz23_0 : wr.cell? ⟨gb120, 0, none⟩ = some (.slice A0_0 l0_0.length c0_0) := (blk_cell BK120.out 0).trans rfl
              have hcz23_1 : wr.cell? ⟨gb120, 1, none⟩ = some (.bool true) := (blk_cell BK120.out 1).trans rfl
              have hcz23_2 : wr.cell? ⟨gb120, 2, none⟩ = some (.int .i64 a0_2) := (blk_cell BK120.out 2).trans rfl
              have hfz23_0 := blk_frozen BK120.out 0
              have hfz23_1 := blk_frozen BK120.out 1
              have hfz23_2 := blk_frozen BK120.out 2
              go_wp2
              go_ret2
              exact ⟨by first | rfl | (simp [errW_none, errW_some] <;> rfl) | (simp only [← hji19]; first | rfl | (simp [errW_none, errW_some] <;> rfl)) | (simp [*, errW_none, errW_some] <;> rfl), by repeat (first | (with_reducible first | exact HB.out | apply below_alloc | apply pw_below_drewN | apply below_drew1 | refine below_set ?_ GE120.out) | exact HB.out)⟩
            · rw [if_neg c22] at H
              have c22b0 : decide (253402300799 < a0_2) = false := decide_eq_false c22
              clear c22
              simp only [Option.some.injEq, Prod.mk.injEq] at H
              obtain ⟨rfl, rfl⟩ := H
              have hcz24_0 : wr.cell? ⟨gb120, 0, none⟩ = some (.slice A0_0 l0_0.length c0_0) := (blk_cell BK120.out 0).trans rfl
              have hcz24_1 : wr.cell? ⟨gb120, 1, none⟩ = some (.bool true) := (blk_cell BK120.out 1).trans rfl
              have hcz24_2 : wr.cell? ⟨gb120, 2, none⟩ = some (.int .i64 a0_2) := (blk_cell BK120.out 2).trans rfl
              have hfz24_0 := blk_frozen BK120.out 0
              have hfz24_1 := blk_frozen BK120.out 1
              have hfz24_2 := blk_frozen BK120.out 2
              go_wp2
              go_ret2
              exact ⟨by first | rfl | (simp [errW_none, errW_some] <;> rfl) | (simp only [← hji19]; first | rfl | (simp [errW_none, errW_some] <;> rfl)) | (simp [*, errW_none, errW_some] <;> rfl), by repeat (first | (with_reducible first | exact HB.out | apply below_alloc | apply pw_below_drewN | apply below_drew1 | refine below_set ?_ GE120.out) | exact HB.out)⟩
        · replace c18 := Bool.eq_false_iff.mpr c18
          subst c18
          have H1 : (if a0_2 < 0 then (some ((l0_0.length : Int), 9)) else (if a0_2 > 0 then (some ((l0_0.length : Int), 9)) else (some ((l0_0.length : Int), 0)))) = some (r1, r2) := by rw [if_neg (show ¬ (false = true) by decide)] at H; exact H
          clear H
          have H := H1
          clear H1
          by_cases c25 : a0_2 < 0
          · rw [if_pos c25] at H
            have c25b0 : decide (a0_2 < 0) = true := decide_eq_true c25
            clear c25
            simp only [Option.some.injEq, Prod.mk.injEq] at H
            obtain ⟨rfl, rfl⟩ := H
            have hcz26_0 : wr.cell? ⟨gb120, 0, none⟩ = some (.slice A0_0 l0_0.length c0_0) := (blk_cell BK120.out 0).trans rfl
            have hcz26_1 : wr.cell? ⟨gb120, 1, none⟩ = some (.bool false) := (blk_cell BK120.out 1).trans rfl
            have hcz26_2 : wr.cell? ⟨gb120, 2, none⟩ = some (.int .i64 a0_2) := (blk_cell BK120.out 2).trans rfl
            have hfz26_0 := blk_frozen BK120.out 0
            have hfz26_1 := blk_frozen BK120.out 1
            have hfz26_2 := blk_frozen BK120.out 2
            go_wp2
            go_ret2
            exact ⟨by first | rfl | (simp [errW_none, errW_some] <;> rfl) | (simp [*, errW_none, errW_some] <;> rfl), by repeat (first | (with_reducible first | exact HB.out | apply below_alloc | apply pw_below_drewN | apply below_drew1 | refine below_set ?_ GE120.out) | exact HB.out)⟩
          · rw [if_neg c25] at H
            have c25b0 : decide (a0_2 < 0) = false := decide_eq_false c25
            clear c25
            by_cases c27 : a0_2 > 0
            · rw [if_pos c27] at H
              have c27b0 : decide (0 < a0_2) = true := decide_eq_true c27
              clear c27
              simp only [Option.some.injEq, Prod.mk.injEq] at H
              obtain ⟨rfl, rfl⟩ := H
              have hcz28_0 : wr.cell? ⟨gb120, 0, none⟩ = some (.slice A0_0 l0_0.length c0_0) := (blk_cell BK120.out 0).trans rfl
              have hcz28_1 : wr.cell? ⟨gb120, 1, none⟩ = some (.bool false) := (blk_cell BK120.out 1).trans rfl
              have hcz28_2 : wr.cell? ⟨gb120, 2, none⟩ = some (.int .i64 a0_2) := (blk_cell BK120.out 2).trans rfl
              have hfz28_0 := blk_frozen BK120.out 0
              have hfz28_1 := blk_frozen BK120.out 1
              have hfz28_2 := blk_frozen BK120.out 2
              go_wp2
              go_ret2
              exact ⟨by first | rfl | (simp [errW_none, errW_some] <;> rfl) | (simp [*, errW_none, errW_some] <;> rfl), by repeat (first | (with_reducible first | exact HB.out | apply below_alloc | apply pw_below_drewN | apply below_drew1 | refine below_set ?_ GE120.out) | exact HB.out)⟩
            · rw [if_neg c27] at H
              have c27b0 : decide (0 < a0_2) = false := decide_eq_false c27
              clear c27
              simp only [Option.some.injEq, Prod.mk.injEq] at H
              obtain ⟨rfl, rfl⟩ := H
              have hcz29_0 : wr.cell? ⟨gb120, 0, none⟩ = some (.slice A0_0 l0_0.length c0_0) := (blk_cell BK120.out 0).trans rfl
              have hcz29_1 : wr.cell? ⟨gb120, 1, none⟩ = some (.bool false) := (blk_cell BK120.out 1).trans rfl
              have hcz29_2 : wr.cell? ⟨gb120, 2, none⟩ = some (.int .i64 a0_2) := (blk_cell BK120.out 2).trans rfl
              have hfz29_0 := blk_frozen BK120.out 0
              have hfz29_1 := blk_frozen BK120.out 1
              have hfz29_2 := blk_frozen BK120.out 2
              go_wp2
              go_ret2
              exact ⟨by first | rfl | (simp [errW_none, errW_some] <;> rfl) | (simp [*, errW_none, errW_some] <;> rfl), by repeat (first | (with_reducible first | exact HB.out | apply below_alloc | apply pw_below_drewN | apply below_drew1 | refine below_set ?_ GE120.out) | exact HB.out)⟩
def leap_Right.f (k : Nat) (l0_0 : List (S46)) (a0_1 : Bool) (a0_2 : Int) : Option (Bool) := (leap_Check.f k l0_0 a0_1 a0_2).bind fun bt125 => (some (bt125.2 == 0))
theorem leap_Right.mono : ∀ a0 a1 a2 k, LeO (leap_Right.f k a0 a1 a2) (leap_Right.f (k + 1) a0 a1 a2) := by
  intro a0 a1 a2 k
  unfold leap_Right.f
  repeat' first
      | (with_reducible exact leap_Check.mono _ _ _ _)
      | (with_reducible exact LeO.refl _)
      | (with_reducible exact LeO.none _)
      | (with_reducible refine LeO.ite ?_ ?_)
      | (with_reducible refine LeO.bind ?_ (fun _ => ?_))
      | exact leap_Check.mono _ _ _ _
      | exact LeO.none _
      | refine LeO.ite ?_ ?_
      | refine LeO.bind ?_ (fun _ => ?_)
set_option maxHeartbeats 8000000 in
set_option maxRecDepth 100000 in
theorem leap_Right.calls (k : Nat) (A0_0 : Option Addr) (c0_0 : Nat) (l0_0 : List (S46)) (a0_1 : Bool) (a0_2 : Int) (r : Bool) (w : World) (hr0_0 : Kd.C k46 w A0_0 l0_0.length l0_0) (hc0_0 : l0_0.length ≤ c0_0) (h : leap_Right.f k l0_0 a0_1 a0_2 = some r) :
    Calls Tryd.prog 14 #[.agg #[.slice A0_0 l0_0.length c0_0, .bool a0_1, .int .i64 a0_2]] w fun e w' => e = .returned (.bool r) ∧ Below w.heap.size w w' := by
  have hu24 := Tryd.underlying24
  have HR0_0 := Aside0.mk hr0_0
  have HC0_0 := Aside0.mk hc0_0
  clear hr0_0 hc0_0
  have HB := Aside0.mk (Below.refl w.heap.size w)
  have H : ((leap_Check.f k l0_0 a0_1 a0_2).bind fun bt125 => (some (bt125.2 == 0))) = some r := h
  clear h
  replace H := Option.bind_eq_some_iff.mp H
  obtain ⟨⟨t125, t126⟩, A20, H⟩ := H
  replace H : (some (t126 == 0)) = some r := H
  have A2 := Aside0.mk A20
  clear A20
  obtain rfl := Option.some.inj H
  go_enter Tryd.func14, Tryd.ntmps14
  go_wp2_with (first | ((with_reducible refine gate_dst (N := 1) rfl ?_); refine box_event ?hg (N := 1) ?hd (cs := #[.slice A0_0 l0_0.length c0_0, .bool a0_1, .int .i64 a0_2]) (t := 24) ?hr ?_; (case hd => rfl); (case hg => rfl); (case hr => first | (go_simp; done) | (go_simp; rfl)); intro gb124 hg w3 hbox hb; have n0_ := Aside0.mk (below_step (by repeat (first | (with_reducible first | exact HB.out | apply below_alloc | apply pw_below_drewN | apply below_drew1) | exact HB.out)) hb); have n1_ := Aside0.mk (hbox); have n2_ := Aside0.mk ((by rw [hg]; exact (below_size (by repeat (first | (with_reducible first | exact HB.out | apply below_alloc | apply pw_below_drewN | apply below_drew1) | exact HB.out))) : w.heap.size ≤ gb124)); have n3_ := Aside0.mk ((by rw [hg]; exact (below_size (by repeat (first | (with_reducible first | exact HB.out | apply below_alloc | apply pw_below_drewN | apply below_drew1) | exact HB.out))) : w.heap.size ≤ gb124)); clear HB; have HB := n0_; have BK124 := n1_; have GW124 := n2_; have GE124 := n3_; clear n0_ n1_ n2_ n3_; clear hb hbox hg; have hcz4_0 : w3.cell? ⟨gb124, 0, none⟩ = some (.slice A0_0 l0_0.length c0_0) := (blk_cell BK124.out 0).trans rfl; have hcz4_1 : w3.cell? ⟨gb124, 1, none⟩ = some (.bool a0_1) := (blk_cell BK124.out 1).trans rfl; have hcz4_2 : w3.cell? ⟨gb124, 2, none⟩ = some (.int .i64 a0_2) := (blk_cell BK124.out 2).trans rfl; have hfz4_0 := blk_frozen BK124.out 0; have hfz4_1 := blk_frozen BK124.out 1; have hfz4_2 := blk_frozen BK124.out 2) | ((with_reducible refine gate_callee (f := 30) rfl ?_); refine goesL_ (some 7) rfl rfl Tryd.func30 (by kernel_rfl) rfl #[.agg #[.slice A0_0 l0_0.length c0_0, .bool a0_1, .int .i64 a0_2]] rfl (by (try simp only [List.map_toArray, List.map_cons, List.map_nil]); first | done | rfl | (simp only [List.length_drop, List.length_take]; rfl)) ?_; (with_reducible refine (leap_Check.calls k _ _ l0_0 a0_1 a0_2 t125 t126 _ ?side1 ?side2 A2.out).mono ?_); (case side1 => repeat (first | exact (Kd.C_below HR0_0.out HB.out) | (with_reducible refine Kd.C_alloc ?_ _) | (with_reducible refine Kd.C_drewN ?_ _) | (with_reducible refine Kd.C_drew ?_))); (case side2 => exact HC0_0.out); rintro e w5 ⟨rfl, hb⟩; refine ⟨_, rfl, ?_⟩; have n0_ := Aside0.mk (blk_below (g := gb124) (o := .cells #[.slice A0_0 l0_0.length c0_0, .bool a0_1, .int .i64 a0_2] 24 (0, 0)) (by (with_reducible repeat (first | refine blk_drewN ?_ _ | refine blk_drew ?_ | refine blk_alloc ?_ _)); exact BK124.out) hb); have n1_ := Aside0.mk (below_step (by repeat (first | (with_reducible first | exact HB.out | apply below_alloc | apply pw_below_drewN | apply below_drew1 | refine below_set ?_ GE124.out) | exact HB.out)) hb); clear BK124; clear HB; have BK124 := n0_; have HB := n1_; clear n0_ n1_; (try clear hb); (try clear hb2); (try clear hk); (try clear hi)))
  go_ret
  exact ⟨by first | rfl | (simp [errW_none, errW_some] <;> rfl) | (simp [*, errW_none, errW_some] <;> rfl), by repeat (first | (with_reducible first | exact HB.out | apply below_alloc | apply pw_below_drewN | apply below_drew1 | refine below_set ?_ GE124.out) | exact HB.out)⟩
def zic_date.f (a0 : Int) (l1 : List ByteArray) : Option (Int × Int × Int × Int × Int × ByteArray × Bool × Bool) := if 1 < (l1.length : Int) then ((lines_Number.f (rdOf ByteArray.empty l1 1)).bind fun bt129 => (if 2 < (l1.length : Int) then ((zic_Month.f (rdOf ByteArray.empty l1 2)).bind fun bt132 => (if 3 < (l1.length : Int) then ((lines_Number.f (rdOf ByteArray.empty l1 3)).bind fun bt135 => (if 4 < (l1.length : Int) then ((zic_Clock.f (rdOf ByteArray.empty l1 4)).bind fun bt138 => (if bt129.2 = true then (if bt132.2 = true then (if bt135.2 = true then (some (a0, bt129.1, bt132.1, bt135.1, bt138.1, (⟨#[]⟩ : ByteArray), false, bt138.2)) else (some (a0, bt129.1, bt132.1, bt135.1, bt138.1, (⟨#[]⟩ : ByteArray), false, false))) else (some (a0, bt129.1, bt132.1, bt135.1, bt138.1, (⟨#[]⟩ : ByteArray), false, false))) else (some (a0, bt129.1, bt132.1, bt135.1, bt138.1, (⟨#[]⟩ : ByteArray), false, false)))) else (none))) else (none))) else (none))) else (none)
set_option maxHeartbeats 8000000 in
set_option maxRecDepth 100000 in
theorem zic_date.calls (a0 : Int) (A1 : Option Addr) (c1 : Nat) (l1 : List ByteArray) (r1 : Int) (r2 : Int) (r3 : Int) (r4 : Int) (r5 : Int) (r6 : ByteArray) (r7 : Bool) (r8 : Bool) (w : World) (hr1 : Kd.C Kd.string w A1 l1.length l1) (hc1 : l1.length ≤ c1) (h : zic_date.f a0 l1 = some (r1, r2, r3, r4, r5, r6, r7, r8)) :
    Calls Tryd.prog 77 #[.int .i64 a0, .slice A1 l1.length c1] w fun e w' => e = .returned (.tuple #[.agg #[.int .i64 r1, .int .i64 r2, .int .i64 r3, .int .i64 r4, .int .i64 r5, .string r6, .bool r7], .bool r8]) ∧ Below w.heap.size w w' := by
  have hu98 := Tryd.underlying98
  have HR1 := Aside0.mk hr1
  have HC1 := Aside0.mk hc1
  clear hr1 hc1
  have HB := Aside0.mk (Below.refl w.heap.size w)
  have H : (if 1 < (l1.length : Int) then ((lines_Number.f (rdOf ByteArray.empty l1 1)).bind fun bt129 => (if 2 < (l1.length : Int) then ((zic_Month.f (rdOf ByteArray.empty l1 2)).bind fun bt132 => (if 3 < (l1.length : Int) then ((lines_Number.f (rdOf ByteArray.empty l1 3)).bind fun bt135 => (if 4 < (l1.length : Int) then ((zic_Clock.f (rdOf ByteArray.empty l1 4)).bind fun bt138 => (if bt129.2 = true then (if bt132.2 = true then (if bt135.2 = true then (some (a0, bt129.1, bt132.1, bt135.1, bt138.1, (⟨#[]⟩ : ByteArray), false, bt138.2)) else (some (a0, bt129.1, bt132.1, bt135.1, bt138.1, (⟨#[]⟩ : ByteArray), false, false))) else (some (a0, bt129.1, bt132.1, bt135.1, bt138.1, (⟨#[]⟩ : ByteArray), false, false))) else (some (a0, bt129.1, bt132.1, bt135.1, bt138.1, (⟨#[]⟩ : ByteArray), false, false)))) else (none))) else (none))) else (none))) else (none)) = some (r1, r2, r3, r4, r5, r6, r7, r8) := h
  clear h
  by_cases c3 : 1 < (l1.length : Int)
  · rw [if_pos c3] at H
    have c3b0 : decide (1 < (l1.length : Int)) = true := decide_eq_true c3
    have c3b1 : decide (1 < l1.length) = true := decide_eq_true (by omega)
    clear c3
    replace H := Option.bind_eq_some_iff.mp H
    obtain ⟨⟨t129, t130⟩, A40, H⟩ := H
    replace H : (if 2 < (l1.length : Int) then ((zic_Month.f (rdOf ByteArray.empty l1 2)).bind fun bt132 => (if 3 < (l1.length : Int) then ((lines_Number.f (rdOf ByteArray.empty l1 3)).bind fun bt135 => (if 4 < (l1.length : Int) then ((zic_Clock.f (rdOf ByteArray.empty l1 4)).bind fun bt138 => (if t130 = true then (if bt132.2 = true then (if bt135.2 = true then (some (a0, t129, bt132.1, bt135.1, bt138.1, (⟨#[]⟩ : ByteArray), false, bt138.2)) else (some (a0, t129, bt132.1, bt135.1, bt138.1, (⟨#[]⟩ : ByteArray), false, false))) else (some (a0, t129, bt132.1, bt135.1, bt138.1, (⟨#[]⟩ : ByteArray), false, false))) else (some (a0, t129, bt132.1, bt135.1, bt138.1, (⟨#[]⟩ : ByteArray), false, false)))) else (none))) else (none))) else (none)) = some (r1, r2, r3, r4, r5, r6, r7, r8) := H
    have A4 := Aside0.mk A40
    clear A40
    by_cases c5 : 2 < (l1.length : Int)
    · rw [if_pos c5] at H
      have c5b0 : decide (2 < (l1.length : Int)) = true := decide_eq_true c5
      have c5b1 : decide (2 < l1.length) = true := decide_eq_true (by omega)
      clear c5
      replace H := Option.bind_eq_some_iff.mp H
      obtain ⟨⟨t132, t133⟩, A60, H⟩ := H
      replace H : (if 3 < (l1.length : Int) then ((lines_Number.f (rdOf ByteArray.empty l1 3)).bind fun bt135 => (if 4 < (l1.length : Int) then ((zic_Clock.f (rdOf ByteArray.empty l1 4)).bind fun bt138 => (if t130 = true then (if t133 = true then (if bt135.2 = true then (some (a0, t129, t132, bt135.1, bt138.1, (⟨#[]⟩ : ByteArray), false, bt138.2)) else (some (a0, t129, t132, bt135.1, bt138.1, (⟨#[]⟩ : ByteArray), false, false))) else (some (a0, t129, t132, bt135.1, bt138.1, (⟨#[]⟩ : ByteArray), false, false))) else (some (a0, t129, t132, bt135.1, bt138.1, (⟨#[]⟩ : ByteArray), false, false)))) else (none))) else (none)) = some (r1, r2, r3, r4, r5, r6, r7, r8) := H
      have A6 := Aside0.mk A60
      clear A60
      by_cases c7 : 3 < (l1.length : Int)
      · rw [if_pos c7] at H
        have c7b0 : decide (3 < (l1.length : Int)) = true := decide_eq_true c7
        have c7b1 : decide (3 < l1.length) = true := decide_eq_true (by omega)
        clear c7
        replace H := Option.bind_eq_some_iff.mp H
        obtain ⟨⟨t135, t136⟩, A80, H⟩ := H
        replace H : (if 4 < (l1.length : Int) then ((zic_Clock.f (rdOf ByteArray.empty l1 4)).bind fun bt138 => (if t130 = true then (if t133 = true then (if t136 = true then (some (a0, t129, t132, t135, bt138.1, (⟨#[]⟩ : ByteArray), false, bt138.2)) else (some (a0, t129, t132, t135, bt138.1, (⟨#[]⟩ : ByteArray), false, false))) else (some (a0, t129, t132, t135, bt138.1, (⟨#[]⟩ : ByteArray), false, false))) else (some (a0, t129, t132, t135, bt138.1, (⟨#[]⟩ : ByteArray), false, false)))) else (none)) = some (r1, r2, r3, r4, r5, r6, r7, r8) := H
        have A8 := Aside0.mk A80
        clear A80
        by_cases c9 : 4 < (l1.length : Int)
        · rw [if_pos c9] at H
          have c9b0 : decide (4 < (l1.length : Int)) = true := decide_eq_true c9
          have c9b1 : decide (4 < l1.length) = true := decide_eq_true (by omega)
          clear c9
          replace H := Option.bind_eq_some_iff.mp H
          obtain ⟨⟨t138, t139⟩, A100, H⟩ := H
          replace H : (if t130 = true then (if t133 = true then (if t136 = true then (some (a0, t129, t132, t135, t138, (⟨#[]⟩ : ByteArray), false, t139)) else (some (a0, t129, t132, t135, t138, (⟨#[]⟩ : ByteArray), false, false))) else (some (a0, t129, t132, t135, t138, (⟨#[]⟩ : ByteArray), false, false))) else (some (a0, t129, t132, t135, t138, (⟨#[]⟩ : ByteArray), false, false))) = some (r1, r2, r3, r4, r5, r6, r7, r8) := H
          have A10 := Aside0.mk A100
          clear A100
          by_cases c11 : t130 = true
          · subst c11
            have H1 : (if t133 = true then (if t136 = true then (some (a0, t129, t132, t135, t138, (⟨#[]⟩ : ByteArray), false, t139)) else (some (a0, t129, t132, t135, t138, (⟨#[]⟩ : ByteArray), false, false))) else (some (a0, t129, t132, t135, t138, (⟨#[]⟩ : ByteArray), false, false))) = some (r1, r2, r3, r4, r5, r6, r7, r8) := by rw [if_pos rfl] at H; exact H
            clear H
            have H := H1
            clear H1
            by_cases c12 : t133 = true
            · subst c12
              have H1 : (if t136 = true then (some (a0, t129, t132, t135, t138, (⟨#[]⟩ : ByteArray), false, t139)) else (some (a0, t129, t132, t135, t138, (⟨#[]⟩ : ByteArray), false, false))) = some (r1, r2, r3, r4, r5, r6, r7, r8) := by rw [if_pos rfl] at H; exact H
              clear H
              have H := H1
              clear H1
              by_cases c13 : t136 = true
              · subst c13
                have H1 : (some (a0, t129, t132, t135, t138, (⟨#[]⟩ : ByteArray), false, t139)) = some (r1, r2, r3, r4, r5, r6, r7, r8) := by rw [if_pos rfl] at H; exact H
                clear H
                have H := H1
                clear H1
                simp only [Option.some.injEq, Prod.mk.injEq] at H
                obtain ⟨rfl, rfl, rfl, rfl, rfl, rfl, rfl, rfl⟩ := H
                go_enter Tryd.func77, Tryd.ntmps77
                go_wp2_with (first | ((with_reducible refine gate_dst (N := 4) rfl ?_); refine box_event ?hg (N := 4) ?hd (cs := #[.int .i64 0, .int .i64 0, .int .i64 0, .int .i64 0, .int .i64 0, .string (⟨#[]⟩ : ByteArray), .bool false]) (t := 98) ?hr ?_; (case hd => rfl); (case hg => rfl); (case hr => first | (go_simp; done) | (go_simp; rfl)); intro gb127 hg w14 hbox hb; have n0_ := Aside0.mk (below_step (by repeat (first | (with_reducible first | exact HB.out | apply below_alloc | apply pw_below_drewN | apply below_drew1) | exact HB.out)) hb); have n1_ := Aside0.mk (hbox); have n2_ := Aside0.mk ((by rw [hg]; exact (below_size (by repeat (first | (with_reducible first | exact HB.out | apply below_alloc | apply pw_below_drewN | apply below_drew1) | exact HB.out))) : w.heap.size ≤ gb127)); have n3_ := Aside0.mk ((by rw [hg]; exact (below_size (by repeat (first | (with_reducible first | exact HB.out | apply below_alloc | apply pw_below_drewN | apply below_drew1) | exact HB.out))) : w.heap.size ≤ gb127)); clear HB; have HB := n0_; have BK127 := n1_; have GW127 := n2_; have GE127 := n3_; clear n0_ n1_ n2_ n3_; clear hb hbox hg; have p128 : 0 ≤ (1 : Int) := (by omega); have q128 : 1 < (l1.length : Int) := of_decide_eq_true (by first | (with_reducible assumption) | assumption); obtain ⟨ad128, e128, hx128_0⟩ := Kd.at_string HR1.out 1 p128 q128; cases e128; (try simp only [show (1 : Int).toNat = 1 from rfl, Nat.reduceMul, Nat.reduceEqDiff, Go.Addr.add, ↓reduceIte] at hx128_0); have qi128 : (1 < l1.length) = True := eq_true (by omega); (try rw [show ((1 : Int)).toNat = 1 from rfl] at hx128_0); replace hx128_0 := (HB.out.cell (World.block_lt_of_cell? w _ hx128_0)).trans hx128_0; replace p128 := eq_true p128; replace q128 := eq_true q128) | ((with_reducible refine gate_callee (f := 50) rfl ?_); refine goesL_ (some 18) rfl rfl Tryd.func50 (by kernel_rfl) rfl #[.string (rdOf ByteArray.empty l1 1)] rfl (by (try simp only [List.map_toArray, List.map_cons, List.map_nil]); first | done | rfl | (simp only [List.length_drop, List.length_take]; rfl)) ?_; (with_reducible refine (lines_Number.calls (rdOf ByteArray.empty l1 1) t129 true _ A4.out).mono ?_); rintro e w15 ⟨rfl, hb⟩; refine ⟨_, rfl, ?_⟩; have n0_ := Aside0.mk (blk_below (g := gb127) (o := .cells #[.int .i64 0, .int .i64 0, .int .i64 0, .int .i64 0, .int .i64 0, .string (⟨#[]⟩ : ByteArray), .bool false] 98 (0, 0)) (by (with_reducible repeat (first | refine blk_drewN ?_ _ | refine blk_drew ?_ | refine blk_alloc ?_ _)); exact BK127.out) hb); have n1_ := Aside0.mk (below_step (by repeat (first | (with_reducible first | exact HB.out | apply below_alloc | apply pw_below_drewN | apply below_drew1 | refine below_set ?_ GE127.out) | exact HB.out)) hb); clear BK127; clear HB; have BK127 := n0_; have HB := n1_; clear n0_ n1_; (try clear hb); (try clear hb2); (try clear hk); (try clear hi); have p131 : 0 ≤ (2 : Int) := (by omega); have q131 : 2 < (l1.length : Int) := of_decide_eq_true (by first | (with_reducible assumption) | assumption); obtain ⟨ad131, e131, hx131_0⟩ := Kd.at_string HR1.out 2 p131 q131; obtain rfl : ad128 = ad131 := (by injection e131); (try simp only [show (2 : Int).toNat = 2 from rfl, Nat.reduceMul, Nat.reduceEqDiff, Go.Addr.add, ↓reduceIte] at hx131_0); have qi131 : (2 < l1.length) = True := eq_true (by omega); (try rw [show ((2 : Int)).toNat = 2 from rfl] at hx131_0); replace hx131_0 := (HB.out.cell (World.block_lt_of_cell? w _ hx131_0)).trans hx131_0; replace p131 := eq_true p131; replace q131 := eq_true q131) | ((with_reducible refine gate_callee (f := 20) rfl ?_); refine goesL_ (some 25) rfl rfl Tryd.func20 (by kernel_rfl) rfl #[.string (rdOf ByteArray.empty l1 2)] rfl (by (try simp only [List.map_toArray, List.map_cons, List.map_nil]); first | done | rfl | (simp only [List.length_drop, List.length_take]; rfl)) ?_; (with_reducible refine (zic_Month.calls (rdOf ByteArray.empty l1 2) t132 true _ A6.out).mono ?_); rintro e w16 ⟨rfl, hb⟩; refine ⟨_, rfl, ?_⟩; have n0_ := Aside0.mk (blk_below (g := gb127) (o := .cells #[.int .i64 0, .int .i64 0, .int .i64 0, .int .i64 0, .int .i64 0, .string (⟨#[]⟩ : ByteArray), .bool false] 98 (0, 0)) (by (with_reducible repeat (first | refine blk_drewN ?_ _ | refine blk_drew ?_ | refine blk_alloc ?_ _)); exact BK127.out) hb); have n1_ := Aside0.mk (below_step (by repeat (first | (with_reducible first | exact HB.out | apply below_alloc | apply pw_below_drewN | apply below_drew1 | refine below_set ?_ GE127.out) | exact HB.out)) hb); clear BK127; clear HB; have BK127 := n0_; have HB := n1_; clear n0_ n1_; (try clear hb); (try clear hb2); (try clear hk); (try clear hi); have p134 : 0 ≤ (3 : Int) := (by omega); have q134 : 3 < (l1.length : Int) := of_decide_eq_true (by first | (with_reducible assumption) | assumption); obtain ⟨ad134, e134, hx134_0⟩ := Kd.at_string HR1.out 3 p134 q134; obtain rfl : ad128 = ad134 := (by injection e134); (try simp only [show (3 : Int).toNat = 3 from rfl, Nat.reduceMul, Nat.reduceEqDiff, Go.Addr.add, ↓reduceIte] at hx134_0); have qi134 : (3 < l1.length) = True := eq_true (by omega); (try rw [show ((3 : Int)).toNat = 3 from rfl] at hx134_0); replace hx134_0 := (HB.out.cell (World.block_lt_of_cell? w _ hx134_0)).trans hx134_0; replace p134 := eq_true p134; replace q134 := eq_true q134) | ((with_reducible refine gate_callee (f := 50) rfl ?_); refine goesL_ (some 32) rfl rfl Tryd.func50 (by kernel_rfl) rfl #[.string (rdOf ByteArray.empty l1 3)] rfl (by (try simp only [List.map_toArray, List.map_cons, List.map_nil]); first | done | rfl | (simp only [List.length_drop, List.length_take]; rfl)) ?_; (with_reducible refine (lines_Number.calls (rdOf ByteArray.empty l1 3) t135 true _ A8.out).mono ?_); rintro e w17 ⟨rfl, hb⟩; refine ⟨_, rfl, ?_⟩; have n0_ := Aside0.mk (blk_below (g := gb127) (o := .cells #[.int .i64 0, .int .i64 0, .int .i64 0, .int .i64 0, .int .i64 0, .string (⟨#[]⟩ : ByteArray), .bool false] 98 (0, 0)) (by (with_reducible repeat (first | refine blk_drewN ?_ _ | refine blk_drew ?_ | refine blk_alloc ?_ _)); exact BK127.out) hb); have n1_ := Aside0.mk (below_step (by repeat (first | (with_reducible first | exact HB.out | apply below_alloc | apply pw_below_drewN | apply below_drew1 | refine below_set ?_ GE127.out) | exact HB.out)) hb); clear BK127; clear HB; have BK127 := n0_; have HB := n1_; clear n0_ n1_; (try clear hb); (try clear hb2); (try clear hk); (try clear hi); have p137 : 0 ≤ (4 : Int) := (by omega); have q137 : 4 < (l1.length : Int) := of_decide_eq_true (by first | (with_reducible assumption) | assumption); obtain ⟨ad137, e137, hx137_0⟩ := Kd.at_string HR1.out 4 p137 q137; obtain rfl : ad128 = ad137 := (by injection e137); (try simp only [show (4 : Int).toNat = 4 from rfl, Nat.reduceMul, Nat.reduceEqDiff, Go.Addr.add, ↓reduceIte] at hx137_0); have qi137 : (4 < l1.length) = True := eq_true (by omega); (try rw [show ((4 : Int)).toNat = 4 from rfl] at hx137_0); replace hx137_0 := (HB.out.cell (World.block_lt_of_cell? w _ hx137_0)).trans hx137_0; replace p137 := eq_true p137; replace q137 := eq_true q137) | ((with_reducible refine gate_callee (f := 27) rfl ?_); refine goesL_ (some 39) rfl rfl Tryd.func27 (by kernel_rfl) rfl #[.string (rdOf ByteArray.empty l1 4)] rfl (by (try simp only [List.map_toArray, List.map_cons, List.map_nil]); first | done | rfl | (simp only [List.length_drop, List.length_take]; rfl)) ?_; (with_reducible refine (zic_Clock.calls (rdOf ByteArray.empty l1 4) t138 t139 _ A10.out).mono ?_); rintro e w18 ⟨rfl, hb⟩; refine ⟨_, rfl, ?_⟩; have n0_ := Aside0.mk (blk_below (g := gb127) (o := .cells #[.int .i64 0, .int .i64 0, .int .i64 0, .int .i64 0, .int .i64 0, .string (⟨#[]⟩ : ByteArray), .bool false] 98 (0, 0)) (by (with_reducible repeat (first | refine blk_drewN ?_ _ | refine blk_drew ?_ | refine blk_alloc ?_ _)); exact BK127.out) hb); have n1_ := Aside0.mk (below_step (by repeat (first | (with_reducible first | exact HB.out | apply below_alloc | apply pw_below_drewN | apply below_drew1 | refine below_set ?_ GE127.out) | exact HB.out)) hb); clear BK127; clear HB; have BK127 := n0_; have HB := n1_; clear n0_ n1_; (try clear hb); (try clear hb2); (try clear hk); (try clear hi); have hcz19_0 : w18.cell? ⟨gb127, 0, none⟩ = some (.int .i64 0) := (blk_cell BK127.out 0).trans rfl; have hcz19_1 : w18.cell? ⟨gb127, 1, none⟩ = some (.int .i64 0) := (blk_cell BK127.out 1).trans rfl; have hcz19_2 : w18.cell? ⟨gb127, 2, none⟩ = some (.int .i64 0) := (blk_cell BK127.out 2).trans rfl; have hcz19_3 : w18.cell? ⟨gb127, 3, none⟩ = some (.int .i64 0) := (blk_cell BK127.out 3).trans rfl; have hcz19_4 : w18.cell? ⟨gb127, 4, none⟩ = some (.int .i64 0) := (blk_cell BK127.out 4).trans rfl; have hcz19_5 : w18.cell? ⟨gb127, 5, none⟩ = some (.string (⟨#[]⟩ : ByteArray)) := (blk_cell BK127.out 5).trans rfl; have hcz19_6 : w18.cell? ⟨gb127, 6, none⟩ = some (.bool false) := (blk_cell BK127.out 6).trans rfl; have hfz19_0 := blk_frozen BK127.out 0; have hfz19_1 := blk_frozen BK127.out 1; have hfz19_2 := blk_frozen BK127.out 2; have hfz19_3 := blk_frozen BK127.out 3; have hfz19_4 := blk_frozen BK127.out 4; have hfz19_5 := blk_frozen BK127.out 5; have hfz19_6 := blk_frozen BK127.out 6))
                refine bodyPost_ret (results_ct rfl _ _ gb127 98 #[.int .i64 a0, .int .i64 t129, .int .i64 t132, .int .i64 t135, .int .i64 t138, .string (⟨#[]⟩ : ByteArray), .bool false] (0, 0) _ rfl (by (with_reducible repeat (first | refine blk_drewN ?_ _ | refine blk_drew ?_ | refine blk_alloc ?_ _)); refine blk_put (cs := #[.int .i64 a0, .int .i64 t129, .int .i64 t132, .int .i64 t135, .int .i64 t138, .string (⟨#[]⟩ : ByteArray), .bool false]) ?_ 6 _ rfl; (with_reducible repeat (first | refine blk_drewN ?_ _ | refine blk_drew ?_ | refine blk_alloc ?_ _)); refine blk_put (cs := #[.int .i64 a0, .int .i64 t129, .int .i64 t132, .int .i64 t135, .int .i64 t138, .string (⟨#[]⟩ : ByteArray), .bool false]) ?_ 5 _ rfl; (with_reducible repeat (first | refine blk_drewN ?_ _ | refine blk_drew ?_ | refine blk_alloc ?_ _)); refine blk_put (cs := #[.int .i64 a0, .int .i64 t129, .int .i64 t132, .int .i64 t135, .int .i64 0, .string (⟨#[]⟩ : ByteArray), .bool false]) ?_ 4 _ rfl; (with_reducible repeat (first | refine blk_drewN ?_ _ | refine blk_drew ?_ | refine blk_alloc ?_ _)); refine blk_put (cs := #[.int .i64 a0, .int .i64 t129, .int .i64 t132, .int .i64 0, .int .i64 0, .string (⟨#[]⟩ : ByteArray), .bool false]) ?_ 3 _ rfl; (with_reducible repeat (first | refine blk_drewN ?_ _ | refine blk_drew ?_ | refine blk_alloc ?_ _)); refine blk_put (cs := #[.int .i64 a0, .int .i64 t129, .int .i64 0, .int .i64 0, .int .i64 0, .string (⟨#[]⟩ : ByteArray), .bool false]) ?_ 2 _ rfl; (with_reducible repeat (first | refine blk_drewN ?_ _ | refine blk_drew ?_ | refine blk_alloc ?_ _)); refine blk_put (cs := #[.int .i64 a0, .int .i64 0, .int .i64 0, .int .i64 0, .int .i64 0, .string (⟨#[]⟩ : ByteArray), .bool false]) ?_ 1 _ rfl; (with_reducible repeat (first | refine blk_drewN ?_ _ | refine blk_drew ?_ | refine blk_alloc ?_ _)); refine blk_put (cs := #[.int .i64 0, .int .i64 0, .int .i64 0, .int .i64 0, .int .i64 0, .string (⟨#[]⟩ : ByteArray), .bool false]) ?_ 0 _ rfl; (with_reducible repeat (first | refine blk_drewN ?_ _ | refine blk_drew ?_ | refine blk_alloc ?_ _)); exact BK127.out) Tryd.underlying98 rfl (by kernel_rfl)) rfl ?_
                exact ⟨by first | rfl | (simp [errW_none, errW_some] <;> rfl) | (simp [*, errW_none, errW_some] <;> rfl), by repeat (first | (with_reducible first | exact HB.out | apply below_alloc | apply pw_below_drewN | apply below_drew1 | refine below_set ?_ GE127.out) | exact HB.out)⟩
              · replace c13 := Bool.eq_false_iff.mpr c13
                subst c13
                have H1 : (some (a0, t129, t132, t135, t138, (⟨#[]⟩ : ByteArray), false, false)) = some (r1, r2, r3, r4, r5, r6, r7, r8) := by rw [if_neg (show ¬ (false = true) by decide)] at H; exact H
                clear H
                have H := H1
                clear H1
                simp only [Option.some.injEq, Prod.mk.injEq] at H
                obtain ⟨rfl, rfl, rfl, rfl, rfl, rfl, rfl, rfl⟩ := H
                go_enter Tryd.func77, Tryd.ntmps77
                go_wp2_with (first | ((with_reducible refine gate_dst (N := 4) rfl ?_); refine box_event ?hg (N := 4) ?hd (cs := #[.int .i64 0, .int .i64 0, .int .i64 0, .int .i64 0, .int .i64 0, .string (⟨#[]⟩ : ByteArray), .bool false]) (t := 98) ?hr ?_; (case hd => rfl); (case hg => rfl); (case hr => first | (go_simp; done) | (go_simp; rfl)); intro gb127 hg w20 hbox hb; have n0_ := Aside0.mk (below_step (by repeat (first | (with_reducible first | exact HB.out | apply below_alloc | apply pw_below_drewN | apply below_drew1) | exact HB.out)) hb); have n1_ := Aside0.mk (hbox); have n2_ := Aside0.mk ((by rw [hg]; exact (below_size (by repeat (first | (with_reducible first | exact HB.out | apply below_alloc | apply pw_below_drewN | apply below_drew1) | exact HB.out))) : w.heap.size ≤ gb127)); have n3_ := Aside0.mk ((by rw [hg]; exact (below_size (by repeat (first | (with_reducible first | exact HB.out | apply below_alloc | apply pw_below_drewN | apply below_drew1) | exact HB.out))) : w.heap.size ≤ gb127)); clear HB; have HB := n0_; have BK127 := n1_; have GW127 := n2_; have GE127 := n3_; clear n0_ n1_ n2_ n3_; clear hb hbox hg; have p128 : 0 ≤ (1 : Int) := (by omega); have q128 : 1 < (l1.length : Int) := of_decide_eq_true (by first | (with_reducible assumption) | assumption); obtain ⟨ad128, e128, hx128_0⟩ := Kd.at_string HR1.out 1 p128 q128; cases e128; (try simp only [show (1 : Int).toNat = 1 from rfl, Nat.reduceMul, Nat.reduceEqDiff, Go.Addr.add, ↓reduceIte] at hx128_0); have qi128 : (1 < l1.length) = True := eq_true (by omega); (try rw [show ((1 : Int)).toNat = 1 from rfl] at hx128_0); replace hx128_0 := (HB.out.cell (World.block_lt_of_cell? w _ hx128_0)).trans hx128_0; replace p128 := eq_true p128; replace q128 := eq_true q128) | ((with_reducible refine gate_callee (f := 50) rfl ?_); refine goesL_ (some 18) rfl rfl Tryd.func50 (by kernel_rfl) rfl #[.string (rdOf ByteArray.empty l1 1)] rfl (by (try simp only [List.map_toArray, List.map_cons, List.map_nil]); first | done | rfl | (simp only [List.length_drop, List.length_take]; rfl)) ?_; (with_reducible refine (lines_Number.calls (rdOf ByteArray.empty l1 1) t129 true _ A4.out).mono ?_); rintro e w21 ⟨rfl, hb⟩; refine ⟨_, rfl, ?_⟩; have n0_ := Aside0.mk (blk_below (g := gb127) (o := .cells #[.int .i64 0, .int .i64 0, .int .i64 0, .int .i64 0, .int .i64 0, .string (⟨#[]⟩ : ByteArray), .bool false] 98 (0, 0)) (by (with_reducible repeat (first | refine blk_drewN ?_ _ | refine blk_drew ?_ | refine blk_alloc ?_ _)); exact BK127.out) hb); have n1_ := Aside0.mk (below_step (by repeat (first | (with_reducible first | exact HB.out | apply below_alloc | apply pw_below_drewN | apply below_drew1 | refine below_set ?_ GE127.out) | exact HB.out)) hb); clear BK127; clear HB; have BK127 := n0_; have HB := n1_; clear n0_ n1_; (try clear hb); (try clear hb2); (try clear hk); (try clear hi); have p131 : 0 ≤ (2 : Int) := (by omega); have q131 : 2 < (l1.length : Int) := of_decide_eq_true (by first | (with_reducible assumption) | assumption); obtain ⟨ad131, e131, hx131_0⟩ := Kd.at_string HR1.out 2 p131 q131; obtain rfl : ad128 = ad131 := (by injection e131); (try simp only [show (2 : Int).toNat = 2 from rfl, Nat.reduceMul, Nat.reduceEqDiff, Go.Addr.add, ↓reduceIte] at hx131_0); have qi131 : (2 < l1.length) = True := eq_true (by omega); (try rw [show ((2 : Int)).toNat = 2 from rfl] at hx131_0); replace hx131_0 := (HB.out.cell (World.block_lt_of_cell? w _ hx131_0)).trans hx131_0; replace p131 := eq_true p131; replace q131 := eq_true q131) | ((with_reducible refine gate_callee (f := 20) rfl ?_); refine goesL_ (some 25) rfl rfl Tryd.func20 (by kernel_rfl) rfl #[.string (rdOf ByteArray.empty l1 2)] rfl (by (try simp only [List.map_toArray, List.map_cons, List.map_nil]); first | done | rfl | (simp only [List.length_drop, List.length_take]; rfl)) ?_; (with_reducible refine (zic_Month.calls (rdOf ByteArray.empty l1 2) t132 true _ A6.out).mono ?_); rintro e w22 ⟨rfl, hb⟩; refine ⟨_, rfl, ?_⟩; have n0_ := Aside0.mk (blk_below (g := gb127) (o := .cells #[.int .i64 0, .int .i64 0, .int .i64 0, .int .i64 0, .int .i64 0, .string (⟨#[]⟩ : ByteArray), .bool false] 98 (0, 0)) (by (with_reducible repeat (first | refine blk_drewN ?_ _ | refine blk_drew ?_ | refine blk_alloc ?_ _)); exact BK127.out) hb); have n1_ := Aside0.mk (below_step (by repeat (first | (with_reducible first | exact HB.out | apply below_alloc | apply pw_below_drewN | apply below_drew1 | refine below_set ?_ GE127.out) | exact HB.out)) hb); clear BK127; clear HB; have BK127 := n0_; have HB := n1_; clear n0_ n1_; (try clear hb); (try clear hb2); (try clear hk); (try clear hi); have p134 : 0 ≤ (3 : Int) := (by omega); have q134 : 3 < (l1.length : Int) := of_decide_eq_true (by first | (with_reducible assumption) | assumption); obtain ⟨ad134, e134, hx134_0⟩ := Kd.at_string HR1.out 3 p134 q134; obtain rfl : ad128 = ad134 := (by injection e134); (try simp only [show (3 : Int).toNat = 3 from rfl, Nat.reduceMul, Nat.reduceEqDiff, Go.Addr.add, ↓reduceIte] at hx134_0); have qi134 : (3 < l1.length) = True := eq_true (by omega); (try rw [show ((3 : Int)).toNat = 3 from rfl] at hx134_0); replace hx134_0 := (HB.out.cell (World.block_lt_of_cell? w _ hx134_0)).trans hx134_0; replace p134 := eq_true p134; replace q134 := eq_true q134) | ((with_reducible refine gate_callee (f := 50) rfl ?_); refine goesL_ (some 32) rfl rfl Tryd.func50 (by kernel_rfl) rfl #[.string (rdOf ByteArray.empty l1 3)] rfl (by (try simp only [List.map_toArray, List.map_cons, List.map_nil]); first | done | rfl | (simp only [List.length_drop, List.length_take]; rfl)) ?_; (with_reducible refine (lines_Number.calls (rdOf ByteArray.empty l1 3) t135 false _ A8.out).mono ?_); rintro e w23 ⟨rfl, hb⟩; refine ⟨_, rfl, ?_⟩; have n0_ := Aside0.mk (blk_below (g := gb127) (o := .cells #[.int .i64 0, .int .i64 0, .int .i64 0, .int .i64 0, .int .i64 0, .string (⟨#[]⟩ : ByteArray), .bool false] 98 (0, 0)) (by (with_reducible repeat (first | refine blk_drewN ?_ _ | refine blk_drew ?_ | refine blk_alloc ?_ _)); exact BK127.out) hb); have n1_ := Aside0.mk (below_step (by repeat (first | (with_reducible first | exact HB.out | apply below_alloc | apply pw_below_drewN | apply below_drew1 | refine below_set ?_ GE127.out) | exact HB.out)) hb); clear BK127; clear HB; have BK127 := n0_; have HB := n1_; clear n0_ n1_; (try clear hb); (try clear hb2); (try clear hk); (try clear hi); have p137 : 0 ≤ (4 : Int) := (by omega); have q137 : 4 < (l1.length : Int) := of_decide_eq_true (by first | (with_reducible assumption) | assumption); obtain ⟨ad137, e137, hx137_0⟩ := Kd.at_string HR1.out 4 p137 q137; obtain rfl : ad128 = ad137 := (by injection e137); (try simp only [show (4 : Int).toNat = 4 from rfl, Nat.reduceMul, Nat.reduceEqDiff, Go.Addr.add, ↓reduceIte] at hx137_0); have qi137 : (4 < l1.length) = True := eq_true (by omega); (try rw [show ((4 : Int)).toNat = 4 from rfl] at hx137_0); replace hx137_0 := (HB.out.cell (World.block_lt_of_cell? w _ hx137_0)).trans hx137_0; replace p137 := eq_true p137; replace q137 := eq_true q137) | ((with_reducible refine gate_callee (f := 27) rfl ?_); refine goesL_ (some 39) rfl rfl Tryd.func27 (by kernel_rfl) rfl #[.string (rdOf ByteArray.empty l1 4)] rfl (by (try simp only [List.map_toArray, List.map_cons, List.map_nil]); first | done | rfl | (simp only [List.length_drop, List.length_take]; rfl)) ?_; (with_reducible refine (zic_Clock.calls (rdOf ByteArray.empty l1 4) t138 t139 _ A10.out).mono ?_); rintro e w24 ⟨rfl, hb⟩; refine ⟨_, rfl, ?_⟩; have n0_ := Aside0.mk (blk_below (g := gb127) (o := .cells #[.int .i64 0, .int .i64 0, .int .i64 0, .int .i64 0, .int .i64 0, .string (⟨#[]⟩ : ByteArray), .bool false] 98 (0, 0)) (by (with_reducible repeat (first | refine blk_drewN ?_ _ | refine blk_drew ?_ | refine blk_alloc ?_ _)); exact BK127.out) hb); have n1_ := Aside0.mk (below_step (by repeat (first | (with_reducible first | exact HB.out | apply below_alloc | apply pw_below_drewN | apply below_drew1 | refine below_set ?_ GE127.out) | exact HB.out)) hb); clear BK127; clear HB; have BK127 := n0_; have HB := n1_; clear n0_ n1_; (try clear hb); (try clear hb2); (try clear hk); (try clear hi); have hcz25_0 : w24.cell? ⟨gb127, 0, none⟩ = some (.int .i64 0) := (blk_cell BK127.out 0).trans rfl; have hcz25_1 : w24.cell? ⟨gb127, 1, none⟩ = some (.int .i64 0) := (blk_cell BK127.out 1).trans rfl; have hcz25_2 : w24.cell? ⟨gb127, 2, none⟩ = some (.int .i64 0) := (blk_cell BK127.out 2).trans rfl; have hcz25_3 : w24.cell? ⟨gb127, 3, none⟩ = some (.int .i64 0) := (blk_cell BK127.out 3).trans rfl; have hcz25_4 : w24.cell? ⟨gb127, 4, none⟩ = some (.int .i64 0) := (blk_cell BK127.out 4).trans rfl; have hcz25_5 : w24.cell? ⟨gb127, 5, none⟩ = some (.string (⟨#[]⟩ : ByteArray)) := (blk_cell BK127.out 5).trans rfl; have hcz25_6 : w24.cell? ⟨gb127, 6, none⟩ = some (.bool false) := (blk_cell BK127.out 6).trans rfl; have hfz25_0 := blk_frozen BK127.out 0; have hfz25_1 := blk_frozen BK127.out 1; have hfz25_2 := blk_frozen BK127.out 2; have hfz25_3 := blk_frozen BK127.out 3; have hfz25_4 := blk_frozen BK127.out 4; have hfz25_5 := blk_frozen BK127.out 5; have hfz25_6 := blk_frozen BK127.out 6))
                refine bodyPost_ret (results_ct rfl _ _ gb127 98 #[.int .i64 a0, .int .i64 t129, .int .i64 t132, .int .i64 t135, .int .i64 t138, .string (⟨#[]⟩ : ByteArray), .bool false] (0, 0) _ rfl (by (with_reducible repeat (first | refine blk_drewN ?_ _ | refine blk_drew ?_ | refine blk_alloc ?_ _)); refine blk_put (cs := #[.int .i64 a0, .int .i64 t129, .int .i64 t132, .int .i64 t135, .int .i64 t138, .string (⟨#[]⟩ : ByteArray), .bool false]) ?_ 6 _ rfl; (with_reducible repeat (first | refine blk_drewN ?_ _ | refine blk_drew ?_ | refine blk_alloc ?_ _)); refine blk_put (cs := #[.int .i64 a0, .int .i64 t129, .int .i64 t132, .int .i64 t135, .int .i64 t138, .string (⟨#[]⟩ : ByteArray), .bool false]) ?_ 5 _ rfl; (with_reducible repeat (first | refine blk_drewN ?_ _ | refine blk_drew ?_ | refine blk_alloc ?_ _)); refine blk_put (cs := #[.int .i64 a0, .int .i64 t129, .int .i64 t132, .int .i64 t135, .int .i64 0, .string (⟨#[]⟩ : ByteArray), .bool false]) ?_ 4 _ rfl; (with_reducible repeat (first | refine blk_drewN ?_ _ | refine blk_drew ?_ | refine blk_alloc ?_ _)); refine blk_put (cs := #[.int .i64 a0, .int .i64 t129, .int .i64 t132, .int .i64 0, .int .i64 0, .string (⟨#[]⟩ : ByteArray), .bool false]) ?_ 3 _ rfl; (with_reducible repeat (first | refine blk_drewN ?_ _ | refine blk_drew ?_ | refine blk_alloc ?_ _)); refine blk_put (cs := #[.int .i64 a0, .int .i64 t129, .int .i64 0, .int .i64 0, .int .i64 0, .string (⟨#[]⟩ : ByteArray), .bool false]) ?_ 2 _ rfl; (with_reducible repeat (first | refine blk_drewN ?_ _ | refine blk_drew ?_ | refine blk_alloc ?_ _)); refine blk_put (cs := #[.int .i64 a0, .int .i64 0, .int .i64 0, .int .i64 0, .int .i64 0, .string (⟨#[]⟩ : ByteArray), .bool false]) ?_ 1 _ rfl; (with_reducible repeat (first | refine blk_drewN ?_ _ | refine blk_drew ?_ | refine blk_alloc ?_ _)); refine blk_put (cs := #[.int .i64 0, .int .i64 0, .int .i64 0, .int .i64 0, .int .i64 0, .string (⟨#[]⟩ : ByteArray), .bool false]) ?_ 0 _ rfl; (with_reducible repeat (first | refine blk_drewN ?_ _ | refine blk_drew ?_ | refine blk_alloc ?_ _)); exact BK127.out) Tryd.underlying98 rfl (by kernel_rfl)) rfl ?_
                exact ⟨by first | rfl | (simp [errW_none, errW_some] <;> rfl) | (simp [*, errW_none, errW_some] <;> rfl), by repeat (first | (with_reducible first | exact HB.out | apply below_alloc | apply pw_below_drewN | apply below_drew1 | refine below_set ?_ GE127.out) | exact HB.out)⟩
            · replace c12 := Bool.eq_false_iff.mpr c12
              subst c12
              have H1 : (some (a0, t129, t132, t135, t138, (⟨#[]⟩ : ByteArray), false, false)) = some (r1, r2, r3, r4, r5, r6, r7, r8) := by rw [if_neg (show ¬ (false = true) by decide)] at H; exact H
              clear H
              have H := H1
              clear H1
              simp only [Option.some.injEq, Prod.mk.injEq] at H
              obtain ⟨rfl, rfl, rfl, rfl, rfl, rfl, rfl, rfl⟩ := H
              go_enter Tryd.func77, Tryd.ntmps77
              go_wp2_with (first | ((with_reducible refine gate_dst (N := 4) rfl ?_); refine box_event ?hg (N := 4) ?hd (cs := #[.int .i64 0, .int .i64 0, .int .i64 0, .int .i64 0, .int .i64 0, .string (⟨#[]⟩ : ByteArray), .bool false]) (t := 98) ?hr ?_; (case hd => rfl); (case hg => rfl); (case hr => first | (go_simp; done) | (go_simp; rfl)); intro gb127 hg w26 hbox hb; have n0_ := Aside0.mk (below_step (by repeat (first | (with_reducible first | exact HB.out | apply below_alloc | apply pw_below_drewN | apply below_drew1) | exact HB.out)) hb); have n1_ := Aside0.mk (hbox); have n2_ := Aside0.mk ((by rw [hg]; exact (below_size (by repeat (first | (with_reducible first | exact HB.out | apply below_alloc | apply pw_below_drewN | apply below_drew1) | exact HB.out))) : w.heap.size ≤ gb127)); have n3_ := Aside0.mk ((by rw [hg]; exact (below_size (by repeat (first | (with_reducible first | exact HB.out | apply below_alloc | apply pw_below_drewN | apply below_drew1) | exact HB.out))) : w.heap.size ≤ gb127)); clear HB; have HB := n0_; have BK127 := n1_; have GW127 := n2_; have GE127 := n3_; clear n0_ n1_ n2_ n3_; clear hb hbox hg; have p128 : 0 ≤ (1 : Int) := (by omega); have q128 : 1 < (l1.length : Int) := of_decide_eq_true (by first | (with_reducible assumption) | assumption); obtain ⟨ad128, e128, hx128_0⟩ := Kd.at_string HR1.out 1 p128 q128; cases e128; (try simp only [show (1 : Int).toNat = 1 from rfl, Nat.reduceMul, Nat.reduceEqDiff, Go.Addr.add, ↓reduceIte] at hx128_0); have qi128 : (1 < l1.length) = True := eq_true (by omega); (try rw [show ((1 : Int)).toNat = 1 from rfl] at hx128_0); replace hx128_0 := (HB.out.cell (World.block_lt_of_cell? w _ hx128_0)).trans hx128_0; replace p128 := eq_true p128; replace q128 := eq_true q128) | ((with_reducible refine gate_callee (f := 50) rfl ?_); refine goesL_ (some 18) rfl rfl Tryd.func50 (by kernel_rfl) rfl #[.string (rdOf ByteArray.empty l1 1)] rfl (by (try simp only [List.map_toArray, List.map_cons, List.map_nil]); first | done | rfl | (simp only [List.length_drop, List.length_take]; rfl)) ?_; (with_reducible refine (lines_Number.calls (rdOf ByteArray.empty l1 1) t129 true _ A4.out).mono ?_); rintro e w27 ⟨rfl, hb⟩; refine ⟨_, rfl, ?_⟩; have n0_ := Aside0.mk (blk_below (g := gb127) (o := .cells #[.int .i64 0, .int .i64 0, .int .i64 0, .int .i64 0, .int .i64 0, .string (⟨#[]⟩ : ByteArray), .bool false] 98 (0, 0)) (by (with_reducible repeat (first | refine blk_drewN ?_ _ | refine blk_drew ?_ | refine blk_alloc ?_ _)); exact BK127.out) hb); have n1_ := Aside0.mk (below_step (by repeat (first | (with_reducible first | exact HB.out | apply below_alloc | apply pw_below_drewN | apply below_drew1 | refine below_set ?_ GE127.out) | exact HB.out)) hb); clear BK127; clear HB; have BK127 := n0_; have HB := n1_; clear n0_ n1_; (try clear hb); (try clear hb2); (try clear hk); (try clear hi); have p131 : 0 ≤ (2 : Int) := (by omega); have q131 : 2 < (l1.length : Int) := of_decide_eq_true (by first | (with_reducible assumption) | assumption); obtain ⟨ad131, e131, hx131_0⟩ := Kd.at_string HR1.out 2 p131 q131; obtain rfl : ad128 = ad131 := (by injection e131); (try simp only [show (2 : Int).toNat = 2 from rfl, Nat.reduceMul, Nat.reduceEqDiff, Go.Addr.add, ↓reduceIte] at hx131_0); have qi131 : (2 < l1.length) = True := eq_true (by omega); (try rw [show ((2 : Int)).toNat = 2 from rfl] at hx131_0); replace hx131_0 := (HB.out.cell (World.block_lt_of_cell? w _ hx131_0)).trans hx131_0; replace p131 := eq_true p131; replace q131 := eq_true q131) | ((with_reducible refine gate_callee (f := 20) rfl ?_); refine goesL_ (some 25) rfl rfl Tryd.func20 (by kernel_rfl) rfl #[.string (rdOf ByteArray.empty l1 2)] rfl (by (try simp only [List.map_toArray, List.map_cons, List.map_nil]); first | done | rfl | (simp only [List.length_drop, List.length_take]; rfl)) ?_; (with_reducible refine (zic_Month.calls (rdOf ByteArray.empty l1 2) t132 false _ A6.out).mono ?_); rintro e w28 ⟨rfl, hb⟩; refine ⟨_, rfl, ?_⟩; have n0_ := Aside0.mk (blk_below (g := gb127) (o := .cells #[.int .i64 0, .int .i64 0, .int .i64 0, .int .i64 0, .int .i64 0, .string (⟨#[]⟩ : ByteArray), .bool false] 98 (0, 0)) (by (with_reducible repeat (first | refine blk_drewN ?_ _ | refine blk_drew ?_ | refine blk_alloc ?_ _)); exact BK127.out) hb); have n1_ := Aside0.mk (below_step (by repeat (first | (with_reducible first | exact HB.out | apply below_alloc | apply pw_below_drewN | apply below_drew1 | refine below_set ?_ GE127.out) | exact HB.out)) hb); clear BK127; clear HB; have BK127 := n0_; have HB := n1_; clear n0_ n1_; (try clear hb); (try clear hb2); (try clear hk); (try clear hi); have p134 : 0 ≤ (3 : Int) := (by omega); have q134 : 3 < (l1.length : Int) := of_decide_eq_true (by first | (with_reducible assumption) | assumption); obtain ⟨ad134, e134, hx134_0⟩ := Kd.at_string HR1.out 3 p134 q134; obtain rfl : ad128 = ad134 := (by injection e134); (try simp only [show (3 : Int).toNat = 3 from rfl, Nat.reduceMul, Nat.reduceEqDiff, Go.Addr.add, ↓reduceIte] at hx134_0); have qi134 : (3 < l1.length) = True := eq_true (by omega); (try rw [show ((3 : Int)).toNat = 3 from rfl] at hx134_0); replace hx134_0 := (HB.out.cell (World.block_lt_of_cell? w _ hx134_0)).trans hx134_0; replace p134 := eq_true p134; replace q134 := eq_true q134) | ((with_reducible refine gate_callee (f := 50) rfl ?_); refine goesL_ (some 32) rfl rfl Tryd.func50 (by kernel_rfl) rfl #[.string (rdOf ByteArray.empty l1 3)] rfl (by (try simp only [List.map_toArray, List.map_cons, List.map_nil]); first | done | rfl | (simp only [List.length_drop, List.length_take]; rfl)) ?_; (with_reducible refine (lines_Number.calls (rdOf ByteArray.empty l1 3) t135 t136 _ A8.out).mono ?_); rintro e w29 ⟨rfl, hb⟩; refine ⟨_, rfl, ?_⟩; have n0_ := Aside0.mk (blk_below (g := gb127) (o := .cells #[.int .i64 0, .int .i64 0, .int .i64 0, .int .i64 0, .int .i64 0, .string (⟨#[]⟩ : ByteArray), .bool false] 98 (0, 0)) (by (with_reducible repeat (first | refine blk_drewN ?_ _ | refine blk_drew ?_ | refine blk_alloc ?_ _)); exact BK127.out) hb); have n1_ := Aside0.mk (below_step (by repeat (first | (with_reducible first | exact HB.out | apply below_alloc | apply pw_below_drewN | apply below_drew1 | refine below_set ?_ GE127.out) | exact HB.out)) hb); clear BK127; clear HB; have BK127 := n0_; have HB := n1_; clear n0_ n1_; (try clear hb); (try clear hb2); (try clear hk); (try clear hi); have p137 : 0 ≤ (4 : Int) := (by omega); have q137 : 4 < (l1.length : Int) := of_decide_eq_true (by first | (with_reducible assumption) | assumption); obtain ⟨ad137, e137, hx137_0⟩ := Kd.at_string HR1.out 4 p137 q137; obtain rfl : ad128 = ad137 := (by injection e137); (try simp only [show (4 : Int).toNat = 4 from rfl, Nat.reduceMul, Nat.reduceEqDiff, Go.Addr.add, ↓reduceIte] at hx137_0); have qi137 : (4 < l1.length) = True := eq_true (by omega); (try rw [show ((4 : Int)).toNat = 4 from rfl] at hx137_0); replace hx137_0 := (HB.out.cell (World.block_lt_of_cell? w _ hx137_0)).trans hx137_0; replace p137 := eq_true p137; replace q137 := eq_true q137) | ((with_reducible refine gate_callee (f := 27) rfl ?_); refine goesL_ (some 39) rfl rfl Tryd.func27 (by kernel_rfl) rfl #[.string (rdOf ByteArray.empty l1 4)] rfl (by (try simp only [List.map_toArray, List.map_cons, List.map_nil]); first | done | rfl | (simp only [List.length_drop, List.length_take]; rfl)) ?_; (with_reducible refine (zic_Clock.calls (rdOf ByteArray.empty l1 4) t138 t139 _ A10.out).mono ?_); rintro e w30 ⟨rfl, hb⟩; refine ⟨_, rfl, ?_⟩; have n0_ := Aside0.mk (blk_below (g := gb127) (o := .cells #[.int .i64 0, .int .i64 0, .int .i64 0, .int .i64 0, .int .i64 0, .string (⟨#[]⟩ : ByteArray), .bool false] 98 (0, 0)) (by (with_reducible repeat (first | refine blk_drewN ?_ _ | refine blk_drew ?_ | refine blk_alloc ?_ _)); exact BK127.out) hb); have n1_ := Aside0.mk (below_step (by repeat (first | (with_reducible first | exact HB.out | apply below_alloc | apply pw_below_drewN | apply below_drew1 | refine below_set ?_ GE127.out) | exact HB.out)) hb); clear BK127; clear HB; have BK127 := n0_; have HB := n1_; clear n0_ n1_; (try clear hb); (try clear hb2); (try clear hk); (try clear hi); have hcz31_0 : w30.cell? ⟨gb127, 0, none⟩ = some (.int .i64 0) := (blk_cell BK127.out 0).trans rfl; have hcz31_1 : w30.cell? ⟨gb127, 1, none⟩ = some (.int .i64 0) := (blk_cell BK127.out 1).trans rfl; have hcz31_2 : w30.cell? ⟨gb127, 2, none⟩ = some (.int .i64 0) := (blk_cell BK127.out 2).trans rfl; have hcz31_3 : w30.cell? ⟨gb127, 3, none⟩ = some (.int .i64 0) := (blk_cell BK127.out 3).trans rfl; have hcz31_4 : w30.cell? ⟨gb127, 4, none⟩ = some (.int .i64 0) := (blk_cell BK127.out 4).trans rfl; have hcz31_5 : w30.cell? ⟨gb127, 5, none⟩ = some (.string (⟨#[]⟩ : ByteArray)) := (blk_cell BK127.out 5).trans rfl; have hcz31_6 : w30.cell? ⟨gb127, 6, none⟩ = some (.bool false) := (blk_cell BK127.out 6).trans rfl; have hfz31_0 := blk_frozen BK127.out 0; have hfz31_1 := blk_frozen BK127.out 1; have hfz31_2 := blk_frozen BK127.out 2; have hfz31_3 := blk_frozen BK127.out 3; have hfz31_4 := blk_frozen BK127.out 4; have hfz31_5 := blk_frozen BK127.out 5; have hfz31_6 := blk_frozen BK127.out 6))
              refine bodyPost_ret (results_ct rfl _ _ gb127 98 #[.int .i64 a0, .int .i64 t129, .int .i64 t132, .int .i64 t135, .int .i64 t138, .string (⟨#[]⟩ : ByteArray), .bool false] (0, 0) _ rfl (by (with_reducible repeat (first | refine blk_drewN ?_ _ | refine blk_drew ?_ | refine blk_alloc ?_ _)); refine blk_put (cs := #[.int .i64 a0, .int .i64 t129, .int .i64 t132, .int .i64 t135, .int .i64 t138, .string (⟨#[]⟩ : ByteArray), .bool false]) ?_ 6 _ rfl; (with_reducible repeat (first | refine blk_drewN ?_ _ | refine blk_drew ?_ | refine blk_alloc ?_ _)); refine blk_put (cs := #[.int .i64 a0, .int .i64 t129, .int .i64 t132, .int .i64 t135, .int .i64 t138, .string (⟨#[]⟩ : ByteArray), .bool false]) ?_ 5 _ rfl; (with_reducible repeat (first | refine blk_drewN ?_ _ | refine blk_drew ?_ | refine blk_alloc ?_ _)); refine blk_put (cs := #[.int .i64 a0, .int .i64 t129, .int .i64 t132, .int .i64 t135, .int .i64 0, .string (⟨#[]⟩ : ByteArray), .bool false]) ?_ 4 _ rfl; (with_reducible repeat (first | refine blk_drewN ?_ _ | refine blk_drew ?_ | refine blk_alloc ?_ _)); refine blk_put (cs := #[.int .i64 a0, .int .i64 t129, .int .i64 t132, .int .i64 0, .int .i64 0, .string (⟨#[]⟩ : ByteArray), .bool false]) ?_ 3 _ rfl; (with_reducible repeat (first | refine blk_drewN ?_ _ | refine blk_drew ?_ | refine blk_alloc ?_ _)); refine blk_put (cs := #[.int .i64 a0, .int .i64 t129, .int .i64 0, .int .i64 0, .int .i64 0, .string (⟨#[]⟩ : ByteArray), .bool false]) ?_ 2 _ rfl; (with_reducible repeat (first | refine blk_drewN ?_ _ | refine blk_drew ?_ | refine blk_alloc ?_ _)); refine blk_put (cs := #[.int .i64 a0, .int .i64 0, .int .i64 0, .int .i64 0, .int .i64 0, .string (⟨#[]⟩ : ByteArray), .bool false]) ?_ 1 _ rfl; (with_reducible repeat (first | refine blk_drewN ?_ _ | refine blk_drew ?_ | refine blk_alloc ?_ _)); refine blk_put (cs := #[.int .i64 0, .int .i64 0, .int .i64 0, .int .i64 0, .int .i64 0, .string (⟨#[]⟩ : ByteArray), .bool false]) ?_ 0 _ rfl; (with_reducible repeat (first | refine blk_drewN ?_ _ | refine blk_drew ?_ | refine blk_alloc ?_ _)); exact BK127.out) Tryd.underlying98 rfl (by kernel_rfl)) rfl ?_
              exact ⟨by first | rfl | (simp [errW_none, errW_some] <;> rfl) | (simp [*, errW_none, errW_some] <;> rfl), by repeat (first | (with_reducible first | exact HB.out | apply below_alloc | apply pw_below_drewN | apply below_drew1 | refine below_set ?_ GE127.out) | exact HB.out)⟩
          · replace c11 := Bool.eq_false_iff.mpr c11
            subst c11
            have H1 : (some (a0, t129, t132, t135, t138, (⟨#[]⟩ : ByteArray), false, false)) = some (r1, r2, r3, r4, r5, r6, r7, r8) := by rw [if_neg (show ¬ (false = true) by decide)] at H; exact H
            clear H
            have H := H1
            clear H1
            simp only [Option.some.injEq, Prod.mk.injEq] at H
            obtain ⟨rfl, rfl, rfl, rfl, rfl, rfl, rfl, rfl⟩ := H
            go_enter Tryd.func77, Tryd.ntmps77
            go_wp2_with (first | ((with_reducible refine gate_dst (N := 4) rfl ?_); refine box_event ?hg (N := 4) ?hd (cs := #[.int .i64 0, .int .i64 0, .int .i64 0, .int .i64 0, .int .i64 0, .string (⟨#[]⟩ : ByteArray), .bool false]) (t := 98) ?hr ?_; (case hd => rfl); (case hg => rfl); (case hr => first | (go_simp; done) | (go_simp; rfl)); intro gb127 hg w32 hbox hb; have n0_ := Aside0.mk (below_step (by repeat (first | (with_reducible first | exact HB.out | apply below_alloc | apply pw_below_drewN | apply below_drew1) | exact HB.out)) hb); have n1_ := Aside0.mk (hbox); have n2_ := Aside0.mk ((by rw [hg]; exact (below_size (by repeat (first | (with_reducible first | exact HB.out | apply below_alloc | apply pw_below_drewN | apply below_drew1) | exact HB.out))) : w.heap.size ≤ gb127)); have n3_ := Aside0.mk ((by rw [hg]; exact (below_size (by repeat (first | (with_reducible first | exact HB.out | apply below_alloc | apply pw_below_drewN | apply below_drew1) | exact HB.out))) : w.heap.size ≤ gb127)); clear HB; have HB := n0_; have BK127 := n1_; have GW127 := n2_; have GE127 := n3_; clear n0_ n1_ n2_ n3_; clear hb hbox hg; have p128 : 0 ≤ (1 : Int) := (by omega); have q128 : 1 < (l1.length : Int) := of_decide_eq_true (by first | (with_reducible assumption) | assumption); obtain ⟨ad128, e128, hx128_0⟩ := Kd.at_string HR1.out 1 p128 q128; cases e128; (try simp only [show (1 : Int).toNat = 1 from rfl, Nat.reduceMul, Nat.reduceEqDiff, Go.Addr.add, ↓reduceIte] at hx128_0); have qi128 : (1 < l1.length) = True := eq_true (by omega); (try rw [show ((1 : Int)).toNat = 1 from rfl] at hx128_0); replace hx128_0 := (HB.out.cell (World.block_lt_of_cell? w _ hx128_0)).trans hx128_0; replace p128 := eq_true p128; replace q128 := eq_true q128) | ((with_reducible refine gate_callee (f := 50) rfl ?_); refine goesL_ (some 18) rfl rfl Tryd.func50 (by kernel_rfl) rfl #[.string (rdOf ByteArray.empty l1 1)] rfl (by (try simp only [List.map_toArray, List.map_cons, List.map_nil]); first | done | rfl | (simp only [List.length_drop, List.length_take]; rfl)) ?_; (with_reducible refine (lines_Number.calls (rdOf ByteArray.empty l1 1) t129 false _ A4.out).mono ?_); rintro e w33 ⟨rfl, hb⟩; refine ⟨_, rfl, ?_⟩; have n0_ := Aside0.mk (blk_below (g := gb127) (o := .cells #[.int .i64 0, .int .i64 0, .int .i64 0, .int .i64 0, .int .i64 0, .string (⟨#[]⟩ : ByteArray), .bool false] 98 (0, 0)) (by (with_reducible repeat (first | refine blk_drewN ?_ _ | refine blk_drew ?_ | refine blk_alloc ?_ _)); exact BK127.out) hb); have n1_ := Aside0.mk (below_step (by repeat (first | (with_reducible first | exact HB.out | apply below_alloc | apply pw_below_drewN | apply below_drew1 | refine below_set ?_ GE127.out) | exact HB.out)) hb); clear BK127; clear HB; have BK127 := n0_; have HB := n1_; clear n0_ n1_; (try clear hb); (try clear hb2); (try clear hk); (try clear hi); have p131 : 0 ≤ (2 : Int) := (by omega); have q131 : 2 < (l1.length : Int) := of_decide_eq_true (by first | (with_reducible assumption) | assumption); obtain ⟨ad131, e131, hx131_0⟩ := Kd.at_string HR1.out 2 p131 q131; obtain rfl : ad128 = ad131 := (by injection e131); (try simp only [show (2 : Int).toNat = 2 from rfl, Nat.reduceMul, Nat.reduceEqDiff, Go.Addr.add, ↓reduceIte] at hx131_0); have qi131 : (2 < l1.length) = True := eq_true (by omega); (try rw [show ((2 : Int)).toNat = 2 from rfl] at hx131_0); replace hx131_0 := (HB.out.cell (World.block_lt_of_cell? w _ hx131_0)).trans hx131_0; replace p131 := eq_true p131; replace q131 := eq_true q131) | ((with_reducible refine gate_callee (f := 20) rfl ?_); refine goesL_ (some 25) rfl rfl Tryd.func20 (by kernel_rfl) rfl #[.string (rdOf ByteArray.empty l1 2)] rfl (by (try simp only [List.map_toArray, List.map_cons, List.map_nil]); first | done | rfl | (simp only [List.length_drop, List.length_take]; rfl)) ?_; (with_reducible refine (zic_Month.calls (rdOf ByteArray.empty l1 2) t132 t133 _ A6.out).mono ?_); rintro e w34 ⟨rfl, hb⟩; refine ⟨_, rfl, ?_⟩; have n0_ := Aside0.mk (blk_below (g := gb127) (o := .cells #[.int .i64 0, .int .i64 0, .int .i64 0, .int .i64 0, .int .i64 0, .string (⟨#[]⟩ : ByteArray), .bool false] 98 (0, 0)) (by (with_reducible repeat (first | refine blk_drewN ?_ _ | refine blk_drew ?_ | refine blk_alloc ?_ _)); exact BK127.out) hb); have n1_ := Aside0.mk (below_step (by repeat (first | (with_reducible first | exact HB.out | apply below_alloc | apply pw_below_drewN | apply below_drew1 | refine below_set ?_ GE127.out) | exact HB.out)) hb); clear BK127; clear HB; have BK127 := n0_; have HB := n1_; clear n0_ n1_; (try clear hb); (try clear hb2); (try clear hk); (try clear hi); have p134 : 0 ≤ (3 : Int) := (by omega); have q134 : 3 < (l1.length : Int) := of_decide_eq_true (by first | (with_reducible assumption) | assumption); obtain ⟨ad134, e134, hx134_0⟩ := Kd.at_string HR1.out 3 p134 q134; obtain rfl : ad128 = ad134 := (by injection e134); (try simp only [show (3 : Int).toNat = 3 from rfl, Nat.reduceMul, Nat.reduceEqDiff, Go.Addr.add, ↓reduceIte] at hx134_0); have qi134 : (3 < l1.length) = True := eq_true (by omega); (try rw [show ((3 : Int)).toNat = 3 from rfl] at hx134_0); replace hx134_0 := (HB.out.cell (World.block_lt_of_cell? w _ hx134_0)).trans hx134_0; replace p134 := eq_true p134; replace q134 := eq_true q134) | ((with_reducible refine gate_callee (f := 50) rfl ?_); refine goesL_ (some 32) rfl rfl Tryd.func50 (by kernel_rfl) rfl #[.string (rdOf ByteArray.empty l1 3)] rfl (by (try simp only [List.map_toArray, List.map_cons, List.map_nil]); first | done | rfl | (simp only [List.length_drop, List.length_take]; rfl)) ?_; (with_reducible refine (lines_Number.calls (rdOf ByteArray.empty l1 3) t135 t136 _ A8.out).mono ?_); rintro e w35 ⟨rfl, hb⟩; refine ⟨_, rfl, ?_⟩; have n0_ := Aside0.mk (blk_below (g := gb127) (o := .cells #[.int .i64 0, .int .i64 0, .int .i64 0, .int .i64 0, .int .i64 0, .string (⟨#[]⟩ : ByteArray), .bool false] 98 (0, 0)) (by (with_reducible repeat (first | refine blk_drewN ?_ _ | refine blk_drew ?_ | refine blk_alloc ?_ _)); exact BK127.out) hb); have n1_ := Aside0.mk (below_step (by repeat (first | (with_reducible first | exact HB.out | apply below_alloc | apply pw_below_drewN | apply below_drew1 | refine below_set ?_ GE127.out) | exact HB.out)) hb); clear BK127; clear HB; have BK127 := n0_; have HB := n1_; clear n0_ n1_; (try clear hb); (try clear hb2); (try clear hk); (try clear hi); have p137 : 0 ≤ (4 : Int) := (by omega); have q137 : 4 < (l1.length : Int) := of_decide_eq_true (by first | (with_reducible assumption) | assumption); obtain ⟨ad137, e137, hx137_0⟩ := Kd.at_string HR1.out 4 p137 q137; obtain rfl : ad128 = ad137 := (by injection e137); (try simp only [show (4 : Int).toNat = 4 from rfl, Nat.reduceMul, Nat.reduceEqDiff, Go.Addr.add, ↓reduceIte] at hx137_0); have qi137 : (4 < l1.length) = True := eq_true (by omega); (try rw [show ((4 : Int)).toNat = 4 from rfl] at hx137_0); replace hx137_0 := (HB.out.cell (World.block_lt_of_cell? w _ hx137_0)).trans hx137_0; replace p137 := eq_true p137; replace q137 := eq_true q137) | ((with_reducible refine gate_callee (f := 27) rfl ?_); refine goesL_ (some 39) rfl rfl Tryd.func27 (by kernel_rfl) rfl #[.string (rdOf ByteArray.empty l1 4)] rfl (by (try simp only [List.map_toArray, List.map_cons, List.map_nil]); first | done | rfl | (simp only [List.length_drop, List.length_take]; rfl)) ?_; (with_reducible refine (zic_Clock.calls (rdOf ByteArray.empty l1 4) t138 t139 _ A10.out).mono ?_); rintro e w36 ⟨rfl, hb⟩; refine ⟨_, rfl, ?_⟩; have n0_ := Aside0.mk (blk_below (g := gb127) (o := .cells #[.int .i64 0, .int .i64 0, .int .i64 0, .int .i64 0, .int .i64 0, .string (⟨#[]⟩ : ByteArray), .bool false] 98 (0, 0)) (by (with_reducible repeat (first | refine blk_drewN ?_ _ | refine blk_drew ?_ | refine blk_alloc ?_ _)); exact BK127.out) hb); have n1_ := Aside0.mk (below_step (by repeat (first | (with_reducible first | exact HB.out | apply below_alloc | apply pw_below_drewN | apply below_drew1 | refine below_set ?_ GE127.out) | exact HB.out)) hb); clear BK127; clear HB; have BK127 := n0_; have HB := n1_; clear n0_ n1_; (try clear hb); (try clear hb2); (try clear hk); (try clear hi); have hcz37_0 : w36.cell? ⟨gb127, 0, none⟩ = some (.int .i64 0) := (blk_cell BK127.out 0).trans rfl; have hcz37_1 : w36.cell? ⟨gb127, 1, none⟩ = some (.int .i64 0) := (blk_cell BK127.out 1).trans rfl; have hcz37_2 : w36.cell? ⟨gb127, 2, none⟩ = some (.int .i64 0) := (blk_cell BK127.out 2).trans rfl; have hcz37_3 : w36.cell? ⟨gb127, 3, none⟩ = some (.int .i64 0) := (blk_cell BK127.out 3).trans rfl; have hcz37_4 : w36.cell? ⟨gb127, 4, none⟩ = some (.int .i64 0) := (blk_cell BK127.out 4).trans rfl; have hcz37_5 : w36.cell? ⟨gb127, 5, none⟩ = some (.string (⟨#[]⟩ : ByteArray)) := (blk_cell BK127.out 5).trans rfl; have hcz37_6 : w36.cell? ⟨gb127, 6, none⟩ = some (.bool false) := (blk_cell BK127.out 6).trans rfl; have hfz37_0 := blk_frozen BK127.out 0; have hfz37_1 := blk_frozen BK127.out 1; have hfz37_2 := blk_frozen BK127.out 2; have hfz37_3 := blk_frozen BK127.out 3; have hfz37_4 := blk_frozen BK127.out 4; have hfz37_5 := blk_frozen BK127.out 5; have hfz37_6 := blk_frozen BK127.out 6))
            refine bodyPost_ret (results_ct rfl _ _ gb127 98 #[.int .i64 a0, .int .i64 t129, .int .i64 t132, .int .i64 t135, .int .i64 t138, .string (⟨#[]⟩ : ByteArray), .bool false] (0, 0) _ rfl (by (with_reducible repeat (first | refine blk_drewN ?_ _ | refine blk_drew ?_ | refine blk_alloc ?_ _)); refine blk_put (cs := #[.int .i64 a0, .int .i64 t129, .int .i64 t132, .int .i64 t135, .int .i64 t138, .string (⟨#[]⟩ : ByteArray), .bool false]) ?_ 6 _ rfl; (with_reducible repeat (first | refine blk_drewN ?_ _ | refine blk_drew ?_ | refine blk_alloc ?_ _)); refine blk_put (cs := #[.int .i64 a0, .int .i64 t129, .int .i64 t132, .int .i64 t135, .int .i64 t138, .string (⟨#[]⟩ : ByteArray), .bool false]) ?_ 5 _ rfl; (with_reducible repeat (first | refine blk_drewN ?_ _ | refine blk_drew ?_ | refine blk_alloc ?_ _)); refine blk_put (cs := #[.int .i64 a0, .int .i64 t129, .int .i64 t132, .int .i64 t135, .int .i64 0, .string (⟨#[]⟩ : ByteArray), .bool false]) ?_ 4 _ rfl; (with_reducible repeat (first | refine blk_drewN ?_ _ | refine blk_drew ?_ | refine blk_alloc ?_ _)); refine blk_put (cs := #[.int .i64 a0, .int .i64 t129, .int .i64 t132, .int .i64 0, .int .i64 0, .string (⟨#[]⟩ : ByteArray), .bool false]) ?_ 3 _ rfl; (with_reducible repeat (first | refine blk_drewN ?_ _ | refine blk_drew ?_ | refine blk_alloc ?_ _)); refine blk_put (cs := #[.int .i64 a0, .int .i64 t129, .int .i64 0, .int .i64 0, .int .i64 0, .string (⟨#[]⟩ : ByteArray), .bool false]) ?_ 2 _ rfl; (with_reducible repeat (first | refine blk_drewN ?_ _ | refine blk_drew ?_ | refine blk_alloc ?_ _)); refine blk_put (cs := #[.int .i64 a0, .int .i64 0, .int .i64 0, .int .i64 0, .int .i64 0, .string (⟨#[]⟩ : ByteArray), .bool false]) ?_ 1 _ rfl; (with_reducible repeat (first | refine blk_drewN ?_ _ | refine blk_drew ?_ | refine blk_alloc ?_ _)); refine blk_put (cs := #[.int .i64 0, .int .i64 0, .int .i64 0, .int .i64 0, .int .i64 0, .string (⟨#[]⟩ : ByteArray), .bool false]) ?_ 0 _ rfl; (with_reducible repeat (first | refine blk_drewN ?_ _ | refine blk_drew ?_ | refine blk_alloc ?_ _)); exact BK127.out) Tryd.underlying98 rfl (by kernel_rfl)) rfl ?_
            exact ⟨by first | rfl | (simp [errW_none, errW_some] <;> rfl) | (simp [*, errW_none, errW_some] <;> rfl), by repeat (first | (with_reducible first | exact HB.out | apply below_alloc | apply pw_below_drewN | apply below_drew1 | refine below_set ?_ GE127.out) | exact HB.out)⟩
        · rw [if_neg c9] at H
          exact absurd H (by simp)
      · rw [if_neg c7] at H
        exact absurd H (by simp)
    · rw [if_neg c5] at H
      exact absurd H (by simp)
  · rw [if_neg c3] at H
    exact absurd H (by simp)
def stringslite_HasPrefix.f (a0 : ByteArray) (a1 : ByteArray) : Option (Bool) := if (a0.size : Int) ≥ (a1.size : Int) then (if 0 ≤ (a1.size : Int) then (if (a1.size : Int) ≤ (a0.size : Int) then (some ((a0.extract 0 ((a1.size : Int) : Int).toNat).toList == a1.toList)) else (none)) else (none)) else (some false)
set_option maxHeartbeats 8000000 in
set_option maxRecDepth 100000 in
theorem stringslite_HasPrefix.calls (a0 : ByteArray) (a1 : ByteArray) (r : Bool) (w : World) (h : stringslite_HasPrefix.f a0 a1 = some r) :
    Calls Tryd.prog 62 #[.string a0, .string a1] w fun e w' => e = .returned (.bool r) ∧ Drawn0 w w' := by
  have H : (if (a0.size : Int) ≥ (a1.size : Int) then (if 0 ≤ (a1.size : Int) then (if (a1.size : Int) ≤ (a0.size : Int) then (some ((a0.extract 0 ((a1.size : Int) : Int).toNat).toList == a1.toList)) else (none)) else (none)) else (some false)) = some r := h
  clear h
  by_cases c3 : (a0.size : Int) ≥ (a1.size : Int)
  · rw [if_pos c3] at H
    have c3b0 : decide ((a1.size : Int) ≤ (a0.size : Int)) = true := decide_eq_true c3
    have c3b1 : decide (a1.size ≤ a0.size) = true := decide_eq_true (Int.ofNat_le.mp c3)
    clear c3
    by_cases c4 : 0 ≤ (a1.size : Int)
    · rw [if_pos c4] at H
      have c4b0 := eq_true c4
      have c4b1 : decide (0 ≤ (a1.size : Int)) = true := decide_eq_true c4
      clear c4
      by_cases c5 : (a1.size : Int) ≤ (a0.size : Int)
      · rw [if_pos c5] at H
        have c5b0 := eq_true c5
        have c5b1 : decide ((a1.size : Int) ≤ (a0.size : Int)) = true := decide_eq_true c5
        clear c5
        obtain rfl := Option.some.inj H
        go_enter Tryd.func62, Tryd.ntmps62
        go_wp2
        go_ret
        exact ⟨by first | rfl | (simp; done) | (simp [*]; done), by repeat (first | exact Drawn0.refl _ | apply Drawn0.step)⟩
      · rw [if_neg c5] at H
        exact absurd H (by simp)
    · rw [if_neg c4] at H
      exact absurd H (by simp)
  · rw [if_neg c3] at H
    have c3b0 : decide ((a1.size : Int) ≤ (a0.size : Int)) = false := decide_eq_false c3
    have c3b1 : decide (a1.size ≤ a0.size) = false := decide_eq_false (fun h => c3 (Int.ofNat_le.mpr h))
    clear c3
    obtain rfl := Option.some.inj H
    go_enter Tryd.func62, Tryd.ntmps62
    go_wp2
    go_ret
    exact ⟨by first | rfl | (simp; done) | (simp [*]; done), by repeat (first | exact Drawn0.refl _ | apply Drawn0.step)⟩
def strings_HasPrefix.f (a0 : ByteArray) (a1 : ByteArray) : Option (Bool) := (stringslite_HasPrefix.f a0 a1).bind fun t140 => (some t140)
set_option maxHeartbeats 8000000 in
set_option maxRecDepth 100000 in
theorem strings_HasPrefix.calls (a0 : ByteArray) (a1 : ByteArray) (r : Bool) (w : World) (h : strings_HasPrefix.f a0 a1 = some r) :
    Calls Tryd.prog 36 #[.string a0, .string a1] w fun e w' => e = .returned (.bool r) ∧ Drawn0 w w' := by
  have H : ((stringslite_HasPrefix.f a0 a1).bind fun t140 => (some t140)) = some r := h
  clear h
  replace H := Option.bind_eq_some_iff.mp H
  obtain ⟨t140, A30, H⟩ := H
  replace H : (some t140) = some r := H
  have A3 := Aside0.mk A30
  clear A30
  obtain rfl := Option.some.inj H
  go_enter Tryd.func36, Tryd.ntmps36
  go_wp2_with (first | ((with_reducible refine gate_callee (f := 62) rfl ?_); refine goesL_ (some 7) rfl rfl Tryd.func62 (by kernel_rfl) rfl #[.string a0, .string a1] rfl (by (try simp only [List.map_toArray, List.map_cons, List.map_nil]); first | done | rfl | (simp only [List.length_drop, List.length_take]; rfl)) ?_; (with_reducible refine (stringslite_HasPrefix.calls a0 a1 t140 _ A3.out).mono ?_); rintro e w' ⟨rfl, ⟨nd, rfl⟩⟩; refine ⟨_, rfl, ?_⟩))
  go_ret
  exact ⟨by first | rfl | (simp; done) | (simp [*]; done), by repeat (first | exact Drawn0.refl _ | apply Drawn0.step)⟩
def zic_roll.f (a0 : ByteArray) : Option (Bool × Bool) := (lines_Fold.f a0).bind fun t141 => ((strings_HasPrefix.f (⟨#[114, 111, 108, 108, 105, 110, 103]⟩ : ByteArray) t141).bind fun t142 => (if t142 = true then (some (t142, true)) else ((strings_HasPrefix.f (⟨#[115, 116, 97, 116, 105, 111, 110, 97, 114, 121]⟩ : ByteArray) t141).bind fun t143 => (some (t142, t143)))))
set_option maxHeartbeats 8000000 in
set_option maxRecDepth 100000 in
theorem zic_roll.calls (a0 : ByteArray) (r1 : Bool) (r2 : Bool) (w : World) (h : zic_roll.f a0 = some (r1, r2)) :
    Calls Tryd.prog 78 #[.string a0] w fun e w' => e = .returned (.tuple #[.bool r1, .bool r2]) ∧ Below w.heap.size w w' := by
  have HB := Aside0.mk (Below.refl w.heap.size w)
  have H : ((lines_Fold.f a0).bind fun t141 => ((strings_HasPrefix.f (⟨#[114, 111, 108, 108, 105, 110, 103]⟩ : ByteArray) t141).bind fun t142 => (if t142 = true then (some (t142, true)) else ((strings_HasPrefix.f (⟨#[115, 116, 97, 116, 105, 111, 110, 97, 114, 121]⟩ : ByteArray) t141).bind fun t143 => (some (t142, t143)))))) = some (r1, r2) := h
  clear h
  replace H := Option.bind_eq_some_iff.mp H
  obtain ⟨t141, A20, H⟩ := H
  replace H : ((strings_HasPrefix.f (⟨#[114, 111, 108, 108, 105, 110, 103]⟩ : ByteArray) t141).bind fun t142 => (if t142 = true then (some (t142, true)) else ((strings_HasPrefix.f (⟨#[115, 116, 97, 116, 105, 111, 110, 97, 114, 121]⟩ : ByteArray) t141).bind fun t143 => (some (t142, t143))))) = some (r1, r2) := H
  have A2 := Aside0.mk A20
  clear A20
  replace H := Option.bind_eq_some_iff.mp H
  obtain ⟨t142, A30, H⟩ := H
  replace H : (if t142 = true then (some (t142, true)) else ((strings_HasPrefix.f (⟨#[115, 116, 97, 116, 105, 111, 110, 97, 114, 121]⟩ : ByteArray) t141).bind fun t143 => (some (t142, t143)))) = some (r1, r2) := H
  have A3 := Aside0.mk A30
  clear A30
  by_cases c4 : t142 = true
  · subst c4
    have H1 : (some (true, true)) = some (r1, r2) := by rw [if_pos rfl] at H; exact H
    clear H
    have H := H1
    clear H1
    simp only [Option.some.injEq, Prod.mk.injEq] at H
    obtain ⟨rfl, rfl⟩ := H
    go_enter Tryd.func78, Tryd.ntmps78
    go_wp2_with (first | ((with_reducible refine gate_callee (f := 19) rfl ?_); refine goesL_ (some 6) rfl rfl Tryd.func19 (by kernel_rfl) rfl #[.string a0] rfl (by (try simp only [List.map_toArray, List.map_cons, List.map_nil]); first | done | rfl | (simp only [List.length_drop, List.length_take]; rfl)) ?_; (with_reducible refine (lines_Fold.calls a0 t141 _ A2.out).mono ?_); rintro e w5 ⟨rfl, hb⟩; refine ⟨_, rfl, ?_⟩; have n0_ := Aside0.mk (below_step (by repeat (first | (with_reducible first | exact HB.out | apply below_alloc | apply pw_below_drewN | apply below_drew1) | exact HB.out)) hb); clear HB; have HB := n0_; clear n0_; (try clear hb); (try clear hb2); (try clear hk); (try clear hi)) | ((with_reducible refine gate_callee (f := 36) rfl ?_); refine goesL_ (some 8) rfl rfl Tryd.func36 (by kernel_rfl) rfl #[.string (⟨#[114, 111, 108, 108, 105, 110, 103]⟩ : ByteArray), .string t141] rfl (by (try simp only [List.map_toArray, List.map_cons, List.map_nil]); first | done | rfl | (simp only [List.length_drop, List.length_take]; rfl)) ?_; (with_reducible refine (strings_HasPrefix.calls (⟨#[114, 111, 108, 108, 105, 110, 103]⟩ : ByteArray) t141 true _ A3.out).mono ?_); rintro e w' ⟨rfl, ⟨nd, rfl⟩⟩; refine ⟨_, rfl, ?_⟩))
    go_ret2
    exact ⟨by first | rfl | (simp [errW_none, errW_some] <;> rfl) | (simp [*, errW_none, errW_some] <;> rfl), by repeat (first | (with_reducible first | exact HB.out | apply below_alloc | apply pw_below_drewN | apply below_drew1) | exact HB.out)⟩
  · replace c4 := Bool.eq_false_iff.mpr c4
    subst c4
    have H1 : ((strings_HasPrefix.f (⟨#[115, 116, 97, 116, 105, 111, 110, 97, 114, 121]⟩ : ByteArray) t141).bind fun t143 => (some (false, t143))) = some (r1, r2) := by rw [if_neg (show ¬ (false = true) by decide)] at H; exact H
    clear H
    have H := H1
    clear H1
    replace H := Option.bind_eq_some_iff.mp H
    obtain ⟨t143, A60, H⟩ := H
    replace H : (some (false, t143)) = some (r1, r2) := H
    have A6 := Aside0.mk A60
    clear A60
    simp only [Option.some.injEq, Prod.mk.injEq] at H
    obtain ⟨rfl, rfl⟩ := H
    go_enter Tryd.func78, Tryd.ntmps78
    go_wp2_with (first | ((with_reducible refine gate_callee (f := 19) rfl ?_); refine goesL_ (some 6) rfl rfl Tryd.func19 (by kernel_rfl) rfl #[.string a0] rfl (by (try simp only [List.map_toArray, List.map_cons, List.map_nil]); first | done | rfl | (simp only [List.length_drop, List.length_take]; rfl)) ?_; (with_reducible refine (lines_Fold.calls a0 t141 _ A2.out).mono ?_); rintro e w7 ⟨rfl, hb⟩; refine ⟨_, rfl, ?_⟩; have n0_ := Aside0.mk (below_step (by repeat (first | (with_reducible first | exact HB.out | apply below_alloc | apply pw_below_drewN | apply below_drew1) | exact HB.out)) hb); clear HB; have HB := n0_; clear n0_; (try clear hb); (try clear hb2); (try clear hk); (try clear hi)) | ((with_reducible refine gate_callee (f := 36) rfl ?_); refine goesL_ (some 8) rfl rfl Tryd.func36 (by kernel_rfl) rfl #[.string (⟨#[114, 111, 108, 108, 105, 110, 103]⟩ : ByteArray), .string t141] rfl (by (try simp only [List.map_toArray, List.map_cons, List.map_nil]); first | done | rfl | (simp only [List.length_drop, List.length_take]; rfl)) ?_; (with_reducible refine (strings_HasPrefix.calls (⟨#[114, 111, 108, 108, 105, 110, 103]⟩ : ByteArray) t141 false _ A3.out).mono ?_); rintro e w' ⟨rfl, ⟨nd, rfl⟩⟩; refine ⟨_, rfl, ?_⟩) | (go_at_call 36; (with_reducible refine (strings_HasPrefix.calls (⟨#[115, 116, 97, 116, 105, 111, 110, 97, 114, 121]⟩ : ByteArray) t141 t143 _ A6.out).mono ?_); rintro e w' ⟨rfl, ⟨nd, rfl⟩⟩))
    go_ret2
    exact ⟨by first | rfl | (simp [errW_none, errW_some] <;> rfl) | (simp [*, errW_none, errW_some] <;> rfl), by repeat (first | (with_reducible first | exact HB.out | apply below_alloc | apply pw_below_drewN | apply below_drew1) | exact HB.out)⟩
def zic_read.j0 : Nat → List ByteArray → ByteArray → Bool → Int → Int → Int → Int → Int → ByteArray → Bool → Option (Int × Int × Int × Int × Int × ByteArray × Bool × Bool)
  | 0, _, _, _, _, _, _, _, _, _, _ => none
  | k + 1, x0, x4, x11, x145000, x145001, x145002, x145003, x145004, x145005, x145006 => if x11 = true then ((zic_date.f 0 x0).bind fun bt147 => (if 6 < (x0.length : Int) then ((zic_roll.f (rdOf ByteArray.empty x0 6)).bind fun bt156 => (if 5 < (x0.length : Int) then (if (rdOf ByteArray.empty x0 5).toList = ([43] : List UInt8) then (if bt147.2.2.2.2.2.2.2 = true then (some (bt147.1, bt147.2.1, bt147.2.2.1, bt147.2.2.2.1, bt147.2.2.2.2.1, rdOf ByteArray.empty x0 5, bt156.1, bt156.2)) else (some (bt147.1, bt147.2.1, bt147.2.2.1, bt147.2.2.2.1, bt147.2.2.2.2.1, rdOf ByteArray.empty x0 5, bt156.1, false))) else (if (rdOf ByteArray.empty x0 5).toList = ([45] : List UInt8) then (if bt147.2.2.2.2.2.2.2 = true then (some (bt147.1, bt147.2.1, bt147.2.2.1, bt147.2.2.2.1, bt147.2.2.2.2.1, rdOf ByteArray.empty x0 5, bt156.1, bt156.2)) else (some (bt147.1, bt147.2.1, bt147.2.2.1, bt147.2.2.2.1, bt147.2.2.2.2.1, rdOf ByteArray.empty x0 5, bt156.1, false))) else (some (bt147.1, bt147.2.1, bt147.2.2.1, bt147.2.2.2.1, bt147.2.2.2.2.1, rdOf ByteArray.empty x0 5, bt156.1, false)))) else (none))) else (none))) else (if x4.toList = ([101, 120, 112, 105, 114, 101, 115] : List UInt8) then (if (x0.length : Int) = 5 then ((zic_date.f 1 x0).bind fun bt159 => (some (bt159.1, bt159.2.1, bt159.2.2.1, bt159.2.2.2.1, bt159.2.2.2.2.1, bt159.2.2.2.2.2.1, bt159.2.2.2.2.2.2.1, bt159.2.2.2.2.2.2.2))) else (some (x145000, x145001, x145002, x145003, x145004, x145005, x145006, false))) else (some (x145000, x145001, x145002, x145003, x145004, x145005, x145006, false)))
def zic_read.f (k : Nat) (l0 : List ByteArray) : Option (Int × Int × Int × Int × Int × ByteArray × Bool × Bool) := if 0 < (l0.length : Int) then ((lines_Fold.f (rdOf ByteArray.empty l0 0)).bind fun t146 => (if t146.toList = ([108, 101, 97, 112] : List UInt8) then (zic_read.j0 k l0 t146 ((l0.length : Int) == 7) 0 0 0 0 0 (⟨#[]⟩ : ByteArray) false) else (zic_read.j0 k l0 t146 false 0 0 0 0 0 (⟨#[]⟩ : ByteArray) false))) else (none)
theorem zic_read.mono_l : ∀ k, (∀ y0 y1 y2 y3 y4 y5 y6 y7 y8 y9, LeO (zic_read.j0 k y0 y1 y2 y3 y4 y5 y6 y7 y8 y9) (zic_read.j0 (k + 1) y0 y1 y2 y3 y4 y5 y6 y7 y8 y9))
  | 0 => fun _ _ _ _ _ _ _ _ _ _ r h => by simp [zic_read.j0] at h
  | k + 1 => by
    have ih0 := zic_read.mono_l k
    · intro y0 y1 y2 y3 y4 y5 y6 y7 y8 y9
      unfold zic_read.j0
      repeat' first
      | (with_reducible exact ih0 _ _ _ _ _ _ _ _ _ _)
      | (with_reducible exact LeO.refl _)
      | (with_reducible exact LeO.none _)
      | (with_reducible refine LeO.ite ?_ ?_)
      | (with_reducible refine LeO.bind ?_ (fun _ => ?_))
      | exact ih0 _ _ _ _ _ _ _ _ _ _
      | exact LeO.none _
      | refine LeO.ite ?_ ?_
      | refine LeO.bind ?_ (fun _ => ?_)
theorem zic_read.mono : ∀ a0 k, LeO (zic_read.f k a0) (zic_read.f (k + 1) a0) := by
  intro a0 k
  have ih0 := zic_read.mono_l k
  unfold zic_read.f
  repeat' first
      | (with_reducible exact ih0 _ _ _ _ _ _ _ _ _ _)
      | (with_reducible exact LeO.refl _)
      | (with_reducible exact LeO.none _)
      | (with_reducible refine LeO.ite ?_ ?_)
      | (with_reducible refine LeO.bind ?_ (fun _ => ?_))
      | exact ih0 _ _ _ _ _ _ _ _ _ _
      | exact LeO.none _
      | refine LeO.ite ?_ ?_
      | refine LeO.bind ?_ (fun _ => ?_)
set_option maxHeartbeats 8000000 in
set_option maxRecDepth 100000 in
theorem zic_read.calls (k : Nat) (A0 : Option Addr) (c0 : Nat) (l0 : List ByteArray) (r1 : Int) (r2 : Int) (r3 : Int) (r4 : Int) (r5 : Int) (r6 : ByteArray) (r7 : Bool) (r8 : Bool) (w : World) (hr0 : Kd.C Kd.string w A0 l0.length l0) (hc0 : l0.length ≤ c0) (h : zic_read.f k l0 = some (r1, r2, r3, r4, r5, r6, r7, r8)) :
    Calls Tryd.prog 57 #[.slice A0 l0.length c0] w fun e w' => e = .returned (.tuple #[.agg #[.int .i64 r1, .int .i64 r2, .int .i64 r3, .int .i64 r4, .int .i64 r5, .string r6, .bool r7], .bool r8]) ∧ Below w.heap.size w w' := by
  have hu98 := Tryd.underlying98
  have HR0 := Aside0.mk hr0
  have HC0 := Aside0.mk hc0
  clear hr0 hc0
  have HB := Aside0.mk (Below.refl w.heap.size w)
  have H : (if 0 < (l0.length : Int) then ((lines_Fold.f (rdOf ByteArray.empty l0 0)).bind fun t146 => (if t146.toList = ([108, 101, 97, 112] : List UInt8) then (zic_read.j0 k l0 t146 ((l0.length : Int) == 7) 0 0 0 0 0 (⟨#[]⟩ : ByteArray) false) else (zic_read.j0 k l0 t146 false 0 0 0 0 0 (⟨#[]⟩ : ByteArray) false))) else (none)) = some (r1, r2, r3, r4, r5, r6, r7, r8) := h
  clear h
  by_cases c2 : 0 < (l0.length : Int)
  · rw [if_pos c2] at H
    have c2b0 : decide (0 < (l0.length : Int)) = true := decide_eq_true c2
    have c2b1 : decide (0 < l0.length) = true := decide_eq_true (by omega)
    clear c2
    replace H := Option.bind_eq_some_iff.mp H
    obtain ⟨t146, A30, H⟩ := H
    replace H : (if t146.toList = ([108, 101, 97, 112] : List UInt8) then (zic_read.j0 k l0 t146 ((l0.length : Int) == 7) 0 0 0 0 0 (⟨#[]⟩ : ByteArray) false) else (zic_read.j0 k l0 t146 false 0 0 0 0 0 (⟨#[]⟩ : ByteArray) false)) = some (r1, r2, r3, r4, r5, r6, r7, r8) := H
    have A3 := Aside0.mk A30
    clear A30
    have HC4 := Aside0.mk H
    clear H
    go_enter Tryd.func57, Tryd.ntmps57
    go_upto_region 2 with (first | ((with_reducible refine gate_dst (N := 2) rfl ?_); (try (refine gate_guard (by rfl) ?_; dsimp only)); refine box_event ?hg (N := 2) ?hd (cs := #[.int .i64 0, .int .i64 0, .int .i64 0, .int .i64 0, .int .i64 0, .string (⟨#[]⟩ : ByteArray), .bool false]) (t := 98) ?hr ?_; (case hd => rfl); (case hg => rfl); (case hr => first | (go_simp; done) | (go_simp; rfl)); intro gb144 hg w5 hbox hb; have n0_ := Aside0.mk (below_step (by repeat (first | (with_reducible first | exact HB.out | apply below_alloc | apply pw_below_drewN | apply below_drew1) | exact HB.out)) hb); have n1_ := Aside0.mk (hbox); have n2_ := Aside0.mk ((by rw [hg]; exact (below_size (by repeat (first | (with_reducible first | exact HB.out | apply below_alloc | apply pw_below_drewN | apply below_drew1) | exact HB.out))) : w.heap.size ≤ gb144)); have n3_ := Aside0.mk ((by rw [hg]; exact (below_size (by repeat (first | (with_reducible first | exact HB.out | apply below_alloc | apply pw_below_drewN | apply below_drew1) | exact HB.out))) : w.heap.size ≤ gb144)); clear HB; have HB := n0_; have BK144 := n1_; have GW144 := n2_; have GE144 := n3_; clear n0_ n1_ n2_ n3_; clear hb hbox hg; have p145 : 0 ≤ (0 : Int) := (by omega); have q145 : 0 < (l0.length : Int) := of_decide_eq_true (by first | (with_reducible assumption) | assumption); obtain ⟨ad145, e145, hx145_0⟩ := Kd.at_string HR0.out 0 p145 q145; cases e145; have qi145 : (0 < l0.length) = True := eq_true (by omega); (try rw [show ((0 : Int)).toNat = 0 from rfl] at hx145_0); (try rw [Addr.add_zero'] at hx145_0); replace hx145_0 := (HB.out.cell (World.block_lt_of_cell? w _ hx145_0)).trans hx145_0; replace p145 := eq_true p145; replace q145 := eq_true q145) | ((with_reducible refine gate_callee (f := 19) rfl ?_); refine goesL_ (some 10) rfl rfl Tryd.func19 (by kernel_rfl) rfl #[.string (rdOf ByteArray.empty l0 0)] rfl (by (try simp only [List.map_toArray, List.map_cons, List.map_nil]); first | done | rfl | (simp only [List.length_drop, List.length_take]; rfl)) ?_; (with_reducible refine (lines_Fold.calls (rdOf ByteArray.empty l0 0) t146 _ A3.out).mono ?_); rintro e w6 ⟨rfl, hb⟩; refine ⟨_, rfl, ?_⟩; have n0_ := Aside0.mk (blk_below (g := gb144) (o := .cells #[.int .i64 0, .int .i64 0, .int .i64 0, .int .i64 0, .int .i64 0, .string (⟨#[]⟩ : ByteArray), .bool false] 98 (0, 0)) (by (with_reducible repeat (first | refine blk_drewN ?_ _ | refine blk_drew ?_ | refine blk_alloc ?_ _)); exact BK144.out) hb); have n1_ := Aside0.mk (below_step (by repeat (first | (with_reducible first | exact HB.out | apply below_alloc | apply pw_below_drewN | apply below_drew1 | refine below_set ?_ GE144.out) | exact HB.out)) hb); clear BK144; clear HB; have BK144 := n0_; have HB := n1_; clear n0_ n1_; (try clear hb); (try clear hb2); (try clear hk); (try clear hi)))
    (try simp only [Act.put, List.setIfInBounds_toArray, List.set_cons_zero, List.set_cons_succ])
    go_cut [11] (fun v11 wc => ∃ (kq : Nat) (x11_3 : Bool), v11 = .bool x11_3 ∧ Aside0 (zic_read.j0 kq l0 t146 x11_3 0 0 0 0 0 (⟨#[]⟩ : ByteArray) false = some (r1, r2, r3, r4, r5, r6, r7, r8)) ∧ Aside0 (kq ≤ k) ∧ Aside0 (wc.heap[gb144]? = some (.cells #[.int .i64 0, .int .i64 0, .int .i64 0, .int .i64 0, .int .i64 0, .string (⟨#[]⟩ : ByteArray), .bool false] 98 (0, 0))) ∧ Aside0 (Below w.heap.size w wc))
    case first =>
      have H := HC4.out
      clear HC4
      by_cases c7 : t146.toList = ([108, 101, 97, 112] : List UInt8)
      · rw [if_pos c7] at H
        have c7b0 : (t146.toList == ([108, 101, 97, 112] : List UInt8)) = true := beq_iff_eq.mpr c7
        have c7b1 : (t146.toList != ([108, 101, 97, 112] : List UInt8)) = false := bne_eq_false_iff_eq.mpr c7
        clear c7
        (first | rw [c7b0] | (simp only [i64_w, i32_w]; rw [c7b0]) | skip)
        have H' := Aside0.mk H
        clear H
        go_wp2
        go_meet
        case rel => exact ⟨_, (((l0.length : Int) == 7)), (by first | rfl | (simp; done) | (simp [*]; done)), H', ⟨by first | omega | exact Nat.le_refl _⟩, ⟨by (with_reducible repeat (first | refine blk_drewN ?_ _ | refine blk_drew ?_ | refine blk_alloc ?_ _)); exact BK144.out⟩, ⟨by repeat (first | (with_reducible first | exact HB.out | apply below_alloc | apply pw_below_drewN | apply below_drew1 | refine below_set ?_ GE144.out) | exact HB.out)⟩⟩
      · rw [if_neg c7] at H
        have c7b0 : (t146.toList == ([108, 101, 97, 112] : List UInt8)) = false := beq_eq_false_iff_ne.mpr c7
        have c7b1 : (t146.toList != ([108, 101, 97, 112] : List UInt8)) = true := bne_iff_ne.mpr c7
        (first | rw [c7b0] | (simp only [i64_w, i32_w]; rw [c7b0]) | skip)
        have H' := Aside0.mk H
        clear H
        go_wp2
        go_meet
        case rel => exact ⟨_, (false), (by first | rfl | (simp; done) | (simp [*]; done)), H', ⟨by first | omega | exact Nat.le_refl _⟩, ⟨by (with_reducible repeat (first | refine blk_drewN ?_ _ | refine blk_drew ?_ | refine blk_alloc ?_ _)); exact BK144.out⟩, ⟨by repeat (first | (with_reducible first | exact HB.out | apply below_alloc | apply pw_below_drewN | apply below_drew1 | refine below_set ?_ GE144.out) | exact HB.out)⟩⟩
    case rest =>
      clear HC4
      try clear c1
      try clear p1
      try clear q1
      try clear hx1
      try clear qi1
      try clear c2
      try clear c2b0
      try clear c2b1
      try clear p2
      try clear c5
      try clear c7
      try clear c7b0
      try clear c7b1
      try clear hx145_0
      try clear p145
      try clear q145
      obtain ⟨kq, x11_3, rfl, HA, HJ3, BK144, HB⟩ := hcut
      cases kq with
      | zero => exact absurd HA.out (by simp [zic_read.j0])
      | succ kj3 =>
        have H := HA.out
        clear HA
        simp only [zic_read.j0] at H
        by_cases c8 : x11_3 = true
        · subst c8
          have H1 : ((zic_date.f 0 l0).bind fun bt147 => (if 6 < (l0.length : Int) then ((zic_roll.f (rdOf ByteArray.empty l0 6)).bind fun bt156 => (if 5 < (l0.length : Int) then (if (rdOf ByteArray.empty l0 5).toList = ([43] : List UInt8) then (if bt147.2.2.2.2.2.2.2 = true then (some (bt147.1, bt147.2.1, bt147.2.2.1, bt147.2.2.2.1, bt147.2.2.2.2.1, rdOf ByteArray.empty l0 5, bt156.1, bt156.2)) else (some (bt147.1, bt147.2.1, bt147.2.2.1, bt147.2.2.2.1, bt147.2.2.2.2.1, rdOf ByteArray.empty l0 5, bt156.1, false))) else (if (rdOf ByteArray.empty l0 5).toList = ([45] : List UInt8) then (if bt147.2.2.2.2.2.2.2 = true then (some (bt147.1, bt147.2.1, bt147.2.2.1, bt147.2.2.2.1, bt147.2.2.2.2.1, rdOf ByteArray.empty l0 5, bt156.1, bt156.2)) else (some (bt147.1, bt147.2.1, bt147.2.2.1, bt147.2.2.2.1, bt147.2.2.2.2.1, rdOf ByteArray.empty l0 5, bt156.1, false))) else (some (bt147.1, bt147.2.1, bt147.2.2.1, bt147.2.2.2.1, bt147.2.2.2.2.1, rdOf ByteArray.empty l0 5, bt156.1, false)))) else (none))) else (none))) = some (r1, r2, r3, r4, r5, r6, r7, r8) := by rw [if_pos rfl] at H; exact H
          clear H
          have H := H1
          clear H1
          replace H := Option.bind_eq_some_iff.mp H
          obtain ⟨⟨t147, t148, t149, t150, t151, t152, t153, t154⟩, A90, H⟩ := H
          replace H : (if 6 < (l0.length : Int) then ((zic_roll.f (rdOf ByteArray.empty l0 6)).bind fun bt156 => (if 5 < (l0.length : Int) then (if (rdOf ByteArray.empty l0 5).toList = ([43] : List UInt8) then (if t154 = true then (some (t147, t148, t149, t150, t151, rdOf ByteArray.empty l0 5, bt156.1, bt156.2)) else (some (t147, t148, t149, t150, t151, rdOf ByteArray.empty l0 5, bt156.1, false))) else (if (rdOf ByteArray.empty l0 5).toList = ([45] : List UInt8) then (if t154 = true then (some (t147, t148, t149, t150, t151, rdOf ByteArray.empty l0 5, bt156.1, bt156.2)) else (some (t147, t148, t149, t150, t151, rdOf ByteArray.empty l0 5, bt156.1, false))) else (some (t147, t148, t149, t150, t151, rdOf ByteArray.empty l0 5, bt156.1, false)))) else (none))) else (none)) = some (r1, r2, r3, r4, r5, r6, r7, r8) := H
          have A9 := Aside0.mk A90
          clear A90
          by_cases c10 : 6 < (l0.length : Int)
          · rw [if_pos c10] at H
            have c10b0 : decide (6 < (l0.length : Int)) = true := decide_eq_true c10
            have c10b1 : decide (6 < l0.length) = true := decide_eq_true (by omega)
            clear c10
            replace H := Option.bind_eq_some_iff.mp H
            obtain ⟨⟨t156, t157⟩, A110, H⟩ := H
            replace H : (if 5 < (l0.length : Int) then (if (rdOf ByteArray.empty l0 5).toList = ([43] : List UInt8) then (if t154 = true then (some (t147, t148, t149, t150, t151, rdOf ByteArray.empty l0 5, t156, t157)) else (some (t147, t148, t149, t150, t151, rdOf ByteArray.empty l0 5, t156, false))) else (if (rdOf ByteArray.empty l0 5).toList = ([45] : List UInt8) then (if t154 = true then (some (t147, t148, t149, t150, t151, rdOf ByteArray.empty l0 5, t156, t157)) else (some (t147, t148, t149, t150, t151, rdOf ByteArray.empty l0 5, t156, false))) else (some (t147, t148, t149, t150, t151, rdOf ByteArray.empty l0 5, t156, false)))) else (none)) = some (r1, r2, r3, r4, r5, r6, r7, r8) := H
            have A11 := Aside0.mk A110
            clear A110
            by_cases c12 : 5 < (l0.length : Int)
            · rw [if_pos c12] at H
              have c12b0 : decide (5 < (l0.length : Int)) = true := decide_eq_true c12
              have c12b1 : decide (5 < l0.length) = true := decide_eq_true (by omega)
              clear c12
              by_cases c13 : (rdOf ByteArray.empty l0 5).toList = ([43] : List UInt8)
              · rw [if_pos c13] at H
                have c13b0 : ((rdOf ByteArray.empty l0 5).toList == ([43] : List UInt8)) = true := beq_iff_eq.mpr c13
                have c13b1 : ((rdOf ByteArray.empty l0 5).toList != ([43] : List UInt8)) = false := bne_eq_false_iff_eq.mpr c13
                clear c13
                by_cases c14 : t154 = true
                · subst c14
                  have H1 : (some (t147, t148, t149, t150, t151, rdOf ByteArray.empty l0 5, t156, t157)) = some (r1, r2, r3, r4, r5, r6, r7, r8) := by rw [if_pos rfl] at H; exact H
                  clear H
                  have H := H1
                  clear H1
                  simp only [Option.some.injEq, Prod.mk.injEq] at H
                  obtain ⟨rfl, rfl, rfl, rfl, rfl, rfl, rfl, rfl⟩ := H
                  go_wp2_with (first | ((with_reducible refine gate_callee (f := 77) rfl ?_); refine goesL_ (some 21) rfl rfl Tryd.func77 (by kernel_rfl) rfl #[.int .i64 0, .slice (some ad145) l0.length c0] rfl (by (try simp only [List.map_toArray, List.map_cons, List.map_nil]); first | done | rfl | (simp only [List.length_drop, List.length_take]; rfl)) ?_; (with_reducible refine (zic_date.calls 0 _ _ l0 t147 t148 t149 t150 t151 t152 t153 true _ ?side1 ?side2 A9.out).mono ?_); (case side1 => repeat (first | exact (Kd.C_below HR0.out HB.out) | (with_reducible refine Kd.C_alloc ?_ _) | (with_reducible refine Kd.C_drewN ?_ _) | (with_reducible refine Kd.C_drew ?_))); (case side2 => exact HC0.out); rintro e w15 ⟨rfl, hb⟩; refine ⟨_, rfl, ?_⟩; have n0_ := Aside0.mk (blk_below (g := gb144) (o := .cells #[.int .i64 0, .int .i64 0, .int .i64 0, .int .i64 0, .int .i64 0, .string (⟨#[]⟩ : ByteArray), .bool false] 98 (0, 0)) (by (with_reducible repeat (first | refine blk_drewN ?_ _ | refine blk_drew ?_ | refine blk_alloc ?_ _)); exact BK144.out) hb); have n1_ := Aside0.mk (below_step (by repeat (first | (with_reducible first | exact HB.out | apply below_alloc | apply pw_below_drewN | apply below_drew1 | refine below_set ?_ GE144.out) | exact HB.out)) hb); clear BK144; clear HB; have BK144 := n0_; have HB := n1_; clear n0_ n1_; (try clear hb); (try clear hb2); (try clear hk); (try clear hi); have hcz16_0 : w15.cell? ⟨gb144, 0, none⟩ = some (.int .i64 0) := (blk_cell BK144.out 0).trans rfl; have hcz16_1 : w15.cell? ⟨gb144, 1, none⟩ = some (.int .i64 0) := (blk_cell BK144.out 1).trans rfl; have hcz16_2 : w15.cell? ⟨gb144, 2, none⟩ = some (.int .i64 0) := (blk_cell BK144.out 2).trans rfl; have hcz16_3 : w15.cell? ⟨gb144, 3, none⟩ = some (.int .i64 0) := (blk_cell BK144.out 3).trans rfl; have hcz16_4 : w15.cell? ⟨gb144, 4, none⟩ = some (.int .i64 0) := (blk_cell BK144.out 4).trans rfl; have hcz16_5 : w15.cell? ⟨gb144, 5, none⟩ = some (.string (⟨#[]⟩ : ByteArray)) := (blk_cell BK144.out 5).trans rfl; have hcz16_6 : w15.cell? ⟨gb144, 6, none⟩ = some (.bool false) := (blk_cell BK144.out 6).trans rfl; have hfz16_0 := blk_frozen BK144.out 0; have hfz16_1 := blk_frozen BK144.out 1; have hfz16_2 := blk_frozen BK144.out 2; have hfz16_3 := blk_frozen BK144.out 3; have hfz16_4 := blk_frozen BK144.out 4; have hfz16_5 := blk_frozen BK144.out 5; have hfz16_6 := blk_frozen BK144.out 6; have p155 : 0 ≤ (6 : Int) := (by omega); have q155 : 6 < (l0.length : Int) := of_decide_eq_true (by first | (with_reducible assumption) | assumption); obtain ⟨ad155, e155, hx155_0⟩ := Kd.at_string HR0.out 6 p155 q155; obtain rfl : ad145 = ad155 := (by injection e155); (try simp only [show (6 : Int).toNat = 6 from rfl, Nat.reduceMul, Nat.reduceEqDiff, Go.Addr.add, ↓reduceIte] at hx155_0); have qi155 : (6 < l0.length) = True := eq_true (by omega); (try rw [show ((6 : Int)).toNat = 6 from rfl] at hx155_0); have hn155_0 : ad145.block ≠ gb144 := Nat.ne_of_lt (Nat.lt_of_lt_of_le (by have := World.block_lt_of_cell? _ _ hx155_0; first | rwa [add_block] at this | exact this) GW144.out); have hn155_1 : ad145.block ≠ gb144 := Nat.ne_of_lt (Nat.lt_of_lt_of_le (by have := World.block_lt_of_cell? _ _ hx155_0; first | rwa [add_block] at this | exact this) GW144.out); have hn155_2 : ad145.block ≠ gb144 := Nat.ne_of_lt (Nat.lt_of_lt_of_le (by have := World.block_lt_of_cell? _ _ hx155_0; first | rwa [add_block] at this | exact this) GW144.out); have hn155_3 : ad145.block ≠ gb144 := Nat.ne_of_lt (Nat.lt_of_lt_of_le (by have := World.block_lt_of_cell? _ _ hx155_0; first | rwa [add_block] at this | exact this) GW144.out); have hn155_4 : ad145.block ≠ gb144 := Nat.ne_of_lt (Nat.lt_of_lt_of_le (by have := World.block_lt_of_cell? _ _ hx155_0; first | rwa [add_block] at this | exact this) GW144.out); have hn155_5 : ad145.block ≠ gb144 := Nat.ne_of_lt (Nat.lt_of_lt_of_le (by have := World.block_lt_of_cell? _ _ hx155_0; first | rwa [add_block] at this | exact this) GW144.out); have hn155_6 : ad145.block ≠ gb144 := Nat.ne_of_lt (Nat.lt_of_lt_of_le (by have := World.block_lt_of_cell? _ _ hx155_0; first | rwa [add_block] at this | exact this) GW144.out); replace hx155_0 := (HB.out.cell (World.block_lt_of_cell? w _ hx155_0)).trans hx155_0; replace hx155_0 := (cell_far (p := ⟨gb144, 0, none⟩) (by first | (rw [add_block]; exact hn155_0) | (show (Addr.add _ _).block ≠ _; rw [add_block]; exact hn155_0) | exact hn155_0) (.int .i64 t147)).trans hx155_0; replace hx155_0 := (cell_far (p := ⟨gb144, 1, none⟩) (by first | (rw [add_block]; exact hn155_1) | (show (Addr.add _ _).block ≠ _; rw [add_block]; exact hn155_1) | exact hn155_1) (.int .i64 t148)).trans hx155_0; replace hx155_0 := (cell_far (p := ⟨gb144, 2, none⟩) (by first | (rw [add_block]; exact hn155_2) | (show (Addr.add _ _).block ≠ _; rw [add_block]; exact hn155_2) | exact hn155_2) (.int .i64 t149)).trans hx155_0; replace hx155_0 := (cell_far (p := ⟨gb144, 3, none⟩) (by first | (rw [add_block]; exact hn155_3) | (show (Addr.add _ _).block ≠ _; rw [add_block]; exact hn155_3) | exact hn155_3) (.int .i64 t150)).trans hx155_0; replace hx155_0 := (cell_far (p := ⟨gb144, 4, none⟩) (by first | (rw [add_block]; exact hn155_4) | (show (Addr.add _ _).block ≠ _; rw [add_block]; exact hn155_4) | exact hn155_4) (.int .i64 t151)).trans hx155_0; replace hx155_0 := (cell_far (p := ⟨gb144, 5, none⟩) (by first | (rw [add_block]; exact hn155_5) | (show (Addr.add _ _).block ≠ _; rw [add_block]; exact hn155_5) | exact hn155_5) (.string t152)).trans hx155_0; replace hx155_0 := (cell_far (p := ⟨gb144, 6, none⟩) (by first | (rw [add_block]; exact hn155_6) | (show (Addr.add _ _).block ≠ _; rw [add_block]; exact hn155_6) | exact hn155_6) (.bool t153)).trans hx155_0; clear hn155_0; clear hn155_1; clear hn155_2; clear hn155_3; clear hn155_4; clear hn155_5; clear hn155_6; replace p155 := eq_true p155; replace q155 := eq_true q155) | ((with_reducible refine gate_callee (f := 78) rfl ?_); refine goesL_ (some 28) rfl rfl Tryd.func78 (by kernel_rfl) rfl #[.string (rdOf ByteArray.empty l0 6)] rfl (by (try simp only [List.map_toArray, List.map_cons, List.map_nil]); first | done | rfl | (simp only [List.length_drop, List.length_take]; rfl)) ?_; (with_reducible refine (zic_roll.calls (rdOf ByteArray.empty l0 6) t156 t157 _ A11.out).mono ?_); rintro e w17 ⟨rfl, hb⟩; refine ⟨_, rfl, ?_⟩; have n0_ := Aside0.mk (blk_below (g := gb144) (o := .cells #[.int .i64 t147, .int .i64 t148, .int .i64 t149, .int .i64 t150, .int .i64 t151, .string t152, .bool t153] 98 (0, 0)) (by (with_reducible repeat (first | refine blk_drewN ?_ _ | refine blk_drew ?_ | refine blk_alloc ?_ _)); refine blk_put (cs := #[.int .i64 t147, .int .i64 t148, .int .i64 t149, .int .i64 t150, .int .i64 t151, .string t152, .bool false]) ?_ 6 _ rfl; (with_reducible repeat (first | refine blk_drewN ?_ _ | refine blk_drew ?_ | refine blk_alloc ?_ _)); refine blk_put (cs := #[.int .i64 t147, .int .i64 t148, .int .i64 t149, .int .i64 t150, .int .i64 t151, .string (⟨#[]⟩ : ByteArray), .bool false]) ?_ 5 _ rfl; (with_reducible repeat (first | refine blk_drewN ?_ _ | refine blk_drew ?_ | refine blk_alloc ?_ _)); refine blk_put (cs := #[.int .i64 t147, .int .i64 t148, .int .i64 t149, .int .i64 t150, .int .i64 0, .string (⟨#[]⟩ : ByteArray), .bool false]) ?_ 4 _ rfl; (with_reducible repeat (first | refine blk_drewN ?_ _ | refine blk_drew ?_ | refine blk_alloc ?_ _)); refine blk_put (cs := #[.int .i64 t147, .int .i64 t148, .int .i64 t149, .int .i64 0, .int .i64 0, .string (⟨#[]⟩ : ByteArray), .bool false]) ?_ 3 _ rfl; (with_reducible repeat (first | refine blk_drewN ?_ _ | refine blk_drew ?_ | refine blk_alloc ?_ _)); refine blk_put (cs := #[.int .i64 t147, .int .i64 t148, .int .i64 0, .int .i64 0, .int .i64 0, .string (⟨#[]⟩ : ByteArray), .bool false]) ?_ 2 _ rfl; (with_reducible repeat (first | refine blk_drewN ?_ _ | refine blk_drew ?_ | refine blk_alloc ?_ _)); refine blk_put (cs := #[.int .i64 t147, .int .i64 0, .int .i64 0, .int .i64 0, .int .i64 0, .string (⟨#[]⟩ : ByteArray), .bool false]) ?_ 1 _ rfl; (with_reducible repeat (first | refine blk_drewN ?_ _ | refine blk_drew ?_ | refine blk_alloc ?_ _)); refine blk_put (cs := #[.int .i64 0, .int .i64 0, .int .i64 0, .int .i64 0, .int .i64 0, .string (⟨#[]⟩ : ByteArray), .bool false]) ?_ 0 _ rfl; (with_reducible repeat (first | refine blk_drewN ?_ _ | refine blk_drew ?_ | refine blk_alloc ?_ _)); exact BK144.out) hb); have n1_ := Aside0.mk (below_step (by repeat (first | (with_reducible first | exact HB.out | apply below_alloc | apply pw_below_drewN | apply below_drew1 | refine below_set ?_ GE144.out) | exact HB.out)) hb); clear BK144; clear HB; have BK144 := n0_; have HB := n1_; clear n0_ n1_; (try clear hb); (try clear hb2); (try clear hk); (try clear hi); have p158 : 0 ≤ (5 : Int) := (by omega); have q158 : 5 < (l0.length : Int) := of_decide_eq_true (by first | (with_reducible assumption) | assumption); obtain ⟨ad158, e158, hx158_0⟩ := Kd.at_string HR0.out 5 p158 q158; obtain rfl : ad145 = ad158 := (by injection e158); (try simp only [show (5 : Int).toNat = 5 from rfl, Nat.reduceMul, Nat.reduceEqDiff, Go.Addr.add, ↓reduceIte] at hx158_0); have qi158 : (5 < l0.length) = True := eq_true (by omega); (try rw [show ((5 : Int)).toNat = 5 from rfl] at hx158_0); replace hx158_0 := (HB.out.cell (World.block_lt_of_cell? w _ hx158_0)).trans hx158_0; replace p158 := eq_true p158; replace q158 := eq_true q158; have hcz18_0 : w17.cell? ⟨gb144, 0, none⟩ = some (.int .i64 t147) := (blk_cell BK144.out 0).trans rfl; have hcz18_1 : w17.cell? ⟨gb144, 1, none⟩ = some (.int .i64 t148) := (blk_cell BK144.out 1).trans rfl; have hcz18_2 : w17.cell? ⟨gb144, 2, none⟩ = some (.int .i64 t149) := (blk_cell BK144.out 2).trans rfl; have hcz18_3 : w17.cell? ⟨gb144, 3, none⟩ = some (.int .i64 t150) := (blk_cell BK144.out 3).trans rfl; have hcz18_4 : w17.cell? ⟨gb144, 4, none⟩ = some (.int .i64 t151) := (blk_cell BK144.out 4).trans rfl; have hcz18_5 : w17.cell? ⟨gb144, 5, none⟩ = some (.string t152) := (blk_cell BK144.out 5).trans rfl; have hcz18_6 : w17.cell? ⟨gb144, 6, none⟩ = some (.bool t153) := (blk_cell BK144.out 6).trans rfl; have hfz18_0 := blk_frozen BK144.out 0; have hfz18_1 := blk_frozen BK144.out 1; have hfz18_2 := blk_frozen BK144.out 2; have hfz18_3 := blk_frozen BK144.out 3; have hfz18_4 := blk_frozen BK144.out 4; have hfz18_5 := blk_frozen BK144.out 5; have hfz18_6 := blk_frozen BK144.out 6))
                  refine bodyPost_ret (results_ct rfl _ _ gb144 98 #[.int .i64 t147, .int .i64 t148, .int .i64 t149, .int .i64 t150, .int .i64 t151, .string (rdOf ByteArray.empty l0 5), .bool t156] (0, 0) _ rfl (by (with_reducible repeat (first | refine blk_drewN ?_ _ | refine blk_drew ?_ | refine blk_alloc ?_ _)); refine blk_put (cs := #[.int .i64 t147, .int .i64 t148, .int .i64 t149, .int .i64 t150, .int .i64 t151, .string (rdOf ByteArray.empty l0 5), .bool t156]) ?_ 6 _ rfl; (with_reducible repeat (first | refine blk_drewN ?_ _ | refine blk_drew ?_ | refine blk_alloc ?_ _)); refine blk_put (cs := #[.int .i64 t147, .int .i64 t148, .int .i64 t149, .int .i64 t150, .int .i64 t151, .string (rdOf ByteArray.empty l0 5), .bool t156]) ?_ 5 _ rfl; (with_reducible repeat (first | refine blk_drewN ?_ _ | refine blk_drew ?_ | refine blk_alloc ?_ _)); refine blk_put (cs := #[.int .i64 t147, .int .i64 t148, .int .i64 t149, .int .i64 t150, .int .i64 t151, .string (rdOf ByteArray.empty l0 5), .bool t156]) ?_ 4 _ rfl; (with_reducible repeat (first | refine blk_drewN ?_ _ | refine blk_drew ?_ | refine blk_alloc ?_ _)); refine blk_put (cs := #[.int .i64 t147, .int .i64 t148, .int .i64 t149, .int .i64 t150, .int .i64 t151, .string (rdOf ByteArray.empty l0 5), .bool t156]) ?_ 3 _ rfl; (with_reducible repeat (first | refine blk_drewN ?_ _ | refine blk_drew ?_ | refine blk_alloc ?_ _)); refine blk_put (cs := #[.int .i64 t147, .int .i64 t148, .int .i64 t149, .int .i64 t150, .int .i64 t151, .string (rdOf ByteArray.empty l0 5), .bool t156]) ?_ 2 _ rfl; (with_reducible repeat (first | refine blk_drewN ?_ _ | refine blk_drew ?_ | refine blk_alloc ?_ _)); refine blk_put (cs := #[.int .i64 t147, .int .i64 t148, .int .i64 t149, .int .i64 t150, .int .i64 t151, .string (rdOf ByteArray.empty l0 5), .bool t156]) ?_ 1 _ rfl; (with_reducible repeat (first | refine blk_drewN ?_ _ | refine blk_drew ?_ | refine blk_alloc ?_ _)); refine blk_put (cs := #[.int .i64 t147, .int .i64 t148, .int .i64 t149, .int .i64 t150, .int .i64 t151, .string (rdOf ByteArray.empty l0 5), .bool t156]) ?_ 0 _ rfl; (with_reducible repeat (first | refine blk_drewN ?_ _ | refine blk_drew ?_ | refine blk_alloc ?_ _)); refine blk_put (cs := #[.int .i64 t147, .int .i64 t148, .int .i64 t149, .int .i64 t150, .int .i64 t151, .string (rdOf ByteArray.empty l0 5), .bool t153]) ?_ 6 _ rfl; (with_reducible repeat (first | refine blk_drewN ?_ _ | refine blk_drew ?_ | refine blk_alloc ?_ _)); refine blk_put (cs := #[.int .i64 t147, .int .i64 t148, .int .i64 t149, .int .i64 t150, .int .i64 t151, .string t152, .bool t153]) ?_ 5 _ rfl; (with_reducible repeat (first | refine blk_drewN ?_ _ | refine blk_drew ?_ | refine blk_alloc ?_ _)); exact BK144.out) Tryd.underlying98 rfl (by kernel_rfl)) rfl ?_
                  exact ⟨by first | rfl | (simp [errW_none, errW_some] <;> rfl) | (simp [*, errW_none, errW_some] <;> rfl), by repeat (first | (with_reducible first | exact HB.out | apply below_alloc | apply pw_below_drewN | apply below_drew1 | refine below_set ?_ GE144.out) | exact HB.out)⟩
                · replace c14 := Bool.eq_false_iff.mpr c14
                  subst c14
                  have H1 : (some (t147, t148, t149, t150, t151, rdOf ByteArray.empty l0 5, t156, false)) = some (r1, r2, r3, r4, r5, r6, r7, r8) := by rw [if_neg (show ¬ (false = true) by decide)] at H; exact H
                  clear H
                  have H := H1
                  clear H1
                  simp only [Option.some.injEq, Prod.mk.injEq] at H
                  obtain ⟨rfl, rfl, rfl, rfl, rfl, rfl, rfl, rfl⟩ := H
                  go_wp2_with (first | ((with_reducible refine gate_callee (f := 77) rfl ?_); refine goesL_ (some 21) rfl rfl Tryd.func77 (by kernel_rfl) rfl #[.int .i64 0, .slice (some ad145) l0.length c0] rfl (by (try simp only [List.map_toArray, List.map_cons, List.map_nil]); first | done | rfl | (simp only [List.length_drop, List.length_take]; rfl)) ?_; (with_reducible refine (zic_date.calls 0 _ _ l0 t147 t148 t149 t150 t151 t152 t153 false _ ?side1 ?side2 A9.out).mono ?_); (case side1 => repeat (first | exact (Kd.C_below HR0.out HB.out) | (with_reducible refine Kd.C_alloc ?_ _) | (with_reducible refine Kd.C_drewN ?_ _) | (with_reducible refine Kd.C_drew ?_))); (case side2 => exact HC0.out); rintro e w19 ⟨rfl, hb⟩; refine ⟨_, rfl, ?_⟩; have n0_ := Aside0.mk (blk_below (g := gb144) (o := .cells #[.int .i64 0, .int .i64 0, .int .i64 0, .int .i64 0, .int .i64 0, .string (⟨#[]⟩ : ByteArray), .bool false] 98 (0, 0)) (by (with_reducible repeat (first | refine blk_drewN ?_ _ | refine blk_drew ?_ | refine blk_alloc ?_ _)); exact BK144.out) hb); have n1_ := Aside0.mk (below_step (by repeat (first | (with_reducible first | exact HB.out | apply below_alloc | apply pw_below_drewN | apply below_drew1 | refine below_set ?_ GE144.out) | exact HB.out)) hb); clear BK144; clear HB; have BK144 := n0_; have HB := n1_; clear n0_ n1_; (try clear hb); (try clear hb2); (try clear hk); (try clear hi); have hcz20_0 : w19.cell? ⟨gb144, 0, none⟩ = some (.int .i64 0) := (blk_cell BK144.out 0).trans rfl; have hcz20_1 : w19.cell? ⟨gb144, 1, none⟩ = some (.int .i64 0) := (blk_cell BK144.out 1).trans rfl; have hcz20_2 : w19.cell? ⟨gb144, 2, none⟩ = some (.int .i64 0) := (blk_cell BK144.out 2).trans rfl; have hcz20_3 : w19.cell? ⟨gb144, 3, none⟩ = some (.int .i64 0) := (blk_cell BK144.out 3).trans rfl; have hcz20_4 : w19.cell? ⟨gb144, 4, none⟩ = some (.int .i64 0) := (blk_cell BK144.out 4).trans rfl; have hcz20_5 : w19.cell? ⟨gb144, 5, none⟩ = some (.string (⟨#[]⟩ : ByteArray)) := (blk_cell BK144.out 5).trans rfl; have hcz20_6 : w19.cell? ⟨gb144, 6, none⟩ = some (.bool false) := (blk_cell BK144.out 6).trans rfl; have hfz20_0 := blk_frozen BK144.out 0; have hfz20_1 := blk_frozen BK144.out 1; have hfz20_2 := blk_frozen BK144.out 2; have hfz20_3 := blk_frozen BK144.out 3; have hfz20_4 := blk_frozen BK144.out 4; have hfz20_5 := blk_frozen BK144.out 5; have hfz20_6 := blk_frozen BK144.out 6; have p155 : 0 ≤ (6 : Int) := (by omega); have q155 : 6 < (l0.length : Int) := of_decide_eq_true (by first | (with_reducible assumption) | assumption); obtain ⟨ad155, e155, hx155_0⟩ := Kd.at_string HR0.out 6 p155 q155; obtain rfl : ad145 = ad155 := (by injection e155); (try simp only [show (6 : Int).toNat = 6 from rfl, Nat.reduceMul, Nat.reduceEqDiff, Go.Addr.add, ↓reduceIte] at hx155_0); have qi155 : (6 < l0.length) = True := eq_true (by omega); (try rw [show ((6 : Int)).toNat = 6 from rfl] at hx155_0); have hn155_0 : ad145.block ≠ gb144 := Nat.ne_of_lt (Nat.lt_of_lt_of_le (by have := World.block_lt_of_cell? _ _ hx155_0; first | rwa [add_block] at this | exact this) GW144.out); have hn155_1 : ad145.block ≠ gb144 := Nat.ne_of_lt (Nat.lt_of_lt_of_le (by have := World.block_lt_of_cell? _ _ hx155_0; first | rwa [add_block] at this | exact this) GW144.out); have hn155_2 : ad145.block ≠ gb144 := Nat.ne_of_lt (Nat.lt_of_lt_of_le (by have := World.block_lt_of_cell? _ _ hx155_0; first | rwa [add_block] at this | exact this) GW144.out); have hn155_3 : ad145.block ≠ gb144 := Nat.ne_of_lt (Nat.lt_of_lt_of_le (by have := World.block_lt_of_cell? _ _ hx155_0; first | rwa [add_block] at this | exact this) GW144.out); have hn155_4 : ad145.block ≠ gb144 := Nat.ne_of_lt (Nat.lt_of_lt_of_le (by have := World.block_lt_of_cell? _ _ hx155_0; first | rwa [add_block] at this | exact this) GW144.out); have hn155_5 : ad145.block ≠ gb144 := Nat.ne_of_lt (Nat.lt_of_lt_of_le (by have := World.block_lt_of_cell? _ _ hx155_0; first | rwa [add_block] at this | exact this) GW144.out); have hn155_6 : ad145.block ≠ gb144 := Nat.ne_of_lt (Nat.lt_of_lt_of_le (by have := World.block_lt_of_cell? _ _ hx155_0; first | rwa [add_block] at this | exact this) GW144.out); replace hx155_0 := (HB.out.cell (World.block_lt_of_cell? w _ hx155_0)).trans hx155_0; replace hx155_0 := (cell_far (p := ⟨gb144, 0, none⟩) (by first | (rw [add_block]; exact hn155_0) | (show (Addr.add _ _).block ≠ _; rw [add_block]; exact hn155_0) | exact hn155_0) (.int .i64 t147)).trans hx155_0; replace hx155_0 := (cell_far (p := ⟨gb144, 1, none⟩) (by first | (rw [add_block]; exact hn155_1) | (show (Addr.add _ _).block ≠ _; rw [add_block]; exact hn155_1) | exact hn155_1) (.int .i64 t148)).trans hx155_0; replace hx155_0 := (cell_far (p := ⟨gb144, 2, none⟩) (by first | (rw [add_block]; exact hn155_2) | (show (Addr.add _ _).block ≠ _; rw [add_block]; exact hn155_2) | exact hn155_2) (.int .i64 t149)).trans hx155_0; replace hx155_0 := (cell_far (p := ⟨gb144, 3, none⟩) (by first | (rw [add_block]; exact hn155_3) | (show (Addr.add _ _).block ≠ _; rw [add_block]; exact hn155_3) | exact hn155_3) (.int .i64 t150)).trans hx155_0; replace hx155_0 := (cell_far (p := ⟨gb144, 4, none⟩) (by first | (rw [add_block]; exact hn155_4) | (show (Addr.add _ _).block ≠ _; rw [add_block]; exact hn155_4) | exact hn155_4) (.int .i64 t151)).trans hx155_0; replace hx155_0 := (cell_far (p := ⟨gb144, 5, none⟩) (by first | (rw [add_block]; exact hn155_5) | (show (Addr.add _ _).block ≠ _; rw [add_block]; exact hn155_5) | exact hn155_5) (.string t152)).trans hx155_0; replace hx155_0 := (cell_far (p := ⟨gb144, 6, none⟩) (by first | (rw [add_block]; exact hn155_6) | (show (Addr.add _ _).block ≠ _; rw [add_block]; exact hn155_6) | exact hn155_6) (.bool t153)).trans hx155_0; clear hn155_0; clear hn155_1; clear hn155_2; clear hn155_3; clear hn155_4; clear hn155_5; clear hn155_6; replace p155 := eq_true p155; replace q155 := eq_true q155) | ((with_reducible refine gate_callee (f := 78) rfl ?_); refine goesL_ (some 28) rfl rfl Tryd.func78 (by kernel_rfl) rfl #[.string (rdOf ByteArray.empty l0 6)] rfl (by (try simp only [List.map_toArray, List.map_cons, List.map_nil]); first | done | rfl | (simp only [List.length_drop, List.length_take]; rfl)) ?_; (with_reducible refine (zic_roll.calls (rdOf ByteArray.empty l0 6) t156 t157 _ A11.out).mono ?_); rintro e w21 ⟨rfl, hb⟩; refine ⟨_, rfl, ?_⟩; have n0_ := Aside0.mk (blk_below (g := gb144) (o := .cells #[.int .i64 t147, .int .i64 t148, .int .i64 t149, .int .i64 t150, .int .i64 t151, .string t152, .bool t153] 98 (0, 0)) (by (with_reducible repeat (first | refine blk_drewN ?_ _ | refine blk_drew ?_ | refine blk_alloc ?_ _)); refine blk_put (cs := #[.int .i64 t147, .int .i64 t148, .int .i64 t149, .int .i64 t150, .int .i64 t151, .string t152, .bool false]) ?_ 6 _ rfl; (with_reducible repeat (first | refine blk_drewN ?_ _ | refine blk_drew ?_ | refine blk_alloc ?_ _)); refine blk_put (cs := #[.int .i64 t147, .int .i64 t148, .int .i64 t149, .int .i64 t150, .int .i64 t151, .string (⟨#[]⟩ : ByteArray), .bool false]) ?_ 5 _ rfl; (with_reducible repeat (first | refine blk_drewN ?_ _ | refine blk_drew ?_ | refine blk_alloc ?_ _)); refine blk_put (cs := #[.int .i64 t147, .int .i64 t148, .int .i64 t149, .int .i64 t150, .int .i64 0, .string (⟨#[]⟩ : ByteArray), .bool false]) ?_ 4 _ rfl; (with_reducible repeat (first | refine blk_drewN ?_ _ | refine blk_drew ?_ | refine blk_alloc ?_ _)); refine blk_put (cs := #[.int .i64 t147, .int .i64 t148, .int .i64 t149, .int .i64 0, .int .i64 0, .string (⟨#[]⟩ : ByteArray), .bool false]) ?_ 3 _ rfl; (with_reducible repeat (first | refine blk_drewN ?_ _ | refine blk_drew ?_ | refine blk_alloc ?_ _)); refine blk_put (cs := #[.int .i64 t147, .int .i64 t148, .int .i64 0, .int .i64 0, .int .i64 0, .string (⟨#[]⟩ : ByteArray), .bool false]) ?_ 2 _ rfl; (with_reducible repeat (first | refine blk_drewN ?_ _ | refine blk_drew ?_ | refine blk_alloc ?_ _)); refine blk_put (cs := #[.int .i64 t147, .int .i64 0, .int .i64 0, .int .i64 0, .int .i64 0, .string (⟨#[]⟩ : ByteArray), .bool false]) ?_ 1 _ rfl; (with_reducible repeat (first | refine blk_drewN ?_ _ | refine blk_drew ?_ | refine blk_alloc ?_ _)); refine blk_put (cs := #[.int .i64 0, .int .i64 0, .int .i64 0, .int .i64 0, .int .i64 0, .string (⟨#[]⟩ : ByteArray), .bool false]) ?_ 0 _ rfl; (with_reducible repeat (first | refine blk_drewN ?_ _ | refine blk_drew ?_ | refine blk_alloc ?_ _)); exact BK144.out) hb); have n1_ := Aside0.mk (below_step (by repeat (first | (with_reducible first | exact HB.out | apply below_alloc | apply pw_below_drewN | apply below_drew1 | refine below_set ?_ GE144.out) | exact HB.out)) hb); clear BK144; clear HB; have BK144 := n0_; have HB := n1_; clear n0_ n1_; (try clear hb); (try clear hb2); (try clear hk); (try clear hi); have p158 : 0 ≤ (5 : Int) := (by omega); have q158 : 5 < (l0.length : Int) := of_decide_eq_true (by first | (with_reducible assumption) | assumption); obtain ⟨ad158, e158, hx158_0⟩ := Kd.at_string HR0.out 5 p158 q158; obtain rfl : ad145 = ad158 := (by injection e158); (try simp only [show (5 : Int).toNat = 5 from rfl, Nat.reduceMul, Nat.reduceEqDiff, Go.Addr.add, ↓reduceIte] at hx158_0); have qi158 : (5 < l0.length) = True := eq_true (by omega); (try rw [show ((5 : Int)).toNat = 5 from rfl] at hx158_0); replace hx158_0 := (HB.out.cell (World.block_lt_of_cell? w _ hx158_0)).trans hx158_0; replace p158 := eq_true p158; replace q158 := eq_true q158; have hcz22_0 : w21.cell? ⟨gb144, 0, none⟩ = some (.int .i64 t147) := (blk_cell BK144.out 0).trans rfl; have hcz22_1 : w21.cell? ⟨gb144, 1, none⟩ = some (.int .i64 t148) := (blk_cell BK144.out 1).trans rfl; have hcz22_2 : w21.cell? ⟨gb144, 2, none⟩ = some (.int .i64 t149) := (blk_cell BK144.out 2).trans rfl; have hcz22_3 : w21.cell? ⟨gb144, 3, none⟩ = some (.int .i64 t150) := (blk_cell BK144.out 3).trans rfl; have hcz22_4 : w21.cell? ⟨gb144, 4, none⟩ = some (.int .i64 t151) := (blk_cell BK144.out 4).trans rfl; have hcz22_5 : w21.cell? ⟨gb144, 5, none⟩ = some (.string t152) := (blk_cell BK144.out 5).trans rfl; have hcz22_6 : w21.cell? ⟨gb144, 6, none⟩ = some (.bool t153) := (blk_cell BK144.out 6).trans rfl; have hfz22_0 := blk_frozen BK144.out 0; have hfz22_1 := blk_frozen BK144.out 1; have hfz22_2 := blk_frozen BK144.out 2; have hfz22_3 := blk_frozen BK144.out 3; have hfz22_4 := blk_frozen BK144.out 4; have hfz22_5 := blk_frozen BK144.out 5; have hfz22_6 := blk_frozen BK144.out 6))
                  refine bodyPost_ret (results_ct rfl _ _ gb144 98 #[.int .i64 t147, .int .i64 t148, .int .i64 t149, .int .i64 t150, .int .i64 t151, .string (rdOf ByteArray.empty l0 5), .bool t156] (0, 0) _ rfl (by (with_reducible repeat (first | refine blk_drewN ?_ _ | refine blk_drew ?_ | refine blk_alloc ?_ _)); refine blk_put (cs := #[.int .i64 t147, .int .i64 t148, .int .i64 t149, .int .i64 t150, .int .i64 t151, .string (rdOf ByteArray.empty l0 5), .bool t156]) ?_ 6 _ rfl; (with_reducible repeat (first | refine blk_drewN ?_ _ | refine blk_drew ?_ | refine blk_alloc ?_ _)); refine blk_put (cs := #[.int .i64 t147, .int .i64 t148, .int .i64 t149, .int .i64 t150, .int .i64 t151, .string (rdOf ByteArray.empty l0 5), .bool t156]) ?_ 5 _ rfl; (with_reducible repeat (first | refine blk_drewN ?_ _ | refine blk_drew ?_ | refine blk_alloc ?_ _)); refine blk_put (cs := #[.int .i64 t147, .int .i64 t148, .int .i64 t149, .int .i64 t150, .int .i64 t151, .string (rdOf ByteArray.empty l0 5), .bool t156]) ?_ 4 _ rfl; (with_reducible repeat (first | refine blk_drewN ?_ _ | refine blk_drew ?_ | refine blk_alloc ?_ _)); refine blk_put (cs := #[.int .i64 t147, .int .i64 t148, .int .i64 t149, .int .i64 t150, .int .i64 t151, .string (rdOf ByteArray.empty l0 5), .bool t156]) ?_ 3 _ rfl; (with_reducible repeat (first | refine blk_drewN ?_ _ | refine blk_drew ?_ | refine blk_alloc ?_ _)); refine blk_put (cs := #[.int .i64 t147, .int .i64 t148, .int .i64 t149, .int .i64 t150, .int .i64 t151, .string (rdOf ByteArray.empty l0 5), .bool t156]) ?_ 2 _ rfl; (with_reducible repeat (first | refine blk_drewN ?_ _ | refine blk_drew ?_ | refine blk_alloc ?_ _)); refine blk_put (cs := #[.int .i64 t147, .int .i64 t148, .int .i64 t149, .int .i64 t150, .int .i64 t151, .string (rdOf ByteArray.empty l0 5), .bool t156]) ?_ 1 _ rfl; (with_reducible repeat (first | refine blk_drewN ?_ _ | refine blk_drew ?_ | refine blk_alloc ?_ _)); refine blk_put (cs := #[.int .i64 t147, .int .i64 t148, .int .i64 t149, .int .i64 t150, .int .i64 t151, .string (rdOf ByteArray.empty l0 5), .bool t156]) ?_ 0 _ rfl; (with_reducible repeat (first | refine blk_drewN ?_ _ | refine blk_drew ?_ | refine blk_alloc ?_ _)); refine blk_put (cs := #[.int .i64 t147, .int .i64 t148, .int .i64 t149, .int .i64 t150, .int .i64 t151, .string (rdOf ByteArray.empty l0 5), .bool t153]) ?_ 6 _ rfl; (with_reducible repeat (first | refine blk_drewN ?_ _ | refine blk_drew ?_ | refine blk_alloc ?_ _)); refine blk_put (cs := #[.int .i64 t147, .int .i64 t148, .int .i64 t149, .int .i64 t150, .int .i64 t151, .string t152, .bool t153]) ?_ 5 _ rfl; (with_reducible repeat (first | refine blk_drewN ?_ _ | refine blk_drew ?_ | refine blk_alloc ?_ _)); exact BK144.out) Tryd.underlying98 rfl (by kernel_rfl)) rfl ?_
                  exact ⟨by first | rfl | (simp [errW_none, errW_some] <;> rfl) | (simp [*, errW_none, errW_some] <;> rfl), by repeat (first | (with_reducible first | exact HB.out | apply below_alloc | apply pw_below_drewN | apply below_drew1 | refine below_set ?_ GE144.out) | exact HB.out)⟩
              · rw [if_neg c13] at H
                have c13b0 : ((rdOf ByteArray.empty l0 5).toList == ([43] : List UInt8)) = false := beq_eq_false_iff_ne.mpr c13
                have c13b1 : ((rdOf ByteArray.empty l0 5).toList != ([43] : List UInt8)) = true := bne_iff_ne.mpr c13
                by_cases c23 : (rdOf ByteArray.empty l0 5).toList = ([45] : List UInt8)
                · rw [if_pos c23] at H
                  have c23b0 : ((rdOf ByteArray.empty l0 5).toList == ([45] : List UInt8)) = true := beq_iff_eq.mpr c23
                  have c23b1 : ((rdOf ByteArray.empty l0 5).toList != ([45] : List UInt8)) = false := bne_eq_false_iff_eq.mpr c23
                  clear c23
                  by_cases c24 : t154 = true
                  · subst c24
                    have H1 : (some (t147, t148, t149, t150, t151, rdOf ByteArray.empty l0 5, t156, t157)) = some (r1, r2, r3, r4, r5, r6, r7, r8) := by rw [if_pos rfl] at H; exact H
                    clear H
                    have H := H1
                    clear H1
                    simp only [Option.some.injEq, Prod.mk.injEq] at H
                    obtain ⟨rfl, rfl, rfl, rfl, rfl, rfl, rfl, rfl⟩ := H
                    go_wp2_with (first | ((with_reducible refine gate_callee (f := 77) rfl ?_); refine goesL_ (some 21) rfl rfl Tryd.func77 (by kernel_rfl) rfl #[.int .i64 0, .slice (some ad145) l0.length c0] rfl (by (try simp only [List.map_toArray, List.map_cons, List.map_nil]); first | done | rfl | (simp only [List.length_drop, List.length_take]; rfl)) ?_; (with_reducible refine (zic_date.calls 0 _ _ l0 t147 t148 t149 t150 t151 t152 t153 true _ ?side1 ?side2 A9.out).mono ?_); (case side1 => repeat (first | exact (Kd.C_below HR0.out HB.out) | (with_reducible refine Kd.C_alloc ?_ _) | (with_reducible refine Kd.C_drewN ?_ _) | (with_reducible refine Kd.C_drew ?_))); (case side2 => exact HC0.out); rintro e w25 ⟨rfl, hb⟩; refine ⟨_, rfl, ?_⟩; have n0_ := Aside0.mk (blk_below (g := gb144) (o := .cells #[.int .i64 0, .int .i64 0, .int .i64 0, .int .i64 0, .int .i64 0, .string (⟨#[]⟩ : ByteArray), .bool false] 98 (0, 0)) (by (with_reducible repeat (first | refine blk_drewN ?_ _ | refine blk_drew ?_ | refine blk_alloc ?_ _)); exact BK144.out) hb); have n1_ := Aside0.mk (below_step (by repeat (first | (with_reducible first | exact HB.out | apply below_alloc | apply pw_below_drewN | apply below_drew1 | refine below_set ?_ GE144.out) | exact HB.out)) hb); clear BK144; clear HB; have BK144 := n0_; have HB := n1_; clear n0_ n1_; (try clear hb); (try clear hb2); (try clear hk); (try clear hi); have hcz26_0 : w25.cell? ⟨gb144, 0, none⟩ = some (.int .i64 0) := (blk_cell BK144.out 0).trans rfl; have hcz26_1 : w25.cell? ⟨gb144, 1, none⟩ = some (.int .i64 0) := (blk_cell BK144.out 1).trans rfl; have hcz26_2 : w25.cell? ⟨gb144, 2, none⟩ = some (.int .i64 0) := (blk_cell BK144.out 2).trans rfl; have hcz26_3 : w25.cell? ⟨gb144, 3, none⟩ = some (.int .i64 0) := (blk_cell BK144.out 3).trans rfl; have hcz26_4 : w25.cell? ⟨gb144, 4, none⟩ = some (.int .i64 0) := (blk_cell BK144.out 4).trans rfl; have hcz26_5 : w25.cell? ⟨gb144, 5, none⟩ = some (.string (⟨#[]⟩ : ByteArray)) := (blk_cell BK144.out 5).trans rfl; have hcz26_6 : w25.cell? ⟨gb144, 6, none⟩ = some (.bool false) := (blk_cell BK144.out 6).trans rfl; have hfz26_0 := blk_frozen BK144.out 0; have hfz26_1 := blk_frozen BK144.out 1; have hfz26_2 := blk_frozen BK144.out 2; have hfz26_3 := blk_frozen BK144.out 3; have hfz26_4 := blk_frozen BK144.out 4; have hfz26_5 := blk_frozen BK144.out 5; have hfz26_6 := blk_frozen BK144.out 6; have p155 : 0 ≤ (6 : Int) := (by omega); have q155 : 6 < (l0.length : Int) := of_decide_eq_true (by first | (with_reducible assumption) | assumption); obtain ⟨ad155, e155, hx155_0⟩ := Kd.at_string HR0.out 6 p155 q155; obtain rfl : ad145 = ad155 := (by injection e155); (try simp only [show (6 : Int).toNat = 6 from rfl, Nat.reduceMul, Nat.reduceEqDiff, Go.Addr.add, ↓reduceIte] at hx155_0); have qi155 : (6 < l0.length) = True := eq_true (by omega); (try rw [show ((6 : Int)).toNat = 6 from rfl] at hx155_0); have hn155_0 : ad145.block ≠ gb144 := Nat.ne_of_lt (Nat.lt_of_lt_of_le (by have := World.block_lt_of_cell? _ _ hx155_0; first | rwa [add_block] at this | exact this) GW144.out); have hn155_1 : ad145.block ≠ gb144 := Nat.ne_of_lt (Nat.lt_of_lt_of_le (by have := World.block_lt_of_cell? _ _ hx155_0; first | rwa [add_block] at this | exact this) GW144.out); have hn155_2 : ad145.block ≠ gb144 := Nat.ne_of_lt (Nat.lt_of_lt_of_le (by have := World.block_lt_of_cell? _ _ hx155_0; first | rwa [add_block] at this | exact this) GW144.out); have hn155_3 : ad145.block ≠ gb144 := Nat.ne_of_lt (Nat.lt_of_lt_of_le (by have := World.block_lt_of_cell? _ _ hx155_0; first | rwa [add_block] at this | exact this) GW144.out); have hn155_4 : ad145.block ≠ gb144 := Nat.ne_of_lt (Nat.lt_of_lt_of_le (by have := World.block_lt_of_cell? _ _ hx155_0; first | rwa [add_block] at this | exact this) GW144.out); have hn155_5 : ad145.block ≠ gb144 := Nat.ne_of_lt (Nat.lt_of_lt_of_le (by have := World.block_lt_of_cell? _ _ hx155_0; first | rwa [add_block] at this | exact this) GW144.out); have hn155_6 : ad145.block ≠ gb144 := Nat.ne_of_lt (Nat.lt_of_lt_of_le (by have := World.block_lt_of_cell? _ _ hx155_0; first | rwa [add_block] at this | exact this) GW144.out); replace hx155_0 := (HB.out.cell (World.block_lt_of_cell? w _ hx155_0)).trans hx155_0; replace hx155_0 := (cell_far (p := ⟨gb144, 0, none⟩) (by first | (rw [add_block]; exact hn155_0) | (show (Addr.add _ _).block ≠ _; rw [add_block]; exact hn155_0) | exact hn155_0) (.int .i64 t147)).trans hx155_0; replace hx155_0 := (cell_far (p := ⟨gb144, 1, none⟩) (by first | (rw [add_block]; exact hn155_1) | (show (Addr.add _ _).block ≠ _; rw [add_block]; exact hn155_1) | exact hn155_1) (.int .i64 t148)).trans hx155_0; replace hx155_0 := (cell_far (p := ⟨gb144, 2, none⟩) (by first | (rw [add_block]; exact hn155_2) | (show (Addr.add _ _).block ≠ _; rw [add_block]; exact hn155_2) | exact hn155_2) (.int .i64 t149)).trans hx155_0; replace hx155_0 := (cell_far (p := ⟨gb144, 3, none⟩) (by first | (rw [add_block]; exact hn155_3) | (show (Addr.add _ _).block ≠ _; rw [add_block]; exact hn155_3) | exact hn155_3) (.int .i64 t150)).trans hx155_0; replace hx155_0 := (cell_far (p := ⟨gb144, 4, none⟩) (by first | (rw [add_block]; exact hn155_4) | (show (Addr.add _ _).block ≠ _; rw [add_block]; exact hn155_4) | exact hn155_4) (.int .i64 t151)).trans hx155_0; replace hx155_0 := (cell_far (p := ⟨gb144, 5, none⟩) (by first | (rw [add_block]; exact hn155_5) | (show (Addr.add _ _).block ≠ _; rw [add_block]; exact hn155_5) | exact hn155_5) (.string t152)).trans hx155_0; replace hx155_0 := (cell_far (p := ⟨gb144, 6, none⟩) (by first | (rw [add_block]; exact hn155_6) | (show (Addr.add _ _).block ≠ _; rw [add_block]; exact hn155_6) | exact hn155_6) (.bool t153)).trans hx155_0; clear hn155_0; clear hn155_1; clear hn155_2; clear hn155_3; clear hn155_4; clear hn155_5; clear hn155_6; replace p155 := eq_true p155; replace q155 := eq_true q155) | ((with_reducible refine gate_callee (f := 78) rfl ?_); refine goesL_ (some 28) rfl rfl Tryd.func78 (by kernel_rfl) rfl #[.string (rdOf ByteArray.empty l0 6)] rfl (by (try simp only [List.map_toArray, List.map_cons, List.map_nil]); first | done | rfl | (simp only [List.length_drop, List.length_take]; rfl)) ?_; (with_reducible refine (zic_roll.calls (rdOf ByteArray.empty l0 6) t156 t157 _ A11.out).mono ?_); rintro e w27 ⟨rfl, hb⟩; refine ⟨_, rfl, ?_⟩; have n0_ := Aside0.mk (blk_below (g := gb144) (o := .cells #[.int .i64 t147, .int .i64 t148, .int .i64 t149, .int .i64 t150, .int .i64 t151, .string t152, .bool t153] 98 (0, 0)) (by (with_reducible repeat (first | refine blk_drewN ?_ _ | refine blk_drew ?_ | refine blk_alloc ?_ _)); refine blk_put (cs := #[.int .i64 t147, .int .i64 t148, .int .i64 t149, .int .i64 t150, .int .i64 t151, .string t152, .bool false]) ?_ 6 _ rfl; (with_reducible repeat (first | refine blk_drewN ?_ _ | refine blk_drew ?_ | refine blk_alloc ?_ _)); refine blk_put (cs := #[.int .i64 t147, .int .i64 t148, .int .i64 t149, .int .i64 t150, .int .i64 t151, .string (⟨#[]⟩ : ByteArray), .bool false]) ?_ 5 _ rfl; (with_reducible repeat (first | refine blk_drewN ?_ _ | refine blk_drew ?_ | refine blk_alloc ?_ _)); refine blk_put (cs := #[.int .i64 t147, .int .i64 t148, .int .i64 t149, .int .i64 t150, .int .i64 0, .string (⟨#[]⟩ : ByteArray), .bool false]) ?_ 4 _ rfl; (with_reducible repeat (first | refine blk_drewN ?_ _ | refine blk_drew ?_ | refine blk_alloc ?_ _)); refine blk_put (cs := #[.int .i64 t147, .int .i64 t148, .int .i64 t149, .int .i64 0, .int .i64 0, .string (⟨#[]⟩ : ByteArray), .bool false]) ?_ 3 _ rfl; (with_reducible repeat (first | refine blk_drewN ?_ _ | refine blk_drew ?_ | refine blk_alloc ?_ _)); refine blk_put (cs := #[.int .i64 t147, .int .i64 t148, .int .i64 0, .int .i64 0, .int .i64 0, .string (⟨#[]⟩ : ByteArray), .bool false]) ?_ 2 _ rfl; (with_reducible repeat (first | refine blk_drewN ?_ _ | refine blk_drew ?_ | refine blk_alloc ?_ _)); refine blk_put (cs := #[.int .i64 t147, .int .i64 0, .int .i64 0, .int .i64 0, .int .i64 0, .string (⟨#[]⟩ : ByteArray), .bool false]) ?_ 1 _ rfl; (with_reducible repeat (first | refine blk_drewN ?_ _ | refine blk_drew ?_ | refine blk_alloc ?_ _)); refine blk_put (cs := #[.int .i64 0, .int .i64 0, .int .i64 0, .int .i64 0, .int .i64 0, .string (⟨#[]⟩ : ByteArray), .bool false]) ?_ 0 _ rfl; (with_reducible repeat (first | refine blk_drewN ?_ _ | refine blk_drew ?_ | refine blk_alloc ?_ _)); exact BK144.out) hb); have n1_ := Aside0.mk (below_step (by repeat (first | (with_reducible first | exact HB.out | apply below_alloc | apply pw_below_drewN | apply below_drew1 | refine below_set ?_ GE144.out) | exact HB.out)) hb); clear BK144; clear HB; have BK144 := n0_; have HB := n1_; clear n0_ n1_; (try clear hb); (try clear hb2); (try clear hk); (try clear hi); have p158 : 0 ≤ (5 : Int) := (by omega); have q158 : 5 < (l0.length : Int) := of_decide_eq_true (by first | (with_reducible assumption) | assumption); obtain ⟨ad158, e158, hx158_0⟩ := Kd.at_string HR0.out 5 p158 q158; obtain rfl : ad145 = ad158 := (by injection e158); (try simp only [show (5 : Int).toNat = 5 from rfl, Nat.reduceMul, Nat.reduceEqDiff, Go.Addr.add, ↓reduceIte] at hx158_0); have qi158 : (5 < l0.length) = True := eq_true (by omega); (try rw [show ((5 : Int)).toNat = 5 from rfl] at hx158_0); replace hx158_0 := (HB.out.cell (World.block_lt_of_cell? w _ hx158_0)).trans hx158_0; replace p158 := eq_true p158; replace q158 := eq_true q158; have hcz28_0 : w27.cell? ⟨gb144, 0, none⟩ = some (.int .i64 t147) := (blk_cell BK144.out 0).trans rfl; have hcz28_1 : w27.cell? ⟨gb144, 1, none⟩ = some (.int .i64 t148) := (blk_cell BK144.out 1).trans rfl; have hcz28_2 : w27.cell? ⟨gb144, 2, none⟩ = some (.int .i64 t149) := (blk_cell BK144.out 2).trans rfl; have hcz28_3 : w27.cell? ⟨gb144, 3, none⟩ = some (.int .i64 t150) := (blk_cell BK144.out 3).trans rfl; have hcz28_4 : w27.cell? ⟨gb144, 4, none⟩ = some (.int .i64 t151) := (blk_cell BK144.out 4).trans rfl; have hcz28_5 : w27.cell? ⟨gb144, 5, none⟩ = some (.string t152) := (blk_cell BK144.out 5).trans rfl; have hcz28_6 : w27.cell? ⟨gb144, 6, none⟩ = some (.bool t153) := (blk_cell BK144.out 6).trans rfl; have hfz28_0 := blk_frozen BK144.out 0; have hfz28_1 := blk_frozen BK144.out 1; have hfz28_2 := blk_frozen BK144.out 2; have hfz28_3 := blk_frozen BK144.out 3; have hfz28_4 := blk_frozen BK144.out 4; have hfz28_5 := blk_frozen BK144.out 5; have hfz28_6 := blk_frozen BK144.out 6))
                    refine bodyPost_ret (results_ct rfl _ _ gb144 98 #[.int .i64 t147, .int .i64 t148, .int .i64 t149, .int .i64 t150, .int .i64 t151, .string (rdOf ByteArray.empty l0 5), .bool t156] (0, 0) _ rfl (by (with_reducible repeat (first | refine blk_drewN ?_ _ | refine blk_drew ?_ | refine blk_alloc ?_ _)); refine blk_put (cs := #[.int .i64 t147, .int .i64 t148, .int .i64 t149, .int .i64 t150, .int .i64 t151, .string (rdOf ByteArray.empty l0 5), .bool t156]) ?_ 6 _ rfl; (with_reducible repeat (first | refine blk_drewN ?_ _ | refine blk_drew ?_ | refine blk_alloc ?_ _)); refine blk_put (cs := #[.int .i64 t147, .int .i64 t148, .int .i64 t149, .int .i64 t150, .int .i64 t151, .string (rdOf ByteArray.empty l0 5), .bool t156]) ?_ 5 _ rfl; (with_reducible repeat (first | refine blk_drewN ?_ _ | refine blk_drew ?_ | refine blk_alloc ?_ _)); refine blk_put (cs := #[.int .i64 t147, .int .i64 t148, .int .i64 t149, .int .i64 t150, .int .i64 t151, .string (rdOf ByteArray.empty l0 5), .bool t156]) ?_ 4 _ rfl; (with_reducible repeat (first | refine blk_drewN ?_ _ | refine blk_drew ?_ | refine blk_alloc ?_ _)); refine blk_put (cs := #[.int .i64 t147, .int .i64 t148, .int .i64 t149, .int .i64 t150, .int .i64 t151, .string (rdOf ByteArray.empty l0 5), .bool t156]) ?_ 3 _ rfl; (with_reducible repeat (first | refine blk_drewN ?_ _ | refine blk_drew ?_ | refine blk_alloc ?_ _)); refine blk_put (cs := #[.int .i64 t147, .int .i64 t148, .int .i64 t149, .int .i64 t150, .int .i64 t151, .string (rdOf ByteArray.empty l0 5), .bool t156]) ?_ 2 _ rfl; (with_reducible repeat (first | refine blk_drewN ?_ _ | refine blk_drew ?_ | refine blk_alloc ?_ _)); refine blk_put (cs := #[.int .i64 t147, .int .i64 t148, .int .i64 t149, .int .i64 t150, .int .i64 t151, .string (rdOf ByteArray.empty l0 5), .bool t156]) ?_ 1 _ rfl; (with_reducible repeat (first | refine blk_drewN ?_ _ | refine blk_drew ?_ | refine blk_alloc ?_ _)); refine blk_put (cs := #[.int .i64 t147, .int .i64 t148, .int .i64 t149, .int .i64 t150, .int .i64 t151, .string (rdOf ByteArray.empty l0 5), .bool t156]) ?_ 0 _ rfl; (with_reducible repeat (first | refine blk_drewN ?_ _ | refine blk_drew ?_ | refine blk_alloc ?_ _)); refine blk_put (cs := #[.int .i64 t147, .int .i64 t148, .int .i64 t149, .int .i64 t150, .int .i64 t151, .string (rdOf ByteArray.empty l0 5), .bool t153]) ?_ 6 _ rfl; (with_reducible repeat (first | refine blk_drewN ?_ _ | refine blk_drew ?_ | refine blk_alloc ?_ _)); refine blk_put (cs := #[.int .i64 t147, .int .i64 t148, .int .i64 t149, .int .i64 t150, .int .i64 t151, .string t152, .bool t153]) ?_ 5 _ rfl; (with_reducible repeat (first | refine blk_drewN ?_ _ | refine blk_drew ?_ | refine blk_alloc ?_ _)); exact BK144.out) Tryd.underlying98 rfl (by kernel_rfl)) rfl ?_
                    exact ⟨by first | rfl | (simp [errW_none, errW_some] <;> rfl) | (simp [*, errW_none, errW_some] <;> rfl), by repeat (first | (with_reducible first | exact HB.out | apply below_alloc | apply pw_below_drewN | apply below_drew1 | refine below_set ?_ GE144.out) | exact HB.out)⟩
                  · replace c24 := Bool.eq_false_iff.mpr c24
                    subst c24
                    have H1 : (some (t147, t148, t149, t150, t151, rdOf ByteArray.empty l0 5, t156, false)) = some (r1, r2, r3, r4, r5, r6, r7, r8) := by rw [if_neg (show ¬ (false = true) by decide)] at H; exact H
                    clear H
                    have H := H1
                    clear H1
                    simp only [Option.some.injEq, Prod.mk.injEq] at H
                    obtain ⟨rfl, rfl, rfl, rfl, rfl, rfl, rfl, rfl⟩ := H
                    go_wp2_with (first | ((with_reducible refine gate_callee (f := 77) rfl ?_); refine goesL_ (some 21) rfl rfl Tryd.func77 (by kernel_rfl) rfl #[.int .i64 0, .slice (some ad145) l0.length c0] rfl (by (try simp only [List.map_toArray, List.map_cons, List.map_nil]); first | done | rfl | (simp only [List.length_drop, List.length_take]; rfl)) ?_; (with_reducible refine (zic_date.calls 0 _ _ l0 t147 t148 t149 t150 t151 t152 t153 false _ ?side1 ?side2 A9.out).mono ?_); (case side1 => repeat (first | exact (Kd.C_below HR0.out HB.out) | (with_reducible refine Kd.C_alloc ?_ _) | (with_reducible refine Kd.C_drewN ?_ _) | (with_reducible refine Kd.C_drew ?_))); (case side2 => exact HC0.out); rintro e w29 ⟨rfl, hb⟩; refine ⟨_, rfl, ?_⟩; have n0_ := Aside0.mk (blk_below (g := gb144) (o := .cells #[.int .i64 0, .int .i64 0, .int .i64 0, .int .i64 0, .int .i64 0, .string (⟨#[]⟩ : ByteArray), .bool false] 98 (0, 0)) (by (with_reducible repeat (first | refine blk_drewN ?_ _ | refine blk_drew ?_ | refine blk_alloc ?_ _)); exact BK144.out) hb); have n1_ := Aside0.mk (below_step (by repeat (first | (with_reducible first | exact HB.out | apply below_alloc | apply pw_below_drewN | apply below_drew1 | refine below_set ?_ GE144.out) | exact HB.out)) hb); clear BK144; clear HB; have BK144 := n0_; have HB := n1_; clear n0_ n1_; (try clear hb); (try clear hb2); (try clear hk); (try clear hi); have hcz30_0 : w29.cell? ⟨gb144, 0, none⟩ = some (.int .i64 0) := (blk_cell BK144.out 0).trans rfl; have hcz30_1 : w29.cell? ⟨gb144, 1, none⟩ = some (.int .i64 0) := (blk_cell BK144.out 1).trans rfl; have hcz30_2 : w29.cell? ⟨gb144, 2, none⟩ = some (.int .i64 0) := (blk_cell BK144.out 2).trans rfl; have hcz30_3 : w29.cell? ⟨gb144, 3, none⟩ = some (.int .i64 0) := (blk_cell BK144.out 3).trans rfl; have hcz30_4 : w29.cell? ⟨gb144, 4, none⟩ = some (.int .i64 0) := (blk_cell BK144.out 4).trans rfl; have hcz30_5 : w29.cell? ⟨gb144, 5, none⟩ = some (.string (⟨#[]⟩ : ByteArray)) := (blk_cell BK144.out 5).trans rfl; have hcz30_6 : w29.cell? ⟨gb144, 6, none⟩ = some (.bool false) := (blk_cell BK144.out 6).trans rfl; have hfz30_0 := blk_frozen BK144.out 0; have hfz30_1 := blk_frozen BK144.out 1; have hfz30_2 := blk_frozen BK144.out 2; have hfz30_3 := blk_frozen BK144.out 3; have hfz30_4 := blk_frozen BK144.out 4; have hfz30_5 := blk_frozen BK144.out 5; have hfz30_6 := blk_frozen BK144.out 6; have p155 : 0 ≤ (6 : Int) := (by omega); have q155 : 6 < (l0.length : Int) := of_decide_eq_true (by first | (with_reducible assumption) | assumption); obtain ⟨ad155, e155, hx155_0⟩ := Kd.at_string HR0.out 6 p155 q155; obtain rfl : ad145 = ad155 := (by injection e155); (try simp only [show (6 : Int).toNat = 6 from rfl, Nat.reduceMul, Nat.reduceEqDiff, Go.Addr.add, ↓reduceIte] at hx155_0); have qi155 : (6 < l0.length) = True := eq_true (by omega); (try rw [show ((6 : Int)).toNat = 6 from rfl] at hx155_0); have hn155_0 : ad145.block ≠ gb144 := Nat.ne_of_lt (Nat.lt_of_lt_of_le (by have := World.block_lt_of_cell? _ _ hx155_0; first | rwa [add_block] at this | exact this) GW144.out); have hn155_1 : ad145.block ≠ gb144 := Nat.ne_of_lt (Nat.lt_of_lt_of_le (by have := World.block_lt_of_cell? _ _ hx155_0; first | rwa [add_block] at this | exact this) GW144.out); have hn155_2 : ad145.block ≠ gb144 := Nat.ne_of_lt (Nat.lt_of_lt_of_le (by have := World.block_lt_of_cell? _ _ hx155_0; first | rwa [add_block] at this | exact this) GW144.out); have hn155_3 : ad145.block ≠ gb144 := Nat.ne_of_lt (Nat.lt_of_lt_of_le (by have := World.block_lt_of_cell? _ _ hx155_0; first | rwa [add_block] at this | exact this) GW144.out); have hn155_4 : ad145.block ≠ gb144 := Nat.ne_of_lt (Nat.lt_of_lt_of_le (by have := World.block_lt_of_cell? _ _ hx155_0; first | rwa [add_block] at this | exact this) GW144.out); have hn155_5 : ad145.block ≠ gb144 := Nat.ne_of_lt (Nat.lt_of_lt_of_le (by have := World.block_lt_of_cell? _ _ hx155_0; first | rwa [add_block] at this | exact this) GW144.out); have hn155_6 : ad145.block ≠ gb144 := Nat.ne_of_lt (Nat.lt_of_lt_of_le (by have := World.block_lt_of_cell? _ _ hx155_0; first | rwa [add_block] at this | exact this) GW144.out); replace hx155_0 := (HB.out.cell (World.block_lt_of_cell? w _ hx155_0)).trans hx155_0; replace hx155_0 := (cell_far (p := ⟨gb144, 0, none⟩) (by first | (rw [add_block]; exact hn155_0) | (show (Addr.add _ _).block ≠ _; rw [add_block]; exact hn155_0) | exact hn155_0) (.int .i64 t147)).trans hx155_0; replace hx155_0 := (cell_far (p := ⟨gb144, 1, none⟩) (by first | (rw [add_block]; exact hn155_1) | (show (Addr.add _ _).block ≠ _; rw [add_block]; exact hn155_1) | exact hn155_1) (.int .i64 t148)).trans hx155_0; replace hx155_0 := (cell_far (p := ⟨gb144, 2, none⟩) (by first | (rw [add_block]; exact hn155_2) | (show (Addr.add _ _).block ≠ _; rw [add_block]; exact hn155_2) | exact hn155_2) (.int .i64 t149)).trans hx155_0; replace hx155_0 := (cell_far (p := ⟨gb144, 3, none⟩) (by first | (rw [add_block]; exact hn155_3) | (show (Addr.add _ _).block ≠ _; rw [add_block]; exact hn155_3) | exact hn155_3) (.int .i64 t150)).trans hx155_0; replace hx155_0 := (cell_far (p := ⟨gb144, 4, none⟩) (by first | (rw [add_block]; exact hn155_4) | (show (Addr.add _ _).block ≠ _; rw [add_block]; exact hn155_4) | exact hn155_4) (.int .i64 t151)).trans hx155_0; replace hx155_0 := (cell_far (p := ⟨gb144, 5, none⟩) (by first | (rw [add_block]; exact hn155_5) | (show (Addr.add _ _).block ≠ _; rw [add_block]; exact hn155_5) | exact hn155_5) (.string t152)).trans hx155_0; replace hx155_0 := (cell_far (p := ⟨gb144, 6, none⟩) (by first | (rw [add_block]; exact hn155_6) | (show (Addr.add _ _).block ≠ _; rw [add_block]; exact hn155_6) | exact hn155_6) (.bool t153)).trans hx155_0; clear hn155_0; clear hn155_1; clear hn155_2; clear hn155_3; clear hn155_4; clear hn155_5; clear hn155_6; replace p155 := eq_true p155; replace q155 := eq_true q155) | ((with_reducible refine gate_callee (f := 78) rfl ?_); refine goesL_ (some 28) rfl rfl Tryd.func78 (by kernel_rfl) rfl #[.string (rdOf ByteArray.empty l0 6)] rfl (by (try simp only [List.map_toArray, List.map_cons, List.map_nil]); first | done | rfl | (simp only [List.length_drop, List.length_take]; rfl)) ?_; (with_reducible refine (zic_roll.calls (rdOf ByteArray.empty l0 6) t156 t157 _ A11.out).mono ?_); rintro e w31 ⟨rfl, hb⟩; refine ⟨_, rfl, ?_⟩; have n0_ := Aside0.mk (blk_below (g := gb144) (o := .cells #[.int .i64 t147, .int .i64 t148, .int .i64 t149, .int .i64 t150, .int .i64 t151, .string t152, .bool t153] 98 (0, 0)) (by (with_reducible repeat (first | refine blk_drewN ?_ _ | refine blk_drew ?_ | refine blk_alloc ?_ _)); refine blk_put (cs := #[.int .i64 t147, .int .i64 t148, .int .i64 t149, .int .i64 t150, .int .i64 t151, .string t152, .bool false]) ?_ 6 _ rfl; (with_reducible repeat (first | refine blk_drewN ?_ _ | refine blk_drew ?_ | refine blk_alloc ?_ _)); refine blk_put (cs := #[.int .i64 t147, .int .i64 t148, .int .i64 t149, .int .i64 t150, .int .i64 t151, .string (⟨#[]⟩ : ByteArray), .bool false]) ?_ 5 _ rfl; (with_reducible repeat (first | refine blk_drewN ?_ _ | refine blk_drew ?_ | refine blk_alloc ?_ _)); refine blk_put (cs := #[.int .i64 t147, .int .i64 t148, .int .i64 t149, .int .i64 t150, .int .i64 0, .string (⟨#[]⟩ : ByteArray), .bool false]) ?_ 4 _ rfl; (with_reducible repeat (first | refine blk_drewN ?_ _ | refine blk_drew ?_ | refine blk_alloc ?_ _)); refine blk_put (cs := #[.int .i64 t147, .int .i64 t148, .int .i64 t149, .int .i64 0, .int .i64 0, .string (⟨#[]⟩ : ByteArray), .bool false]) ?_ 3 _ rfl; (with_reducible repeat (first | refine blk_drewN ?_ _ | refine blk_drew ?_ | refine blk_alloc ?_ _)); refine blk_put (cs := #[.int .i64 t147, .int .i64 t148, .int .i64 0, .int .i64 0, .int .i64 0, .string (⟨#[]⟩ : ByteArray), .bool false]) ?_ 2 _ rfl; (with_reducible repeat (first | refine blk_drewN ?_ _ | refine blk_drew ?_ | refine blk_alloc ?_ _)); refine blk_put (cs := #[.int .i64 t147, .int .i64 0, .int .i64 0, .int .i64 0, .int .i64 0, .string (⟨#[]⟩ : ByteArray), .bool false]) ?_ 1 _ rfl; (with_reducible repeat (first | refine blk_drewN ?_ _ | refine blk_drew ?_ | refine blk_alloc ?_ _)); refine blk_put (cs := #[.int .i64 0, .int .i64 0, .int .i64 0, .int .i64 0, .int .i64 0, .string (⟨#[]⟩ : ByteArray), .bool false]) ?_ 0 _ rfl; (with_reducible repeat (first | refine blk_drewN ?_ _ | refine blk_drew ?_ | refine blk_alloc ?_ _)); exact BK144.out) hb); have n1_ := Aside0.mk (below_step (by repeat (first | (with_reducible first | exact HB.out | apply below_alloc | apply pw_below_drewN | apply below_drew1 | refine below_set ?_ GE144.out) | exact HB.out)) hb); clear BK144; clear HB; have BK144 := n0_; have HB := n1_; clear n0_ n1_; (try clear hb); (try clear hb2); (try clear hk); (try clear hi); have p158 : 0 ≤ (5 : Int) := (by omega); have q158 : 5 < (l0.length : Int) := of_decide_eq_true (by first | (with_reducible assumption) | assumption); obtain ⟨ad158, e158, hx158_0⟩ := Kd.at_string HR0.out 5 p158 q158; obtain rfl : ad145 = ad158 := (by injection e158); (try simp only [show (5 : Int).toNat = 5 from rfl, Nat.reduceMul, Nat.reduceEqDiff, Go.Addr.add, ↓reduceIte] at hx158_0); have qi158 : (5 < l0.length) = True := eq_true (by omega); (try rw [show ((5 : Int)).toNat = 5 from rfl] at hx158_0); replace hx158_0 := (HB.out.cell (World.block_lt_of_cell? w _ hx158_0)).trans hx158_0; replace p158 := eq_true p158; replace q158 := eq_true q158; have hcz32_0 : w31.cell? ⟨gb144, 0, none⟩ = some (.int .i64 t147) := (blk_cell BK144.out 0).trans rfl; have hcz32_1 : w31.cell? ⟨gb144, 1, none⟩ = some (.int .i64 t148) := (blk_cell BK144.out 1).trans rfl; have hcz32_2 : w31.cell? ⟨gb144, 2, none⟩ = some (.int .i64 t149) := (blk_cell BK144.out 2).trans rfl; have hcz32_3 : w31.cell? ⟨gb144, 3, none⟩ = some (.int .i64 t150) := (blk_cell BK144.out 3).trans rfl; have hcz32_4 : w31.cell? ⟨gb144, 4, none⟩ = some (.int .i64 t151) := (blk_cell BK144.out 4).trans rfl; have hcz32_5 : w31.cell? ⟨gb144, 5, none⟩ = some (.string t152) := (blk_cell BK144.out 5).trans rfl; have hcz32_6 : w31.cell? ⟨gb144, 6, none⟩ = some (.bool t153) := (blk_cell BK144.out 6).trans rfl; have hfz32_0 := blk_frozen BK144.out 0; have hfz32_1 := blk_frozen BK144.out 1; have hfz32_2 := blk_frozen BK144.out 2; have hfz32_3 := blk_frozen BK144.out 3; have hfz32_4 := blk_frozen BK144.out 4; have hfz32_5 := blk_frozen BK144.out 5; have hfz32_6 := blk_frozen BK144.out 6))
                    refine bodyPost_ret (results_ct rfl _ _ gb144 98 #[.int .i64 t147, .int .i64 t148, .int .i64 t149, .int .i64 t150, .int .i64 t151, .string (rdOf ByteArray.empty l0 5), .bool t156] (0, 0) _ rfl (by (with_reducible repeat (first | refine blk_drewN ?_ _ | refine blk_drew ?_ | refine blk_alloc ?_ _)); refine blk_put (cs := #[.int .i64 t147, .int .i64 t148, .int .i64 t149, .int .i64 t150, .int .i64 t151, .string (rdOf ByteArray.empty l0 5), .bool t156]) ?_ 6 _ rfl; (with_reducible repeat (first | refine blk_drewN ?_ _ | refine blk_drew ?_ | refine blk_alloc ?_ _)); refine blk_put (cs := #[.int .i64 t147, .int .i64 t148, .int .i64 t149, .int .i64 t150, .int .i64 t151, .string (rdOf ByteArray.empty l0 5), .bool t156]) ?_ 5 _ rfl; (with_reducible repeat (first | refine blk_drewN ?_ _ | refine blk_drew ?_ | refine blk_alloc ?_ _)); refine blk_put (cs := #[.int .i64 t147, .int .i64 t148, .int .i64 t149, .int .i64 t150, .int .i64 t151, .string (rdOf ByteArray.empty l0 5), .bool t156]) ?_ 4 _ rfl; (with_reducible repeat (first | refine blk_drewN ?_ _ | refine blk_drew ?_ | refine blk_alloc ?_ _)); refine blk_put (cs := #[.int .i64 t147, .int .i64 t148, .int .i64 t149, .int .i64 t150, .int .i64 t151, .string (rdOf ByteArray.empty l0 5), .bool t156]) ?_ 3 _ rfl; (with_reducible repeat (first | refine blk_drewN ?_ _ | refine blk_drew ?_ | refine blk_alloc ?_ _)); refine blk_put (cs := #[.int .i64 t147, .int .i64 t148, .int .i64 t149, .int .i64 t150, .int .i64 t151, .string (rdOf ByteArray.empty l0 5), .bool t156]) ?_ 2 _ rfl; (with_reducible repeat (first | refine blk_drewN ?_ _ | refine blk_drew ?_ | refine blk_alloc ?_ _)); refine blk_put (cs := #[.int .i64 t147, .int .i64 t148, .int .i64 t149, .int .i64 t150, .int .i64 t151, .string (rdOf ByteArray.empty l0 5), .bool t156]) ?_ 1 _ rfl; (with_reducible repeat (first | refine blk_drewN ?_ _ | refine blk_drew ?_ | refine blk_alloc ?_ _)); refine blk_put (cs := #[.int .i64 t147, .int .i64 t148, .int .i64 t149, .int .i64 t150, .int .i64 t151, .string (rdOf ByteArray.empty l0 5), .bool t156]) ?_ 0 _ rfl; (with_reducible repeat (first | refine blk_drewN ?_ _ | refine blk_drew ?_ | refine blk_alloc ?_ _)); refine blk_put (cs := #[.int .i64 t147, .int .i64 t148, .int .i64 t149, .int .i64 t150, .int .i64 t151, .string (rdOf ByteArray.empty l0 5), .bool t153]) ?_ 6 _ rfl; (with_reducible repeat (first | refine blk_drewN ?_ _ | refine blk_drew ?_ | refine blk_alloc ?_ _)); refine blk_put (cs := #[.int .i64 t147, .int .i64 t148, .int .i64 t149, .int .i64 t150, .int .i64 t151, .string t152, .bool t153]) ?_ 5 _ rfl; (with_reducible repeat (first | refine blk_drewN ?_ _ | refine blk_drew ?_ | refine blk_alloc ?_ _)); exact BK144.out) Tryd.underlying98 rfl (by kernel_rfl)) rfl ?_
                    exact ⟨by first | rfl | (simp [errW_none, errW_some] <;> rfl) | (simp [*, errW_none, errW_some] <;> rfl), by repeat (first | (with_reducible first | exact HB.out | apply below_alloc | apply pw_below_drewN | apply below_drew1 | refine below_set ?_ GE144.out) | exact HB.out)⟩
                · rw [if_neg c23] at H
                  have c23b0 : ((rdOf ByteArray.empty l0 5).toList == ([45] : List UInt8)) = false := beq_eq_false_iff_ne.mpr c23
                  have c23b1 : ((rdOf ByteArray.empty l0 5).toList != ([45] : List UInt8)) = true := bne_iff_ne.mpr c23
                  simp only [Option.some.injEq, Prod.mk.injEq] at H
                  obtain ⟨rfl, rfl, rfl, rfl, rfl, rfl, rfl, rfl⟩ := H
                  go_wp2_with (first | ((with_reducible refine gate_callee (f := 77) rfl ?_); refine goesL_ (some 21) rfl rfl Tryd.func77 (by kernel_rfl) rfl #[.int .i64 0, .slice (some ad145) l0.length c0] rfl (by (try simp only [List.map_toArray, List.map_cons, List.map_nil]); first | done | rfl | (simp only [List.length_drop, List.length_take]; rfl)) ?_; (with_reducible refine (zic_date.calls 0 _ _ l0 t147 t148 t149 t150 t151 t152 t153 t154 _ ?side1 ?side2 A9.out).mono ?_); (case side1 => repeat (first | exact (Kd.C_below HR0.out HB.out) | (with_reducible refine Kd.C_alloc ?_ _) | (with_reducible refine Kd.C_drewN ?_ _) | (with_reducible refine Kd.C_drew ?_))); (case side2 => exact HC0.out); rintro e w33 ⟨rfl, hb⟩; refine ⟨_, rfl, ?_⟩; have n0_ := Aside0.mk (blk_below (g := gb144) (o := .cells #[.int .i64 0, .int .i64 0, .int .i64 0, .int .i64 0, .int .i64 0, .string (⟨#[]⟩ : ByteArray), .bool false] 98 (0, 0)) (by (with_reducible repeat (first | refine blk_drewN ?_ _ | refine blk_drew ?_ | refine blk_alloc ?_ _)); exact BK144.out) hb); have n1_ := Aside0.mk (below_step (by repeat (first | (with_reducible first | exact HB.out | apply below_alloc | apply pw_below_drewN | apply below_drew1 | refine below_set ?_ GE144.out) | exact HB.out)) hb); clear BK144; clear HB; have BK144 := n0_; have HB := n1_; clear n0_ n1_; (try clear hb); (try clear hb2); (try clear hk); (try clear hi); have hcz34_0 : w33.cell? ⟨gb144, 0, none⟩ = some (.int .i64 0) := (blk_cell BK144.out 0).trans rfl; have hcz34_1 : w33.cell? ⟨gb144, 1, none⟩ = some (.int .i64 0) := (blk_cell BK144.out 1).trans rfl; have hcz34_2 : w33.cell? ⟨gb144, 2, none⟩ = some (.int .i64 0) := (blk_cell BK144.out 2).trans rfl; have hcz34_3 : w33.cell? ⟨gb144, 3, none⟩ = some (.int .i64 0) := (blk_cell BK144.out 3).trans rfl; have hcz34_4 : w33.cell? ⟨gb144, 4, none⟩ = some (.int .i64 0) := (blk_cell BK144.out 4).trans rfl; have hcz34_5 : w33.cell? ⟨gb144, 5, none⟩ = some (.string (⟨#[]⟩ : ByteArray)) := (blk_cell BK144.out 5).trans rfl; have hcz34_6 : w33.cell? ⟨gb144, 6, none⟩ = some (.bool false) := (blk_cell BK144.out 6).trans rfl; have hfz34_0 := blk_frozen BK144.out 0; have hfz34_1 := blk_frozen BK144.out 1; have hfz34_2 := blk_frozen BK144.out 2; have hfz34_3 := blk_frozen BK144.out 3; have hfz34_4 := blk_frozen BK144.out 4; have hfz34_5 := blk_frozen BK144.out 5; have hfz34_6 := blk_frozen BK144.out 6; have p155 : 0 ≤ (6 : Int) := (by omega); have q155 : 6 < (l0.length : Int) := of_decide_eq_true (by first | (with_reducible assumption) | assumption); obtain ⟨ad155, e155, hx155_0⟩ := Kd.at_string HR0.out 6 p155 q155; obtain rfl : ad145 = ad155 := (by injection e155); (try simp only [show (6 : Int).toNat = 6 from rfl, Nat.reduceMul, Nat.reduceEqDiff, Go.Addr.add, ↓reduceIte] at hx155_0); have qi155 : (6 < l0.length) = True := eq_true (by omega); (try rw [show ((6 : Int)).toNat = 6 from rfl] at hx155_0); have hn155_0 : ad145.block ≠ gb144 := Nat.ne_of_lt (Nat.lt_of_lt_of_le (by have := World.block_lt_of_cell? _ _ hx155_0; first | rwa [add_block] at this | exact this) GW144.out); have hn155_1 : ad145.block ≠ gb144 := Nat.ne_of_lt (Nat.lt_of_lt_of_le (by have := World.block_lt_of_cell? _ _ hx155_0; first | rwa [add_block] at this | exact this) GW144.out); have hn155_2 : ad145.block ≠ gb144 := Nat.ne_of_lt (Nat.lt_of_lt_of_le (by have := World.block_lt_of_cell? _ _ hx155_0; first | rwa [add_block] at this | exact this) GW144.out); have hn155_3 : ad145.block ≠ gb144 := Nat.ne_of_lt (Nat.lt_of_lt_of_le (by have := World.block_lt_of_cell? _ _ hx155_0; first | rwa [add_block] at this | exact this) GW144.out); have hn155_4 : ad145.block ≠ gb144 := Nat.ne_of_lt (Nat.lt_of_lt_of_le (by have := World.block_lt_of_cell? _ _ hx155_0; first | rwa [add_block] at this | exact this) GW144.out); have hn155_5 : ad145.block ≠ gb144 := Nat.ne_of_lt (Nat.lt_of_lt_of_le (by have := World.block_lt_of_cell? _ _ hx155_0; first | rwa [add_block] at this | exact this) GW144.out); have hn155_6 : ad145.block ≠ gb144 := Nat.ne_of_lt (Nat.lt_of_lt_of_le (by have := World.block_lt_of_cell? _ _ hx155_0; first | rwa [add_block] at this | exact this) GW144.out); replace hx155_0 := (HB.out.cell (World.block_lt_of_cell? w _ hx155_0)).trans hx155_0; replace hx155_0 := (cell_far (p := ⟨gb144, 0, none⟩) (by first | (rw [add_block]; exact hn155_0) | (show (Addr.add _ _).block ≠ _; rw [add_block]; exact hn155_0) | exact hn155_0) (.int .i64 t147)).trans hx155_0; replace hx155_0 := (cell_far (p := ⟨gb144, 1, none⟩) (by first | (rw [add_block]; exact hn155_1) | (show (Addr.add _ _).block ≠ _; rw [add_block]; exact hn155_1) | exact hn155_1) (.int .i64 t148)).trans hx155_0; replace hx155_0 := (cell_far (p := ⟨gb144, 2, none⟩) (by first | (rw [add_block]; exact hn155_2) | (show (Addr.add _ _).block ≠ _; rw [add_block]; exact hn155_2) | exact hn155_2) (.int .i64 t149)).trans hx155_0; replace hx155_0 := (cell_far (p := ⟨gb144, 3, none⟩) (by first | (rw [add_block]; exact hn155_3) | (show (Addr.add _ _).block ≠ _; rw [add_block]; exact hn155_3) | exact hn155_3) (.int .i64 t150)).trans hx155_0; replace hx155_0 := (cell_far (p := ⟨gb144, 4, none⟩) (by first | (rw [add_block]; exact hn155_4) | (show (Addr.add _ _).block ≠ _; rw [add_block]; exact hn155_4) | exact hn155_4) (.int .i64 t151)).trans hx155_0; replace hx155_0 := (cell_far (p := ⟨gb144, 5, none⟩) (by first | (rw [add_block]; exact hn155_5) | (show (Addr.add _ _).block ≠ _; rw [add_block]; exact hn155_5) | exact hn155_5) (.string t152)).trans hx155_0; replace hx155_0 := (cell_far (p := ⟨gb144, 6, none⟩) (by first | (rw [add_block]; exact hn155_6) | (show (Addr.add _ _).block ≠ _; rw [add_block]; exact hn155_6) | exact hn155_6) (.bool t153)).trans hx155_0; clear hn155_0; clear hn155_1; clear hn155_2; clear hn155_3; clear hn155_4; clear hn155_5; clear hn155_6; replace p155 := eq_true p155; replace q155 := eq_true q155) | ((with_reducible refine gate_callee (f := 78) rfl ?_); refine goesL_ (some 28) rfl rfl Tryd.func78 (by kernel_rfl) rfl #[.string (rdOf ByteArray.empty l0 6)] rfl (by (try simp only [List.map_toArray, List.map_cons, List.map_nil]); first | done | rfl | (simp only [List.length_drop, List.length_take]; rfl)) ?_; (with_reducible refine (zic_roll.calls (rdOf ByteArray.empty l0 6) t156 t157 _ A11.out).mono ?_); rintro e w35 ⟨rfl, hb⟩; refine ⟨_, rfl, ?_⟩; have n0_ := Aside0.mk (blk_below (g := gb144) (o := .cells #[.int .i64 t147, .int .i64 t148, .int .i64 t149, .int .i64 t150, .int .i64 t151, .string t152, .bool t153] 98 (0, 0)) (by (with_reducible repeat (first | refine blk_drewN ?_ _ | refine blk_drew ?_ | refine blk_alloc ?_ _)); refine blk_put (cs := #[.int .i64 t147, .int .i64 t148, .int .i64 t149, .int .i64 t150, .int .i64 t151, .string t152, .bool false]) ?_ 6 _ rfl; (with_reducible repeat (first | refine blk_drewN ?_ _ | refine blk_drew ?_ | refine blk_alloc ?_ _)); refine blk_put (cs := #[.int .i64 t147, .int .i64 t148, .int .i64 t149, .int .i64 t150, .int .i64 t151, .string (⟨#[]⟩ : ByteArray), .bool false]) ?_ 5 _ rfl; (with_reducible repeat (first | refine blk_drewN ?_ _ | refine blk_drew ?_ | refine blk_alloc ?_ _)); refine blk_put (cs := #[.int .i64 t147, .int .i64 t148, .int .i64 t149, .int .i64 t150, .int .i64 0, .string (⟨#[]⟩ : ByteArray), .bool false]) ?_ 4 _ rfl; (with_reducible repeat (first | refine blk_drewN ?_ _ | refine blk_drew ?_ | refine blk_alloc ?_ _)); refine blk_put (cs := #[.int .i64 t147, .int .i64 t148, .int .i64 t149, .int .i64 0, .int .i64 0, .string (⟨#[]⟩ : ByteArray), .bool false]) ?_ 3 _ rfl; (with_reducible repeat (first | refine blk_drewN ?_ _ | refine blk_drew ?_ | refine blk_alloc ?_ _)); refine blk_put (cs := #[.int .i64 t147, .int .i64 t148, .int .i64 0, .int .i64 0, .int .i64 0, .string (⟨#[]⟩ : ByteArray), .bool false]) ?_ 2 _ rfl; (with_reducible repeat (first | refine blk_drewN ?_ _ | refine blk_drew ?_ | refine blk_alloc ?_ _)); refine blk_put (cs := #[.int .i64 t147, .int .i64 0, .int .i64 0, .int .i64 0, .int .i64 0, .string (⟨#[]⟩ : ByteArray), .bool false]) ?_ 1 _ rfl; (with_reducible repeat (first | refine blk_drewN ?_ _ | refine blk_drew ?_ | refine blk_alloc ?_ _)); refine blk_put (cs := #[.int .i64 0, .int .i64 0, .int .i64 0, .int .i64 0, .int .i64 0, .string (⟨#[]⟩ : ByteArray), .bool false]) ?_ 0 _ rfl; (with_reducible repeat (first | refine blk_drewN ?_ _ | refine blk_drew ?_ | refine blk_alloc ?_ _)); exact BK144.out) hb); have n1_ := Aside0.mk (below_step (by repeat (first | (with_reducible first | exact HB.out | apply below_alloc | apply pw_below_drewN | apply below_drew1 | refine below_set ?_ GE144.out) | exact HB.out)) hb); clear BK144; clear HB; have BK144 := n0_; have HB := n1_; clear n0_ n1_; (try clear hb); (try clear hb2); (try clear hk); (try clear hi); have p158 : 0 ≤ (5 : Int) := (by omega); have q158 : 5 < (l0.length : Int) := of_decide_eq_true (by first | (with_reducible assumption) | assumption); obtain ⟨ad158, e158, hx158_0⟩ := Kd.at_string HR0.out 5 p158 q158; obtain rfl : ad145 = ad158 := (by injection e158); (try simp only [show (5 : Int).toNat = 5 from rfl, Nat.reduceMul, Nat.reduceEqDiff, Go.Addr.add, ↓reduceIte] at hx158_0); have qi158 : (5 < l0.length) = True := eq_true (by omega); (try rw [show ((5 : Int)).toNat = 5 from rfl] at hx158_0); replace hx158_0 := (HB.out.cell (World.block_lt_of_cell? w _ hx158_0)).trans hx158_0; replace p158 := eq_true p158; replace q158 := eq_true q158; have hcz36_0 : w35.cell? ⟨gb144, 0, none⟩ = some (.int .i64 t147) := (blk_cell BK144.out 0).trans rfl; have hcz36_1 : w35.cell? ⟨gb144, 1, none⟩ = some (.int .i64 t148) := (blk_cell BK144.out 1).trans rfl; have hcz36_2 : w35.cell? ⟨gb144, 2, none⟩ = some (.int .i64 t149) := (blk_cell BK144.out 2).trans rfl; have hcz36_3 : w35.cell? ⟨gb144, 3, none⟩ = some (.int .i64 t150) := (blk_cell BK144.out 3).trans rfl; have hcz36_4 : w35.cell? ⟨gb144, 4, none⟩ = some (.int .i64 t151) := (blk_cell BK144.out 4).trans rfl; have hcz36_5 : w35.cell? ⟨gb144, 5, none⟩ = some (.string t152) := (blk_cell BK144.out 5).trans rfl; have hcz36_6 : w35.cell? ⟨gb144, 6, none⟩ = some (.bool t153) := (blk_cell BK144.out 6).trans rfl; have hfz36_0 := blk_frozen BK144.out 0; have hfz36_1 := blk_frozen BK144.out 1; have hfz36_2 := blk_frozen BK144.out 2; have hfz36_3 := blk_frozen BK144.out 3; have hfz36_4 := blk_frozen BK144.out 4; have hfz36_5 := blk_frozen BK144.out 5; have hfz36_6 := blk_frozen BK144.out 6))
                  refine bodyPost_ret (results_ct rfl _ _ gb144 98 #[.int .i64 t147, .int .i64 t148, .int .i64 t149, .int .i64 t150, .int .i64 t151, .string (rdOf ByteArray.empty l0 5), .bool t156] (0, 0) _ rfl (by (with_reducible repeat (first | refine blk_drewN ?_ _ | refine blk_drew ?_ | refine blk_alloc ?_ _)); refine blk_put (cs := #[.int .i64 t147, .int .i64 t148, .int .i64 t149, .int .i64 t150, .int .i64 t151, .string (rdOf ByteArray.empty l0 5), .bool t156]) ?_ 6 _ rfl; (with_reducible repeat (first | refine blk_drewN ?_ _ | refine blk_drew ?_ | refine blk_alloc ?_ _)); refine blk_put (cs := #[.int .i64 t147, .int .i64 t148, .int .i64 t149, .int .i64 t150, .int .i64 t151, .string (rdOf ByteArray.empty l0 5), .bool t156]) ?_ 5 _ rfl; (with_reducible repeat (first | refine blk_drewN ?_ _ | refine blk_drew ?_ | refine blk_alloc ?_ _)); refine blk_put (cs := #[.int .i64 t147, .int .i64 t148, .int .i64 t149, .int .i64 t150, .int .i64 t151, .string (rdOf ByteArray.empty l0 5), .bool t156]) ?_ 4 _ rfl; (with_reducible repeat (first | refine blk_drewN ?_ _ | refine blk_drew ?_ | refine blk_alloc ?_ _)); refine blk_put (cs := #[.int .i64 t147, .int .i64 t148, .int .i64 t149, .int .i64 t150, .int .i64 t151, .string (rdOf ByteArray.empty l0 5), .bool t156]) ?_ 3 _ rfl; (with_reducible repeat (first | refine blk_drewN ?_ _ | refine blk_drew ?_ | refine blk_alloc ?_ _)); refine blk_put (cs := #[.int .i64 t147, .int .i64 t148, .int .i64 t149, .int .i64 t150, .int .i64 t151, .string (rdOf ByteArray.empty l0 5), .bool t156]) ?_ 2 _ rfl; (with_reducible repeat (first | refine blk_drewN ?_ _ | refine blk_drew ?_ | refine blk_alloc ?_ _)); refine blk_put (cs := #[.int .i64 t147, .int .i64 t148, .int .i64 t149, .int .i64 t150, .int .i64 t151, .string (rdOf ByteArray.empty l0 5), .bool t156]) ?_ 1 _ rfl; (with_reducible repeat (first | refine blk_drewN ?_ _ | refine blk_drew ?_ | refine blk_alloc ?_ _)); refine blk_put (cs := #[.int .i64 t147, .int .i64 t148, .int .i64 t149, .int .i64 t150, .int .i64 t151, .string (rdOf ByteArray.empty l0 5), .bool t156]) ?_ 0 _ rfl; (with_reducible repeat (first | refine blk_drewN ?_ _ | refine blk_drew ?_ | refine blk_alloc ?_ _)); refine blk_put (cs := #[.int .i64 t147, .int .i64 t148, .int .i64 t149, .int .i64 t150, .int .i64 t151, .string (rdOf ByteArray.empty l0 5), .bool t153]) ?_ 6 _ rfl; (with_reducible repeat (first | refine blk_drewN ?_ _ | refine blk_drew ?_ | refine blk_alloc ?_ _)); refine blk_put (cs := #[.int .i64 t147, .int .i64 t148, .int .i64 t149, .int .i64 t150, .int .i64 t151, .string t152, .bool t153]) ?_ 5 _ rfl; (with_reducible repeat (first | refine blk_drewN ?_ _ | refine blk_drew ?_ | refine blk_alloc ?_ _)); exact BK144.out) Tryd.underlying98 rfl (by kernel_rfl)) rfl ?_
                  exact ⟨by first | rfl | (simp [errW_none, errW_some] <;> rfl) | (simp [*, errW_none, errW_some] <;> rfl), by repeat (first | (with_reducible first | exact HB.out | apply below_alloc | apply pw_below_drewN | apply below_drew1 | refine below_set ?_ GE144.out) | exact HB.out)⟩
            · rw [if_neg c12] at H
              exact absurd H (by simp)
          · rw [if_neg c10] at H
            exact absurd H (by simp)
        · replace c8 := Bool.eq_false_iff.mpr c8
          subst c8
          have H1 : (if t146.toList = ([101, 120, 112, 105, 114, 101, 115] : List UInt8) then (if (l0.length : Int) = 5 then ((zic_date.f 1 l0).bind fun bt159 => (some (bt159.1, bt159.2.1, bt159.2.2.1, bt159.2.2.2.1, bt159.2.2.2.2.1, bt159.2.2.2.2.2.1, bt159.2.2.2.2.2.2.1, bt159.2.2.2.2.2.2.2))) else (some (0, 0, 0, 0, 0, (⟨#[]⟩ : ByteArray), false, false))) else (some (0, 0, 0, 0, 0, (⟨#[]⟩ : ByteArray), false, false))) = some (r1, r2, r3, r4, r5, r6, r7, r8) := by rw [if_neg (show ¬ (false = true) by decide)] at H; exact H
          clear H
          have H := H1
          clear H1
          by_cases c37 : t146.toList = ([101, 120, 112, 105, 114, 101, 115] : List UInt8)
          · rw [if_pos c37] at H
            have c37b0 : (t146.toList == ([101, 120, 112, 105, 114, 101, 115] : List UInt8)) = true := beq_iff_eq.mpr c37
            have c37b1 : (t146.toList != ([101, 120, 112, 105, 114, 101, 115] : List UInt8)) = false := bne_eq_false_iff_eq.mpr c37
            clear c37
            by_cases c38 : (l0.length : Int) = 5
            · rw [if_pos c38] at H
              have c38b0 : ((l0.length : Int) == 5) = true := beq_iff_eq.mpr c38
              have c38b1 : ((l0.length : Int) != 5) = false := bne_eq_false_iff_eq.mpr c38
              clear c38
              replace H := Option.bind_eq_some_iff.mp H
              obtain ⟨⟨t159, t160, t161, t162, t163, t164, t165, t166⟩, A390, H⟩ := H
              replace H : (some (t159, t160, t161, t162, t163, t164, t165, t166)) = some (r1, r2, r3, r4, r5, r6, r7, r8) := H
              have A39 := Aside0.mk A390
              clear A390
              simp only [Option.some.injEq, Prod.mk.injEq] at H
              obtain ⟨rfl, rfl, rfl, rfl, rfl, rfl, rfl, rfl⟩ := H
              go_wp2_with (first | ((with_reducible refine gate_callee (f := 77) rfl ?_); refine goesL_ (some 57) rfl rfl Tryd.func77 (by kernel_rfl) rfl #[.int .i64 1, .slice (some ad145) l0.length c0] rfl (by (try simp only [List.map_toArray, List.map_cons, List.map_nil]); first | done | rfl | (simp only [List.length_drop, List.length_take]; rfl)) ?_; (with_reducible refine (zic_date.calls 1 _ _ l0 t159 t160 t161 t162 t163 t164 t165 t166 _ ?side1 ?side2 A39.out).mono ?_); (case side1 => repeat (first | exact (Kd.C_below HR0.out HB.out) | (with_reducible refine Kd.C_alloc ?_ _) | (with_reducible refine Kd.C_drewN ?_ _) | (with_reducible refine Kd.C_drew ?_))); (case side2 => exact HC0.out); rintro e w40 ⟨rfl, hb⟩; refine ⟨_, rfl, ?_⟩; have n0_ := Aside0.mk (blk_below (g := gb144) (o := .cells #[.int .i64 0, .int .i64 0, .int .i64 0, .int .i64 0, .int .i64 0, .string (⟨#[]⟩ : ByteArray), .bool false] 98 (0, 0)) (by (with_reducible repeat (first | refine blk_drewN ?_ _ | refine blk_drew ?_ | refine blk_alloc ?_ _)); exact BK144.out) hb); have n1_ := Aside0.mk (below_step (by repeat (first | (with_reducible first | exact HB.out | apply below_alloc | apply pw_below_drewN | apply below_drew1 | refine below_set ?_ GE144.out) | exact HB.out)) hb); clear BK144; clear HB; have BK144 := n0_; have HB := n1_; clear n0_ n1_; (try clear hb); (try clear hb2); (try clear hk); (try clear hi); have hcz41_0 : w40.cell? ⟨gb144, 0, none⟩ = some (.int .i64 0) := (blk_cell BK144.out 0).trans rfl; have hcz41_1 : w40.cell? ⟨gb144, 1, none⟩ = some (.int .i64 0) := (blk_cell BK144.out 1).trans rfl; have hcz41_2 : w40.cell? ⟨gb144, 2, none⟩ = some (.int .i64 0) := (blk_cell BK144.out 2).trans rfl; have hcz41_3 : w40.cell? ⟨gb144, 3, none⟩ = some (.int .i64 0) := (blk_cell BK144.out 3).trans rfl; have hcz41_4 : w40.cell? ⟨gb144, 4, none⟩ = some (.int .i64 0) := (blk_cell BK144.out 4).trans rfl; have hcz41_5 : w40.cell? ⟨gb144, 5, none⟩ = some (.string (⟨#[]⟩ : ByteArray)) := (blk_cell BK144.out 5).trans rfl; have hcz41_6 : w40.cell? ⟨gb144, 6, none⟩ = some (.bool false) := (blk_cell BK144.out 6).trans rfl; have hfz41_0 := blk_frozen BK144.out 0; have hfz41_1 := blk_frozen BK144.out 1; have hfz41_2 := blk_frozen BK144.out 2; have hfz41_3 := blk_frozen BK144.out 3; have hfz41_4 := blk_frozen BK144.out 4; have hfz41_5 := blk_frozen BK144.out 5; have hfz41_6 := blk_frozen BK144.out 6))
              refine bodyPost_ret (results_ct rfl _ _ gb144 98 #[.int .i64 t159, .int .i64 t160, .int .i64 t161, .int .i64 t162, .int .i64 t163, .string t164, .bool t165] (0, 0) _ rfl (by (with_reducible repeat (first | refine blk_drewN ?_ _ | refine blk_drew ?_ | refine blk_alloc ?_ _)); refine blk_put (cs := #[.int .i64 t159, .int .i64 t160, .int .i64 t161, .int .i64 t162, .int .i64 t163, .string t164, .bool false]) ?_ 6 _ rfl; (with_reducible repeat (first | refine blk_drewN ?_ _ | refine blk_drew ?_ | refine blk_alloc ?_ _)); refine blk_put (cs := #[.int .i64 t159, .int .i64 t160, .int .i64 t161, .int .i64 t162, .int .i64 t163, .string (⟨#[]⟩ : ByteArray), .bool false]) ?_ 5 _ rfl; (with_reducible repeat (first | refine blk_drewN ?_ _ | refine blk_drew ?_ | refine blk_alloc ?_ _)); refine blk_put (cs := #[.int .i64 t159, .int .i64 t160, .int .i64 t161, .int .i64 t162, .int .i64 0, .string (⟨#[]⟩ : ByteArray), .bool false]) ?_ 4 _ rfl; (with_reducible repeat (first | refine blk_drewN ?_ _ | refine blk_drew ?_ | refine blk_alloc ?_ _)); refine blk_put (cs := #[.int .i64 t159, .int .i64 t160, .int .i64 t161, .int .i64 0, .int .i64 0, .string (⟨#[]⟩ : ByteArray), .bool false]) ?_ 3 _ rfl; (with_reducible repeat (first | refine blk_drewN ?_ _ | refine blk_drew ?_ | refine blk_alloc ?_ _)); refine blk_put (cs := #[.int .i64 t159, .int .i64 t160, .int .i64 0, .int .i64 0, .int .i64 0, .string (⟨#[]⟩ : ByteArray), .bool false]) ?_ 2 _ rfl; (with_reducible repeat (first | refine blk_drewN ?_ _ | refine blk_drew ?_ | refine blk_alloc ?_ _)); refine blk_put (cs := #[.int .i64 t159, .int .i64 0, .int .i64 0, .int .i64 0, .int .i64 0, .string (⟨#[]⟩ : ByteArray), .bool false]) ?_ 1 _ rfl; (with_reducible repeat (first | refine blk_drewN ?_ _ | refine blk_drew ?_ | refine blk_alloc ?_ _)); refine blk_put (cs := #[.int .i64 0, .int .i64 0, .int .i64 0, .int .i64 0, .int .i64 0, .string (⟨#[]⟩ : ByteArray), .bool false]) ?_ 0 _ rfl; (with_reducible repeat (first | refine blk_drewN ?_ _ | refine blk_drew ?_ | refine blk_alloc ?_ _)); exact BK144.out) Tryd.underlying98 rfl (by kernel_rfl)) rfl ?_
              exact ⟨by first | rfl | (simp [errW_none, errW_some] <;> rfl) | (simp [*, errW_none, errW_some] <;> rfl), by repeat (first | (with_reducible first | exact HB.out | apply below_alloc | apply pw_below_drewN | apply below_drew1 | refine below_set ?_ GE144.out) | exact HB.out)⟩
            · rw [if_neg c38] at H
              have c38b0 : ((l0.length : Int) == 5) = false := beq_eq_false_iff_ne.mpr c38
              have c38b1 : ((l0.length : Int) != 5) = true := bne_iff_ne.mpr c38
              simp only [Option.some.injEq, Prod.mk.injEq] at H
              obtain ⟨rfl, rfl, rfl, rfl, rfl, rfl, rfl, rfl⟩ := H
              have hcz42_0 : wc.cell? ⟨gb144, 0, none⟩ = some (.int .i64 0) := (blk_cell BK144.out 0).trans rfl
              have hcz42_1 : wc.cell? ⟨gb144, 1, none⟩ = some (.int .i64 0) := (blk_cell BK144.out 1).trans rfl
              have hcz42_2 : wc.cell? ⟨gb144, 2, none⟩ = some (.int .i64 0) := (blk_cell BK144.out 2).trans rfl
              have hcz42_3 : wc.cell? ⟨gb144, 3, none⟩ = some (.int .i64 0) := (blk_cell BK144.out 3).trans rfl
              have hcz42_4 : wc.cell? ⟨gb144, 4, none⟩ = some (.int .i64 0) := (blk_cell BK144.out 4).trans rfl
              have hcz42_5 : wc.cell? ⟨gb144, 5, none⟩ = some (.string (⟨#[]⟩ : ByteArray)) := (blk_cell BK144.out 5).trans rfl
              have hcz42_6 : wc.cell? ⟨gb144, 6, none⟩ = some (.bool false) := (blk_cell BK144.out 6).trans rfl
              have hfz42_0 := blk_frozen BK144.out 0
              have hfz42_1 := blk_frozen BK144.out 1
              have hfz42_2 := blk_frozen BK144.out 2
              have hfz42_3 := blk_frozen BK144.out 3
              have hfz42_4 := blk_frozen BK144.out 4
              have hfz42_5 := blk_frozen BK144.out 5
              have hfz42_6 := blk_frozen BK144.out 6
              go_wp2
              refine bodyPost_ret (results_ct rfl _ _ gb144 98 #[.int .i64 0, .int .i64 0, .int .i64 0, .int .i64 0, .int .i64 0, .string (⟨#[]⟩ : ByteArray), .bool false] (0, 0) _ rfl (by (with_reducible repeat (first | refine blk_drewN ?_ _ | refine blk_drew ?_ | refine blk_alloc ?_ _)); refine blk_put (cs := #[.int .i64 0, .int .i64 0, .int .i64 0, .int .i64 0, .int .i64 0, .string (⟨#[]⟩ : ByteArray), .bool false]) ?_ 6 _ rfl; (with_reducible repeat (first | refine blk_drewN ?_ _ | refine blk_drew ?_ | refine blk_alloc ?_ _)); refine blk_put (cs := #[.int .i64 0, .int .i64 0, .int .i64 0, .int .i64 0, .int .i64 0, .string (⟨#[]⟩ : ByteArray), .bool false]) ?_ 5 _ rfl; (with_reducible repeat (first | refine blk_drewN ?_ _ | refine blk_drew ?_ | refine blk_alloc ?_ _)); refine blk_put (cs := #[.int .i64 0, .int .i64 0, .int .i64 0, .int .i64 0, .int .i64 0, .string (⟨#[]⟩ : ByteArray), .bool false]) ?_ 4 _ rfl; (with_reducible repeat (first | refine blk_drewN ?_ _ | refine blk_drew ?_ | refine blk_alloc ?_ _)); refine blk_put (cs := #[.int .i64 0, .int .i64 0, .int .i64 0, .int .i64 0, .int .i64 0, .string (⟨#[]⟩ : ByteArray), .bool false]) ?_ 3 _ rfl; (with_reducible repeat (first | refine blk_drewN ?_ _ | refine blk_drew ?_ | refine blk_alloc ?_ _)); refine blk_put (cs := #[.int .i64 0, .int .i64 0, .int .i64 0, .int .i64 0, .int .i64 0, .string (⟨#[]⟩ : ByteArray), .bool false]) ?_ 2 _ rfl; (with_reducible repeat (first | refine blk_drewN ?_ _ | refine blk_drew ?_ | refine blk_alloc ?_ _)); refine blk_put (cs := #[.int .i64 0, .int .i64 0, .int .i64 0, .int .i64 0, .int .i64 0, .string (⟨#[]⟩ : ByteArray), .bool false]) ?_ 1 _ rfl; (with_reducible repeat (first | refine blk_drewN ?_ _ | refine blk_drew ?_ | refine blk_alloc ?_ _)); refine blk_put (cs := #[.int .i64 0, .int .i64 0, .int .i64 0, .int .i64 0, .int .i64 0, .string (⟨#[]⟩ : ByteArray), .bool false]) ?_ 0 _ rfl; (with_reducible repeat (first | refine blk_drewN ?_ _ | refine blk_drew ?_ | refine blk_alloc ?_ _)); exact BK144.out) Tryd.underlying98 rfl (by kernel_rfl)) rfl ?_
              exact ⟨by first | rfl | (simp [errW_none, errW_some] <;> rfl) | (simp [*, errW_none, errW_some] <;> rfl), by repeat (first | (with_reducible first | exact HB.out | apply below_alloc | apply pw_below_drewN | apply below_drew1 | refine below_set ?_ GE144.out) | exact HB.out)⟩
          · rw [if_neg c37] at H
            have c37b0 : (t146.toList == ([101, 120, 112, 105, 114, 101, 115] : List UInt8)) = false := beq_eq_false_iff_ne.mpr c37
            have c37b1 : (t146.toList != ([101, 120, 112, 105, 114, 101, 115] : List UInt8)) = true := bne_iff_ne.mpr c37
            simp only [Option.some.injEq, Prod.mk.injEq] at H
            obtain ⟨rfl, rfl, rfl, rfl, rfl, rfl, rfl, rfl⟩ := H
            have hcz43_0 : wc.cell? ⟨gb144, 0, none⟩ = some (.int .i64 0) := (blk_cell BK144.out 0).trans rfl
            have hcz43_1 : wc.cell? ⟨gb144, 1, none⟩ = some (.int .i64 0) := (blk_cell BK144.out 1).trans rfl
            have hcz43_2 : wc.cell? ⟨gb144, 2, none⟩ = some (.int .i64 0) := (blk_cell BK144.out 2).trans rfl
            have hcz43_3 : wc.cell? ⟨gb144, 3, none⟩ = some (.int .i64 0) := (blk_cell BK144.out 3).trans rfl
            have hcz43_4 : wc.cell? ⟨gb144, 4, none⟩ = some (.int .i64 0) := (blk_cell BK144.out 4).trans rfl
            have hcz43_5 : wc.cell? ⟨gb144, 5, none⟩ = some (.string (⟨#[]⟩ : ByteArray)) := (blk_cell BK144.out 5).trans rfl
            have hcz43_6 : wc.cell? ⟨gb144, 6, none⟩ = some (.bool false) := (blk_cell BK144.out 6).trans rfl
            have hfz43_0 := blk_frozen BK144.out 0
            have hfz43_1 := blk_frozen BK144.out 1
            have hfz43_2 := blk_frozen BK144.out 2
            have hfz43_3 := blk_frozen BK144.out 3
            have hfz43_4 := blk_frozen BK144.out 4
            have hfz43_5 := blk_frozen BK144.out 5
            have hfz43_6 := blk_frozen BK144.out 6
            go_wp2
            refine bodyPost_ret (results_ct rfl _ _ gb144 98 #[.int .i64 0, .int .i64 0, .int .i64 0, .int .i64 0, .int .i64 0, .string (⟨#[]⟩ : ByteArray), .bool false] (0, 0) _ rfl (by (with_reducible repeat (first | refine blk_drewN ?_ _ | refine blk_drew ?_ | refine blk_alloc ?_ _)); refine blk_put (cs := #[.int .i64 0, .int .i64 0, .int .i64 0, .int .i64 0, .int .i64 0, .string (⟨#[]⟩ : ByteArray), .bool false]) ?_ 6 _ rfl; (with_reducible repeat (first | refine blk_drewN ?_ _ | refine blk_drew ?_ | refine blk_alloc ?_ _)); refine blk_put (cs := #[.int .i64 0, .int .i64 0, .int .i64 0, .int .i64 0, .int .i64 0, .string (⟨#[]⟩ : ByteArray), .bool false]) ?_ 5 _ rfl; (with_reducible repeat (first | refine blk_drewN ?_ _ | refine blk_drew ?_ | refine blk_alloc ?_ _)); refine blk_put (cs := #[.int .i64 0, .int .i64 0, .int .i64 0, .int .i64 0, .int .i64 0, .string (⟨#[]⟩ : ByteArray), .bool false]) ?_ 4 _ rfl; (with_reducible repeat (first | refine blk_drewN ?_ _ | refine blk_drew ?_ | refine blk_alloc ?_ _)); refine blk_put (cs := #[.int .i64 0, .int .i64 0, .int .i64 0, .int .i64 0, .int .i64 0, .string (⟨#[]⟩ : ByteArray), .bool false]) ?_ 3 _ rfl; (with_reducible repeat (first | refine blk_drewN ?_ _ | refine blk_drew ?_ | refine blk_alloc ?_ _)); refine blk_put (cs := #[.int .i64 0, .int .i64 0, .int .i64 0, .int .i64 0, .int .i64 0, .string (⟨#[]⟩ : ByteArray), .bool false]) ?_ 2 _ rfl; (with_reducible repeat (first | refine blk_drewN ?_ _ | refine blk_drew ?_ | refine blk_alloc ?_ _)); refine blk_put (cs := #[.int .i64 0, .int .i64 0, .int .i64 0, .int .i64 0, .int .i64 0, .string (⟨#[]⟩ : ByteArray), .bool false]) ?_ 1 _ rfl; (with_reducible repeat (first | refine blk_drewN ?_ _ | refine blk_drew ?_ | refine blk_alloc ?_ _)); refine blk_put (cs := #[.int .i64 0, .int .i64 0, .int .i64 0, .int .i64 0, .int .i64 0, .string (⟨#[]⟩ : ByteArray), .bool false]) ?_ 0 _ rfl; (with_reducible repeat (first | refine blk_drewN ?_ _ | refine blk_drew ?_ | refine blk_alloc ?_ _)); exact BK144.out) Tryd.underlying98 rfl (by kernel_rfl)) rfl ?_
            exact ⟨by first | rfl | (simp [errW_none, errW_some] <;> rfl) | (simp [*, errW_none, errW_some] <;> rfl), by repeat (first | (with_reducible first | exact HB.out | apply below_alloc | apply pw_below_drewN | apply below_drew1 | refine below_set ?_ GE144.out) | exact HB.out)⟩
  · rw [if_neg c2] at H
    exact absurd H (by simp)
end Go.Proofs.YtodalfobehddmaaDoor.Z
namespace Go.Proofs.YtodalfobehddmaaDoor.Z
open Go.RowKit Go.Proofs.YtodalfobehddmaaDoorW.PrintWords Go.Proofs.YtodalfobehddmaaDoorW.PrintLast Go.Proofs.YtodalfobehddmaaDoor.Mx
attribute [local go_sem] max2_int min2_int max_two min_two max_three min_three   -- for this text's walks alone
end Go.Proofs.YtodalfobehddmaaDoor.Z
namespace Go.Proofs.YtodalfobehddmaaDoor.Y
open Go.RowKit Go.Proofs.YtodalfobehddmaaDoorW.PrintWords Go.Proofs.YtodalfobehddmaaDoorW.PrintLast Go.Proofs.YtodalfobehddmaaDoor.Mx
open Go.Proofs.YtodalfobehddmaaDoor.Z
theorem wrap_id (x : Int) (h1 : -9223372036854775808 ≤ x) (h2 : x ≤ 9223372036854775807) : wrap64 x = x := by unfold wrap64; omega
theorem tdiv_pos (a b : Int) (h : 0 ≤ a) : Int.tdiv a b = a / b := Int.tdiv_eq_ediv_of_nonneg h
theorem tmod_pos (a b : Int) (h : 0 ≤ a) : Int.tmod a b = a % b := Int.tmod_eq_emod_of_nonneg h
def yearOf (of : Int) : Int := (of - of / 1460 + of / 36524 - of / 146096) / 365
def restOf (of : Int) : Int := of - (365 * yearOf of + yearOf of / 4 - yearOf of / 100)
def marchOf (of : Int) : Int := (5 * restOf of + 2) / 153
def dateY (n : Int) : Int := if marchOf ((n + 719468) % 146097) + 3 > 12 then 400 * ((n + 719468) / 146097) + (yearOf ((n + 719468) % 146097) + 1) else 400 * ((n + 719468) / 146097) + yearOf ((n + 719468) % 146097)
def dateM (n : Int) : Int := if marchOf ((n + 719468) % 146097) + 3 > 12 then marchOf ((n + 719468) % 146097) + 3 - 12 else marchOf ((n + 719468) % 146097) + 3
def dateD (n : Int) : Int := restOf ((n + 719468) % 146097) - (153 * marchOf ((n + 719468) % 146097) + 2) / 5 + 1
theorem year_core (c r q t u : Int) (c0 : 0 ≤ c) (c1 : c ≤ 3) (r0 : 0 ≤ r) (r1 : r ≤ 36524) (hq : 1460 * q ≤ 24 * c + r) (hq2 : 24 * c + r < 1460 * q + 1460) (ht : 365 * t ≤ r - q) (ht2 : r - q < 365 * t + 365) (hu : 4 * u ≤ t) (hu2 : t < 4 * u + 4) :
    0 ≤ t ∧ t ≤ 100 ∧ 365 * t + u ≤ r ∧ r ≤ 365 * t + u + 365 := by
  have q0 : 0 ≤ q := by omega
  have q1 : q ≤ 25 := by omega
  have t0 : 0 ≤ t := by omega
  have t1 : t ≤ 4 * q + 3 := by omega
  have u1 : u ≤ q := by omega
  have q2 : q ≤ u + 1 := by omega
  omega
theorem yearOf_range (of : Int) (h0 : 0 ≤ of) (h1 : of ≤ 146096) : 0 ≤ yearOf of ∧ yearOf of ≤ 399 ∧ 365 * yearOf of + yearOf of / 4 - yearOf of / 100 ≤ of ∧ of ≤ 365 * yearOf of + yearOf of / 4 - yearOf of / 100 + 365 := by
  by_cases hl : of = 146096
  · subst hl; decide
  · have e0 : of / 146096 = 0 := by omega
    obtain ⟨c, hc⟩ : ∃ c, of / 36524 = c := ⟨_, rfl⟩
    obtain ⟨r, hr⟩ : ∃ r, of - 36524 * c = r := ⟨_, rfl⟩
    have c0 : 0 ≤ c ∧ c ≤ 3 := by omega
    have r0 : 0 ≤ r ∧ r < 36524 := by omega
    obtain ⟨q, hq⟩ : ∃ q, (24 * c + r) / 1460 = q := ⟨_, rfl⟩
    have e1 : of / 1460 = 25 * c + q := by omega
    obtain ⟨t, ht⟩ : ∃ t, (r - q) / 365 = t := ⟨_, rfl⟩
    have e2 : yearOf of = 100 * c + t := by
      unfold yearOf
      rw [e0, e1, hc]
      omega
    have k := year_core c r q t (t / 4) c0.1 c0.2 r0.1 (by omega) (by omega) (by omega) (by omega) (by omega) (by omega) (by omega)
    rw [e2]
    have t99 : t ≤ 99 := by
      rcases Int.lt_or_le t 100 with h | h
      · omega
      · have : t = 100 := by omega
        subst this
        omega
    have e3 : (100 * c + t) / 4 = 25 * c + t / 4 := by omega
    have e4 : (100 * c + t) / 100 = c := by omega
    rw [e3, e4]
    obtain ⟨k1, k2, k3, k4⟩ := k
    refine ⟨by omega, by omega, by omega, by omega⟩
theorem rest_range (of : Int) (h0 : 0 ≤ of) (h1 : of ≤ 146096) : 0 ≤ restOf of ∧ restOf of ≤ 365 := by
  have := yearOf_range of h0 h1
  unfold restOf
  omega
theorem march_range (of : Int) (h0 : 0 ≤ of) (h1 : of ≤ 146096) : 0 ≤ marchOf of ∧ marchOf of ≤ 11 := by
  have := rest_range of h0 h1
  unfold marchOf
  omega
def day_Date.f (a0 : Int) : Option (Int × Int × Int × Bool) := if -719162 ≤ a0 ∧ a0 ≤ 2932896 then some (dateY a0, dateM a0, dateD a0, true) else some (0, 0, 0, false)
theorem div_pos (a b : Int) (h0 : 0 ≤ a) (h1 : a ≤ 9223372036854775807) (hb : 1 ≤ b) : num_Div.f a b = some (a / b, a % b, true) := by
  unfold num_Div.f
  rw [if_neg (by omega), if_neg (by omega), tmod_pos a b h0, tdiv_pos a b h0, if_neg (by have := Int.emod_nonneg a (show b ≠ 0 by omega); omega), wrap_id _ (by have := Int.ediv_nonneg h0 (show 0 ≤ b by omega); omega) (by have := Int.ediv_le_self b h0; omega)]
theorem date_yes (n : Int) (h0 : -719162 ≤ n) (h1 : n ≤ 2932896) : Z.day_Date.f 1 n = some (dateY n, dateM n, dateD n, true) := by
  unfold Z.day_Date.f
  rw [if_neg (by omega), decide_eq_false (show ¬ n > 2932896 by omega)]
  simp only [Z.day_Date.j0]
  rw [if_neg (by decide), wrap_id (n + 719468) (by omega) (by omega), div_pos _ _ (by omega) (by omega) (by decide)]
  simp only [Option.bind_some]
  have ho0 : 0 ≤ (n + 719468) % 146097 := by omega
  have ho1 : (n + 719468) % 146097 ≤ 146096 := by omega
  have he : 0 ≤ (n + 719468) / 146097 ∧ (n + 719468) / 146097 ≤ 26 := by omega
  have hy := yearOf_range _ ho0 ho1
  have hr := rest_range _ ho0 ho1
  have hm := march_range _ ho0 ho1
  unfold dateY dateM dateD
  generalize hof : (n + 719468) % 146097 = of at *
  generalize hera : (n + 719468) / 146097 = era at *
  have e1 : wrap64 (Int.tdiv of 1460) = of / 1460 := by rw [tdiv_pos _ _ ho0, wrap_id] <;> omega
  have e2 : wrap64 (Int.tdiv of 36524) = of / 36524 := by rw [tdiv_pos _ _ ho0, wrap_id] <;> omega
  have e3 : wrap64 (Int.tdiv of 146096) = of / 146096 := by rw [tdiv_pos _ _ ho0, wrap_id] <;> omega
  rw [e1, e2, e3, wrap_id (of - of / 1460) (by omega) (by omega), wrap_id (of - of / 1460 + of / 36524) (by omega) (by omega), wrap_id (of - of / 1460 + of / 36524 - of / 146096) (by omega) (by omega), tdiv_pos (of - of / 1460 + of / 36524 - of / 146096) 365 (by omega)]
  rw [show (of - of / 1460 + of / 36524 - of / 146096) / 365 = yearOf of from rfl, wrap_id (yearOf of) (by omega) (by omega)]
  rw [tdiv_pos (yearOf of) _ (by omega), tdiv_pos (yearOf of) _ (by omega), wrap_id (365 * yearOf of) (by omega) (by omega), wrap_id (yearOf of / 4) (by omega) (by omega), wrap_id (yearOf of / 100) (by omega) (by omega), wrap_id (365 * yearOf of + yearOf of / 4) (by omega) (by omega), wrap_id (365 * yearOf of + yearOf of / 4 - yearOf of / 100) (by omega) (by omega), wrap_id (of - (365 * yearOf of + yearOf of / 4 - yearOf of / 100)) (by omega) (by omega)]
  rw [show of - (365 * yearOf of + yearOf of / 4 - yearOf of / 100) = restOf of from rfl]
  rw [wrap_id (5 * restOf of) (by omega) (by omega), wrap_id (5 * restOf of + 2) (by omega) (by omega), tdiv_pos (5 * restOf of + 2) 153 (by omega)]
  rw [show (5 * restOf of + 2) / 153 = marchOf of from rfl, wrap_id (marchOf of) (by omega) (by omega)]
  rw [wrap_id (marchOf of + 3) (by omega) (by omega), wrap_id (153 * marchOf of) (by omega) (by omega), wrap_id (153 * marchOf of + 2) (by omega) (by omega), tdiv_pos (153 * marchOf of + 2) 5 (by omega), wrap_id ((153 * marchOf of + 2) / 5) (by omega) (by omega), wrap_id (restOf of - (153 * marchOf of + 2) / 5) (by omega) (by omega), wrap_id (restOf of - (153 * marchOf of + 2) / 5 + 1) (by omega) (by omega), wrap_id (400 * era) (by omega) (by omega), wrap_id (yearOf of + 1) (by omega) (by omega), wrap_id (400 * era + (yearOf of + 1)) (by omega) (by omega), wrap_id (400 * era + yearOf of) (by omega) (by omega), wrap_id (marchOf of + 3 - 12) (by omega) (by omega)]
  split <;> rfl
theorem day_Date.calls (a0 : Int) (r1 : Int) (r2 : Int) (r3 : Int) (r4 : Bool) (w : World) (h : day_Date.f a0 = some (r1, r2, r3, r4)) :
    Calls Tryd.prog 52 #[.int .i64 a0] w fun e w' => e = .returned (.tuple #[.int .i64 r1, .int .i64 r2, .int .i64 r3, .bool r4]) ∧ Below w.heap.size w w' := by
  have hz : Z.day_Date.f 1 a0 = some (r1, r2, r3, r4) := by
    unfold day_Date.f at h
    split at h
    · rename_i c
      rw [← h]
      exact date_yes a0 c.1 c.2
    · rename_i c
      rw [← h]
      unfold Z.day_Date.f
      by_cases c2 : a0 < -719162
      · rw [if_pos c2]; rfl
      · rw [if_neg c2, decide_eq_true (show a0 > 2932896 by omega)]; rfl
  refine (Z.day_Date.calls 1 a0 r1 r2 r3 r4 w hz).mono ?_
  rintro e w' ⟨rfl, hd⟩
  exact ⟨rfl, hd.below⟩
end Go.Proofs.YtodalfobehddmaaDoor.Y
namespace Go.Proofs.YtodalfobehddmaaDoor.Y
open Go.RowKit Go.Proofs.YtodalfobehddmaaDoorW.PrintWords Go.Proofs.YtodalfobehddmaaDoorW.PrintLast Go.Proofs.YtodalfobehddmaaDoor.Mx
open Go.Proofs.YtodalfobehddmaaDoor.Z
def lpN (y : Int) : Int := if leapB y = true then 1 else 0
def firstN (y : Int) : Int := 365 * (y - 1) + (y - 1) / 4 - (y - 1) / 100 + (y - 1) / 400 - 719162
def cumN (y m : Int) : Int := if m ≤ 1 then 0 else if m = 2 then 31 else (153 * (m - 3) + 2) / 5 + 59 + lpN y
def numberN (y m d : Int) : Int := firstN y + cumN y m + d - 1
def validN (y m d : Int) : Prop := 1 ≤ y ∧ y ≤ 9999 ∧ 1 ≤ m ∧ m ≤ 12 ∧ 1 ≤ d ∧ d ≤ lastN y m
instance (y m d : Int) : Decidable (validN y m d) := by unfold validN; exact inferInstance
theorem leapB_iff (y : Int) : leapB y = true ↔ y % 4 = 0 ∧ (y % 100 ≠ 0 ∨ y % 400 = 0) := by
  unfold leapB
  simp
theorem lpN_eq (y : Int) : lpN y = y / 4 - (y - 1) / 4 - (y / 100 - (y - 1) / 100) + (y / 400 - (y - 1) / 400) := by
  unfold lpN
  by_cases h : leapB y = true
  · rw [if_pos h]
    rw [leapB_iff] at h
    omega
  · rw [if_neg h]
    rw [leapB_iff] at h
    omega
theorem lastN_range (y m : Int) : 28 ≤ lastN y m ∧ lastN y m ≤ 31 := by
  unfold lastN
  split
  · split <;> omega
  · split <;> omega
theorem number_march (y m d : Int) (hm : 3 ≤ m) : numberN y m d = 365 * y + y / 4 - y / 100 + y / 400 + (153 * (m - 3) + 2) / 5 + d - 1 - 719468 := by
  have := lpN_eq y
  unfold numberN cumN firstN
  rw [if_neg (by omega), if_neg (by omega)]
  omega
theorem number_early (y m d : Int) (hm0 : 1 ≤ m) (hm : m < 3) : numberN y m d = 365 * (y - 1) + (y - 1) / 4 - (y - 1) / 100 + (y - 1) / 400 + (153 * (m + 12 - 3) + 2) / 5 + d - 1 - 719468 := by
  unfold numberN cumN firstN
  by_cases h : m = 1
  · subst h
    rw [if_pos (by omega)]
    omega
  · have : m = 2 := by omega
    subst this
    rw [if_neg (by omega), if_pos rfl]
    omega
def day_Number.f (a0 : Int) (a1 : Int) (a2 : Int) : Option (Int × Bool) := if validN a0 a1 a2 then some (numberN a0 a1 a2, true) else some (0, false)
theorem number_yes (y m d : Int) (h : validN y m d) : Z.day_Number.f 1 y m d = some (numberN y m d, true) := by
  obtain ⟨y0, y1, m0, m1, d0, d1⟩ := h
  have hl := lastN_range y m
  unfold Z.day_Number.f day_Last.f
  rw [if_neg (by omega)]
  simp only [Option.bind_some, if_true]
  rw [if_neg (by omega), decide_eq_false (show ¬ d > lastN y m by omega)]
  simp only [Z.day_Number.j0]
  rw [if_neg (by decide)]
  by_cases hm : m < 3
  · rw [if_pos hm, wrap_id (y - 1) (by omega) (by omega), div_pos _ _ (by omega) (by omega) (by decide)]
    simp only [Option.bind_some]
    rw [number_early y m d m0 hm]
    have a1 : 0 ≤ (y - 1) / 400 ∧ (y - 1) / 400 ≤ 24 := by omega
    have a2 : 0 ≤ (y - 1) % 400 ∧ (y - 1) % 400 ≤ 399 := by omega
    have e : 146097 * ((y - 1) / 400) + 365 * ((y - 1) % 400) + (y - 1) % 400 / 4 - (y - 1) % 400 / 100 = 365 * (y - 1) + (y - 1) / 4 - (y - 1) / 100 + (y - 1) / 400 := by omega
    generalize (y - 1) / 400 = q at *
    generalize (y - 1) % 400 = b at *
    rw [tdiv_pos b _ (by omega), tdiv_pos b _ (by omega), wrap_id (m + 12) (by omega) (by omega), wrap_id (m + 12 - 3) (by omega) (by omega), wrap_id (153 * (m + 12 - 3)) (by omega) (by omega), wrap_id (153 * (m + 12 - 3) + 2) (by omega) (by omega), tdiv_pos (153 * (m + 12 - 3) + 2) 5 (by omega), wrap_id ((153 * (m + 12 - 3) + 2) / 5) (by omega) (by omega), wrap_id ((153 * (m + 12 - 3) + 2) / 5 + d) (by omega) (by omega), wrap_id ((153 * (m + 12 - 3) + 2) / 5 + d - 1) (by omega) (by omega), wrap_id (146097 * q) (by omega) (by omega), wrap_id (365 * b) (by omega) (by omega), wrap_id (b / 4) (by omega) (by omega), wrap_id (b / 100) (by omega) (by omega), wrap_id (146097 * q + 365 * b) (by omega) (by omega), wrap_id (146097 * q + 365 * b + b / 4) (by omega) (by omega), wrap_id (146097 * q + 365 * b + b / 4 - b / 100) (by omega) (by omega), e]
    rw [wrap_id (365 * (y - 1) + (y - 1) / 4 - (y - 1) / 100 + q + ((153 * (m + 12 - 3) + 2) / 5 + d - 1)) (by omega) (by omega), wrap_id (365 * (y - 1) + (y - 1) / 4 - (y - 1) / 100 + q + ((153 * (m + 12 - 3) + 2) / 5 + d - 1) - 719468) (by omega) (by omega)]
    congr 2
    omega
  · rw [if_neg hm, div_pos _ _ (by omega) (by omega) (by decide)]
    simp only [Option.bind_some]
    rw [number_march y m d (by omega)]
    have a1 : 0 ≤ y / 400 ∧ y / 400 ≤ 24 := by omega
    have a2 : 0 ≤ y % 400 ∧ y % 400 ≤ 399 := by omega
    have e : 146097 * (y / 400) + 365 * (y % 400) + y % 400 / 4 - y % 400 / 100 = 365 * y + y / 4 - y / 100 + y / 400 := by omega
    generalize y / 400 = q at *
    generalize y % 400 = b at *
    rw [tdiv_pos b _ (by omega), tdiv_pos b _ (by omega), wrap_id (m - 3) (by omega) (by omega), wrap_id (153 * (m - 3)) (by omega) (by omega), wrap_id (153 * (m - 3) + 2) (by omega) (by omega), tdiv_pos (153 * (m - 3) + 2) 5 (by omega), wrap_id ((153 * (m - 3) + 2) / 5) (by omega) (by omega), wrap_id ((153 * (m - 3) + 2) / 5 + d) (by omega) (by omega), wrap_id ((153 * (m - 3) + 2) / 5 + d - 1) (by omega) (by omega), wrap_id (146097 * q) (by omega) (by omega), wrap_id (365 * b) (by omega) (by omega), wrap_id (b / 4) (by omega) (by omega), wrap_id (b / 100) (by omega) (by omega), wrap_id (146097 * q + 365 * b) (by omega) (by omega), wrap_id (146097 * q + 365 * b + b / 4) (by omega) (by omega), wrap_id (146097 * q + 365 * b + b / 4 - b / 100) (by omega) (by omega), e]
    rw [wrap_id (365 * y + y / 4 - y / 100 + q + ((153 * (m - 3) + 2) / 5 + d - 1)) (by omega) (by omega), wrap_id (365 * y + y / 4 - y / 100 + q + ((153 * (m - 3) + 2) / 5 + d - 1) - 719468) (by omega) (by omega)]
    congr 2
    omega
theorem number_no (y m d : Int) (h : ¬ validN y m d) : Z.day_Number.f 1 y m d = some (0, false) := by
  unfold Z.day_Number.f day_Last.f
  by_cases hl : y < 1 ∨ 9999 < y ∨ m < 1 ∨ 12 < m
  · rw [if_pos hl]
    rfl
  · rw [if_neg hl]
    simp only [Option.bind_some, if_true]
    by_cases hd : d < 1
    · rw [if_pos hd]; rfl
    · rw [if_neg hd, decide_eq_true (show d > lastN y m by unfold validN at h; omega)]
      rfl
theorem day_Number.calls (a0 : Int) (a1 : Int) (a2 : Int) (r1 : Int) (r2 : Bool) (w : World) (h : day_Number.f a0 a1 a2 = some (r1, r2)) :
    Calls Tryd.prog 58 #[.int .i64 a0, .int .i64 a1, .int .i64 a2] w fun e w' => e = .returned (.tuple #[.int .i64 r1, .bool r2]) ∧ Below w.heap.size w w' := by
  have hz : Z.day_Number.f 1 a0 a1 a2 = some (r1, r2) := by
    unfold day_Number.f at h
    split at h
    · rename_i c
      rw [← h]
      exact number_yes _ _ _ c
    · rename_i c
      rw [← h]
      exact number_no _ _ _ c
  exact Z.day_Number.calls 1 a0 a1 a2 r1 r2 w hz
theorem rest_leap (of : Int) (h0 : 0 ≤ of) (h1 : of ≤ 146096) (hr : restOf of = 365) : (yearOf of + 1) % 4 = 0 ∧ ((yearOf of + 1) % 100 ≠ 0 ∨ (yearOf of + 1) % 400 = 0) := by
  by_cases hl : of = 146096
  · subst hl; decide
  · have e0 : of / 146096 = 0 := by omega
    obtain ⟨c, hc⟩ : ∃ c, of / 36524 = c := ⟨_, rfl⟩
    obtain ⟨r, hrr⟩ : ∃ r, of - 36524 * c = r := ⟨_, rfl⟩
    have c0 : 0 ≤ c ∧ c ≤ 3 := by omega
    have r0 : 0 ≤ r ∧ r < 36524 := by omega
    obtain ⟨q, hq⟩ : ∃ q, (24 * c + r) / 1460 = q := ⟨_, rfl⟩
    have e1 : of / 1460 = 25 * c + q := by omega
    obtain ⟨t, ht⟩ : ∃ t, (r - q) / 365 = t := ⟨_, rfl⟩
    have e2 : yearOf of = 100 * c + t := by
      unfold yearOf
      rw [e0, e1, hc]
      omega
    have k := year_core c r q t (t / 4) c0.1 c0.2 r0.1 (by omega) (by omega) (by omega) (by omega) (by omega) (by omega) (by omega)
    have t99 : t ≤ 99 := by
      rcases Int.lt_or_le t 100 with h | h
      · omega
      · have : t = 100 := by omega
        subst this
        omega
    have e3 : (100 * c + t) / 4 = 25 * c + t / 4 := by omega
    have e4 : (100 * c + t) / 100 = c := by omega
    unfold restOf at hr
    rw [e2, e3, e4] at hr
    rw [e2]
    obtain ⟨u, hu⟩ : ∃ u, t / 4 = u := ⟨_, rfl⟩
    rw [hu] at hr k
    have hr2 : r = 365 * t + u + 365 := by omega
    have q1 : u + 1 ≤ q := by omega
    have u24 : u ≤ 24 := by omega
    have t3 : t = 4 * u + 3 := by omega
    have u23 : u ≤ 23 := by omega
    refine ⟨by omega, .inl (by omega)⟩
theorem date_valid (n : Int) (h0 : -719162 ≤ n) (h1 : n ≤ 2932896) : validN (dateY n) (dateM n) (dateD n) ∧ numberN (dateY n) (dateM n) (dateD n) = n := by
  have ho0 : 0 ≤ (n + 719468) % 146097 := by omega
  have ho1 : (n + 719468) % 146097 ≤ 146096 := by omega
  have he : 0 ≤ (n + 719468) / 146097 ∧ (n + 719468) / 146097 ≤ 24 := by omega
  have hn : n = 146097 * ((n + 719468) / 146097) + (n + 719468) % 146097 - 719468 := by omega
  have hy := yearOf_range _ ho0 ho1
  have hr := rest_range _ ho0 ho1
  have hm := march_range _ ho0 ho1
  have hlp := rest_leap _ ho0 ho1
  have hrest : restOf ((n + 719468) % 146097) = (n + 719468) % 146097 - (365 * yearOf ((n + 719468) % 146097) + yearOf ((n + 719468) % 146097) / 4 - yearOf ((n + 719468) % 146097) / 100) := rfl
  have hmar : marchOf ((n + 719468) % 146097) = (5 * restOf ((n + 719468) % 146097) + 2) / 153 := rfl
  unfold dateY dateM dateD
  generalize (n + 719468) % 146097 = of at *
  generalize (n + 719468) / 146097 = era at *
  generalize yearOf of = yr at *
  generalize restOf of = rest at *
  generalize marchOf of = mm at *
  have hY4 : ∀ z : Int, (400 * era + z) / 4 = 100 * era + z / 4 := by intro z; omega
  have hY100 : ∀ z : Int, (400 * era + z) / 100 = 4 * era + z / 100 := by intro z; omega
  have hY400 : ∀ z : Int, (400 * era + z) / 400 = era + z / 400 := by intro z; omega
  by_cases hc : mm + 3 > 12
  · rw [if_pos hc, if_pos hc]
    have hmm : mm = 10 ∨ mm = 11 := by omega
    constructor
    · refine ⟨by omega, by omega, by omega, by omega, by omega, ?_⟩
      unfold lastN
      rcases hmm with rfl | rfl
      · rw [if_neg (by decide), if_neg (by decide)]
        omega
      · rw [if_pos (by decide)]
        by_cases hlast : rest = 365
        · have hl2 := hlp hlast
          rw [if_pos]
          · omega
          · rw [leapB_iff]
            omega
        · split <;> omega
    · rw [number_early _ _ _ (by omega) (by omega)]
      have e : 400 * era + (yr + 1) - 1 = 400 * era + yr := by omega
      rw [e, hY4, hY100, hY400]
      have e2 : mm + 3 - 12 + 12 - 3 = mm := by omega
      rw [e2]
      omega
  · rw [if_neg hc, if_neg hc]
    have hmm : mm = 0 ∨ mm = 1 ∨ mm = 2 ∨ mm = 3 ∨ mm = 4 ∨ mm = 5 ∨ mm = 6 ∨ mm = 7 ∨ mm = 8 ∨ mm = 9 := by omega
    constructor
    · refine ⟨by omega, by omega, by omega, by omega, by omega, ?_⟩
      unfold lastN
      rcases hmm with rfl | rfl | rfl | rfl | rfl | rfl | rfl | rfl | rfl | rfl
      all_goals
        rw [if_neg (by decide)]
        first
        | (rw [if_pos (by decide)]; omega)
        | (rw [if_neg (by decide)]; omega)
    · rw [number_march _ _ _ (by omega), hY4, hY100, hY400]
      have e2 : mm + 3 - 3 = mm := by omega
      rw [e2]
      omega
end Go.Proofs.YtodalfobehddmaaDoor.Y
namespace Go.Proofs.YtodalfobehddmaaDoor.Y
open Go.RowKit Go.Proofs.YtodalfobehddmaaDoorW.PrintWords Go.Proofs.YtodalfobehddmaaDoorW.PrintLast Go.Proofs.YtodalfobehddmaaDoor.Mx
open Go.Proofs.YtodalfobehddmaaDoor.Z
def endB (n : Int) : Bool := decide (-719162 ≤ n ∧ n ≤ 2932896) && decide (dateD n = lastN (dateY n) (dateM n))
def wrongN (k d step ahead : Int) : Int :=
  if 200 ≤ k then 8 else if d < 730 ∨ 2932896 ≤ d then 9 else if endB d = false then 5 else if step ≠ 1 ∧ step ≠ -1 then 6 else if d ≤ ahead then 4 else 0
def scanN (k ahead : Int) : List S46 → (Int × Int) ⊕ Int
  | [] => .inr ahead
  | l :: t => if wrongN k l.f0 l.f1 ahead = 0 then scanN (k + 1) l.f0 t else .inl (k, wrongN k l.f0 l.f1 ahead)
def endsN (ahead : Int) (has : Bool) (exp : Int) : Bool := if has = true then decide ((ahead + 1) * 86400 ≤ exp ∧ 63072000 ≤ exp ∧ exp ≤ 253402300799) else decide (exp = 0)
def checkN (l : List S46) (has : Bool) (exp : Int) : Int × Int := match scanN 0 729 l with
  | .inl r => r
  | .inr a => if endsN a has exp = true then ((l.length : Int), 0) else ((l.length : Int), 9)
def rightN (l : List S46) (has : Bool) (exp : Int) : Bool := (checkN l has exp).2 == 0
theorem leO_at {α : Type} {f : Nat → Option α} (hm : ∀ k, LeO (f k) (f (k + 1))) {j : Nat} {r : α} (h : f j = some r) : ∀ k, j ≤ k → f k = some r := by
  intro k hk
  obtain ⟨d, rfl⟩ := Nat.exists_eq_add_of_le hk
  induction d with
  | zero => exact h
  | succ d ih => exact hm (j + d) r (ih (by omega))
theorem date_at (k : Nat) (hk : 1 ≤ k) (n : Int) (h0 : -719162 ≤ n) (h1 : n ≤ 2932896) : Z.day_Date.f k n = some (dateY n, dateM n, dateD n, true) :=
  leO_at (fun k => Z.day_Date.mono n k) (date_yes n h0 h1) k hk
theorem end_at (k : Nat) (hk : 1 ≤ k) (n : Int) (h0 : 730 ≤ n) (h1 : n < 2932896) : Z.day_End.f k n = some (endB n) := by
  unfold Z.day_End.f
  rw [date_at k hk n (by omega) (by omega)]
  simp only [Option.bind_some]
  obtain ⟨hv, _⟩ := date_valid n (by omega) (by omega)
  obtain ⟨y0, y1, m0, m1, d0, d1⟩ := hv
  unfold day_Last.f
  rw [if_neg (by omega)]
  simp only [Option.bind_some, if_true]
  unfold endB
  rw [decide_eq_true (show -719162 ≤ n ∧ n ≤ 2932896 by omega)]
  simp only [Bool.true_and]
  rfl
theorem wrong_at (k : Nat) (hk : 3 ≤ k) (i d step : Int) (roll : Bool) (ahead : Int) : Z.leap_wrong.f k i d step roll ahead = some (wrongN i d step ahead) := by
  obtain ⟨k, rfl⟩ : ∃ m, k = m + 3 := ⟨k - 3, by omega⟩
  unfold Z.leap_wrong.f wrongN
  by_cases c1 : 200 ≤ i
  · rw [if_pos (by omega), if_pos c1]
  · rw [if_neg (by omega), if_neg c1]
    by_cases c2 : d < 730
    · rw [if_pos c2, if_pos (by omega), decide_eq_true c2]
      simp only [Z.leap_wrong.j0]
      rw [if_pos trivial]
    · rw [if_neg c2]
      by_cases c3 : 2932896 ≤ d
      · rw [decide_eq_true (show d ≥ 2932896 by omega), if_pos (by omega)]
        simp only [Z.leap_wrong.j0]
        rw [if_pos trivial]
      · rw [decide_eq_false (show ¬ d ≥ 2932896 by omega), if_neg (by omega)]
        simp only [Z.leap_wrong.j0]
        rw [if_neg (by decide), end_at _ (by omega) d (by omega) (by omega)]
        simp only [Option.bind_some]
        cases he : endB d with
        | false => rfl
        | true =>
          rw [if_pos (show (true = true) from rfl), if_neg (show ¬ (true = false) by decide)]
          by_cases s1 : step = 1
          · rw [if_pos s1, if_neg (by omega)]
            simp only [Z.leap_wrong.j1]
            rw [if_neg (by decide)]
            split <;> rfl
          · rw [if_neg s1]
            simp only [Z.leap_wrong.j1]
            by_cases s2 : step = -1
            · rw [if_neg (show ¬ (step != -1) = true by simp [s2]), if_neg (show ¬ (step ≠ 1 ∧ step ≠ -1) by omega)]
              split <;> rfl
            · rw [if_pos (by simpa using s2), if_pos ⟨s1, s2⟩]
theorem wrongN_zero {k d step ahead : Int} (h : wrongN k d step ahead = 0) : k < 200 ∧ 730 ≤ d ∧ d < 2932896 ∧ endB d = true ∧ (step = 1 ∨ step = -1) ∧ ahead < d := by
  unfold wrongN at h
  repeat' split at h
  all_goals simp_all
  all_goals omega
theorem check_loop (l : List S46) (has : Bool) (exp : Int) (n : Nat) (hl : l.length = n) (hn : n ≤ 4611686018427387904) : ∀ (j : Nat) (i : Nat) (ahead : Int) (k : Nat), n - i = j → i ≤ n → j + 5 ≤ k → 729 ≤ ahead → ahead < 2932896 →
    Z.leap_Check.l0 k ahead l n i l has exp = some (match scanN i ahead (l.drop i) with
      | .inl r => r
      | .inr a => if endsN a has exp = true then ((l.length : Int), 0) else ((l.length : Int), 9)) := by
  intro j
  induction j with
  | zero =>
    intro i ahead k hj hi hk ha ha2
    obtain ⟨k, rfl⟩ : ∃ m, k = m + 1 := ⟨k - 1, by omega⟩
    have e : i = n := by omega
    subst e
    simp only [Z.leap_Check.l0]
    rw [if_neg (by omega), List.drop_of_length_le (by omega)]
    simp only [scanN]
    unfold endsN
    rw [wrap_id (ahead + 1) (by omega) (by omega), wrap_id ((ahead + 1) * 86400) (by omega) (by omega)]
    cases has with
    | true =>
      simp only [if_true]
      by_cases h1 : exp < mx ((ahead + 1) * 86400) 63072000
      · rw [if_pos h1, if_neg]
        rw [decide_eq_true_iff]
        unfold mx at h1
        split at h1 <;> omega
      · rw [if_neg h1]
        have h1' : (ahead + 1) * 86400 ≤ exp ∧ 63072000 ≤ exp := by
          unfold mx at h1
          split at h1 <;> omega
        by_cases h2 : exp > 253402300799
        · rw [if_pos h2, if_neg]
          rw [decide_eq_true_iff]
          omega
        · rw [if_neg h2, if_pos]
          rw [decide_eq_true_iff]
          omega
    | false =>
      simp only [Bool.false_eq_true, if_false]
      by_cases h1 : exp < 0
      · rw [if_pos h1, if_neg]
        rw [decide_eq_true_iff]; omega
      · rw [if_neg h1]
        by_cases h2 : exp > 0
        · rw [if_pos h2, if_neg]
          rw [decide_eq_true_iff]; omega
        · rw [if_neg h2, if_pos]
          rw [decide_eq_true_iff]; omega
  | succ j ih =>
    intro i ahead k hj hi hk ha ha2
    obtain ⟨k, rfl⟩ : ∃ m, k = m + 1 := ⟨k - 1, by omega⟩
    have hlt : i < l.length := by omega
    simp only [Z.leap_Check.l0]
    rw [if_pos (by omega), if_pos (by omega), if_pos (by omega), wrong_at _ (by omega)]
    simp only [Option.bind_some]
    have hrd : rd_T46 l (i : Int) = l[i] := by
      unfold rd_T46
      rw [Int.toNat_natCast, List.getD_eq_getElem?_getD, List.getElem?_eq_getElem hlt]
      rfl
    rw [hrd, List.drop_eq_getElem_cons hlt]
    simp only [scanN]
    by_cases hw : wrongN i l[i].f0 l[i].f1 ahead = 0
    · rw [if_pos hw, if_pos hw, wrap_id ((i : Int) + 1) (by omega) (by omega)]
      have hz := wrongN_zero hw
      exact ih (i + 1) l[i].f0 k (by omega) (by omega) (by omega) (by omega) (by omega)
    · rw [if_neg hw, if_neg hw]
theorem check_at (l : List S46) (has : Bool) (exp : Int) (hn : l.length ≤ 4611686018427387904) (k : Nat) (hk : l.length + 5 ≤ k) : Z.leap_Check.f k l has exp = some (checkN l has exp) := by
  unfold Z.leap_Check.f checkN
  have h := check_loop l has exp l.length rfl hn l.length 0 729 k (by omega) (by omega) hk (by omega) (by omega)
  exact h
def leap_Check.f (l0_0 : List (S46)) (a0_1 : Bool) (a0_2 : Int) : Option (Int × Int) := if l0_0.length ≤ 4611686018427387904 then some (checkN l0_0 a0_1 a0_2) else none
theorem leap_Check.calls (A0_0 : Option Addr) (c0_0 : Nat) (l0_0 : List (S46)) (a0_1 : Bool) (a0_2 : Int) (r1 : Int) (r2 : Int) (w : World) (hr0_0 : Kd.C k46 w A0_0 l0_0.length l0_0) (hc0_0 : l0_0.length ≤ c0_0) (h : leap_Check.f l0_0 a0_1 a0_2 = some (r1, r2)) :
    Calls Tryd.prog 30 #[.agg #[.slice A0_0 l0_0.length c0_0, .bool a0_1, .int .i64 a0_2]] w fun e w' => e = .returned (.tuple #[.int .i64 r1, .int .i64 r2]) ∧ Below w.heap.size w w' := by
  unfold leap_Check.f at h
  split at h
  · rename_i hn
    exact Z.leap_Check.calls (l0_0.length + 5) A0_0 c0_0 l0_0 a0_1 a0_2 r1 r2 w hr0_0 hc0_0 (by rw [check_at _ _ _ hn _ (by omega)]; exact h)
  · cases h
def leap_Right.f (l0_0 : List (S46)) (a0_1 : Bool) (a0_2 : Int) : Option (Bool) := if l0_0.length ≤ 4611686018427387904 then some (rightN l0_0 a0_1 a0_2) else none
theorem leap_Right.calls (A0_0 : Option Addr) (c0_0 : Nat) (l0_0 : List (S46)) (a0_1 : Bool) (a0_2 : Int) (r : Bool) (w : World) (hr0_0 : Kd.C k46 w A0_0 l0_0.length l0_0) (hc0_0 : l0_0.length ≤ c0_0) (h : leap_Right.f l0_0 a0_1 a0_2 = some r) :
    Calls Tryd.prog 14 #[.agg #[.slice A0_0 l0_0.length c0_0, .bool a0_1, .int .i64 a0_2]] w fun e w' => e = .returned (.bool r) ∧ Below w.heap.size w w' := by
  unfold leap_Right.f at h
  split at h
  · rename_i hn
    refine Z.leap_Right.calls (l0_0.length + 5) A0_0 c0_0 l0_0 a0_1 a0_2 r w hr0_0 hc0_0 ?_
    unfold Z.leap_Right.f
    rw [check_at _ _ _ hn _ (by omega)]
    exact h
  · cases h
end Go.Proofs.YtodalfobehddmaaDoor.Y
namespace Go.Proofs.YtodalfobehddmaaDoor.Z
open Go.RowKit Go.Proofs.YtodalfobehddmaaDoorW.PrintWords Go.Proofs.YtodalfobehddmaaDoorW.PrintLast Go.Proofs.YtodalfobehddmaaDoor.Mx
structure NumsAt (g : Nat) (l : List Int) (w : World) : Prop where
  cell : ∀ j (h : j < l.length), w.cell? ⟨g, j, none⟩ = some (.int .i64 l[j])
  free : ∀ j, j < l.length → w.frozen? ⟨g, j, none⟩ = false
theorem NumsAt.set {g : Nat} {l : List Int} {w : World} (h : NumsAt g l w) (k : Nat) (hk : k < l.length) (c : Int) : NumsAt g (l.set k c) (w.setCell ⟨g, k, none⟩ (.int .i64 c)) := by
  constructor
  · intro j hj0
    have hj : j < l.length := by simpa using hj0
    by_cases e : j = k
    · subst e
      rw [List.getElem_set_self]
      exact World.cell?_setCell_same _ _ _ (h.cell j hj)
    · rw [List.getElem_set_ne (Ne.symm e)]
      rw [World.cell?_setCell_other _ _ _ _ (by intro e'; injection e' with _ e2 _; exact e e2.symm)]
      exact h.cell j hj
  · intro j hj
    rw [World.frozen?_setCell]
    exact h.free j (by simpa using hj)
theorem NumsAt.far {g g' : Nat} {l : List Int} {w : World} (h : NumsAt g l w) (hg : g ≠ g') (k : Nat) (v : Value) : NumsAt g l (w.setCell ⟨g', k, none⟩ v) := by
  constructor
  · intro j hj
    rw [World.cell?_setCell_other _ _ _ _ (by intro e'; injection e' with e1 _ _; exact hg e1.symm)]
    exact h.cell j hj
  · intro j hj
    rw [World.frozen?_setCell]
    exact h.free j hj
def fillGo : Nat → Int → List UInt8 → List Int → Option (List UInt8)
  | 0, _, o, _ => some o
  | k + 1, m, o, ns => if o.getD k 0 = 48 then (if 0 ≤ m ∧ m < ns.length ∧ 0 ≤ ns.getD m.toNat 0 ∧ ns.getD m.toNat 0 ≤ 9223372036854775807 then fillGo k m (o.set k (UInt8.ofNat (48 + (ns.getD m.toNat 0 % 10).toNat))) (ns.set m.toNat (ns.getD m.toNat 0 / 10)) else none) else fillGo k (m - 1) o ns
theorem BytesAt.far {g g' : Nat} {l : List UInt8} {w : World} (h : BytesAt g l w) (hg : g ≠ g') (k : Nat) (v : Value) : BytesAt g l (w.setCell ⟨g', k, none⟩ v) := by
  constructor
  · intro j hj
    rw [World.cell?_setCell_other _ _ _ _ (by intro e'; injection e' with e1 _ _; exact hg e1.symm)]
    exact h.cell j hj
  · intro j hj
    rw [World.frozen?_setCell]
    exact h.free j hj
theorem digit_byte (n : Int) (h0 : 0 ≤ n) : (((UInt8.ofNat (48 + (n % 10).toNat)).toNat : Nat) : Int) = 48 + n % 10 := by
  have h1 : (n % 10).toNat < 10 := by omega
  rw [UInt8.toNat_ofNat']
  omega
set_option maxHeartbeats 1000000 in
set_option maxRecDepth 100000 in
theorem fill_walk (s : ByteArray) (l : List UInt8) (hl : s.data.toList = l) (hs : s.size ≤ 4611686018427387904) (q : Nat) (ns : List Int) (cap : Nat) (hn1 : ns.length ≤ 4611686018427387904) (hcap : ns.length ≤ cap) (r : List UInt8) (hr : fillGo l.length (ns.length - 1) l ns = some r) (B : Nat) (w0 w : World) (hN : NumsAt q ns w) (hq : B ≤ q) (hql : q < w.heap.size) (hB : Below B w0 w) :
    Calls Tryd.prog 54 #[.string s, .slice (some ⟨q, 0, none⟩) ns.length cap] w fun e w' => e = .returned (.string ⟨r.toArray⟩) ∧ Below B w0 w' := by
  have hcv := fun w : World => run_bytes_of_string (P := Tryd.prog) w 9 65 5 s Tryd.underlying9 Tryd.underlying65 Tryd.underlying5
  have HM := Aside0.mk (show BytesAt w.heap.size l (w.alloc (.cells (bytesRow s (grownCap w s.size 0 5)) 5 ((bytesRow s (grownCap w s.size 0 5)).size, (bytesRow s (grownCap w s.size 0 5)).size + 1))).drew by
    rw [← hl]; exact BytesAt.made w s (grownCap w s.size 0 5))
  have hb1 : Below w.heap.size w (w.alloc (.cells (bytesRow s (grownCap w s.size 0 5)) 5 ((bytesRow s (grownCap w s.size 0 5)).size, (bytesRow s (grownCap w s.size 0 5)).size + 1))).drew := ((Below.refl _ _).alloc (Nat.le_refl _) _).drew
  have hBw : B ≤ w.heap.size := by omega
  have HB := Aside0.mk (hB.trans (hb1.mono hBw))
  have HNU := Aside0.mk (show NumsAt q ns _ from ⟨fun j hj => (hb1.cell (p := ⟨q, j, none⟩) hql).trans (hN.cell j hj), fun j hj => (hb1.frozen (p := ⟨q, j, none⟩) hql).trans (hN.free j hj)⟩)
  have hn : l.length = s.size := by rw [← hl]; rfl
  have hz1 : l.length ≤ s.size := by omega
  have hz2 : s.size ≤ l.length := by omega
  have HR := Aside0.mk hr
  clear hl hr hN hB hb1
  go_enter Tryd.func54, Tryd.ntmps54
  go_wp2_with fail
  clear hcv
  generalize grownCap w s.size 0 5 = cp at HM HB HNU ⊢
  generalize (w.alloc (.cells (bytesRow s cp) 5 ((bytesRow s cp).size, (bytesRow s cp).size + 1))).drew = w1 at HM HB HNU ⊢
  have hgq : w.heap.size ≠ q := by omega
  have hqg : q ≠ w.heap.size := by omega
  go_loopw [6, 7] (fun v6 v7 wr => ∃ (k : Nat) (m : Int) (o : List UInt8) (us : List Int), k ≤ l.length ∧ v7 = .int .i64 ((k : Int) - 1) ∧ v6 = .int .i64 m ∧ (ns.length : Int) - 1 - ((l.length : Int) - k) ≤ m ∧ m ≤ (ns.length : Int) - 1 ∧ o.length = l.length ∧ us.length = ns.length ∧ Aside0 (BytesAt w.heap.size o wr) ∧ Aside0 (NumsAt q us wr) ∧ Aside0 (Below B w0 wr) ∧ Aside0 (fillGo k m o us = some r)) (fun _ v7 _ => ((intOf v7) + 1).toNat)
  case atStart =>
    refine ⟨l.length, (ns.length : Int) - 1, l, ns, Nat.le_refl _, ?_, ?_, by omega, by omega, rfl, rfl, HM, HNU, HB, HR⟩
    · rw [hn]
    · rfl
  case round =>
    clear HM HB HNU HR
    obtain ⟨k, m, o, us, hk, rfl, rfl, hm0, hm1, ho, hu, HM, HNU, HB, HR⟩ := hrel
    cases k with
    | zero =>
      have hob : o.length = s.size := by omega
      have HOB := Aside0.mk hob
      have hback := HM.out.back (P := Tryd.prog) 65 9 5 s.size cp hob.symm Tryd.underlying65 Tryd.underlying5 Tryd.underlying9
      have hr : o = r := Option.some.inj HR.out
      subst hr
      go_wp2_with fail
      all_goals
        go_ret
        exact ⟨rfl, HB.out⟩
    | succ k =>
      have hko : k < o.length := by omega
      have hcell := HM.out.cell k hko
      have hfree := HM.out.free k hko
      have hc1 : ((k + 1 : Nat) : Int) - 1 = k := by omega
      rw [hc1]
      have HGO := HR.out
      unfold fillGo at HGO
      rw [List.getD_eq_getElem?_getD, List.getElem?_eq_getElem hko, Option.getD_some] at HGO
      by_cases hz : o[k] = 48
      · rw [if_pos hz] at HGO
        split at HGO
        · rename_i hc
          obtain ⟨hc0, hc2, hc3, hc4⟩ := hc
          obtain ⟨j, rfl⟩ := Int.eq_ofNat_of_zero_le hc0
          have hj : j < us.length := by omega
          rw [Int.toNat_natCast, List.getD_eq_getElem?_getD, List.getElem?_eq_getElem hj, Option.getD_some] at HGO hc3 hc4
          have hnc := HNU.out.cell j hj
          have hnf := HNU.out.free j hj
          have HS1 := Aside0.mk (fun (c : UInt8) (v : Int) (hv : v = (c.toNat : Int)) => HM.out.set k hko c v hv)
          have HS2 := Aside0.mk (HNU.out.set j hj)
          rw [hz] at hcell
          have HD := Aside0.mk (digit_byte us[j] hc3)
          have HGO := Aside0.mk HGO
          have hlo : 0 ≤ us[j] % 10 := by omega
          have hhi : us[j] % 10 ≤ 9 := by omega
          have htm : Int.tmod us[j] 10 = us[j] % 10 := Int.tmod_eq_emod_of_nonneg hc3
          have htd : Int.tdiv us[j] 10 = us[j] / 10 := Int.tdiv_eq_ediv_of_nonneg hc3
          have HTM := Aside0.mk htm
          have HTD := Aside0.mk htd
          clear hz htm htd
          generalize us[j] = x at *
          go_wp2_with fail
          go_region
          all_goals
            have hnc2 : (wr.setCell ⟨w.heap.size, k, none⟩ (.int .u8 (48 + x % 10))).cell? ⟨q, j, none⟩ = some (.int .i64 x) := by
              rw [World.cell?_setCell_other _ _ _ _ (by intro e'; injection e' with e1 _ _; exact hgq e1), hnc]
            go_wp2_with fail
            go_roundw
            case rel =>
              have he : wrap64 (Int.tdiv x 10) = x / 10 := by
                rw [HTD.out]
                unfold wrap64
                omega
              first | rw [he] | rw [HTD.out] | skip
              have h1 := HS1.out _ _ HD.out.symm
              have h2 := HNU.out.far hqg k (.int .u8 (48 + x % 10))
              have hjq : j < us.length := hj
              exact ⟨k, j, _, _, by omega, rfl, rfl, by omega, by omega, by rw [List.length_set]; exact ho, by rw [List.length_set]; exact hu, ⟨⟨(h1.far hgq j _).cell, (h1.far hgq j _).free⟩⟩, ⟨⟨(h2.set j hj (x / 10)).cell, (h2.set j hj (x / 10)).free⟩⟩, ⟨((HB.out.setCell (p := ⟨w.heap.size, k, none⟩) hBw _).setCell (p := ⟨q, j, none⟩) hq _).drew⟩, HGO⟩
            case measure => simp only [intOf]; omega
        · cases HGO
      · rw [if_neg hz] at HGO
        have hz2 : ((o[k].toNat : Int) == 48) = false := beq_eq_false_iff_ne.2 (fun e => hz (UInt8.toNat_inj.1 (show o[k].toNat = 48 by omega)))
        have HGO := Aside0.mk HGO
        clear hz
        go_wp2_with fail
        all_goals
          go_roundw
          case rel => exact ⟨k, m - 1, o, us, by omega, by go_num, by go_num, by omega, by omega, ho, hu, HM, HNU, HB, HGO⟩
          case measure => simp only [intOf]; omega
end Go.Proofs.YtodalfobehddmaaDoor.Z
namespace Go.Proofs.YtodalfobehddmaaDoor.Y
open Go.RowKit Go.Proofs.YtodalfobehddmaaDoorW.PrintWords Go.Proofs.YtodalfobehddmaaDoorW.PrintLast Go.Proofs.YtodalfobehddmaaDoor.Mx
open Go.Proofs.YtodalfobehddmaaDoor.Z
def dg (n : Int) : UInt8 := UInt8.ofNat (48 + (n % 10).toNat)
def two (n : Int) : List UInt8 := [dg (n / 10), dg n]
def shapeL : List UInt8 := [48, 48, 48, 48, 45, 48, 48, 45, 48, 48, 84, 48, 48, 58, 48, 48, 58, 48, 48]
def stampL (y m d h n s : Int) : List UInt8 := two (y / 100) ++ two y ++ [45] ++ two m ++ [45] ++ two d ++ [84] ++ two h ++ [58] ++ two n ++ [58] ++ two s
theorem fillGo_dig (k : Nat) (j : Nat) (o : List UInt8) (ns : List Int) (x : Int) (ho : o[k]? = some 48) (hx : ns[j]? = some x) (h0 : 0 ≤ x) (h1 : x ≤ 9223372036854775807) : fillGo (k + 1) j o ns = fillGo k j (o.set k (dg x)) (ns.set j (x / 10)) := by
  have hj : j < ns.length := (List.getElem?_eq_some_iff.1 hx).1
  rw [fillGo, List.getD_eq_getElem?_getD, ho, Option.getD_some, if_pos rfl, Int.toNat_natCast, List.getD_eq_getElem?_getD, hx, Option.getD_some, if_pos ⟨by omega, by omega, h0, h1⟩]
  rfl
theorem fillGo_not (k : Nat) (j : Nat) (o : List UInt8) (ns : List Int) (c : UInt8) (ho : o[k]? = some c) (hc : c ≠ 48) : fillGo (k + 1) ((j + 1 : Nat) : Int) o ns = fillGo k j o ns := by
  rw [fillGo, List.getD_eq_getElem?_getD, ho, Option.getD_some, if_neg hc]
  congr 1
  omega
theorem fill_stamp (y m d h n s : Int) (y0 : 0 ≤ y) (y1 : y ≤ 9999) (m0 : 0 ≤ m) (m1 : m ≤ 99) (d0 : 0 ≤ d) (d1 : d ≤ 99) (h0 : 0 ≤ h) (h1 : h ≤ 99) (n0 : 0 ≤ n) (n1 : n ≤ 99) (s0 : 0 ≤ s) (s1 : s ≤ 99) :
    fillGo 19 5 shapeL [y, m, d, h, n, s] = some (stampL y m d h n s) := by
  unfold shapeL
  rw [show (5 : Int) = ((5 : Nat) : Int) from rfl]
  rw [fillGo_dig 18 5 _ _ s rfl rfl s0 (by omega), fillGo_dig 17 5 _ _ (s / 10) rfl rfl (by omega) (by omega), fillGo_not 16 4 _ _ 58 rfl (by decide)]
  rw [fillGo_dig 15 4 _ _ n rfl rfl n0 (by omega), fillGo_dig 14 4 _ _ (n / 10) rfl rfl (by omega) (by omega), fillGo_not 13 3 _ _ 58 rfl (by decide)]
  rw [fillGo_dig 12 3 _ _ h rfl rfl h0 (by omega), fillGo_dig 11 3 _ _ (h / 10) rfl rfl (by omega) (by omega), fillGo_not 10 2 _ _ 84 rfl (by decide)]
  rw [fillGo_dig 9 2 _ _ d rfl rfl d0 (by omega), fillGo_dig 8 2 _ _ (d / 10) rfl rfl (by omega) (by omega), fillGo_not 7 1 _ _ 45 rfl (by decide)]
  rw [fillGo_dig 6 1 _ _ m rfl rfl m0 (by omega), fillGo_dig 5 1 _ _ (m / 10) rfl rfl (by omega) (by omega), fillGo_not 4 0 _ _ 45 rfl (by decide)]
  rw [fillGo_dig 3 0 _ _ y rfl rfl y0 (by omega), fillGo_dig 2 0 _ _ (y / 10) rfl rfl (by omega) (by omega), fillGo_dig 1 0 _ _ (y / 10 / 10) rfl rfl (by omega) (by omega), fillGo_dig 0 0 _ _ (y / 10 / 10 / 10) rfl rfl (by omega) (by omega)]
  unfold stampL two
  rw [fillGo, show y / 100 = y / 10 / 10 by omega]
  rfl
theorem results_tmp4 {fn : Func} {t u v x : Tmp} (h : fn.results = #[.tmp t, .tmp u, .tmp v, .tmp x]) (tmps : Array Value) (P : Program) (w : World) :
    (results fn tmps).run P w = .ok (.tuple #[tmps.getD t undef, tmps.getD u undef, tmps.getD v undef, tmps.getD x undef]) w := by
  simp [results, h]
def stampClock (sec : Int) : Int × Int × Int × Bool := if 0 ≤ sec ∧ sec < 86400 then (sec / 3600, sec / 60 % 60, sec % 60, true) else if sec = 86400 then (23, 59, 60, true) else (0, 0, 0, false)
set_option maxHeartbeats 1000000 in
theorem stamp_clock (sec : Int) (w : World) (hs0 : -9223372036854775808 ≤ sec) (hs1 : sec ≤ 9223372036854775807) :
    Calls Tryd.prog 53 #[.int .i64 sec] w fun e w' => e = .returned (.tuple #[.int .i64 (stampClock sec).1, .int .i64 (stampClock sec).2.1, .int .i64 (stampClock sec).2.2.1, .bool (stampClock sec).2.2.2]) ∧ Below w.heap.size w w' := by
  unfold stampClock
  by_cases h : 0 ≤ sec ∧ sec < 86400
  · rw [if_pos h]
    obtain ⟨h0, h1⟩ := h
    have e1 : (sec == 86400) = false := beq_eq_false_iff_ne.2 (by omega)
    go_enter Tryd.func53, Tryd.ntmps53
    go_wp2_with fail
    all_goals
      (try simp only [Exit.inBlock, Exit.then]); refine bodyPost_ret (results_tmp4 rfl _ _ _) rfl ?_
      exact ⟨rfl, Below.refl _ _⟩
  · rw [if_neg h]
    by_cases h6 : sec = 86400
    · subst h6
      rw [if_pos rfl]
      clear h
      go_enter Tryd.func53, Tryd.ntmps53
      go_wp2_with fail
      all_goals
        (try simp only [Exit.inBlock, Exit.then]); refine bodyPost_ret (results_tmp4 rfl _ _ _) rfl ?_
        exact ⟨rfl, Below.refl _ _⟩
    · rw [if_neg h6]
      by_cases h0 : sec < 0
      · have e1 : decide (sec < 0) = true := decide_eq_true h0
        clear h h6
        go_enter Tryd.func53, Tryd.ntmps53
        go_wp2_with fail
        all_goals
          (try simp only [Exit.inBlock, Exit.then]); refine bodyPost_ret (results_tmp4 rfl _ _ _) rfl ?_
          exact ⟨rfl, Below.refl _ _⟩
      · have h2 : 86400 < sec := by omega
        clear h h6
        go_enter Tryd.func53, Tryd.ntmps53
        go_wp2_with fail
        all_goals
          (try simp only [Exit.inBlock, Exit.then]); refine bodyPost_ret (results_tmp4 rfl _ _ _) rfl ?_
          exact ⟨rfl, Below.refl _ _⟩
theorem stampClock_range {sec : Int} {h n s : Int} (e : stampClock sec = (h, n, s, true)) : 0 ≤ h ∧ h ≤ 23 ∧ 0 ≤ n ∧ n ≤ 59 ∧ 0 ≤ s ∧ s ≤ 60 := by
  unfold stampClock at e
  split at e
  · injection e with e1 e2; injection e2 with e2 e3; injection e3 with e3 _
    omega
  · split at e
    · injection e with e1 e2; injection e2 with e2 e3; injection e3 with e3 _
      omega
    · injection e with e1 e2; injection e2 with e2 e3; injection e3 with e3 e4
      cases e4
def inDays (d : Int) : Prop := -719162 ≤ d ∧ d ≤ 2932896
instance (d : Int) : Decidable (inDays d) := by unfold inDays; infer_instance
def stampT (d sec : Int) : List UInt8 := stampL (dateY d) (dateM d) (dateD d) (stampClock sec).1 (stampClock sec).2.1 (stampClock sec).2.2.1 ++ [90]
theorem nums_of_blk {w : World} {g : Nat} {ns : List Int} (h : w.heap[g]? = some (.cells (ns.map (Value.int .i64)).toArray 3 (0, 0))) : NumsAt g ns w := by
  constructor
  · intro j hj
    rw [blk_cell h j]
    simp [hj]
  · intro j hj
    exact blk_frozen h j
theorem fill_at (y m k h n s : Int) (r : List UInt8) (hr : fillGo 19 5 shapeL [y, m, k, h, n, s] = some r) (W : World) :
    Calls Tryd.prog 54 #[.string ((⟨#[48, 48, 48, 48, 45, 48, 48, 45, 48, 48, 84, 48, 48, 58, 48, 48, 58, 48, 48, 90]⟩ : ByteArray).extract 0 19), .slice (some ⟨W.heap.size, 0, none⟩) 6 6]
      ((W.alloc (.cells #[.int .i64 y, .int .i64 m, .int .i64 k, .int .i64 h, .int .i64 n, .int .i64 s] 3)).drew) fun e w' => e = .returned (.string (mkB r)) ∧ Below W.heap.size W w' := by
  have hb : Below W.heap.size W ((W.alloc (.cells #[.int .i64 y, .int .i64 m, .int .i64 k, .int .i64 h, .int .i64 n, .int .i64 s] 3)).drew) := ((Below.refl _ _).alloc (Nat.le_refl _) _).drew
  have hN : NumsAt W.heap.size [y, m, k, h, n, s] ((W.alloc (.cells #[.int .i64 y, .int .i64 m, .int .i64 k, .int .i64 h, .int .i64 n, .int .i64 s] 3)).drew) := nums_of_blk (blk_new W (.cells #[.int .i64 y, .int .i64 m, .int .i64 k, .int .i64 h, .int .i64 n, .int .i64 s] 3 (0, 0)))
  exact fill_walk ((⟨#[48, 48, 48, 48, 45, 48, 48, 45, 48, 48, 84, 48, 48, 58, 48, 48, 58, 48, 48, 90]⟩ : ByteArray).extract 0 19) shapeL rfl (by decide) W.heap.size [y, m, k, h, n, s] 6 (by simp) (by simp) r hr W.heap.size W _ hN (Nat.le_refl _) (by simp [World.drew]) hb
set_option maxHeartbeats 2000000 in
set_option maxRecDepth 100000 in
theorem stamp_yes (d sec y m k h n s : Int) (hd : day_Date.f d = some (y, m, k, true)) (hc : stampClock sec = (h, n, s, true)) (hy : 1 ≤ y ∧ y ≤ 9999 ∧ 1 ≤ m ∧ m ≤ 12 ∧ 1 ≤ k ∧ k ≤ 31) (hs0 : 0 ≤ sec) (hs1 : sec ≤ 86400) (w : World) :
    Calls Tryd.prog 29 #[.int .i64 d, .int .i64 sec] w fun e w' => e = .returned (.tuple #[.string (mkB (stampL y m k h n s ++ [90])), .bool true]) ∧ Below w.heap.size w w' := by
  have hr := stampClock_range hc
  have HF := Aside0.mk (fill_stamp y m k h n s (by omega) (by omega) (by omega) (by omega) (by omega) (by omega) (by omega) (by omega) (by omega) (by omega) (by omega) (by omega))
  have HFW := Aside0.mk (fill_at y m k h n s _ HF.out)
  have HD := Aside0.mk hd
  have HC := stamp_clock sec
  rw [hc] at HC
  have HC := Aside0.mk HC
  generalize hst : stampL y m k h n s = st at *
  have hst20 : st.length = 19 := by rw [← hst]; rfl
  have HST := Aside0.mk hst20
  have hq1 : (mkB st).size ≤ 19 := by have : (mkB st).size = st.length := rfl; omega
  have hq2 : (mkB st).size + 1 ≤ 9223372036854775807 := by omega
  have hq3 : st.length ≤ 19 := by omega
  clear hd hc hst hst20 hr
  go_enter Tryd.func29, Tryd.ntmps29
  go_wp2_with (first | (go_at_call 52; (with_reducible refine (day_Date.calls _ _ _ _ _ _ HD.out).mono ?_); rintro e w1 ⟨rfl, hb1⟩; have HB1 := Aside0.mk hb1; clear hb1) | (go_at_call 53; (with_reducible refine (HC.out _ (by omega) (by omega)).mono ?_); rintro e w2 ⟨rfl, hb2⟩; have HB2 := Aside0.mk hb2; clear hb2))
  go_region_with (go_at_call 54; (with_reducible refine (HFW.out _).mono ?_); rintro e w3 ⟨rfl, hb3⟩; have HB3 := Aside0.mk hb3; clear hb3)
  all_goals
    go_wp2_with fail
    go_ret2
    have hz1 := HB1.out.size
    have hz2 := HB2.out.size
    have hz3 := HB3.out.size
    refine ⟨?_, ?_⟩
    · rfl
    · exact HB1.out.trans ((HB2.out.trans (HB3.out.mono hz2)).mono hz1)
theorem dateRange (d : Int) (h : inDays d) : 1 ≤ dateY d ∧ dateY d ≤ 9999 ∧ 1 ≤ dateM d ∧ dateM d ≤ 12 ∧ 1 ≤ dateD d ∧ dateD d ≤ 31 := by
  have hv := (date_valid d h.1 h.2).1
  obtain ⟨y0, y1, m0, m1, d0, d1⟩ := hv
  have := lastN_range (dateY d) (dateM d)
  omega
end Go.Proofs.YtodalfobehddmaaDoor.Y
namespace Go.Proofs.YtodalfobehddmaaDoor.Y
open Go.RowKit Go.Proofs.YtodalfobehddmaaDoorW.PrintWords Go.Proofs.YtodalfobehddmaaDoorW.PrintLast Go.Proofs.YtodalfobehddmaaDoor.Mx
open Go.Proofs.YtodalfobehddmaaDoor.Z
def stamp_Text.f (a0 : Int) (a1 : Int) : Option (ByteArray × Bool) := if inDays a0 ∧ 0 ≤ a1 ∧ a1 ≤ 86400 then some (mkB (stampT a0 a1), true) else none
theorem stamp_Text.calls (a0 : Int) (a1 : Int) (r1 : ByteArray) (r2 : Bool) (w : World) (h : stamp_Text.f a0 a1 = some (r1, r2)) :
    Calls Tryd.prog 29 #[.int .i64 a0, .int .i64 a1] w fun e w' => e = .returned (.tuple #[.string r1, .bool r2]) ∧ Below w.heap.size w w' := by
  unfold stamp_Text.f at h
  split at h
  · rename_i c
    obtain ⟨hd, h0, h1⟩ := c
    injection h with h
    injection h with e1 e2
    subst e1 e2
    have hdr := dateRange a0 hd
    have hD : day_Date.f a0 = some (dateY a0, dateM a0, dateD a0, true) := by unfold day_Date.f; exact if_pos hd
    have hC : stampClock a1 = ((stampClock a1).1, (stampClock a1).2.1, (stampClock a1).2.2.1, true) := by
      unfold stampClock
      by_cases hq : 0 ≤ a1 ∧ a1 < 86400
      · rw [if_pos hq]
      · rw [if_neg hq, if_pos (by omega)]
    exact stamp_yes a0 a1 (dateY a0) (dateM a0) (dateD a0) _ _ _ hD hC hdr h0 h1 w
  · cases h
end Go.Proofs.YtodalfobehddmaaDoor.Y
namespace Go.Proofs.YtodalfobehddmaaDoor.Y
open Go.RowKit Go.Proofs.YtodalfobehddmaaDoorW.PrintWords Go.Proofs.YtodalfobehddmaaDoorW.PrintLast Go.Proofs.YtodalfobehddmaaDoor.Mx
open Go.Proofs.YtodalfobehddmaaDoor.Z
@[reducible] def Gl (w : World) : Prop := Lib.TabIs Tryd.prog w "internal/strconv.uint64pow10" .u64 Lib.pow10Tab
theorem gl_below {w w' : World} (h : Gl w) (hb : Below w.heap.size w w') : Gl w' := by
  obtain ⟨g, hg⟩ : ∃ g, Tryd.prog.globalNamed "internal/strconv.uint64pow10" = some g := by
    cases hq : Tryd.prog.globalNamed "internal/strconv.uint64pow10" with
    | some g => exact ⟨g, rfl⟩
    | none =>
      unfold Gl Lib.TabIs World.var? at h
      rw [hq] at h
      simp at h
  unfold Gl Lib.TabIs World.var? at h ⊢
  rw [hg] at h ⊢
  simp only [Option.bind_some] at h ⊢
  have hlt : g < w.heap.size := by
    rcases Nat.lt_or_ge g w.heap.size with h' | h'
    · exact h'
    · rw [Array.getElem?_eq_none h'] at h; cases h
  rw [hb.block g hlt]
  exact h
theorem itoa_calls (n : Int) (h0 : -9223372036854775808 ≤ n) (h1 : n ≤ 9223372036854775807) (w : World) (hG : Gl w) :
    Calls Tryd.prog 38 #[.int .i64 n] w fun e w' => e = .returned (.string (mkB (Lib.itoa n))) ∧ Below w.heap.size w w' := by
  refine (Tryd.strconv_Itoa n h0 h1 w hG).mono ?_
  rintro e w' ⟨rfl, k, os, rfl⟩
  refine ⟨rfl, ?_⟩
  exact ⟨rfl, rfl, rfl, by show w.heap.size ≤ (w.heap ++ os).size; rw [Array.size_append]; omega, fun j hj => by show (w.heap ++ os)[j]? = w.heap[j]?; rw [Array.getElem?_append_left hj]⟩
def monL (m : Int) : List UInt8 := match monthNames[(m - 1).toNat]? with
  | some (c :: a :: b :: _) => [c - 32, a, b]
  | _ => []
def writeL (kind : List UInt8) (d : Int) (rest : List (List UInt8)) : List UInt8 := Lib.join ([kind, Lib.itoa (dateY d), monL (dateM d), Lib.itoa (dateD d)] ++ rest) [9] ++ [10]
structure WSt (w0 : World) (q : Nat) (o : List UInt8) (A : Option Addr) (rest : List ByteArray) (w : World) : Prop where
  gl : Gl w
  at_ : BytesAt q o w
  row : Kd.C Kd.string w A rest.length rest
  bel : Below w0.heap.size w0 w
  lt : q < w.heap.size
theorem WSt.below {w0 : World} {q : Nat} {o : List UInt8} {A : Option Addr} {rest : List ByteArray} {w w1 : World} (h : WSt w0 q o A rest w) (hb : Below w.heap.size w w1) : WSt w0 q o A rest w1 :=
  ⟨gl_below h.gl hb, h.at_.below hb h.lt, Kd.C_below h.row hb, h.bel.trans (hb.mono h.bel.size), Nat.lt_of_lt_of_le h.lt hb.size⟩
@[reducible] def JoinsTo (v : Value) (w : World) (J : List UInt8) : Prop := Calls Tryd.prog 48 #[v, .string ⟨#[9]⟩] w fun e w' => e = .returned (.string (mkB J)) ∧ Below w.heap.size w w'
theorem joins_row {w : World} {base : Nat} {ok : Nat → Prop} {v : Value} {xs : List ByteArray} (h : Kd.R Kd.string 9 w base ok v xs) (h0 : 0 < xs.length) (hN : xs.length ≤ 140737488355328) (hJ : (Lib.join (xs.map (·.data.toList)) [9]).length ≤ 140737488355328) :
    ∃ g cap, v = .slice (some ⟨g, 0, none⟩) xs.length cap ∧ xs.length ≤ cap ∧ JoinsTo (.slice (some ⟨g, 0, none⟩) xs.length cap) w (Lib.join (xs.map (·.data.toList)) [9]) := by
  obtain ⟨g, cap, rfl, h1, h2, h3⟩ := Kd.R_form h h0
  have hcap : xs.length ≤ cap := (Kd.R_reads' h).2.1
  refine ⟨g, cap, rfl, hcap, ?_⟩
  refine Tryd.strings_Join g 0 cap xs ⟨#[9]⟩ w (fun j x hx => ?_) h2 hN hcap hJ
  have hj : j < xs.length := (List.getElem?_eq_some_iff.1 hx).1
  have hcell := (Kd.R_celln (⟨#[]⟩ : ByteArray) h (j : Int) (by omega) (by omega)).1
  rw [Int.toNat_natCast] at hcell
  rw [Nat.zero_add, hcell]
  unfold rdOf
  rw [Int.toNat_natCast, List.getD_eq_getElem?_getD, hx]
  rfl
theorem write_append_step {ops : Array Oper} {o : Oper} {a : Act} {K : Act → World → Prop} {Q : Exit → Act → World → Prop} (hg : o.guard = none) (ho : o.op = .call { callee := .builtin .append, args := #[.tmp 38, .tmp 39], argTypes := #[35, 35] })
    {w W : World} {q : Nat} {ob : List UInt8} {A : Option Addr} {rest : List ByteArray} (cp : Nat) (HS : WSt w q ob A rest W) (hr3 : rest.length ≤ 3) (x0 x1 x2 x3 : ByteArray) (hs : a.eval (.tmp 38) = .slice (some ⟨W.heap.size, 0, none⟩) 4 4) (hx : a.eval (.tmp 39) = .slice A rest.length cp)
    (hJ : (Lib.join (([x0, x1, x2, x3] ++ rest).map (·.data.toList)) [9]).length ≤ 140737488355328)
    (h : ∀ g n cap w1, Aside0 (JoinsTo (.slice (some ⟨g, 0, none⟩) n cap) w1 (Lib.join (([x0, x1, x2, x3] ++ rest).map (·.data.toList)) [9])) → Aside0 (Below w.heap.size w w1) → K (a.put o.dst (.slice (some ⟨g, 0, none⟩) n cap)) w1) :
    if Region.wanted o (yielded ops a.tmps) = true then Oper.wp Tryd.prog o a (W.alloc (.cells #[.string x0, .string x1, .string x2, .string x3] 9)) K Q else K (a.put o.dst undef) (W.alloc (.cells #[.string x0, .string x1, .string x2, .string x3] 9)) := by
  have hw : Region.wanted o (yielded ops a.tmps) = true := by simp [Region.wanted, hg]
  have hblk : StrBlk W.heap.size [x0, x1, x2, x3] (W.alloc (.cells #[.string x0, .string x1, .string x2, .string x3] 9)) := StrBlk.made W [x0, x1, x2, x3]
  have hbel : Below W.heap.size W (W.alloc (.cells #[.string x0, .string x1, .string x2, .string x3] 9)) := (Below.refl _ _).alloc (Nat.le_refl _) _
  have hbw : w.heap.size ≤ W.heap.size := HS.bel.size
  have hR := hblk.row w.heap.size hbw 4 (Nat.le_refl 4) (show 4 ≤ maxLen by decide)
  have hC : Kd.C Kd.string (W.alloc (.cells #[.string x0, .string x1, .string x2, .string x3] 9)) A rest.length rest := Kd.C_below HS.row hbel
  exact Kd.R_append_rows_step Kd.string (w0 := w) w.heap.size hw (.tmp 38) (.tmp 39) 35 9 (.string ⟨#[]⟩) 16 ho Tryd.underlying35 (by kernel_rfl) rfl (by decide) (by decide) _ [x0, x1, x2, x3] rest A rest.length cp (fun _ => True) (fun _ => False) hs hx hR hC (fun x cs hk => hk) (fun _ hk => hk.elim) (fun _ _ => trivial) (HS.bel.trans (hbel.mono hbw)) (by have := hbel.size; omega) (by simp; omega) (fun v1 w1 h1 h2 _ _ => by
    obtain ⟨g, cap, rfl, hc, hj⟩ := joins_row h1 (by simp) (by simp; omega) hJ
    exact h g _ cap w1 ⟨hj⟩ ⟨h2⟩)
theorem great_byte (c : UInt8) (h0 : 97 ≤ c.toNat) (h1 : c.toNat ≤ 122) : (c.toNat : Int) - 32 = ((c - 32).toNat : Int) := by
  rw [UInt8.toNat_sub_of_le _ _ (UInt8.le_iff_toNat_le.2 (by show 32 ≤ c.toNat; omega))]
  show (c.toNat : Int) - 32 = ((c.toNat - 32 : Nat) : Int)
  omega
set_option maxHeartbeats 1000000 in
set_option maxRecDepth 100000 in
theorem write_walk (kind : ByteArray) (hk : kind.size ≤ 1000) (d y m k : Int) (hd : day_Date.f d = some (y, m, k, true)) (hy : 1 ≤ y ∧ y ≤ 9999 ∧ 1 ≤ k ∧ k ≤ 31) (j : Nat) (hm : m = j + 1) (c a b : UInt8) (t : List UInt8) (hj : j < 12) (hn : monthNames[j]? = some (c :: a :: b :: t)) (hc : 97 ≤ c.toNat ∧ c.toNat ≤ 122)
    (rest : List ByteArray) (A : Option Addr) (cp : Nat) (w : World) (hC : Kd.C Kd.string w A rest.length rest) (hcp : rest.length ≤ cp) (hr3 : rest.length ≤ 3) (hG : Gl w)
    (hJ : (Lib.join ([kind.data.toList, Lib.itoa y, [c - 32, a, b], Lib.itoa k] ++ rest.map (·.data.toList)) [9]).length ≤ 140737488355328) :
    Calls Tryd.prog 28 #[.string kind, .int .i64 d, .slice A rest.length cp] w fun e w' => e = .returned (.string (mkB (Lib.join ([kind.data.toList, Lib.itoa y, [c - 32, a, b], Lib.itoa k] ++ rest.map (·.data.toList)) [9] ++ [10]))) ∧ Below w.heap.size w w' := by
  have hcv := fun w : World => run_bytes_of_string (P := Tryd.prog) w 9 65 5 (mkB [c, a, b]) Tryd.underlying9 Tryd.underlying65 Tryd.underlying5
  have hix := fun w : World => names_index j hj _ hn w
  have HD := Aside0.mk hd
  have HC := Aside0.mk hC
  have HG := Aside0.mk hG
  have HJ : Aside0 ((Lib.join (([kind, mkB (Lib.itoa y), mkB [c - 32, a, b], mkB (Lib.itoa k)] ++ rest).map (·.data.toList)) [9]).length ≤ 140737488355328) := ⟨by rw [List.map_append]; exact hJ⟩
  rw [show [kind.data.toList, Lib.itoa y, [c - 32, a, b], Lib.itoa k] ++ rest.map (·.data.toList) = ([kind, mkB (Lib.itoa y), mkB [c - 32, a, b], mkB (Lib.itoa k)] ++ rest).map (·.data.toList) by rw [List.map_append]; rfl]
  generalize hJe : Lib.join (([kind, mkB (Lib.itoa y), mkB [c - 32, a, b], mkB (Lib.itoa k)] ++ rest).map (·.data.toList)) [9] = J at *
  have HJE := Aside0.mk hJe
  have hj1 : (mkB J).size ≤ 140737488355328 := HJ.out
  have hj2 : (mkB J).size + 1 ≤ 9223372036854775807 := by omega
  subst hm
  have hsl : ((mkB (c :: a :: b :: t)).extract 0 3) = mkB [c, a, b] := by
    apply ByteArray.ext
    rw [ByteArray.data_extract]
    apply Array.ext'
    simp [mkB]
  have hs3 : (mkB [c, a, b]).size = 3 := rfl
  have hc32 : 32 ≤ (c.toNat : Int) := by omega
  have hc255 : (c.toNat : Int) ≤ 122 := by omega
  have h3 : 3 ≤ (mkB (c :: a :: b :: t)).size := by show 3 ≤ (c :: a :: b :: t).length; simp
  clear hd hC hG hn hJ hJe
  go_enter Tryd.func28, Tryd.ntmps28
  go_wp2_with (first | (go_at_call 52; (with_reducible refine (day_Date.calls _ _ _ _ _ _ HD.out).mono ?_); rintro e w1 ⟨rfl, hb1⟩; have HB1 := Aside0.mk hb1; clear hb1) | (go_at_call 35; (with_reducible refine (names_calls _).mono ?_); rintro e w2 ⟨rfl, hb2⟩; have HB2 := Aside0.mk (HB1.out.trans (hb2.mono HB1.out.size)); have HBM := Aside0.mk (BytesAt.made w2 (mkB [c, a, b]) (grownCap w2 (mkB [c, a, b]).size 0 5)); have hbc : ((w2.alloc (.cells (bytesRow (mkB [c, a, b]) (grownCap w2 (mkB [c, a, b]).size 0 5)) 5 ((bytesRow (mkB [c, a, b]) (grownCap w2 (mkB [c, a, b]).size 0 5)).size, (bytesRow (mkB [c, a, b]) (grownCap w2 (mkB [c, a, b]).size 0 5)).size + 1))).drew).cell? ⟨w2.heap.size, 0, none⟩ = some (.int .u8 (c.toNat : Int)) := HBM.out.cell 0 (by show 0 < 3; decide); have hbf : ((w2.alloc (.cells (bytesRow (mkB [c, a, b]) (grownCap w2 (mkB [c, a, b]).size 0 5)) 5 ((bytesRow (mkB [c, a, b]) (grownCap w2 (mkB [c, a, b]).size 0 5)).size, (bytesRow (mkB [c, a, b]) (grownCap w2 (mkB [c, a, b]).size 0 5)).size + 1))).drew).frozen? ⟨w2.heap.size, 0, none⟩ = false := HBM.out.free 0 (by show 0 < 3; decide); rw [hs3] at hbc hbf HBM; clear hb2))
  have hb4 : Below w.heap.size w (((w2.alloc (.cells (bytesRow (mkB [c, a, b]) (grownCap w2 3 0 5)) 5 ((bytesRow (mkB [c, a, b]) (grownCap w2 3 0 5)).size, (bytesRow (mkB [c, a, b]) (grownCap w2 3 0 5)).size + 1))).setCell ⟨w2.heap.size, 0, none⟩ (.int .u8 ((c.toNat : Int) - 32))).drew) :=
    ((HB2.out.alloc HB2.out.size _).setCell (p := ⟨w2.heap.size, 0, none⟩) HB2.out.size _).drew
  have hat : BytesAt w2.heap.size [c - 32, a, b] (((w2.alloc (.cells (bytesRow (mkB [c, a, b]) (grownCap w2 3 0 5)) 5 ((bytesRow (mkB [c, a, b]) (grownCap w2 3 0 5)).size, (bytesRow (mkB [c, a, b]) (grownCap w2 3 0 5)).size + 1))).setCell ⟨w2.heap.size, 0, none⟩ (.int .u8 ((c.toNat : Int) - 32))).drew) := by
    have h := BytesAt.set HBM.out 0 (by show 0 < 3; decide) (c - 32) _ (great_byte c hc.1 hc.2)
    exact ⟨h.cell, h.free⟩
  have hlt : w2.heap.size < (((w2.alloc (.cells (bytesRow (mkB [c, a, b]) (grownCap w2 3 0 5)) 5 ((bytesRow (mkB [c, a, b]) (grownCap w2 3 0 5)).size, (bytesRow (mkB [c, a, b]) (grownCap w2 3 0 5)).size + 1))).setCell ⟨w2.heap.size, 0, none⟩ (.int .u8 ((c.toNat : Int) - 32))).drew).heap.size := by simp [World.drew, World.setCell]
  have HS := Aside0.mk (WSt.mk (gl_below HG.out hb4) hat (Kd.C_below HC.out hb4) hb4 hlt)
  clear hbc hbf hcv hix hb4 hat hlt HBM
  generalize ((w2.alloc (.cells (bytesRow (mkB [c, a, b]) (grownCap w2 3 0 5)) 5 ((bytesRow (mkB [c, a, b]) (grownCap w2 3 0 5)).size, (bytesRow (mkB [c, a, b]) (grownCap w2 3 0 5)).size + 1))).setCell ⟨w2.heap.size, 0, none⟩ (.int .u8 ((c.toNat : Int) - 32))).drew = W4 at *
  have HS := Aside0.mk (HS.out.below ((Below.refl _ W4).drew))
  have hbk4 := HS.out.at_.back (P := Tryd.prog) 65 9 5 3 (grownCap w2 3 0 5) rfl Tryd.underlying65 Tryd.underlying5 Tryd.underlying9
  go_region_law (first | (refine write_append_step (by rfl) (by rfl) cp HS.out hr3 kind (mkB (Lib.itoa y)) (mkB [c - 32, a, b]) (mkB (Lib.itoa k)) (by rfl) (by rfl) (by rw [HJE.out]; exact HJ.out) ?_; intro g n cap w1 HJT HB1; rw [HJE.out] at HJT) | (go_simp; go_wp2_with (go_at_call 38; (with_reducible refine (itoa_calls _ (by omega) (by omega) _ HS.out.gl).mono ?_); rintro e w' ⟨rfl, hb⟩; have HS := Aside0.mk (HS.out.below hb); have hback := HS.out.at_.back (P := Tryd.prog) 65 9 5 3 (grownCap w2 3 0 5) rfl Tryd.underlying65 Tryd.underlying5 Tryd.underlying9; clear hb)))
  all_goals
    go_wp2_with (go_at_call 48; (with_reducible refine HJT.out.mono ?_); rintro e w3 ⟨rfl, hb3⟩; have HB3 := Aside0.mk hb3; clear hb3)
    go_ret
    exact ⟨rfl, HB1.out.trans (HB3.out.mono HB1.out.size)⟩
end Go.Proofs.YtodalfobehddmaaDoor.Y
namespace Go.Proofs.YtodalfobehddmaaDoor.Y
open Go.RowKit Go.Proofs.YtodalfobehddmaaDoorW.PrintWords Go.Proofs.YtodalfobehddmaaDoorW.PrintLast Go.Proofs.YtodalfobehddmaaDoor.Mx
open Go.Proofs.YtodalfobehddmaaDoor.Z
theorem lens_cons (x : List UInt8) (t : List (List UInt8)) : Lib.lens (x :: t) = x.length + Lib.lens t := by simp [Lib.lens]
theorem lens_le (n : Nat) : ∀ l : List (List UInt8), (∀ x ∈ l, x.length ≤ n) → Lib.lens l ≤ l.length * n
  | [], _ => by simp [Lib.lens]
  | x :: t, h => by
    have h1 := h x (by simp)
    have h2 := lens_le n t (fun y hy => h y (by simp [hy]))
    rw [lens_cons, List.length_cons, Nat.add_mul, Nat.one_mul]
    omega
theorem join_le (n : Nat) (l : List (List UInt8)) (sep : List UInt8) (h : ∀ x ∈ l, x.length ≤ n) : (Lib.join l sep).length ≤ l.length * (n + sep.length) := by
  cases l with
  | nil => simp [Lib.join, List.intercalate]
  | cons x r =>
    have h2 := lens_le n (x :: r) h
    rw [Lib.join_length, Nat.mul_add]
    simp only [List.length_cons] at *
    have h3 : sep.length * r.length ≤ (r.length + 1) * sep.length := by rw [Nat.add_mul, Nat.mul_comm]; omega
    omega
theorem monthName_at : ∀ j : Nat, j < 12 → ∃ c a b t, monthNames[j]? = some (c :: a :: b :: t) ∧ 97 ≤ c.toNat ∧ c.toNat ≤ 122 := by
  intro j hj
  have h : j = 0 ∨ j = 1 ∨ j = 2 ∨ j = 3 ∨ j = 4 ∨ j = 5 ∨ j = 6 ∨ j = 7 ∨ j = 8 ∨ j = 9 ∨ j = 10 ∨ j = 11 := by omega
  rcases h with rfl | rfl | rfl | rfl | rfl | rfl | rfl | rfl | rfl | rfl | rfl | rfl
  all_goals exact ⟨_, _, _, _, rfl, by decide, by decide⟩
def zic_write.f (a0 : ByteArray) (a1 : Int) (l2 : List ByteArray) : Option (ByteArray) :=
  if inDays a1 ∧ a0.size ≤ 1000 ∧ l2.length ≤ 3 ∧ ∀ x ∈ l2, x.size ≤ 1000 then some (mkB (writeL a0.data.toList a1 (l2.map (·.data.toList)))) else none
theorem zic_write.calls (a0 : ByteArray) (a1 : Int) (A2 : Option Addr) (c2 : Nat) (l2 : List ByteArray) (r : ByteArray) (w : World) (hr2 : Kd.C Kd.string w A2 l2.length l2) (hc2 : l2.length ≤ c2) (h : zic_write.f a0 a1 l2 = some r) (hG : Gl w) :
    Calls Tryd.prog 28 #[.string a0, .int .i64 a1, .slice A2 l2.length c2] w fun e w' => e = .returned (.string r) ∧ Below w.heap.size w w' := by
  unfold zic_write.f at h
  split at h
  · rename_i hc
    obtain ⟨hd, hk, hl, hs⟩ := hc
    obtain rfl := Option.some.inj h
    obtain ⟨y0, y1, m0, m1, d0, d1⟩ := dateRange a1 hd
    have hD : day_Date.f a1 = some (dateY a1, dateM a1, dateD a1, true) := by unfold day_Date.f; exact if_pos hd
    have hj : (dateM a1 - 1).toNat < 12 := by omega
    obtain ⟨c, a, b, t, hn, hc0, hc1⟩ := monthName_at _ hj
    have hmon : monL (dateM a1) = [c - 32, a, b] := by unfold monL; rw [hn]
    unfold writeL
    rw [hmon]
    refine write_walk a0 hk a1 (dateY a1) (dateM a1) (dateD a1) hD ⟨y0, y1, d0, d1⟩ (dateM a1 - 1).toNat (by omega) c a b t hj hn ⟨hc0, hc1⟩ l2 A2 c2 w hr2 hc2 hl hG ?_
    have hJ := join_le 1000 ([a0.data.toList, Lib.itoa (dateY a1), [c - 32, a, b], Lib.itoa (dateD a1)] ++ l2.map (·.data.toList)) [9] (by
      intro x hx
      rcases List.mem_append.1 hx with hx | hx
      · simp only [List.mem_cons, List.mem_nil_iff, or_false] at hx
        rcases hx with rfl | rfl | rfl | rfl
        · exact hk
        · have := Lib.itoa_length_le (dateY a1) (by omega) (by omega); omega
        · simp
        · have := Lib.itoa_length_le (dateD a1) (by omega) (by omega); omega
      · obtain ⟨z, hz, rfl⟩ := List.mem_map.1 hx
        exact hs z hz)
    refine Nat.le_trans hJ ?_
    rw [List.length_append, List.length_map]
    simp only [List.length_cons, List.length_nil]
    have : (0 + 1 + 1 + 1 + 1 + l2.length) * (1000 + (0 + 1)) ≤ 7 * 1001 := Nat.mul_le_mul (by omega) (by omega)
    omega
  · cases h
end Go.Proofs.YtodalfobehddmaaDoor.Y
