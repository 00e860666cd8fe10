/- What functions of the program come to, proved by walking their code; no condition beside those that each theorem states (part 3 of 4) -/
import Derived.Lib.LazyBuf
import Derived.Lib.Hide
import Derived.Test.YtodalfobehddmaaDoorCZ2
set_option linter.unusedVariables false
set_option linter.unusedSimpArgs false
namespace Go.Proofs.YtodalfobehddmaaDoor.Y.S
open Go.RowKit Go.Proofs.YtodalfobehddmaaDoorW.PrintWords Go.Proofs.YtodalfobehddmaaDoorW.PrintLast Go.Proofs.YtodalfobehddmaaDoor.Mx
attribute [local go_sem] max2_int min2_int max_two min_two max_three min_three   -- for this text's walks alone
open Go.Proofs.YtodalfobehddmaaDoor.Z
def zic_Text.l0 : Nat → ByteArray → List (S46) → Int → Int → List (S46) → Bool → Int → Option (ByteArray × Bool)
  | 0, _, _, _, _, _, _, _ => none
  | k + 1, x2, x15, x16, x17, x102000, x102001, x102002 => if x17 < x16 then (if 0 ≤ x17 then (if x17 < (x15.length : Int) then (if ((rd_T46 x15 x17).f1) < 0 then (if (rd_T46 x15 x17).f2 = true then ((zic_write.f (⟨#[76, 101, 97, 112]⟩ : ByteArray) ((rd_T46 x15 x17).f0) (([(⟨#[50, 51, 58, 53, 57, 58, 53, 57]⟩ : ByteArray), (⟨#[45]⟩ : ByteArray), (⟨#[82]⟩ : ByteArray)] : List ByteArray))).bind fun t108 => (if x2.size + t108.size ≤ 9223372036854775807 then (zic_Text.l0 k (x2 ++ t108) x15 x16 (wrap64 (x17 + 1)) x102000 x102001 x102002) else (none))) else ((zic_write.f (⟨#[76, 101, 97, 112]⟩ : ByteArray) ((rd_T46 x15 x17).f0) (([(⟨#[50, 51, 58, 53, 57, 58, 53, 57]⟩ : ByteArray), (⟨#[45]⟩ : ByteArray), (⟨#[83]⟩ : ByteArray)] : List ByteArray))).bind fun t112 => (if x2.size + t112.size ≤ 9223372036854775807 then (zic_Text.l0 k (x2 ++ t112) x15 x16 (wrap64 (x17 + 1)) x102000 x102001 x102002) else (none)))) else (if (rd_T46 x15 x17).f2 = true then ((zic_write.f (⟨#[76, 101, 97, 112]⟩ : ByteArray) ((rd_T46 x15 x17).f0) (([(⟨#[50, 51, 58, 53, 57, 58, 54, 48]⟩ : ByteArray), (⟨#[43]⟩ : ByteArray), (⟨#[82]⟩ : ByteArray)] : List ByteArray))).bind fun t116 => (if x2.size + t116.size ≤ 9223372036854775807 then (zic_Text.l0 k (x2 ++ t116) x15 x16 (wrap64 (x17 + 1)) x102000 x102001 x102002) else (none))) else ((zic_write.f (⟨#[76, 101, 97, 112]⟩ : ByteArray) ((rd_T46 x15 x17).f0) (([(⟨#[50, 51, 58, 53, 57, 58, 54, 48]⟩ : ByteArray), (⟨#[43]⟩ : ByteArray), (⟨#[83]⟩ : ByteArray)] : List ByteArray))).bind fun t120 => (if x2.size + t120.size ≤ 9223372036854775807 then (zic_Text.l0 k (x2 ++ t120) x15 x16 (wrap64 (x17 + 1)) x102000 x102001 x102002) else (none))))) else (none)) else (none)) else (if x102001 = true then ((stamp_Text.f (wrap64 (Int.tdiv x102002 86400)) (Int.tmod x102002 86400)).bind fun bt121 => (if 11 ≤ 19 then (if 19 ≤ (bt121.1.size : Int) then ((zic_write.f (⟨#[69, 120, 112, 105, 114, 101, 115]⟩ : ByteArray) (wrap64 (Int.tdiv x102002 86400)) (([bt121.1.extract 11 19] : List ByteArray))).bind fun t126 => (if x2.size + t126.size ≤ 9223372036854775807 then (some (x2 ++ t126, true)) else (none))) else (none)) else (none))) else (some (x2, true)))
def zic_Text.f (k : Nat) (l0_0 : List (S46)) (a0_1 : Bool) (a0_2 : Int) : Option (ByteArray × Bool) := (leap_Right.f l0_0 a0_1 a0_2).bind fun t102 => (if t102 = true then (zic_Text.l0 k (⟨#[]⟩ : ByteArray) l0_0 (l0_0.length : Int) 0 l0_0 a0_1 a0_2) else (some ((⟨#[]⟩ : ByteArray), false)))
theorem zic_Text.mono_l : ∀ k, (∀ y0 y1 y2 y3 y4 y5 y6, LeO (zic_Text.l0 k y0 y1 y2 y3 y4 y5 y6) (zic_Text.l0 (k + 1) y0 y1 y2 y3 y4 y5 y6))
  | 0 => fun _ _ _ _ _ _ _ r h => by simp [zic_Text.l0] at h
  | k + 1 => by
    have ih0 := zic_Text.mono_l k
    · intro y0 y1 y2 y3 y4 y5 y6
      unfold zic_Text.l0
      repeat' first
      | (with_reducible exact ih0 _ _ _ _ _ _ _)
      | (with_reducible exact LeO.refl _)
      | (with_reducible exact LeO.none _)
      | (with_reducible refine LeO.ite ?_ ?_)
      | (with_reducible refine LeO.bind ?_ (fun _ => ?_))
      | exact ih0 _ _ _ _ _ _ _
      | exact LeO.none _
      | refine LeO.ite ?_ ?_
      | refine LeO.bind ?_ (fun _ => ?_)
theorem zic_Text.mono : ∀ a0 a1 a2 k, LeO (zic_Text.f k a0 a1 a2) (zic_Text.f (k + 1) a0 a1 a2) := by
  intro a0 a1 a2 k
  have ih0 := zic_Text.mono_l k
  unfold zic_Text.f
  repeat' first
      | (with_reducible exact ih0 _ _ _ _ _ _ _)
      | (with_reducible exact LeO.refl _)
      | (with_reducible exact LeO.none _)
      | (with_reducible refine LeO.ite ?_ ?_)
      | (with_reducible refine LeO.bind ?_ (fun _ => ?_))
      | exact ih0 _ _ _ _ _ _ _
      | exact LeO.none _
      | refine LeO.ite ?_ ?_
      | refine LeO.bind ?_ (fun _ => ?_)
def zic_Text.T15 : Bool × List (List Nat × List Nat) := (true, [([], []), ([], []), ([1], [1]), ([2], [2]), ([], []), ([4], [4]), ([5], [5]), ([3, 6], [3, 6]), ([0, 7], [0, 7]), ([8, 7, 0, 1, 2, 3, 4, 5, 6, 7, 8], [0, 8])])
def zic_Text.B15 : List Nat := [0, 0, 2, 6, 0, 16, 48, 126, 255, 511]
theorem zic_Text.tab15 : rtab .any (opsOf Tryd.f13 15) = zic_Text.T15 := by kernel_rfl
theorem zic_Text.bits15 : waitsOk zic_Text.T15.2 zic_Text.B15 = true := by kernel_rfl
set_option maxHeartbeats 8000000 in
set_option maxRecDepth 100000 in
theorem zic_Text.calls (k : Nat) (A0_0 : Option Addr) (c0_0 : Nat) (l0_0 : List (S46)) (a0_1 : Bool) (a0_2 : Int) (r1 : ByteArray) (r2 : Bool) (w : World) (hr0_0 : Kd.C k46 w A0_0 l0_0.length l0_0) (hc0_0 : l0_0.length ≤ c0_0) (h : zic_Text.f k l0_0 a0_1 a0_2 = some (r1, r2)) (hG : Gl w) :
    Calls Tryd.prog 13 #[.agg #[.slice A0_0 l0_0.length c0_0, .bool a0_1, .int .i64 a0_2]] w fun e w' => e = .returned (.tuple #[.string r1, .bool r2]) ∧ Below w.heap.size w w' := by
  have HG := Aside0.mk hG
  clear hG
  have hu24 := Tryd.underlying24
  have hu46 := Tryd.underlying46
  have HR0_0 := Aside0.mk hr0_0
  have HC0_0 := Aside0.mk hc0_0
  clear hr0_0 hc0_0
  have HB := Aside0.mk (Below.refl w.heap.size w)
  have H : ((leap_Right.f l0_0 a0_1 a0_2).bind fun t102 => (if t102 = true then (zic_Text.l0 k (⟨#[]⟩ : ByteArray) l0_0 (l0_0.length : Int) 0 l0_0 a0_1 a0_2) else (some ((⟨#[]⟩ : ByteArray), false)))) = some (r1, r2) := h
  clear h
  replace H := Option.bind_eq_some_iff.mp H
  obtain ⟨t102, A20, H⟩ := H
  replace H : (if t102 = true then (zic_Text.l0 k (⟨#[]⟩ : ByteArray) l0_0 (l0_0.length : Int) 0 l0_0 a0_1 a0_2) else (some ((⟨#[]⟩ : ByteArray), false))) = some (r1, r2) := H
  have A2 := Aside0.mk A20
  clear A20
  by_cases c3 : t102 = true
  · subst c3
    have H1 : (zic_Text.l0 k (⟨#[]⟩ : ByteArray) l0_0 (l0_0.length : Int) 0 l0_0 a0_1 a0_2) = some (r1, r2) := by rw [if_pos rfl] at H; exact H
    clear H
    have H := H1
    clear H1
    have H' := Aside0.mk H
    clear H
    go_enter Tryd.func13, Tryd.ntmps13
    go_wp2_with (first | ((with_reducible refine gate_dst (N := 1) rfl ?_); refine box_event ?hg (N := 1) ?hd (cs := #[.slice A0_0 l0_0.length c0_0, .bool a0_1, .int .i64 a0_2]) (t := 24) ?hr ?_; (case hd => rfl); (case hg => rfl); (case hr => first | (go_simp; done) | (go_simp; rfl)); intro gb101 hg w4 hbox hb; have n0_ := Aside0.mk (below_step (by repeat (first | (with_reducible first | exact HB.out | apply below_alloc | apply pw_below_drewN | apply below_drew1) | exact HB.out)) hb); have n1_ := Aside0.mk (hbox); have n2_ := Aside0.mk ((by rw [hg]; exact (below_size (by repeat (first | (with_reducible first | exact HB.out | apply below_alloc | apply pw_below_drewN | apply below_drew1) | exact HB.out))) : w.heap.size ≤ gb101)); have n3_ := Aside0.mk ((by rw [hg]; exact (below_size (by repeat (first | (with_reducible first | exact HB.out | apply below_alloc | apply pw_below_drewN | apply below_drew1) | exact HB.out))) : w.heap.size ≤ gb101)); clear HB; have HB := n0_; have BK101 := n1_; have GW101 := n2_; have GE101 := n3_; clear n0_ n1_ n2_ n3_; clear hb hbox hg; have hcz5_0 : w4.cell? ⟨gb101, 0, none⟩ = some (.slice A0_0 l0_0.length c0_0) := (blk_cell BK101.out 0).trans rfl; have hcz5_1 : w4.cell? ⟨gb101, 1, none⟩ = some (.bool a0_1) := (blk_cell BK101.out 1).trans rfl; have hcz5_2 : w4.cell? ⟨gb101, 2, none⟩ = some (.int .i64 a0_2) := (blk_cell BK101.out 2).trans rfl; have hfz5_0 := blk_frozen BK101.out 0; have hfz5_1 := blk_frozen BK101.out 1; have hfz5_2 := blk_frozen BK101.out 2) | ((with_reducible refine gate_callee (f := 14) rfl ?_); refine goesL_ (some 12) rfl rfl Tryd.func14 (by kernel_rfl) rfl #[.agg #[.slice A0_0 l0_0.length c0_0, .bool a0_1, .int .i64 a0_2]] rfl (by (try simp only [List.map_toArray, List.map_cons, List.map_nil]); first | done | rfl | (simp only [List.length_drop, List.length_take]; rfl)) ?_; (with_reducible refine (leap_Right.calls _ _ l0_0 a0_1 a0_2 true _ ?side1 ?side2 A2.out).mono ?_); (case side1 => repeat (first | exact (Kd.C_below HR0_0.out HB.out) | (with_reducible refine Kd.C_alloc ?_ _) | (with_reducible refine Kd.C_drewN ?_ _) | (with_reducible refine Kd.C_drew ?_))); (case side2 => exact HC0_0.out); rintro e w6 ⟨rfl, hb⟩; refine ⟨_, rfl, ?_⟩; have n0_ := Aside0.mk (blk_below (g := gb101) (o := .cells #[.slice A0_0 l0_0.length c0_0, .bool a0_1, .int .i64 a0_2] 24 (0, 0)) (by (with_reducible repeat (first | refine blk_drewN ?_ _ | refine blk_drew ?_ | refine blk_alloc ?_ _)); exact BK101.out) hb); have n1_ := Aside0.mk (below_step (by repeat (first | (with_reducible first | exact HB.out | apply below_alloc | apply pw_below_drewN | apply below_drew1 | refine below_set ?_ GE101.out) | exact HB.out)) hb); clear BK101; clear HB; have BK101 := n0_; have HB := n1_; clear n0_ n1_; (try clear hb); (try clear hb2); (try clear hk); (try clear hi); have hcz7_0 : w6.cell? ⟨gb101, 0, none⟩ = some (.slice A0_0 l0_0.length c0_0) := (blk_cell BK101.out 0).trans rfl; have hcz7_1 : w6.cell? ⟨gb101, 1, none⟩ = some (.bool a0_1) := (blk_cell BK101.out 1).trans rfl; have hcz7_2 : w6.cell? ⟨gb101, 2, none⟩ = some (.int .i64 a0_2) := (blk_cell BK101.out 2).trans rfl; have hfz7_0 := blk_frozen BK101.out 0; have hfz7_1 := blk_frozen BK101.out 1; have hfz7_2 := blk_frozen BK101.out 2))
    go_loopg [2, 17] k (fun kq v2 v17 w' => ∃ (x2_1 : ByteArray) (x17_1 : Int), v2 = .string x2_1 ∧ v17 = .int .i64 x17_1 ∧ Aside0 (zic_Text.l0 kq x2_1 l0_0 (l0_0.length : Int) x17_1 l0_0 a0_1 a0_2 = some (r1, r2)) ∧ Aside0 (kq ≤ k) ∧ Aside0 (w'.heap[gb101]? = some (.cells #[(.slice A0_0 l0_0.length c0_0), .bool a0_1, .int .i64 a0_2] 24 (0, 0))) ∧ Aside0 (Below w.heap.size w w'))
    case atStart => exact ⟨((⟨#[]⟩ : ByteArray)), (0), (by first | rfl | (simp; done) | (simp [*]; done)), (by first | rfl | (simp; done) | (simp [*]; done)), H', ⟨Nat.le_refl _⟩, ⟨by (with_reducible repeat (first | refine blk_drewN ?_ _ | refine blk_drew ?_ | refine blk_alloc ?_ _)); exact BK101.out⟩, ⟨by repeat (first | (with_reducible first | exact HB.out | apply below_alloc | apply pw_below_drewN | apply below_drew1 | refine below_set ?_ GE101.out) | exact HB.out)⟩⟩
    case round =>
      clear H'
      try clear c1
      try clear p2
      try clear c3
      try clear hcz5_0
      try clear hcz5_1
      try clear hcz5_2
      try clear hcz7_0
      try clear hcz7_1
      try clear hcz7_2
      try clear hfz5_0
      try clear hfz5_1
      try clear hfz5_2
      try clear hfz7_0
      try clear hfz7_1
      try clear hfz7_2
      obtain ⟨x2_1, x17_1, rfl, rfl, HA, HK1, BK101, HB⟩ := hrel
      cases gk with
      | zero => exact absurd HA.out (by simp [zic_Text.l0])
      | succ k1 =>
        have H := HA.out
        clear HA
        simp only [zic_Text.l0] at H
        by_cases c8 : x17_1 < (l0_0.length : Int)
        · rw [if_pos c8] at H
          have c8b0 : decide (x17_1 < (l0_0.length : Int)) = true := decide_eq_true c8
          clear c8
          by_cases c9 : 0 ≤ x17_1
          · rw [if_pos c9] at H
            have c9b0 : decide (0 ≤ x17_1) = true := decide_eq_true c9
            clear c9
            by_cases c10 : x17_1 < (l0_0.length : Int)
            · rw [if_pos c10] at H
              have c10b0 : decide (x17_1 < (l0_0.length : Int)) = true := decide_eq_true c10
              clear c10
              by_cases c11 : ((rd_T46 l0_0 x17_1).f1) < 0
              · rw [if_pos c11] at H
                have c11b0 : decide (((rd_T46 l0_0 x17_1).f1) < 0) = true := decide_eq_true c11
                clear c11
                obtain ⟨bq12, hbq12⟩ : ∃ b_ : Bool, b_ = ((rd_T46 l0_0 x17_1).f2) := ⟨_, rfl⟩
                replace H : (if bq12 = true then ((zic_write.f (⟨#[76, 101, 97, 112]⟩ : ByteArray) ((rd_T46 l0_0 x17_1).f0) (([(⟨#[50, 51, 58, 53, 57, 58, 53, 57]⟩ : ByteArray), (⟨#[45]⟩ : ByteArray), (⟨#[82]⟩ : ByteArray)] : List ByteArray))).bind fun t108 => (if x2_1.size + t108.size ≤ 9223372036854775807 then (zic_Text.l0 k1 (x2_1 ++ t108) l0_0 (l0_0.length : Int) (wrap64 (x17_1 + 1)) l0_0 a0_1 a0_2) else (none))) else ((zic_write.f (⟨#[76, 101, 97, 112]⟩ : ByteArray) ((rd_T46 l0_0 x17_1).f0) (([(⟨#[50, 51, 58, 53, 57, 58, 53, 57]⟩ : ByteArray), (⟨#[45]⟩ : ByteArray), (⟨#[83]⟩ : ByteArray)] : List ByteArray))).bind fun t112 => (if x2_1.size + t112.size ≤ 9223372036854775807 then (zic_Text.l0 k1 (x2_1 ++ t112) l0_0 (l0_0.length : Int) (wrap64 (x17_1 + 1)) l0_0 a0_1 a0_2) else (none)))) = some (r1, r2) := by rw [← hbq12] at H; exact H
                have Nbq12 := Aside0.mk hbq12
                clear hbq12
                by_cases c13 : bq12 = true
                · subst c13
                  have H1 : ((zic_write.f (⟨#[76, 101, 97, 112]⟩ : ByteArray) ((rd_T46 l0_0 x17_1).f0) (([(⟨#[50, 51, 58, 53, 57, 58, 53, 57]⟩ : ByteArray), (⟨#[45]⟩ : ByteArray), (⟨#[82]⟩ : ByteArray)] : List ByteArray))).bind fun t108 => (if x2_1.size + t108.size ≤ 9223372036854775807 then (zic_Text.l0 k1 (x2_1 ++ t108) l0_0 (l0_0.length : Int) (wrap64 (x17_1 + 1)) l0_0 a0_1 a0_2) else (none))) = some (r1, r2) := by rw [if_pos rfl] at H; exact H
                  clear H
                  have H := H1
                  clear H1
                  obtain ⟨y105, hy105⟩ : ∃ y_ : List ByteArray, y_ = (([(⟨#[50, 51, 58, 53, 57, 58, 53, 57]⟩ : ByteArray), (⟨#[45]⟩ : ByteArray), (⟨#[82]⟩ : ByteArray)] : List ByteArray)) := ⟨_, rfl⟩
                  replace H : ((zic_write.f (⟨#[76, 101, 97, 112]⟩ : ByteArray) ((rd_T46 l0_0 x17_1).f0) y105).bind fun t108 => (if x2_1.size + t108.size ≤ 9223372036854775807 then (zic_Text.l0 k1 (x2_1 ++ t108) l0_0 (l0_0.length : Int) (wrap64 (x17_1 + 1)) l0_0 a0_1 a0_2) else (none))) = some (r1, r2) := by first | (rw [hy105]; with_reducible exact H) | (have H2_ := (Option.bind_some _ _).symm.trans H; rw [hy105]; with_reducible exact H2_) | (have H2_ := (Option.bind_some _ _).symm.trans H; with_reducible exact H2_) | with_reducible exact H | (rw [hy105]; exact H) | exact H
                  have Ny105 := Aside0.mk hy105
                  clear hy105
                  replace H := Option.bind_eq_some_iff.mp H
                  obtain ⟨t108, A140, H⟩ := H
                  replace H : (if x2_1.size + t108.size ≤ 9223372036854775807 then (zic_Text.l0 k1 (x2_1 ++ t108) l0_0 (l0_0.length : Int) (wrap64 (x17_1 + 1)) l0_0 a0_1 a0_2) else (none)) = some (r1, r2) := H
                  have A14 := Aside0.mk A140
                  clear A140
                  by_cases c15 : x2_1.size + t108.size ≤ 9223372036854775807
                  · rw [if_pos c15] at H
                    have c15b0 := eq_true c15
                    have c15b1 : decide (x2_1.size + t108.size ≤ 9223372036854775807) = true := decide_eq_true c15
                    try have c15b2 : (9223372036854775807 < x2_1.size + t108.size) = False := eq_false (Nat.not_lt.2 c15)
                    have H' := Aside0.mk H
                    clear H
                    have p103 : 0 ≤ (x17_1 : Int) := of_decide_eq_true (by first | (with_reducible assumption) | assumption)
                    have q103 : x17_1 < (l0_0.length : Int) := of_decide_eq_true (by first | (with_reducible assumption) | assumption)
                    obtain ⟨ad103, e103, hx103_0, hx103_1, hx103_2⟩ := at_T46 HR0_0.out x17_1 p103 q103
                    (try rw [← Nbq12.out] at hx103_2)
                    cases e103
                    replace hx103_0 := (HB.out.cell (World.block_lt_of_cell? w _ hx103_0)).trans hx103_0
                    replace hx103_1 := (HB.out.cell (World.block_lt_of_cell? w _ hx103_1)).trans hx103_1
                    replace hx103_2 := (HB.out.cell (World.block_lt_of_cell? w _ hx103_2)).trans hx103_2
                    replace p103 := eq_true p103
                    replace q103 := eq_true q103
                    go_wp2_with (first | ((with_reducible refine gate_dst (N := 5) rfl ?_); refine box_event ?hg (N := 5) ?hd (cs := #[.int .i64 0, .int .i64 0, .bool false]) (t := 46) ?hr ?_; (case hd => rfl); (case hg => rfl); (case hr => first | (go_simp; done) | (go_simp; rfl)); intro gb104 hg w16 hbox hb; have n0_ := Aside0.mk (blk_below (g := gb101) (o := .cells #[.slice (some ad103) l0_0.length c0_0, .bool a0_1, .int .i64 a0_2] 24 (0, 0)) (by (with_reducible repeat (first | refine blk_drewN ?_ _ | refine blk_drew ?_ | refine blk_alloc ?_ _)); exact BK101.out) hb); have n1_ := Aside0.mk (below_step (by repeat (first | (with_reducible first | exact HB.out | apply below_alloc | apply pw_below_drewN | apply below_drew1 | refine below_set ?_ GE101.out) | exact HB.out)) hb); have n2_ := Aside0.mk (hbox); have n3_ := Aside0.mk ((by rw [hg]; exact (below_size (by repeat (first | (with_reducible first | exact HB.out | apply below_alloc | apply pw_below_drewN | apply below_drew1 | refine below_set ?_ GE101.out) | exact HB.out))) : w.heap.size ≤ gb104)); have n4_ := Aside0.mk ((by rw [hg]; exact (below_size (by repeat (first | (with_reducible first | exact HB.out | apply below_alloc | apply pw_below_drewN | apply below_drew1 | refine below_set ?_ GE101.out) | exact HB.out))) : w.heap.size ≤ gb104)); have n5_ := Aside0.mk ((by rw [hg]; exact Nat.ne_of_lt (blk_lt (g := gb101) (o := .cells #[.slice (some ad103) l0_0.length c0_0, .bool a0_1, .int .i64 a0_2] 24 (0, 0)) (by (with_reducible repeat (first | refine blk_drewN ?_ _ | refine blk_drew ?_ | refine blk_alloc ?_ _)); exact BK101.out)) : gb101 ≠ gb104)); have n6_ := Aside0.mk ((by rw [hg]; exact Nat.ne_of_gt (blk_lt (g := gb101) (o := .cells #[.slice (some ad103) l0_0.length c0_0, .bool a0_1, .int .i64 a0_2] 24 (0, 0)) (by (with_reducible repeat (first | refine blk_drewN ?_ _ | refine blk_drew ?_ | refine blk_alloc ?_ _)); exact BK101.out)) : gb104 ≠ gb101)); clear BK101; clear HB; have BK101 := n0_; have HB := n1_; have BK104 := n2_; have GW104 := n3_; have GE104 := n4_; have NB101_104 := n5_; have NB104_101 := n6_; clear n0_ n1_ n2_ n3_ n4_ n5_ n6_; clear hb hbox hg; have hnb17 := NB104_101.out; have hnc17 := NB101_104.out; have hcz18_0 : w16.cell? ⟨gb104, 0, none⟩ = some (.int .i64 0) := (blk_cell BK104.out 0).trans rfl; have hcz18_1 : w16.cell? ⟨gb104, 1, none⟩ = some (.int .i64 0) := (blk_cell BK104.out 1).trans rfl; have hcz18_2 : w16.cell? ⟨gb104, 2, none⟩ = some (.bool false) := (blk_cell BK104.out 2).trans rfl; have hfz18_0 := blk_frozen BK104.out 0; have hfz18_1 := blk_frozen BK104.out 1; have hfz18_2 := blk_frozen BK104.out 2) | ((with_reducible refine gate_dst (N := 32) rfl ?_); refine Kd.R_lit Kd.string _ 9 ?hg (N := 32) ?hd (xs := ([(⟨#[50, 51, 58, 53, 57, 58, 53, 57]⟩ : ByteArray), (⟨#[45]⟩ : ByteArray), (⟨#[82]⟩ : ByteArray)] : List ByteArray)) (inner := [.string (⟨#[50, 51, 58, 53, 57, 58, 53, 57]⟩ : ByteArray), .string (⟨#[45]⟩ : ByteArray), .string (⟨#[82]⟩ : ByteArray)]) (ok := fun _ => True) (okp := fun _ => True) ?hr ?hp (fun _ hk => hk) trivial (Below.refl _ _) (Nat.le_refl _) (by simp) ?_; (case hd => rfl); (case hg => rfl); (case hr => first | (go_simp; done) | (go_simp; rfl)); (case hp => exact (Reps.one (show Kd.M Kd.string _ _ _ (⟨#[50, 51, 58, 53, 57, 58, 53, 57]⟩ : ByteArray) [.string (⟨#[50, 51, 58, 53, 57, 58, 53, 57]⟩ : ByteArray)] from rfl) (Reps.one (show Kd.M Kd.string _ _ _ (⟨#[45]⟩ : ByteArray) [.string (⟨#[45]⟩ : ByteArray)] from rfl) (Reps.one (show Kd.M Kd.string _ _ _ (⟨#[82]⟩ : ByteArray) [.string (⟨#[82]⟩ : ByteArray)] from rfl) (Reps.none _ _))))); intro v106 w19 ho20 hb hg_ hnew_; clear hg_ hnew_; (first | rw [← Ny105.out] at ho20 | (simp only [Int.reduceToNat] at ho20; rw [← Ny105.out] at ho20)); have n0_ := Aside0.mk (Kd.R_lower ho20 (below_size (by repeat (first | (with_reducible first | exact HB.out | apply below_alloc | apply pw_below_drewN | apply below_drew1 | refine below_set ?_ GE101.out | refine below_set ?_ GE104.out) | exact HB.out)))); have n1_ := Aside0.mk (blk_below (g := gb101) (o := .cells #[.slice (some ad103) l0_0.length c0_0, .bool a0_1, .int .i64 a0_2] 24 (0, 0)) (by (with_reducible repeat (first | refine blk_drewN ?_ _ | refine blk_drew ?_ | refine blk_alloc ?_ _)); refine blk_far ?_ NB101_104.out _; (with_reducible repeat (first | refine blk_drewN ?_ _ | refine blk_drew ?_ | refine blk_alloc ?_ _)); refine blk_far ?_ NB101_104.out _; (with_reducible repeat (first | refine blk_drewN ?_ _ | refine blk_drew ?_ | refine blk_alloc ?_ _)); refine blk_far ?_ NB101_104.out _; (with_reducible repeat (first | refine blk_drewN ?_ _ | refine blk_drew ?_ | refine blk_alloc ?_ _)); exact BK101.out) hb); have n2_ := Aside0.mk (blk_below (g := gb104) (o := .cells #[.int .i64 ((rd_T46 l0_0 x17_1).f0), .int .i64 ((rd_T46 l0_0 x17_1).f1), .bool true] 46 (0, 0)) (by (with_reducible repeat (first | refine blk_drewN ?_ _ | refine blk_drew ?_ | refine blk_alloc ?_ _)); refine blk_put (cs := #[.int .i64 ((rd_T46 l0_0 x17_1).f0), .int .i64 ((rd_T46 l0_0 x17_1).f1), .bool false]) ?_ 2 _ rfl; (with_reducible repeat (first | refine blk_drewN ?_ _ | refine blk_drew ?_ | refine blk_alloc ?_ _)); refine blk_put (cs := #[.int .i64 ((rd_T46 l0_0 x17_1).f0), .int .i64 0, .bool false]) ?_ 1 _ rfl; (with_reducible repeat (first | refine blk_drewN ?_ _ | refine blk_drew ?_ | refine blk_alloc ?_ _)); refine blk_put (cs := #[.int .i64 0, .int .i64 0, .bool false]) ?_ 0 _ rfl; (with_reducible repeat (first | refine blk_drewN ?_ _ | refine blk_drew ?_ | refine blk_alloc ?_ _)); exact BK104.out) hb); have n3_ := Aside0.mk (below_step (by repeat (first | (with_reducible first | exact HB.out | apply below_alloc | apply pw_below_drewN | apply below_drew1 | refine below_set ?_ GE101.out | refine below_set ?_ GE104.out) | exact HB.out)) hb); clear BK101; clear BK104; clear HB; have HO107 := n0_; have BK101 := n1_; have BK104 := n2_; have HB := n3_; clear n0_ n1_ n2_ n3_; clear hb ho20; obtain ⟨Ao21, co21, eo21⟩ := Kd.R_slice HO107.out; subst eo21) | ((with_reducible refine gate_callee (f := 28) rfl ?_); refine goesL_ (some 33) rfl rfl Tryd.func28 (by kernel_rfl) rfl #[.string (⟨#[76, 101, 97, 112]⟩ : ByteArray), .int .i64 ((rd_T46 l0_0 x17_1).f0), .slice Ao21 y105.length co21] rfl (by (try simp only [List.map_toArray, List.map_cons, List.map_nil]); first | done | rfl | (simp only [List.length_drop, List.length_take]; rfl)) ?_; (with_reducible refine (zic_write.calls (⟨#[76, 101, 97, 112]⟩ : ByteArray) ((rd_T46 l0_0 x17_1).f0) _ _ y105 t108 _ ?side1 ?side2 A14.out (hG := by exact gl_below HG.out (by repeat (first | (with_reducible first | exact HB.out | apply below_alloc | apply pw_below_drewN | apply below_drew1 | refine below_set ?_ (Aside0.out (by with_reducible assumption))) | exact HB.out)))).mono ?_); (case side1 => repeat (first | exact (Kd.R_reads' HO107.out).2.2 | (with_reducible refine Kd.C_alloc ?_ _) | (with_reducible refine Kd.C_drewN ?_ _) | (with_reducible refine Kd.C_drew ?_))); (case side2 => exact (Kd.R_reads' HO107.out).2.1); rintro e w22 ⟨rfl, hb⟩; refine ⟨_, rfl, ?_⟩; have n0_ := Aside0.mk (Kd.R_below (by (with_reducible repeat (first | apply Kd.R_alloc | apply Kd.R_drewN | apply Kd.R_drew)); exact HO107.out) hb); have n1_ := Aside0.mk (blk_below (g := gb101) (o := .cells #[.slice (some ad103) l0_0.length c0_0, .bool a0_1, .int .i64 a0_2] 24 (0, 0)) (by (with_reducible repeat (first | refine blk_drewN ?_ _ | refine blk_drew ?_ | refine blk_alloc ?_ _)); exact BK101.out) hb); have n2_ := Aside0.mk (blk_below (g := gb104) (o := .cells #[.int .i64 ((rd_T46 l0_0 x17_1).f0), .int .i64 ((rd_T46 l0_0 x17_1).f1), .bool true] 46 (0, 0)) (by (with_reducible repeat (first | refine blk_drewN ?_ _ | refine blk_drew ?_ | refine blk_alloc ?_ _)); exact BK104.out) hb); have n3_ := Aside0.mk (below_step (by repeat (first | (with_reducible first | exact HB.out | apply below_alloc | apply pw_below_drewN | apply below_drew1 | refine below_set ?_ GE101.out | refine below_set ?_ GE104.out) | exact HB.out)) hb); clear HO107; clear BK101; clear BK104; clear HB; have HO107 := n0_; have BK101 := n1_; have BK104 := n2_; have HB := n3_; clear n0_ n1_ n2_ n3_; (try clear hb); (try clear hb2); (try clear hk); (try clear hi)))
                    go_roundg k1
                    case measure => have := HK1.out; omega
                    case rel => exact ⟨(x2_1 ++ t108), (wrap64 (x17_1 + 1)), (by first | rfl | (simp; done) | (simp [*]; done)), (by first | rfl | (simp; done) | (simp [*]; done)), H', ⟨by have := HK1.out; omega⟩, ⟨by (with_reducible repeat (first | refine blk_drewN ?_ _ | refine blk_drew ?_ | refine blk_alloc ?_ _)); exact BK101.out⟩, ⟨by repeat (first | (with_reducible first | exact HB.out | apply below_alloc | apply pw_below_drewN | apply below_drew1 | refine below_set ?_ GE101.out | refine below_set ?_ GE104.out) | exact HB.out)⟩⟩
                  · rw [if_neg c15] at H
                    exact absurd H (by simp)
                · replace c13 := Bool.eq_false_iff.mpr c13
                  subst c13
                  have H1 : ((zic_write.f (⟨#[76, 101, 97, 112]⟩ : ByteArray) ((rd_T46 l0_0 x17_1).f0) (([(⟨#[50, 51, 58, 53, 57, 58, 53, 57]⟩ : ByteArray), (⟨#[45]⟩ : ByteArray), (⟨#[83]⟩ : ByteArray)] : List ByteArray))).bind fun t112 => (if x2_1.size + t112.size ≤ 9223372036854775807 then (zic_Text.l0 k1 (x2_1 ++ t112) l0_0 (l0_0.length : Int) (wrap64 (x17_1 + 1)) l0_0 a0_1 a0_2) else (none))) = some (r1, r2) := by rw [if_neg (show ¬ (false = true) by decide)] at H; exact H
                  clear H
                  have H := H1
                  clear H1
                  obtain ⟨y109, hy109⟩ : ∃ y_ : List ByteArray, y_ = (([(⟨#[50, 51, 58, 53, 57, 58, 53, 57]⟩ : ByteArray), (⟨#[45]⟩ : ByteArray), (⟨#[83]⟩ : ByteArray)] : List ByteArray)) := ⟨_, rfl⟩
                  replace H : ((zic_write.f (⟨#[76, 101, 97, 112]⟩ : ByteArray) ((rd_T46 l0_0 x17_1).f0) y109).bind fun t112 => (if x2_1.size + t112.size ≤ 9223372036854775807 then (zic_Text.l0 k1 (x2_1 ++ t112) l0_0 (l0_0.length : Int) (wrap64 (x17_1 + 1)) l0_0 a0_1 a0_2) else (none))) = some (r1, r2) := by first | (rw [hy109]; with_reducible exact H) | (have H2_ := (Option.bind_some _ _).symm.trans H; rw [hy109]; with_reducible exact H2_) | (have H2_ := (Option.bind_some _ _).symm.trans H; with_reducible exact H2_) | with_reducible exact H | (rw [hy109]; exact H) | exact H
                  have Ny109 := Aside0.mk hy109
                  clear hy109
                  replace H := Option.bind_eq_some_iff.mp H
                  obtain ⟨t112, A230, H⟩ := H
                  replace H : (if x2_1.size + t112.size ≤ 9223372036854775807 then (zic_Text.l0 k1 (x2_1 ++ t112) l0_0 (l0_0.length : Int) (wrap64 (x17_1 + 1)) l0_0 a0_1 a0_2) else (none)) = some (r1, r2) := H
                  have A23 := Aside0.mk A230
                  clear A230
                  by_cases c24 : x2_1.size + t112.size ≤ 9223372036854775807
                  · rw [if_pos c24] at H
                    have c24b0 := eq_true c24
                    have c24b1 : decide (x2_1.size + t112.size ≤ 9223372036854775807) = true := decide_eq_true c24
                    try have c24b2 : (9223372036854775807 < x2_1.size + t112.size) = False := eq_false (Nat.not_lt.2 c24)
                    have H' := Aside0.mk H
                    clear H
                    have p103 : 0 ≤ (x17_1 : Int) := of_decide_eq_true (by first | (with_reducible assumption) | assumption)
                    have q103 : x17_1 < (l0_0.length : Int) := of_decide_eq_true (by first | (with_reducible assumption) | assumption)
                    obtain ⟨ad103, e103, hx103_0, hx103_1, hx103_2⟩ := at_T46 HR0_0.out x17_1 p103 q103
                    (try rw [← Nbq12.out] at hx103_2)
                    cases e103
                    replace hx103_0 := (HB.out.cell (World.block_lt_of_cell? w _ hx103_0)).trans hx103_0
                    replace hx103_1 := (HB.out.cell (World.block_lt_of_cell? w _ hx103_1)).trans hx103_1
                    replace hx103_2 := (HB.out.cell (World.block_lt_of_cell? w _ hx103_2)).trans hx103_2
                    replace p103 := eq_true p103
                    replace q103 := eq_true q103
                    go_wp2_with (first | ((with_reducible refine gate_dst (N := 5) rfl ?_); refine box_event ?hg (N := 5) ?hd (cs := #[.int .i64 0, .int .i64 0, .bool false]) (t := 46) ?hr ?_; (case hd => rfl); (case hg => rfl); (case hr => first | (go_simp; done) | (go_simp; rfl)); intro gb104 hg w25 hbox hb; have n0_ := Aside0.mk (blk_below (g := gb101) (o := .cells #[.slice (some ad103) l0_0.length c0_0, .bool a0_1, .int .i64 a0_2] 24 (0, 0)) (by (with_reducible repeat (first | refine blk_drewN ?_ _ | refine blk_drew ?_ | refine blk_alloc ?_ _)); exact BK101.out) hb); have n1_ := Aside0.mk (below_step (by repeat (first | (with_reducible first | exact HB.out | apply below_alloc | apply pw_below_drewN | apply below_drew1 | refine below_set ?_ GE101.out) | exact HB.out)) hb); have n2_ := Aside0.mk (hbox); have n3_ := Aside0.mk ((by rw [hg]; exact (below_size (by repeat (first | (with_reducible first | exact HB.out | apply below_alloc | apply pw_below_drewN | apply below_drew1 | refine below_set ?_ GE101.out) | exact HB.out))) : w.heap.size ≤ gb104)); have n4_ := Aside0.mk ((by rw [hg]; exact (below_size (by repeat (first | (with_reducible first | exact HB.out | apply below_alloc | apply pw_below_drewN | apply below_drew1 | refine below_set ?_ GE101.out) | exact HB.out))) : w.heap.size ≤ gb104)); have n5_ := Aside0.mk ((by rw [hg]; exact Nat.ne_of_lt (blk_lt (g := gb101) (o := .cells #[.slice (some ad103) l0_0.length c0_0, .bool a0_1, .int .i64 a0_2] 24 (0, 0)) (by (with_reducible repeat (first | refine blk_drewN ?_ _ | refine blk_drew ?_ | refine blk_alloc ?_ _)); exact BK101.out)) : gb101 ≠ gb104)); have n6_ := Aside0.mk ((by rw [hg]; exact Nat.ne_of_gt (blk_lt (g := gb101) (o := .cells #[.slice (some ad103) l0_0.length c0_0, .bool a0_1, .int .i64 a0_2] 24 (0, 0)) (by (with_reducible repeat (first | refine blk_drewN ?_ _ | refine blk_drew ?_ | refine blk_alloc ?_ _)); exact BK101.out)) : gb104 ≠ gb101)); clear BK101; clear HB; have BK101 := n0_; have HB := n1_; have BK104 := n2_; have GW104 := n3_; have GE104 := n4_; have NB101_104 := n5_; have NB104_101 := n6_; clear n0_ n1_ n2_ n3_ n4_ n5_ n6_; clear hb hbox hg; have hnb26 := NB104_101.out; have hnc26 := NB101_104.out; have hcz27_0 : w25.cell? ⟨gb104, 0, none⟩ = some (.int .i64 0) := (blk_cell BK104.out 0).trans rfl; have hcz27_1 : w25.cell? ⟨gb104, 1, none⟩ = some (.int .i64 0) := (blk_cell BK104.out 1).trans rfl; have hcz27_2 : w25.cell? ⟨gb104, 2, none⟩ = some (.bool false) := (blk_cell BK104.out 2).trans rfl; have hfz27_0 := blk_frozen BK104.out 0; have hfz27_1 := blk_frozen BK104.out 1; have hfz27_2 := blk_frozen BK104.out 2) | ((with_reducible refine gate_dst (N := 32) rfl ?_); refine Kd.R_lit Kd.string _ 9 ?hg (N := 32) ?hd (xs := ([(⟨#[50, 51, 58, 53, 57, 58, 53, 57]⟩ : ByteArray), (⟨#[45]⟩ : ByteArray), (⟨#[83]⟩ : ByteArray)] : List ByteArray)) (inner := [.string (⟨#[50, 51, 58, 53, 57, 58, 53, 57]⟩ : ByteArray), .string (⟨#[45]⟩ : ByteArray), .string (⟨#[83]⟩ : ByteArray)]) (ok := fun _ => True) (okp := fun _ => True) ?hr ?hp (fun _ hk => hk) trivial (Below.refl _ _) (Nat.le_refl _) (by simp) ?_; (case hd => rfl); (case hg => rfl); (case hr => first | (go_simp; done) | (go_simp; rfl)); (case hp => exact (Reps.one (show Kd.M Kd.string _ _ _ (⟨#[50, 51, 58, 53, 57, 58, 53, 57]⟩ : ByteArray) [.string (⟨#[50, 51, 58, 53, 57, 58, 53, 57]⟩ : ByteArray)] from rfl) (Reps.one (show Kd.M Kd.string _ _ _ (⟨#[45]⟩ : ByteArray) [.string (⟨#[45]⟩ : ByteArray)] from rfl) (Reps.one (show Kd.M Kd.string _ _ _ (⟨#[83]⟩ : ByteArray) [.string (⟨#[83]⟩ : ByteArray)] from rfl) (Reps.none _ _))))); intro v110 w28 ho29 hb hg_ hnew_; clear hg_ hnew_; (first | rw [← Ny109.out] at ho29 | (simp only [Int.reduceToNat] at ho29; rw [← Ny109.out] at ho29)); have n0_ := Aside0.mk (Kd.R_lower ho29 (below_size (by repeat (first | (with_reducible first | exact HB.out | apply below_alloc | apply pw_below_drewN | apply below_drew1 | refine below_set ?_ GE101.out | refine below_set ?_ GE104.out) | exact HB.out)))); have n1_ := Aside0.mk (blk_below (g := gb101) (o := .cells #[.slice (some ad103) l0_0.length c0_0, .bool a0_1, .int .i64 a0_2] 24 (0, 0)) (by (with_reducible repeat (first | refine blk_drewN ?_ _ | refine blk_drew ?_ | refine blk_alloc ?_ _)); refine blk_far ?_ NB101_104.out _; (with_reducible repeat (first | refine blk_drewN ?_ _ | refine blk_drew ?_ | refine blk_alloc ?_ _)); refine blk_far ?_ NB101_104.out _; (with_reducible repeat (first | refine blk_drewN ?_ _ | refine blk_drew ?_ | refine blk_alloc ?_ _)); refine blk_far ?_ NB101_104.out _; (with_reducible repeat (first | refine blk_drewN ?_ _ | refine blk_drew ?_ | refine blk_alloc ?_ _)); exact BK101.out) hb); have n2_ := Aside0.mk (blk_below (g := gb104) (o := .cells #[.int .i64 ((rd_T46 l0_0 x17_1).f0), .int .i64 ((rd_T46 l0_0 x17_1).f1), .bool false] 46 (0, 0)) (by (with_reducible repeat (first | refine blk_drewN ?_ _ | refine blk_drew ?_ | refine blk_alloc ?_ _)); refine blk_put (cs := #[.int .i64 ((rd_T46 l0_0 x17_1).f0), .int .i64 ((rd_T46 l0_0 x17_1).f1), .bool false]) ?_ 2 _ rfl; (with_reducible repeat (first | refine blk_drewN ?_ _ | refine blk_drew ?_ | refine blk_alloc ?_ _)); refine blk_put (cs := #[.int .i64 ((rd_T46 l0_0 x17_1).f0), .int .i64 0, .bool false]) ?_ 1 _ rfl; (with_reducible repeat (first | refine blk_drewN ?_ _ | refine blk_drew ?_ | refine blk_alloc ?_ _)); refine blk_put (cs := #[.int .i64 0, .int .i64 0, .bool false]) ?_ 0 _ rfl; (with_reducible repeat (first | refine blk_drewN ?_ _ | refine blk_drew ?_ | refine blk_alloc ?_ _)); exact BK104.out) hb); have n3_ := Aside0.mk (below_step (by repeat (first | (with_reducible first | exact HB.out | apply below_alloc | apply pw_below_drewN | apply below_drew1 | refine below_set ?_ GE101.out | refine below_set ?_ GE104.out) | exact HB.out)) hb); clear BK101; clear BK104; clear HB; have HO111 := n0_; have BK101 := n1_; have BK104 := n2_; have HB := n3_; clear n0_ n1_ n2_ n3_; clear hb ho29; obtain ⟨Ao30, co30, eo30⟩ := Kd.R_slice HO111.out; subst eo30) | ((with_reducible refine gate_callee (f := 28) rfl ?_); refine goesL_ (some 33) rfl rfl Tryd.func28 (by kernel_rfl) rfl #[.string (⟨#[76, 101, 97, 112]⟩ : ByteArray), .int .i64 ((rd_T46 l0_0 x17_1).f0), .slice Ao30 y109.length co30] rfl (by (try simp only [List.map_toArray, List.map_cons, List.map_nil]); first | done | rfl | (simp only [List.length_drop, List.length_take]; rfl)) ?_; (with_reducible refine (zic_write.calls (⟨#[76, 101, 97, 112]⟩ : ByteArray) ((rd_T46 l0_0 x17_1).f0) _ _ y109 t112 _ ?side1 ?side2 A23.out (hG := by exact gl_below HG.out (by repeat (first | (with_reducible first | exact HB.out | apply below_alloc | apply pw_below_drewN | apply below_drew1 | refine below_set ?_ (Aside0.out (by with_reducible assumption))) | exact HB.out)))).mono ?_); (case side1 => repeat (first | exact (Kd.R_reads' HO111.out).2.2 | (with_reducible refine Kd.C_alloc ?_ _) | (with_reducible refine Kd.C_drewN ?_ _) | (with_reducible refine Kd.C_drew ?_))); (case side2 => exact (Kd.R_reads' HO111.out).2.1); rintro e w31 ⟨rfl, hb⟩; refine ⟨_, rfl, ?_⟩; have n0_ := Aside0.mk (Kd.R_below (by (with_reducible repeat (first | apply Kd.R_alloc | apply Kd.R_drewN | apply Kd.R_drew)); exact HO111.out) hb); have n1_ := Aside0.mk (blk_below (g := gb101) (o := .cells #[.slice (some ad103) l0_0.length c0_0, .bool a0_1, .int .i64 a0_2] 24 (0, 0)) (by (with_reducible repeat (first | refine blk_drewN ?_ _ | refine blk_drew ?_ | refine blk_alloc ?_ _)); exact BK101.out) hb); have n2_ := Aside0.mk (blk_below (g := gb104) (o := .cells #[.int .i64 ((rd_T46 l0_0 x17_1).f0), .int .i64 ((rd_T46 l0_0 x17_1).f1), .bool false] 46 (0, 0)) (by (with_reducible repeat (first | refine blk_drewN ?_ _ | refine blk_drew ?_ | refine blk_alloc ?_ _)); exact BK104.out) hb); have n3_ := Aside0.mk (below_step (by repeat (first | (with_reducible first | exact HB.out | apply below_alloc | apply pw_below_drewN | apply below_drew1 | refine below_set ?_ GE101.out | refine below_set ?_ GE104.out) | exact HB.out)) hb); clear HO111; clear BK101; clear BK104; clear HB; have HO111 := n0_; have BK101 := n1_; have BK104 := n2_; have HB := n3_; clear n0_ n1_ n2_ n3_; (try clear hb); (try clear hb2); (try clear hk); (try clear hi)))
                    go_roundg k1
                    case measure => have := HK1.out; omega
                    case rel => exact ⟨(x2_1 ++ t112), (wrap64 (x17_1 + 1)), (by first | rfl | (simp; done) | (simp [*]; done)), (by first | rfl | (simp; done) | (simp [*]; done)), H', ⟨by have := HK1.out; omega⟩, ⟨by (with_reducible repeat (first | refine blk_drewN ?_ _ | refine blk_drew ?_ | refine blk_alloc ?_ _)); exact BK101.out⟩, ⟨by repeat (first | (with_reducible first | exact HB.out | apply below_alloc | apply pw_below_drewN | apply below_drew1 | refine below_set ?_ GE101.out | refine below_set ?_ GE104.out) | exact HB.out)⟩⟩
                  · rw [if_neg c24] at H
                    exact absurd H (by simp)
              · rw [if_neg c11] at H
                have c11b0 : decide (((rd_T46 l0_0 x17_1).f1) < 0) = false := decide_eq_false c11
                clear c11
                obtain ⟨bq32, hbq32⟩ : ∃ b_ : Bool, b_ = ((rd_T46 l0_0 x17_1).f2) := ⟨_, rfl⟩
                replace H : (if bq32 = true then ((zic_write.f (⟨#[76, 101, 97, 112]⟩ : ByteArray) ((rd_T46 l0_0 x17_1).f0) (([(⟨#[50, 51, 58, 53, 57, 58, 54, 48]⟩ : ByteArray), (⟨#[43]⟩ : ByteArray), (⟨#[82]⟩ : ByteArray)] : List ByteArray))).bind fun t116 => (if x2_1.size + t116.size ≤ 9223372036854775807 then (zic_Text.l0 k1 (x2_1 ++ t116) l0_0 (l0_0.length : Int) (wrap64 (x17_1 + 1)) l0_0 a0_1 a0_2) else (none))) else ((zic_write.f (⟨#[76, 101, 97, 112]⟩ : ByteArray) ((rd_T46 l0_0 x17_1).f0) (([(⟨#[50, 51, 58, 53, 57, 58, 54, 48]⟩ : ByteArray), (⟨#[43]⟩ : ByteArray), (⟨#[83]⟩ : ByteArray)] : List ByteArray))).bind fun t120 => (if x2_1.size + t120.size ≤ 9223372036854775807 then (zic_Text.l0 k1 (x2_1 ++ t120) l0_0 (l0_0.length : Int) (wrap64 (x17_1 + 1)) l0_0 a0_1 a0_2) else (none)))) = some (r1, r2) := by rw [← hbq32] at H; exact H
                have Nbq32 := Aside0.mk hbq32
                clear hbq32
                by_cases c33 : bq32 = true
                · subst c33
                  have H1 : ((zic_write.f (⟨#[76, 101, 97, 112]⟩ : ByteArray) ((rd_T46 l0_0 x17_1).f0) (([(⟨#[50, 51, 58, 53, 57, 58, 54, 48]⟩ : ByteArray), (⟨#[43]⟩ : ByteArray), (⟨#[82]⟩ : ByteArray)] : List ByteArray))).bind fun t116 => (if x2_1.size + t116.size ≤ 9223372036854775807 then (zic_Text.l0 k1 (x2_1 ++ t116) l0_0 (l0_0.length : Int) (wrap64 (x17_1 + 1)) l0_0 a0_1 a0_2) else (none))) = some (r1, r2) := by rw [if_pos rfl] at H; exact H
                  clear H
                  have H := H1
                  clear H1
                  obtain ⟨y113, hy113⟩ : ∃ y_ : List ByteArray, y_ = (([(⟨#[50, 51, 58, 53, 57, 58, 54, 48]⟩ : ByteArray), (⟨#[43]⟩ : ByteArray), (⟨#[82]⟩ : ByteArray)] : List ByteArray)) := ⟨_, rfl⟩
                  replace H : ((zic_write.f (⟨#[76, 101, 97, 112]⟩ : ByteArray) ((rd_T46 l0_0 x17_1).f0) y113).bind fun t116 => (if x2_1.size + t116.size ≤ 9223372036854775807 then (zic_Text.l0 k1 (x2_1 ++ t116) l0_0 (l0_0.length : Int) (wrap64 (x17_1 + 1)) l0_0 a0_1 a0_2) else (none))) = some (r1, r2) := by first | (rw [hy113]; with_reducible exact H) | (have H2_ := (Option.bind_some _ _).symm.trans H; rw [hy113]; with_reducible exact H2_) | (have H2_ := (Option.bind_some _ _).symm.trans H; with_reducible exact H2_) | with_reducible exact H | (rw [hy113]; exact H) | exact H
                  have Ny113 := Aside0.mk hy113
                  clear hy113
                  replace H := Option.bind_eq_some_iff.mp H
                  obtain ⟨t116, A340, H⟩ := H
                  replace H : (if x2_1.size + t116.size ≤ 9223372036854775807 then (zic_Text.l0 k1 (x2_1 ++ t116) l0_0 (l0_0.length : Int) (wrap64 (x17_1 + 1)) l0_0 a0_1 a0_2) else (none)) = some (r1, r2) := H
                  have A34 := Aside0.mk A340
                  clear A340
                  by_cases c35 : x2_1.size + t116.size ≤ 9223372036854775807
                  · rw [if_pos c35] at H
                    have c35b0 := eq_true c35
                    have c35b1 : decide (x2_1.size + t116.size ≤ 9223372036854775807) = true := decide_eq_true c35
                    try have c35b2 : (9223372036854775807 < x2_1.size + t116.size) = False := eq_false (Nat.not_lt.2 c35)
                    have H' := Aside0.mk H
                    clear H
                    have p103 : 0 ≤ (x17_1 : Int) := of_decide_eq_true (by first | (with_reducible assumption) | assumption)
                    have q103 : x17_1 < (l0_0.length : Int) := of_decide_eq_true (by first | (with_reducible assumption) | assumption)
                    obtain ⟨ad103, e103, hx103_0, hx103_1, hx103_2⟩ := at_T46 HR0_0.out x17_1 p103 q103
                    (try rw [← Nbq32.out] at hx103_2)
                    cases e103
                    replace hx103_0 := (HB.out.cell (World.block_lt_of_cell? w _ hx103_0)).trans hx103_0
                    replace hx103_1 := (HB.out.cell (World.block_lt_of_cell? w _ hx103_1)).trans hx103_1
                    replace hx103_2 := (HB.out.cell (World.block_lt_of_cell? w _ hx103_2)).trans hx103_2
                    replace p103 := eq_true p103
                    replace q103 := eq_true q103
                    go_wp2_with (first | ((with_reducible refine gate_dst (N := 5) rfl ?_); refine box_event ?hg (N := 5) ?hd (cs := #[.int .i64 0, .int .i64 0, .bool false]) (t := 46) ?hr ?_; (case hd => rfl); (case hg => rfl); (case hr => first | (go_simp; done) | (go_simp; rfl)); intro gb104 hg w36 hbox hb; have n0_ := Aside0.mk (blk_below (g := gb101) (o := .cells #[.slice (some ad103) l0_0.length c0_0, .bool a0_1, .int .i64 a0_2] 24 (0, 0)) (by (with_reducible repeat (first | refine blk_drewN ?_ _ | refine blk_drew ?_ | refine blk_alloc ?_ _)); exact BK101.out) hb); have n1_ := Aside0.mk (below_step (by repeat (first | (with_reducible first | exact HB.out | apply below_alloc | apply pw_below_drewN | apply below_drew1 | refine below_set ?_ GE101.out) | exact HB.out)) hb); have n2_ := Aside0.mk (hbox); have n3_ := Aside0.mk ((by rw [hg]; exact (below_size (by repeat (first | (with_reducible first | exact HB.out | apply below_alloc | apply pw_below_drewN | apply below_drew1 | refine below_set ?_ GE101.out) | exact HB.out))) : w.heap.size ≤ gb104)); have n4_ := Aside0.mk ((by rw [hg]; exact (below_size (by repeat (first | (with_reducible first | exact HB.out | apply below_alloc | apply pw_below_drewN | apply below_drew1 | refine below_set ?_ GE101.out) | exact HB.out))) : w.heap.size ≤ gb104)); have n5_ := Aside0.mk ((by rw [hg]; exact Nat.ne_of_lt (blk_lt (g := gb101) (o := .cells #[.slice (some ad103) l0_0.length c0_0, .bool a0_1, .int .i64 a0_2] 24 (0, 0)) (by (with_reducible repeat (first | refine blk_drewN ?_ _ | refine blk_drew ?_ | refine blk_alloc ?_ _)); exact BK101.out)) : gb101 ≠ gb104)); have n6_ := Aside0.mk ((by rw [hg]; exact Nat.ne_of_gt (blk_lt (g := gb101) (o := .cells #[.slice (some ad103) l0_0.length c0_0, .bool a0_1, .int .i64 a0_2] 24 (0, 0)) (by (with_reducible repeat (first | refine blk_drewN ?_ _ | refine blk_drew ?_ | refine blk_alloc ?_ _)); exact BK101.out)) : gb104 ≠ gb101)); clear BK101; clear HB; have BK101 := n0_; have HB := n1_; have BK104 := n2_; have GW104 := n3_; have GE104 := n4_; have NB101_104 := n5_; have NB104_101 := n6_; clear n0_ n1_ n2_ n3_ n4_ n5_ n6_; clear hb hbox hg; have hnb37 := NB104_101.out; have hnc37 := NB101_104.out; have hcz38_0 : w36.cell? ⟨gb104, 0, none⟩ = some (.int .i64 0) := (blk_cell BK104.out 0).trans rfl; have hcz38_1 : w36.cell? ⟨gb104, 1, none⟩ = some (.int .i64 0) := (blk_cell BK104.out 1).trans rfl; have hcz38_2 : w36.cell? ⟨gb104, 2, none⟩ = some (.bool false) := (blk_cell BK104.out 2).trans rfl; have hfz38_0 := blk_frozen BK104.out 0; have hfz38_1 := blk_frozen BK104.out 1; have hfz38_2 := blk_frozen BK104.out 2) | ((with_reducible refine gate_dst (N := 32) rfl ?_); refine Kd.R_lit Kd.string _ 9 ?hg (N := 32) ?hd (xs := ([(⟨#[50, 51, 58, 53, 57, 58, 54, 48]⟩ : ByteArray), (⟨#[43]⟩ : ByteArray), (⟨#[82]⟩ : ByteArray)] : List ByteArray)) (inner := [.string (⟨#[50, 51, 58, 53, 57, 58, 54, 48]⟩ : ByteArray), .string (⟨#[43]⟩ : ByteArray), .string (⟨#[82]⟩ : ByteArray)]) (ok := fun _ => True) (okp := fun _ => True) ?hr ?hp (fun _ hk => hk) trivial (Below.refl _ _) (Nat.le_refl _) (by simp) ?_; (case hd => rfl); (case hg => rfl); (case hr => first | (go_simp; done) | (go_simp; rfl)); (case hp => exact (Reps.one (show Kd.M Kd.string _ _ _ (⟨#[50, 51, 58, 53, 57, 58, 54, 48]⟩ : ByteArray) [.string (⟨#[50, 51, 58, 53, 57, 58, 54, 48]⟩ : ByteArray)] from rfl) (Reps.one (show Kd.M Kd.string _ _ _ (⟨#[43]⟩ : ByteArray) [.string (⟨#[43]⟩ : ByteArray)] from rfl) (Reps.one (show Kd.M Kd.string _ _ _ (⟨#[82]⟩ : ByteArray) [.string (⟨#[82]⟩ : ByteArray)] from rfl) (Reps.none _ _))))); intro v114 w39 ho40 hb hg_ hnew_; clear hg_ hnew_; (first | rw [← Ny113.out] at ho40 | (simp only [Int.reduceToNat] at ho40; rw [← Ny113.out] at ho40)); have n0_ := Aside0.mk (Kd.R_lower ho40 (below_size (by repeat (first | (with_reducible first | exact HB.out | apply below_alloc | apply pw_below_drewN | apply below_drew1 | refine below_set ?_ GE101.out | refine below_set ?_ GE104.out) | exact HB.out)))); have n1_ := Aside0.mk (blk_below (g := gb101) (o := .cells #[.slice (some ad103) l0_0.length c0_0, .bool a0_1, .int .i64 a0_2] 24 (0, 0)) (by (with_reducible repeat (first | refine blk_drewN ?_ _ | refine blk_drew ?_ | refine blk_alloc ?_ _)); refine blk_far ?_ NB101_104.out _; (with_reducible repeat (first | refine blk_drewN ?_ _ | refine blk_drew ?_ | refine blk_alloc ?_ _)); refine blk_far ?_ NB101_104.out _; (with_reducible repeat (first | refine blk_drewN ?_ _ | refine blk_drew ?_ | refine blk_alloc ?_ _)); refine blk_far ?_ NB101_104.out _; (with_reducible repeat (first | refine blk_drewN ?_ _ | refine blk_drew ?_ | refine blk_alloc ?_ _)); exact BK101.out) hb); have n2_ := Aside0.mk (blk_below (g := gb104) (o := .cells #[.int .i64 ((rd_T46 l0_0 x17_1).f0), .int .i64 ((rd_T46 l0_0 x17_1).f1), .bool true] 46 (0, 0)) (by (with_reducible repeat (first | refine blk_drewN ?_ _ | refine blk_drew ?_ | refine blk_alloc ?_ _)); refine blk_put (cs := #[.int .i64 ((rd_T46 l0_0 x17_1).f0), .int .i64 ((rd_T46 l0_0 x17_1).f1), .bool false]) ?_ 2 _ rfl; (with_reducible repeat (first | refine blk_drewN ?_ _ | refine blk_drew ?_ | refine blk_alloc ?_ _)); refine blk_put (cs := #[.int .i64 ((rd_T46 l0_0 x17_1).f0), .int .i64 0, .bool false]) ?_ 1 _ rfl; (with_reducible repeat (first | refine blk_drewN ?_ _ | refine blk_drew ?_ | refine blk_alloc ?_ _)); refine blk_put (cs := #[.int .i64 0, .int .i64 0, .bool false]) ?_ 0 _ rfl; (with_reducible repeat (first | refine blk_drewN ?_ _ | refine blk_drew ?_ | refine blk_alloc ?_ _)); exact BK104.out) hb); have n3_ := Aside0.mk (below_step (by repeat (first | (with_reducible first | exact HB.out | apply below_alloc | apply pw_below_drewN | apply below_drew1 | refine below_set ?_ GE101.out | refine below_set ?_ GE104.out) | exact HB.out)) hb); clear BK101; clear BK104; clear HB; have HO115 := n0_; have BK101 := n1_; have BK104 := n2_; have HB := n3_; clear n0_ n1_ n2_ n3_; clear hb ho40; obtain ⟨Ao41, co41, eo41⟩ := Kd.R_slice HO115.out; subst eo41) | ((with_reducible refine gate_callee (f := 28) rfl ?_); refine goesL_ (some 33) rfl rfl Tryd.func28 (by kernel_rfl) rfl #[.string (⟨#[76, 101, 97, 112]⟩ : ByteArray), .int .i64 ((rd_T46 l0_0 x17_1).f0), .slice Ao41 y113.length co41] rfl (by (try simp only [List.map_toArray, List.map_cons, List.map_nil]); first | done | rfl | (simp only [List.length_drop, List.length_take]; rfl)) ?_; (with_reducible refine (zic_write.calls (⟨#[76, 101, 97, 112]⟩ : ByteArray) ((rd_T46 l0_0 x17_1).f0) _ _ y113 t116 _ ?side1 ?side2 A34.out (hG := by exact gl_below HG.out (by repeat (first | (with_reducible first | exact HB.out | apply below_alloc | apply pw_below_drewN | apply below_drew1 | refine below_set ?_ (Aside0.out (by with_reducible assumption))) | exact HB.out)))).mono ?_); (case side1 => repeat (first | exact (Kd.R_reads' HO115.out).2.2 | (with_reducible refine Kd.C_alloc ?_ _) | (with_reducible refine Kd.C_drewN ?_ _) | (with_reducible refine Kd.C_drew ?_))); (case side2 => exact (Kd.R_reads' HO115.out).2.1); rintro e w42 ⟨rfl, hb⟩; refine ⟨_, rfl, ?_⟩; have n0_ := Aside0.mk (Kd.R_below (by (with_reducible repeat (first | apply Kd.R_alloc | apply Kd.R_drewN | apply Kd.R_drew)); exact HO115.out) hb); have n1_ := Aside0.mk (blk_below (g := gb101) (o := .cells #[.slice (some ad103) l0_0.length c0_0, .bool a0_1, .int .i64 a0_2] 24 (0, 0)) (by (with_reducible repeat (first | refine blk_drewN ?_ _ | refine blk_drew ?_ | refine blk_alloc ?_ _)); exact BK101.out) hb); have n2_ := Aside0.mk (blk_below (g := gb104) (o := .cells #[.int .i64 ((rd_T46 l0_0 x17_1).f0), .int .i64 ((rd_T46 l0_0 x17_1).f1), .bool true] 46 (0, 0)) (by (with_reducible repeat (first | refine blk_drewN ?_ _ | refine blk_drew ?_ | refine blk_alloc ?_ _)); exact BK104.out) hb); have n3_ := Aside0.mk (below_step (by repeat (first | (with_reducible first | exact HB.out | apply below_alloc | apply pw_below_drewN | apply below_drew1 | refine below_set ?_ GE101.out | refine below_set ?_ GE104.out) | exact HB.out)) hb); clear HO115; clear BK101; clear BK104; clear HB; have HO115 := n0_; have BK101 := n1_; have BK104 := n2_; have HB := n3_; clear n0_ n1_ n2_ n3_; (try clear hb); (try clear hb2); (try clear hk); (try clear hi)))
                    go_roundg k1
                    case measure => have := HK1.out; omega
                    case rel => exact ⟨(x2_1 ++ t116), (wrap64 (x17_1 + 1)), (by first | rfl | (simp; done) | (simp [*]; done)), (by first | rfl | (simp; done) | (simp [*]; done)), H', ⟨by have := HK1.out; omega⟩, ⟨by (with_reducible repeat (first | refine blk_drewN ?_ _ | refine blk_drew ?_ | refine blk_alloc ?_ _)); exact BK101.out⟩, ⟨by repeat (first | (with_reducible first | exact HB.out | apply below_alloc | apply pw_below_drewN | apply below_drew1 | refine below_set ?_ GE101.out | refine below_set ?_ GE104.out) | exact HB.out)⟩⟩
                  · rw [if_neg c35] at H
                    exact absurd H (by simp)
                · replace c33 := Bool.eq_false_iff.mpr c33
                  subst c33
                  have H1 : ((zic_write.f (⟨#[76, 101, 97, 112]⟩ : ByteArray) ((rd_T46 l0_0 x17_1).f0) (([(⟨#[50, 51, 58, 53, 57, 58, 54, 48]⟩ : ByteArray), (⟨#[43]⟩ : ByteArray), (⟨#[83]⟩ : ByteArray)] : List ByteArray))).bind fun t120 => (if x2_1.size + t120.size ≤ 9223372036854775807 then (zic_Text.l0 k1 (x2_1 ++ t120) l0_0 (l0_0.length : Int) (wrap64 (x17_1 + 1)) l0_0 a0_1 a0_2) else (none))) = some (r1, r2) := by rw [if_neg (show ¬ (false = true) by decide)] at H; exact H
                  clear H
                  have H := H1
                  clear H1
                  obtain ⟨y117, hy117⟩ : ∃ y_ : List ByteArray, y_ = (([(⟨#[50, 51, 58, 53, 57, 58, 54, 48]⟩ : ByteArray), (⟨#[43]⟩ : ByteArray), (⟨#[83]⟩ : ByteArray)] : List ByteArray)) := ⟨_, rfl⟩
                  replace H : ((zic_write.f (⟨#[76, 101, 97, 112]⟩ : ByteArray) ((rd_T46 l0_0 x17_1).f0) y117).bind fun t120 => (if x2_1.size + t120.size ≤ 9223372036854775807 then (zic_Text.l0 k1 (x2_1 ++ t120) l0_0 (l0_0.length : Int) (wrap64 (x17_1 + 1)) l0_0 a0_1 a0_2) else (none))) = some (r1, r2) := by first | (rw [hy117]; with_reducible exact H) | (have H2_ := (Option.bind_some _ _).symm.trans H; rw [hy117]; with_reducible exact H2_) | (have H2_ := (Option.bind_some _ _).symm.trans H; with_reducible exact H2_) | with_reducible exact H | (rw [hy117]; exact H) | exact H
                  have Ny117 := Aside0.mk hy117
                  clear hy117
                  replace H := Option.bind_eq_some_iff.mp H
                  obtain ⟨t120, A430, H⟩ := H
                  replace H : (if x2_1.size + t120.size ≤ 9223372036854775807 then (zic_Text.l0 k1 (x2_1 ++ t120) l0_0 (l0_0.length : Int) (wrap64 (x17_1 + 1)) l0_0 a0_1 a0_2) else (none)) = some (r1, r2) := H
                  have A43 := Aside0.mk A430
                  clear A430
                  by_cases c44 : x2_1.size + t120.size ≤ 9223372036854775807
                  · rw [if_pos c44] at H
                    have c44b0 := eq_true c44
                    have c44b1 : decide (x2_1.size + t120.size ≤ 9223372036854775807) = true := decide_eq_true c44
                    try have c44b2 : (9223372036854775807 < x2_1.size + t120.size) = False := eq_false (Nat.not_lt.2 c44)
                    have H' := Aside0.mk H
                    clear H
                    have p103 : 0 ≤ (x17_1 : Int) := of_decide_eq_true (by first | (with_reducible assumption) | assumption)
                    have q103 : x17_1 < (l0_0.length : Int) := of_decide_eq_true (by first | (with_reducible assumption) | assumption)
                    obtain ⟨ad103, e103, hx103_0, hx103_1, hx103_2⟩ := at_T46 HR0_0.out x17_1 p103 q103
                    (try rw [← Nbq32.out] at hx103_2)
                    cases e103
                    replace hx103_0 := (HB.out.cell (World.block_lt_of_cell? w _ hx103_0)).trans hx103_0
                    replace hx103_1 := (HB.out.cell (World.block_lt_of_cell? w _ hx103_1)).trans hx103_1
                    replace hx103_2 := (HB.out.cell (World.block_lt_of_cell? w _ hx103_2)).trans hx103_2
                    replace p103 := eq_true p103
                    replace q103 := eq_true q103
                    go_wp2_with (first | ((with_reducible refine gate_dst (N := 5) rfl ?_); refine box_event ?hg (N := 5) ?hd (cs := #[.int .i64 0, .int .i64 0, .bool false]) (t := 46) ?hr ?_; (case hd => rfl); (case hg => rfl); (case hr => first | (go_simp; done) | (go_simp; rfl)); intro gb104 hg w45 hbox hb; have n0_ := Aside0.mk (blk_below (g := gb101) (o := .cells #[.slice (some ad103) l0_0.length c0_0, .bool a0_1, .int .i64 a0_2] 24 (0, 0)) (by (with_reducible repeat (first | refine blk_drewN ?_ _ | refine blk_drew ?_ | refine blk_alloc ?_ _)); exact BK101.out) hb); have n1_ := Aside0.mk (below_step (by repeat (first | (with_reducible first | exact HB.out | apply below_alloc | apply pw_below_drewN | apply below_drew1 | refine below_set ?_ GE101.out) | exact HB.out)) hb); have n2_ := Aside0.mk (hbox); have n3_ := Aside0.mk ((by rw [hg]; exact (below_size (by repeat (first | (with_reducible first | exact HB.out | apply below_alloc | apply pw_below_drewN | apply below_drew1 | refine below_set ?_ GE101.out) | exact HB.out))) : w.heap.size ≤ gb104)); have n4_ := Aside0.mk ((by rw [hg]; exact (below_size (by repeat (first | (with_reducible first | exact HB.out | apply below_alloc | apply pw_below_drewN | apply below_drew1 | refine below_set ?_ GE101.out) | exact HB.out))) : w.heap.size ≤ gb104)); have n5_ := Aside0.mk ((by rw [hg]; exact Nat.ne_of_lt (blk_lt (g := gb101) (o := .cells #[.slice (some ad103) l0_0.length c0_0, .bool a0_1, .int .i64 a0_2] 24 (0, 0)) (by (with_reducible repeat (first | refine blk_drewN ?_ _ | refine blk_drew ?_ | refine blk_alloc ?_ _)); exact BK101.out)) : gb101 ≠ gb104)); have n6_ := Aside0.mk ((by rw [hg]; exact Nat.ne_of_gt (blk_lt (g := gb101) (o := .cells #[.slice (some ad103) l0_0.length c0_0, .bool a0_1, .int .i64 a0_2] 24 (0, 0)) (by (with_reducible repeat (first | refine blk_drewN ?_ _ | refine blk_drew ?_ | refine blk_alloc ?_ _)); exact BK101.out)) : gb104 ≠ gb101)); clear BK101; clear HB; have BK101 := n0_; have HB := n1_; have BK104 := n2_; have GW104 := n3_; have GE104 := n4_; have NB101_104 := n5_; have NB104_101 := n6_; clear n0_ n1_ n2_ n3_ n4_ n5_ n6_; clear hb hbox hg; have hnb46 := NB104_101.out; have hnc46 := NB101_104.out; have hcz47_0 : w45.cell? ⟨gb104, 0, none⟩ = some (.int .i64 0) := (blk_cell BK104.out 0).trans rfl; have hcz47_1 : w45.cell? ⟨gb104, 1, none⟩ = some (.int .i64 0) := (blk_cell BK104.out 1).trans rfl; have hcz47_2 : w45.cell? ⟨gb104, 2, none⟩ = some (.bool false) := (blk_cell BK104.out 2).trans rfl; have hfz47_0 := blk_frozen BK104.out 0; have hfz47_1 := blk_frozen BK104.out 1; have hfz47_2 := blk_frozen BK104.out 2) | ((with_reducible refine gate_dst (N := 32) rfl ?_); refine Kd.R_lit Kd.string _ 9 ?hg (N := 32) ?hd (xs := ([(⟨#[50, 51, 58, 53, 57, 58, 54, 48]⟩ : ByteArray), (⟨#[43]⟩ : ByteArray), (⟨#[83]⟩ : ByteArray)] : List ByteArray)) (inner := [.string (⟨#[50, 51, 58, 53, 57, 58, 54, 48]⟩ : ByteArray), .string (⟨#[43]⟩ : ByteArray), .string (⟨#[83]⟩ : ByteArray)]) (ok := fun _ => True) (okp := fun _ => True) ?hr ?hp (fun _ hk => hk) trivial (Below.refl _ _) (Nat.le_refl _) (by simp) ?_; (case hd => rfl); (case hg => rfl); (case hr => first | (go_simp; done) | (go_simp; rfl)); (case hp => exact (Reps.one (show Kd.M Kd.string _ _ _ (⟨#[50, 51, 58, 53, 57, 58, 54, 48]⟩ : ByteArray) [.string (⟨#[50, 51, 58, 53, 57, 58, 54, 48]⟩ : ByteArray)] from rfl) (Reps.one (show Kd.M Kd.string _ _ _ (⟨#[43]⟩ : ByteArray) [.string (⟨#[43]⟩ : ByteArray)] from rfl) (Reps.one (show Kd.M Kd.string _ _ _ (⟨#[83]⟩ : ByteArray) [.string (⟨#[83]⟩ : ByteArray)] from rfl) (Reps.none _ _))))); intro v118 w48 ho49 hb hg_ hnew_; clear hg_ hnew_; (first | rw [← Ny117.out] at ho49 | (simp only [Int.reduceToNat] at ho49; rw [← Ny117.out] at ho49)); have n0_ := Aside0.mk (Kd.R_lower ho49 (below_size (by repeat (first | (with_reducible first | exact HB.out | apply below_alloc | apply pw_below_drewN | apply below_drew1 | refine below_set ?_ GE101.out | refine below_set ?_ GE104.out) | exact HB.out)))); have n1_ := Aside0.mk (blk_below (g := gb101) (o := .cells #[.slice (some ad103) l0_0.length c0_0, .bool a0_1, .int .i64 a0_2] 24 (0, 0)) (by (with_reducible repeat (first | refine blk_drewN ?_ _ | refine blk_drew ?_ | refine blk_alloc ?_ _)); refine blk_far ?_ NB101_104.out _; (with_reducible repeat (first | refine blk_drewN ?_ _ | refine blk_drew ?_ | refine blk_alloc ?_ _)); refine blk_far ?_ NB101_104.out _; (with_reducible repeat (first | refine blk_drewN ?_ _ | refine blk_drew ?_ | refine blk_alloc ?_ _)); refine blk_far ?_ NB101_104.out _; (with_reducible repeat (first | refine blk_drewN ?_ _ | refine blk_drew ?_ | refine blk_alloc ?_ _)); exact BK101.out) hb); have n2_ := Aside0.mk (blk_below (g := gb104) (o := .cells #[.int .i64 ((rd_T46 l0_0 x17_1).f0), .int .i64 ((rd_T46 l0_0 x17_1).f1), .bool false] 46 (0, 0)) (by (with_reducible repeat (first | refine blk_drewN ?_ _ | refine blk_drew ?_ | refine blk_alloc ?_ _)); refine blk_put (cs := #[.int .i64 ((rd_T46 l0_0 x17_1).f0), .int .i64 ((rd_T46 l0_0 x17_1).f1), .bool false]) ?_ 2 _ rfl; (with_reducible repeat (first | refine blk_drewN ?_ _ | refine blk_drew ?_ | refine blk_alloc ?_ _)); refine blk_put (cs := #[.int .i64 ((rd_T46 l0_0 x17_1).f0), .int .i64 0, .bool false]) ?_ 1 _ rfl; (with_reducible repeat (first | refine blk_drewN ?_ _ | refine blk_drew ?_ | refine blk_alloc ?_ _)); refine blk_put (cs := #[.int .i64 0, .int .i64 0, .bool false]) ?_ 0 _ rfl; (with_reducible repeat (first | refine blk_drewN ?_ _ | refine blk_drew ?_ | refine blk_alloc ?_ _)); exact BK104.out) hb); have n3_ := Aside0.mk (below_step (by repeat (first | (with_reducible first | exact HB.out | apply below_alloc | apply pw_below_drewN | apply below_drew1 | refine below_set ?_ GE101.out | refine below_set ?_ GE104.out) | exact HB.out)) hb); clear BK101; clear BK104; clear HB; have HO119 := n0_; have BK101 := n1_; have BK104 := n2_; have HB := n3_; clear n0_ n1_ n2_ n3_; clear hb ho49; obtain ⟨Ao50, co50, eo50⟩ := Kd.R_slice HO119.out; subst eo50) | ((with_reducible refine gate_callee (f := 28) rfl ?_); refine goesL_ (some 33) rfl rfl Tryd.func28 (by kernel_rfl) rfl #[.string (⟨#[76, 101, 97, 112]⟩ : ByteArray), .int .i64 ((rd_T46 l0_0 x17_1).f0), .slice Ao50 y117.length co50] rfl (by (try simp only [List.map_toArray, List.map_cons, List.map_nil]); first | done | rfl | (simp only [List.length_drop, List.length_take]; rfl)) ?_; (with_reducible refine (zic_write.calls (⟨#[76, 101, 97, 112]⟩ : ByteArray) ((rd_T46 l0_0 x17_1).f0) _ _ y117 t120 _ ?side1 ?side2 A43.out (hG := by exact gl_below HG.out (by repeat (first | (with_reducible first | exact HB.out | apply below_alloc | apply pw_below_drewN | apply below_drew1 | refine below_set ?_ (Aside0.out (by with_reducible assumption))) | exact HB.out)))).mono ?_); (case side1 => repeat (first | exact (Kd.R_reads' HO119.out).2.2 | (with_reducible refine Kd.C_alloc ?_ _) | (with_reducible refine Kd.C_drewN ?_ _) | (with_reducible refine Kd.C_drew ?_))); (case side2 => exact (Kd.R_reads' HO119.out).2.1); rintro e w51 ⟨rfl, hb⟩; refine ⟨_, rfl, ?_⟩; have n0_ := Aside0.mk (Kd.R_below (by (with_reducible repeat (first | apply Kd.R_alloc | apply Kd.R_drewN | apply Kd.R_drew)); exact HO119.out) hb); have n1_ := Aside0.mk (blk_below (g := gb101) (o := .cells #[.slice (some ad103) l0_0.length c0_0, .bool a0_1, .int .i64 a0_2] 24 (0, 0)) (by (with_reducible repeat (first | refine blk_drewN ?_ _ | refine blk_drew ?_ | refine blk_alloc ?_ _)); exact BK101.out) hb); have n2_ := Aside0.mk (blk_below (g := gb104) (o := .cells #[.int .i64 ((rd_T46 l0_0 x17_1).f0), .int .i64 ((rd_T46 l0_0 x17_1).f1), .bool false] 46 (0, 0)) (by (with_reducible repeat (first | refine blk_drewN ?_ _ | refine blk_drew ?_ | refine blk_alloc ?_ _)); exact BK104.out) hb); have n3_ := Aside0.mk (below_step (by repeat (first | (with_reducible first | exact HB.out | apply below_alloc | apply pw_below_drewN | apply below_drew1 | refine below_set ?_ GE101.out | refine below_set ?_ GE104.out) | exact HB.out)) hb); clear HO119; clear BK101; clear BK104; clear HB; have HO119 := n0_; have BK101 := n1_; have BK104 := n2_; have HB := n3_; clear n0_ n1_ n2_ n3_; (try clear hb); (try clear hb2); (try clear hk); (try clear hi)))
                    go_roundg k1
                    case measure => have := HK1.out; omega
                    case rel => exact ⟨(x2_1 ++ t120), (wrap64 (x17_1 + 1)), (by first | rfl | (simp; done) | (simp [*]; done)), (by first | rfl | (simp; done) | (simp [*]; done)), H', ⟨by have := HK1.out; omega⟩, ⟨by (with_reducible repeat (first | refine blk_drewN ?_ _ | refine blk_drew ?_ | refine blk_alloc ?_ _)); exact BK101.out⟩, ⟨by repeat (first | (with_reducible first | exact HB.out | apply below_alloc | apply pw_below_drewN | apply below_drew1 | refine below_set ?_ GE101.out | refine below_set ?_ GE104.out) | exact HB.out)⟩⟩
                  · rw [if_neg c44] at H
                    exact absurd H (by simp)
            · rw [if_neg c10] at H
              exact absurd H (by simp)
          · rw [if_neg c9] at H
            exact absurd H (by simp)
        · rw [if_neg c8] at H
          have c8b0 : decide (x17_1 < (l0_0.length : Int)) = false := decide_eq_false c8
          clear c8
          by_cases c52 : a0_1 = true
          · subst c52
            have H1 : ((stamp_Text.f (wrap64 (Int.tdiv a0_2 86400)) (Int.tmod a0_2 86400)).bind fun bt121 => (if 11 ≤ 19 then (if 19 ≤ (bt121.1.size : Int) then ((zic_write.f (⟨#[69, 120, 112, 105, 114, 101, 115]⟩ : ByteArray) (wrap64 (Int.tdiv a0_2 86400)) (([bt121.1.extract 11 19] : List ByteArray))).bind fun t126 => (if x2_1.size + t126.size ≤ 9223372036854775807 then (some (x2_1 ++ t126, true)) else (none))) else (none)) else (none))) = some (r1, r2) := by rw [if_pos rfl] at H; exact H
            clear H
            have H := H1
            clear H1
            replace H := Option.bind_eq_some_iff.mp H
            obtain ⟨⟨t121, t122⟩, A530, H⟩ := H
            replace H : (if 11 ≤ 19 then (if 19 ≤ (t121.size : Int) then ((zic_write.f (⟨#[69, 120, 112, 105, 114, 101, 115]⟩ : ByteArray) (wrap64 (Int.tdiv a0_2 86400)) (([t121.extract 11 19] : List ByteArray))).bind fun t126 => (if x2_1.size + t126.size ≤ 9223372036854775807 then (some (x2_1 ++ t126, true)) else (none))) else (none)) else (none)) = some (r1, r2) := H
            have A53 := Aside0.mk A530
            clear A530
            by_cases c54 : 11 ≤ 19
            · rw [if_pos c54] at H
              have c54b0 := eq_true c54
              have c54b1 : decide (11 ≤ 19) = true := decide_eq_true c54
              clear c54
              by_cases c55 : 19 ≤ (t121.size : Int)
              · rw [if_pos c55] at H
                have c55b0 := eq_true c55
                have c55b1 : decide (19 ≤ (t121.size : Int)) = true := decide_eq_true c55
                clear c55
                obtain ⟨y123, hy123⟩ : ∃ y_ : List ByteArray, y_ = (([t121.extract 11 19] : List ByteArray)) := ⟨_, rfl⟩
                replace H : ((zic_write.f (⟨#[69, 120, 112, 105, 114, 101, 115]⟩ : ByteArray) (wrap64 (Int.tdiv a0_2 86400)) y123).bind fun t126 => (if x2_1.size + t126.size ≤ 9223372036854775807 then (some (x2_1 ++ t126, true)) else (none))) = some (r1, r2) := by first | (rw [hy123]; with_reducible exact H) | (have H2_ := (Option.bind_some _ _).symm.trans H; rw [hy123]; with_reducible exact H2_) | (have H2_ := (Option.bind_some _ _).symm.trans H; with_reducible exact H2_) | with_reducible exact H | (rw [hy123]; exact H) | exact H
                have Ny123 := Aside0.mk hy123
                clear hy123
                replace H := Option.bind_eq_some_iff.mp H
                obtain ⟨t126, A560, H⟩ := H
                replace H : (if x2_1.size + t126.size ≤ 9223372036854775807 then (some (x2_1 ++ t126, true)) else (none)) = some (r1, r2) := H
                have A56 := Aside0.mk A560
                clear A560
                by_cases c57 : x2_1.size + t126.size ≤ 9223372036854775807
                · rw [if_pos c57] at H
                  have c57b0 := eq_true c57
                  have c57b1 : decide (x2_1.size + t126.size ≤ 9223372036854775807) = true := decide_eq_true c57
                  try have c57b2 : (9223372036854775807 < x2_1.size + t126.size) = False := eq_false (Nat.not_lt.2 c57)
                  simp only [Option.some.injEq, Prod.mk.injEq] at H
                  obtain ⟨rfl, rfl⟩ := H
                  have hcz58_0 : wr.cell? ⟨gb101, 0, none⟩ = some (.slice A0_0 l0_0.length c0_0) := (blk_cell BK101.out 0).trans rfl
                  have hcz58_1 : wr.cell? ⟨gb101, 1, none⟩ = some (.bool true) := (blk_cell BK101.out 1).trans rfl
                  have hcz58_2 : wr.cell? ⟨gb101, 2, none⟩ = some (.int .i64 a0_2) := (blk_cell BK101.out 2).trans rfl
                  have hfz58_0 := blk_frozen BK101.out 0
                  have hfz58_1 := blk_frozen BK101.out 1
                  have hfz58_2 := blk_frozen BK101.out 2
                  try go_wp2_with (first | ((with_reducible refine gate_callee (f := 29) rfl ?_); refine goesL_ (some 45) rfl rfl Tryd.func29 (by kernel_rfl) rfl #[.int .i64 (wrap64 (Int.tdiv a0_2 86400)), .int .i64 (Int.tmod a0_2 86400)] rfl (by (try simp only [List.map_toArray, List.map_cons, List.map_nil]); first | done | rfl | (simp only [List.length_drop, List.length_take]; rfl)) ?_; (with_reducible refine (stamp_Text.calls (wrap64 (Int.tdiv a0_2 86400)) (Int.tmod a0_2 86400) t121 t122 _ A53.out).mono ?_); rintro e w59 ⟨rfl, hb⟩; refine ⟨_, rfl, ?_⟩; have n0_ := Aside0.mk (blk_below (g := gb101) (o := .cells #[.slice A0_0 l0_0.length c0_0, .bool true, .int .i64 a0_2] 24 (0, 0)) (by (with_reducible repeat (first | refine blk_drewN ?_ _ | refine blk_drew ?_ | refine blk_alloc ?_ _)); exact BK101.out) hb); have n1_ := Aside0.mk (below_step (by repeat (first | (with_reducible first | exact HB.out | apply below_alloc | apply pw_below_drewN | apply below_drew1 | refine below_set ?_ GE101.out) | exact HB.out)) hb); clear BK101; clear HB; have BK101 := n0_; have HB := n1_; clear n0_ n1_; (try clear hb); (try clear hb2); (try clear hk); (try clear hi)))
                  have n0_ := Aside0.mk (blk_drew BK101.out)
                  have n1_ := Aside0.mk (below_drew1 HB.out)
                  clear BK101
                  clear HB
                  have BK101 := n0_
                  have HB := n1_
                  clear n0_ n1_
                  refine start_ (n := 10) (S := fun w' => w'.cell? ⟨gb101, 0, none⟩ = some (.slice A0_0 l0_0.length c0_0) ∧ w'.cell? ⟨gb101, 1, none⟩ = some (.bool true) ∧ w'.cell? ⟨gb101, 2, none⟩ = some (.int .i64 a0_2)) (ds := []) #[false, false, false, false, false, false, false, false, false, false] (by kernel_rfl) rfl rfl ⟨(blk_cell BK101.out 0).trans rfl, (blk_cell BK101.out 1).trans rfl, (blk_cell BK101.out 2).trans rfl⟩ (fun hHeld => ?_); refine with_tabW zic_Text.tab15 zic_Text.bits15 (fun HT_ HW_ => ?_)
                  generalize w59.drew = w60 at BK101 HB hHeld ⊢
                  refine pure_ (i := 0) (N := some 48) (v := ?_) (a' := ?_) #[true, false, false, false, false, false, false, false, false, false] rfl rfl (any_of HT_.out (by kernel_rfl)) (fun _ _ _ h => h) (Or.inl ⟨by rfl, ?_⟩) ?_ ?_
                  rotate_left
                  · intro w'
                    go_simp
                    with_reducible rfl
                  rotate_left
                  · simp only [Act.put, List.setIfInBounds_toArray, List.set_cons_zero, List.set_cons_succ, i64_w, i32_w]
                    rfl
                  refine pure_ (i := 1) (N := some 49) (v := ?_) (a' := ?_) #[true, true, false, false, false, false, false, false, false, false] rfl rfl (any_of HT_.out (by kernel_rfl)) (fun _ _ _ h => h) (Or.inl ⟨by rfl, ?_⟩) ?_ ?_
                  rotate_left
                  · intro w'
                    go_simp
                    with_reducible rfl
                  rotate_left
                  · simp only [Act.put, List.setIfInBounds_toArray, List.set_cons_zero, List.set_cons_succ, i64_w, i32_w]
                    rfl
                  refine pure_ (i := 4) (N := some 52) (v := ?_) (a' := ?_) #[true, true, false, false, true, false, false, false, false, false] rfl rfl (any_of HT_.out (by kernel_rfl)) (fun _ _ _ h => h) (Or.inl ⟨by rfl, ?_⟩) ?_ ?_
                  rotate_left
                  · intro w'
                    go_simp
                    with_reducible rfl
                  rotate_left
                  · simp only [Act.put, List.setIfInBounds_toArray, List.set_cons_zero, List.set_cons_succ, i64_w, i32_w]
                    rfl
                  refine pure_ (i := 5) (N := some 53) (v := ?_) (a' := ?_) #[true, true, false, false, true, true, false, false, false, false] rfl rfl (any_of HT_.out (by kernel_rfl)) (fun _ _ _ h => h) (Or.inl ⟨by rfl, ?_⟩) ?_ ?_
                  rotate_left
                  · intro w'
                    go_simp
                    with_reducible rfl
                  rotate_left
                  · simp only [Act.put, List.setIfInBounds_toArray, List.set_cons_zero, List.set_cons_succ, i64_w, i32_w]
                    rfl
                  refine take_ (i := 2) (N := some 50) (v := ?_) (a' := ?_) #[true, true, true, false, true, true, false, false, false, false] rfl rfl (take_ofW HT_.out HW_.out (by kernel_rfl)) (fun _ _ _ h => h) (Or.inl ⟨by rfl, ?_⟩) hHeld ?_ ?_
                  rotate_left
                  · rintro w' ⟨s0, s1, s2⟩
                    go_simp
                    with_reducible rfl
                  rotate_left
                  · simp only [Act.put, List.setIfInBounds_toArray, List.set_cons_zero, List.set_cons_succ, i64_w, i32_w]
                    rfl
                  refine pure_ (i := 3) (N := some 51) (v := ?_) (a' := ?_) #[true, true, true, true, true, true, false, false, false, false] rfl rfl (any_of HT_.out (by kernel_rfl)) (fun _ _ _ h => h) (Or.inl ⟨by rfl, ?_⟩) ?_ ?_
                  rotate_left
                  · intro w'
                    go_simp
                    with_reducible rfl
                  rotate_left
                  · simp only [Act.put, List.setIfInBounds_toArray, List.set_cons_zero, List.set_cons_succ, i64_w, i32_w]
                    rfl
                  refine one_ (i := 6) (N := some 54) #[true, true, true, true, true, true, true, false, false, false] rfl rfl (one_of HT_.out (by kernel_rfl)) (by decide) (fun K hK => ?_)
                  refine Kd.R_lit_step Kd.string _ 9 ?hg (N := 54) ?hd (xs := ([t121.extract 11 19] : List ByteArray)) (inner := [.string (t121.extract 11 19)]) (ok := fun _ => True) (okp := fun _ => True) ?hr ?hp (fun _ hk => hk) trivial (Below.refl _ _) (Nat.le_refl _) (by simp) ?_; (case hd => rfl); (case hg => rfl); (case hr => first | (go_simp; done) | (go_simp; rfl)); (case hp => exact (Reps.one (show Kd.M Kd.string _ _ _ (t121.extract 11 19) [.string (t121.extract 11 19)] from rfl) (Reps.none _ _)))
                  intro v124 w61 ho62 hb hg_ hnew_
                  clear hg_ hnew_
                  (first | rw [← Ny123.out] at ho62 | (simp only [Int.reduceToNat] at ho62; rw [← Ny123.out] at ho62))
                  have n0_ := Aside0.mk (Kd.R_lower ho62 (below_size (by repeat (first | (with_reducible first | exact HB.out | apply below_alloc | apply pw_below_drewN | apply below_drew1 | refine below_set ?_ GE101.out) | exact HB.out))))
                  have n1_ := Aside0.mk (blk_below (g := gb101) (o := .cells #[.slice A0_0 l0_0.length c0_0, .bool true, .int .i64 a0_2] 24 (0, 0)) (by (with_reducible repeat (first | refine blk_drewN ?_ _ | refine blk_drew ?_ | refine blk_alloc ?_ _)); exact BK101.out) hb)
                  have n2_ := Aside0.mk (below_step (by repeat (first | (with_reducible first | exact HB.out | apply below_alloc | apply pw_below_drewN | apply below_drew1 | refine below_set ?_ GE101.out) | exact HB.out)) hb)
                  clear BK101
                  clear HB
                  have HO125 := n0_
                  have BK101 := n1_
                  have HB := n2_
                  clear n0_ n1_ n2_
                  clear hb ho62
                  obtain ⟨Ao63, co63, eo63⟩ := Kd.R_slice HO125.out
                  (first | subst eo63 | (injection eo63 with f1_ f2_ f3_; have f4_ := f1_.symm; have f5_ := f3_.symm; clear f1_ f2_ f3_; subst f4_; subst f5_))
                  refine hK.out _ _ ⟨(blk_cell BK101.out 0).trans rfl, (blk_cell BK101.out 1).trans rfl, (blk_cell BK101.out 2).trans rfl⟩ (fun hHeld => ?_)
                  clear hK K
                  refine norm_ (a' := ?_) ?_ ?_
                  rotate_left
                  · show Act.put _ (some 54) _ = _
                    simp only [Act.put, List.setIfInBounds_toArray, List.set_cons_zero, List.set_cons_succ, i64_w, i32_w]
                    rfl
                  refine one_ (i := 7) (N := some 55) #[true, true, true, true, true, true, true, true, false, false] rfl rfl (one_of HT_.out (by kernel_rfl)) (by decide) (fun K hK => ?_)
                  refine goes_ Tryd.func28 (by kernel_rfl) rfl #[.string (⟨#[69, 120, 112, 105, 114, 101, 115]⟩ : ByteArray), .int .i64 (wrap64 (Int.tdiv a0_2 86400)), .slice Ao63 y123.length co63] (by rfl) rfl rfl (by (try simp only [List.map_toArray, List.map_cons, List.map_nil]); first | done | rfl | (simp only [List.length_drop, List.length_take]; rfl)) ?_
                  with_reducible refine (zic_write.calls (⟨#[69, 120, 112, 105, 114, 101, 115]⟩ : ByteArray) (wrap64 (Int.tdiv a0_2 86400)) _ _ y123 t126 _ ?side1 ?side2 A56.out (hG := by exact gl_below HG.out (by repeat (first | (with_reducible first | exact HB.out | apply below_alloc | apply pw_below_drewN | apply below_drew1 | refine below_set ?_ (Aside0.out (by with_reducible assumption))) | exact HB.out)))).mono ?_
                  (case side1 => repeat (first | exact (Kd.R_reads' HO125.out).2.2 | (with_reducible refine Kd.C_alloc ?_ _) | (with_reducible refine Kd.C_drewN ?_ _) | (with_reducible refine Kd.C_drew ?_)))
                  (case side2 => exact (Kd.R_reads' HO125.out).2.1)
                  rintro e w64 ⟨rfl, hb⟩
                  refine ⟨_, rfl, ?_⟩
                  have n0_ := Aside0.mk (Kd.R_below (by (with_reducible repeat (first | apply Kd.R_alloc | apply Kd.R_drewN | apply Kd.R_drew)); exact HO125.out) hb)
                  have n1_ := Aside0.mk (blk_below (g := gb101) (o := .cells #[.slice A0_0 l0_0.length c0_0, .bool true, .int .i64 a0_2] 24 (0, 0)) (by (with_reducible repeat (first | refine blk_drewN ?_ _ | refine blk_drew ?_ | refine blk_alloc ?_ _)); exact BK101.out) hb)
                  have n2_ := Aside0.mk (below_step (by repeat (first | (with_reducible first | exact HB.out | apply below_alloc | apply pw_below_drewN | apply below_drew1 | refine below_set ?_ GE101.out) | exact HB.out)) hb)
                  clear HO125
                  clear BK101
                  clear HB
                  have HO125 := n0_
                  have BK101 := n1_
                  have HB := n2_
                  clear n0_ n1_ n2_
                  (try clear hb)
                  (try clear hb2)
                  (try clear hk)
                  (try clear hi)
                  refine hK.out _ _ ⟨(blk_cell BK101.out 0).trans rfl, (blk_cell BK101.out 1).trans rfl, (blk_cell BK101.out 2).trans rfl⟩ (fun hHeld => ?_)
                  clear hK K
                  refine norm_ (a' := ?_) ?_ ?_
                  rotate_left
                  · show Act.put _ (some 55) _ = _
                    simp only [Act.put, List.setIfInBounds_toArray, List.set_cons_zero, List.set_cons_succ, i64_w, i32_w]
                    rfl
                  refine pure_ (i := 8) (N := some 56) (v := ?_) (a' := ?_) #[true, true, true, true, true, true, true, true, true, false] rfl rfl (any_of HT_.out (by kernel_rfl)) (fun _ _ _ h => h) (Or.inl ⟨by rfl, ?_⟩) ?_ ?_
                  rotate_left
                  · intro w'
                    go_simp
                    with_reducible rfl
                  rotate_left
                  · simp only [Act.put, List.setIfInBounds_toArray, List.set_cons_zero, List.set_cons_succ, i64_w, i32_w]
                    rfl
                  refine pure_ (i := 9) (N := some 2) (v := ?_) (a' := ?_) #[true, true, true, true, true, true, true, true, true, true] rfl rfl (any_of HT_.out (by kernel_rfl)) (fun _ _ _ h => h) (Or.inl ⟨by rfl, ?_⟩) ?_ ?_
                  rotate_left
                  · intro w'
                    go_simp
                    with_reducible rfl
                  rotate_left
                  · simp only [Act.put, List.setIfInBounds_toArray, List.set_cons_zero, List.set_cons_succ, i64_w, i32_w]
                    rfl
                  refine done_ (done_of HT_.out (by kernel_rfl)) ?_
                  try go_wp2
                  go_ret2
                  exact ⟨by first | rfl | (simp [errW_none, errW_some] <;> rfl) | (simp [*, errW_none, errW_some] <;> rfl), by repeat (first | (with_reducible first | exact HB.out | apply below_alloc | apply pw_below_drewN | apply below_drew1 | refine below_set ?_ GE101.out) | exact HB.out)⟩
                · rw [if_neg c57] at H
                  exact absurd H (by simp)
              · rw [if_neg c55] at H
                exact absurd H (by simp)
            · rw [if_neg c54] at H
              exact absurd H (by simp)
          · replace c52 := Bool.eq_false_iff.mpr c52
            subst c52
            have H1 : (some (x2_1, true)) = some (r1, r2) := by rw [if_neg (show ¬ (false = true) by decide)] at H; exact H
            clear H
            have H := H1
            clear H1
            simp only [Option.some.injEq, Prod.mk.injEq] at H
            obtain ⟨rfl, rfl⟩ := H
            have hcz65_0 : wr.cell? ⟨gb101, 0, none⟩ = some (.slice A0_0 l0_0.length c0_0) := (blk_cell BK101.out 0).trans rfl
            have hcz65_1 : wr.cell? ⟨gb101, 1, none⟩ = some (.bool false) := (blk_cell BK101.out 1).trans rfl
            have hcz65_2 : wr.cell? ⟨gb101, 2, none⟩ = some (.int .i64 a0_2) := (blk_cell BK101.out 2).trans rfl
            have hfz65_0 := blk_frozen BK101.out 0
            have hfz65_1 := blk_frozen BK101.out 1
            have hfz65_2 := blk_frozen BK101.out 2
            go_wp2
            go_ret2
            exact ⟨by first | rfl | (simp [errW_none, errW_some] <;> rfl) | (simp [*, errW_none, errW_some] <;> rfl), by repeat (first | (with_reducible first | exact HB.out | apply below_alloc | apply pw_below_drewN | apply below_drew1 | refine below_set ?_ GE101.out) | exact HB.out)⟩
  · replace c3 := Bool.eq_false_iff.mpr c3
    subst c3
    have H1 : (some ((⟨#[]⟩ : ByteArray), false)) = some (r1, r2) := by rw [if_neg (show ¬ (false = true) by decide)] at H; exact H
    clear H
    have H := H1
    clear H1
    simp only [Option.some.injEq, Prod.mk.injEq] at H
    obtain ⟨rfl, rfl⟩ := H
    go_enter Tryd.func13, Tryd.ntmps13
    go_wp2_with (first | ((with_reducible refine gate_dst (N := 1) rfl ?_); refine box_event ?hg (N := 1) ?hd (cs := #[.slice A0_0 l0_0.length c0_0, .bool a0_1, .int .i64 a0_2]) (t := 24) ?hr ?_; (case hd => rfl); (case hg => rfl); (case hr => first | (go_simp; done) | (go_simp; rfl)); intro gb101 hg w66 hbox hb; have n0_ := Aside0.mk (below_step (by repeat (first | (with_reducible first | exact HB.out | apply below_alloc | apply pw_below_drewN | apply below_drew1) | exact HB.out)) hb); have n1_ := Aside0.mk (hbox); have n2_ := Aside0.mk ((by rw [hg]; exact (below_size (by repeat (first | (with_reducible first | exact HB.out | apply below_alloc | apply pw_below_drewN | apply below_drew1) | exact HB.out))) : w.heap.size ≤ gb101)); have n3_ := Aside0.mk ((by rw [hg]; exact (below_size (by repeat (first | (with_reducible first | exact HB.out | apply below_alloc | apply pw_below_drewN | apply below_drew1) | exact HB.out))) : w.heap.size ≤ gb101)); clear HB; have HB := n0_; have BK101 := n1_; have GW101 := n2_; have GE101 := n3_; clear n0_ n1_ n2_ n3_; clear hb hbox hg; have hcz67_0 : w66.cell? ⟨gb101, 0, none⟩ = some (.slice A0_0 l0_0.length c0_0) := (blk_cell BK101.out 0).trans rfl; have hcz67_1 : w66.cell? ⟨gb101, 1, none⟩ = some (.bool a0_1) := (blk_cell BK101.out 1).trans rfl; have hcz67_2 : w66.cell? ⟨gb101, 2, none⟩ = some (.int .i64 a0_2) := (blk_cell BK101.out 2).trans rfl; have hfz67_0 := blk_frozen BK101.out 0; have hfz67_1 := blk_frozen BK101.out 1; have hfz67_2 := blk_frozen BK101.out 2) | ((with_reducible refine gate_callee (f := 14) rfl ?_); refine goesL_ (some 12) rfl rfl Tryd.func14 (by kernel_rfl) rfl #[.agg #[.slice A0_0 l0_0.length c0_0, .bool a0_1, .int .i64 a0_2]] rfl (by (try simp only [List.map_toArray, List.map_cons, List.map_nil]); first | done | rfl | (simp only [List.length_drop, List.length_take]; rfl)) ?_; (with_reducible refine (leap_Right.calls _ _ l0_0 a0_1 a0_2 false _ ?side1 ?side2 A2.out).mono ?_); (case side1 => repeat (first | exact (Kd.C_below HR0_0.out HB.out) | (with_reducible refine Kd.C_alloc ?_ _) | (with_reducible refine Kd.C_drewN ?_ _) | (with_reducible refine Kd.C_drew ?_))); (case side2 => exact HC0_0.out); rintro e w68 ⟨rfl, hb⟩; refine ⟨_, rfl, ?_⟩; have n0_ := Aside0.mk (blk_below (g := gb101) (o := .cells #[.slice A0_0 l0_0.length c0_0, .bool a0_1, .int .i64 a0_2] 24 (0, 0)) (by (with_reducible repeat (first | refine blk_drewN ?_ _ | refine blk_drew ?_ | refine blk_alloc ?_ _)); exact BK101.out) hb); have n1_ := Aside0.mk (below_step (by repeat (first | (with_reducible first | exact HB.out | apply below_alloc | apply pw_below_drewN | apply below_drew1 | refine below_set ?_ GE101.out) | exact HB.out)) hb); clear BK101; clear HB; have BK101 := n0_; have HB := n1_; clear n0_ n1_; (try clear hb); (try clear hb2); (try clear hk); (try clear hi)))
    go_ret2
    exact ⟨by first | rfl | (simp [errW_none, errW_some] <;> rfl) | (simp [*, errW_none, errW_some] <;> rfl), by repeat (first | (with_reducible first | exact HB.out | apply below_alloc | apply pw_below_drewN | apply below_drew1 | refine below_set ?_ GE101.out) | exact HB.out)⟩
end Go.Proofs.YtodalfobehddmaaDoor.Y.S
namespace Go.Proofs.YtodalfobehddmaaDoor.Y.S
open Go.RowKit Go.Proofs.YtodalfobehddmaaDoorW.PrintWords Go.Proofs.YtodalfobehddmaaDoorW.PrintLast Go.Proofs.YtodalfobehddmaaDoor.Mx
attribute [local go_sem] max2_int min2_int max_two min_two max_three min_three   -- for this text's walks alone
open Go.Proofs.YtodalfobehddmaaDoor.Z
theorem eqA46 (d : Nat) (w : World) (x0 y0 : Int) (x1 y1 : Int) (x2 y2 : Bool) :
    (Op.equalIn (d + 2) 46 (.agg #[.int .i64 x0, .int .i64 x1, .bool x2]) (.agg #[.int .i64 y0, .int .i64 y1, .bool y2])).run Tryd.prog w = .ok (x0 == y0 && (x1 == y1 && (x2 == y2))) w := by
  refine eqA_of Tryd.underlying46 (by kernel_rfl) ?_
  refine eqf_cons (by rfl) (by go_simp; rfl) (by go_simp; rfl) (by go_simp) ?_
  refine eqf_cons (by rfl) (by go_simp; rfl) (by go_simp; rfl) (by go_simp) ?_
  exact eqf_last (by rfl) (by go_simp; rfl) (by go_simp; rfl) (by go_simp)
end Go.Proofs.YtodalfobehddmaaDoor.Y.S
namespace Go.Proofs.YtodalfobehddmaaDoor.Y.S
open Go.RowKit Go.Proofs.YtodalfobehddmaaDoorW.PrintWords Go.Proofs.YtodalfobehddmaaDoorW.PrintLast Go.Proofs.YtodalfobehddmaaDoor.Mx
attribute [local go_sem] max2_int min2_int max_two min_two max_three min_three   -- for this text's walks alone
open Go.Proofs.YtodalfobehddmaaDoor.Z
attribute [local go_sem high] eqA46
mutual
def epactref09_Same.j0 : Nat → Bool → List (S46) → Bool → Int → List (S46) → Bool → Int → Option (Bool)
  | 0, _, _, _, _, _, _, _ => none
  | k + 1, x26, x128000, x128001, x128002, x129000, x129001, x129002 => if x26 = true then (some false) else (epactref09_Same.l0 k 0 x128000 x128001 x128002 x129000 x129001 x129002)
def epactref09_Same.l0 : Nat → Int → List (S46) → Bool → Int → List (S46) → Bool → Int → Option (Bool)
  | 0, _, _, _, _, _, _, _ => none
  | k + 1, x5, x128000, x128001, x128002, x129000, x129001, x129002 => if x5 < (x128000.length : Int) then (if 0 ≤ x5 then (if x5 < (x129000.length : Int) then (if (!(((rd_T46 x128000 x5).f0) == ((rd_T46 x129000 x5).f0)) || (!(((rd_T46 x128000 x5).f1) == ((rd_T46 x129000 x5).f1)) || (!(((rd_T46 x128000 x5).f2) == ((rd_T46 x129000 x5).f2))))) = true then (some false) else (epactref09_Same.l0 k (wrap64 (x5 + 1)) x128000 x128001 x128002 x129000 x129001 x129002)) else (none)) else (none)) else (some true)
end
def epactref09_Same.f (k : Nat) (l0_0 : List (S46)) (a0_1 : Bool) (a0_2 : Int) (l1_0 : List (S46)) (a1_1 : Bool) (a1_2 : Int) : Option (Bool) := if (l0_0.length : Int) = (l1_0.length : Int) then (if (a0_1 != a1_1) = true then (epactref09_Same.j0 k true l0_0 a0_1 a0_2 l1_0 a1_1 a1_2) else (epactref09_Same.j0 k (a0_2 != a1_2) l0_0 a0_1 a0_2 l1_0 a1_1 a1_2)) else (epactref09_Same.j0 k true l0_0 a0_1 a0_2 l1_0 a1_1 a1_2)
theorem epactref09_Same.mono_l : ∀ k, (∀ y0 y1 y2 y3 y4 y5 y6, LeO (epactref09_Same.j0 k y0 y1 y2 y3 y4 y5 y6) (epactref09_Same.j0 (k + 1) y0 y1 y2 y3 y4 y5 y6)) ∧ (∀ y0 y1 y2 y3 y4 y5 y6, LeO (epactref09_Same.l0 k y0 y1 y2 y3 y4 y5 y6) (epactref09_Same.l0 (k + 1) y0 y1 y2 y3 y4 y5 y6))
  | 0 => ⟨fun _ _ _ _ _ _ _ r h => by simp [epactref09_Same.j0] at h, fun _ _ _ _ _ _ _ r h => by simp [epactref09_Same.l0] at h⟩
  | k + 1 => by
    obtain ⟨ih0, ih1⟩ := epactref09_Same.mono_l k
    refine ⟨?_, ?_⟩
    · intro y0 y1 y2 y3 y4 y5 y6
      unfold epactref09_Same.j0
      repeat' first
      | (with_reducible exact ih0 _ _ _ _ _ _ _)
      | (with_reducible exact ih1 _ _ _ _ _ _ _)
      | (with_reducible exact LeO.refl _)
      | (with_reducible exact LeO.none _)
      | (with_reducible refine LeO.ite ?_ ?_)
      | (with_reducible refine LeO.bind ?_ (fun _ => ?_))
      | exact ih0 _ _ _ _ _ _ _
      | exact ih1 _ _ _ _ _ _ _
      | exact LeO.none _
      | refine LeO.ite ?_ ?_
      | refine LeO.bind ?_ (fun _ => ?_)
    · intro y0 y1 y2 y3 y4 y5 y6
      unfold epactref09_Same.l0
      repeat' first
      | (with_reducible exact ih0 _ _ _ _ _ _ _)
      | (with_reducible exact ih1 _ _ _ _ _ _ _)
      | (with_reducible exact LeO.refl _)
      | (with_reducible exact LeO.none _)
      | (with_reducible refine LeO.ite ?_ ?_)
      | (with_reducible refine LeO.bind ?_ (fun _ => ?_))
      | exact ih0 _ _ _ _ _ _ _
      | exact ih1 _ _ _ _ _ _ _
      | exact LeO.none _
      | refine LeO.ite ?_ ?_
      | refine LeO.bind ?_ (fun _ => ?_)
theorem epactref09_Same.mono : ∀ a0 a1 a2 a3 a4 a5 k, LeO (epactref09_Same.f k a0 a1 a2 a3 a4 a5) (epactref09_Same.f (k + 1) a0 a1 a2 a3 a4 a5) := by
  intro a0 a1 a2 a3 a4 a5 k
  obtain ⟨ih0, ih1⟩ := epactref09_Same.mono_l k
  unfold epactref09_Same.f
  repeat' first
      | (with_reducible exact ih0 _ _ _ _ _ _ _)
      | (with_reducible exact ih1 _ _ _ _ _ _ _)
      | (with_reducible exact LeO.refl _)
      | (with_reducible exact LeO.none _)
      | (with_reducible refine LeO.ite ?_ ?_)
      | (with_reducible refine LeO.bind ?_ (fun _ => ?_))
      | exact ih0 _ _ _ _ _ _ _
      | exact ih1 _ _ _ _ _ _ _
      | exact LeO.none _
      | refine LeO.ite ?_ ?_
      | refine LeO.bind ?_ (fun _ => ?_)
set_option maxHeartbeats 8000000 in
set_option maxRecDepth 100000 in
theorem epactref09_Same.calls (k : Nat) (A0_0 : Option Addr) (c0_0 : Nat) (l0_0 : List (S46)) (a0_1 : Bool) (a0_2 : Int) (A1_0 : Option Addr) (c1_0 : Nat) (l1_0 : List (S46)) (a1_1 : Bool) (a1_2 : Int) (r : Bool) (w : World) (hr0_0 : Kd.C k46 w A0_0 l0_0.length l0_0) (hc0_0 : l0_0.length ≤ c0_0) (hr1_0 : Kd.C k46 w A1_0 l1_0.length l1_0) (hc1_0 : l1_0.length ≤ c1_0) (h : epactref09_Same.f k l0_0 a0_1 a0_2 l1_0 a1_1 a1_2 = some r) :
    Calls Tryd.prog 16 #[.agg #[.slice A0_0 l0_0.length c0_0, .bool a0_1, .int .i64 a0_2], .agg #[.slice A1_0 l1_0.length c1_0, .bool a1_1, .int .i64 a1_2]] w fun e w' => e = .returned (.bool r) ∧ Below w.heap.size w w' := by
  have hu24 := Tryd.underlying24
  have hu46 := Tryd.underlying46
  have HR0_0 := Aside0.mk hr0_0
  have HC0_0 := Aside0.mk hc0_0
  clear hr0_0 hc0_0
  have HR1_0 := Aside0.mk hr1_0
  have HC1_0 := Aside0.mk hc1_0
  clear hr1_0 hc1_0
  have HB := Aside0.mk (Below.refl w.heap.size w)
  have H : (if (l0_0.length : Int) = (l1_0.length : Int) then (if (a0_1 != a1_1) = true then (epactref09_Same.j0 k true l0_0 a0_1 a0_2 l1_0 a1_1 a1_2) else (epactref09_Same.j0 k (a0_2 != a1_2) l0_0 a0_1 a0_2 l1_0 a1_1 a1_2)) else (epactref09_Same.j0 k true l0_0 a0_1 a0_2 l1_0 a1_1 a1_2)) = some r := h
  clear h
  have HC3 := Aside0.mk H
  clear H
  go_enter Tryd.func16, Tryd.ntmps16
  go_upto_region 1 with (first | ((with_reducible refine gate_dst (N := 2) rfl ?_); refine box_event ?hg (N := 2) ?hd (cs := #[.slice A0_0 l0_0.length c0_0, .bool a0_1, .int .i64 a0_2]) (t := 24) ?hr ?_; (case hd => rfl); (case hg => rfl); (case hr => first | (go_simp; done) | (go_simp; rfl)); intro gb127 hg w4 hbox hb; have n0_ := Aside0.mk (below_step (by repeat (first | (with_reducible first | exact HB.out | apply below_alloc | apply pw_below_drewN | apply below_drew1) | exact HB.out)) hb); have n1_ := Aside0.mk (hbox); have n2_ := Aside0.mk ((by rw [hg]; exact (below_size (by repeat (first | (with_reducible first | exact HB.out | apply below_alloc | apply pw_below_drewN | apply below_drew1) | exact HB.out))) : w.heap.size ≤ gb127)); have n3_ := Aside0.mk ((by rw [hg]; exact (below_size (by repeat (first | (with_reducible first | exact HB.out | apply below_alloc | apply pw_below_drewN | apply below_drew1) | exact HB.out))) : w.heap.size ≤ gb127)); clear HB; have HB := n0_; have BK127 := n1_; have GW127 := n2_; have GE127 := n3_; clear n0_ n1_ n2_ n3_; clear hb hbox hg) | ((with_reducible refine gate_dst (N := 3) rfl ?_); refine box_event ?hg (N := 3) ?hd (cs := #[.slice A1_0 l1_0.length c1_0, .bool a1_1, .int .i64 a1_2]) (t := 24) ?hr ?_; (case hd => rfl); (case hg => rfl); (case hr => first | (go_simp; done) | (go_simp; rfl)); intro gb128 hg w5 hbox hb; have n0_ := Aside0.mk (blk_below (g := gb127) (o := .cells #[.slice A0_0 l0_0.length c0_0, .bool a0_1, .int .i64 a0_2] 24 (0, 0)) (by (with_reducible repeat (first | refine blk_drewN ?_ _ | refine blk_drew ?_ | refine blk_alloc ?_ _)); exact BK127.out) hb); have n1_ := Aside0.mk (below_step (by repeat (first | (with_reducible first | exact HB.out | apply below_alloc | apply pw_below_drewN | apply below_drew1 | refine below_set ?_ GE127.out) | exact HB.out)) hb); have n2_ := Aside0.mk (hbox); have n3_ := Aside0.mk ((by rw [hg]; exact (below_size (by repeat (first | (with_reducible first | exact HB.out | apply below_alloc | apply pw_below_drewN | apply below_drew1 | refine below_set ?_ GE127.out) | exact HB.out))) : w.heap.size ≤ gb128)); have n4_ := Aside0.mk ((by rw [hg]; exact (below_size (by repeat (first | (with_reducible first | exact HB.out | apply below_alloc | apply pw_below_drewN | apply below_drew1 | refine below_set ?_ GE127.out) | exact HB.out))) : w.heap.size ≤ gb128)); have n5_ := Aside0.mk ((by rw [hg]; exact Nat.ne_of_lt (blk_lt (g := gb127) (o := .cells #[.slice A0_0 l0_0.length c0_0, .bool a0_1, .int .i64 a0_2] 24 (0, 0)) (by (with_reducible repeat (first | refine blk_drewN ?_ _ | refine blk_drew ?_ | refine blk_alloc ?_ _)); exact BK127.out)) : gb127 ≠ gb128)); have n6_ := Aside0.mk ((by rw [hg]; exact Nat.ne_of_gt (blk_lt (g := gb127) (o := .cells #[.slice A0_0 l0_0.length c0_0, .bool a0_1, .int .i64 a0_2] 24 (0, 0)) (by (with_reducible repeat (first | refine blk_drewN ?_ _ | refine blk_drew ?_ | refine blk_alloc ?_ _)); exact BK127.out)) : gb128 ≠ gb127)); clear BK127; clear HB; have BK127 := n0_; have HB := n1_; have BK128 := n2_; have GW128 := n3_; have GE128 := n4_; have NB127_128 := n5_; have NB128_127 := n6_; clear n0_ n1_ n2_ n3_ n4_ n5_ n6_; clear hb hbox hg))
  repeat (go_quiet (first | ((with_reducible refine gate_dst (N := 2) rfl ?_); refine box_event ?hg (N := 2) ?hd (cs := #[.slice A0_0 l0_0.length c0_0, .bool a0_1, .int .i64 a0_2]) (t := 24) ?hr ?_; (case hd => rfl); (case hg => rfl); (case hr => first | (go_simp; done) | (go_simp; rfl)); intro gb127 hg w4 hbox hb; have n0_ := Aside0.mk (below_step (by repeat (first | (with_reducible first | exact HB.out | apply below_alloc | apply pw_below_drewN | apply below_drew1) | exact HB.out)) hb); have n1_ := Aside0.mk (hbox); have n2_ := Aside0.mk ((by rw [hg]; exact (below_size (by repeat (first | (with_reducible first | exact HB.out | apply below_alloc | apply pw_below_drewN | apply below_drew1) | exact HB.out))) : w.heap.size ≤ gb127)); have n3_ := Aside0.mk ((by rw [hg]; exact (below_size (by repeat (first | (with_reducible first | exact HB.out | apply below_alloc | apply pw_below_drewN | apply below_drew1) | exact HB.out))) : w.heap.size ≤ gb127)); clear HB; have HB := n0_; have BK127 := n1_; have GW127 := n2_; have GE127 := n3_; clear n0_ n1_ n2_ n3_; clear hb hbox hg) | ((with_reducible refine gate_dst (N := 3) rfl ?_); refine box_event ?hg (N := 3) ?hd (cs := #[.slice A1_0 l1_0.length c1_0, .bool a1_1, .int .i64 a1_2]) (t := 24) ?hr ?_; (case hd => rfl); (case hg => rfl); (case hr => first | (go_simp; done) | (go_simp; rfl)); intro gb128 hg w5 hbox hb; have n0_ := Aside0.mk (blk_below (g := gb127) (o := .cells #[.slice A0_0 l0_0.length c0_0, .bool a0_1, .int .i64 a0_2] 24 (0, 0)) (by (with_reducible repeat (first | refine blk_drewN ?_ _ | refine blk_drew ?_ | refine blk_alloc ?_ _)); exact BK127.out) hb); have n1_ := Aside0.mk (below_step (by repeat (first | (with_reducible first | exact HB.out | apply below_alloc | apply pw_below_drewN | apply below_drew1 | refine below_set ?_ GE127.out) | exact HB.out)) hb); have n2_ := Aside0.mk (hbox); have n3_ := Aside0.mk ((by rw [hg]; exact (below_size (by repeat (first | (with_reducible first | exact HB.out | apply below_alloc | apply pw_below_drewN | apply below_drew1 | refine below_set ?_ GE127.out) | exact HB.out))) : w.heap.size ≤ gb128)); have n4_ := Aside0.mk ((by rw [hg]; exact (below_size (by repeat (first | (with_reducible first | exact HB.out | apply below_alloc | apply pw_below_drewN | apply below_drew1 | refine below_set ?_ GE127.out) | exact HB.out))) : w.heap.size ≤ gb128)); have n5_ := Aside0.mk ((by rw [hg]; exact Nat.ne_of_lt (blk_lt (g := gb127) (o := .cells #[.slice A0_0 l0_0.length c0_0, .bool a0_1, .int .i64 a0_2] 24 (0, 0)) (by (with_reducible repeat (first | refine blk_drewN ?_ _ | refine blk_drew ?_ | refine blk_alloc ?_ _)); exact BK127.out)) : gb127 ≠ gb128)); have n6_ := Aside0.mk ((by rw [hg]; exact Nat.ne_of_gt (blk_lt (g := gb127) (o := .cells #[.slice A0_0 l0_0.length c0_0, .bool a0_1, .int .i64 a0_2] 24 (0, 0)) (by (with_reducible repeat (first | refine blk_drewN ?_ _ | refine blk_drew ?_ | refine blk_alloc ?_ _)); exact BK127.out)) : gb128 ≠ gb127)); clear BK127; clear HB; have BK127 := n0_; have HB := n1_; have BK128 := n2_; have GW128 := n3_; have GE128 := n4_; have NB127_128 := n5_; have NB128_127 := n6_; clear n0_ n1_ n2_ n3_ n4_ n5_ n6_; clear hb hbox hg)); go_upto_region 1 with (first | ((with_reducible refine gate_dst (N := 2) rfl ?_); refine box_event ?hg (N := 2) ?hd (cs := #[.slice A0_0 l0_0.length c0_0, .bool a0_1, .int .i64 a0_2]) (t := 24) ?hr ?_; (case hd => rfl); (case hg => rfl); (case hr => first | (go_simp; done) | (go_simp; rfl)); intro gb127 hg w4 hbox hb; have n0_ := Aside0.mk (below_step (by repeat (first | (with_reducible first | exact HB.out | apply below_alloc | apply pw_below_drewN | apply below_drew1) | exact HB.out)) hb); have n1_ := Aside0.mk (hbox); have n2_ := Aside0.mk ((by rw [hg]; exact (below_size (by repeat (first | (with_reducible first | exact HB.out | apply below_alloc | apply pw_below_drewN | apply below_drew1) | exact HB.out))) : w.heap.size ≤ gb127)); have n3_ := Aside0.mk ((by rw [hg]; exact (below_size (by repeat (first | (with_reducible first | exact HB.out | apply below_alloc | apply pw_below_drewN | apply below_drew1) | exact HB.out))) : w.heap.size ≤ gb127)); clear HB; have HB := n0_; have BK127 := n1_; have GW127 := n2_; have GE127 := n3_; clear n0_ n1_ n2_ n3_; clear hb hbox hg) | ((with_reducible refine gate_dst (N := 3) rfl ?_); refine box_event ?hg (N := 3) ?hd (cs := #[.slice A1_0 l1_0.length c1_0, .bool a1_1, .int .i64 a1_2]) (t := 24) ?hr ?_; (case hd => rfl); (case hg => rfl); (case hr => first | (go_simp; done) | (go_simp; rfl)); intro gb128 hg w5 hbox hb; have n0_ := Aside0.mk (blk_below (g := gb127) (o := .cells #[.slice A0_0 l0_0.length c0_0, .bool a0_1, .int .i64 a0_2] 24 (0, 0)) (by (with_reducible repeat (first | refine blk_drewN ?_ _ | refine blk_drew ?_ | refine blk_alloc ?_ _)); exact BK127.out) hb); have n1_ := Aside0.mk (below_step (by repeat (first | (with_reducible first | exact HB.out | apply below_alloc | apply pw_below_drewN | apply below_drew1 | refine below_set ?_ GE127.out) | exact HB.out)) hb); have n2_ := Aside0.mk (hbox); have n3_ := Aside0.mk ((by rw [hg]; exact (below_size (by repeat (first | (with_reducible first | exact HB.out | apply below_alloc | apply pw_below_drewN | apply below_drew1 | refine below_set ?_ GE127.out) | exact HB.out))) : w.heap.size ≤ gb128)); have n4_ := Aside0.mk ((by rw [hg]; exact (below_size (by repeat (first | (with_reducible first | exact HB.out | apply below_alloc | apply pw_below_drewN | apply below_drew1 | refine below_set ?_ GE127.out) | exact HB.out))) : w.heap.size ≤ gb128)); have n5_ := Aside0.mk ((by rw [hg]; exact Nat.ne_of_lt (blk_lt (g := gb127) (o := .cells #[.slice A0_0 l0_0.length c0_0, .bool a0_1, .int .i64 a0_2] 24 (0, 0)) (by (with_reducible repeat (first | refine blk_drewN ?_ _ | refine blk_drew ?_ | refine blk_alloc ?_ _)); exact BK127.out)) : gb127 ≠ gb128)); have n6_ := Aside0.mk ((by rw [hg]; exact Nat.ne_of_gt (blk_lt (g := gb127) (o := .cells #[.slice A0_0 l0_0.length c0_0, .bool a0_1, .int .i64 a0_2] 24 (0, 0)) (by (with_reducible repeat (first | refine blk_drewN ?_ _ | refine blk_drew ?_ | refine blk_alloc ?_ _)); exact BK127.out)) : gb128 ≠ gb127)); clear BK127; clear HB; have BK127 := n0_; have HB := n1_; have BK128 := n2_; have GW128 := n3_; have GE128 := n4_; have NB127_128 := n5_; have NB128_127 := n6_; clear n0_ n1_ n2_ n3_ n4_ n5_ n6_; clear hb hbox hg)))
  (try simp only [Act.put, List.setIfInBounds_toArray, List.set_cons_zero, List.set_cons_succ])
  go_cut [26] (fun v26 wc => ∃ (kq : Nat) (x26_2 : Bool), v26 = .bool x26_2 ∧ Aside0 (epactref09_Same.j0 kq x26_2 l0_0 a0_1 a0_2 l1_0 a1_1 a1_2 = some r) ∧ Aside0 (kq ≤ k) ∧ Aside0 (wc.heap[gb127]? = some (.cells #[(.slice A0_0 l0_0.length c0_0), .bool a0_1, .int .i64 a0_2] 24 (0, 0))) ∧ Aside0 (wc.heap[gb128]? = some (.cells #[(.slice A1_0 l1_0.length c1_0), .bool a1_1, .int .i64 a1_2] 24 (0, 0))) ∧ Aside0 (Below w.heap.size w wc))
  case first =>
    have H := HC3.out
    clear HC3
    by_cases c6 : (l0_0.length : Int) = (l1_0.length : Int)
    · rw [if_pos c6] at H
      have c6b0 : ((l0_0.length : Int) == (l1_0.length : Int)) = true := beq_iff_eq.mpr c6
      have c6b1 : ((l0_0.length : Int) != (l1_0.length : Int)) = false := bne_eq_false_iff_eq.mpr c6
      have c6b2 : (l0_0.length == l1_0.length) = true := by first | simpa using c6 | (simp at c6 ⊢; omega)
      clear c6
      (first | rw [c6b0] | (simp only [i64_w, i32_w]; rw [c6b0]) | skip)
      by_cases c7 : (a0_1 != a1_1) = true
      · rw [if_pos c7] at H
        have c7b0 : (a0_1 != a1_1) = true := c7
        (try (have c7b1 : decide (a0_1 = a1_1) = false := by simpa using c7))
        (try (have c7b2 : (a0_1 == a1_1) = false := by simpa using c7))
        (try (have c7b3 : ¬ (a0_1 = a1_1) := by simpa using c7))
        clear c7
        have H' := Aside0.mk H
        clear H
        have hnb8 := NB127_128.out
        have hnc8 := NB128_127.out
        have hcz9_0 : w5.cell? ⟨gb127, 0, none⟩ = some (.slice A0_0 l0_0.length c0_0) := (blk_cell BK127.out 0).trans rfl
        have hcz9_1 : w5.cell? ⟨gb127, 1, none⟩ = some (.bool a0_1) := (blk_cell BK127.out 1).trans rfl
        have hcz9_2 : w5.cell? ⟨gb127, 2, none⟩ = some (.int .i64 a0_2) := (blk_cell BK127.out 2).trans rfl
        have hfz9_0 := blk_frozen BK127.out 0
        have hfz9_1 := blk_frozen BK127.out 1
        have hfz9_2 := blk_frozen BK127.out 2
        have hcz10_0 : w5.cell? ⟨gb128, 0, none⟩ = some (.slice A1_0 l1_0.length c1_0) := (blk_cell BK128.out 0).trans rfl
        have hcz10_1 : w5.cell? ⟨gb128, 1, none⟩ = some (.bool a1_1) := (blk_cell BK128.out 1).trans rfl
        have hcz10_2 : w5.cell? ⟨gb128, 2, none⟩ = some (.int .i64 a1_2) := (blk_cell BK128.out 2).trans rfl
        have hfz10_0 := blk_frozen BK128.out 0
        have hfz10_1 := blk_frozen BK128.out 1
        have hfz10_2 := blk_frozen BK128.out 2
        go_wp2
        repeat (go_quiet (fail); try go_wp2)
        go_meet
        case rel => exact ⟨_, (true), (by first | rfl | (simp; done) | (simp [*]; done)), H', ⟨by first | omega | exact Nat.le_refl _⟩, ⟨by (with_reducible repeat (first | refine blk_drewN ?_ _ | refine blk_drew ?_ | refine blk_alloc ?_ _)); exact BK127.out⟩, ⟨by (with_reducible repeat (first | refine blk_drewN ?_ _ | refine blk_drew ?_ | refine blk_alloc ?_ _)); exact BK128.out⟩, ⟨by repeat (first | (with_reducible first | exact HB.out | apply below_alloc | apply pw_below_drewN | apply below_drew1 | refine below_set ?_ GE127.out | refine below_set ?_ GE128.out) | exact HB.out)⟩⟩
      · rw [if_neg c7] at H
        have c7b0 : (a0_1 != a1_1) = false := by simpa using c7
        (try (have c7b1 : decide (a0_1 = a1_1) = true := by simpa using c7))
        (try (have c7b2 : (a0_1 == a1_1) = true := by simpa using c7))
        clear c7
        have H' := Aside0.mk H
        clear H
        have hnb11 := NB127_128.out
        have hnc11 := NB128_127.out
        have hcz12_0 : w5.cell? ⟨gb127, 0, none⟩ = some (.slice A0_0 l0_0.length c0_0) := (blk_cell BK127.out 0).trans rfl
        have hcz12_1 : w5.cell? ⟨gb127, 1, none⟩ = some (.bool a0_1) := (blk_cell BK127.out 1).trans rfl
        have hcz12_2 : w5.cell? ⟨gb127, 2, none⟩ = some (.int .i64 a0_2) := (blk_cell BK127.out 2).trans rfl
        have hfz12_0 := blk_frozen BK127.out 0
        have hfz12_1 := blk_frozen BK127.out 1
        have hfz12_2 := blk_frozen BK127.out 2
        have hcz13_0 : w5.cell? ⟨gb128, 0, none⟩ = some (.slice A1_0 l1_0.length c1_0) := (blk_cell BK128.out 0).trans rfl
        have hcz13_1 : w5.cell? ⟨gb128, 1, none⟩ = some (.bool a1_1) := (blk_cell BK128.out 1).trans rfl
        have hcz13_2 : w5.cell? ⟨gb128, 2, none⟩ = some (.int .i64 a1_2) := (blk_cell BK128.out 2).trans rfl
        have hfz13_0 := blk_frozen BK128.out 0
        have hfz13_1 := blk_frozen BK128.out 1
        have hfz13_2 := blk_frozen BK128.out 2
        go_wp2
        repeat (go_quiet (fail); try go_wp2)
        go_meet
        case rel => exact ⟨_, ((a0_2 != a1_2)), (by first | rfl | (simp; done) | (simp [*]; done)), H', ⟨by first | omega | exact Nat.le_refl _⟩, ⟨by (with_reducible repeat (first | refine blk_drewN ?_ _ | refine blk_drew ?_ | refine blk_alloc ?_ _)); exact BK127.out⟩, ⟨by (with_reducible repeat (first | refine blk_drewN ?_ _ | refine blk_drew ?_ | refine blk_alloc ?_ _)); exact BK128.out⟩, ⟨by repeat (first | (with_reducible first | exact HB.out | apply below_alloc | apply pw_below_drewN | apply below_drew1 | refine below_set ?_ GE127.out | refine below_set ?_ GE128.out) | exact HB.out)⟩⟩
    · rw [if_neg c6] at H
      have c6b0 : ((l0_0.length : Int) == (l1_0.length : Int)) = false := beq_eq_false_iff_ne.mpr c6
      have c6b1 : ((l0_0.length : Int) != (l1_0.length : Int)) = true := bne_iff_ne.mpr c6
      have c6b2 : (l0_0.length == l1_0.length) = false := by first | simpa using c6 | (simp at c6 ⊢; omega)
      (first | rw [c6b0] | (simp only [i64_w, i32_w]; rw [c6b0]) | skip)
      have H' := Aside0.mk H
      clear H
      have hnb14 := NB127_128.out
      have hnc14 := NB128_127.out
      have hcz15_0 : w5.cell? ⟨gb127, 0, none⟩ = some (.slice A0_0 l0_0.length c0_0) := (blk_cell BK127.out 0).trans rfl
      have hcz15_1 : w5.cell? ⟨gb127, 1, none⟩ = some (.bool a0_1) := (blk_cell BK127.out 1).trans rfl
      have hcz15_2 : w5.cell? ⟨gb127, 2, none⟩ = some (.int .i64 a0_2) := (blk_cell BK127.out 2).trans rfl
      have hfz15_0 := blk_frozen BK127.out 0
      have hfz15_1 := blk_frozen BK127.out 1
      have hfz15_2 := blk_frozen BK127.out 2
      have hcz16_0 : w5.cell? ⟨gb128, 0, none⟩ = some (.slice A1_0 l1_0.length c1_0) := (blk_cell BK128.out 0).trans rfl
      have hcz16_1 : w5.cell? ⟨gb128, 1, none⟩ = some (.bool a1_1) := (blk_cell BK128.out 1).trans rfl
      have hcz16_2 : w5.cell? ⟨gb128, 2, none⟩ = some (.int .i64 a1_2) := (blk_cell BK128.out 2).trans rfl
      have hfz16_0 := blk_frozen BK128.out 0
      have hfz16_1 := blk_frozen BK128.out 1
      have hfz16_2 := blk_frozen BK128.out 2
      go_wp2
      repeat (go_quiet (fail); try go_wp2)
      go_meet
      case rel => exact ⟨_, (true), (by first | rfl | (simp; done) | (simp [*]; done)), H', ⟨by first | omega | exact Nat.le_refl _⟩, ⟨by (with_reducible repeat (first | refine blk_drewN ?_ _ | refine blk_drew ?_ | refine blk_alloc ?_ _)); exact BK127.out⟩, ⟨by (with_reducible repeat (first | refine blk_drewN ?_ _ | refine blk_drew ?_ | refine blk_alloc ?_ _)); exact BK128.out⟩, ⟨by repeat (first | (with_reducible first | exact HB.out | apply below_alloc | apply pw_below_drewN | apply below_drew1 | refine below_set ?_ GE127.out | refine below_set ?_ GE128.out) | exact HB.out)⟩⟩
  case rest =>
    clear HC3
    try clear c1
    try clear p2
    try clear c6
    try clear c6b0
    try clear c6b1
    try clear c6b2
    try clear c7
    try clear c7b0
    try clear c7b1
    try clear c7b2
    try clear c8
    try clear c11
    try clear c14
    try clear c16
    try clear hcz10_0
    try clear hcz10_1
    try clear hcz10_2
    try clear hcz12_0
    try clear hcz12_1
    try clear hcz12_2
    try clear hcz13_0
    try clear hcz13_1
    try clear hcz13_2
    try clear hcz15_0
    try clear hcz15_1
    try clear hcz15_2
    try clear hcz16_0
    try clear hcz16_1
    try clear hcz16_2
    try clear hcz9_0
    try clear hcz9_1
    try clear hcz9_2
    try clear hfz10_0
    try clear hfz10_1
    try clear hfz10_2
    try clear hfz12_0
    try clear hfz12_1
    try clear hfz12_2
    try clear hfz13_0
    try clear hfz13_1
    try clear hfz13_2
    try clear hfz15_0
    try clear hfz15_1
    try clear hfz15_2
    try clear hfz16_0
    try clear hfz16_1
    try clear hfz16_2
    try clear hfz9_0
    try clear hfz9_1
    try clear hfz9_2
    obtain ⟨kq, x26_2, rfl, HA, HJ2, BK127, BK128, HB⟩ := hcut
    cases kq with
    | zero => exact absurd HA.out (by simp [epactref09_Same.j0])
    | succ kj2 =>
      have H := HA.out
      clear HA
      simp only [epactref09_Same.j0] at H
      by_cases c17 : x26_2 = true
      · subst c17
        have H1 : (some false) = some r := by rw [if_pos rfl] at H; exact H
        clear H
        have H := H1
        clear H1
        obtain rfl := Option.some.inj H
        go_wp2
        repeat (go_quiet (fail); try go_wp2)
        go_ret
        exact ⟨by first | rfl | (simp [errW_none, errW_some] <;> rfl) | (simp [*, errW_none, errW_some] <;> rfl), by repeat (first | (with_reducible first | exact HB.out | apply below_alloc | apply pw_below_drewN | apply below_drew1 | refine below_set ?_ GE127.out | refine below_set ?_ GE128.out) | exact HB.out)⟩
      · replace c17 := Bool.eq_false_iff.mpr c17
        subst c17
        have H1 : (epactref09_Same.l0 kj2 0 l0_0 a0_1 a0_2 l1_0 a1_1 a1_2) = some r := by rw [if_neg (show ¬ (false = true) by decide)] at H; exact H
        clear H
        have H := H1
        clear H1
        have H' := Aside0.mk H
        clear H
        go_wp2
        repeat (go_quiet (fail); try go_wp2)
        go_loopg [5] kj2 (fun kq v5 w' => ∃ (x5_2 : Int), v5 = .int .i64 x5_2 ∧ Aside0 (epactref09_Same.l0 kq x5_2 l0_0 a0_1 a0_2 l1_0 a1_1 a1_2 = some r) ∧ Aside0 (kq ≤ kj2) ∧ Aside0 (w'.heap[gb127]? = some (.cells #[(.slice A0_0 l0_0.length c0_0), .bool a0_1, .int .i64 a0_2] 24 (0, 0))) ∧ Aside0 (w'.heap[gb128]? = some (.cells #[(.slice A1_0 l1_0.length c1_0), .bool a1_1, .int .i64 a1_2] 24 (0, 0))) ∧ Aside0 (Below w.heap.size w w'))
        case atStart => exact ⟨(0), (by first | rfl | (simp; done) | (simp [*]; done)), H', ⟨Nat.le_refl _⟩, ⟨by (with_reducible repeat (first | refine blk_drewN ?_ _ | refine blk_drew ?_ | refine blk_alloc ?_ _)); exact BK127.out⟩, ⟨by (with_reducible repeat (first | refine blk_drewN ?_ _ | refine blk_drew ?_ | refine blk_alloc ?_ _)); exact BK128.out⟩, ⟨by repeat (first | (with_reducible first | exact HB.out | apply below_alloc | apply pw_below_drewN | apply below_drew1 | refine below_set ?_ GE127.out | refine below_set ?_ GE128.out) | exact HB.out)⟩⟩
        case round =>
          clear H'
          try clear c1
          try clear p2
          try clear c6
          try clear c6b0
          try clear c6b1
          try clear c6b2
          try clear c7
          try clear c7b0
          try clear c7b1
          try clear c7b2
          try clear c8
          try clear c11
          try clear c14
          try clear c16
          try clear c17
          try clear hcz10_0
          try clear hcz10_1
          try clear hcz10_2
          try clear hcz12_0
          try clear hcz12_1
          try clear hcz12_2
          try clear hcz13_0
          try clear hcz13_1
          try clear hcz13_2
          try clear hcz15_0
          try clear hcz15_1
          try clear hcz15_2
          try clear hcz16_0
          try clear hcz16_1
          try clear hcz16_2
          try clear hcz9_0
          try clear hcz9_1
          try clear hcz9_2
          try clear hfz10_0
          try clear hfz10_1
          try clear hfz10_2
          try clear hfz12_0
          try clear hfz12_1
          try clear hfz12_2
          try clear hfz13_0
          try clear hfz13_1
          try clear hfz13_2
          try clear hfz15_0
          try clear hfz15_1
          try clear hfz15_2
          try clear hfz16_0
          try clear hfz16_1
          try clear hfz16_2
          try clear hfz9_0
          try clear hfz9_1
          try clear hfz9_2
          try clear p2
          obtain ⟨x5_2, rfl, HA, HK2, BK127, BK128, HB⟩ := hrel
          cases gk with
          | zero => exact absurd HA.out (by simp [epactref09_Same.l0])
          | succ k2 =>
            have H := HA.out
            clear HA
            simp only [epactref09_Same.l0] at H
            by_cases c18 : x5_2 < (l0_0.length : Int)
            · rw [if_pos c18] at H
              have c18b0 : decide (x5_2 < (l0_0.length : Int)) = true := decide_eq_true c18
              clear c18
              by_cases c19 : 0 ≤ x5_2
              · rw [if_pos c19] at H
                have c19b0 : decide (0 ≤ x5_2) = true := decide_eq_true c19
                clear c19
                by_cases c20 : x5_2 < (l1_0.length : Int)
                · rw [if_pos c20] at H
                  have c20b0 : decide (x5_2 < (l1_0.length : Int)) = true := decide_eq_true c20
                  clear c20
                  by_cases c21 : (!(((rd_T46 l0_0 x5_2).f0) == ((rd_T46 l1_0 x5_2).f0)) || (!(((rd_T46 l0_0 x5_2).f1) == ((rd_T46 l1_0 x5_2).f1)) || (!(((rd_T46 l0_0 x5_2).f2) == ((rd_T46 l1_0 x5_2).f2))))) = true
                  · rw [if_pos c21] at H
                    have c21b0 : (!(((rd_T46 l0_0 x5_2).f0) == ((rd_T46 l1_0 x5_2).f0)) || (!(((rd_T46 l0_0 x5_2).f1) == ((rd_T46 l1_0 x5_2).f1)) || (!(((rd_T46 l0_0 x5_2).f2) == ((rd_T46 l1_0 x5_2).f2))))) = true := c21
                    clear c21
                    obtain rfl := Option.some.inj H
                    have hnb22 := NB127_128.out
                    have hnc22 := NB128_127.out
                    have hcz23_0 : wr.cell? ⟨gb127, 0, none⟩ = some (.slice A0_0 l0_0.length c0_0) := (blk_cell BK127.out 0).trans rfl
                    have hcz23_1 : wr.cell? ⟨gb127, 1, none⟩ = some (.bool a0_1) := (blk_cell BK127.out 1).trans rfl
                    have hcz23_2 : wr.cell? ⟨gb127, 2, none⟩ = some (.int .i64 a0_2) := (blk_cell BK127.out 2).trans rfl
                    have hfz23_0 := blk_frozen BK127.out 0
                    have hfz23_1 := blk_frozen BK127.out 1
                    have hfz23_2 := blk_frozen BK127.out 2
                    have p129 : 0 ≤ (x5_2 : Int) := of_decide_eq_true (by first | (with_reducible assumption) | assumption)
                    have q129 : x5_2 < (l0_0.length : Int) := of_decide_eq_true (by first | (with_reducible assumption) | assumption)
                    obtain ⟨ad129, e129, hx129_0, hx129_1, hx129_2⟩ := at_T46 HR0_0.out x5_2 p129 q129
                    cases e129
                    replace hx129_0 := (HB.out.cell (World.block_lt_of_cell? w _ hx129_0)).trans hx129_0
                    replace hx129_1 := (HB.out.cell (World.block_lt_of_cell? w _ hx129_1)).trans hx129_1
                    replace hx129_2 := (HB.out.cell (World.block_lt_of_cell? w _ hx129_2)).trans hx129_2
                    replace p129 := eq_true p129
                    replace q129 := eq_true q129
                    have hcz24_0 : wr.cell? ⟨gb128, 0, none⟩ = some (.slice A1_0 l1_0.length c1_0) := (blk_cell BK128.out 0).trans rfl
                    have hcz24_1 : wr.cell? ⟨gb128, 1, none⟩ = some (.bool a1_1) := (blk_cell BK128.out 1).trans rfl
                    have hcz24_2 : wr.cell? ⟨gb128, 2, none⟩ = some (.int .i64 a1_2) := (blk_cell BK128.out 2).trans rfl
                    have hfz24_0 := blk_frozen BK128.out 0
                    have hfz24_1 := blk_frozen BK128.out 1
                    have hfz24_2 := blk_frozen BK128.out 2
                    have p130 : 0 ≤ (x5_2 : Int) := of_decide_eq_true (by first | (with_reducible assumption) | assumption)
                    have q130 : x5_2 < (l1_0.length : Int) := of_decide_eq_true (by first | (with_reducible assumption) | assumption)
                    obtain ⟨ad130, e130, hx130_0, hx130_1, hx130_2⟩ := at_T46 HR1_0.out x5_2 p130 q130
                    cases e130
                    replace hx130_0 := (HB.out.cell (World.block_lt_of_cell? w _ hx130_0)).trans hx130_0
                    replace hx130_1 := (HB.out.cell (World.block_lt_of_cell? w _ hx130_1)).trans hx130_1
                    replace hx130_2 := (HB.out.cell (World.block_lt_of_cell? w _ hx130_2)).trans hx130_2
                    replace p130 := eq_true p130
                    replace q130 := eq_true q130
                    go_wp2
                    repeat (go_quiet (fail); try go_wp2)
                    go_ret
                    exact ⟨by first | rfl | (simp [errW_none, errW_some] <;> rfl) | (simp [*, errW_none, errW_some] <;> rfl), by repeat (first | (with_reducible first | exact HB.out | apply below_alloc | apply pw_below_drewN | apply below_drew1 | refine below_set ?_ GE127.out | refine below_set ?_ GE128.out) | exact HB.out)⟩
                  · rw [if_neg c21] at H
                    have c21b0 : (!(((rd_T46 l0_0 x5_2).f0) == ((rd_T46 l1_0 x5_2).f0)) || (!(((rd_T46 l0_0 x5_2).f1) == ((rd_T46 l1_0 x5_2).f1)) || (!(((rd_T46 l0_0 x5_2).f2) == ((rd_T46 l1_0 x5_2).f2))))) = false := by simpa using c21
                    clear c21
                    have H' := Aside0.mk H
                    clear H
                    have hnb25 := NB127_128.out
                    have hnc25 := NB128_127.out
                    have hcz26_0 : wr.cell? ⟨gb127, 0, none⟩ = some (.slice A0_0 l0_0.length c0_0) := (blk_cell BK127.out 0).trans rfl
                    have hcz26_1 : wr.cell? ⟨gb127, 1, none⟩ = some (.bool a0_1) := (blk_cell BK127.out 1).trans rfl
                    have hcz26_2 : wr.cell? ⟨gb127, 2, none⟩ = some (.int .i64 a0_2) := (blk_cell BK127.out 2).trans rfl
                    have hfz26_0 := blk_frozen BK127.out 0
                    have hfz26_1 := blk_frozen BK127.out 1
                    have hfz26_2 := blk_frozen BK127.out 2
                    have p129 : 0 ≤ (x5_2 : Int) := of_decide_eq_true (by first | (with_reducible assumption) | assumption)
                    have q129 : x5_2 < (l0_0.length : Int) := of_decide_eq_true (by first | (with_reducible assumption) | assumption)
                    obtain ⟨ad129, e129, hx129_0, hx129_1, hx129_2⟩ := at_T46 HR0_0.out x5_2 p129 q129
                    cases e129
                    replace hx129_0 := (HB.out.cell (World.block_lt_of_cell? w _ hx129_0)).trans hx129_0
                    replace hx129_1 := (HB.out.cell (World.block_lt_of_cell? w _ hx129_1)).trans hx129_1
                    replace hx129_2 := (HB.out.cell (World.block_lt_of_cell? w _ hx129_2)).trans hx129_2
                    replace p129 := eq_true p129
                    replace q129 := eq_true q129
                    have hcz27_0 : wr.cell? ⟨gb128, 0, none⟩ = some (.slice A1_0 l1_0.length c1_0) := (blk_cell BK128.out 0).trans rfl
                    have hcz27_1 : wr.cell? ⟨gb128, 1, none⟩ = some (.bool a1_1) := (blk_cell BK128.out 1).trans rfl
                    have hcz27_2 : wr.cell? ⟨gb128, 2, none⟩ = some (.int .i64 a1_2) := (blk_cell BK128.out 2).trans rfl
                    have hfz27_0 := blk_frozen BK128.out 0
                    have hfz27_1 := blk_frozen BK128.out 1
                    have hfz27_2 := blk_frozen BK128.out 2
                    have p130 : 0 ≤ (x5_2 : Int) := of_decide_eq_true (by first | (with_reducible assumption) | assumption)
                    have q130 : x5_2 < (l1_0.length : Int) := of_decide_eq_true (by first | (with_reducible assumption) | assumption)
                    obtain ⟨ad130, e130, hx130_0, hx130_1, hx130_2⟩ := at_T46 HR1_0.out x5_2 p130 q130
                    cases e130
                    replace hx130_0 := (HB.out.cell (World.block_lt_of_cell? w _ hx130_0)).trans hx130_0
                    replace hx130_1 := (HB.out.cell (World.block_lt_of_cell? w _ hx130_1)).trans hx130_1
                    replace hx130_2 := (HB.out.cell (World.block_lt_of_cell? w _ hx130_2)).trans hx130_2
                    replace p130 := eq_true p130
                    replace q130 := eq_true q130
                    go_wp2
                    repeat (go_quiet (fail); try go_wp2)
                    go_roundg k2
                    case measure => have := HJ2.out; have := HK2.out; omega
                    case rel => exact ⟨(wrap64 (x5_2 + 1)), (by first | rfl | (simp; done) | (simp [*]; done)), H', ⟨by have := HJ2.out; have := HK2.out; omega⟩, ⟨by (with_reducible repeat (first | refine blk_drewN ?_ _ | refine blk_drew ?_ | refine blk_alloc ?_ _)); exact BK127.out⟩, ⟨by (with_reducible repeat (first | refine blk_drewN ?_ _ | refine blk_drew ?_ | refine blk_alloc ?_ _)); exact BK128.out⟩, ⟨by repeat (first | (with_reducible first | exact HB.out | apply below_alloc | apply pw_below_drewN | apply below_drew1 | refine below_set ?_ GE127.out | refine below_set ?_ GE128.out) | exact HB.out)⟩⟩
                · rw [if_neg c20] at H
                  exact absurd H (by simp)
              · rw [if_neg c19] at H
                exact absurd H (by simp)
            · rw [if_neg c18] at H
              have c18b0 : decide (x5_2 < (l0_0.length : Int)) = false := decide_eq_false c18
              clear c18
              obtain rfl := Option.some.inj H
              have hnb28 := NB127_128.out
              have hnc28 := NB128_127.out
              have hcz29_0 : wr.cell? ⟨gb127, 0, none⟩ = some (.slice A0_0 l0_0.length c0_0) := (blk_cell BK127.out 0).trans rfl
              have hcz29_1 : wr.cell? ⟨gb127, 1, none⟩ = some (.bool a0_1) := (blk_cell BK127.out 1).trans rfl
              have hcz29_2 : wr.cell? ⟨gb127, 2, none⟩ = some (.int .i64 a0_2) := (blk_cell BK127.out 2).trans rfl
              have hfz29_0 := blk_frozen BK127.out 0
              have hfz29_1 := blk_frozen BK127.out 1
              have hfz29_2 := blk_frozen BK127.out 2
              go_wp2
              repeat (go_quiet (fail); try go_wp2)
              go_ret
              exact ⟨by first | rfl | (simp [errW_none, errW_some] <;> rfl) | (simp [*, errW_none, errW_some] <;> rfl), by repeat (first | (with_reducible first | exact HB.out | apply below_alloc | apply pw_below_drewN | apply below_drew1 | refine below_set ?_ GE127.out | refine below_set ?_ GE128.out) | exact HB.out)⟩
end Go.Proofs.YtodalfobehddmaaDoor.Y.S
namespace Go.Proofs.YtodalfobehddmaaDoor.Y
open Go.RowKit Go.Proofs.YtodalfobehddmaaDoorW.PrintWords Go.Proofs.YtodalfobehddmaaDoorW.PrintLast Go.Proofs.YtodalfobehddmaaDoor.Mx
open Go.Proofs.YtodalfobehddmaaDoor.Z
def leapGreat : List UInt8 := [76, 101, 97, 112]
def expiresGreat : List UInt8 := [69, 120, 112, 105, 114, 101, 115]
def lateL : List UInt8 := [50, 51, 58, 53, 57, 58, 54, 48]
def earlyL : List UInt8 := [50, 51, 58, 53, 57, 58, 53, 57]
def lineW (l : S46) : List UInt8 := writeL leapGreat l.f0 [if l.f1 < 0 then earlyL else lateL, if l.f1 < 0 then [45] else [43], if l.f2 = true then [82] else [83]]
def clockT (sec : Int) : List UInt8 := two (stampClock sec).1 ++ [58] ++ two (stampClock sec).2.1 ++ [58] ++ two (stampClock sec).2.2.1
def expiryW (exp : Int) : List UInt8 := writeL expiresGreat (exp / 86400) [clockT (exp % 86400)]
def textOf (l : List S46) (has : Bool) (exp : Int) : List UInt8 := (l.map lineW).flatten ++ (if has = true then expiryW exp else [])
def textL (l : List S46) (has : Bool) (exp : Int) : List UInt8 × Bool := if rightN l has exp = true then (textOf l has exp, true) else ([], false)
instance decS46 : DecidableEq S46 := fun x y => decidable_of_iff (x.f0 = y.f0 ∧ x.f1 = y.f1 ∧ x.f2 = y.f2) (by
  obtain ⟨a, b, c⟩ := x
  obtain ⟨a', b', c'⟩ := y
  simp)
theorem scanN_right : ∀ (l : List S46) (k a b : Int), scanN k a l = .inr b → (∀ x ∈ l, 730 ≤ x.f0 ∧ x.f0 < 2932896 ∧ (x.f1 = 1 ∨ x.f1 = -1)) ∧ (l = [] ∨ k + l.length ≤ 200)
  | [], k, a, b, h => ⟨(fun x hx => by cases hx), .inl rfl⟩
  | x :: t, k, a, b, h => by
    rw [scanN] at h
    split at h
    · rename_i hw
      have hz := wrongN_zero hw
      have ih := scanN_right t (k + 1) x.f0 b h
      refine ⟨fun y hy => ?_, .inr ?_⟩
      · rcases List.mem_cons.1 hy with rfl | hy
        · exact ⟨hz.2.1, hz.2.2.1, hz.2.2.2.2.1⟩
        · exact ih.1 y hy
      · rcases ih.2 with rfl | h2
        · simp; omega
        · simp at *; omega
    · cases h
theorem rightN_scan {l : List S46} {has : Bool} {exp : Int} (h : rightN l has exp = true) : ∃ a, scanN 0 729 l = .inr a ∧ endsN a has exp = true := by
  unfold rightN checkN at h
  split at h
  · rename_i r hr
    exfalso
    have : ∀ (l : List S46) (k a : Int) (r : Int × Int), scanN k a l = .inl r → r.2 ≠ 0 := by
      intro l
      induction l with
      | nil => intro k a r h; cases h
      | cons x t ih =>
        intro k a r h
        rw [scanN] at h
        split at h
        · exact ih _ _ _ h
        · rename_i hw
          injection h with h
          subst h
          exact hw
    exact this l 0 729 r hr (by simpa using h)
  · rename_i a ha
    refine ⟨a, ha, ?_⟩
    by_cases he : endsN a has exp = true
    · exact he
    · rw [if_neg he] at h
      simp at h
theorem right_length {l : List S46} {has : Bool} {exp : Int} (h : rightN l has exp = true) : l.length ≤ 200 := by
  obtain ⟨a, ha, _⟩ := rightN_scan h
  rcases (scanN_right l _ _ _ ha).2 with rfl | h2
  · simp
  · omega
theorem right_expires {l : List S46} {exp : Int} (h : rightN l true exp = true) : 63072000 ≤ exp ∧ exp ≤ 253402300799 := by
  obtain ⟨a, ha, he⟩ := rightN_scan h
  unfold endsN at he
  simp at he
  exact ⟨he.2.1, he.2.2⟩
theorem monL_length (m : Int) : (monL m).length ≤ 3 := by
  unfold monL
  split <;> simp
theorem writeL_length (kind : List UInt8) (d : Int) (hd : inDays d) (rest : List (List UInt8)) (hk : kind.length ≤ 1000) (hl : rest.length ≤ 3) (hs : ∀ x ∈ rest, x.length ≤ 1000) : (writeL kind d rest).length ≤ 8000 := by
  obtain ⟨y0, y1, m0, m1, d0, d1⟩ := dateRange d hd
  have hJ := join_le 1000 ([kind, Lib.itoa (dateY d), monL (dateM d), Lib.itoa (dateD d)] ++ rest) [9] (by
    intro x hx
    rcases List.mem_append.1 hx with hx | hx
    · simp only [List.mem_cons, List.mem_nil_iff, or_false] at hx
      rcases hx with rfl | rfl | rfl | rfl
      · exact hk
      · have := Lib.itoa_length_le (dateY d) (by omega) (by omega); omega
      · have := monL_length (dateM d); omega
      · have := Lib.itoa_length_le (dateD d) (by omega) (by omega); omega
    · exact hs x hx)
  unfold writeL
  rw [List.length_append]
  simp only [List.length_cons, List.length_nil, List.length_append] at *
  have : (0 + 1 + 1 + 1 + 1 + rest.length) * (1000 + (0 + 1)) ≤ 7 * 1001 := Nat.mul_le_mul (by omega) (by omega)
  omega
theorem write_f (kind : ByteArray) (d : Int) (rest : List ByteArray) (hd : inDays d) (hk : kind.size ≤ 1000) (hl : rest.length ≤ 3) (hs : ∀ x ∈ rest, x.size ≤ 1000) : zic_write.f kind d rest = some (mkB (writeL kind.data.toList d (rest.map (·.data.toList)))) := by
  unfold zic_write.f
  exact if_pos ⟨hd, hk, hl, hs⟩
theorem mkB_app (a b : List UInt8) : mkB a ++ mkB b = mkB (a ++ b) := by
  apply ByteArray.ext
  apply Array.ext'
  simp [mkB]
theorem rd46 (l : List S46) (i : Nat) (h : i < l.length) : rd_T46 l (i : Int) = l[i] := by
  unfold rd_T46
  rw [Int.toNat_natCast, List.getD_eq_getElem?_getD, List.getElem?_eq_getElem h]
  rfl
theorem lineW_length (x : S46) (h : 730 ≤ x.f0 ∧ x.f0 < 2932896) : (lineW x).length ≤ 8000 := by
  refine writeL_length _ _ ⟨by omega, by omega⟩ _ (by decide) (by simp) ?_
  intro y hy
  simp only [List.mem_cons, List.mem_nil_iff, or_false] at hy
  rcases hy with rfl | rfl | rfl <;> split <;> decide
theorem text_loop (l : List S46) (has : Bool) (exp : Int) (hr : rightN l has exp = true) : ∀ (j i k : Nat) (s : List UInt8), l.length - i = j → i ≤ l.length → j < k → s.length ≤ 8000 * i →
    S.zic_Text.l0 k (mkB s) l (l.length : Int) i l has exp = some (mkB (s ++ ((l.drop i).map lineW).flatten ++ (if has = true then expiryW exp else [])), true) := by
  have hlen := right_length hr
  obtain ⟨a, ha, he⟩ := rightN_scan hr
  have hsc := (scanN_right l _ _ _ ha).1
  intro j
  induction j with
  | zero =>
    intro i k s hj hi hk hs
    obtain ⟨k, rfl⟩ : ∃ m, k = m + 1 := ⟨k - 1, by omega⟩
    have e : i = l.length := by omega
    subst e
    simp only [S.zic_Text.l0]
    rw [if_neg (by omega), List.drop_of_length_le (Nat.le_refl _)]
    simp only [List.map_nil, List.flatten_nil, List.append_nil]
    cases has with
    | false => simp
    | true =>
      obtain ⟨x0, x1⟩ := right_expires hr
      have e1 : wrap64 (Int.tdiv exp 86400) = exp / 86400 := by
        rw [Int.tdiv_eq_ediv_of_nonneg (by omega), wrap_id] <;> omega
      have e2 : Int.tmod exp 86400 = exp % 86400 := Int.tmod_eq_emod_of_nonneg (by omega)
      have hd : inDays (exp / 86400) := ⟨by omega, by omega⟩
      rw [if_pos rfl, if_pos rfl, e1, e2]
      unfold stamp_Text.f
      rw [if_pos ⟨hd, by omega, by omega⟩]
      simp only [Option.bind_some]
      have hsz : (mkB (stampT (exp / 86400) (exp % 86400))).size = 20 := rfl
      have hex : (mkB (stampT (exp / 86400) (exp % 86400))).extract 11 19 = mkB (clockT (exp % 86400)) := by
        apply ByteArray.ext
        rw [ByteArray.data_extract]
        apply Array.ext'
        rw [Array.toList_extract]
        rfl
      have hcl : (clockT (exp % 86400)).length = 8 := rfl
      have hwl := writeL_length expiresGreat (exp / 86400) hd [clockT (exp % 86400)] (by decide) (by simp) (by intro x hx; simp at hx; subst hx; omega)
      rw [if_pos (by decide), hsz, if_pos (by decide), hex, write_f _ _ _ hd (by decide) (by simp) (by intro x hx; simp at hx; subst hx; show (clockT (exp % 86400)).length ≤ 1000; omega)]
      simp only [Option.bind_some]
      have e3 : writeL (⟨#[69, 120, 112, 105, 114, 101, 115]⟩ : ByteArray).data.toList (exp / 86400) ([mkB (clockT (exp % 86400))].map (·.data.toList)) = expiryW exp := rfl
      rw [e3, if_pos (by show s.length + (expiryW exp).length ≤ _; unfold expiryW; omega), mkB_app]
  | succ j ih =>
    intro i k s hj hi hk hs
    obtain ⟨k, rfl⟩ : ∃ m, k = m + 1 := ⟨k - 1, by omega⟩
    have hlt : i < l.length := by omega
    have hx := hsc l[i] (List.getElem_mem hlt)
    have hd : inDays l[i].f0 := ⟨by omega, by omega⟩
    have hll := lineW_length l[i] ⟨hx.1, hx.2.1⟩
    simp only [S.zic_Text.l0]
    rw [if_pos (by omega), if_pos (by omega), if_pos (by omega), rd46 l i hlt, List.drop_eq_getElem_cons hlt, wrap_id ((i : Int) + 1) (by omega) (by omega)]
    have hih := ih (i + 1) k (s ++ lineW l[i]) (by omega) (by omega) (by omega) (by rw [List.length_append]; omega)
    rw [List.map_cons, List.flatten_cons, ← List.append_assoc]
    have hone : ∀ (a b c : List UInt8), (if l[i].f1 < 0 then earlyL else lateL) = a → (if l[i].f1 < 0 then [45] else [43]) = b → (if l[i].f2 = true then [82] else [83]) = c →
        ((zic_write.f (⟨#[76, 101, 97, 112]⟩ : ByteArray) l[i].f0 [mkB a, mkB b, mkB c]).bind fun t => if (mkB s).size + t.size ≤ 9223372036854775807 then S.zic_Text.l0 k (mkB s ++ t) l (l.length : Int) ((i : Int) + 1) l has exp else none) = some (mkB (s ++ lineW l[i] ++ ((l.drop (i + 1)).map lineW).flatten ++ (if has = true then expiryW exp else [])), true) := by
      intro a b c ha hb hc
      rw [write_f _ _ _ hd (by show 4 ≤ 1000; decide) (by simp) (by
        intro x hx
        simp only [List.mem_cons, List.mem_nil_iff, or_false] at hx
        rcases hx with rfl | rfl | rfl
        · show a.length ≤ 1000; rw [← ha]; split <;> decide
        · show b.length ≤ 1000; rw [← hb]; split <;> decide
        · show c.length ≤ 1000; rw [← hc]; split <;> decide)]
      simp only [Option.bind_some]
      have e3 : writeL (⟨#[76, 101, 97, 112]⟩ : ByteArray).data.toList l[i].f0 ([mkB a, mkB b, mkB c].map (·.data.toList)) = lineW l[i] := by
        unfold lineW
        rw [ha, hb, hc]
        rfl
      rw [e3, if_pos (by show s.length + (lineW l[i]).length ≤ _; omega), mkB_app]
      exact hih
    by_cases h1 : l[i].f1 < 0
    · rw [if_pos h1]
      by_cases h2 : l[i].f2 = true
      · rw [if_pos h2]
        exact hone earlyL [45] [82] (if_pos h1) (if_pos h1) (if_pos h2)
      · rw [if_neg h2]
        exact hone earlyL [45] [83] (if_pos h1) (if_pos h1) (if_neg h2)
    · rw [if_neg h1]
      by_cases h2 : l[i].f2 = true
      · rw [if_pos h2]
        exact hone lateL [43] [82] (if_neg h1) (if_neg h1) (if_pos h2)
      · rw [if_neg h2]
        exact hone lateL [43] [83] (if_neg h1) (if_neg h1) (if_neg h2)
theorem text_at (l : List S46) (has : Bool) (exp : Int) (hl : l.length ≤ 4611686018427387904) (k : Nat) (hk : l.length < k) : S.zic_Text.f k l has exp = some (mkB (textL l has exp).1, (textL l has exp).2) := by
  unfold S.zic_Text.f leap_Right.f textL
  rw [if_pos hl]
  simp only [Option.bind_some]
  by_cases hr : rightN l has exp = true
  · rw [if_pos hr, if_pos hr]
    have h := text_loop l has exp hr l.length 0 k [] (by omega) (by omega) hk (by simp)
    rw [show (⟨#[]⟩ : ByteArray) = mkB [] from rfl, show (0 : Int) = ((0 : Nat) : Int) from rfl, h]
    rfl
  · rw [if_neg hr, if_neg hr]
    rfl
def zic_Text.f (l0_0 : List (S46)) (a0_1 : Bool) (a0_2 : Int) : Option (ByteArray × Bool) := if l0_0.length ≤ 4611686018427387904 then some (mkB (textL l0_0 a0_1 a0_2).1, (textL l0_0 a0_1 a0_2).2) else none
theorem zic_Text.calls (A0_0 : Option Addr) (c0_0 : Nat) (l0_0 : List (S46)) (a0_1 : Bool) (a0_2 : Int) (r1 : ByteArray) (r2 : Bool) (w : World) (hr0_0 : Kd.C k46 w A0_0 l0_0.length l0_0) (hc0_0 : l0_0.length ≤ c0_0) (h : zic_Text.f l0_0 a0_1 a0_2 = some (r1, r2)) (hG : Gl w) :
    Calls Tryd.prog 13 #[.agg #[.slice A0_0 l0_0.length c0_0, .bool a0_1, .int .i64 a0_2]] w fun e w' => e = .returned (.tuple #[.string r1, .bool r2]) ∧ Below w.heap.size w w' := by
  unfold zic_Text.f at h
  split at h
  · rename_i hl
    exact S.zic_Text.calls (l0_0.length + 1) A0_0 c0_0 l0_0 a0_1 a0_2 r1 r2 w hr0_0 hc0_0 (by rw [text_at _ _ _ hl _ (by omega)]; exact h) hG
  · cases h
def sameN (l : List S46) (has : Bool) (exp : Int) (m : List S46) (hasm : Bool) (expm : Int) : Bool := decide (l = m ∧ has = hasm ∧ exp = expm)
theorem s46_eq (x y : S46) : (!((x.f0) == (y.f0)) || (!((x.f1) == (y.f1)) || (!((x.f2) == (y.f2))))) = !decide (x = y) := by
  obtain ⟨a, b, c⟩ := x
  obtain ⟨a', b', c'⟩ := y
  by_cases h1 : a = a'
  · by_cases h2 : b = b'
    · by_cases h3 : c = c' <;> simp [h1, h2, h3]
    · simp [h1, h2]
  · simp [h1]
theorem same_loop (l : List S46) (has : Bool) (exp : Int) (m : List S46) (hasm : Bool) (expm : Int) (hlm : l.length = m.length) (hlen : l.length ≤ 4611686018427387904) : ∀ (j i k : Nat), l.length - i = j → i ≤ l.length → j < k →
    S.epactref09_Same.l0 k i l has exp m hasm expm = some (decide (l.drop i = m.drop i)) := by
  intro j
  induction j with
  | zero =>
    intro i k hj hi hk
    obtain ⟨k, rfl⟩ : ∃ m, k = m + 1 := ⟨k - 1, by omega⟩
    simp only [S.epactref09_Same.l0]
    rw [if_neg (by omega), List.drop_of_length_le (by omega), List.drop_of_length_le (by omega)]
    simp
  | succ j ih =>
    intro i k hj hi hk
    obtain ⟨k, rfl⟩ : ∃ m, k = m + 1 := ⟨k - 1, by omega⟩
    have hlt : i < l.length := by omega
    have hlt2 : i < m.length := by omega
    simp only [S.epactref09_Same.l0]
    rw [if_pos (by omega), if_pos (by omega), if_pos (by omega), rd46 l i hlt, rd46 m i hlt2, s46_eq, List.drop_eq_getElem_cons hlt, List.drop_eq_getElem_cons hlt2, wrap_id ((i : Int) + 1) (by omega) (by omega)]
    by_cases h : l[i] = m[i]
    · rw [decide_eq_true h, if_neg (by decide)]
      have := ih (i + 1) k (by omega) (by omega) (by omega)
      rw [show ((i : Int) + 1) = ((i + 1 : Nat) : Int) by omega, this]
      congr 1
      rw [decide_eq_decide, h]
      constructor
      · intro e
        rw [e]
      · intro e
        injection e
    · rw [decide_eq_false h, if_pos (by decide)]
      congr 1
      symm
      rw [decide_eq_false_iff_not]
      intro hh
      injection hh with h1 h2
      exact h h1
theorem same_at (l : List S46) (has : Bool) (exp : Int) (m : List S46) (hasm : Bool) (expm : Int) (hlen : l.length ≤ 4611686018427387904) (k : Nat) (hk : l.length + 1 < k) :
    S.epactref09_Same.f k l has exp m hasm expm = some (sameN l has exp m hasm expm) := by
  obtain ⟨k, rfl⟩ : ∃ m, k = m + 1 := ⟨k - 1, by omega⟩
  unfold S.epactref09_Same.f sameN
  by_cases h1 : l.length = m.length
  · rw [if_pos (by omega)]
    have hL := same_loop l has exp m hasm expm h1 hlen l.length 0 k (by omega) (by omega) (by omega)
    simp only [List.drop_zero] at hL
    by_cases h2 : has = hasm
    · subst h2
      rw [if_neg (by simp)]
      simp only [S.epactref09_Same.j0]
      by_cases h3 : exp = expm
      · subst h3
        rw [if_neg (by simp)]
        rw [show (0 : Int) = ((0 : Nat) : Int) from rfl, hL]
        congr 1
        rw [decide_eq_decide]
        simp
      · rw [if_pos (by simpa using h3)]
        congr 1
        symm
        rw [decide_eq_false_iff_not]
        exact fun h => h3 h.2.2
    · rw [if_pos (by simpa using h2)]
      simp only [S.epactref09_Same.j0]
      rw [if_pos trivial]
      congr 1
      symm
      rw [decide_eq_false_iff_not]
      exact fun h => h2 h.2.1
  · rw [if_neg (by omega)]
    simp only [S.epactref09_Same.j0]
    rw [if_pos trivial]
    congr 1
    symm
    rw [decide_eq_false_iff_not]
    exact fun h => h1 (by rw [h.1])
def epactref09_Same.f (l0_0 : List (S46)) (a0_1 : Bool) (a0_2 : Int) (l1_0 : List (S46)) (a1_1 : Bool) (a1_2 : Int) : Option (Bool) := if l0_0.length ≤ 4611686018427387904 then some (sameN l0_0 a0_1 a0_2 l1_0 a1_1 a1_2) else none
theorem epactref09_Same.calls (A0_0 : Option Addr) (c0_0 : Nat) (l0_0 : List (S46)) (a0_1 : Bool) (a0_2 : Int) (A1_0 : Option Addr) (c1_0 : Nat) (l1_0 : List (S46)) (a1_1 : Bool) (a1_2 : Int) (r : Bool) (w : World) (hr0_0 : Kd.C k46 w A0_0 l0_0.length l0_0) (hc0_0 : l0_0.length ≤ c0_0) (hr1_0 : Kd.C k46 w A1_0 l1_0.length l1_0) (hc1_0 : l1_0.length ≤ c1_0) (h : epactref09_Same.f l0_0 a0_1 a0_2 l1_0 a1_1 a1_2 = some r) :
    Calls Tryd.prog 16 #[.agg #[.slice A0_0 l0_0.length c0_0, .bool a0_1, .int .i64 a0_2], .agg #[.slice A1_0 l1_0.length c1_0, .bool a1_1, .int .i64 a1_2]] w fun e w' => e = .returned (.bool r) ∧ Below w.heap.size w w' := by
  unfold epactref09_Same.f at h
  split at h
  · rename_i hl
    exact S.epactref09_Same.calls (l0_0.length + 2) A0_0 c0_0 l0_0 a0_1 a0_2 A1_0 c1_0 l1_0 a1_1 a1_2 r w hr0_0 hc0_0 hr1_0 hc1_0 (by rw [same_at _ _ _ _ _ _ hl _ (by omega)]; exact h)
  · cases h
end Go.Proofs.YtodalfobehddmaaDoor.Y
namespace Go.Proofs.YtodalfobehddmaaDoor.Y
open Go.RowKit Go.Proofs.YtodalfobehddmaaDoorW.PrintWords Go.Proofs.YtodalfobehddmaaDoorW.PrintLast Go.Proofs.YtodalfobehddmaaDoor.Mx
attribute [local go_sem] max2_int min2_int max_two min_two max_three min_three   -- for this text's walks alone
open Go.Proofs.YtodalfobehddmaaDoor.Z
end Go.Proofs.YtodalfobehddmaaDoor.Y
namespace Go.Proofs.YtodalfobehddmaaDoor.Z
open Go.RowKit Go.Proofs.YtodalfobehddmaaDoorW.PrintWords Go.Proofs.YtodalfobehddmaaDoorW.PrintLast Go.Proofs.YtodalfobehddmaaDoor.Mx
theorem infoLeap : (Tryd.prog.info? 46).map (fun i => (i.zero, i.size, i.bytes)) = some (some (.agg #[(.int .i64 0), (.int .i64 0), (.bool false)]), 3, 24) := by kernel_rfl
def api_Leap.f (l0 : List S46) : Option (List S46) := if l0.length ≤ 5864062014805 then some l0 else none
set_option maxHeartbeats 1000000 in
set_option maxRecDepth 100000 in
theorem api_Leap.calls (A0 : Option Addr) (c0 : Nat) (l0 : List S46) (r : List S46) (w : World) (hr0 : Kd.C k46 w A0 l0.length l0) (hc0 : l0.length ≤ c0) (h : api_Leap.f l0 = some r) :
    Calls Tryd.prog 99 #[.slice A0 l0.length c0] w fun e w' => ∃ v0_ : Value, e = .returned (v0_) ∧ Kd.R k46 46 w' w.heap.size (fun _ => True) v0_ r ∧ Below w.heap.size w w' := by
  unfold api_Leap.f at h
  split at h
  · rename_i hn
    obtain rfl := Option.some.inj h
    have HR := Aside0.mk hr0
    have heq := fun w : World => run_eql_slice_nil (P := Tryd.prog) w 22 46 A0 l0.length c0 Tryd.underlying22
    clear hr0 h
    cases A0 with
    | none =>
      have hl : l0 = [] := by
        rcases Nat.eq_zero_or_pos l0.length with h0 | h0
        · exact List.eq_nil_of_length_eq_zero h0
        · obtain ⟨ad, h, _⟩ := HR.out.2.2 h0
          cases h
      subst hl
      simp only [Option.isNone_none, List.length_nil] at heq
      go_enter Tryd.func99, Tryd.ntmps99
      go_wp2_with fail
      go_ret
      exact ⟨_, rfl, Kd.R_nil _ _ _ _ _, Below.refl _ _⟩
    | some ad =>
      simp only [Option.isNone_some] at heq
      have HO : Aside0 (Kd.R k46 46 (w.alloc (.cells #[] 46)) w.heap.size (fun _ => True) (.slice (some ⟨w.heap.size, 0, none⟩) 0 0) ([] : List S46)) := ⟨⟨fun _ _ => trivial, [], ⟨rfl, .inr ⟨w.heap.size, 0, #[], rfl, Nat.le_refl _, by show (w.heap.push _)[w.heap.size]? = _; simp, Nat.le_refl _, by unfold maxLen; omega, rfl, rfl⟩⟩, ⟨rfl, fun j p h => by simp at h⟩⟩⟩
      have HN := Aside0.mk hn
      go_enter Tryd.func99, Tryd.ntmps99
      go_wp2_with (at_builtin; refine Kd.R_append_rows k46 (w0 := w) w.heap.size rfl (.tmp 5) (.tmp 6) 22 46 (.agg #[(.int .i64 0), (.int .i64 0), (.bool false)]) 24 rfl Tryd.underlying22 infoLeap rfl (by decide) (by omega) (.slice (some ⟨w.heap.size, 0, none⟩) 0 0) [] l0 (some ad) l0.length c0 (fun _ => True) (fun _ => False) rfl rfl HO.out (Kd.C_alloc HR.out _) (fun _ _ h => h) (fun _ h => h.elim) (fun _ _ => trivial) ((Below.refl _ _).alloc (Nat.le_refl _) _) (by simp) (by have := HN.out; simp only [List.length_nil]; omega) ?_; intro v1 w1 ho hb hg hat; have HRR := Aside0.mk ho; have HBB := Aside0.mk hb; clear ho hb hg hat)
      all_goals
        go_ret
        exact ⟨_, rfl, HRR.out, HBB.out⟩
  · cases h
end Go.Proofs.YtodalfobehddmaaDoor.Z
namespace Go.Proofs.YtodalfobehddmaaDoor.Y
open Go.RowKit Go.Proofs.YtodalfobehddmaaDoorW.PrintWords Go.Proofs.YtodalfobehddmaaDoorW.PrintLast Go.Proofs.YtodalfobehddmaaDoor.Mx
attribute [local go_sem] max2_int min2_int max_two min_two max_three min_three   -- for this text's walks alone
open Go.Proofs.YtodalfobehddmaaDoor.Z
def leap_Add.f (l0_0 : List (S46)) (a0_1 : Bool) (a0_2 : Int) (a1_0 : Int) (a1_1 : Int) (a1_2 : Bool) : Option ((List (S46)) × Bool × Int × Int) := (api_Leap.f l0_0).bind fun t105 => ((some (([(⟨a1_0, a1_1, a1_2⟩ : S46)] : List (S46)) : List (S46))).bind fun y108 => (if t105.length + y108.length < 5864062014805 then ((some (t105 ++ y108 : List (S46))).bind fun y111 => ((leap_Check.f y111 a0_1 a0_2).bind fun bt114 => (if bt114.2 = 0 then (some (y111, a0_1, a0_2, 0)) else (none)))) else (none)))
def leap_Add.T3 : Bool × List (List Nat × List Nat) := (true, [([], []), ([0], [0]), ([1], [1]), ([], []), ([3], [3]), ([2, 4, 2], [2, 4]), ([0, 1, 2, 3, 4, 5], []), ([6, 5, 5, 0, 1, 2, 3, 4, 5], [5, 6])])
def leap_Add.B3 : List Nat := [0, 1, 3, 0, 8, 31, 63, 127]
theorem leap_Add.tab3 : rtab .any (opsOf Tryd.f80 3) = leap_Add.T3 := by kernel_rfl
theorem leap_Add.bits3 : waitsOk leap_Add.T3.2 leap_Add.B3 = true := by kernel_rfl
set_option maxHeartbeats 8000000 in
set_option maxRecDepth 100000 in
theorem leap_Add.calls (A0_0 : Option Addr) (c0_0 : Nat) (l0_0 : List (S46)) (a0_1 : Bool) (a0_2 : Int) (a1_0 : Int) (a1_1 : Int) (a1_2 : Bool) (r1 : List (S46)) (r2 : Bool) (r3 : Int) (r4 : Int) (w : World) (hr0_0 : Kd.C k46 w A0_0 l0_0.length l0_0) (hc0_0 : l0_0.length ≤ c0_0) (h : leap_Add.f l0_0 a0_1 a0_2 a1_0 a1_1 a1_2 = some (r1, r2, r3, r4)) :
    Calls Tryd.prog 80 #[.agg #[.slice A0_0 l0_0.length c0_0, .bool a0_1, .int .i64 a0_2], .agg #[.int .i64 a1_0, .int .i64 a1_1, .bool a1_2]] w fun e w' => ∃ v0_ : Value, e = .returned (.tuple #[.agg #[v0_, .bool r2, .int .i64 r3], .int .i64 r4]) ∧ Kd.R k46 46 w' w.heap.size (fun _ => True) v0_ r1 ∧ Below w.heap.size w w' := by
  have hu24 := Tryd.underlying24
  have hu46 := Tryd.underlying46
  have HR0_0 := Aside0.mk hr0_0
  have HC0_0 := Aside0.mk hc0_0
  clear hr0_0 hc0_0
  have HB := Aside0.mk (Below.refl w.heap.size w)
  have H : ((api_Leap.f l0_0).bind fun t105 => ((some (([(⟨a1_0, a1_1, a1_2⟩ : S46)] : List (S46)) : List (S46))).bind fun y108 => (if t105.length + y108.length < 5864062014805 then ((some (t105 ++ y108 : List (S46))).bind fun y111 => ((leap_Check.f y111 a0_1 a0_2).bind fun bt114 => (if bt114.2 = 0 then (some (y111, a0_1, a0_2, 0)) else (none)))) else (none)))) = some (r1, r2, r3, r4) := h
  clear h
  replace H := Option.bind_eq_some_iff.mp H
  obtain ⟨t105, A30, H⟩ := H
  replace H : ((some (([(⟨a1_0, a1_1, a1_2⟩ : S46)] : List (S46)) : List (S46))).bind fun y108 => (if t105.length + y108.length < 5864062014805 then ((some (t105 ++ y108 : List (S46))).bind fun y111 => ((leap_Check.f y111 a0_1 a0_2).bind fun bt114 => (if bt114.2 = 0 then (some (y111, a0_1, a0_2, 0)) else (none)))) else (none))) = some (r1, r2, r3, r4) := H
  have A3 := Aside0.mk A30
  clear A30
  obtain ⟨y108, hy108⟩ : ∃ y_ : List (S46), y_ = (([(⟨a1_0, a1_1, a1_2⟩ : S46)] : List (S46))) := ⟨_, rfl⟩
  replace H : (if t105.length + y108.length < 5864062014805 then ((some (t105 ++ y108 : List (S46))).bind fun y111 => ((leap_Check.f y111 a0_1 a0_2).bind fun bt114 => (if bt114.2 = 0 then (some (y111, a0_1, a0_2, 0)) else (none)))) else (none)) = some (r1, r2, r3, r4) := by first | (rw [hy108]; with_reducible exact H) | (have H2_ := (Option.bind_some _ _).symm.trans H; rw [hy108]; with_reducible exact H2_) | (have H2_ := (Option.bind_some _ _).symm.trans H; with_reducible exact H2_) | with_reducible exact H | (rw [hy108]; exact H) | exact H
  have Ny108 := Aside0.mk hy108
  clear hy108
  by_cases c4 : t105.length + y108.length < 5864062014805
  · rw [if_pos c4] at H
    have LMc4 := Aside0.mk c4
    clear c4
    obtain ⟨y111, hy111⟩ : ∃ y_ : List (S46), y_ = (t105 ++ y108) := ⟨_, rfl⟩
    replace H : ((leap_Check.f y111 a0_1 a0_2).bind fun bt114 => (if bt114.2 = 0 then (some (y111, a0_1, a0_2, 0)) else (none))) = some (r1, r2, r3, r4) := by first | (rw [hy111]; with_reducible exact H) | (have H2_ := (Option.bind_some _ _).symm.trans H; rw [hy111]; with_reducible exact H2_) | (have H2_ := (Option.bind_some _ _).symm.trans H; with_reducible exact H2_) | with_reducible exact H | (rw [hy111]; exact H) | exact H
    have Ny111 := Aside0.mk hy111
    clear hy111
    replace H := Option.bind_eq_some_iff.mp H
    obtain ⟨⟨t114, t115⟩, A50, H⟩ := H
    replace H : (if t115 = 0 then (some (y111, a0_1, a0_2, 0)) else (none)) = some (r1, r2, r3, r4) := H
    have A5 := Aside0.mk A50
    clear A50
    by_cases c6 : t115 = 0
    · rw [if_pos c6] at H
      have c6b0 : (t115 == 0) = true := beq_iff_eq.mpr c6
      have c6b1 : (t115 != 0) = false := bne_eq_false_iff_eq.mpr c6
      clear c6
      simp only [Option.some.injEq, Prod.mk.injEq] at H
      obtain ⟨rfl, rfl, rfl, rfl⟩ := H
      go_enter Tryd.func80, Tryd.ntmps80
      try go_wp2_with (first | ((with_reducible refine gate_dst (N := 2) rfl ?_); refine box_event ?hg (N := 2) ?hd (cs := #[.slice A0_0 l0_0.length c0_0, .bool a0_1, .int .i64 a0_2]) (t := 24) ?hr ?_; (case hd => rfl); (case hg => rfl); (case hr => first | (go_simp; done) | (go_simp; rfl)); intro gb101 hg w7 hbox hb; have n0_ := Aside0.mk (below_step (by repeat (first | (with_reducible first | exact HB.out | apply below_alloc | apply pw_below_drewN | apply below_drew1) | exact HB.out)) hb); have n1_ := Aside0.mk (hbox); have n2_ := Aside0.mk ((by rw [hg]; exact (below_size (by repeat (first | (with_reducible first | exact HB.out | apply below_alloc | apply pw_below_drewN | apply below_drew1) | exact HB.out))) : w.heap.size ≤ gb101)); have n3_ := Aside0.mk ((by rw [hg]; exact (below_size (by repeat (first | (with_reducible first | exact HB.out | apply below_alloc | apply pw_below_drewN | apply below_drew1) | exact HB.out))) : w.heap.size ≤ gb101)); clear HB; have HB := n0_; have BK101 := n1_; have GW101 := n2_; have GE101 := n3_; clear n0_ n1_ n2_ n3_; clear hb hbox hg) | ((with_reducible refine gate_dst (N := 3) rfl ?_); refine box_event ?hg (N := 3) ?hd (cs := #[.int .i64 a1_0, .int .i64 a1_1, .bool a1_2]) (t := 46) ?hr ?_; (case hd => rfl); (case hg => rfl); (case hr => first | (go_simp; done) | (go_simp; rfl)); intro gb102 hg w8 hbox hb; have n0_ := Aside0.mk (blk_below (g := gb101) (o := .cells #[.slice A0_0 l0_0.length c0_0, .bool a0_1, .int .i64 a0_2] 24 (0, 0)) (by (with_reducible repeat (first | refine blk_drewN ?_ _ | refine blk_drew ?_ | refine blk_alloc ?_ _)); exact BK101.out) hb); have n1_ := Aside0.mk (below_step (by repeat (first | (with_reducible first | exact HB.out | apply below_alloc | apply pw_below_drewN | apply below_drew1 | refine below_set ?_ GE101.out) | exact HB.out)) hb); have n2_ := Aside0.mk (hbox); have n3_ := Aside0.mk ((by rw [hg]; exact (below_size (by repeat (first | (with_reducible first | exact HB.out | apply below_alloc | apply pw_below_drewN | apply below_drew1 | refine below_set ?_ GE101.out) | exact HB.out))) : w.heap.size ≤ gb102)); have n4_ := Aside0.mk ((by rw [hg]; exact (below_size (by repeat (first | (with_reducible first | exact HB.out | apply below_alloc | apply pw_below_drewN | apply below_drew1 | refine below_set ?_ GE101.out) | exact HB.out))) : w.heap.size ≤ gb102)); have n5_ := Aside0.mk ((by rw [hg]; exact Nat.ne_of_lt (blk_lt (g := gb101) (o := .cells #[.slice A0_0 l0_0.length c0_0, .bool a0_1, .int .i64 a0_2] 24 (0, 0)) (by (with_reducible repeat (first | refine blk_drewN ?_ _ | refine blk_drew ?_ | refine blk_alloc ?_ _)); exact BK101.out)) : gb101 ≠ gb102)); have n6_ := Aside0.mk ((by rw [hg]; exact Nat.ne_of_gt (blk_lt (g := gb101) (o := .cells #[.slice A0_0 l0_0.length c0_0, .bool a0_1, .int .i64 a0_2] 24 (0, 0)) (by (with_reducible repeat (first | refine blk_drewN ?_ _ | refine blk_drew ?_ | refine blk_alloc ?_ _)); exact BK101.out)) : gb102 ≠ gb101)); clear BK101; clear HB; have BK101 := n0_; have HB := n1_; have BK102 := n2_; have GW102 := n3_; have GE102 := n4_; have NB101_102 := n5_; have NB102_101 := n6_; clear n0_ n1_ n2_ n3_ n4_ n5_ n6_; clear hb hbox hg) | ((with_reducible refine gate_dst (N := 4) rfl ?_); refine box_event ?hg (N := 4) ?hd (cs := #[.slice none 0 0, .bool false, .int .i64 0]) (t := 24) ?hr ?_; (case hd => rfl); (case hg => rfl); (case hr => first | (go_simp; done) | (go_simp; rfl)); intro gb103 hg w9 hbox hb; have n0_ := Aside0.mk (blk_below (g := gb101) (o := .cells #[.slice A0_0 l0_0.length c0_0, .bool a0_1, .int .i64 a0_2] 24 (0, 0)) (by (with_reducible repeat (first | refine blk_drewN ?_ _ | refine blk_drew ?_ | refine blk_alloc ?_ _)); exact BK101.out) hb); have n1_ := Aside0.mk (blk_below (g := gb102) (o := .cells #[.int .i64 a1_0, .int .i64 a1_1, .bool a1_2] 46 (0, 0)) (by (with_reducible repeat (first | refine blk_drewN ?_ _ | refine blk_drew ?_ | refine blk_alloc ?_ _)); exact BK102.out) hb); have n2_ := Aside0.mk (below_step (by repeat (first | (with_reducible first | exact HB.out | apply below_alloc | apply pw_below_drewN | apply below_drew1 | refine below_set ?_ GE101.out | refine below_set ?_ GE102.out) | exact HB.out)) hb); have n3_ := Aside0.mk (hbox); have n4_ := Aside0.mk ((by rw [hg]; exact (below_size (by repeat (first | (with_reducible first | exact HB.out | apply below_alloc | apply pw_below_drewN | apply below_drew1 | refine below_set ?_ GE101.out | refine below_set ?_ GE102.out) | exact HB.out))) : w.heap.size ≤ gb103)); have n5_ := Aside0.mk ((by rw [hg]; exact (below_size (by repeat (first | (with_reducible first | exact HB.out | apply below_alloc | apply pw_below_drewN | apply below_drew1 | refine below_set ?_ GE101.out | refine below_set ?_ GE102.out) | exact HB.out))) : w.heap.size ≤ gb103)); have n6_ := Aside0.mk ((by rw [hg]; exact Nat.ne_of_lt (blk_lt (g := gb101) (o := .cells #[.slice A0_0 l0_0.length c0_0, .bool a0_1, .int .i64 a0_2] 24 (0, 0)) (by (with_reducible repeat (first | refine blk_drewN ?_ _ | refine blk_drew ?_ | refine blk_alloc ?_ _)); exact BK101.out)) : gb101 ≠ gb103)); have n7_ := Aside0.mk ((by rw [hg]; exact Nat.ne_of_gt (blk_lt (g := gb101) (o := .cells #[.slice A0_0 l0_0.length c0_0, .bool a0_1, .int .i64 a0_2] 24 (0, 0)) (by (with_reducible repeat (first | refine blk_drewN ?_ _ | refine blk_drew ?_ | refine blk_alloc ?_ _)); exact BK101.out)) : gb103 ≠ gb101)); have n8_ := Aside0.mk ((by rw [hg]; exact Nat.ne_of_lt (blk_lt (g := gb102) (o := .cells #[.int .i64 a1_0, .int .i64 a1_1, .bool a1_2] 46 (0, 0)) (by (with_reducible repeat (first | refine blk_drewN ?_ _ | refine blk_drew ?_ | refine blk_alloc ?_ _)); exact BK102.out)) : gb102 ≠ gb103)); have n9_ := Aside0.mk ((by rw [hg]; exact Nat.ne_of_gt (blk_lt (g := gb102) (o := .cells #[.int .i64 a1_0, .int .i64 a1_1, .bool a1_2] 46 (0, 0)) (by (with_reducible repeat (first | refine blk_drewN ?_ _ | refine blk_drew ?_ | refine blk_alloc ?_ _)); exact BK102.out)) : gb103 ≠ gb102)); clear BK101; clear BK102; clear HB; have BK101 := n0_; have BK102 := n1_; have HB := n2_; have BK103 := n3_; have GW103 := n4_; have GE103 := n5_; have NB101_103 := n6_; have NB103_101 := n7_; have NB102_103 := n8_; have NB103_102 := n9_; clear n0_ n1_ n2_ n3_ n4_ n5_ n6_ n7_ n8_ n9_; clear hb hbox hg; have hnb10 := NB101_102.out; have hnc10 := NB102_101.out; have hnb11 := NB101_103.out; have hnc11 := NB103_101.out; have hcz12_0 : w9.cell? ⟨gb101, 0, none⟩ = some (.slice A0_0 l0_0.length c0_0) := (blk_cell BK101.out 0).trans rfl; have hcz12_1 : w9.cell? ⟨gb101, 1, none⟩ = some (.bool a0_1) := (blk_cell BK101.out 1).trans rfl; have hcz12_2 : w9.cell? ⟨gb101, 2, none⟩ = some (.int .i64 a0_2) := (blk_cell BK101.out 2).trans rfl; have hfz12_0 := blk_frozen BK101.out 0; have hfz12_1 := blk_frozen BK101.out 1; have hfz12_2 := blk_frozen BK101.out 2) | ((with_reducible refine gate_dst (N := 7) rfl ?_); refine box_event ?hg (N := 7) ?hd (cs := #[.slice none 0 0, .bool false, .int .i64 0]) (t := 24) ?hr ?_; (case hd => rfl); (case hg => rfl); (case hr => first | (go_simp; done) | (go_simp; rfl)); intro gb104 hg w13 hbox hb; have n0_ := Aside0.mk (blk_below (g := gb101) (o := .cells #[.slice A0_0 l0_0.length c0_0, .bool a0_1, .int .i64 a0_2] 24 (0, 0)) (by (with_reducible repeat (first | refine blk_drewN ?_ _ | refine blk_drew ?_ | refine blk_alloc ?_ _)); exact BK101.out) hb); have n1_ := Aside0.mk (blk_below (g := gb102) (o := .cells #[.int .i64 a1_0, .int .i64 a1_1, .bool a1_2] 46 (0, 0)) (by (with_reducible repeat (first | refine blk_drewN ?_ _ | refine blk_drew ?_ | refine blk_alloc ?_ _)); exact BK102.out) hb); have n2_ := Aside0.mk (blk_below (g := gb103) (o := .cells #[.slice none 0 0, .bool false, .int .i64 0] 24 (0, 0)) (by (with_reducible repeat (first | refine blk_drewN ?_ _ | refine blk_drew ?_ | refine blk_alloc ?_ _)); exact BK103.out) hb); have n3_ := Aside0.mk (below_step (by repeat (first | (with_reducible first | exact HB.out | apply below_alloc | apply pw_below_drewN | apply below_drew1 | refine below_set ?_ GE101.out | refine below_set ?_ GE102.out | refine below_set ?_ GE103.out) | exact HB.out)) hb); have n4_ := Aside0.mk (hbox); have n5_ := Aside0.mk ((by rw [hg]; exact (below_size (by repeat (first | (with_reducible first | exact HB.out | apply below_alloc | apply pw_below_drewN | apply below_drew1 | refine below_set ?_ GE101.out | refine below_set ?_ GE102.out | refine below_set ?_ GE103.out) | exact HB.out))) : w.heap.size ≤ gb104)); have n6_ := Aside0.mk ((by rw [hg]; exact (below_size (by repeat (first | (with_reducible first | exact HB.out | apply below_alloc | apply pw_below_drewN | apply below_drew1 | refine below_set ?_ GE101.out | refine below_set ?_ GE102.out | refine below_set ?_ GE103.out) | exact HB.out))) : w.heap.size ≤ gb104)); have n7_ := Aside0.mk ((by rw [hg]; exact Nat.ne_of_lt (blk_lt (g := gb101) (o := .cells #[.slice A0_0 l0_0.length c0_0, .bool a0_1, .int .i64 a0_2] 24 (0, 0)) (by (with_reducible repeat (first | refine blk_drewN ?_ _ | refine blk_drew ?_ | refine blk_alloc ?_ _)); exact BK101.out)) : gb101 ≠ gb104)); have n8_ := Aside0.mk ((by rw [hg]; exact Nat.ne_of_gt (blk_lt (g := gb101) (o := .cells #[.slice A0_0 l0_0.length c0_0, .bool a0_1, .int .i64 a0_2] 24 (0, 0)) (by (with_reducible repeat (first | refine blk_drewN ?_ _ | refine blk_drew ?_ | refine blk_alloc ?_ _)); exact BK101.out)) : gb104 ≠ gb101)); have n9_ := Aside0.mk ((by rw [hg]; exact Nat.ne_of_lt (blk_lt (g := gb102) (o := .cells #[.int .i64 a1_0, .int .i64 a1_1, .bool a1_2] 46 (0, 0)) (by (with_reducible repeat (first | refine blk_drewN ?_ _ | refine blk_drew ?_ | refine blk_alloc ?_ _)); exact BK102.out)) : gb102 ≠ gb104)); have n10_ := Aside0.mk ((by rw [hg]; exact Nat.ne_of_gt (blk_lt (g := gb102) (o := .cells #[.int .i64 a1_0, .int .i64 a1_1, .bool a1_2] 46 (0, 0)) (by (with_reducible repeat (first | refine blk_drewN ?_ _ | refine blk_drew ?_ | refine blk_alloc ?_ _)); exact BK102.out)) : gb104 ≠ gb102)); have n11_ := Aside0.mk ((by rw [hg]; exact Nat.ne_of_lt (blk_lt (g := gb103) (o := .cells #[.slice none 0 0, .bool false, .int .i64 0] 24 (0, 0)) (by (with_reducible repeat (first | refine blk_drewN ?_ _ | refine blk_drew ?_ | refine blk_alloc ?_ _)); exact BK103.out)) : gb103 ≠ gb104)); have n12_ := Aside0.mk ((by rw [hg]; exact Nat.ne_of_gt (blk_lt (g := gb103) (o := .cells #[.slice none 0 0, .bool false, .int .i64 0] 24 (0, 0)) (by (with_reducible repeat (first | refine blk_drewN ?_ _ | refine blk_drew ?_ | refine blk_alloc ?_ _)); exact BK103.out)) : gb104 ≠ gb103)); clear BK101; clear BK102; clear BK103; clear HB; have BK101 := n0_; have BK102 := n1_; have BK103 := n2_; have HB := n3_; have BK104 := n4_; have GW104 := n5_; have GE104 := n6_; have NB101_104 := n7_; have NB104_101 := n8_; have NB102_104 := n9_; have NB104_102 := n10_; have NB103_104 := n11_; have NB104_103 := n12_; clear n0_ n1_ n2_ n3_ n4_ n5_ n6_ n7_ n8_ n9_ n10_ n11_ n12_; clear hb hbox hg; have hnb14 := NB104_101.out; have hnc14 := NB101_104.out; have hnb15 := NB104_102.out; have hnc15 := NB102_104.out; have hnb16 := NB104_103.out; have hnc16 := NB103_104.out; have hcz17_0 : w13.cell? ⟨gb104, 0, none⟩ = some (.slice none 0 0) := (blk_cell BK104.out 0).trans rfl; have hcz17_1 : w13.cell? ⟨gb104, 1, none⟩ = some (.bool false) := (blk_cell BK104.out 1).trans rfl; have hcz17_2 : w13.cell? ⟨gb104, 2, none⟩ = some (.int .i64 0) := (blk_cell BK104.out 2).trans rfl; have hfz17_0 := blk_frozen BK104.out 0; have hfz17_1 := blk_frozen BK104.out 1; have hfz17_2 := blk_frozen BK104.out 2))
      have n0_ : Aside0 ((((w13.setCell ⟨gb104, 0, none⟩ (.slice A0_0 l0_0.length c0_0)).setCell ⟨gb104, 1, none⟩ (.bool a0_1)).setCell ⟨gb104, 2, none⟩ (.int .i64 a0_2)).heap[gb101]? = some (.cells #[.slice A0_0 l0_0.length c0_0, .bool a0_1, .int .i64 a0_2] 24 (0, 0))) := ⟨by (with_reducible repeat (first | refine blk_drewN ?_ _ | refine blk_drew ?_ | refine blk_alloc ?_ _)); refine blk_far ?_ NB101_104.out _; (with_reducible repeat (first | refine blk_drewN ?_ _ | refine blk_drew ?_ | refine blk_alloc ?_ _)); refine blk_far ?_ NB101_104.out _; (with_reducible repeat (first | refine blk_drewN ?_ _ | refine blk_drew ?_ | refine blk_alloc ?_ _)); refine blk_far ?_ NB101_104.out _; (with_reducible repeat (first | refine blk_drewN ?_ _ | refine blk_drew ?_ | refine blk_alloc ?_ _)); exact BK101.out⟩
      have n1_ : Aside0 ((((w13.setCell ⟨gb104, 0, none⟩ (.slice A0_0 l0_0.length c0_0)).setCell ⟨gb104, 1, none⟩ (.bool a0_1)).setCell ⟨gb104, 2, none⟩ (.int .i64 a0_2)).heap[gb102]? = some (.cells #[.int .i64 a1_0, .int .i64 a1_1, .bool a1_2] 46 (0, 0))) := ⟨by (with_reducible repeat (first | refine blk_drewN ?_ _ | refine blk_drew ?_ | refine blk_alloc ?_ _)); refine blk_far ?_ NB102_104.out _; (with_reducible repeat (first | refine blk_drewN ?_ _ | refine blk_drew ?_ | refine blk_alloc ?_ _)); refine blk_far ?_ NB102_104.out _; (with_reducible repeat (first | refine blk_drewN ?_ _ | refine blk_drew ?_ | refine blk_alloc ?_ _)); refine blk_far ?_ NB102_104.out _; (with_reducible repeat (first | refine blk_drewN ?_ _ | refine blk_drew ?_ | refine blk_alloc ?_ _)); exact BK102.out⟩
      have n2_ : Aside0 ((((w13.setCell ⟨gb104, 0, none⟩ (.slice A0_0 l0_0.length c0_0)).setCell ⟨gb104, 1, none⟩ (.bool a0_1)).setCell ⟨gb104, 2, none⟩ (.int .i64 a0_2)).heap[gb103]? = some (.cells #[.slice none 0 0, .bool false, .int .i64 0] 24 (0, 0))) := ⟨by (with_reducible repeat (first | refine blk_drewN ?_ _ | refine blk_drew ?_ | refine blk_alloc ?_ _)); refine blk_far ?_ NB103_104.out _; (with_reducible repeat (first | refine blk_drewN ?_ _ | refine blk_drew ?_ | refine blk_alloc ?_ _)); refine blk_far ?_ NB103_104.out _; (with_reducible repeat (first | refine blk_drewN ?_ _ | refine blk_drew ?_ | refine blk_alloc ?_ _)); refine blk_far ?_ NB103_104.out _; (with_reducible repeat (first | refine blk_drewN ?_ _ | refine blk_drew ?_ | refine blk_alloc ?_ _)); exact BK103.out⟩
      have n3_ : Aside0 ((((w13.setCell ⟨gb104, 0, none⟩ (.slice A0_0 l0_0.length c0_0)).setCell ⟨gb104, 1, none⟩ (.bool a0_1)).setCell ⟨gb104, 2, none⟩ (.int .i64 a0_2)).heap[gb104]? = some (.cells #[.slice A0_0 l0_0.length c0_0, .bool a0_1, .int .i64 a0_2] 24 (0, 0))) := ⟨by (with_reducible repeat (first | refine blk_drewN ?_ _ | refine blk_drew ?_ | refine blk_alloc ?_ _)); refine blk_put (cs := #[.slice A0_0 l0_0.length c0_0, .bool a0_1, .int .i64 0]) ?_ 2 _ rfl; (with_reducible repeat (first | refine blk_drewN ?_ _ | refine blk_drew ?_ | refine blk_alloc ?_ _)); refine blk_put (cs := #[.slice A0_0 l0_0.length c0_0, .bool false, .int .i64 0]) ?_ 1 _ rfl; (with_reducible repeat (first | refine blk_drewN ?_ _ | refine blk_drew ?_ | refine blk_alloc ?_ _)); refine blk_put (cs := #[.slice none 0 0, .bool false, .int .i64 0]) ?_ 0 _ rfl; (with_reducible repeat (first | refine blk_drewN ?_ _ | refine blk_drew ?_ | refine blk_alloc ?_ _)); exact BK104.out⟩
      have n4_ : Aside0 (Below w.heap.size w (((w13.setCell ⟨gb104, 0, none⟩ (.slice A0_0 l0_0.length c0_0)).setCell ⟨gb104, 1, none⟩ (.bool a0_1)).setCell ⟨gb104, 2, none⟩ (.int .i64 a0_2))) := ⟨by repeat (first | (with_reducible first | exact HB.out | apply below_alloc | apply pw_below_drewN | apply below_drew1 | refine below_set ?_ GE101.out | refine below_set ?_ GE102.out | refine below_set ?_ GE103.out | refine below_set ?_ GE104.out) | exact HB.out)⟩
      (try clear BK101)
      (try clear BK102)
      (try clear BK103)
      (try clear BK104)
      (try clear HB)
      generalize (((w13.setCell ⟨gb104, 0, none⟩ (.slice A0_0 l0_0.length c0_0)).setCell ⟨gb104, 1, none⟩ (.bool a0_1)).setCell ⟨gb104, 2, none⟩ (.int .i64 a0_2)) = w18 at n0_ n1_ n2_ n3_ n4_ ⊢
      have BK101 := n0_
      have BK102 := n1_
      have BK103 := n2_
      have BK104 := n3_
      have HB := n4_
      clear n0_ n1_ n2_ n3_ n4_
      have n0_ := Aside0.mk (blk_drew BK101.out)
      have n1_ := Aside0.mk (blk_drew BK102.out)
      have n2_ := Aside0.mk (blk_drew BK103.out)
      have n3_ := Aside0.mk (blk_drew BK104.out)
      have n4_ := Aside0.mk (below_drew1 HB.out)
      clear BK101
      clear BK102
      clear BK103
      clear BK104
      clear HB
      have BK101 := n0_
      have BK102 := n1_
      have BK103 := n2_
      have BK104 := n3_
      have HB := n4_
      clear n0_ n1_ n2_ n3_ n4_
      refine start_ (n := 8) (S := fun w' => w'.cell? ⟨gb101, 0, none⟩ = some (.slice A0_0 l0_0.length c0_0) ∧ w'.cell? ⟨gb101, 1, none⟩ = some (.bool a0_1) ∧ w'.cell? ⟨gb101, 2, none⟩ = some (.int .i64 a0_2) ∧ w'.cell? ⟨gb102, 0, none⟩ = some (.int .i64 a1_0) ∧ w'.cell? ⟨gb102, 1, none⟩ = some (.int .i64 a1_1) ∧ w'.cell? ⟨gb102, 2, none⟩ = some (.bool a1_2)) (ds := []) #[false, false, false, false, false, false, false, false] (by kernel_rfl) rfl rfl ⟨(blk_cell BK101.out 0).trans rfl, (blk_cell BK101.out 1).trans rfl, (blk_cell BK101.out 2).trans rfl, (blk_cell BK102.out 0).trans rfl, (blk_cell BK102.out 1).trans rfl, (blk_cell BK102.out 2).trans rfl⟩ (fun hHeld => ?_); refine with_tabW leap_Add.tab3 leap_Add.bits3 (fun HT_ HW_ => ?_)
      generalize w18.drew = w19 at BK101 BK102 BK103 BK104 HB hHeld ⊢
      refine pure_ (i := 0) (N := some 14) (v := ?_) (a' := ?_) #[true, false, false, false, false, false, false, false] rfl rfl (any_of HT_.out (by kernel_rfl)) (fun _ _ _ h => h) (Or.inl ⟨by rfl, ?_⟩) ?_ ?_
      rotate_left
      · intro w'
        go_simp
        with_reducible rfl
      rotate_left
      · simp only [Act.put, List.setIfInBounds_toArray, List.set_cons_zero, List.set_cons_succ, i64_w, i32_w]
        rfl
      refine take_ (i := 1) (N := some 15) (v := ?_) (a' := ?_) #[true, true, false, false, false, false, false, false] rfl rfl (take_ofW HT_.out HW_.out (by kernel_rfl)) (fun _ _ _ h => h) (Or.inl ⟨by rfl, ?_⟩) hHeld ?_ ?_
      rotate_left
      · rintro w' ⟨s0, s1, s2, s3, s4, s5⟩
        go_simp
        with_reducible rfl
      rotate_left
      · simp only [Act.put, List.setIfInBounds_toArray, List.set_cons_zero, List.set_cons_succ, i64_w, i32_w]
        rfl
      refine take_ (i := 3) (N := some 17) (v := ?_) (a' := ?_) #[true, true, false, true, false, false, false, false] rfl rfl (take_ofW HT_.out HW_.out (by kernel_rfl)) (fun _ _ _ h => h) (Or.inl ⟨by rfl, ?_⟩) hHeld ?_ ?_
      rotate_left
      · rintro w' ⟨s0, s1, s2, s3, s4, s5⟩
        go_simp
        with_reducible rfl
      rotate_left
      · simp only [Act.put, List.setIfInBounds_toArray, List.set_cons_zero, List.set_cons_succ, i64_w, i32_w]
        rfl
      refine join_ (σ := Value × Value) 3 #[true, true, true, true, true, false, false, false] (fun s_ => [(16, s_.1), (18, s_.2)]) (fun s_ w' => (w'.cell? ⟨gb101, 0, none⟩ = some (.slice A0_0 l0_0.length c0_0) ∧ w'.cell? ⟨gb101, 1, none⟩ = some (.bool a0_1) ∧ w'.cell? ⟨gb101, 2, none⟩ = some (.int .i64 a0_2) ∧ w'.cell? ⟨gb102, 0, none⟩ = some (.int .i64 a1_0) ∧ w'.cell? ⟨gb102, 1, none⟩ = some (.int .i64 a1_1) ∧ w'.cell? ⟨gb102, 2, none⟩ = some (.bool a1_2)) ∧ (Kd.R k46 46 w' w.heap.size (fun k_ => some k_ ≠ (s_.2 : Value).ownBlock ∧ k_ ≠ gb102) s_.1 t105) ∧ (Kd.R k46 46 w' w.heap.size (fun k_ => some k_ ≠ (s_.1 : Value).ownBlock ∧ k_ ≠ gb102) s_.2 y108) ∧ (w'.heap[gb101]? = some (.cells #[.slice A0_0 l0_0.length c0_0, .bool a0_1, .int .i64 a0_2] 24 (0, 0))) ∧ (w'.heap[gb102]? = some (.cells #[.int .i64 a1_0, .int .i64 a1_1, .bool a1_2] 46 (0, 0))) ∧ (w'.heap[gb103]? = some (.cells #[.slice none 0 0, .bool false, .int .i64 0] 24 (0, 0))) ∧ (w'.heap[gb104]? = some (.cells #[.slice A0_0 l0_0.length c0_0, .bool a0_1, .int .i64 a0_2] 24 (0, 0))) ∧ (Below w.heap.size w w')) ?_ ?_
      rotate_left
      · intro hCont
        refine two_ (i := 2) (j := 4) (Ni := some 16) (Nj := some 18) #[true, true, true, true, false, false, false, false] #[true, true, false, true, true, false, false, false] rfl rfl rfl rfl (two_of HT_.out (by kernel_rfl)) (by decide) (by decide) (fun K hK => ?_) (fun K hK => ?_)
        · skip
          refine goes_ Tryd.func99 (by kernel_rfl) rfl #[.slice A0_0 l0_0.length c0_0] (by rfl) rfl rfl (by (try simp only [List.map_toArray, List.map_cons, List.map_nil]); first | done | rfl | (simp only [List.length_drop, List.length_take]; rfl)) ?_
          with_reducible refine (api_Leap.calls _ _ l0_0 t105 _ ?side1 ?side2 A3.out).mono ?_
          (case side1 => repeat (first | exact (Kd.C_below HR0_0.out HB.out) | (with_reducible refine Kd.C_alloc ?_ _) | (with_reducible refine Kd.C_drewN ?_ _) | (with_reducible refine Kd.C_drew ?_)))
          (case side2 => exact HC0_0.out)
          rintro e w20 ⟨v106, rfl, ho0, hb⟩
          refine ⟨_, rfl, ?_⟩
          have n0_ := Aside0.mk (Kd.R_lower (Kd.R_newB ho0 (g := gb102) (o := .cells #[.int .i64 a1_0, .int .i64 a1_1, .bool a1_2] 46 (0, 0)) (by (with_reducible repeat (first | refine blk_drewN ?_ _ | refine blk_drew ?_ | refine blk_alloc ?_ _)); exact BK102.out)) (below_size (by repeat (first | (with_reducible first | exact HB.out | apply below_alloc | apply pw_below_drewN | apply below_drew1 | refine below_set ?_ GE101.out | refine below_set ?_ GE102.out | refine below_set ?_ GE103.out | refine below_set ?_ GE104.out) | exact HB.out))))
          have n1_ := Aside0.mk (blk_below (g := gb101) (o := .cells #[.slice A0_0 l0_0.length c0_0, .bool a0_1, .int .i64 a0_2] 24 (0, 0)) (by (with_reducible repeat (first | refine blk_drewN ?_ _ | refine blk_drew ?_ | refine blk_alloc ?_ _)); exact BK101.out) hb)
          have n2_ := Aside0.mk (blk_below (g := gb102) (o := .cells #[.int .i64 a1_0, .int .i64 a1_1, .bool a1_2] 46 (0, 0)) (by (with_reducible repeat (first | refine blk_drewN ?_ _ | refine blk_drew ?_ | refine blk_alloc ?_ _)); exact BK102.out) hb)
          have n3_ := Aside0.mk (blk_below (g := gb103) (o := .cells #[.slice none 0 0, .bool false, .int .i64 0] 24 (0, 0)) (by (with_reducible repeat (first | refine blk_drewN ?_ _ | refine blk_drew ?_ | refine blk_alloc ?_ _)); exact BK103.out) hb)
          have n4_ := Aside0.mk (blk_below (g := gb104) (o := .cells #[.slice A0_0 l0_0.length c0_0, .bool a0_1, .int .i64 a0_2] 24 (0, 0)) (by (with_reducible repeat (first | refine blk_drewN ?_ _ | refine blk_drew ?_ | refine blk_alloc ?_ _)); exact BK104.out) hb)
          have n5_ := Aside0.mk (below_step (by repeat (first | (with_reducible first | exact HB.out | apply below_alloc | apply pw_below_drewN | apply below_drew1 | refine below_set ?_ GE101.out | refine below_set ?_ GE102.out | refine below_set ?_ GE103.out | refine below_set ?_ GE104.out) | exact HB.out)) hb)
          clear BK101
          clear BK102
          clear BK103
          clear BK104
          clear HB
          have HO107 := n0_
          have BK101 := n1_
          have BK102 := n2_
          have BK103 := n3_
          have BK104 := n4_
          have HB := n5_
          clear n0_ n1_ n2_ n3_ n4_ n5_
          (try clear hb)
          (try clear hb2)
          (try clear hk)
          (try clear hi)
          (try clear ho0)
          refine hK.out _ _ ⟨(blk_cell BK101.out 0).trans rfl, (blk_cell BK101.out 1).trans rfl, (blk_cell BK101.out 2).trans rfl, (blk_cell BK102.out 0).trans rfl, (blk_cell BK102.out 1).trans rfl, (blk_cell BK102.out 2).trans rfl⟩ (fun hHeld => ?_)
          clear hK K
          refine norm_ (a' := ?_) ?_ ?_
          rotate_left
          · show Act.put _ (some 16) _ = _
            simp only [Act.put, List.setIfInBounds_toArray, List.set_cons_zero, List.set_cons_succ, i64_w, i32_w]
            rfl
          refine one_ (i := 4) (N := some 18) #[true, true, true, true, true, false, false, false] rfl rfl (one_of HT_.out (by kernel_rfl)) (by decide) (fun K hK => ?_)
          refine Kd.R_lit_step k46 _ 46 ?hg (N := 18) ?hd (xs := ([(⟨a1_0, a1_1, a1_2⟩ : S46)] : List (S46))) (inner := [.int .i64 a1_0, .int .i64 a1_1, .bool a1_2]) (ok := fun _ => True) (okp := fun _ => True) ?hr ?hp (fun _ hk => hk) trivial (Below.refl _ _) (Nat.le_refl _) (by simp) ?_; (case hd => rfl); (case hg => rfl); (case hr => first | (go_simp; done) | (go_simp; rfl)); (case hp => exact (Reps.c3 (show Kd.M k46 _ _ _ (⟨a1_0, a1_1, a1_2⟩ : S46) [.int .i64 a1_0, .int .i64 a1_1, .bool a1_2] from (k46_mkM _ _ _ (⟨a1_0, a1_1, a1_2⟩ : S46) )) (Reps.none _ _)))
          intro v109 w21 ho22 hb hg_ hnew_
          clear hg_ hnew_
          (first | rw [← Ny108.out] at ho22 | (simp only [Int.reduceToNat] at ho22; rw [← Ny108.out] at ho22))
          have n0_ := Aside0.mk (Kd.R_elder' (by (with_reducible repeat (first | apply Kd.R_alloc | apply Kd.R_drewN | apply Kd.R_drew)); exact HO107.out) (Kd.R_base ho22) hb)
          have n1_ := Aside0.mk (Kd.R_lower (Kd.R_newB (Kd.R_new' ho22 (Kd.R_lt (by (with_reducible repeat (first | apply Kd.R_alloc | apply Kd.R_drewN | apply Kd.R_drew)); exact HO107.out))) (g := gb102) (o := .cells #[.int .i64 a1_0, .int .i64 a1_1, .bool a1_2] 46 (0, 0)) (by (with_reducible repeat (first | refine blk_drewN ?_ _ | refine blk_drew ?_ | refine blk_alloc ?_ _)); exact BK102.out)) (below_size (by repeat (first | (with_reducible first | exact HB.out | apply below_alloc | apply pw_below_drewN | apply below_drew1 | refine below_set ?_ GE101.out | refine below_set ?_ GE102.out | refine below_set ?_ GE103.out | refine below_set ?_ GE104.out) | exact HB.out))))
          have n2_ := Aside0.mk (blk_below (g := gb101) (o := .cells #[.slice A0_0 l0_0.length c0_0, .bool a0_1, .int .i64 a0_2] 24 (0, 0)) (by (with_reducible repeat (first | refine blk_drewN ?_ _ | refine blk_drew ?_ | refine blk_alloc ?_ _)); exact BK101.out) hb)
          have n3_ := Aside0.mk (blk_below (g := gb102) (o := .cells #[.int .i64 a1_0, .int .i64 a1_1, .bool a1_2] 46 (0, 0)) (by (with_reducible repeat (first | refine blk_drewN ?_ _ | refine blk_drew ?_ | refine blk_alloc ?_ _)); exact BK102.out) hb)
          have n4_ := Aside0.mk (blk_below (g := gb103) (o := .cells #[.slice none 0 0, .bool false, .int .i64 0] 24 (0, 0)) (by (with_reducible repeat (first | refine blk_drewN ?_ _ | refine blk_drew ?_ | refine blk_alloc ?_ _)); exact BK103.out) hb)
          have n5_ := Aside0.mk (blk_below (g := gb104) (o := .cells #[.slice A0_0 l0_0.length c0_0, .bool a0_1, .int .i64 a0_2] 24 (0, 0)) (by (with_reducible repeat (first | refine blk_drewN ?_ _ | refine blk_drew ?_ | refine blk_alloc ?_ _)); exact BK104.out) hb)
          have n6_ := Aside0.mk (below_step (by repeat (first | (with_reducible first | exact HB.out | apply below_alloc | apply pw_below_drewN | apply below_drew1 | refine below_set ?_ GE101.out | refine below_set ?_ GE102.out | refine below_set ?_ GE103.out | refine below_set ?_ GE104.out) | exact HB.out)) hb)
          clear HO107
          clear BK101
          clear BK102
          clear BK103
          clear BK104
          clear HB
          have HO107 := n0_
          have HO110 := n1_
          have BK101 := n2_
          have BK102 := n3_
          have BK103 := n4_
          have BK104 := n5_
          have HB := n6_
          clear n0_ n1_ n2_ n3_ n4_ n5_ n6_
          clear hb ho22
          refine hK.out _ _ ⟨(blk_cell BK101.out 0).trans rfl, (blk_cell BK101.out 1).trans rfl, (blk_cell BK101.out 2).trans rfl, (blk_cell BK102.out 0).trans rfl, (blk_cell BK102.out 1).trans rfl, (blk_cell BK102.out 2).trans rfl⟩ (fun hHeld => ?_)
          clear hK K
          refine norm_ (a' := ?_) ?_ ?_
          rotate_left
          · show Act.put _ (some 18) _ = _
            simp only [Act.put, List.setIfInBounds_toArray, List.set_cons_zero, List.set_cons_succ, i64_w, i32_w]
            rfl
          exact norm_ (by simp only [putAll, Act.put, List.setIfInBounds_toArray, List.set_cons_zero, List.set_cons_succ]) (hCont (v106, v109) _ ⟨hHeld, (by (with_reducible repeat (first | apply Kd.R_alloc | apply Kd.R_drewN | apply Kd.R_drew)); exact Kd.R_mono HO107.out (fun _ hk => ⟨hk.2, hk.1.2⟩)), (by (with_reducible repeat (first | apply Kd.R_alloc | apply Kd.R_drewN | apply Kd.R_drew)); exact Kd.R_mono HO110.out (fun _ hk => ⟨hk.1.2, hk.2⟩)), (by (with_reducible repeat (first | refine blk_drewN ?_ _ | refine blk_drew ?_ | refine blk_alloc ?_ _)); exact BK101.out), (by (with_reducible repeat (first | refine blk_drewN ?_ _ | refine blk_drew ?_ | refine blk_alloc ?_ _)); exact BK102.out), (by (with_reducible repeat (first | refine blk_drewN ?_ _ | refine blk_drew ?_ | refine blk_alloc ?_ _)); exact BK103.out), (by (with_reducible repeat (first | refine blk_drewN ?_ _ | refine blk_drew ?_ | refine blk_alloc ?_ _)); exact BK104.out), (by repeat (first | (with_reducible first | exact HB.out | apply below_alloc | apply pw_below_drewN | apply below_drew1 | refine below_set ?_ GE101.out | refine below_set ?_ GE102.out | refine below_set ?_ GE103.out | refine below_set ?_ GE104.out) | exact HB.out))⟩)
        · skip
          refine Kd.R_lit_step k46 _ 46 ?hg (N := 18) ?hd (xs := ([(⟨a1_0, a1_1, a1_2⟩ : S46)] : List (S46))) (inner := [.int .i64 a1_0, .int .i64 a1_1, .bool a1_2]) (ok := fun _ => True) (okp := fun _ => True) ?hr ?hp (fun _ hk => hk) trivial (Below.refl _ _) (Nat.le_refl _) (by simp) ?_; (case hd => rfl); (case hg => rfl); (case hr => first | (go_simp; done) | (go_simp; rfl)); (case hp => exact (Reps.c3 (show Kd.M k46 _ _ _ (⟨a1_0, a1_1, a1_2⟩ : S46) [.int .i64 a1_0, .int .i64 a1_1, .bool a1_2] from (k46_mkM _ _ _ (⟨a1_0, a1_1, a1_2⟩ : S46) )) (Reps.none _ _)))
          intro v109 w20 ho21 hb hg_ hnew_
          clear hg_ hnew_
          (first | rw [← Ny108.out] at ho21 | (simp only [Int.reduceToNat] at ho21; rw [← Ny108.out] at ho21))
          have n0_ := Aside0.mk (Kd.R_lower (Kd.R_newB ho21 (g := gb102) (o := .cells #[.int .i64 a1_0, .int .i64 a1_1, .bool a1_2] 46 (0, 0)) (by (with_reducible repeat (first | refine blk_drewN ?_ _ | refine blk_drew ?_ | refine blk_alloc ?_ _)); exact BK102.out)) (below_size (by repeat (first | (with_reducible first | exact HB.out | apply below_alloc | apply pw_below_drewN | apply below_drew1 | refine below_set ?_ GE101.out | refine below_set ?_ GE102.out | refine below_set ?_ GE103.out | refine below_set ?_ GE104.out) | exact HB.out))))
          have n1_ := Aside0.mk (blk_below (g := gb101) (o := .cells #[.slice A0_0 l0_0.length c0_0, .bool a0_1, .int .i64 a0_2] 24 (0, 0)) (by (with_reducible repeat (first | refine blk_drewN ?_ _ | refine blk_drew ?_ | refine blk_alloc ?_ _)); exact BK101.out) hb)
          have n2_ := Aside0.mk (blk_below (g := gb102) (o := .cells #[.int .i64 a1_0, .int .i64 a1_1, .bool a1_2] 46 (0, 0)) (by (with_reducible repeat (first | refine blk_drewN ?_ _ | refine blk_drew ?_ | refine blk_alloc ?_ _)); exact BK102.out) hb)
          have n3_ := Aside0.mk (blk_below (g := gb103) (o := .cells #[.slice none 0 0, .bool false, .int .i64 0] 24 (0, 0)) (by (with_reducible repeat (first | refine blk_drewN ?_ _ | refine blk_drew ?_ | refine blk_alloc ?_ _)); exact BK103.out) hb)
          have n4_ := Aside0.mk (blk_below (g := gb104) (o := .cells #[.slice A0_0 l0_0.length c0_0, .bool a0_1, .int .i64 a0_2] 24 (0, 0)) (by (with_reducible repeat (first | refine blk_drewN ?_ _ | refine blk_drew ?_ | refine blk_alloc ?_ _)); exact BK104.out) hb)
          have n5_ := Aside0.mk (below_step (by repeat (first | (with_reducible first | exact HB.out | apply below_alloc | apply pw_below_drewN | apply below_drew1 | refine below_set ?_ GE101.out | refine below_set ?_ GE102.out | refine below_set ?_ GE103.out | refine below_set ?_ GE104.out) | exact HB.out)) hb)
          clear BK101
          clear BK102
          clear BK103
          clear BK104
          clear HB
          have HO110 := n0_
          have BK101 := n1_
          have BK102 := n2_
          have BK103 := n3_
          have BK104 := n4_
          have HB := n5_
          clear n0_ n1_ n2_ n3_ n4_ n5_
          clear hb ho21
          refine hK.out _ _ ⟨(blk_cell BK101.out 0).trans rfl, (blk_cell BK101.out 1).trans rfl, (blk_cell BK101.out 2).trans rfl, (blk_cell BK102.out 0).trans rfl, (blk_cell BK102.out 1).trans rfl, (blk_cell BK102.out 2).trans rfl⟩ (fun hHeld => ?_)
          clear hK K
          refine norm_ (a' := ?_) ?_ ?_
          rotate_left
          · show Act.put _ (some 18) _ = _
            simp only [Act.put, List.setIfInBounds_toArray, List.set_cons_zero, List.set_cons_succ, i64_w, i32_w]
            rfl
          refine one_ (i := 2) (N := some 16) #[true, true, true, true, true, false, false, false] rfl rfl (one_of HT_.out (by kernel_rfl)) (by decide) (fun K hK => ?_)
          refine goes_ Tryd.func99 (by kernel_rfl) rfl #[.slice A0_0 l0_0.length c0_0] (by rfl) rfl rfl (by (try simp only [List.map_toArray, List.map_cons, List.map_nil]); first | done | rfl | (simp only [List.length_drop, List.length_take]; rfl)) ?_
          with_reducible refine (api_Leap.calls _ _ l0_0 t105 _ ?side1 ?side2 A3.out).mono ?_
          (case side1 => repeat (first | exact (Kd.C_below HR0_0.out HB.out) | (with_reducible refine Kd.C_alloc ?_ _) | (with_reducible refine Kd.C_drewN ?_ _) | (with_reducible refine Kd.C_drew ?_)))
          (case side2 => exact HC0_0.out)
          rintro e w22 ⟨v106, rfl, ho0, hb⟩
          refine ⟨_, rfl, ?_⟩
          have n0_ := Aside0.mk (Kd.R_elder' (by (with_reducible repeat (first | apply Kd.R_alloc | apply Kd.R_drewN | apply Kd.R_drew)); exact HO110.out) (Kd.R_base ho0) hb)
          have n1_ := Aside0.mk (Kd.R_lower (Kd.R_newB (Kd.R_new' ho0 (Kd.R_lt (by (with_reducible repeat (first | apply Kd.R_alloc | apply Kd.R_drewN | apply Kd.R_drew)); exact HO110.out))) (g := gb102) (o := .cells #[.int .i64 a1_0, .int .i64 a1_1, .bool a1_2] 46 (0, 0)) (by (with_reducible repeat (first | refine blk_drewN ?_ _ | refine blk_drew ?_ | refine blk_alloc ?_ _)); exact BK102.out)) (below_size (by repeat (first | (with_reducible first | exact HB.out | apply below_alloc | apply pw_below_drewN | apply below_drew1 | refine below_set ?_ GE101.out | refine below_set ?_ GE102.out | refine below_set ?_ GE103.out | refine below_set ?_ GE104.out) | exact HB.out))))
          have n2_ := Aside0.mk (blk_below (g := gb101) (o := .cells #[.slice A0_0 l0_0.length c0_0, .bool a0_1, .int .i64 a0_2] 24 (0, 0)) (by (with_reducible repeat (first | refine blk_drewN ?_ _ | refine blk_drew ?_ | refine blk_alloc ?_ _)); exact BK101.out) hb)
          have n3_ := Aside0.mk (blk_below (g := gb102) (o := .cells #[.int .i64 a1_0, .int .i64 a1_1, .bool a1_2] 46 (0, 0)) (by (with_reducible repeat (first | refine blk_drewN ?_ _ | refine blk_drew ?_ | refine blk_alloc ?_ _)); exact BK102.out) hb)
          have n4_ := Aside0.mk (blk_below (g := gb103) (o := .cells #[.slice none 0 0, .bool false, .int .i64 0] 24 (0, 0)) (by (with_reducible repeat (first | refine blk_drewN ?_ _ | refine blk_drew ?_ | refine blk_alloc ?_ _)); exact BK103.out) hb)
          have n5_ := Aside0.mk (blk_below (g := gb104) (o := .cells #[.slice A0_0 l0_0.length c0_0, .bool a0_1, .int .i64 a0_2] 24 (0, 0)) (by (with_reducible repeat (first | refine blk_drewN ?_ _ | refine blk_drew ?_ | refine blk_alloc ?_ _)); exact BK104.out) hb)
          have n6_ := Aside0.mk (below_step (by repeat (first | (with_reducible first | exact HB.out | apply below_alloc | apply pw_below_drewN | apply below_drew1 | refine below_set ?_ GE101.out | refine below_set ?_ GE102.out | refine below_set ?_ GE103.out | refine below_set ?_ GE104.out) | exact HB.out)) hb)
          clear HO110
          clear BK101
          clear BK102
          clear BK103
          clear BK104
          clear HB
          have HO110 := n0_
          have HO107 := n1_
          have BK101 := n2_
          have BK102 := n3_
          have BK103 := n4_
          have BK104 := n5_
          have HB := n6_
          clear n0_ n1_ n2_ n3_ n4_ n5_ n6_
          (try clear hb)
          (try clear hb2)
          (try clear hk)
          (try clear hi)
          (try clear ho0)
          refine hK.out _ _ ⟨(blk_cell BK101.out 0).trans rfl, (blk_cell BK101.out 1).trans rfl, (blk_cell BK101.out 2).trans rfl, (blk_cell BK102.out 0).trans rfl, (blk_cell BK102.out 1).trans rfl, (blk_cell BK102.out 2).trans rfl⟩ (fun hHeld => ?_)
          clear hK K
          refine norm_ (a' := ?_) ?_ ?_
          rotate_left
          · show Act.put _ (some 16) _ = _
            simp only [Act.put, List.setIfInBounds_toArray, List.set_cons_zero, List.set_cons_succ, i64_w, i32_w]
            rfl
          exact norm_ (by simp only [putAll, Act.put, List.setIfInBounds_toArray, List.set_cons_zero, List.set_cons_succ]) (hCont (v106, v109) _ ⟨hHeld, (by (with_reducible repeat (first | apply Kd.R_alloc | apply Kd.R_drewN | apply Kd.R_drew)); exact Kd.R_mono HO107.out (fun _ hk => ⟨hk.1.2, hk.2⟩)), (by (with_reducible repeat (first | apply Kd.R_alloc | apply Kd.R_drewN | apply Kd.R_drew)); exact Kd.R_mono HO110.out (fun _ hk => ⟨hk.2, hk.1.2⟩)), (by (with_reducible repeat (first | refine blk_drewN ?_ _ | refine blk_drew ?_ | refine blk_alloc ?_ _)); exact BK101.out), (by (with_reducible repeat (first | refine blk_drewN ?_ _ | refine blk_drew ?_ | refine blk_alloc ?_ _)); exact BK102.out), (by (with_reducible repeat (first | refine blk_drewN ?_ _ | refine blk_drew ?_ | refine blk_alloc ?_ _)); exact BK103.out), (by (with_reducible repeat (first | refine blk_drewN ?_ _ | refine blk_drew ?_ | refine blk_alloc ?_ _)); exact BK104.out), (by repeat (first | (with_reducible first | exact HB.out | apply below_alloc | apply pw_below_drewN | apply below_drew1 | refine below_set ?_ GE101.out | refine below_set ?_ GE102.out | refine below_set ?_ GE103.out | refine below_set ?_ GE104.out) | exact HB.out))⟩)
      rintro ⟨v106, v109⟩ w23 ⟨hS_, h0_, h1_, h2_, h3_, h4_, h5_, h6_⟩
      have n0_ : Aside0 (Kd.R k46 46 w23 w.heap.size (fun k_ => some k_ ≠ (v109 : Value).ownBlock ∧ k_ ≠ gb102) v106 t105) := ⟨h0_⟩
      have n1_ : Aside0 (Kd.R k46 46 w23 w.heap.size (fun k_ => some k_ ≠ (v106 : Value).ownBlock ∧ k_ ≠ gb102) v109 y108) := ⟨h1_⟩
      have n2_ : Aside0 (w23.heap[gb101]? = some (.cells #[.slice A0_0 l0_0.length c0_0, .bool a0_1, .int .i64 a0_2] 24 (0, 0))) := ⟨h2_⟩
      have n3_ : Aside0 (w23.heap[gb102]? = some (.cells #[.int .i64 a1_0, .int .i64 a1_1, .bool a1_2] 46 (0, 0))) := ⟨h3_⟩
      have n4_ : Aside0 (w23.heap[gb103]? = some (.cells #[.slice none 0 0, .bool false, .int .i64 0] 24 (0, 0))) := ⟨h4_⟩
      have n5_ : Aside0 (w23.heap[gb104]? = some (.cells #[.slice A0_0 l0_0.length c0_0, .bool a0_1, .int .i64 a0_2] 24 (0, 0))) := ⟨h5_⟩
      have n6_ : Aside0 (Below w.heap.size w w23) := ⟨h6_⟩
      clear BK101
      clear BK102
      clear BK103
      clear BK104
      clear HB
      clear h0_ h1_ h2_ h3_ h4_ h5_ h6_
      have HO107 := n0_
      have HO110 := n1_
      have BK101 := n2_
      have BK102 := n3_
      have BK103 := n4_
      have BK104 := n5_
      have HB := n6_
      clear n0_ n1_ n2_ n3_ n4_ n5_ n6_
      have hHeld : w23.cell? ⟨gb101, 0, none⟩ = some (.slice A0_0 l0_0.length c0_0) ∧ w23.cell? ⟨gb101, 1, none⟩ = some (.bool a0_1) ∧ w23.cell? ⟨gb101, 2, none⟩ = some (.int .i64 a0_2) ∧ w23.cell? ⟨gb102, 0, none⟩ = some (.int .i64 a1_0) ∧ w23.cell? ⟨gb102, 1, none⟩ = some (.int .i64 a1_1) ∧ w23.cell? ⟨gb102, 2, none⟩ = some (.bool a1_2) := hS_
      obtain ⟨Ao25, co25, eo25⟩ := Kd.R_slice HO110.out
      (first | subst eo25 | (injection eo25 with f1_ f2_ f3_; have f4_ := f1_.symm; have f5_ := f3_.symm; clear f1_ f2_ f3_; subst f4_; subst f5_))
      refine norm_ (a' := ?_) ?_ ?_
      rotate_left
      · simp only [putAll, Act.put, List.setIfInBounds_toArray, List.set_cons_zero, List.set_cons_succ]
        rfl
      refine one_ (i := 5) (N := some 19) #[true, true, true, true, true, true, false, false] rfl rfl (one_of HT_.out (by kernel_rfl)) (by decide) (fun K hK => ?_)
      refine Kd.R_append_rows_step k46 (w0 := w) w.heap.size (by rfl) (.tmp 16) (.tmp 18) 22 46 (.agg #[(.int .i64 0), (.int .i64 0), (.bool false)]) 24 rfl Tryd.underlying22 info46 rfl (by decide) (by omega) v106 t105 y108 _ _ _ (fun k_ => some k_ ≠ (.slice Ao25 y108.length co25 : Value).ownBlock ∧ k_ ≠ gb102) (fun _ => False) rfl rfl ?aO ?aR (fun _ _ h => h) (fun _ h => h.elim) ?aF ?aB ?aS ?aL ?_
      (case aR => repeat (first | exact (Kd.R_reads' HO110.out).2.2 | (with_reducible refine Kd.C_alloc ?_ _) | (with_reducible refine Kd.C_drewN ?_ _) | (with_reducible refine Kd.C_drew ?_)))
      (case aB => exact (by repeat (first | (with_reducible first | exact HB.out | apply below_alloc | apply pw_below_drewN | apply below_drew1 | refine below_set ?_ GE101.out | refine below_set ?_ GE102.out | refine below_set ?_ GE103.out | refine below_set ?_ GE104.out) | exact HB.out)))
      (case aF => exact (fun k_ hk => ⟨Kd.fresh' (Kd.R_lt (by (with_reducible repeat (first | apply Kd.R_alloc | apply Kd.R_drewN | apply Kd.R_drew)); exact HO110.out)) k_ hk, Kd.freshB (g := gb102) (o := .cells #[.int .i64 a1_0, .int .i64 a1_1, .bool a1_2] 46 (0, 0)) (by (with_reducible repeat (first | refine blk_drewN ?_ _ | refine blk_drew ?_ | refine blk_alloc ?_ _)); exact BK102.out) k_ hk⟩))
      (case aO => exact (by (with_reducible repeat (first | apply Kd.R_alloc | apply Kd.R_drewN | apply Kd.R_drew)); exact HO107.out))
      (case aS => exact (below_size (by repeat (first | (with_reducible first | exact HB.out | apply below_alloc | apply pw_below_drewN | apply below_drew1 | refine below_set ?_ GE101.out | refine below_set ?_ GE102.out | refine below_set ?_ GE103.out | refine below_set ?_ GE104.out) | exact HB.out))))
      (case aL => have := LMc4.out; omega)
      intro v112 w24 ho hb hg hat
      rw [← Ny111.out] at ho
      have n0_ := Aside0.mk (blk_grown (g := gb101) (o := .cells #[.slice A0_0 l0_0.length c0_0, .bool a0_1, .int .i64 a0_2] 24 (0, 0)) (by (with_reducible repeat (first | refine blk_drewN ?_ _ | refine blk_drew ?_ | refine blk_alloc ?_ _)); exact BK101.out) hg (Kd.R_ne HO107.out BK101.out (by decide)))
      have n1_ := Aside0.mk (blk_grown (g := gb102) (o := .cells #[.int .i64 a1_0, .int .i64 a1_1, .bool a1_2] 46 (0, 0)) (by (with_reducible repeat (first | refine blk_drewN ?_ _ | refine blk_drew ?_ | refine blk_alloc ?_ _)); exact BK102.out) hg (Kd.R_away HO107.out (fun _ hk => hk.2)))
      have n2_ := Aside0.mk (blk_grown (g := gb103) (o := .cells #[.slice none 0 0, .bool false, .int .i64 0] 24 (0, 0)) (by (with_reducible repeat (first | refine blk_drewN ?_ _ | refine blk_drew ?_ | refine blk_alloc ?_ _)); exact BK103.out) hg (Kd.R_ne HO107.out BK103.out (by decide)))
      have n3_ := Aside0.mk (blk_grown (g := gb104) (o := .cells #[.slice A0_0 l0_0.length c0_0, .bool a0_1, .int .i64 a0_2] 24 (0, 0)) (by (with_reducible repeat (first | refine blk_drewN ?_ _ | refine blk_drew ?_ | refine blk_alloc ?_ _)); exact BK104.out) hg (Kd.R_ne HO107.out BK104.out (by decide)))
      have n4_ := Aside0.mk (Kd.R_after (ok := (fun k_ => k_ ≠ gb102)) (by (with_reducible repeat (first | apply Kd.R_alloc | apply Kd.R_drewN | apply Kd.R_drew)); exact Kd.R_mono HO110.out (fun _ hk => ⟨hk.2, hk.1⟩)) hg hat)
      have n5_ := Aside0.mk (hb)
      have n6_ := Aside0.mk (ho)
      clear BK101
      clear BK102
      clear BK103
      clear BK104
      clear HO110
      clear HB
      clear HO107
      have BK101 := n0_
      have BK102 := n1_
      have BK103 := n2_
      have BK104 := n3_
      have HO110 := n4_
      have HB := n5_
      have HO113 := n6_
      clear n0_ n1_ n2_ n3_ n4_ n5_ n6_
      clear ho hb hg hat
      obtain ⟨Ao26, co26, eo26⟩ := Kd.R_slice HO113.out
      (first | subst eo26 | (injection eo26 with f1_ f2_ f3_; have f4_ := f1_.symm; have f5_ := f3_.symm; clear f1_ f2_ f3_; subst f4_; subst f5_))
      refine hK.out _ _ ⟨(blk_cell BK101.out 0).trans rfl, (blk_cell BK101.out 1).trans rfl, (blk_cell BK101.out 2).trans rfl, (blk_cell BK102.out 0).trans rfl, (blk_cell BK102.out 1).trans rfl, (blk_cell BK102.out 2).trans rfl⟩ (fun hHeld => ?_)
      clear hK K
      refine norm_ (a' := ?_) ?_ ?_
      rotate_left
      · show Act.put _ (some 19) _ = _
        simp only [Act.put, List.setIfInBounds_toArray, List.set_cons_zero, List.set_cons_succ, i64_w, i32_w]
        rfl
      refine pure_ (i := 6) (N := some 20) (v := ?_) (a' := ?_) #[true, true, true, true, true, true, true, false] rfl rfl (any_of HT_.out (by kernel_rfl)) (fun _ _ _ h => h) (Or.inl ⟨by rfl, ?_⟩) ?_ ?_
      rotate_left
      · intro w'
        go_simp
        with_reducible rfl
      rotate_left
      · simp only [Act.put, List.setIfInBounds_toArray, List.set_cons_zero, List.set_cons_succ, i64_w, i32_w]
        rfl
      refine one_ (i := 7) (N := none) #[true, true, true, true, true, true, true, true] rfl rfl (one_of HT_.out (by kernel_rfl)) (by decide) (fun K hK => ?_)
      have hs27 : w24.cell? ⟨gb104, 0, none⟩ = some (.slice A0_0 l0_0.length c0_0) := (blk_cell BK104.out 0).trans rfl
      have hfs27 := blk_frozen BK104.out 0
      have hns27_0 := NB101_104.out
      have hns27_1 := NB102_104.out
      have hns27_2 := NB103_104.out
      have hms27_0 := NB104_101.out
      have hms27_1 := NB104_102.out
      have hms27_2 := NB104_103.out
      refine skip_ (w1 := ?_) (by rfl) rfl ?_ ?_
      rotate_left
      · go_simp
        rfl
      refine hK.out _ _ ⟨((cell_far (p := ⟨gb104, _, none⟩) NB101_104.out _).trans (hHeld.1)), ((cell_far (p := ⟨gb104, _, none⟩) NB101_104.out _).trans (hHeld.2.1)), ((cell_far (p := ⟨gb104, _, none⟩) NB101_104.out _).trans (hHeld.2.2.1)), ((cell_far (p := ⟨gb104, _, none⟩) NB102_104.out _).trans (hHeld.2.2.2.1)), ((cell_far (p := ⟨gb104, _, none⟩) NB102_104.out _).trans (hHeld.2.2.2.2.1)), ((cell_far (p := ⟨gb104, _, none⟩) NB102_104.out _).trans (hHeld.2.2.2.2.2))⟩ (fun hHeld => ?_)
      clear hK K
      refine done_ (done_of HT_.out (by kernel_rfl)) ?_
      have hcz28_0 : w24.cell? ⟨gb104, 0, none⟩ = some (.slice A0_0 l0_0.length c0_0) := (blk_cell BK104.out 0).trans rfl
      have hcz28_1 : w24.cell? ⟨gb104, 1, none⟩ = some (.bool a0_1) := (blk_cell BK104.out 1).trans rfl
      have hcz28_2 : w24.cell? ⟨gb104, 2, none⟩ = some (.int .i64 a0_2) := (blk_cell BK104.out 2).trans rfl
      have hfz28_0 := blk_frozen BK104.out 0
      have hfz28_1 := blk_frozen BK104.out 1
      have hfz28_2 := blk_frozen BK104.out 2
      try go_wp2_with (first | ((with_reducible refine gate_callee (f := 30) rfl ?_); refine goesL_ (some 23) rfl rfl Tryd.func30 (by kernel_rfl) rfl #[.agg #[.slice Ao26 y111.length co26, .bool a0_1, .int .i64 a0_2]] rfl (by (try simp only [List.map_toArray, List.map_cons, List.map_nil]); first | done | rfl | (simp only [List.length_drop, List.length_take]; rfl)) ?_; (with_reducible refine (leap_Check.calls _ _ y111 a0_1 a0_2 t114 t115 _ ?side1 ?side2 A5.out).mono ?_); (case side1 => refine (Kd.R_reads' (e := 46) (base := w.heap.size) (ok := fun k_ => (some k_ ≠ (.slice Ao25 y108.length co25 : Value).ownBlock ∧ k_ ≠ gb102)) (n := y111.length) (c := co26) ?_).2.2; exact (by (with_reducible repeat (first | apply Kd.R_alloc | apply Kd.R_drewN | apply Kd.R_drew)); exact (Kd.R_mono (Kd.R_far (p := ⟨gb104, 0, none⟩) (Kd.R_types HO113.out BK104.out (by decide)) (fun _ hk => hk.2) (.slice Ao26 y111.length co26)) (fun _ h_ => h_.1)))); (case side2 => exact (Kd.R_reads' HO113.out).2.1); rintro e w29 ⟨rfl, hb⟩; refine ⟨_, rfl, ?_⟩; have n0_ := Aside0.mk (Kd.R_below (by (with_reducible repeat (first | apply Kd.R_alloc | apply Kd.R_drewN | apply Kd.R_drew)); exact (Kd.R_mono (Kd.R_far (p := ⟨gb104, 0, none⟩) (Kd.R_types HO110.out BK104.out (by decide)) (fun _ hk => hk.2) (.slice Ao26 y111.length co26)) (fun _ h_ => h_.1))) hb); have n1_ := Aside0.mk (Kd.R_below (by (with_reducible repeat (first | apply Kd.R_alloc | apply Kd.R_drewN | apply Kd.R_drew)); exact (Kd.R_mono (Kd.R_far (p := ⟨gb104, 0, none⟩) (Kd.R_types HO113.out BK104.out (by decide)) (fun _ hk => hk.2) (.slice Ao26 y111.length co26)) (fun _ h_ => h_.1))) hb); have n2_ := Aside0.mk (blk_below (g := gb101) (o := .cells #[.slice A0_0 l0_0.length c0_0, .bool a0_1, .int .i64 a0_2] 24 (0, 0)) (by (with_reducible repeat (first | refine blk_drewN ?_ _ | refine blk_drew ?_ | refine blk_alloc ?_ _)); refine blk_far ?_ NB101_104.out _; (with_reducible repeat (first | refine blk_drewN ?_ _ | refine blk_drew ?_ | refine blk_alloc ?_ _)); exact BK101.out) hb); have n3_ := Aside0.mk (blk_below (g := gb102) (o := .cells #[.int .i64 a1_0, .int .i64 a1_1, .bool a1_2] 46 (0, 0)) (by (with_reducible repeat (first | refine blk_drewN ?_ _ | refine blk_drew ?_ | refine blk_alloc ?_ _)); refine blk_far ?_ NB102_104.out _; (with_reducible repeat (first | refine blk_drewN ?_ _ | refine blk_drew ?_ | refine blk_alloc ?_ _)); exact BK102.out) hb); have n4_ := Aside0.mk (blk_below (g := gb103) (o := .cells #[.slice none 0 0, .bool false, .int .i64 0] 24 (0, 0)) (by (with_reducible repeat (first | refine blk_drewN ?_ _ | refine blk_drew ?_ | refine blk_alloc ?_ _)); refine blk_far ?_ NB103_104.out _; (with_reducible repeat (first | refine blk_drewN ?_ _ | refine blk_drew ?_ | refine blk_alloc ?_ _)); exact BK103.out) hb); have n5_ := Aside0.mk (blk_below (g := gb104) (o := .cells #[.slice Ao26 y111.length co26, .bool a0_1, .int .i64 a0_2] 24 (0, 0)) (by (with_reducible repeat (first | refine blk_drewN ?_ _ | refine blk_drew ?_ | refine blk_alloc ?_ _)); refine blk_put (cs := #[.slice A0_0 l0_0.length c0_0, .bool a0_1, .int .i64 a0_2]) ?_ 0 _ rfl; (with_reducible repeat (first | refine blk_drewN ?_ _ | refine blk_drew ?_ | refine blk_alloc ?_ _)); exact BK104.out) hb); have n6_ := Aside0.mk (below_step (by repeat (first | (with_reducible first | exact HB.out | apply below_alloc | apply pw_below_drewN | apply below_drew1 | refine below_set ?_ GE101.out | refine below_set ?_ GE102.out | refine below_set ?_ GE103.out | refine below_set ?_ GE104.out) | exact HB.out)) hb); clear HO110; clear HO113; clear BK101; clear BK102; clear BK103; clear BK104; clear HB; have HO110 := n0_; have HO113 := n1_; have BK101 := n2_; have BK102 := n3_; have BK103 := n4_; have BK104 := n5_; have HB := n6_; clear n0_ n1_ n2_ n3_ n4_ n5_ n6_; (try clear hb); (try clear hb2); (try clear hk); (try clear hi); have hcz30_0 : w29.cell? ⟨gb104, 0, none⟩ = some (.slice Ao26 y111.length co26) := (blk_cell BK104.out 0).trans rfl; have hcz30_1 : w29.cell? ⟨gb104, 1, none⟩ = some (.bool a0_1) := (blk_cell BK104.out 1).trans rfl; have hcz30_2 : w29.cell? ⟨gb104, 2, none⟩ = some (.int .i64 a0_2) := (blk_cell BK104.out 2).trans rfl; have hfz30_0 := blk_frozen BK104.out 0; have hfz30_1 := blk_frozen BK104.out 1; have hfz30_2 := blk_frozen BK104.out 2; have hnb31 := NB103_102.out; have hnc31 := NB102_103.out; have hcz32_0 : w29.cell? ⟨gb103, 0, none⟩ = some (.slice none 0 0) := (blk_cell BK103.out 0).trans rfl; have hcz32_1 : w29.cell? ⟨gb103, 1, none⟩ = some (.bool false) := (blk_cell BK103.out 1).trans rfl; have hcz32_2 : w29.cell? ⟨gb103, 2, none⟩ = some (.int .i64 0) := (blk_cell BK103.out 2).trans rfl; have hfz32_0 := blk_frozen BK103.out 0; have hfz32_1 := blk_frozen BK103.out 1; have hfz32_2 := blk_frozen BK103.out 2))
      refine bodyPost_ret (results_ct rfl _ _ gb103 24 #[.slice Ao26 y111.length co26, .bool a0_1, .int .i64 a0_2] (0, 0) _ rfl (by (with_reducible repeat (first | refine blk_drewN ?_ _ | refine blk_drew ?_ | refine blk_alloc ?_ _)); refine blk_put (cs := #[.slice Ao26 y111.length co26, .bool a0_1, .int .i64 0]) ?_ 2 _ rfl; (with_reducible repeat (first | refine blk_drewN ?_ _ | refine blk_drew ?_ | refine blk_alloc ?_ _)); refine blk_put (cs := #[.slice Ao26 y111.length co26, .bool false, .int .i64 0]) ?_ 1 _ rfl; (with_reducible repeat (first | refine blk_drewN ?_ _ | refine blk_drew ?_ | refine blk_alloc ?_ _)); refine blk_put (cs := #[.slice none 0 0, .bool false, .int .i64 0]) ?_ 0 _ rfl; (with_reducible repeat (first | refine blk_drewN ?_ _ | refine blk_drew ?_ | refine blk_alloc ?_ _)); exact BK103.out) Tryd.underlying24 rfl (by kernel_rfl)) rfl ?_
      exact ⟨_, by first | rfl | (simp [errW_none, errW_some] <;> rfl) | (simp [*, errW_none, errW_some] <;> rfl), by (with_reducible repeat (first | apply Kd.R_alloc | apply Kd.R_drewN | apply Kd.R_drew)); exact Kd.R_mono (Kd.R_far (p := ⟨gb103, 2, none⟩) (Kd.R_far (p := ⟨gb103, 1, none⟩) (Kd.R_far (p := ⟨gb103, 0, none⟩) (Kd.R_types HO113.out BK103.out (by decide)) (fun _ hk => hk.2) (.slice Ao26 y111.length co26)) (fun _ hk => hk.2) (.bool a0_1)) (fun _ hk => hk.2) (.int .i64 a0_2)) (fun _ hk => trivial), by repeat (first | (with_reducible first | exact HB.out | apply below_alloc | apply pw_below_drewN | apply below_drew1 | refine below_set ?_ GE101.out | refine below_set ?_ GE102.out | refine below_set ?_ GE103.out | refine below_set ?_ GE104.out) | exact HB.out)⟩
    · rw [if_neg c6] at H
      have c6b0 : (t115 == 0) = false := beq_eq_false_iff_ne.mpr c6
      have c6b1 : (t115 != 0) = true := bne_iff_ne.mpr c6
      exact absurd H (by simp)
  · rw [if_neg c4] at H
    exact absurd H (by simp)
def leap_Add.g (l0_0 : List (S46)) (a0_1 : Bool) (a0_2 : Int) (a1_0 : Int) (a1_1 : Int) (a1_2 : Bool) : Option Int := (api_Leap.f l0_0).bind fun t105 => ((some (([(⟨a1_0, a1_1, a1_2⟩ : S46)] : List (S46)) : List (S46))).bind fun y108 => (if t105.length + y108.length < 5864062014805 then ((some (t105 ++ y108 : List (S46))).bind fun y111 => ((leap_Check.f y111 a0_1 a0_2).bind fun bt114 => (if bt114.2 = 0 then (none) else (some bt114.2)))) else (none)))
set_option maxHeartbeats 8000000 in
set_option maxRecDepth 100000 in
theorem leap_Add.fails (A0_0 : Option Addr) (c0_0 : Nat) (l0_0 : List (S46)) (a0_1 : Bool) (a0_2 : Int) (a1_0 : Int) (a1_1 : Int) (a1_2 : Bool) (r4 : Int) (w : World) (hr0_0 : Kd.C k46 w A0_0 l0_0.length l0_0) (hc0_0 : l0_0.length ≤ c0_0) (h : leap_Add.g l0_0 a0_1 a0_2 a1_0 a1_1 a1_2 = some r4) :
    Calls Tryd.prog 80 #[.agg #[.slice A0_0 l0_0.length c0_0, .bool a0_1, .int .i64 a0_2], .agg #[.int .i64 a1_0, .int .i64 a1_1, .bool a1_2]] w fun e w' => ∃ a_ : Option Addr, e = .returned (.tuple #[.agg #[.slice a_ l0_0.length l0_0.length, .bool a0_1, .int .i64 a0_2], .int .i64 r4]) ∧ Below w.heap.size w w' := by
  have hu24 := Tryd.underlying24
  have hu46 := Tryd.underlying46
  have HR0_0 := Aside0.mk hr0_0
  have HC0_0 := Aside0.mk hc0_0
  clear hr0_0 hc0_0
  have HB := Aside0.mk (Below.refl w.heap.size w)
  have H : ((api_Leap.f l0_0).bind fun t105 => ((some (([(⟨a1_0, a1_1, a1_2⟩ : S46)] : List (S46)) : List (S46))).bind fun y108 => (if t105.length + y108.length < 5864062014805 then ((some (t105 ++ y108 : List (S46))).bind fun y111 => ((leap_Check.f y111 a0_1 a0_2).bind fun bt114 => (if bt114.2 = 0 then (none) else (some bt114.2)))) else (none)))) = some r4 := h
  clear h
  replace H := Option.bind_eq_some_iff.mp H
  obtain ⟨t105, A30, H⟩ := H
  replace H : ((some (([(⟨a1_0, a1_1, a1_2⟩ : S46)] : List (S46)) : List (S46))).bind fun y108 => (if t105.length + y108.length < 5864062014805 then ((some (t105 ++ y108 : List (S46))).bind fun y111 => ((leap_Check.f y111 a0_1 a0_2).bind fun bt114 => (if bt114.2 = 0 then (none) else (some bt114.2)))) else (none))) = some r4 := H
  have A3 := Aside0.mk A30
  clear A30
  obtain ⟨y108, hy108⟩ : ∃ y_ : List (S46), y_ = (([(⟨a1_0, a1_1, a1_2⟩ : S46)] : List (S46))) := ⟨_, rfl⟩
  replace H : (if t105.length + y108.length < 5864062014805 then ((some (t105 ++ y108 : List (S46))).bind fun y111 => ((leap_Check.f y111 a0_1 a0_2).bind fun bt114 => (if bt114.2 = 0 then (none) else (some bt114.2)))) else (none)) = some r4 := by first | (rw [hy108]; with_reducible exact H) | (have H2_ := (Option.bind_some _ _).symm.trans H; rw [hy108]; with_reducible exact H2_) | (have H2_ := (Option.bind_some _ _).symm.trans H; with_reducible exact H2_) | with_reducible exact H | (rw [hy108]; exact H) | exact H
  have Ny108 := Aside0.mk hy108
  clear hy108
  by_cases c4 : t105.length + y108.length < 5864062014805
  · rw [if_pos c4] at H
    have LMc4 := Aside0.mk c4
    clear c4
    obtain ⟨y111, hy111⟩ : ∃ y_ : List (S46), y_ = (t105 ++ y108) := ⟨_, rfl⟩
    replace H : ((leap_Check.f y111 a0_1 a0_2).bind fun bt114 => (if bt114.2 = 0 then (none) else (some bt114.2))) = some r4 := by first | (rw [hy111]; with_reducible exact H) | (have H2_ := (Option.bind_some _ _).symm.trans H; rw [hy111]; with_reducible exact H2_) | (have H2_ := (Option.bind_some _ _).symm.trans H; with_reducible exact H2_) | with_reducible exact H | (rw [hy111]; exact H) | exact H
    have Ny111 := Aside0.mk hy111
    clear hy111
    replace H := Option.bind_eq_some_iff.mp H
    obtain ⟨⟨t114, t115⟩, A50, H⟩ := H
    replace H : (if t115 = 0 then (none) else (some t115)) = some r4 := H
    have A5 := Aside0.mk A50
    clear A50
    by_cases c6 : t115 = 0
    · rw [if_pos c6] at H
      exact absurd H (by simp)
    · rw [if_neg c6] at H
      have c6b0 : (t115 == 0) = false := beq_eq_false_iff_ne.mpr c6
      have c6b1 : (t115 != 0) = true := bne_iff_ne.mpr c6
      clear c6
      simp only [Option.some.injEq] at H
      obtain rfl := H
      go_enter Tryd.func80, Tryd.ntmps80
      try go_wp2_with (first | ((with_reducible refine gate_dst (N := 2) rfl ?_); refine box_event ?hg (N := 2) ?hd (cs := #[.slice A0_0 l0_0.length c0_0, .bool a0_1, .int .i64 a0_2]) (t := 24) ?hr ?_; (case hd => rfl); (case hg => rfl); (case hr => first | (go_simp; done) | (go_simp; rfl)); intro gb101 hg w7 hbox hb; have n0_ := Aside0.mk (below_step (by repeat (first | (with_reducible first | exact HB.out | apply below_alloc | apply pw_below_drewN | apply below_drew1) | exact HB.out)) hb); have n1_ := Aside0.mk (hbox); have n2_ := Aside0.mk ((by rw [hg]; exact (below_size (by repeat (first | (with_reducible first | exact HB.out | apply below_alloc | apply pw_below_drewN | apply below_drew1) | exact HB.out))) : w.heap.size ≤ gb101)); have n3_ := Aside0.mk ((by rw [hg]; exact (below_size (by repeat (first | (with_reducible first | exact HB.out | apply below_alloc | apply pw_below_drewN | apply below_drew1) | exact HB.out))) : w.heap.size ≤ gb101)); clear HB; have HB := n0_; have BK101 := n1_; have GW101 := n2_; have GE101 := n3_; clear n0_ n1_ n2_ n3_; clear hb hbox hg) | ((with_reducible refine gate_dst (N := 3) rfl ?_); refine box_event ?hg (N := 3) ?hd (cs := #[.int .i64 a1_0, .int .i64 a1_1, .bool a1_2]) (t := 46) ?hr ?_; (case hd => rfl); (case hg => rfl); (case hr => first | (go_simp; done) | (go_simp; rfl)); intro gb102 hg w8 hbox hb; have n0_ := Aside0.mk (blk_below (g := gb101) (o := .cells #[.slice A0_0 l0_0.length c0_0, .bool a0_1, .int .i64 a0_2] 24 (0, 0)) (by (with_reducible repeat (first | refine blk_drewN ?_ _ | refine blk_drew ?_ | refine blk_alloc ?_ _)); exact BK101.out) hb); have n1_ := Aside0.mk (below_step (by repeat (first | (with_reducible first | exact HB.out | apply below_alloc | apply pw_below_drewN | apply below_drew1 | refine below_set ?_ GE101.out) | exact HB.out)) hb); have n2_ := Aside0.mk (hbox); have n3_ := Aside0.mk ((by rw [hg]; exact (below_size (by repeat (first | (with_reducible first | exact HB.out | apply below_alloc | apply pw_below_drewN | apply below_drew1 | refine below_set ?_ GE101.out) | exact HB.out))) : w.heap.size ≤ gb102)); have n4_ := Aside0.mk ((by rw [hg]; exact (below_size (by repeat (first | (with_reducible first | exact HB.out | apply below_alloc | apply pw_below_drewN | apply below_drew1 | refine below_set ?_ GE101.out) | exact HB.out))) : w.heap.size ≤ gb102)); have n5_ := Aside0.mk ((by rw [hg]; exact Nat.ne_of_lt (blk_lt (g := gb101) (o := .cells #[.slice A0_0 l0_0.length c0_0, .bool a0_1, .int .i64 a0_2] 24 (0, 0)) (by (with_reducible repeat (first | refine blk_drewN ?_ _ | refine blk_drew ?_ | refine blk_alloc ?_ _)); exact BK101.out)) : gb101 ≠ gb102)); have n6_ := Aside0.mk ((by rw [hg]; exact Nat.ne_of_gt (blk_lt (g := gb101) (o := .cells #[.slice A0_0 l0_0.length c0_0, .bool a0_1, .int .i64 a0_2] 24 (0, 0)) (by (with_reducible repeat (first | refine blk_drewN ?_ _ | refine blk_drew ?_ | refine blk_alloc ?_ _)); exact BK101.out)) : gb102 ≠ gb101)); clear BK101; clear HB; have BK101 := n0_; have HB := n1_; have BK102 := n2_; have GW102 := n3_; have GE102 := n4_; have NB101_102 := n5_; have NB102_101 := n6_; clear n0_ n1_ n2_ n3_ n4_ n5_ n6_; clear hb hbox hg) | ((with_reducible refine gate_dst (N := 4) rfl ?_); refine box_event ?hg (N := 4) ?hd (cs := #[.slice none 0 0, .bool false, .int .i64 0]) (t := 24) ?hr ?_; (case hd => rfl); (case hg => rfl); (case hr => first | (go_simp; done) | (go_simp; rfl)); intro gb103 hg w9 hbox hb; have n0_ := Aside0.mk (blk_below (g := gb101) (o := .cells #[.slice A0_0 l0_0.length c0_0, .bool a0_1, .int .i64 a0_2] 24 (0, 0)) (by (with_reducible repeat (first | refine blk_drewN ?_ _ | refine blk_drew ?_ | refine blk_alloc ?_ _)); exact BK101.out) hb); have n1_ := Aside0.mk (blk_below (g := gb102) (o := .cells #[.int .i64 a1_0, .int .i64 a1_1, .bool a1_2] 46 (0, 0)) (by (with_reducible repeat (first | refine blk_drewN ?_ _ | refine blk_drew ?_ | refine blk_alloc ?_ _)); exact BK102.out) hb); have n2_ := Aside0.mk (below_step (by repeat (first | (with_reducible first | exact HB.out | apply below_alloc | apply pw_below_drewN | apply below_drew1 | refine below_set ?_ GE101.out | refine below_set ?_ GE102.out) | exact HB.out)) hb); have n3_ := Aside0.mk (hbox); have n4_ := Aside0.mk ((by rw [hg]; exact (below_size (by repeat (first | (with_reducible first | exact HB.out | apply below_alloc | apply pw_below_drewN | apply below_drew1 | refine below_set ?_ GE101.out | refine below_set ?_ GE102.out) | exact HB.out))) : w.heap.size ≤ gb103)); have n5_ := Aside0.mk ((by rw [hg]; exact (below_size (by repeat (first | (with_reducible first | exact HB.out | apply below_alloc | apply pw_below_drewN | apply below_drew1 | refine below_set ?_ GE101.out | refine below_set ?_ GE102.out) | exact HB.out))) : w.heap.size ≤ gb103)); have n6_ := Aside0.mk ((by rw [hg]; exact Nat.ne_of_lt (blk_lt (g := gb101) (o := .cells #[.slice A0_0 l0_0.length c0_0, .bool a0_1, .int .i64 a0_2] 24 (0, 0)) (by (with_reducible repeat (first | refine blk_drewN ?_ _ | refine blk_drew ?_ | refine blk_alloc ?_ _)); exact BK101.out)) : gb101 ≠ gb103)); have n7_ := Aside0.mk ((by rw [hg]; exact Nat.ne_of_gt (blk_lt (g := gb101) (o := .cells #[.slice A0_0 l0_0.length c0_0, .bool a0_1, .int .i64 a0_2] 24 (0, 0)) (by (with_reducible repeat (first | refine blk_drewN ?_ _ | refine blk_drew ?_ | refine blk_alloc ?_ _)); exact BK101.out)) : gb103 ≠ gb101)); have n8_ := Aside0.mk ((by rw [hg]; exact Nat.ne_of_lt (blk_lt (g := gb102) (o := .cells #[.int .i64 a1_0, .int .i64 a1_1, .bool a1_2] 46 (0, 0)) (by (with_reducible repeat (first | refine blk_drewN ?_ _ | refine blk_drew ?_ | refine blk_alloc ?_ _)); exact BK102.out)) : gb102 ≠ gb103)); have n9_ := Aside0.mk ((by rw [hg]; exact Nat.ne_of_gt (blk_lt (g := gb102) (o := .cells #[.int .i64 a1_0, .int .i64 a1_1, .bool a1_2] 46 (0, 0)) (by (with_reducible repeat (first | refine blk_drewN ?_ _ | refine blk_drew ?_ | refine blk_alloc ?_ _)); exact BK102.out)) : gb103 ≠ gb102)); clear BK101; clear BK102; clear HB; have BK101 := n0_; have BK102 := n1_; have HB := n2_; have BK103 := n3_; have GW103 := n4_; have GE103 := n5_; have NB101_103 := n6_; have NB103_101 := n7_; have NB102_103 := n8_; have NB103_102 := n9_; clear n0_ n1_ n2_ n3_ n4_ n5_ n6_ n7_ n8_ n9_; clear hb hbox hg; have hnb10 := NB101_102.out; have hnc10 := NB102_101.out; have hnb11 := NB101_103.out; have hnc11 := NB103_101.out; have hcz12_0 : w9.cell? ⟨gb101, 0, none⟩ = some (.slice A0_0 l0_0.length c0_0) := (blk_cell BK101.out 0).trans rfl; have hcz12_1 : w9.cell? ⟨gb101, 1, none⟩ = some (.bool a0_1) := (blk_cell BK101.out 1).trans rfl; have hcz12_2 : w9.cell? ⟨gb101, 2, none⟩ = some (.int .i64 a0_2) := (blk_cell BK101.out 2).trans rfl; have hfz12_0 := blk_frozen BK101.out 0; have hfz12_1 := blk_frozen BK101.out 1; have hfz12_2 := blk_frozen BK101.out 2) | ((with_reducible refine gate_dst (N := 7) rfl ?_); refine box_event ?hg (N := 7) ?hd (cs := #[.slice none 0 0, .bool false, .int .i64 0]) (t := 24) ?hr ?_; (case hd => rfl); (case hg => rfl); (case hr => first | (go_simp; done) | (go_simp; rfl)); intro gb104 hg w13 hbox hb; have n0_ := Aside0.mk (blk_below (g := gb101) (o := .cells #[.slice A0_0 l0_0.length c0_0, .bool a0_1, .int .i64 a0_2] 24 (0, 0)) (by (with_reducible repeat (first | refine blk_drewN ?_ _ | refine blk_drew ?_ | refine blk_alloc ?_ _)); exact BK101.out) hb); have n1_ := Aside0.mk (blk_below (g := gb102) (o := .cells #[.int .i64 a1_0, .int .i64 a1_1, .bool a1_2] 46 (0, 0)) (by (with_reducible repeat (first | refine blk_drewN ?_ _ | refine blk_drew ?_ | refine blk_alloc ?_ _)); exact BK102.out) hb); have n2_ := Aside0.mk (blk_below (g := gb103) (o := .cells #[.slice none 0 0, .bool false, .int .i64 0] 24 (0, 0)) (by (with_reducible repeat (first | refine blk_drewN ?_ _ | refine blk_drew ?_ | refine blk_alloc ?_ _)); exact BK103.out) hb); have n3_ := Aside0.mk (below_step (by repeat (first | (with_reducible first | exact HB.out | apply below_alloc | apply pw_below_drewN | apply below_drew1 | refine below_set ?_ GE101.out | refine below_set ?_ GE102.out | refine below_set ?_ GE103.out) | exact HB.out)) hb); have n4_ := Aside0.mk (hbox); have n5_ := Aside0.mk ((by rw [hg]; exact (below_size (by repeat (first | (with_reducible first | exact HB.out | apply below_alloc | apply pw_below_drewN | apply below_drew1 | refine below_set ?_ GE101.out | refine below_set ?_ GE102.out | refine below_set ?_ GE103.out) | exact HB.out))) : w.heap.size ≤ gb104)); have n6_ := Aside0.mk ((by rw [hg]; exact (below_size (by repeat (first | (with_reducible first | exact HB.out | apply below_alloc | apply pw_below_drewN | apply below_drew1 | refine below_set ?_ GE101.out | refine below_set ?_ GE102.out | refine below_set ?_ GE103.out) | exact HB.out))) : w.heap.size ≤ gb104)); have n7_ := Aside0.mk ((by rw [hg]; exact Nat.ne_of_lt (blk_lt (g := gb101) (o := .cells #[.slice A0_0 l0_0.length c0_0, .bool a0_1, .int .i64 a0_2] 24 (0, 0)) (by (with_reducible repeat (first | refine blk_drewN ?_ _ | refine blk_drew ?_ | refine blk_alloc ?_ _)); exact BK101.out)) : gb101 ≠ gb104)); have n8_ := Aside0.mk ((by rw [hg]; exact Nat.ne_of_gt (blk_lt (g := gb101) (o := .cells #[.slice A0_0 l0_0.length c0_0, .bool a0_1, .int .i64 a0_2] 24 (0, 0)) (by (with_reducible repeat (first | refine blk_drewN ?_ _ | refine blk_drew ?_ | refine blk_alloc ?_ _)); exact BK101.out)) : gb104 ≠ gb101)); have n9_ := Aside0.mk ((by rw [hg]; exact Nat.ne_of_lt (blk_lt (g := gb102) (o := .cells #[.int .i64 a1_0, .int .i64 a1_1, .bool a1_2] 46 (0, 0)) (by (with_reducible repeat (first | refine blk_drewN ?_ _ | refine blk_drew ?_ | refine blk_alloc ?_ _)); exact BK102.out)) : gb102 ≠ gb104)); have n10_ := Aside0.mk ((by rw [hg]; exact Nat.ne_of_gt (blk_lt (g := gb102) (o := .cells #[.int .i64 a1_0, .int .i64 a1_1, .bool a1_2] 46 (0, 0)) (by (with_reducible repeat (first | refine blk_drewN ?_ _ | refine blk_drew ?_ | refine blk_alloc ?_ _)); exact BK102.out)) : gb104 ≠ gb102)); have n11_ := Aside0.mk ((by rw [hg]; exact Nat.ne_of_lt (blk_lt (g := gb103) (o := .cells #[.slice none 0 0, .bool false, .int .i64 0] 24 (0, 0)) (by (with_reducible repeat (first | refine blk_drewN ?_ _ | refine blk_drew ?_ | refine blk_alloc ?_ _)); exact BK103.out)) : gb103 ≠ gb104)); have n12_ := Aside0.mk ((by rw [hg]; exact Nat.ne_of_gt (blk_lt (g := gb103) (o := .cells #[.slice none 0 0, .bool false, .int .i64 0] 24 (0, 0)) (by (with_reducible repeat (first | refine blk_drewN ?_ _ | refine blk_drew ?_ | refine blk_alloc ?_ _)); exact BK103.out)) : gb104 ≠ gb103)); clear BK101; clear BK102; clear BK103; clear HB; have BK101 := n0_; have BK102 := n1_; have BK103 := n2_; have HB := n3_; have BK104 := n4_; have GW104 := n5_; have GE104 := n6_; have NB101_104 := n7_; have NB104_101 := n8_; have NB102_104 := n9_; have NB104_102 := n10_; have NB103_104 := n11_; have NB104_103 := n12_; clear n0_ n1_ n2_ n3_ n4_ n5_ n6_ n7_ n8_ n9_ n10_ n11_ n12_; clear hb hbox hg; have hnb14 := NB104_101.out; have hnc14 := NB101_104.out; have hnb15 := NB104_102.out; have hnc15 := NB102_104.out; have hnb16 := NB104_103.out; have hnc16 := NB103_104.out; have hcz17_0 : w13.cell? ⟨gb104, 0, none⟩ = some (.slice none 0 0) := (blk_cell BK104.out 0).trans rfl; have hcz17_1 : w13.cell? ⟨gb104, 1, none⟩ = some (.bool false) := (blk_cell BK104.out 1).trans rfl; have hcz17_2 : w13.cell? ⟨gb104, 2, none⟩ = some (.int .i64 0) := (blk_cell BK104.out 2).trans rfl; have hfz17_0 := blk_frozen BK104.out 0; have hfz17_1 := blk_frozen BK104.out 1; have hfz17_2 := blk_frozen BK104.out 2))
      have n0_ : Aside0 ((((w13.setCell ⟨gb104, 0, none⟩ (.slice A0_0 l0_0.length c0_0)).setCell ⟨gb104, 1, none⟩ (.bool a0_1)).setCell ⟨gb104, 2, none⟩ (.int .i64 a0_2)).heap[gb101]? = some (.cells #[.slice A0_0 l0_0.length c0_0, .bool a0_1, .int .i64 a0_2] 24 (0, 0))) := ⟨by (with_reducible repeat (first | refine blk_drewN ?_ _ | refine blk_drew ?_ | refine blk_alloc ?_ _)); refine blk_far ?_ NB101_104.out _; (with_reducible repeat (first | refine blk_drewN ?_ _ | refine blk_drew ?_ | refine blk_alloc ?_ _)); refine blk_far ?_ NB101_104.out _; (with_reducible repeat (first | refine blk_drewN ?_ _ | refine blk_drew ?_ | refine blk_alloc ?_ _)); refine blk_far ?_ NB101_104.out _; (with_reducible repeat (first | refine blk_drewN ?_ _ | refine blk_drew ?_ | refine blk_alloc ?_ _)); exact BK101.out⟩
      have n1_ : Aside0 ((((w13.setCell ⟨gb104, 0, none⟩ (.slice A0_0 l0_0.length c0_0)).setCell ⟨gb104, 1, none⟩ (.bool a0_1)).setCell ⟨gb104, 2, none⟩ (.int .i64 a0_2)).heap[gb102]? = some (.cells #[.int .i64 a1_0, .int .i64 a1_1, .bool a1_2] 46 (0, 0))) := ⟨by (with_reducible repeat (first | refine blk_drewN ?_ _ | refine blk_drew ?_ | refine blk_alloc ?_ _)); refine blk_far ?_ NB102_104.out _; (with_reducible repeat (first | refine blk_drewN ?_ _ | refine blk_drew ?_ | refine blk_alloc ?_ _)); refine blk_far ?_ NB102_104.out _; (with_reducible repeat (first | refine blk_drewN ?_ _ | refine blk_drew ?_ | refine blk_alloc ?_ _)); refine blk_far ?_ NB102_104.out _; (with_reducible repeat (first | refine blk_drewN ?_ _ | refine blk_drew ?_ | refine blk_alloc ?_ _)); exact BK102.out⟩
      have n2_ : Aside0 ((((w13.setCell ⟨gb104, 0, none⟩ (.slice A0_0 l0_0.length c0_0)).setCell ⟨gb104, 1, none⟩ (.bool a0_1)).setCell ⟨gb104, 2, none⟩ (.int .i64 a0_2)).heap[gb103]? = some (.cells #[.slice none 0 0, .bool false, .int .i64 0] 24 (0, 0))) := ⟨by (with_reducible repeat (first | refine blk_drewN ?_ _ | refine blk_drew ?_ | refine blk_alloc ?_ _)); refine blk_far ?_ NB103_104.out _; (with_reducible repeat (first | refine blk_drewN ?_ _ | refine blk_drew ?_ | refine blk_alloc ?_ _)); refine blk_far ?_ NB103_104.out _; (with_reducible repeat (first | refine blk_drewN ?_ _ | refine blk_drew ?_ | refine blk_alloc ?_ _)); refine blk_far ?_ NB103_104.out _; (with_reducible repeat (first | refine blk_drewN ?_ _ | refine blk_drew ?_ | refine blk_alloc ?_ _)); exact BK103.out⟩
      have n3_ : Aside0 ((((w13.setCell ⟨gb104, 0, none⟩ (.slice A0_0 l0_0.length c0_0)).setCell ⟨gb104, 1, none⟩ (.bool a0_1)).setCell ⟨gb104, 2, none⟩ (.int .i64 a0_2)).heap[gb104]? = some (.cells #[.slice A0_0 l0_0.length c0_0, .bool a0_1, .int .i64 a0_2] 24 (0, 0))) := ⟨by (with_reducible repeat (first | refine blk_drewN ?_ _ | refine blk_drew ?_ | refine blk_alloc ?_ _)); refine blk_put (cs := #[.slice A0_0 l0_0.length c0_0, .bool a0_1, .int .i64 0]) ?_ 2 _ rfl; (with_reducible repeat (first | refine blk_drewN ?_ _ | refine blk_drew ?_ | refine blk_alloc ?_ _)); refine blk_put (cs := #[.slice A0_0 l0_0.length c0_0, .bool false, .int .i64 0]) ?_ 1 _ rfl; (with_reducible repeat (first | refine blk_drewN ?_ _ | refine blk_drew ?_ | refine blk_alloc ?_ _)); refine blk_put (cs := #[.slice none 0 0, .bool false, .int .i64 0]) ?_ 0 _ rfl; (with_reducible repeat (first | refine blk_drewN ?_ _ | refine blk_drew ?_ | refine blk_alloc ?_ _)); exact BK104.out⟩
      have n4_ : Aside0 (Below w.heap.size w (((w13.setCell ⟨gb104, 0, none⟩ (.slice A0_0 l0_0.length c0_0)).setCell ⟨gb104, 1, none⟩ (.bool a0_1)).setCell ⟨gb104, 2, none⟩ (.int .i64 a0_2))) := ⟨by repeat (first | (with_reducible first | exact HB.out | apply below_alloc | apply pw_below_drewN | apply below_drew1 | refine below_set ?_ GE101.out | refine below_set ?_ GE102.out | refine below_set ?_ GE103.out | refine below_set ?_ GE104.out) | exact HB.out)⟩
      (try clear BK101)
      (try clear BK102)
      (try clear BK103)
      (try clear BK104)
      (try clear HB)
      generalize (((w13.setCell ⟨gb104, 0, none⟩ (.slice A0_0 l0_0.length c0_0)).setCell ⟨gb104, 1, none⟩ (.bool a0_1)).setCell ⟨gb104, 2, none⟩ (.int .i64 a0_2)) = w18 at n0_ n1_ n2_ n3_ n4_ ⊢
      have BK101 := n0_
      have BK102 := n1_
      have BK103 := n2_
      have BK104 := n3_
      have HB := n4_
      clear n0_ n1_ n2_ n3_ n4_
      have n0_ := Aside0.mk (blk_drew BK101.out)
      have n1_ := Aside0.mk (blk_drew BK102.out)
      have n2_ := Aside0.mk (blk_drew BK103.out)
      have n3_ := Aside0.mk (blk_drew BK104.out)
      have n4_ := Aside0.mk (below_drew1 HB.out)
      clear BK101
      clear BK102
      clear BK103
      clear BK104
      clear HB
      have BK101 := n0_
      have BK102 := n1_
      have BK103 := n2_
      have BK104 := n3_
      have HB := n4_
      clear n0_ n1_ n2_ n3_ n4_
      refine start_ (n := 8) (S := fun w' => w'.cell? ⟨gb101, 0, none⟩ = some (.slice A0_0 l0_0.length c0_0) ∧ w'.cell? ⟨gb101, 1, none⟩ = some (.bool a0_1) ∧ w'.cell? ⟨gb101, 2, none⟩ = some (.int .i64 a0_2) ∧ w'.cell? ⟨gb102, 0, none⟩ = some (.int .i64 a1_0) ∧ w'.cell? ⟨gb102, 1, none⟩ = some (.int .i64 a1_1) ∧ w'.cell? ⟨gb102, 2, none⟩ = some (.bool a1_2)) (ds := []) #[false, false, false, false, false, false, false, false] (by kernel_rfl) rfl rfl ⟨(blk_cell BK101.out 0).trans rfl, (blk_cell BK101.out 1).trans rfl, (blk_cell BK101.out 2).trans rfl, (blk_cell BK102.out 0).trans rfl, (blk_cell BK102.out 1).trans rfl, (blk_cell BK102.out 2).trans rfl⟩ (fun hHeld => ?_); refine with_tabW leap_Add.tab3 leap_Add.bits3 (fun HT_ HW_ => ?_)
      generalize w18.drew = w19 at BK101 BK102 BK103 BK104 HB hHeld ⊢
      refine pure_ (i := 0) (N := some 14) (v := ?_) (a' := ?_) #[true, false, false, false, false, false, false, false] rfl rfl (any_of HT_.out (by kernel_rfl)) (fun _ _ _ h => h) (Or.inl ⟨by rfl, ?_⟩) ?_ ?_
      rotate_left
      · intro w'
        go_simp
        with_reducible rfl
      rotate_left
      · simp only [Act.put, List.setIfInBounds_toArray, List.set_cons_zero, List.set_cons_succ, i64_w, i32_w]
        rfl
      refine take_ (i := 1) (N := some 15) (v := ?_) (a' := ?_) #[true, true, false, false, false, false, false, false] rfl rfl (take_ofW HT_.out HW_.out (by kernel_rfl)) (fun _ _ _ h => h) (Or.inl ⟨by rfl, ?_⟩) hHeld ?_ ?_
      rotate_left
      · rintro w' ⟨s0, s1, s2, s3, s4, s5⟩
        go_simp
        with_reducible rfl
      rotate_left
      · simp only [Act.put, List.setIfInBounds_toArray, List.set_cons_zero, List.set_cons_succ, i64_w, i32_w]
        rfl
      refine take_ (i := 3) (N := some 17) (v := ?_) (a' := ?_) #[true, true, false, true, false, false, false, false] rfl rfl (take_ofW HT_.out HW_.out (by kernel_rfl)) (fun _ _ _ h => h) (Or.inl ⟨by rfl, ?_⟩) hHeld ?_ ?_
      rotate_left
      · rintro w' ⟨s0, s1, s2, s3, s4, s5⟩
        go_simp
        with_reducible rfl
      rotate_left
      · simp only [Act.put, List.setIfInBounds_toArray, List.set_cons_zero, List.set_cons_succ, i64_w, i32_w]
        rfl
      refine join_ (σ := Value × Value) 3 #[true, true, true, true, true, false, false, false] (fun s_ => [(16, s_.1), (18, s_.2)]) (fun s_ w' => (w'.cell? ⟨gb101, 0, none⟩ = some (.slice A0_0 l0_0.length c0_0) ∧ w'.cell? ⟨gb101, 1, none⟩ = some (.bool a0_1) ∧ w'.cell? ⟨gb101, 2, none⟩ = some (.int .i64 a0_2) ∧ w'.cell? ⟨gb102, 0, none⟩ = some (.int .i64 a1_0) ∧ w'.cell? ⟨gb102, 1, none⟩ = some (.int .i64 a1_1) ∧ w'.cell? ⟨gb102, 2, none⟩ = some (.bool a1_2)) ∧ (Kd.R k46 46 w' w.heap.size (fun k_ => some k_ ≠ (s_.2 : Value).ownBlock ∧ k_ ≠ gb102) s_.1 t105) ∧ (Kd.R k46 46 w' w.heap.size (fun k_ => some k_ ≠ (s_.1 : Value).ownBlock ∧ k_ ≠ gb102) s_.2 y108) ∧ (w'.heap[gb101]? = some (.cells #[.slice A0_0 l0_0.length c0_0, .bool a0_1, .int .i64 a0_2] 24 (0, 0))) ∧ (w'.heap[gb102]? = some (.cells #[.int .i64 a1_0, .int .i64 a1_1, .bool a1_2] 46 (0, 0))) ∧ (w'.heap[gb103]? = some (.cells #[.slice none 0 0, .bool false, .int .i64 0] 24 (0, 0))) ∧ (w'.heap[gb104]? = some (.cells #[.slice A0_0 l0_0.length c0_0, .bool a0_1, .int .i64 a0_2] 24 (0, 0))) ∧ (Below w.heap.size w w')) ?_ ?_
      rotate_left
      · intro hCont
        refine two_ (i := 2) (j := 4) (Ni := some 16) (Nj := some 18) #[true, true, true, true, false, false, false, false] #[true, true, false, true, true, false, false, false] rfl rfl rfl rfl (two_of HT_.out (by kernel_rfl)) (by decide) (by decide) (fun K hK => ?_) (fun K hK => ?_)
        · skip
          refine goes_ Tryd.func99 (by kernel_rfl) rfl #[.slice A0_0 l0_0.length c0_0] (by rfl) rfl rfl (by (try simp only [List.map_toArray, List.map_cons, List.map_nil]); first | done | rfl | (simp only [List.length_drop, List.length_take]; rfl)) ?_
          with_reducible refine (api_Leap.calls _ _ l0_0 t105 _ ?side1 ?side2 A3.out).mono ?_
          (case side1 => repeat (first | exact (Kd.C_below HR0_0.out HB.out) | (with_reducible refine Kd.C_alloc ?_ _) | (with_reducible refine Kd.C_drewN ?_ _) | (with_reducible refine Kd.C_drew ?_)))
          (case side2 => exact HC0_0.out)
          rintro e w20 ⟨v106, rfl, ho0, hb⟩
          refine ⟨_, rfl, ?_⟩
          have n0_ := Aside0.mk (Kd.R_lower (Kd.R_newB ho0 (g := gb102) (o := .cells #[.int .i64 a1_0, .int .i64 a1_1, .bool a1_2] 46 (0, 0)) (by (with_reducible repeat (first | refine blk_drewN ?_ _ | refine blk_drew ?_ | refine blk_alloc ?_ _)); exact BK102.out)) (below_size (by repeat (first | (with_reducible first | exact HB.out | apply below_alloc | apply pw_below_drewN | apply below_drew1 | refine below_set ?_ GE101.out | refine below_set ?_ GE102.out | refine below_set ?_ GE103.out | refine below_set ?_ GE104.out) | exact HB.out))))
          have n1_ := Aside0.mk (blk_below (g := gb101) (o := .cells #[.slice A0_0 l0_0.length c0_0, .bool a0_1, .int .i64 a0_2] 24 (0, 0)) (by (with_reducible repeat (first | refine blk_drewN ?_ _ | refine blk_drew ?_ | refine blk_alloc ?_ _)); exact BK101.out) hb)
          have n2_ := Aside0.mk (blk_below (g := gb102) (o := .cells #[.int .i64 a1_0, .int .i64 a1_1, .bool a1_2] 46 (0, 0)) (by (with_reducible repeat (first | refine blk_drewN ?_ _ | refine blk_drew ?_ | refine blk_alloc ?_ _)); exact BK102.out) hb)
          have n3_ := Aside0.mk (blk_below (g := gb103) (o := .cells #[.slice none 0 0, .bool false, .int .i64 0] 24 (0, 0)) (by (with_reducible repeat (first | refine blk_drewN ?_ _ | refine blk_drew ?_ | refine blk_alloc ?_ _)); exact BK103.out) hb)
          have n4_ := Aside0.mk (blk_below (g := gb104) (o := .cells #[.slice A0_0 l0_0.length c0_0, .bool a0_1, .int .i64 a0_2] 24 (0, 0)) (by (with_reducible repeat (first | refine blk_drewN ?_ _ | refine blk_drew ?_ | refine blk_alloc ?_ _)); exact BK104.out) hb)
          have n5_ := Aside0.mk (below_step (by repeat (first | (with_reducible first | exact HB.out | apply below_alloc | apply pw_below_drewN | apply below_drew1 | refine below_set ?_ GE101.out | refine below_set ?_ GE102.out | refine below_set ?_ GE103.out | refine below_set ?_ GE104.out) | exact HB.out)) hb)
          clear BK101
          clear BK102
          clear BK103
          clear BK104
          clear HB
          have HO107 := n0_
          have BK101 := n1_
          have BK102 := n2_
          have BK103 := n3_
          have BK104 := n4_
          have HB := n5_
          clear n0_ n1_ n2_ n3_ n4_ n5_
          (try clear hb)
          (try clear hb2)
          (try clear hk)
          (try clear hi)
          (try clear ho0)
          refine hK.out _ _ ⟨(blk_cell BK101.out 0).trans rfl, (blk_cell BK101.out 1).trans rfl, (blk_cell BK101.out 2).trans rfl, (blk_cell BK102.out 0).trans rfl, (blk_cell BK102.out 1).trans rfl, (blk_cell BK102.out 2).trans rfl⟩ (fun hHeld => ?_)
          clear hK K
          refine norm_ (a' := ?_) ?_ ?_
          rotate_left
          · show Act.put _ (some 16) _ = _
            simp only [Act.put, List.setIfInBounds_toArray, List.set_cons_zero, List.set_cons_succ, i64_w, i32_w]
            rfl
          refine one_ (i := 4) (N := some 18) #[true, true, true, true, true, false, false, false] rfl rfl (one_of HT_.out (by kernel_rfl)) (by decide) (fun K hK => ?_)
          refine Kd.R_lit_step k46 _ 46 ?hg (N := 18) ?hd (xs := ([(⟨a1_0, a1_1, a1_2⟩ : S46)] : List (S46))) (inner := [.int .i64 a1_0, .int .i64 a1_1, .bool a1_2]) (ok := fun _ => True) (okp := fun _ => True) ?hr ?hp (fun _ hk => hk) trivial (Below.refl _ _) (Nat.le_refl _) (by simp) ?_; (case hd => rfl); (case hg => rfl); (case hr => first | (go_simp; done) | (go_simp; rfl)); (case hp => exact (Reps.c3 (show Kd.M k46 _ _ _ (⟨a1_0, a1_1, a1_2⟩ : S46) [.int .i64 a1_0, .int .i64 a1_1, .bool a1_2] from (k46_mkM _ _ _ (⟨a1_0, a1_1, a1_2⟩ : S46) )) (Reps.none _ _)))
          intro v109 w21 ho22 hb hg_ hnew_
          clear hg_ hnew_
          (first | rw [← Ny108.out] at ho22 | (simp only [Int.reduceToNat] at ho22; rw [← Ny108.out] at ho22))
          have n0_ := Aside0.mk (Kd.R_elder' (by (with_reducible repeat (first | apply Kd.R_alloc | apply Kd.R_drewN | apply Kd.R_drew)); exact HO107.out) (Kd.R_base ho22) hb)
          have n1_ := Aside0.mk (Kd.R_lower (Kd.R_newB (Kd.R_new' ho22 (Kd.R_lt (by (with_reducible repeat (first | apply Kd.R_alloc | apply Kd.R_drewN | apply Kd.R_drew)); exact HO107.out))) (g := gb102) (o := .cells #[.int .i64 a1_0, .int .i64 a1_1, .bool a1_2] 46 (0, 0)) (by (with_reducible repeat (first | refine blk_drewN ?_ _ | refine blk_drew ?_ | refine blk_alloc ?_ _)); exact BK102.out)) (below_size (by repeat (first | (with_reducible first | exact HB.out | apply below_alloc | apply pw_below_drewN | apply below_drew1 | refine below_set ?_ GE101.out | refine below_set ?_ GE102.out | refine below_set ?_ GE103.out | refine below_set ?_ GE104.out) | exact HB.out))))
          have n2_ := Aside0.mk (blk_below (g := gb101) (o := .cells #[.slice A0_0 l0_0.length c0_0, .bool a0_1, .int .i64 a0_2] 24 (0, 0)) (by (with_reducible repeat (first | refine blk_drewN ?_ _ | refine blk_drew ?_ | refine blk_alloc ?_ _)); exact BK101.out) hb)
          have n3_ := Aside0.mk (blk_below (g := gb102) (o := .cells #[.int .i64 a1_0, .int .i64 a1_1, .bool a1_2] 46 (0, 0)) (by (with_reducible repeat (first | refine blk_drewN ?_ _ | refine blk_drew ?_ | refine blk_alloc ?_ _)); exact BK102.out) hb)
          have n4_ := Aside0.mk (blk_below (g := gb103) (o := .cells #[.slice none 0 0, .bool false, .int .i64 0] 24 (0, 0)) (by (with_reducible repeat (first | refine blk_drewN ?_ _ | refine blk_drew ?_ | refine blk_alloc ?_ _)); exact BK103.out) hb)
          have n5_ := Aside0.mk (blk_below (g := gb104) (o := .cells #[.slice A0_0 l0_0.length c0_0, .bool a0_1, .int .i64 a0_2] 24 (0, 0)) (by (with_reducible repeat (first | refine blk_drewN ?_ _ | refine blk_drew ?_ | refine blk_alloc ?_ _)); exact BK104.out) hb)
          have n6_ := Aside0.mk (below_step (by repeat (first | (with_reducible first | exact HB.out | apply below_alloc | apply pw_below_drewN | apply below_drew1 | refine below_set ?_ GE101.out | refine below_set ?_ GE102.out | refine below_set ?_ GE103.out | refine below_set ?_ GE104.out) | exact HB.out)) hb)
          clear HO107
          clear BK101
          clear BK102
          clear BK103
          clear BK104
          clear HB
          have HO107 := n0_
          have HO110 := n1_
          have BK101 := n2_
          have BK102 := n3_
          have BK103 := n4_
          have BK104 := n5_
          have HB := n6_
          clear n0_ n1_ n2_ n3_ n4_ n5_ n6_
          clear hb ho22
          refine hK.out _ _ ⟨(blk_cell BK101.out 0).trans rfl, (blk_cell BK101.out 1).trans rfl, (blk_cell BK101.out 2).trans rfl, (blk_cell BK102.out 0).trans rfl, (blk_cell BK102.out 1).trans rfl, (blk_cell BK102.out 2).trans rfl⟩ (fun hHeld => ?_)
          clear hK K
          refine norm_ (a' := ?_) ?_ ?_
          rotate_left
          · show Act.put _ (some 18) _ = _
            simp only [Act.put, List.setIfInBounds_toArray, List.set_cons_zero, List.set_cons_succ, i64_w, i32_w]
            rfl
          exact norm_ (by simp only [putAll, Act.put, List.setIfInBounds_toArray, List.set_cons_zero, List.set_cons_succ]) (hCont (v106, v109) _ ⟨hHeld, (by (with_reducible repeat (first | apply Kd.R_alloc | apply Kd.R_drewN | apply Kd.R_drew)); exact Kd.R_mono HO107.out (fun _ hk => ⟨hk.2, hk.1.2⟩)), (by (with_reducible repeat (first | apply Kd.R_alloc | apply Kd.R_drewN | apply Kd.R_drew)); exact Kd.R_mono HO110.out (fun _ hk => ⟨hk.1.2, hk.2⟩)), (by (with_reducible repeat (first | refine blk_drewN ?_ _ | refine blk_drew ?_ | refine blk_alloc ?_ _)); exact BK101.out), (by (with_reducible repeat (first | refine blk_drewN ?_ _ | refine blk_drew ?_ | refine blk_alloc ?_ _)); exact BK102.out), (by (with_reducible repeat (first | refine blk_drewN ?_ _ | refine blk_drew ?_ | refine blk_alloc ?_ _)); exact BK103.out), (by (with_reducible repeat (first | refine blk_drewN ?_ _ | refine blk_drew ?_ | refine blk_alloc ?_ _)); exact BK104.out), (by repeat (first | (with_reducible first | exact HB.out | apply below_alloc | apply pw_below_drewN | apply below_drew1 | refine below_set ?_ GE101.out | refine below_set ?_ GE102.out | refine below_set ?_ GE103.out | refine below_set ?_ GE104.out) | exact HB.out))⟩)
        · skip
          refine Kd.R_lit_step k46 _ 46 ?hg (N := 18) ?hd (xs := ([(⟨a1_0, a1_1, a1_2⟩ : S46)] : List (S46))) (inner := [.int .i64 a1_0, .int .i64 a1_1, .bool a1_2]) (ok := fun _ => True) (okp := fun _ => True) ?hr ?hp (fun _ hk => hk) trivial (Below.refl _ _) (Nat.le_refl _) (by simp) ?_; (case hd => rfl); (case hg => rfl); (case hr => first | (go_simp; done) | (go_simp; rfl)); (case hp => exact (Reps.c3 (show Kd.M k46 _ _ _ (⟨a1_0, a1_1, a1_2⟩ : S46) [.int .i64 a1_0, .int .i64 a1_1, .bool a1_2] from (k46_mkM _ _ _ (⟨a1_0, a1_1, a1_2⟩ : S46) )) (Reps.none _ _)))
          intro v109 w20 ho21 hb hg_ hnew_
          clear hg_ hnew_
          (first | rw [← Ny108.out] at ho21 | (simp only [Int.reduceToNat] at ho21; rw [← Ny108.out] at ho21))
          have n0_ := Aside0.mk (Kd.R_lower (Kd.R_newB ho21 (g := gb102) (o := .cells #[.int .i64 a1_0, .int .i64 a1_1, .bool a1_2] 46 (0, 0)) (by (with_reducible repeat (first | refine blk_drewN ?_ _ | refine blk_drew ?_ | refine blk_alloc ?_ _)); exact BK102.out)) (below_size (by repeat (first | (with_reducible first | exact HB.out | apply below_alloc | apply pw_below_drewN | apply below_drew1 | refine below_set ?_ GE101.out | refine below_set ?_ GE102.out | refine below_set ?_ GE103.out | refine below_set ?_ GE104.out) | exact HB.out))))
          have n1_ := Aside0.mk (blk_below (g := gb101) (o := .cells #[.slice A0_0 l0_0.length c0_0, .bool a0_1, .int .i64 a0_2] 24 (0, 0)) (by (with_reducible repeat (first | refine blk_drewN ?_ _ | refine blk_drew ?_ | refine blk_alloc ?_ _)); exact BK101.out) hb)
          have n2_ := Aside0.mk (blk_below (g := gb102) (o := .cells #[.int .i64 a1_0, .int .i64 a1_1, .bool a1_2] 46 (0, 0)) (by (with_reducible repeat (first | refine blk_drewN ?_ _ | refine blk_drew ?_ | refine blk_alloc ?_ _)); exact BK102.out) hb)
          have n3_ := Aside0.mk (blk_below (g := gb103) (o := .cells #[.slice none 0 0, .bool false, .int .i64 0] 24 (0, 0)) (by (with_reducible repeat (first | refine blk_drewN ?_ _ | refine blk_drew ?_ | refine blk_alloc ?_ _)); exact BK103.out) hb)
          have n4_ := Aside0.mk (blk_below (g := gb104) (o := .cells #[.slice A0_0 l0_0.length c0_0, .bool a0_1, .int .i64 a0_2] 24 (0, 0)) (by (with_reducible repeat (first | refine blk_drewN ?_ _ | refine blk_drew ?_ | refine blk_alloc ?_ _)); exact BK104.out) hb)
          have n5_ := Aside0.mk (below_step (by repeat (first | (with_reducible first | exact HB.out | apply below_alloc | apply pw_below_drewN | apply below_drew1 | refine below_set ?_ GE101.out | refine below_set ?_ GE102.out | refine below_set ?_ GE103.out | refine below_set ?_ GE104.out) | exact HB.out)) hb)
          clear BK101
          clear BK102
          clear BK103
          clear BK104
          clear HB
          have HO110 := n0_
          have BK101 := n1_
          have BK102 := n2_
          have BK103 := n3_
          have BK104 := n4_
          have HB := n5_
          clear n0_ n1_ n2_ n3_ n4_ n5_
          clear hb ho21
          refine hK.out _ _ ⟨(blk_cell BK101.out 0).trans rfl, (blk_cell BK101.out 1).trans rfl, (blk_cell BK101.out 2).trans rfl, (blk_cell BK102.out 0).trans rfl, (blk_cell BK102.out 1).trans rfl, (blk_cell BK102.out 2).trans rfl⟩ (fun hHeld => ?_)
          clear hK K
          refine norm_ (a' := ?_) ?_ ?_
          rotate_left
          · show Act.put _ (some 18) _ = _
            simp only [Act.put, List.setIfInBounds_toArray, List.set_cons_zero, List.set_cons_succ, i64_w, i32_w]
            rfl
          refine one_ (i := 2) (N := some 16) #[true, true, true, true, true, false, false, false] rfl rfl (one_of HT_.out (by kernel_rfl)) (by decide) (fun K hK => ?_)
          refine goes_ Tryd.func99 (by kernel_rfl) rfl #[.slice A0_0 l0_0.length c0_0] (by rfl) rfl rfl (by (try simp only [List.map_toArray, List.map_cons, List.map_nil]); first | done | rfl | (simp only [List.length_drop, List.length_take]; rfl)) ?_
          with_reducible refine (api_Leap.calls _ _ l0_0 t105 _ ?side1 ?side2 A3.out).mono ?_
          (case side1 => repeat (first | exact (Kd.C_below HR0_0.out HB.out) | (with_reducible refine Kd.C_alloc ?_ _) | (with_reducible refine Kd.C_drewN ?_ _) | (with_reducible refine Kd.C_drew ?_)))
          (case side2 => exact HC0_0.out)
          rintro e w22 ⟨v106, rfl, ho0, hb⟩
          refine ⟨_, rfl, ?_⟩
          have n0_ := Aside0.mk (Kd.R_elder' (by (with_reducible repeat (first | apply Kd.R_alloc | apply Kd.R_drewN | apply Kd.R_drew)); exact HO110.out) (Kd.R_base ho0) hb)
          have n1_ := Aside0.mk (Kd.R_lower (Kd.R_newB (Kd.R_new' ho0 (Kd.R_lt (by (with_reducible repeat (first | apply Kd.R_alloc | apply Kd.R_drewN | apply Kd.R_drew)); exact HO110.out))) (g := gb102) (o := .cells #[.int .i64 a1_0, .int .i64 a1_1, .bool a1_2] 46 (0, 0)) (by (with_reducible repeat (first | refine blk_drewN ?_ _ | refine blk_drew ?_ | refine blk_alloc ?_ _)); exact BK102.out)) (below_size (by repeat (first | (with_reducible first | exact HB.out | apply below_alloc | apply pw_below_drewN | apply below_drew1 | refine below_set ?_ GE101.out | refine below_set ?_ GE102.out | refine below_set ?_ GE103.out | refine below_set ?_ GE104.out) | exact HB.out))))
          have n2_ := Aside0.mk (blk_below (g := gb101) (o := .cells #[.slice A0_0 l0_0.length c0_0, .bool a0_1, .int .i64 a0_2] 24 (0, 0)) (by (with_reducible repeat (first | refine blk_drewN ?_ _ | refine blk_drew ?_ | refine blk_alloc ?_ _)); exact BK101.out) hb)
          have n3_ := Aside0.mk (blk_below (g := gb102) (o := .cells #[.int .i64 a1_0, .int .i64 a1_1, .bool a1_2] 46 (0, 0)) (by (with_reducible repeat (first | refine blk_drewN ?_ _ | refine blk_drew ?_ | refine blk_alloc ?_ _)); exact BK102.out) hb)
          have n4_ := Aside0.mk (blk_below (g := gb103) (o := .cells #[.slice none 0 0, .bool false, .int .i64 0] 24 (0, 0)) (by (with_reducible repeat (first | refine blk_drewN ?_ _ | refine blk_drew ?_ | refine blk_alloc ?_ _)); exact BK103.out) hb)
          have n5_ := Aside0.mk (blk_below (g := gb104) (o := .cells #[.slice A0_0 l0_0.length c0_0, .bool a0_1, .int .i64 a0_2] 24 (0, 0)) (by (with_reducible repeat (first | refine blk_drewN ?_ _ | refine blk_drew ?_ | refine blk_alloc ?_ _)); exact BK104.out) hb)
          have n6_ := Aside0.mk (below_step (by repeat (first | (with_reducible first | exact HB.out | apply below_alloc | apply pw_below_drewN | apply below_drew1 | refine below_set ?_ GE101.out | refine below_set ?_ GE102.out | refine below_set ?_ GE103.out | refine below_set ?_ GE104.out) | exact HB.out)) hb)
          clear HO110
          clear BK101
          clear BK102
          clear BK103
          clear BK104
          clear HB
          have HO110 := n0_
          have HO107 := n1_
          have BK101 := n2_
          have BK102 := n3_
          have BK103 := n4_
          have BK104 := n5_
          have HB := n6_
          clear n0_ n1_ n2_ n3_ n4_ n5_ n6_
          (try clear hb)
          (try clear hb2)
          (try clear hk)
          (try clear hi)
          (try clear ho0)
          refine hK.out _ _ ⟨(blk_cell BK101.out 0).trans rfl, (blk_cell BK101.out 1).trans rfl, (blk_cell BK101.out 2).trans rfl, (blk_cell BK102.out 0).trans rfl, (blk_cell BK102.out 1).trans rfl, (blk_cell BK102.out 2).trans rfl⟩ (fun hHeld => ?_)
          clear hK K
          refine norm_ (a' := ?_) ?_ ?_
          rotate_left
          · show Act.put _ (some 16) _ = _
            simp only [Act.put, List.setIfInBounds_toArray, List.set_cons_zero, List.set_cons_succ, i64_w, i32_w]
            rfl
          exact norm_ (by simp only [putAll, Act.put, List.setIfInBounds_toArray, List.set_cons_zero, List.set_cons_succ]) (hCont (v106, v109) _ ⟨hHeld, (by (with_reducible repeat (first | apply Kd.R_alloc | apply Kd.R_drewN | apply Kd.R_drew)); exact Kd.R_mono HO107.out (fun _ hk => ⟨hk.1.2, hk.2⟩)), (by (with_reducible repeat (first | apply Kd.R_alloc | apply Kd.R_drewN | apply Kd.R_drew)); exact Kd.R_mono HO110.out (fun _ hk => ⟨hk.2, hk.1.2⟩)), (by (with_reducible repeat (first | refine blk_drewN ?_ _ | refine blk_drew ?_ | refine blk_alloc ?_ _)); exact BK101.out), (by (with_reducible repeat (first | refine blk_drewN ?_ _ | refine blk_drew ?_ | refine blk_alloc ?_ _)); exact BK102.out), (by (with_reducible repeat (first | refine blk_drewN ?_ _ | refine blk_drew ?_ | refine blk_alloc ?_ _)); exact BK103.out), (by (with_reducible repeat (first | refine blk_drewN ?_ _ | refine blk_drew ?_ | refine blk_alloc ?_ _)); exact BK104.out), (by repeat (first | (with_reducible first | exact HB.out | apply below_alloc | apply pw_below_drewN | apply below_drew1 | refine below_set ?_ GE101.out | refine below_set ?_ GE102.out | refine below_set ?_ GE103.out | refine below_set ?_ GE104.out) | exact HB.out))⟩)
      rintro ⟨v106, v109⟩ w23 ⟨hS_, h0_, h1_, h2_, h3_, h4_, h5_, h6_⟩
      have n0_ : Aside0 (Kd.R k46 46 w23 w.heap.size (fun k_ => some k_ ≠ (v109 : Value).ownBlock ∧ k_ ≠ gb102) v106 t105) := ⟨h0_⟩
      have n1_ : Aside0 (Kd.R k46 46 w23 w.heap.size (fun k_ => some k_ ≠ (v106 : Value).ownBlock ∧ k_ ≠ gb102) v109 y108) := ⟨h1_⟩
      have n2_ : Aside0 (w23.heap[gb101]? = some (.cells #[.slice A0_0 l0_0.length c0_0, .bool a0_1, .int .i64 a0_2] 24 (0, 0))) := ⟨h2_⟩
      have n3_ : Aside0 (w23.heap[gb102]? = some (.cells #[.int .i64 a1_0, .int .i64 a1_1, .bool a1_2] 46 (0, 0))) := ⟨h3_⟩
      have n4_ : Aside0 (w23.heap[gb103]? = some (.cells #[.slice none 0 0, .bool false, .int .i64 0] 24 (0, 0))) := ⟨h4_⟩
      have n5_ : Aside0 (w23.heap[gb104]? = some (.cells #[.slice A0_0 l0_0.length c0_0, .bool a0_1, .int .i64 a0_2] 24 (0, 0))) := ⟨h5_⟩
      have n6_ : Aside0 (Below w.heap.size w w23) := ⟨h6_⟩
      clear BK101
      clear BK102
      clear BK103
      clear BK104
      clear HB
      clear h0_ h1_ h2_ h3_ h4_ h5_ h6_
      have HO107 := n0_
      have HO110 := n1_
      have BK101 := n2_
      have BK102 := n3_
      have BK103 := n4_
      have BK104 := n5_
      have HB := n6_
      clear n0_ n1_ n2_ n3_ n4_ n5_ n6_
      have hHeld : w23.cell? ⟨gb101, 0, none⟩ = some (.slice A0_0 l0_0.length c0_0) ∧ w23.cell? ⟨gb101, 1, none⟩ = some (.bool a0_1) ∧ w23.cell? ⟨gb101, 2, none⟩ = some (.int .i64 a0_2) ∧ w23.cell? ⟨gb102, 0, none⟩ = some (.int .i64 a1_0) ∧ w23.cell? ⟨gb102, 1, none⟩ = some (.int .i64 a1_1) ∧ w23.cell? ⟨gb102, 2, none⟩ = some (.bool a1_2) := hS_
      obtain ⟨Ao25, co25, eo25⟩ := Kd.R_slice HO110.out
      (first | subst eo25 | (injection eo25 with f1_ f2_ f3_; have f4_ := f1_.symm; have f5_ := f3_.symm; clear f1_ f2_ f3_; subst f4_; subst f5_))
      refine norm_ (a' := ?_) ?_ ?_
      rotate_left
      · simp only [putAll, Act.put, List.setIfInBounds_toArray, List.set_cons_zero, List.set_cons_succ]
        rfl
      refine one_ (i := 5) (N := some 19) #[true, true, true, true, true, true, false, false] rfl rfl (one_of HT_.out (by kernel_rfl)) (by decide) (fun K hK => ?_)
      refine Kd.R_append_rows_step k46 (w0 := w) w.heap.size (by rfl) (.tmp 16) (.tmp 18) 22 46 (.agg #[(.int .i64 0), (.int .i64 0), (.bool false)]) 24 rfl Tryd.underlying22 info46 rfl (by decide) (by omega) v106 t105 y108 _ _ _ (fun k_ => some k_ ≠ (.slice Ao25 y108.length co25 : Value).ownBlock ∧ k_ ≠ gb102) (fun _ => False) rfl rfl ?aO ?aR (fun _ _ h => h) (fun _ h => h.elim) ?aF ?aB ?aS ?aL ?_
      (case aR => repeat (first | exact (Kd.R_reads' HO110.out).2.2 | (with_reducible refine Kd.C_alloc ?_ _) | (with_reducible refine Kd.C_drewN ?_ _) | (with_reducible refine Kd.C_drew ?_)))
      (case aB => exact (by repeat (first | (with_reducible first | exact HB.out | apply below_alloc | apply pw_below_drewN | apply below_drew1 | refine below_set ?_ GE101.out | refine below_set ?_ GE102.out | refine below_set ?_ GE103.out | refine below_set ?_ GE104.out) | exact HB.out)))
      (case aF => exact (fun k_ hk => ⟨Kd.fresh' (Kd.R_lt (by (with_reducible repeat (first | apply Kd.R_alloc | apply Kd.R_drewN | apply Kd.R_drew)); exact HO110.out)) k_ hk, Kd.freshB (g := gb102) (o := .cells #[.int .i64 a1_0, .int .i64 a1_1, .bool a1_2] 46 (0, 0)) (by (with_reducible repeat (first | refine blk_drewN ?_ _ | refine blk_drew ?_ | refine blk_alloc ?_ _)); exact BK102.out) k_ hk⟩))
      (case aO => exact (by (with_reducible repeat (first | apply Kd.R_alloc | apply Kd.R_drewN | apply Kd.R_drew)); exact HO107.out))
      (case aS => exact (below_size (by repeat (first | (with_reducible first | exact HB.out | apply below_alloc | apply pw_below_drewN | apply below_drew1 | refine below_set ?_ GE101.out | refine below_set ?_ GE102.out | refine below_set ?_ GE103.out | refine below_set ?_ GE104.out) | exact HB.out))))
      (case aL => have := LMc4.out; omega)
      intro v112 w24 ho hb hg hat
      rw [← Ny111.out] at ho
      have n0_ := Aside0.mk (blk_grown (g := gb101) (o := .cells #[.slice A0_0 l0_0.length c0_0, .bool a0_1, .int .i64 a0_2] 24 (0, 0)) (by (with_reducible repeat (first | refine blk_drewN ?_ _ | refine blk_drew ?_ | refine blk_alloc ?_ _)); exact BK101.out) hg (Kd.R_ne HO107.out BK101.out (by decide)))
      have n1_ := Aside0.mk (blk_grown (g := gb102) (o := .cells #[.int .i64 a1_0, .int .i64 a1_1, .bool a1_2] 46 (0, 0)) (by (with_reducible repeat (first | refine blk_drewN ?_ _ | refine blk_drew ?_ | refine blk_alloc ?_ _)); exact BK102.out) hg (Kd.R_away HO107.out (fun _ hk => hk.2)))
      have n2_ := Aside0.mk (blk_grown (g := gb103) (o := .cells #[.slice none 0 0, .bool false, .int .i64 0] 24 (0, 0)) (by (with_reducible repeat (first | refine blk_drewN ?_ _ | refine blk_drew ?_ | refine blk_alloc ?_ _)); exact BK103.out) hg (Kd.R_ne HO107.out BK103.out (by decide)))
      have n3_ := Aside0.mk (blk_grown (g := gb104) (o := .cells #[.slice A0_0 l0_0.length c0_0, .bool a0_1, .int .i64 a0_2] 24 (0, 0)) (by (with_reducible repeat (first | refine blk_drewN ?_ _ | refine blk_drew ?_ | refine blk_alloc ?_ _)); exact BK104.out) hg (Kd.R_ne HO107.out BK104.out (by decide)))
      have n4_ := Aside0.mk (Kd.R_after (ok := (fun k_ => k_ ≠ gb102)) (by (with_reducible repeat (first | apply Kd.R_alloc | apply Kd.R_drewN | apply Kd.R_drew)); exact Kd.R_mono HO110.out (fun _ hk => ⟨hk.2, hk.1⟩)) hg hat)
      have n5_ := Aside0.mk (hb)
      have n6_ := Aside0.mk (ho)
      clear BK101
      clear BK102
      clear BK103
      clear BK104
      clear HO110
      clear HB
      clear HO107
      have BK101 := n0_
      have BK102 := n1_
      have BK103 := n2_
      have BK104 := n3_
      have HO110 := n4_
      have HB := n5_
      have HO113 := n6_
      clear n0_ n1_ n2_ n3_ n4_ n5_ n6_
      clear ho hb hg hat
      obtain ⟨Ao26, co26, eo26⟩ := Kd.R_slice HO113.out
      (first | subst eo26 | (injection eo26 with f1_ f2_ f3_; have f4_ := f1_.symm; have f5_ := f3_.symm; clear f1_ f2_ f3_; subst f4_; subst f5_))
      refine hK.out _ _ ⟨(blk_cell BK101.out 0).trans rfl, (blk_cell BK101.out 1).trans rfl, (blk_cell BK101.out 2).trans rfl, (blk_cell BK102.out 0).trans rfl, (blk_cell BK102.out 1).trans rfl, (blk_cell BK102.out 2).trans rfl⟩ (fun hHeld => ?_)
      clear hK K
      refine norm_ (a' := ?_) ?_ ?_
      rotate_left
      · show Act.put _ (some 19) _ = _
        simp only [Act.put, List.setIfInBounds_toArray, List.set_cons_zero, List.set_cons_succ, i64_w, i32_w]
        rfl
      refine pure_ (i := 6) (N := some 20) (v := ?_) (a' := ?_) #[true, true, true, true, true, true, true, false] rfl rfl (any_of HT_.out (by kernel_rfl)) (fun _ _ _ h => h) (Or.inl ⟨by rfl, ?_⟩) ?_ ?_
      rotate_left
      · intro w'
        go_simp
        with_reducible rfl
      rotate_left
      · simp only [Act.put, List.setIfInBounds_toArray, List.set_cons_zero, List.set_cons_succ, i64_w, i32_w]
        rfl
      refine one_ (i := 7) (N := none) #[true, true, true, true, true, true, true, true] rfl rfl (one_of HT_.out (by kernel_rfl)) (by decide) (fun K hK => ?_)
      have hs27 : w24.cell? ⟨gb104, 0, none⟩ = some (.slice A0_0 l0_0.length c0_0) := (blk_cell BK104.out 0).trans rfl
      have hfs27 := blk_frozen BK104.out 0
      have hns27_0 := NB101_104.out
      have hns27_1 := NB102_104.out
      have hns27_2 := NB103_104.out
      have hms27_0 := NB104_101.out
      have hms27_1 := NB104_102.out
      have hms27_2 := NB104_103.out
      refine skip_ (w1 := ?_) (by rfl) rfl ?_ ?_
      rotate_left
      · go_simp
        rfl
      refine hK.out _ _ ⟨((cell_far (p := ⟨gb104, _, none⟩) NB101_104.out _).trans (hHeld.1)), ((cell_far (p := ⟨gb104, _, none⟩) NB101_104.out _).trans (hHeld.2.1)), ((cell_far (p := ⟨gb104, _, none⟩) NB101_104.out _).trans (hHeld.2.2.1)), ((cell_far (p := ⟨gb104, _, none⟩) NB102_104.out _).trans (hHeld.2.2.2.1)), ((cell_far (p := ⟨gb104, _, none⟩) NB102_104.out _).trans (hHeld.2.2.2.2.1)), ((cell_far (p := ⟨gb104, _, none⟩) NB102_104.out _).trans (hHeld.2.2.2.2.2))⟩ (fun hHeld => ?_)
      clear hK K
      refine done_ (done_of HT_.out (by kernel_rfl)) ?_
      have hcz28_0 : w24.cell? ⟨gb104, 0, none⟩ = some (.slice A0_0 l0_0.length c0_0) := (blk_cell BK104.out 0).trans rfl
      have hcz28_1 : w24.cell? ⟨gb104, 1, none⟩ = some (.bool a0_1) := (blk_cell BK104.out 1).trans rfl
      have hcz28_2 : w24.cell? ⟨gb104, 2, none⟩ = some (.int .i64 a0_2) := (blk_cell BK104.out 2).trans rfl
      have hfz28_0 := blk_frozen BK104.out 0
      have hfz28_1 := blk_frozen BK104.out 1
      have hfz28_2 := blk_frozen BK104.out 2
      have hcap : l0_0.length ≤ co26 := by
        have h1 := (Kd.R_reads' HO113.out).2.1
        have h2 := Ny111.out
        have h3 := A3.out
        unfold api_Leap.f at h3
        split at h3
        · have h4 := Option.some.inj h3
          subst h4
          rw [h2, List.length_append] at h1
          omega
        · cases h3
      have hcap2 : (l0_0.length : Int) ≤ (co26 : Int) := by omega
      try go_wp2_with (first | ((with_reducible refine gate_callee (f := 30) rfl ?_); refine goesL_ (some 23) rfl rfl Tryd.func30 (by kernel_rfl) rfl #[.agg #[.slice Ao26 y111.length co26, .bool a0_1, .int .i64 a0_2]] rfl (by (try simp only [List.map_toArray, List.map_cons, List.map_nil]); first | done | rfl | (simp only [List.length_drop, List.length_take]; rfl)) ?_; (with_reducible refine (leap_Check.calls _ _ y111 a0_1 a0_2 t114 t115 _ ?side1 ?side2 A5.out).mono ?_); (case side1 => refine (Kd.R_reads' (e := 46) (base := w.heap.size) (ok := fun k_ => (some k_ ≠ (.slice Ao25 y108.length co25 : Value).ownBlock ∧ k_ ≠ gb102)) (n := y111.length) (c := co26) ?_).2.2; exact (by (with_reducible repeat (first | apply Kd.R_alloc | apply Kd.R_drewN | apply Kd.R_drew)); exact (Kd.R_mono (Kd.R_far (p := ⟨gb104, 0, none⟩) (Kd.R_types HO113.out BK104.out (by decide)) (fun _ hk => hk.2) (.slice Ao26 y111.length co26)) (fun _ h_ => h_.1)))); (case side2 => exact (Kd.R_reads' HO113.out).2.1); rintro e w29 ⟨rfl, hb⟩; refine ⟨_, rfl, ?_⟩; have n0_ := Aside0.mk (Kd.R_below (by (with_reducible repeat (first | apply Kd.R_alloc | apply Kd.R_drewN | apply Kd.R_drew)); exact (Kd.R_mono (Kd.R_far (p := ⟨gb104, 0, none⟩) (Kd.R_types HO110.out BK104.out (by decide)) (fun _ hk => hk.2) (.slice Ao26 y111.length co26)) (fun _ h_ => h_.1))) hb); have n1_ := Aside0.mk (Kd.R_below (by (with_reducible repeat (first | apply Kd.R_alloc | apply Kd.R_drewN | apply Kd.R_drew)); exact (Kd.R_mono (Kd.R_far (p := ⟨gb104, 0, none⟩) (Kd.R_types HO113.out BK104.out (by decide)) (fun _ hk => hk.2) (.slice Ao26 y111.length co26)) (fun _ h_ => h_.1))) hb); have n2_ := Aside0.mk (blk_below (g := gb101) (o := .cells #[.slice A0_0 l0_0.length c0_0, .bool a0_1, .int .i64 a0_2] 24 (0, 0)) (by (with_reducible repeat (first | refine blk_drewN ?_ _ | refine blk_drew ?_ | refine blk_alloc ?_ _)); refine blk_far ?_ NB101_104.out _; (with_reducible repeat (first | refine blk_drewN ?_ _ | refine blk_drew ?_ | refine blk_alloc ?_ _)); exact BK101.out) hb); have n3_ := Aside0.mk (blk_below (g := gb102) (o := .cells #[.int .i64 a1_0, .int .i64 a1_1, .bool a1_2] 46 (0, 0)) (by (with_reducible repeat (first | refine blk_drewN ?_ _ | refine blk_drew ?_ | refine blk_alloc ?_ _)); refine blk_far ?_ NB102_104.out _; (with_reducible repeat (first | refine blk_drewN ?_ _ | refine blk_drew ?_ | refine blk_alloc ?_ _)); exact BK102.out) hb); have n4_ := Aside0.mk (blk_below (g := gb103) (o := .cells #[.slice none 0 0, .bool false, .int .i64 0] 24 (0, 0)) (by (with_reducible repeat (first | refine blk_drewN ?_ _ | refine blk_drew ?_ | refine blk_alloc ?_ _)); refine blk_far ?_ NB103_104.out _; (with_reducible repeat (first | refine blk_drewN ?_ _ | refine blk_drew ?_ | refine blk_alloc ?_ _)); exact BK103.out) hb); have n5_ := Aside0.mk (blk_below (g := gb104) (o := .cells #[.slice Ao26 y111.length co26, .bool a0_1, .int .i64 a0_2] 24 (0, 0)) (by (with_reducible repeat (first | refine blk_drewN ?_ _ | refine blk_drew ?_ | refine blk_alloc ?_ _)); refine blk_put (cs := #[.slice A0_0 l0_0.length c0_0, .bool a0_1, .int .i64 a0_2]) ?_ 0 _ rfl; (with_reducible repeat (first | refine blk_drewN ?_ _ | refine blk_drew ?_ | refine blk_alloc ?_ _)); exact BK104.out) hb); have n6_ := Aside0.mk (below_step (by repeat (first | (with_reducible first | exact HB.out | apply below_alloc | apply pw_below_drewN | apply below_drew1 | refine below_set ?_ GE101.out | refine below_set ?_ GE102.out | refine below_set ?_ GE103.out | refine below_set ?_ GE104.out) | exact HB.out)) hb); clear HO110; clear HO113; clear BK101; clear BK102; clear BK103; clear BK104; clear HB; have HO110 := n0_; have HO113 := n1_; have BK101 := n2_; have BK102 := n3_; have BK103 := n4_; have BK104 := n5_; have HB := n6_; clear n0_ n1_ n2_ n3_ n4_ n5_ n6_; (try clear hb); (try clear hb2); (try clear hk); (try clear hi); have hcz30_0 : w29.cell? ⟨gb104, 0, none⟩ = some (.slice Ao26 y111.length co26) := (blk_cell BK104.out 0).trans rfl; have hcz30_1 : w29.cell? ⟨gb104, 1, none⟩ = some (.bool a0_1) := (blk_cell BK104.out 1).trans rfl; have hcz30_2 : w29.cell? ⟨gb104, 2, none⟩ = some (.int .i64 a0_2) := (blk_cell BK104.out 2).trans rfl; have hfz30_0 := blk_frozen BK104.out 0; have hfz30_1 := blk_frozen BK104.out 1; have hfz30_2 := blk_frozen BK104.out 2; have hnb31 := NB103_102.out; have hnc31 := NB102_103.out; have hcz32_0 : w29.cell? ⟨gb103, 0, none⟩ = some (.slice none 0 0) := (blk_cell BK103.out 0).trans rfl; have hcz32_1 : w29.cell? ⟨gb103, 1, none⟩ = some (.bool false) := (blk_cell BK103.out 1).trans rfl; have hcz32_2 : w29.cell? ⟨gb103, 2, none⟩ = some (.int .i64 0) := (blk_cell BK103.out 2).trans rfl; have hfz32_0 := blk_frozen BK103.out 0; have hfz32_1 := blk_frozen BK103.out 1; have hfz32_2 := blk_frozen BK103.out 2))
      refine bodyPost_ret (results_ct rfl _ _ gb103 24 #[.slice Ao26 l0_0.length l0_0.length, .bool a0_1, .int .i64 a0_2] (0, 0) _ rfl (by (with_reducible repeat (first | refine blk_drewN ?_ _ | refine blk_drew ?_ | refine blk_alloc ?_ _)); refine blk_put (cs := #[.slice Ao26 l0_0.length l0_0.length, .bool a0_1, .int .i64 0]) ?_ 2 _ rfl; (with_reducible repeat (first | refine blk_drewN ?_ _ | refine blk_drew ?_ | refine blk_alloc ?_ _)); refine blk_put (cs := #[.slice Ao26 l0_0.length l0_0.length, .bool false, .int .i64 0]) ?_ 1 _ rfl; (with_reducible repeat (first | refine blk_drewN ?_ _ | refine blk_drew ?_ | refine blk_alloc ?_ _)); refine blk_put (cs := #[.slice none 0 0, .bool false, .int .i64 0]) ?_ 0 _ rfl; (with_reducible repeat (first | refine blk_drewN ?_ _ | refine blk_drew ?_ | refine blk_alloc ?_ _)); refine blk_far ?_ NB103_104.out _; (with_reducible repeat (first | refine blk_drewN ?_ _ | refine blk_drew ?_ | refine blk_alloc ?_ _)); exact BK103.out) Tryd.underlying24 rfl (by kernel_rfl)) rfl ?_
      exact ⟨_, by first | rfl | (simp; done) | (simp [*]; done), by repeat (first | (with_reducible first | exact HB.out | apply below_alloc | apply pw_below_drewN | apply below_drew1 | refine below_set ?_ GE101.out | refine below_set ?_ GE102.out | refine below_set ?_ GE103.out | refine below_set ?_ GE104.out) | exact HB.out)⟩
  · rw [if_neg c4] at H
    exact absurd H (by simp)
end Go.Proofs.YtodalfobehddmaaDoor.Y
namespace Go.Proofs.YtodalfobehddmaaDoor.Y
open Go.RowKit Go.Proofs.YtodalfobehddmaaDoorW.PrintWords Go.Proofs.YtodalfobehddmaaDoorW.PrintLast Go.Proofs.YtodalfobehddmaaDoor.Mx
open Go.Proofs.YtodalfobehddmaaDoor.Z
theorem add_ok (A : Option Addr) (c : Nat) (l : List S46) (has : Bool) (exp d step : Int) (roll : Bool) (w : World) (hr : Kd.C k46 w A l.length l) (hc : l.length ≤ c) (hl : l.length ≤ 1000000000000) (h : (checkN (l ++ [⟨d, step, roll⟩]) has exp).2 = 0) :
    Calls Tryd.prog 80 #[.agg #[.slice A l.length c, .bool has, .int .i64 exp], .agg #[.int .i64 d, .int .i64 step, .bool roll]] w fun e w' => ∃ v0_ : Value, e = .returned (.tuple #[.agg #[v0_, .bool has, .int .i64 exp], .int .i64 0]) ∧ Kd.R k46 46 w' w.heap.size (fun _ => True) v0_ (l ++ [⟨d, step, roll⟩]) ∧ Below w.heap.size w w' := by
  refine leap_Add.calls A c l has exp d step roll (l ++ [⟨d, step, roll⟩]) has exp 0 w hr hc ?_
  unfold leap_Add.f api_Leap.f leap_Check.f
  rw [if_pos (by omega)]
  simp only [Option.bind_some]
  rw [if_pos (by simp; omega), if_pos (by simp; omega)]
  simp only [Option.bind_some]
  rw [if_pos h]
theorem add_bad (A : Option Addr) (c : Nat) (l : List S46) (has : Bool) (exp d step : Int) (roll : Bool) (w : World) (hr : Kd.C k46 w A l.length l) (hc : l.length ≤ c) (hl : l.length ≤ 1000000000000) (r : Int) (hq : (checkN (l ++ [⟨d, step, roll⟩]) has exp).2 = r) (h : r ≠ 0) :
    Calls Tryd.prog 80 #[.agg #[.slice A l.length c, .bool has, .int .i64 exp], .agg #[.int .i64 d, .int .i64 step, .bool roll]] w fun e w' => ∃ a_ : Option Addr, e = .returned (.tuple #[.agg #[.slice a_ l.length l.length, .bool has, .int .i64 exp], .int .i64 r]) ∧ Below w.heap.size w w' := by
  refine leap_Add.fails A c l has exp d step roll r w hr hc ?_
  unfold leap_Add.g api_Leap.f leap_Check.f
  rw [if_pos (by omega)]
  simp only [Option.bind_some]
  rw [if_pos (by simp; omega), if_pos (by simp; omega)]
  simp only [Option.bind_some]
  rw [if_neg (by rw [hq]; exact h), hq]
end Go.Proofs.YtodalfobehddmaaDoor.Y
namespace Go.Proofs.YtodalfobehddmaaDoor.Y
open Go.RowKit Go.Proofs.YtodalfobehddmaaDoorW.PrintWords Go.Proofs.YtodalfobehddmaaDoorW.PrintLast Go.Proofs.YtodalfobehddmaaDoor.Mx
open Go.Proofs.YtodalfobehddmaaDoor.Z
structure ZRow where
  kind : Int
  y : Int
  m : Int
  d : Int
  sec : Int
  sign : List UInt8
  roll : Bool
def dateRow (kind : Int) (a b c e : List UInt8) : Option ZRow :=
  if (numL a).2 = true ∧ (monthF (foldL b)).2 = true ∧ (numL c).2 = true ∧ (clockL e).2 = true then some ⟨kind, (numL a).1, (monthF (foldL b)).1, (numL c).1, (clockL e).1, [], false⟩ else none
def rollingL : List UInt8 := [114, 111, 108, 108, 105, 110, 103]
def stationaryL : List UInt8 := [115, 116, 97, 116, 105, 111, 110, 97, 114, 121]
def leapWord : List UInt8 := [108, 101, 97, 112]
def expiresWord : List UInt8 := [101, 120, 112, 105, 114, 101, 115]
def isRoll (x : List UInt8) : Bool := (foldL x).isPrefixOf rollingL
def isStat (x : List UInt8) : Bool := (foldL x).isPrefixOf stationaryL
def readL : List (List UInt8) → Option ZRow
  | [w0, a, b, c, e, s, r] => if foldL w0 = leapWord ∧ (s = [43] ∨ s = [45]) ∧ (isRoll r = true ∨ isStat r = true) then (dateRow 0 a b c e).map (fun x => { x with sign := s, roll := isRoll r }) else none
  | [w0, a, b, c, e] => if foldL w0 = expiresWord then dateRow 1 a b c e else none
  | _ => none
theorem readL7 (w0 a b c e s r : List UInt8) : readL [w0, a, b, c, e, s, r] = if foldL w0 = leapWord ∧ (s = [43] ∨ s = [45]) ∧ (isRoll r = true ∨ isStat r = true) then (dateRow 0 a b c e).map (fun x => { x with sign := s, roll := isRoll r }) else none := rfl
theorem readL5 (w0 a b c e : List UInt8) : readL [w0, a, b, c, e] = if foldL w0 = expiresWord then dateRow 1 a b c e else none := rfl
theorem hasPrefix_at (n f : List UInt8) (k : ByteArray) (hk : k.data.toList = n) : Z.strings_HasPrefix.f k (mkB f) = some (f.isPrefixOf n) := by
  unfold Z.strings_HasPrefix.f Z.stringslite_HasPrefix.f
  have hz : k.size = n.length := by rw [← hk]; rfl
  have hf : (mkB f).size = f.length := rfl
  rw [hz, hf]
  by_cases h : f.length ≤ n.length
  · rw [if_pos (by omega), if_pos (by omega), if_pos (by omega)]
    simp only [Option.bind_some]
    congr 1
    rw [Lib.toList_data, Lib.toList_data, Int.toNat_natCast, ByteArray.data_extract, Array.toList_extract, hk, List.extract_eq_take_drop, List.drop_zero, Nat.sub_zero]
    rw [Bool.eq_iff_iff, List.isPrefixOf_iff_prefix, List.prefix_iff_eq_take, beq_iff_eq]
    exact eq_comm
  · rw [if_neg (by omega)]
    simp only [Option.bind_some]
    congr 1
    symm
    rw [Bool.eq_false_iff]
    intro hp
    rw [List.isPrefixOf_iff_prefix] at hp
    exact h hp.length_le
theorem roll_at (x : List UInt8) (hx : x.length ≤ maxLen) : Z.zic_roll.f (mkB x) = some (isRoll x, isRoll x || isStat x) := by
  unfold Z.zic_roll.f lines_Fold.f
  rw [if_pos (show (mkB x).size ≤ maxLen from hx)]
  simp only [Option.bind_some]
  have e : (⟨(foldL (mkB x).data.toList).toArray⟩ : ByteArray) = mkB (foldL x) := rfl
  rw [e, hasPrefix_at rollingL (foldL x) _ rfl]
  simp only [Option.bind_some]
  unfold isRoll isStat
  cases h : (foldL x).isPrefixOf rollingL with
  | true => rfl
  | false =>
    rw [if_neg (by decide), hasPrefix_at stationaryL (foldL x) _ rfl]
    rfl
theorem rdOf_map (ws : List (List UInt8)) (j : Nat) (x : List UInt8) (h : ws[j]? = some x) (i : Int) (hi : i = j) : rdOf ByteArray.empty (ws.map mkB) i = mkB x := by
  subst hi
  unfold rdOf
  rw [Int.toNat_natCast, List.getD_eq_getElem?_getD, List.getElem?_map, h]
  rfl
theorem number_f (x : List UInt8) (hx : x.length < 4294967281) : lines_Number.f (mkB x) = some (numL x) := by
  unfold lines_Number.f
  rw [if_pos (show (mkB x).size ≤ maxLen by show x.length ≤ maxLen; unfold maxLen; omega)]
  rfl
theorem month_f (x : List UInt8) (hx : x.length < 4294967281) : zic_Month.f (mkB x) = some (monthF (foldL x)) := by
  unfold zic_Month.f
  rw [if_pos (show (mkB x).size ≤ maxLen by show x.length ≤ maxLen; unfold maxLen; omega)]
  rfl
theorem clock_f (x : List UInt8) (hx : x.length < 4294967281) : zic_Clock.f (mkB x) = some (clockL x) := by
  unfold zic_Clock.f
  rw [if_pos (show (mkB x).size < 4294967281 from hx)]
  rfl
theorem fold_f (x : List UInt8) (hx : x.length < 4294967281) : lines_Fold.f (mkB x) = some (mkB (foldL x)) := by
  unfold lines_Fold.f
  rw [if_pos (show (mkB x).size ≤ maxLen by show x.length ≤ maxLen; unfold maxLen; omega)]
  rfl
theorem date_words (kind : Int) (ws : List (List UInt8)) (a b c e w0 : List UInt8) (t : List (List UInt8)) (hw : ws = w0 :: a :: b :: c :: e :: t) (hs : ∀ x ∈ ws, x.length < 4294967281) :
    ∃ ok, Z.zic_date.f kind (ws.map mkB) = some (kind, (numL a).1, (monthF (foldL b)).1, (numL c).1, (clockL e).1, ⟨#[]⟩, false, ok) ∧ ok = (dateRow kind a b c e).isSome := by
  have hlen : (ws.map mkB).length = t.length + 5 := by rw [hw]; simp
  unfold Z.zic_date.f
  rw [hlen, if_pos (by omega), rdOf_map ws 1 a (by rw [hw]; rfl) 1 rfl, number_f a (hs a (by rw [hw]; simp))]
  simp only [Option.bind_some]
  rw [if_pos (by omega), rdOf_map ws 2 b (by rw [hw]; rfl) 2 rfl, month_f b (hs b (by rw [hw]; simp))]
  simp only [Option.bind_some]
  rw [if_pos (by omega), rdOf_map ws 3 c (by rw [hw]; rfl) 3 rfl, number_f c (hs c (by rw [hw]; simp))]
  simp only [Option.bind_some]
  rw [if_pos (by omega), rdOf_map ws 4 e (by rw [hw]; rfl) 4 rfl, clock_f e (hs e (by rw [hw]; simp))]
  simp only [Option.bind_some]
  unfold dateRow
  cases h1 : (numL a).2 with
  | false => exact ⟨_, by rw [if_neg (by decide)], by simp⟩
  | true =>
    cases h2 : (monthF (foldL b)).2 with
    | false => exact ⟨_, by rw [if_pos rfl, if_neg (by decide)], by simp⟩
    | true =>
      cases h3 : (numL c).2 with
      | false => exact ⟨_, by rw [if_pos rfl, if_pos rfl, if_neg (by decide)], by simp⟩
      | true =>
        refine ⟨_, by rw [if_pos rfl, if_pos rfl, if_pos rfl], ?_⟩
        cases h4 : (clockL e).2 <;> simp
def ReadsTo (ws : List (List UInt8)) (k y m d sec : Int) (sign : ByteArray) (roll ok : Bool) : Prop := match readL ws with
  | some r => k = r.kind ∧ y = r.y ∧ m = r.m ∧ d = r.d ∧ sec = r.sec ∧ sign = mkB r.sign ∧ roll = r.roll ∧ ok = true
  | none => ok = false
theorem ReadsTo.no {ws : List (List UInt8)} (h : readL ws = none) (k y m d sec : Int) (sign : ByteArray) (roll : Bool) : ReadsTo ws k y m d sec sign roll false := by
  unfold ReadsTo
  rw [h]
theorem ReadsTo.yes {ws : List (List UInt8)} {r : ZRow} (h : readL ws = some r) : ReadsTo ws r.kind r.y r.m r.d r.sec (mkB r.sign) r.roll true := by
  unfold ReadsTo
  rw [h]
  simp
theorem readL_len {ws : List (List UInt8)} (h5 : ws.length ≠ 5) (h7 : ws.length ≠ 7) : readL ws = none := by
  unfold readL
  split
  · simp at h7
  · simp at h5
  · rfl
theorem mkB_eq (x : List UInt8) : (mkB x).toList = x := by rw [Lib.toList_data]; rfl
theorem read_at (w0 : List UInt8) (t : List (List UInt8)) (hs : ∀ x ∈ w0 :: t, x.length < 4294967281) :
    ∃ k y m d sec sign roll ok, Z.zic_read.f 2 ((w0 :: t).map mkB) = some (k, y, m, d, sec, sign, roll, ok) ∧ ReadsTo (w0 :: t) k y m d sec sign roll ok := by
  have hlen : (((w0 :: t).map mkB).length : Int) = (t.length : Int) + 1 := by simp
  unfold Z.zic_read.f
  rw [hlen, if_pos (by omega), rdOf_map (w0 :: t) 0 w0 rfl 0 rfl, fold_f w0 (hs w0 (by simp))]
  simp only [Option.bind_some]
  rw [mkB_eq]
  by_cases hl : foldL w0 = [108, 101, 97, 112]
  · rw [if_pos hl]
    by_cases h7 : t.length = 6
    · rw [show ((t.length : Int) + 1 == 7) = true by rw [h7]; rfl]
      match t, h7 with
      | [a, b, c, e, s, r], _ =>
        obtain ⟨ok, hd, ho⟩ := date_words 0 (w0 :: [a, b, c, e, s, r]) a b c e w0 [s, r] rfl hs
        simp only [Z.zic_read.j0]
        rw [if_pos trivial, hd]
        simp only [Option.bind_some]
        rw [if_pos (by simp), rdOf_map _ 6 r rfl 6 rfl, roll_at r (by have := hs r (by simp); unfold maxLen; omega)]
        simp only [Option.bind_some]
        rw [if_pos (by simp), rdOf_map _ 5 s rfl 5 rfl, mkB_eq]
        by_cases hp : s = [43]
        · rw [if_pos hp]
          cases ok with
          | false =>
            rw [if_neg (by decide)]
            refine ⟨_, _, _, _, _, _, _, _, rfl, ReadsTo.no ?_ _ _ _ _ _ _ _⟩
            rw [readL7]
            cases hq : dateRow 0 a b c e with
            | none => simp
            | some x => rw [hq] at ho; simp at ho
          | true =>
            rw [if_pos rfl]
            cases hq : dateRow 0 a b c e with
            | none => rw [hq] at ho; simp at ho
            | some x =>
              by_cases hr : isRoll r = true ∨ isStat r = true
              · have e1 : readL (w0 :: [a, b, c, e, s, r]) = some { x with sign := s, roll := isRoll r } := by
                  rw [readL7]
                  rw [if_pos ⟨hl, .inl hp, hr⟩, hq]
                  rfl
                have hx : x = ⟨0, (numL a).1, (monthF (foldL b)).1, (numL c).1, (clockL e).1, [], false⟩ := by
                  unfold dateRow at hq
                  split at hq
                  · exact (Option.some.inj hq).symm
                  · cases hq
                have h2 : (isRoll r || isStat r) = true := by simpa using hr
                rw [h2]
                refine ⟨_, _, _, _, _, _, _, _, rfl, ?_⟩
                have := ReadsTo.yes e1
                rw [hx] at this
                exact this
              · have h2 : (isRoll r || isStat r) = false := by simpa using hr
                rw [h2]
                refine ⟨_, _, _, _, _, _, _, _, rfl, ReadsTo.no ?_ _ _ _ _ _ _ _⟩
                rw [readL7]
                rw [if_neg (fun h => hr h.2.2)]
        · rw [if_neg hp]
          by_cases hm : s = [45]
          · rw [if_pos hm]
            cases ok with
            | false =>
              rw [if_neg (by decide)]
              refine ⟨_, _, _, _, _, _, _, _, rfl, ReadsTo.no ?_ _ _ _ _ _ _ _⟩
              rw [readL7]
              cases hq : dateRow 0 a b c e with
              | none => simp
              | some x => rw [hq] at ho; simp at ho
            | true =>
              rw [if_pos rfl]
              cases hq : dateRow 0 a b c e with
              | none => rw [hq] at ho; simp at ho
              | some x =>
                by_cases hr : isRoll r = true ∨ isStat r = true
                · have e1 : readL (w0 :: [a, b, c, e, s, r]) = some { x with sign := s, roll := isRoll r } := by
                    rw [readL7]
                    rw [if_pos ⟨hl, .inr hm, hr⟩, hq]
                    rfl
                  have hx : x = ⟨0, (numL a).1, (monthF (foldL b)).1, (numL c).1, (clockL e).1, [], false⟩ := by
                    unfold dateRow at hq
                    split at hq
                    · exact (Option.some.inj hq).symm
                    · cases hq
                  have h2 : (isRoll r || isStat r) = true := by simpa using hr
                  rw [h2]
                  refine ⟨_, _, _, _, _, _, _, _, rfl, ?_⟩
                  have := ReadsTo.yes e1
                  rw [hx] at this
                  exact this
                · have h2 : (isRoll r || isStat r) = false := by simpa using hr
                  rw [h2]
                  refine ⟨_, _, _, _, _, _, _, _, rfl, ReadsTo.no ?_ _ _ _ _ _ _ _⟩
                  rw [readL7]
                  rw [if_neg (fun h => hr h.2.2)]
          · rw [if_neg hm]
            refine ⟨_, _, _, _, _, _, _, _, rfl, ReadsTo.no ?_ _ _ _ _ _ _ _⟩
            rw [readL7]
            rw [if_neg (fun h => h.2.1.elim hp hm)]
    · rw [show ((t.length : Int) + 1 == 7) = false by rw [beq_eq_false_iff_ne]; omega]
      simp only [Z.zic_read.j0]
      rw [if_neg (by decide), mkB_eq, if_neg (by rw [hl]; decide)]
      refine ⟨_, _, _, _, _, _, _, _, rfl, ReadsTo.no ?_ _ _ _ _ _ _ _⟩
      unfold readL
      split
      · rename_i heq
        simp at heq
        obtain ⟨_, rfl⟩ := heq
        simp at h7
      · rename_i heq
        simp at heq
        obtain ⟨rfl, rfl⟩ := heq
        rw [if_neg (by rw [hl]; decide)]
      · rfl
  · rw [if_neg hl]
    simp only [Z.zic_read.j0]
    rw [if_neg (by decide), mkB_eq]
    by_cases he : foldL w0 = [101, 120, 112, 105, 114, 101, 115]
    · rw [if_pos he, hlen]
      by_cases h5 : t.length = 4
      · rw [if_pos (by omega)]
        match t, h5 with
        | [a, b, c, e], _ =>
          obtain ⟨ok, hd, ho⟩ := date_words 1 (w0 :: [a, b, c, e]) a b c e w0 [] rfl hs
          rw [hd]
          simp only [Option.bind_some]
          refine ⟨_, _, _, _, _, _, _, _, rfl, ?_⟩
          cases hq : dateRow 1 a b c e with
          | none =>
            rw [hq] at ho
            subst ho
            refine ReadsTo.no ?_ _ _ _ _ _ _ _
            rw [readL5]
            rw [show expiresWord = [101, 120, 112, 105, 114, 101, 115] from rfl, if_pos he, hq]
          | some x =>
            rw [hq] at ho
            subst ho
            have e1 : readL (w0 :: [a, b, c, e]) = some x := by
              rw [readL5]
              rw [show expiresWord = [101, 120, 112, 105, 114, 101, 115] from rfl, if_pos he, hq]
            have hx : x = ⟨1, (numL a).1, (monthF (foldL b)).1, (numL c).1, (clockL e).1, [], false⟩ := by
              unfold dateRow at hq
              split at hq
              · exact (Option.some.inj hq).symm
              · cases hq
            have := ReadsTo.yes e1
            rw [hx] at this
            exact this
      · rw [if_neg (by omega)]
        refine ⟨_, _, _, _, _, _, _, _, rfl, ReadsTo.no ?_ _ _ _ _ _ _ _⟩
        unfold readL
        split
        · rename_i heq
          simp at heq
          obtain ⟨rfl, rfl⟩ := heq
          rw [if_neg (fun h => hl h.1)]
        · rename_i heq
          simp at heq
          obtain ⟨rfl, rfl⟩ := heq
          simp at h5
        · rfl
    · rw [if_neg he]
      refine ⟨_, _, _, _, _, _, _, _, rfl, ReadsTo.no ?_ _ _ _ _ _ _ _⟩
      unfold readL
      split
      · rename_i heq
        simp at heq
        obtain ⟨rfl, rfl⟩ := heq
        rw [if_neg (fun h => hl h.1)]
      · rename_i heq
        simp at heq
        obtain ⟨rfl, rfl⟩ := heq
        rw [show expiresWord = [101, 120, 112, 105, 114, 101, 115] from rfl, if_neg he]
      · rfl
end Go.Proofs.YtodalfobehddmaaDoor.Y
