/- What functions of the program come to, proved by walking their code; no condition beside those that each theorem states (part 4 of 4) -/
import Derived.Lib.Hide
import Derived.Lib.OthersKept
import Derived.Test.YtodalfobehddmaaDoorRows
import Derived.Deep.DeepHandedRow
import Derived.Lib.LaidTab
import Derived.Lay
import Derived.Stop.LaidErr
import Derived.MakeChecks
import Derived.Lib.SmallJoins
import Derived.Deep.Slices
import Derived.Deep.Fields
import Derived.ChangeSame
import Derived.ProofKit
import Derived.Test.YtodalfobehddmaaDoorCZ3
set_option linter.unusedVariables false
set_option linter.unusedSimpArgs false
namespace Go.Proofs.YtodalfobehddmaaDoor.Y
open Go.RowKit Go.Proofs.YtodalfobehddmaaDoorW.PrintWords Go.Proofs.YtodalfobehddmaaDoorW.PrintLast Go.Proofs.YtodalfobehddmaaDoor.Mx
open Go.Proofs.YtodalfobehddmaaDoor.Z
structure Src (w0 : World) (g : Nat) (sv : Value) (l : List S46) (has : Bool) (exp at_ until_ : Int) (w : World) : Prop where
  blk : w.heap[g]? = some (.cells #[sv, .bool has, .int .i64 exp, .int .i64 at_, .int .i64 until_] 59 (0, 0))
  row : Kd.R k46 46 w w0.heap.size (fun k => k ≠ g) sv l
def stepOf (sign : List UInt8) (sec : Int) : Int := if sign = [43] ∧ sec = 86400 then 1 else if sign = [45] ∧ sec = 86399 then -1 else 0
theorem src_done {w0 w w1 w2 : World} {g : Nat} {sv v : Value} {l l' : List S46} {has : Bool} {exp at_ until_ : Int} (hS : Src w0 g sv l has exp at_ until_ w) (hB : Below w0.heap.size w0 w) (hg : w0.heap.size ≤ g) (h1 : Below w.heap.size w w1) (hd : Below w1.drew.heap.size w1.drew w2)
    (hr : Kd.R k46 46 w2 w1.drew.heap.size (fun _ => True) v l') :
    Src w0 g v l' has exp at_ until_ (((w2.setCell ⟨g, 0, none⟩ v).setCell ⟨g, 1, none⟩ (.bool has)).setCell ⟨g, 2, none⟩ (.int .i64 exp)) ∧ Below w0.heap.size w0 (((w2.setCell ⟨g, 0, none⟩ v).setCell ⟨g, 1, none⟩ (.bool has)).setCell ⟨g, 2, none⟩ (.int .i64 exp)) ∧ KeepBut w (((w2.setCell ⟨g, 0, none⟩ v).setCell ⟨g, 1, none⟩ (.bool has)).setCell ⟨g, 2, none⟩ (.int .i64 exp)) g none := by
  have hgl : g < w.heap.size := blk_lt hS.blk
  have h2 : Below w1.heap.size w1 w2 := (Below.refl _ w1).drew.trans hd
  have hz1 := h1.size
  have hz0 := hB.size
  have h12 : Below w.heap.size w w2 := h1.trans (h2.mono h1.size)
  have hb2 : w2.heap[g]? = _ := blk_below hS.blk h12
  refine ⟨⟨?_, ?_⟩, ?_, ?_⟩
  · exact blk_put (blk_put (blk_put hb2 0 v rfl) 1 _ rfl) 2 _ rfl
  · have hr2 : Kd.R k46 46 w2 w0.heap.size (fun k => k ≠ g) v l' := Kd.R_lower (Kd.R_mono (Kd.R_bound hr) (fun k hk => by have h3 : w1.heap.size ≤ k := hk.2.1; omega)) (by show w0.heap.size ≤ w1.heap.size; omega)
    exact Kd.R_far (p := ⟨g, 2, none⟩) (Kd.R_far (p := ⟨g, 1, none⟩) (Kd.R_far (p := ⟨g, 0, none⟩) hr2 (fun _ hk => hk) v) (fun _ hk => hk) _) (fun _ hk => hk) _
  · exact (((hB.trans (h12.mono hB.size)).setCell hg _).setCell hg _).setCell hg _
  · exact (((KeepBut.of_below h12 g none).set_ 0 v).set_ 1 _).set_ 2 _
theorem src_left {w0 w w1 w2 : World} {g : Nat} {sv v : Value} {l : List S46} {has : Bool} {exp at_ until_ : Int} (hS : Src w0 g sv l has exp at_ until_ w) (hB : Below w0.heap.size w0 w) (hg : w0.heap.size ≤ g) (h1 : Below w.heap.size w w1) (hd : Below w1.drew.heap.size w1.drew w2) :
    Below w0.heap.size w0 (((w2.setCell ⟨g, 0, none⟩ v).setCell ⟨g, 1, none⟩ (.bool has)).setCell ⟨g, 2, none⟩ (.int .i64 exp)) ∧ KeepBut w (((w2.setCell ⟨g, 0, none⟩ v).setCell ⟨g, 1, none⟩ (.bool has)).setCell ⟨g, 2, none⟩ (.int .i64 exp)) g none := by
  have h2 : Below w1.heap.size w1 w2 := (Below.refl _ w1).drew.trans hd
  have h12 : Below w.heap.size w w2 := h1.trans (h2.mono h1.size)
  exact ⟨(((hB.trans (h12.mono hB.size)).setCell hg _).setCell hg _).setCell hg _, (((KeepBut.of_below h12 g none).set_ 0 v).set_ 1 _).set_ 2 _⟩
set_option maxHeartbeats 2000000 in
set_option maxRecDepth 100000 in
theorem sleap_plus (w0 : World) (g : Nat) (A : Option Addr) (c : Nat) (l : List S46) (has : Bool) (exp at_ until_ : Int) (k y m d : Int) (roll : Bool) (n : Int) (w : World)
    (hS : Src w0 g (.slice A l.length c) l has exp at_ until_ w) (hB : Below w0.heap.size w0 w) (hg : w0.heap.size ≤ g) (hl : l.length ≤ 1000000000000) (hok : (checkN (l ++ [⟨n, 1, roll⟩]) has exp).2 = 0) :
    Calls Tryd.prog 59 #[.pointer (some ⟨g, 0, none⟩), .agg #[.int .i64 k, .int .i64 y, .int .i64 m, .int .i64 d, .int .i64 86400, .string (mkB [43]), .bool roll], .int .i64 n] w fun e w' =>
      ∃ sv, e = .returned (.int .i64 0) ∧ Src w0 g sv (l ++ [⟨n, 1, roll⟩]) has exp at_ until_ w' ∧ Below w0.heap.size w0 w' ∧ KeepBut w w' g none := by
  have hsb : (mkB [43]).toList = [43] := mkB_eq _
  generalize mkB [43] = sb at *
  have HS := Aside0.mk hS
  have HB := Aside0.mk hB
  have HG := Aside0.mk hg
  have hc0 : w.cell? ⟨g, 0, none⟩ = some (.slice A l.length c) := (blk_cell hS.blk 0).trans rfl
  have hc1 : w.cell? ⟨g, 1, none⟩ = some (.bool has) := (blk_cell hS.blk 1).trans rfl
  have hc2 : w.cell? ⟨g, 2, none⟩ = some (.int .i64 exp) := (blk_cell hS.blk 2).trans rfl
  have hlt : g < w.heap.size := blk_lt hS.blk
  have hne : ¬ (g = w.heap.size) := by omega
  have hne2 : ¬ (w.heap.size = g) := by omega
  have HOK := Aside0.mk hok
  clear hS hB hok
  have hu24 := Tryd.underlying24
  have hu46 := Tryd.underlying46
  have hu98 := Tryd.underlying98
  have hu59 := Tryd.underlying59
  have HLT := Aside0.mk hlt
  go_enter Tryd.func59, Tryd.ntmps59
  go_upto_region 7 with (fail)
  have HB1 : Aside0 (Below w.heap.size w (w.alloc (.cells #[.int .i64 k, .int .i64 y, .int .i64 m, .int .i64 d, .int .i64 86400, .string sb, .bool roll] 98))) := ⟨(Below.refl _ _).alloc (Nat.le_refl _) _⟩
  have hb6 : (w.alloc (.cells #[.int .i64 k, .int .i64 y, .int .i64 m, .int .i64 d, .int .i64 86400, .string sb, .bool roll] 98)).cell? ⟨w.heap.size, 6, none⟩ = some (.bool roll) := (World.cell?_alloc_mark _ _ _ _ _).trans rfl
  generalize w.alloc (.cells #[.int .i64 k, .int .i64 y, .int .i64 m, .int .i64 d, .int .i64 86400, .string sb, .bool roll] 98) = w1 at *
  have hd0 : w1.cell? ⟨g, 0, none⟩ = some (.slice A l.length c) := (HB1.out.cell (p := ⟨g, 0, none⟩) hlt).trans hc0
  have hd1 : w1.cell? ⟨g, 1, none⟩ = some (.bool has) := (HB1.out.cell (p := ⟨g, 1, none⟩) hlt).trans hc1
  have hd2 : w1.cell? ⟨g, 2, none⟩ = some (.int .i64 exp) := (HB1.out.cell (p := ⟨g, 2, none⟩) hlt).trans hc2
  have hbk1 : w1.heap[g]? = some (.cells #[.slice A l.length c, .bool has, .int .i64 exp, .int .i64 at_, .int .i64 until_] 59 (0, 0)) := blk_below HS.out.blk HB1.out
  have HBK := Aside0.mk hbk1
  have HRR := Aside0.mk (Kd.R_below HS.out.row HB1.out)
  have HRD := Aside0.mk (Kd.R_reads' HRR.out)
  have HLT1 : Aside0 (g < w1.heap.size) := ⟨blk_lt hbk1⟩
  clear hc0 hc1 hc2 hbk1
  go_region_with ((go_at_call 80; (with_reducible refine (add_ok _ _ _ _ _ _ _ _ _ (by exact Kd.C_drew HRD.out.2.2) HRD.out.2.1 hl HOK.out).mono ?_); rintro e w2 ⟨v, rfl, hr2, hb2⟩; obtain ⟨Ao, co, rfl⟩ := Kd.R_slice hr2; have HR2 := Aside0.mk hr2; have HB2 := Aside0.mk hb2; have hk0 : w2.cell? ⟨g, 0, none⟩ = some (.slice A l.length c) := (hb2.cell (p := ⟨g, 0, none⟩) HLT1.out).trans hd0; have hk1 : w2.cell? ⟨g, 1, none⟩ = some (.bool has) := (hb2.cell (p := ⟨g, 1, none⟩) HLT1.out).trans hd1; have hk2 : w2.cell? ⟨g, 2, none⟩ = some (.int .i64 exp) := (hb2.cell (p := ⟨g, 2, none⟩) HLT1.out).trans hd2; have hk3 : w2.cell? ⟨w.heap.size, 6, none⟩ = some (.bool roll) := (hb2.cell (p := ⟨w.heap.size, 6, none⟩) (World.block_lt_of_cell? _ _ hb6)).trans hb6; have hkf0 := (hb2.frozen (p := ⟨g, 0, none⟩) HLT1.out).trans (blk_frozen HBK.out 0); have hkf1 := (hb2.frozen (p := ⟨g, 1, none⟩) HLT1.out).trans (blk_frozen HBK.out 1); have hkf2 := (hb2.frozen (p := ⟨g, 2, none⟩) HLT1.out).trans (blk_frozen HBK.out 2); clear hr2 hb2))
  all_goals
    go_wp2_with fail
    go_ret
    have h := src_done HS.out HB.out HG.out HB1.out (w1 := w1) HB2.out HR2.out
    rw [show (l ++ [(⟨n, 1, roll⟩ : S46)]).length = l.length + 1 by simp] at h
    exact ⟨_, rfl, h.1, h.2.1, h.2.2⟩
set_option maxHeartbeats 2000000 in
set_option maxRecDepth 100000 in
theorem sleap_plus_bad (w0 : World) (g : Nat) (A : Option Addr) (c : Nat) (l : List S46) (has : Bool) (exp at_ until_ : Int) (k y m d : Int) (roll : Bool) (n : Int) (w : World)
    (hS : Src w0 g (.slice A l.length c) l has exp at_ until_ w) (hB : Below w0.heap.size w0 w) (hg : w0.heap.size ≤ g) (hl : l.length ≤ 1000000000000) (r : Int) (hok : (checkN (l ++ [⟨n, 1, roll⟩]) has exp).2 = r) (hr0 : r ≠ 0) :
    Calls Tryd.prog 59 #[.pointer (some ⟨g, 0, none⟩), .agg #[.int .i64 k, .int .i64 y, .int .i64 m, .int .i64 d, .int .i64 86400, .string (mkB [43]), .bool roll], .int .i64 n] w fun e w' =>
      e = .returned (.int .i64 r) ∧ Below w0.heap.size w0 w' ∧ KeepBut w w' g none := by
  have hsb : (mkB [43]).toList = [43] := mkB_eq _
  generalize mkB [43] = sb at *
  have HS := Aside0.mk hS
  have HB := Aside0.mk hB
  have HG := Aside0.mk hg
  have hc0 : w.cell? ⟨g, 0, none⟩ = some (.slice A l.length c) := (blk_cell hS.blk 0).trans rfl
  have hc1 : w.cell? ⟨g, 1, none⟩ = some (.bool has) := (blk_cell hS.blk 1).trans rfl
  have hc2 : w.cell? ⟨g, 2, none⟩ = some (.int .i64 exp) := (blk_cell hS.blk 2).trans rfl
  have hlt : g < w.heap.size := blk_lt hS.blk
  have hne : ¬ (g = w.heap.size) := by omega
  have hne2 : ¬ (w.heap.size = g) := by omega
  have HOK := Aside0.mk hok
  have HR0 := Aside0.mk hr0
  clear hS hB hok hr0
  have hu24 := Tryd.underlying24
  have hu46 := Tryd.underlying46
  have hu98 := Tryd.underlying98
  have hu59 := Tryd.underlying59
  have HLT := Aside0.mk hlt
  go_enter Tryd.func59, Tryd.ntmps59
  go_upto_region 7 with (fail)
  have HB1 : Aside0 (Below w.heap.size w (w.alloc (.cells #[.int .i64 k, .int .i64 y, .int .i64 m, .int .i64 d, .int .i64 86400, .string sb, .bool roll] 98))) := ⟨(Below.refl _ _).alloc (Nat.le_refl _) _⟩
  have hb6 : (w.alloc (.cells #[.int .i64 k, .int .i64 y, .int .i64 m, .int .i64 d, .int .i64 86400, .string sb, .bool roll] 98)).cell? ⟨w.heap.size, 6, none⟩ = some (.bool roll) := (World.cell?_alloc_mark _ _ _ _ _).trans rfl
  generalize w.alloc (.cells #[.int .i64 k, .int .i64 y, .int .i64 m, .int .i64 d, .int .i64 86400, .string sb, .bool roll] 98) = w1 at *
  have hd0 : w1.cell? ⟨g, 0, none⟩ = some (.slice A l.length c) := (HB1.out.cell (p := ⟨g, 0, none⟩) hlt).trans hc0
  have hd1 : w1.cell? ⟨g, 1, none⟩ = some (.bool has) := (HB1.out.cell (p := ⟨g, 1, none⟩) hlt).trans hc1
  have hd2 : w1.cell? ⟨g, 2, none⟩ = some (.int .i64 exp) := (HB1.out.cell (p := ⟨g, 2, none⟩) hlt).trans hc2
  have hbk1 : w1.heap[g]? = some (.cells #[.slice A l.length c, .bool has, .int .i64 exp, .int .i64 at_, .int .i64 until_] 59 (0, 0)) := blk_below HS.out.blk HB1.out
  have HBK := Aside0.mk hbk1
  have HRR := Aside0.mk (Kd.R_below HS.out.row HB1.out)
  have HRD := Aside0.mk (Kd.R_reads' HRR.out)
  have HLT1 : Aside0 (g < w1.heap.size) := ⟨blk_lt hbk1⟩
  clear hc0 hc1 hc2 hbk1
  go_region_with ((go_at_call 80; (with_reducible refine (add_bad _ _ _ _ _ _ _ _ _ (by exact Kd.C_drew HRD.out.2.2) HRD.out.2.1 hl r HOK.out HR0.out).mono ?_); rintro e w2 ⟨Ao, rfl, hb2⟩; have HB2 := Aside0.mk hb2; have hk0 : w2.cell? ⟨g, 0, none⟩ = some (.slice A l.length c) := (hb2.cell (p := ⟨g, 0, none⟩) HLT1.out).trans hd0; have hk1 : w2.cell? ⟨g, 1, none⟩ = some (.bool has) := (hb2.cell (p := ⟨g, 1, none⟩) HLT1.out).trans hd1; have hk2 : w2.cell? ⟨g, 2, none⟩ = some (.int .i64 exp) := (hb2.cell (p := ⟨g, 2, none⟩) HLT1.out).trans hd2; have hk3 : w2.cell? ⟨w.heap.size, 6, none⟩ = some (.bool roll) := (hb2.cell (p := ⟨w.heap.size, 6, none⟩) (World.block_lt_of_cell? _ _ hb6)).trans hb6; have hkf0 := (hb2.frozen (p := ⟨g, 0, none⟩) HLT1.out).trans (blk_frozen HBK.out 0); have hkf1 := (hb2.frozen (p := ⟨g, 1, none⟩) HLT1.out).trans (blk_frozen HBK.out 1); have hkf2 := (hb2.frozen (p := ⟨g, 2, none⟩) HLT1.out).trans (blk_frozen HBK.out 2); clear hb2))
  all_goals
    go_wp2_with fail
    go_ret
    exact ⟨rfl, src_left HS.out HB.out HG.out HB1.out HB2.out⟩
set_option maxHeartbeats 2000000 in
set_option maxRecDepth 100000 in
theorem sleap_minus (w0 : World) (g : Nat) (A : Option Addr) (c : Nat) (l : List S46) (has : Bool) (exp at_ until_ : Int) (k y m d : Int) (roll : Bool) (n : Int) (w : World)
    (hS : Src w0 g (.slice A l.length c) l has exp at_ until_ w) (hB : Below w0.heap.size w0 w) (hg : w0.heap.size ≤ g) (hl : l.length ≤ 1000000000000) (hok : (checkN (l ++ [⟨n, (-1), roll⟩]) has exp).2 = 0) :
    Calls Tryd.prog 59 #[.pointer (some ⟨g, 0, none⟩), .agg #[.int .i64 k, .int .i64 y, .int .i64 m, .int .i64 d, .int .i64 86399, .string (mkB [45]), .bool roll], .int .i64 n] w fun e w' =>
      ∃ sv, e = .returned (.int .i64 0) ∧ Src w0 g sv (l ++ [⟨n, (-1), roll⟩]) has exp at_ until_ w' ∧ Below w0.heap.size w0 w' ∧ KeepBut w w' g none := by
  have hsb : (mkB [45]).toList = [45] := mkB_eq _
  generalize mkB [45] = sb at *
  have HS := Aside0.mk hS
  have HB := Aside0.mk hB
  have HG := Aside0.mk hg
  have hc0 : w.cell? ⟨g, 0, none⟩ = some (.slice A l.length c) := (blk_cell hS.blk 0).trans rfl
  have hc1 : w.cell? ⟨g, 1, none⟩ = some (.bool has) := (blk_cell hS.blk 1).trans rfl
  have hc2 : w.cell? ⟨g, 2, none⟩ = some (.int .i64 exp) := (blk_cell hS.blk 2).trans rfl
  have hlt : g < w.heap.size := blk_lt hS.blk
  have hne : ¬ (g = w.heap.size) := by omega
  have hne2 : ¬ (w.heap.size = g) := by omega
  have HOK := Aside0.mk hok
  clear hS hB hok
  have hu24 := Tryd.underlying24
  have hu46 := Tryd.underlying46
  have hu98 := Tryd.underlying98
  have hu59 := Tryd.underlying59
  have HLT := Aside0.mk hlt
  go_enter Tryd.func59, Tryd.ntmps59
  go_upto_region 7 with (fail)
  have HB1 : Aside0 (Below w.heap.size w (w.alloc (.cells #[.int .i64 k, .int .i64 y, .int .i64 m, .int .i64 d, .int .i64 86399, .string sb, .bool roll] 98))) := ⟨(Below.refl _ _).alloc (Nat.le_refl _) _⟩
  have hb6 : (w.alloc (.cells #[.int .i64 k, .int .i64 y, .int .i64 m, .int .i64 d, .int .i64 86399, .string sb, .bool roll] 98)).cell? ⟨w.heap.size, 6, none⟩ = some (.bool roll) := (World.cell?_alloc_mark _ _ _ _ _).trans rfl
  generalize w.alloc (.cells #[.int .i64 k, .int .i64 y, .int .i64 m, .int .i64 d, .int .i64 86399, .string sb, .bool roll] 98) = w1 at *
  have hd0 : w1.cell? ⟨g, 0, none⟩ = some (.slice A l.length c) := (HB1.out.cell (p := ⟨g, 0, none⟩) hlt).trans hc0
  have hd1 : w1.cell? ⟨g, 1, none⟩ = some (.bool has) := (HB1.out.cell (p := ⟨g, 1, none⟩) hlt).trans hc1
  have hd2 : w1.cell? ⟨g, 2, none⟩ = some (.int .i64 exp) := (HB1.out.cell (p := ⟨g, 2, none⟩) hlt).trans hc2
  have hbk1 : w1.heap[g]? = some (.cells #[.slice A l.length c, .bool has, .int .i64 exp, .int .i64 at_, .int .i64 until_] 59 (0, 0)) := blk_below HS.out.blk HB1.out
  have HBK := Aside0.mk hbk1
  have HRR := Aside0.mk (Kd.R_below HS.out.row HB1.out)
  have HRD := Aside0.mk (Kd.R_reads' HRR.out)
  have HLT1 : Aside0 (g < w1.heap.size) := ⟨blk_lt hbk1⟩
  clear hc0 hc1 hc2 hbk1
  go_region_with ((go_at_call 80; (with_reducible refine (add_ok _ _ _ _ _ _ _ _ _ (by exact Kd.C_drew HRD.out.2.2) HRD.out.2.1 hl HOK.out).mono ?_); rintro e w2 ⟨v, rfl, hr2, hb2⟩; obtain ⟨Ao, co, rfl⟩ := Kd.R_slice hr2; have HR2 := Aside0.mk hr2; have HB2 := Aside0.mk hb2; have hk0 : w2.cell? ⟨g, 0, none⟩ = some (.slice A l.length c) := (hb2.cell (p := ⟨g, 0, none⟩) HLT1.out).trans hd0; have hk1 : w2.cell? ⟨g, 1, none⟩ = some (.bool has) := (hb2.cell (p := ⟨g, 1, none⟩) HLT1.out).trans hd1; have hk2 : w2.cell? ⟨g, 2, none⟩ = some (.int .i64 exp) := (hb2.cell (p := ⟨g, 2, none⟩) HLT1.out).trans hd2; have hk3 : w2.cell? ⟨w.heap.size, 6, none⟩ = some (.bool roll) := (hb2.cell (p := ⟨w.heap.size, 6, none⟩) (World.block_lt_of_cell? _ _ hb6)).trans hb6; have hkf0 := (hb2.frozen (p := ⟨g, 0, none⟩) HLT1.out).trans (blk_frozen HBK.out 0); have hkf1 := (hb2.frozen (p := ⟨g, 1, none⟩) HLT1.out).trans (blk_frozen HBK.out 1); have hkf2 := (hb2.frozen (p := ⟨g, 2, none⟩) HLT1.out).trans (blk_frozen HBK.out 2); clear hr2 hb2))
  all_goals
    go_wp2_with fail
    go_ret
    have h := src_done HS.out HB.out HG.out HB1.out (w1 := w1) HB2.out HR2.out
    rw [show (l ++ [(⟨n, (-1), roll⟩ : S46)]).length = l.length + 1 by simp] at h
    exact ⟨_, rfl, h.1, h.2.1, h.2.2⟩
set_option maxHeartbeats 2000000 in
set_option maxRecDepth 100000 in
theorem sleap_minus_bad (w0 : World) (g : Nat) (A : Option Addr) (c : Nat) (l : List S46) (has : Bool) (exp at_ until_ : Int) (k y m d : Int) (roll : Bool) (n : Int) (w : World)
    (hS : Src w0 g (.slice A l.length c) l has exp at_ until_ w) (hB : Below w0.heap.size w0 w) (hg : w0.heap.size ≤ g) (hl : l.length ≤ 1000000000000) (r : Int) (hok : (checkN (l ++ [⟨n, (-1), roll⟩]) has exp).2 = r) (hr0 : r ≠ 0) :
    Calls Tryd.prog 59 #[.pointer (some ⟨g, 0, none⟩), .agg #[.int .i64 k, .int .i64 y, .int .i64 m, .int .i64 d, .int .i64 86399, .string (mkB [45]), .bool roll], .int .i64 n] w fun e w' =>
      e = .returned (.int .i64 r) ∧ Below w0.heap.size w0 w' ∧ KeepBut w w' g none := by
  have hsb : (mkB [45]).toList = [45] := mkB_eq _
  generalize mkB [45] = sb at *
  have HS := Aside0.mk hS
  have HB := Aside0.mk hB
  have HG := Aside0.mk hg
  have hc0 : w.cell? ⟨g, 0, none⟩ = some (.slice A l.length c) := (blk_cell hS.blk 0).trans rfl
  have hc1 : w.cell? ⟨g, 1, none⟩ = some (.bool has) := (blk_cell hS.blk 1).trans rfl
  have hc2 : w.cell? ⟨g, 2, none⟩ = some (.int .i64 exp) := (blk_cell hS.blk 2).trans rfl
  have hlt : g < w.heap.size := blk_lt hS.blk
  have hne : ¬ (g = w.heap.size) := by omega
  have hne2 : ¬ (w.heap.size = g) := by omega
  have HOK := Aside0.mk hok
  have HR0 := Aside0.mk hr0
  clear hS hB hok hr0
  have hu24 := Tryd.underlying24
  have hu46 := Tryd.underlying46
  have hu98 := Tryd.underlying98
  have hu59 := Tryd.underlying59
  have HLT := Aside0.mk hlt
  go_enter Tryd.func59, Tryd.ntmps59
  go_upto_region 7 with (fail)
  have HB1 : Aside0 (Below w.heap.size w (w.alloc (.cells #[.int .i64 k, .int .i64 y, .int .i64 m, .int .i64 d, .int .i64 86399, .string sb, .bool roll] 98))) := ⟨(Below.refl _ _).alloc (Nat.le_refl _) _⟩
  have hb6 : (w.alloc (.cells #[.int .i64 k, .int .i64 y, .int .i64 m, .int .i64 d, .int .i64 86399, .string sb, .bool roll] 98)).cell? ⟨w.heap.size, 6, none⟩ = some (.bool roll) := (World.cell?_alloc_mark _ _ _ _ _).trans rfl
  generalize w.alloc (.cells #[.int .i64 k, .int .i64 y, .int .i64 m, .int .i64 d, .int .i64 86399, .string sb, .bool roll] 98) = w1 at *
  have hd0 : w1.cell? ⟨g, 0, none⟩ = some (.slice A l.length c) := (HB1.out.cell (p := ⟨g, 0, none⟩) hlt).trans hc0
  have hd1 : w1.cell? ⟨g, 1, none⟩ = some (.bool has) := (HB1.out.cell (p := ⟨g, 1, none⟩) hlt).trans hc1
  have hd2 : w1.cell? ⟨g, 2, none⟩ = some (.int .i64 exp) := (HB1.out.cell (p := ⟨g, 2, none⟩) hlt).trans hc2
  have hbk1 : w1.heap[g]? = some (.cells #[.slice A l.length c, .bool has, .int .i64 exp, .int .i64 at_, .int .i64 until_] 59 (0, 0)) := blk_below HS.out.blk HB1.out
  have HBK := Aside0.mk hbk1
  have HRR := Aside0.mk (Kd.R_below HS.out.row HB1.out)
  have HRD := Aside0.mk (Kd.R_reads' HRR.out)
  have HLT1 : Aside0 (g < w1.heap.size) := ⟨blk_lt hbk1⟩
  clear hc0 hc1 hc2 hbk1
  go_region_with ((go_at_call 80; (with_reducible refine (add_bad _ _ _ _ _ _ _ _ _ (by exact Kd.C_drew HRD.out.2.2) HRD.out.2.1 hl r HOK.out HR0.out).mono ?_); rintro e w2 ⟨Ao, rfl, hb2⟩; have HB2 := Aside0.mk hb2; have hk0 : w2.cell? ⟨g, 0, none⟩ = some (.slice A l.length c) := (hb2.cell (p := ⟨g, 0, none⟩) HLT1.out).trans hd0; have hk1 : w2.cell? ⟨g, 1, none⟩ = some (.bool has) := (hb2.cell (p := ⟨g, 1, none⟩) HLT1.out).trans hd1; have hk2 : w2.cell? ⟨g, 2, none⟩ = some (.int .i64 exp) := (hb2.cell (p := ⟨g, 2, none⟩) HLT1.out).trans hd2; have hk3 : w2.cell? ⟨w.heap.size, 6, none⟩ = some (.bool roll) := (hb2.cell (p := ⟨w.heap.size, 6, none⟩) (World.block_lt_of_cell? _ _ hb6)).trans hb6; have hkf0 := (hb2.frozen (p := ⟨g, 0, none⟩) HLT1.out).trans (blk_frozen HBK.out 0); have hkf1 := (hb2.frozen (p := ⟨g, 1, none⟩) HLT1.out).trans (blk_frozen HBK.out 1); have hkf2 := (hb2.frozen (p := ⟨g, 2, none⟩) HLT1.out).trans (blk_frozen HBK.out 2); clear hb2))
  all_goals
    go_wp2_with fail
    go_ret
    exact ⟨rfl, src_left HS.out HB.out HG.out HB1.out HB2.out⟩
end Go.Proofs.YtodalfobehddmaaDoor.Y
namespace Go.Proofs.YtodalfobehddmaaDoor.Y
open Go.RowKit Go.Proofs.YtodalfobehddmaaDoorW.PrintWords Go.Proofs.YtodalfobehddmaaDoorW.PrintLast Go.Proofs.YtodalfobehddmaaDoor.Mx
open Go.Proofs.YtodalfobehddmaaDoor.Z
theorem stepOf_cases (sign : List UInt8) (sec : Int) : (sign = [43] ∧ sec = 86400 ∧ stepOf sign sec = 1) ∨ (sign = [45] ∧ sec = 86399 ∧ stepOf sign sec = -1) ∨ (¬ (sign = [43] ∧ sec = 86400) ∧ ¬ (sign = [45] ∧ sec = 86399) ∧ stepOf sign sec = 0) := by
  unfold stepOf
  by_cases h1 : sign = [43] ∧ sec = 86400
  · exact .inl ⟨h1.1, h1.2, by rw [if_pos h1]⟩
  · by_cases h2 : sign = [45] ∧ sec = 86399
    · exact .inr (.inl ⟨h2.1, h2.2, by rw [if_neg h1, if_pos h2]⟩)
    · exact .inr (.inr ⟨h1, h2, by rw [if_neg h1, if_neg h2]⟩)
set_option maxHeartbeats 2000000 in
set_option maxRecDepth 100000 in
theorem sleap_none (sign : List UInt8) (sec : Int) (g : Nat) (k y m d : Int) (roll : Bool) (n : Int) (w : World) (h1 : ¬ (sign = [43] ∧ sec = 86400)) (h2 : ¬ (sign = [45] ∧ sec = 86399)) :
    Calls Tryd.prog 59 #[.pointer (some ⟨g, 0, none⟩), .agg #[.int .i64 k, .int .i64 y, .int .i64 m, .int .i64 d, .int .i64 sec, .string (mkB sign), .bool roll], .int .i64 n] w fun e w' => e = .returned (.int .i64 6) ∧ Below w.heap.size w w' := by
  have hsb : (mkB sign).toList = sign := mkB_eq _
  generalize mkB sign = sb at *
  have hu98 := Tryd.underlying98
  by_cases a : sb.toList = [43]
  · have a2 : ¬ (sb.toList = [45]) := by rw [a]; decide
    have b : ¬ (sec = 86400) := fun e => h1 ⟨by rw [← hsb]; exact a, e⟩
    have b2 : (sec == 86400) = false := beq_eq_false_iff_ne.2 b
    have a3 : (sb.toList == [43]) = true := by rw [a]; rfl
    have a4 : (sb.toList == [45]) = false := by rw [a]; rfl
    clear hsb h1 h2 a a2 b
    go_enter Tryd.func59, Tryd.ntmps59
    go_wp2_with fail
    all_goals (go_ret; exact ⟨rfl, (Below.refl _ _).alloc (Nat.le_refl _) _⟩)
  · have a3 : (sb.toList == [43]) = false := by simpa using a
    by_cases c : sb.toList = [45]
    · have b : ¬ (sec = 86399) := fun e => h2 ⟨by rw [← hsb]; exact c, e⟩
      have b2 : (sec == 86399) = false := beq_eq_false_iff_ne.2 b
      have a4 : (sb.toList == [45]) = true := by rw [c]; rfl
      clear hsb h1 h2 a b c
      go_enter Tryd.func59, Tryd.ntmps59
      go_wp2_with fail
      all_goals (go_ret; exact ⟨rfl, (Below.refl _ _).alloc (Nat.le_refl _) _⟩)
    · have a4 : (sb.toList == [45]) = false := by simpa using c
      clear hsb h1 h2 a c
      go_enter Tryd.func59, Tryd.ntmps59
      go_wp2_with fail
      all_goals (go_ret; exact ⟨rfl, (Below.refl _ _).alloc (Nat.le_refl _) _⟩)
def leapIn (l : List S46) (has : Bool) (exp : Int) (sign : List UInt8) (sec n : Int) (roll : Bool) : Int :=
  if stepOf sign sec = 0 then 6 else (checkN (l ++ [⟨n, stepOf sign sec, roll⟩]) has exp).2
theorem sleap_any (sign : List UInt8) (sec : Int) (w0 : World) (g : Nat) (A : Option Addr) (c : Nat) (l : List S46) (has : Bool) (exp at_ until_ : Int) (k y m d : Int) (roll : Bool) (n : Int) (w : World)
    (hS : Src w0 g (.slice A l.length c) l has exp at_ until_ w) (hB : Below w0.heap.size w0 w) (hg : w0.heap.size ≤ g) (hl : l.length ≤ 1000000000000) :
    Calls Tryd.prog 59 #[.pointer (some ⟨g, 0, none⟩), .agg #[.int .i64 k, .int .i64 y, .int .i64 m, .int .i64 d, .int .i64 sec, .string (mkB sign), .bool roll], .int .i64 n] w fun e w' =>
      e = .returned (.int .i64 (leapIn l has exp sign sec n roll)) ∧ (leapIn l has exp sign sec n roll = 0 → ∃ sv, Src w0 g sv (l ++ [⟨n, stepOf sign sec, roll⟩]) has exp at_ until_ w') ∧ Below w0.heap.size w0 w' ∧ KeepBut w w' g none := by
  rcases stepOf_cases sign sec with ⟨rfl, rfl, hs⟩ | ⟨rfl, rfl, hs⟩ | ⟨h1, h2, hs⟩
  · have e : leapIn l has exp [43] 86400 n roll = (checkN (l ++ [⟨n, 1, roll⟩]) has exp).2 := by unfold leapIn; rw [hs, if_neg (by decide)]
    rw [e, hs]
    by_cases hz : (checkN (l ++ [⟨n, 1, roll⟩]) has exp).2 = 0
    · refine (sleap_plus w0 g A c l has exp at_ until_ k y m d roll n w hS hB hg hl hz).mono ?_
      rintro e w' ⟨sv, rfl, h1, h2, h3⟩
      exact ⟨by rw [hz], fun _ => ⟨sv, h1⟩, h2, h3⟩
    · refine (sleap_plus_bad w0 g A c l has exp at_ until_ k y m d roll n w hS hB hg hl _ rfl hz).mono ?_
      rintro e w' ⟨rfl, h2, h3⟩
      exact ⟨rfl, fun h => absurd h hz, h2, h3⟩
  · have e : leapIn l has exp [45] 86399 n roll = (checkN (l ++ [⟨n, -1, roll⟩]) has exp).2 := by unfold leapIn; rw [hs, if_neg (by decide)]
    rw [e, hs]
    by_cases hz : (checkN (l ++ [⟨n, -1, roll⟩]) has exp).2 = 0
    · refine (sleap_minus w0 g A c l has exp at_ until_ k y m d roll n w hS hB hg hl hz).mono ?_
      rintro e w' ⟨sv, rfl, h1, h2, h3⟩
      exact ⟨by rw [hz], fun _ => ⟨sv, h1⟩, h2, h3⟩
    · refine (sleap_minus_bad w0 g A c l has exp at_ until_ k y m d roll n w hS hB hg hl _ rfl hz).mono ?_
      rintro e w' ⟨rfl, h2, h3⟩
      exact ⟨rfl, fun h => absurd h hz, h2, h3⟩
  · have e : leapIn l has exp sign sec n roll = 6 := by unfold leapIn; rw [hs, if_pos rfl]
    rw [e]
    refine (sleap_none sign sec g k y m d roll n w h1 h2).mono ?_
    rintro e w' ⟨rfl, hb⟩
    exact ⟨rfl, fun h => absurd h (by decide), hB.trans (hb.mono hB.size), KeepBut.of_below hb g none⟩
end Go.Proofs.YtodalfobehddmaaDoor.Y
namespace Go.Proofs.YtodalfobehddmaaDoor.Y
open Go.RowKit Go.Proofs.YtodalfobehddmaaDoorW.PrintWords Go.Proofs.YtodalfobehddmaaDoorW.PrintLast Go.Proofs.YtodalfobehddmaaDoor.Mx
open Go.Proofs.YtodalfobehddmaaDoor.Z
theorem numberN_range {y m d : Int} (h : validN y m d) : -719162 ≤ numberN y m d ∧ numberN y m d ≤ 2932896 := by
  obtain ⟨y0, y1, m0, m1, d0, d1⟩ := h
  have hl := lastN_range y m
  by_cases hm : m < 3
  · rw [number_early y m d m0 hm]
    omega
  · rw [number_march y m d (by omega)]
    by_cases h9 : y = 9999
    · subst h9
      by_cases h12 : m = 12
      · subst h12
        omega
      · omega
    · omega
theorem secondI_range {h m s r : Int} (h0 : secondI h m s = (r, true)) : 0 ≤ r ∧ r ≤ 86400 := by
  unfold secondI at h0
  split at h0
  · injection h0 with e _
    omega
  · split at h0
    · injection h0 with _ e
      cases e
    · injection h0 with e _
      omega
theorem clockL_range {x : List UInt8} (h : (clockL x).2 = true) : 0 ≤ (clockL x).1 ∧ (clockL x).1 ≤ 86400 := by
  have e : clockL x = ((clockL x).1, true) := by rw [← h]
  generalize (clockL x).1 = r at *
  unfold clockL at e
  split at e
  · injection e with _ e2
    cases e2
  · split at e
    · injection e with _ e2
      cases e2
    · split at e
      · exact secondI_range e
      · injection e with _ e2
        cases e2
theorem dateRow_sec {k : Int} {a b c x : List UInt8} {r : ZRow} (h : dateRow k a b c x = some r) : r.kind = k ∧ 0 ≤ r.sec ∧ r.sec ≤ 86400 := by
  unfold dateRow at h
  split at h
  · rename_i q
    obtain rfl := Option.some.inj h
    exact ⟨rfl, clockL_range q.2.2.2⟩
  · cases h
theorem readL_row {ws : List (List UInt8)} {r : ZRow} (h : readL ws = some r) : (r.kind = 0 ∨ r.kind = 1) ∧ 0 ≤ r.sec ∧ r.sec ≤ 86400 := by
  unfold readL at h
  split at h
  · split at h
    · obtain ⟨x, hx, rfl⟩ := Option.map_eq_some_iff.1 h
      have := dateRow_sec hx
      exact ⟨.inl this.1, this.2⟩
    · cases h
  · split at h
    · have := dateRow_sec h
      exact ⟨.inr this.1, this.2⟩
    · cases h
  · cases h
def lineStep (l : List S46) (has : Bool) (exp at_ until_ no : Int) (ws : List (List UInt8)) : Int × (List S46 × Int × Int) := match readL ws with
  | none => (2, (l, at_, until_))
  | some r =>
    if r.kind = 1 ∧ 0 < at_ then (2, (l, at_, until_))
    else if ¬ validN r.y r.m r.d then (9, (l, at_, until_))
    else if r.kind = 0 then (leapIn l has exp r.sign r.sec (numberN r.y r.m r.d) r.roll, (l ++ [⟨numberN r.y r.m r.d, stepOf r.sign r.sec, r.roll⟩], at_, until_))
    else if r.sec = 86400 then (9, (l, at_, until_)) else (0, (l, no, numberN r.y r.m r.d * 86400 + r.sec))
theorem read_calls (ws : List (List UInt8)) (h0 : ws ≠ []) (hs : ∀ x ∈ ws, x.length < 4294967281) : ∃ k y m d sec sign roll ok, ReadsTo ws k y m d sec sign roll ok ∧ ∀ (A : Option Addr) (c : Nat) (w : World), Kd.C Kd.string w A ws.length (ws.map mkB) → ws.length ≤ c →
    Calls Tryd.prog 57 #[.slice A ws.length c] w fun e w' => e = .returned (.tuple #[.agg #[.int .i64 k, .int .i64 y, .int .i64 m, .int .i64 d, .int .i64 sec, .string sign, .bool roll], .bool ok]) ∧ Below w.heap.size w w' := by
  cases ws with
  | nil => exact absurd rfl h0
  | cons a t =>
    obtain ⟨k, y, m, d, sec, sign, roll, ok, h1, h2⟩ := read_at a t hs
    refine ⟨k, y, m, d, sec, sign, roll, ok, h2, fun A c w hC hc => ?_⟩
    have h := Z.zic_read.calls 2 A c ((a :: t).map mkB) k y m d sec sign roll ok w (by rw [List.length_map]; exact hC) (by rw [List.length_map]; exact hc) h1
    rw [List.length_map] at h
    exact h
set_option maxHeartbeats 2000000 in
set_option maxRecDepth 100000 in
theorem sline_none (ws : List (List UInt8)) (h0 : ws ≠ []) (hs : ∀ x ∈ ws, x.length < 4294967281) (hr : readL ws = none) (g : Nat) (A : Option Addr) (c : Nat) (no : Int) (w : World) (hC : Kd.C Kd.string w A ws.length (ws.map mkB)) (hc : ws.length ≤ c) :
    Calls Tryd.prog 32 #[.pointer (some ⟨g, 0, none⟩), .int .i64 no, .slice A ws.length c] w fun e w' => e = .returned (.int .i64 2) ∧ Below w.heap.size w w' := by
  obtain ⟨k, y, m, d, sec, sign, roll, ok, h2, h1⟩ := read_calls ws h0 hs
  have hok : ok = false := by
    unfold ReadsTo at h2
    rw [hr] at h2
    exact h2
  subst hok
  have HRC := Aside0.mk (h1 A c w hC hc)
  clear h1 h2 hr hC h0 hs hc
  have hu98 := Tryd.underlying98
  obtain ⟨r1, r2, hn⟩ : ∃ r1 r2, day_Number.f y m d = some (r1, r2) := by
    unfold day_Number.f
    split
    · exact ⟨_, _, rfl⟩
    · exact ⟨_, _, rfl⟩
  have HN := Aside0.mk hn
  clear hn
  go_enter Tryd.func32, Tryd.ntmps32
  go_wp2_with (first | (go_at_call 57; (with_reducible refine HRC.out.mono ?_); rintro e w1 ⟨rfl, hb1⟩; have HB1 := Aside0.mk hb1; clear hb1) | (go_at_call 58; (with_reducible refine (day_Number.calls _ _ _ _ _ _ HN.out).mono ?_); rintro e w2 ⟨rfl, hb2⟩; have HB2 := Aside0.mk hb2; clear hb2))
  all_goals
    go_ret
    exact ⟨rfl, (HB1.out.alloc HB1.out.size _).trans (HB2.out.mono (by have := HB1.out.size; simp; omega))⟩
end Go.Proofs.YtodalfobehddmaaDoor.Y
namespace Go.Proofs.YtodalfobehddmaaDoor.Y
open Go.RowKit Go.Proofs.YtodalfobehddmaaDoorW.PrintWords Go.Proofs.YtodalfobehddmaaDoorW.PrintLast Go.Proofs.YtodalfobehddmaaDoor.Mx
open Go.Proofs.YtodalfobehddmaaDoor.Z
@[reducible] def Reads (A : Option Addr) (c n : Nat) (k y m d sec : Int) (sign : ByteArray) (roll : Bool) (w : World) : Prop :=
  Calls Tryd.prog 57 #[.slice A n c] w fun e w' => e = .returned (.tuple #[.agg #[.int .i64 k, .int .i64 y, .int .i64 m, .int .i64 d, .int .i64 sec, .string sign, .bool roll], .bool true]) ∧ Below w.heap.size w w'
theorem number_valid {y m d : Int} (h : validN y m d) : day_Number.f y m d = some (numberN y m d, true) := by unfold day_Number.f; rw [if_pos h]
theorem number_invalid {y m d : Int} (h : ¬ validN y m d) : day_Number.f y m d = some (0, false) := by unfold day_Number.f; rw [if_neg h]
set_option maxHeartbeats 2000000 in
set_option maxRecDepth 100000 in
theorem sline_twice (w0 : World) (g : Nat) (A : Option Addr) (c n : Nat) (sv : Value) (l : List S46) (has : Bool) (exp at_ until_ : Int) (no y m d sec : Int) (sign : ByteArray) (roll : Bool) (nn : Int) (w : World)
    (hS : Src w0 g sv l has exp at_ until_ w) (hB : Below w0.heap.size w0 w) (hg : w0.heap.size ≤ g) (hR : Reads A c n 1 y m d sec sign roll w) (hN : day_Number.f y m d = some (nn, true)) (ha : 0 < at_) :
    Calls Tryd.prog 32 #[.pointer (some ⟨g, 0, none⟩), .int .i64 no, .slice A n c] w fun e w' => e = .returned (.int .i64 2) ∧ Below w.heap.size w w' := by
  have hlt : g < w.heap.size := blk_lt hS.blk
  have hc3 : w.cell? ⟨g, 3, none⟩ = some (.int .i64 at_) := (blk_cell hS.blk 3).trans rfl
  have hc4 : w.cell? ⟨g, 4, none⟩ = some (.int .i64 until_) := (blk_cell hS.blk 4).trans rfl
  have hne : ¬ (g = w.heap.size) := by omega
  have hne2 : ¬ (w.heap.size = g) := by omega
  have HRC := Aside0.mk hR
  have HN := Aside0.mk hN
  have HS := Aside0.mk hS
  have HB := Aside0.mk hB
  have HG := Aside0.mk hg
  have HLT := Aside0.mk hlt
  have HC3 := Aside0.mk hc3
  have HC4 := Aside0.mk hc4
  clear hR hN hS hB hc3 hc4
  have hu98 := Tryd.underlying98
  have hu59 := Tryd.underlying59
  have hu24 := Tryd.underlying24
  go_enter Tryd.func32, Tryd.ntmps32
  go_wp2_with (first | (go_at_call 57; (with_reducible refine HRC.out.mono ?_); rintro e w1 ⟨rfl, hb1⟩; have HB1 := Aside0.mk hb1; have hz1 := HB1.out.size; have HQ := Aside0.mk (blk_new w1 (.cells #[.int .i64 1, .int .i64 y, .int .i64 m, .int .i64 d, .int .i64 sec, .string sign, .bool roll] 98 (0, 0))); have HB2 : Aside0 (Below w.heap.size w (w1.alloc (.cells #[.int .i64 1, .int .i64 y, .int .i64 m, .int .i64 d, .int .i64 sec, .string sign, .bool roll] 98 (0, 0)))) := ⟨HB1.out.alloc HB1.out.size _⟩; clear hb1) | (go_at_call 58; (with_reducible refine (day_Number.calls _ _ _ _ _ _ HN.out).mono ?_); rintro e w2 ⟨rfl, hb2⟩; have HB3 := Aside0.mk (HB2.out.trans (hb2.mono HB2.out.size)); have HQ2 := Aside0.mk (blk_below HQ.out hb2); have hk0 : w2.cell? ⟨w1.heap.size, 0, none⟩ = some (.int .i64 1) := (blk_cell HQ2.out 0).trans rfl; have hk1 : w2.cell? ⟨w1.heap.size, 1, none⟩ = some (.int .i64 y) := (blk_cell HQ2.out 1).trans rfl; have hk2 : w2.cell? ⟨w1.heap.size, 2, none⟩ = some (.int .i64 m) := (blk_cell HQ2.out 2).trans rfl; have hk23 : w2.cell? ⟨w1.heap.size, 3, none⟩ = some (.int .i64 d) := (blk_cell HQ2.out 3).trans rfl; have hk25 : w2.cell? ⟨w1.heap.size, 5, none⟩ = some (.string sign) := (blk_cell HQ2.out 5).trans rfl; have hk26 : w2.cell? ⟨w1.heap.size, 6, none⟩ = some (.bool roll) := (blk_cell HQ2.out 6).trans rfl; have hk4 : w2.cell? ⟨w1.heap.size, 4, none⟩ = some (.int .i64 sec) := (blk_cell HQ2.out 4).trans rfl; have hk3 : w2.cell? ⟨g, 3, none⟩ = some (.int .i64 at_) := (HB3.out.cell (p := ⟨g, 3, none⟩) HLT.out).trans HC3.out; have hk5 : w2.cell? ⟨g, 4, none⟩ = some (.int .i64 until_) := (HB3.out.cell (p := ⟨g, 4, none⟩) HLT.out).trans HC4.out; have hf3 : w2.frozen? ⟨g, 3, none⟩ = false := blk_frozen (blk_below HS.out.blk HB3.out) 3; have hf4 : w2.frozen? ⟨g, 4, none⟩ = false := blk_frozen (blk_below HS.out.blk HB3.out) 4; clear hb2))
  all_goals
    go_ret
    exact ⟨rfl, HB3.out⟩
set_option maxHeartbeats 2000000 in
set_option maxRecDepth 100000 in
theorem sline_twice2 (w0 : World) (g : Nat) (A : Option Addr) (c n : Nat) (sv : Value) (l : List S46) (has : Bool) (exp at_ until_ : Int) (no y m d sec : Int) (sign : ByteArray) (roll : Bool) (nn : Int) (w : World)
    (hS : Src w0 g sv l has exp at_ until_ w) (hB : Below w0.heap.size w0 w) (hg : w0.heap.size ≤ g) (hR : Reads A c n 1 y m d sec sign roll w) (hN : day_Number.f y m d = some (nn, false)) (ha : 0 < at_) :
    Calls Tryd.prog 32 #[.pointer (some ⟨g, 0, none⟩), .int .i64 no, .slice A n c] w fun e w' => e = .returned (.int .i64 2) ∧ Below w.heap.size w w' := by
  have hlt : g < w.heap.size := blk_lt hS.blk
  have hc3 : w.cell? ⟨g, 3, none⟩ = some (.int .i64 at_) := (blk_cell hS.blk 3).trans rfl
  have hc4 : w.cell? ⟨g, 4, none⟩ = some (.int .i64 until_) := (blk_cell hS.blk 4).trans rfl
  have hne : ¬ (g = w.heap.size) := by omega
  have hne2 : ¬ (w.heap.size = g) := by omega
  have HRC := Aside0.mk hR
  have HN := Aside0.mk hN
  have HS := Aside0.mk hS
  have HB := Aside0.mk hB
  have HG := Aside0.mk hg
  have HLT := Aside0.mk hlt
  have HC3 := Aside0.mk hc3
  have HC4 := Aside0.mk hc4
  clear hR hN hS hB hc3 hc4
  have hu98 := Tryd.underlying98
  have hu59 := Tryd.underlying59
  have hu24 := Tryd.underlying24
  go_enter Tryd.func32, Tryd.ntmps32
  go_wp2_with (first | (go_at_call 57; (with_reducible refine HRC.out.mono ?_); rintro e w1 ⟨rfl, hb1⟩; have HB1 := Aside0.mk hb1; have hz1 := HB1.out.size; have HQ := Aside0.mk (blk_new w1 (.cells #[.int .i64 1, .int .i64 y, .int .i64 m, .int .i64 d, .int .i64 sec, .string sign, .bool roll] 98 (0, 0))); have HB2 : Aside0 (Below w.heap.size w (w1.alloc (.cells #[.int .i64 1, .int .i64 y, .int .i64 m, .int .i64 d, .int .i64 sec, .string sign, .bool roll] 98 (0, 0)))) := ⟨HB1.out.alloc HB1.out.size _⟩; clear hb1) | (go_at_call 58; (with_reducible refine (day_Number.calls _ _ _ _ _ _ HN.out).mono ?_); rintro e w2 ⟨rfl, hb2⟩; have HB3 := Aside0.mk (HB2.out.trans (hb2.mono HB2.out.size)); have HQ2 := Aside0.mk (blk_below HQ.out hb2); have hk0 : w2.cell? ⟨w1.heap.size, 0, none⟩ = some (.int .i64 1) := (blk_cell HQ2.out 0).trans rfl; have hk1 : w2.cell? ⟨w1.heap.size, 1, none⟩ = some (.int .i64 y) := (blk_cell HQ2.out 1).trans rfl; have hk2 : w2.cell? ⟨w1.heap.size, 2, none⟩ = some (.int .i64 m) := (blk_cell HQ2.out 2).trans rfl; have hk23 : w2.cell? ⟨w1.heap.size, 3, none⟩ = some (.int .i64 d) := (blk_cell HQ2.out 3).trans rfl; have hk25 : w2.cell? ⟨w1.heap.size, 5, none⟩ = some (.string sign) := (blk_cell HQ2.out 5).trans rfl; have hk26 : w2.cell? ⟨w1.heap.size, 6, none⟩ = some (.bool roll) := (blk_cell HQ2.out 6).trans rfl; have hk4 : w2.cell? ⟨w1.heap.size, 4, none⟩ = some (.int .i64 sec) := (blk_cell HQ2.out 4).trans rfl; have hk3 : w2.cell? ⟨g, 3, none⟩ = some (.int .i64 at_) := (HB3.out.cell (p := ⟨g, 3, none⟩) HLT.out).trans HC3.out; have hk5 : w2.cell? ⟨g, 4, none⟩ = some (.int .i64 until_) := (HB3.out.cell (p := ⟨g, 4, none⟩) HLT.out).trans HC4.out; have hf3 : w2.frozen? ⟨g, 3, none⟩ = false := blk_frozen (blk_below HS.out.blk HB3.out) 3; have hf4 : w2.frozen? ⟨g, 4, none⟩ = false := blk_frozen (blk_below HS.out.blk HB3.out) 4; clear hb2))
  all_goals
    go_ret
    exact ⟨rfl, HB3.out⟩
set_option maxHeartbeats 2000000 in
set_option maxRecDepth 100000 in
theorem sline_bad1 (w0 : World) (g : Nat) (A : Option Addr) (c n : Nat) (sv : Value) (l : List S46) (has : Bool) (exp at_ until_ : Int) (no y m d sec : Int) (sign : ByteArray) (roll : Bool) (nn : Int) (w : World)
    (hS : Src w0 g sv l has exp at_ until_ w) (hB : Below w0.heap.size w0 w) (hg : w0.heap.size ≤ g) (hR : Reads A c n 1 y m d sec sign roll w) (hN : day_Number.f y m d = some (nn, false)) (ha : ¬ (0 < at_)) :
    Calls Tryd.prog 32 #[.pointer (some ⟨g, 0, none⟩), .int .i64 no, .slice A n c] w fun e w' => e = .returned (.int .i64 9) ∧ Below w.heap.size w w' := by
  have hlt : g < w.heap.size := blk_lt hS.blk
  have hc3 : w.cell? ⟨g, 3, none⟩ = some (.int .i64 at_) := (blk_cell hS.blk 3).trans rfl
  have hc4 : w.cell? ⟨g, 4, none⟩ = some (.int .i64 until_) := (blk_cell hS.blk 4).trans rfl
  have hne : ¬ (g = w.heap.size) := by omega
  have hne2 : ¬ (w.heap.size = g) := by omega
  have HRC := Aside0.mk hR
  have HN := Aside0.mk hN
  have HS := Aside0.mk hS
  have HB := Aside0.mk hB
  have HG := Aside0.mk hg
  have HLT := Aside0.mk hlt
  have HC3 := Aside0.mk hc3
  have HC4 := Aside0.mk hc4
  clear hR hN hS hB hc3 hc4
  have hu98 := Tryd.underlying98
  have hu59 := Tryd.underlying59
  have hu24 := Tryd.underlying24
  go_enter Tryd.func32, Tryd.ntmps32
  go_wp2_with (first | (go_at_call 57; (with_reducible refine HRC.out.mono ?_); rintro e w1 ⟨rfl, hb1⟩; have HB1 := Aside0.mk hb1; have hz1 := HB1.out.size; have HQ := Aside0.mk (blk_new w1 (.cells #[.int .i64 1, .int .i64 y, .int .i64 m, .int .i64 d, .int .i64 sec, .string sign, .bool roll] 98 (0, 0))); have HB2 : Aside0 (Below w.heap.size w (w1.alloc (.cells #[.int .i64 1, .int .i64 y, .int .i64 m, .int .i64 d, .int .i64 sec, .string sign, .bool roll] 98 (0, 0)))) := ⟨HB1.out.alloc HB1.out.size _⟩; clear hb1) | (go_at_call 58; (with_reducible refine (day_Number.calls _ _ _ _ _ _ HN.out).mono ?_); rintro e w2 ⟨rfl, hb2⟩; have HB3 := Aside0.mk (HB2.out.trans (hb2.mono HB2.out.size)); have HQ2 := Aside0.mk (blk_below HQ.out hb2); have hk0 : w2.cell? ⟨w1.heap.size, 0, none⟩ = some (.int .i64 1) := (blk_cell HQ2.out 0).trans rfl; have hk1 : w2.cell? ⟨w1.heap.size, 1, none⟩ = some (.int .i64 y) := (blk_cell HQ2.out 1).trans rfl; have hk2 : w2.cell? ⟨w1.heap.size, 2, none⟩ = some (.int .i64 m) := (blk_cell HQ2.out 2).trans rfl; have hk23 : w2.cell? ⟨w1.heap.size, 3, none⟩ = some (.int .i64 d) := (blk_cell HQ2.out 3).trans rfl; have hk25 : w2.cell? ⟨w1.heap.size, 5, none⟩ = some (.string sign) := (blk_cell HQ2.out 5).trans rfl; have hk26 : w2.cell? ⟨w1.heap.size, 6, none⟩ = some (.bool roll) := (blk_cell HQ2.out 6).trans rfl; have hk4 : w2.cell? ⟨w1.heap.size, 4, none⟩ = some (.int .i64 sec) := (blk_cell HQ2.out 4).trans rfl; have hk3 : w2.cell? ⟨g, 3, none⟩ = some (.int .i64 at_) := (HB3.out.cell (p := ⟨g, 3, none⟩) HLT.out).trans HC3.out; have hk5 : w2.cell? ⟨g, 4, none⟩ = some (.int .i64 until_) := (HB3.out.cell (p := ⟨g, 4, none⟩) HLT.out).trans HC4.out; have hf3 : w2.frozen? ⟨g, 3, none⟩ = false := blk_frozen (blk_below HS.out.blk HB3.out) 3; have hf4 : w2.frozen? ⟨g, 4, none⟩ = false := blk_frozen (blk_below HS.out.blk HB3.out) 4; clear hb2))
  all_goals
    go_ret
    exact ⟨rfl, HB3.out⟩
set_option maxHeartbeats 2000000 in
set_option maxRecDepth 100000 in
theorem sline_bad0 (w0 : World) (g : Nat) (A : Option Addr) (c n : Nat) (sv : Value) (l : List S46) (has : Bool) (exp at_ until_ : Int) (no y m d sec : Int) (sign : ByteArray) (roll : Bool) (nn : Int) (w : World)
    (hS : Src w0 g sv l has exp at_ until_ w) (hB : Below w0.heap.size w0 w) (hg : w0.heap.size ≤ g) (hR : Reads A c n 0 y m d sec sign roll w) (hN : day_Number.f y m d = some (nn, false)) :
    Calls Tryd.prog 32 #[.pointer (some ⟨g, 0, none⟩), .int .i64 no, .slice A n c] w fun e w' => e = .returned (.int .i64 9) ∧ Below w.heap.size w w' := by
  have hlt : g < w.heap.size := blk_lt hS.blk
  have hc3 : w.cell? ⟨g, 3, none⟩ = some (.int .i64 at_) := (blk_cell hS.blk 3).trans rfl
  have hc4 : w.cell? ⟨g, 4, none⟩ = some (.int .i64 until_) := (blk_cell hS.blk 4).trans rfl
  have hne : ¬ (g = w.heap.size) := by omega
  have hne2 : ¬ (w.heap.size = g) := by omega
  have HRC := Aside0.mk hR
  have HN := Aside0.mk hN
  have HS := Aside0.mk hS
  have HB := Aside0.mk hB
  have HG := Aside0.mk hg
  have HLT := Aside0.mk hlt
  have HC3 := Aside0.mk hc3
  have HC4 := Aside0.mk hc4
  clear hR hN hS hB hc3 hc4
  have hu98 := Tryd.underlying98
  have hu59 := Tryd.underlying59
  have hu24 := Tryd.underlying24
  go_enter Tryd.func32, Tryd.ntmps32
  go_wp2_with (first | (go_at_call 57; (with_reducible refine HRC.out.mono ?_); rintro e w1 ⟨rfl, hb1⟩; have HB1 := Aside0.mk hb1; have hz1 := HB1.out.size; have HQ := Aside0.mk (blk_new w1 (.cells #[.int .i64 0, .int .i64 y, .int .i64 m, .int .i64 d, .int .i64 sec, .string sign, .bool roll] 98 (0, 0))); have HB2 : Aside0 (Below w.heap.size w (w1.alloc (.cells #[.int .i64 0, .int .i64 y, .int .i64 m, .int .i64 d, .int .i64 sec, .string sign, .bool roll] 98 (0, 0)))) := ⟨HB1.out.alloc HB1.out.size _⟩; clear hb1) | (go_at_call 58; (with_reducible refine (day_Number.calls _ _ _ _ _ _ HN.out).mono ?_); rintro e w2 ⟨rfl, hb2⟩; have HB3 := Aside0.mk (HB2.out.trans (hb2.mono HB2.out.size)); have HQ2 := Aside0.mk (blk_below HQ.out hb2); have hk0 : w2.cell? ⟨w1.heap.size, 0, none⟩ = some (.int .i64 0) := (blk_cell HQ2.out 0).trans rfl; have hk1 : w2.cell? ⟨w1.heap.size, 1, none⟩ = some (.int .i64 y) := (blk_cell HQ2.out 1).trans rfl; have hk2 : w2.cell? ⟨w1.heap.size, 2, none⟩ = some (.int .i64 m) := (blk_cell HQ2.out 2).trans rfl; have hk23 : w2.cell? ⟨w1.heap.size, 3, none⟩ = some (.int .i64 d) := (blk_cell HQ2.out 3).trans rfl; have hk25 : w2.cell? ⟨w1.heap.size, 5, none⟩ = some (.string sign) := (blk_cell HQ2.out 5).trans rfl; have hk26 : w2.cell? ⟨w1.heap.size, 6, none⟩ = some (.bool roll) := (blk_cell HQ2.out 6).trans rfl; have hk4 : w2.cell? ⟨w1.heap.size, 4, none⟩ = some (.int .i64 sec) := (blk_cell HQ2.out 4).trans rfl; have hk3 : w2.cell? ⟨g, 3, none⟩ = some (.int .i64 at_) := (HB3.out.cell (p := ⟨g, 3, none⟩) HLT.out).trans HC3.out; have hk5 : w2.cell? ⟨g, 4, none⟩ = some (.int .i64 until_) := (HB3.out.cell (p := ⟨g, 4, none⟩) HLT.out).trans HC4.out; have hf3 : w2.frozen? ⟨g, 3, none⟩ = false := blk_frozen (blk_below HS.out.blk HB3.out) 3; have hf4 : w2.frozen? ⟨g, 4, none⟩ = false := blk_frozen (blk_below HS.out.blk HB3.out) 4; clear hb2))
  all_goals
    go_ret
    exact ⟨rfl, HB3.out⟩
set_option maxHeartbeats 2000000 in
set_option maxRecDepth 100000 in
theorem sline_over (w0 : World) (g : Nat) (A : Option Addr) (c n : Nat) (sv : Value) (l : List S46) (has : Bool) (exp at_ until_ : Int) (no y m d sec : Int) (sign : ByteArray) (roll : Bool) (nn : Int) (w : World)
    (hS : Src w0 g sv l has exp at_ until_ w) (hB : Below w0.heap.size w0 w) (hg : w0.heap.size ≤ g) (hR : Reads A c n 1 y m d sec sign roll w) (hN : day_Number.f y m d = some (nn, true)) (ha : ¬ (0 < at_)) (h6 : sec = 86400) :
    Calls Tryd.prog 32 #[.pointer (some ⟨g, 0, none⟩), .int .i64 no, .slice A n c] w fun e w' => e = .returned (.int .i64 9) ∧ Below w.heap.size w w' := by
  have hlt : g < w.heap.size := blk_lt hS.blk
  have hc3 : w.cell? ⟨g, 3, none⟩ = some (.int .i64 at_) := (blk_cell hS.blk 3).trans rfl
  have hc4 : w.cell? ⟨g, 4, none⟩ = some (.int .i64 until_) := (blk_cell hS.blk 4).trans rfl
  have hne : ¬ (g = w.heap.size) := by omega
  have hne2 : ¬ (w.heap.size = g) := by omega
  have HRC := Aside0.mk hR
  have HN := Aside0.mk hN
  have HS := Aside0.mk hS
  have HB := Aside0.mk hB
  have HG := Aside0.mk hg
  have HLT := Aside0.mk hlt
  have HC3 := Aside0.mk hc3
  have HC4 := Aside0.mk hc4
  have hs6 : (sec == 86400) = true := by rw [h6]; rfl
  clear h6
  clear hR hN hS hB hc3 hc4
  have hu98 := Tryd.underlying98
  have hu59 := Tryd.underlying59
  have hu24 := Tryd.underlying24
  go_enter Tryd.func32, Tryd.ntmps32
  go_wp2_with (first | (go_at_call 57; (with_reducible refine HRC.out.mono ?_); rintro e w1 ⟨rfl, hb1⟩; have HB1 := Aside0.mk hb1; have hz1 := HB1.out.size; have HQ := Aside0.mk (blk_new w1 (.cells #[.int .i64 1, .int .i64 y, .int .i64 m, .int .i64 d, .int .i64 sec, .string sign, .bool roll] 98 (0, 0))); have HB2 : Aside0 (Below w.heap.size w (w1.alloc (.cells #[.int .i64 1, .int .i64 y, .int .i64 m, .int .i64 d, .int .i64 sec, .string sign, .bool roll] 98 (0, 0)))) := ⟨HB1.out.alloc HB1.out.size _⟩; clear hb1) | (go_at_call 58; (with_reducible refine (day_Number.calls _ _ _ _ _ _ HN.out).mono ?_); rintro e w2 ⟨rfl, hb2⟩; have HB3 := Aside0.mk (HB2.out.trans (hb2.mono HB2.out.size)); have HQ2 := Aside0.mk (blk_below HQ.out hb2); have hk0 : w2.cell? ⟨w1.heap.size, 0, none⟩ = some (.int .i64 1) := (blk_cell HQ2.out 0).trans rfl; have hk1 : w2.cell? ⟨w1.heap.size, 1, none⟩ = some (.int .i64 y) := (blk_cell HQ2.out 1).trans rfl; have hk2 : w2.cell? ⟨w1.heap.size, 2, none⟩ = some (.int .i64 m) := (blk_cell HQ2.out 2).trans rfl; have hk23 : w2.cell? ⟨w1.heap.size, 3, none⟩ = some (.int .i64 d) := (blk_cell HQ2.out 3).trans rfl; have hk25 : w2.cell? ⟨w1.heap.size, 5, none⟩ = some (.string sign) := (blk_cell HQ2.out 5).trans rfl; have hk26 : w2.cell? ⟨w1.heap.size, 6, none⟩ = some (.bool roll) := (blk_cell HQ2.out 6).trans rfl; have hk4 : w2.cell? ⟨w1.heap.size, 4, none⟩ = some (.int .i64 sec) := (blk_cell HQ2.out 4).trans rfl; have hk3 : w2.cell? ⟨g, 3, none⟩ = some (.int .i64 at_) := (HB3.out.cell (p := ⟨g, 3, none⟩) HLT.out).trans HC3.out; have hk5 : w2.cell? ⟨g, 4, none⟩ = some (.int .i64 until_) := (HB3.out.cell (p := ⟨g, 4, none⟩) HLT.out).trans HC4.out; have hf3 : w2.frozen? ⟨g, 3, none⟩ = false := blk_frozen (blk_below HS.out.blk HB3.out) 3; have hf4 : w2.frozen? ⟨g, 4, none⟩ = false := blk_frozen (blk_below HS.out.blk HB3.out) 4; clear hb2))
  all_goals
    go_ret
    exact ⟨rfl, HB3.out⟩
set_option maxHeartbeats 2000000 in
set_option maxRecDepth 100000 in
theorem sline_leap (w0 : World) (g : Nat) (A : Option Addr) (c n : Nat) (As : Option Addr) (cs : Nat) (l : List S46) (has : Bool) (exp at_ until_ : Int) (no y m d sec : Int) (sign : ByteArray) (roll : Bool) (nn : Int) (w : World)
    (hS : Src w0 g (.slice As l.length cs) l has exp at_ until_ w) (hB : Below w0.heap.size w0 w) (hg : w0.heap.size ≤ g) (hR : Reads A c n 0 y m d sec sign roll w) (hN : day_Number.f y m d = some (nn, true)) (hl : l.length ≤ 1000000000000) :
    Calls Tryd.prog 32 #[.pointer (some ⟨g, 0, none⟩), .int .i64 no, .slice A n c] w fun e w' => e = .returned (.int .i64 (leapIn l has exp sign.data.toList sec nn roll)) ∧ (leapIn l has exp sign.data.toList sec nn roll = 0 → ∃ sv, Src w0 g sv (l ++ [⟨nn, stepOf sign.data.toList sec, roll⟩]) has exp at_ until_ w') ∧ Below w0.heap.size w0 w' ∧ KeepBut w w' g none := by
  have hlt : g < w.heap.size := blk_lt hS.blk
  have hc3 : w.cell? ⟨g, 3, none⟩ = some (.int .i64 at_) := (blk_cell hS.blk 3).trans rfl
  have hc4 : w.cell? ⟨g, 4, none⟩ = some (.int .i64 until_) := (blk_cell hS.blk 4).trans rfl
  have hne : ¬ (g = w.heap.size) := by omega
  have hne2 : ¬ (w.heap.size = g) := by omega
  have HRC := Aside0.mk hR
  have HN := Aside0.mk hN
  have HS := Aside0.mk hS
  have HB := Aside0.mk hB
  have HG := Aside0.mk hg
  have HLT := Aside0.mk hlt
  have HC3 := Aside0.mk hc3
  have HC4 := Aside0.mk hc4
  have HP := Aside0.mk (fun (w2 : World) (hS2 : Src w0 g (.slice As l.length cs) l has exp at_ until_ w2) (hB2 : Below w0.heap.size w0 w2) => (by have h := sleap_any sign.data.toList sec w0 g As cs l has exp at_ until_ 0 y m d roll nn w2 hS2 hB2 hg hl; rw [show mkB sign.data.toList = sign from rfl] at h; exact h : Calls Tryd.prog 59 #[.pointer (some ⟨g, 0, none⟩), .agg #[.int .i64 0, .int .i64 y, .int .i64 m, .int .i64 d, .int .i64 sec, .string sign, .bool roll], .int .i64 nn] w2 _))
  clear hR hN hS hB hc3 hc4
  have hu98 := Tryd.underlying98
  have hu59 := Tryd.underlying59
  have hu24 := Tryd.underlying24
  go_enter Tryd.func32, Tryd.ntmps32
  go_wp2_with (first | (go_at_call 57; (with_reducible refine HRC.out.mono ?_); rintro e w1 ⟨rfl, hb1⟩; have HB1 := Aside0.mk hb1; have hz1 := HB1.out.size; have HQ := Aside0.mk (blk_new w1 (.cells #[.int .i64 0, .int .i64 y, .int .i64 m, .int .i64 d, .int .i64 sec, .string sign, .bool roll] 98 (0, 0))); have HB2 : Aside0 (Below w.heap.size w (w1.alloc (.cells #[.int .i64 0, .int .i64 y, .int .i64 m, .int .i64 d, .int .i64 sec, .string sign, .bool roll] 98 (0, 0)))) := ⟨HB1.out.alloc HB1.out.size _⟩; clear hb1) | (go_at_call 58; (with_reducible refine (day_Number.calls _ _ _ _ _ _ HN.out).mono ?_); rintro e w2 ⟨rfl, hb2⟩; have HB3 := Aside0.mk (HB2.out.trans (hb2.mono HB2.out.size)); have HQ2 := Aside0.mk (blk_below HQ.out hb2); have hk0 : w2.cell? ⟨w1.heap.size, 0, none⟩ = some (.int .i64 0) := (blk_cell HQ2.out 0).trans rfl; have hk1 : w2.cell? ⟨w1.heap.size, 1, none⟩ = some (.int .i64 y) := (blk_cell HQ2.out 1).trans rfl; have hk2 : w2.cell? ⟨w1.heap.size, 2, none⟩ = some (.int .i64 m) := (blk_cell HQ2.out 2).trans rfl; have hk23 : w2.cell? ⟨w1.heap.size, 3, none⟩ = some (.int .i64 d) := (blk_cell HQ2.out 3).trans rfl; have hk25 : w2.cell? ⟨w1.heap.size, 5, none⟩ = some (.string sign) := (blk_cell HQ2.out 5).trans rfl; have hk26 : w2.cell? ⟨w1.heap.size, 6, none⟩ = some (.bool roll) := (blk_cell HQ2.out 6).trans rfl; have hk4 : w2.cell? ⟨w1.heap.size, 4, none⟩ = some (.int .i64 sec) := (blk_cell HQ2.out 4).trans rfl; have hk3 : w2.cell? ⟨g, 3, none⟩ = some (.int .i64 at_) := (HB3.out.cell (p := ⟨g, 3, none⟩) HLT.out).trans HC3.out; have hk5 : w2.cell? ⟨g, 4, none⟩ = some (.int .i64 until_) := (HB3.out.cell (p := ⟨g, 4, none⟩) HLT.out).trans HC4.out; have hf3 : w2.frozen? ⟨g, 3, none⟩ = false := blk_frozen (blk_below HS.out.blk HB3.out) 3; have hf4 : w2.frozen? ⟨g, 4, none⟩ = false := blk_frozen (blk_below HS.out.blk HB3.out) 4; clear hb2) | (go_at_call 59; (with_reducible refine (HP.out _ ⟨blk_below HS.out.blk HB3.out, Kd.R_below HS.out.row HB3.out⟩ (HB.out.trans (HB3.out.mono HB.out.size))).mono ?_); rintro e w3 ⟨rfl, hk2, hk3, hk4⟩; have HK2 := Aside0.mk hk2; have HK3 := Aside0.mk hk3; have HK4 := Aside0.mk hk4; clear hk2 hk3 hk4))
  all_goals
    go_ret
    exact ⟨rfl, HK2.out, HK3.out, (KeepBut.of_below HB3.out g none).trans HK4.out (.inl rfl)⟩
set_option maxHeartbeats 2000000 in
set_option maxRecDepth 100000 in
theorem sline_expires (w0 : World) (g : Nat) (A : Option Addr) (c n : Nat) (sv : Value) (l : List S46) (has : Bool) (exp at_ until_ : Int) (no y m d sec : Int) (sign : ByteArray) (roll : Bool) (nn : Int) (w : World)
    (hS : Src w0 g sv l has exp at_ until_ w) (hB : Below w0.heap.size w0 w) (hg : w0.heap.size ≤ g) (hR : Reads A c n 1 y m d sec sign roll w) (hN : day_Number.f y m d = some (nn, true)) (ha : ¬ (0 < at_)) (h6 : sec ≠ 86400) (hn0 : -719162 ≤ nn) (hn1 : nn ≤ 2932896) (hs0 : 0 ≤ sec) (hs1 : sec ≤ 86400) :
    Calls Tryd.prog 32 #[.pointer (some ⟨g, 0, none⟩), .int .i64 no, .slice A n c] w fun e w' => e = .returned (.int .i64 0) ∧ Src w0 g sv l has exp no (nn * 86400 + sec) w' ∧ Below w0.heap.size w0 w' ∧ KeepBut w w' g none := by
  have hlt : g < w.heap.size := blk_lt hS.blk
  have hc3 : w.cell? ⟨g, 3, none⟩ = some (.int .i64 at_) := (blk_cell hS.blk 3).trans rfl
  have hc4 : w.cell? ⟨g, 4, none⟩ = some (.int .i64 until_) := (blk_cell hS.blk 4).trans rfl
  have hne : ¬ (g = w.heap.size) := by omega
  have hne2 : ¬ (w.heap.size = g) := by omega
  have HRC := Aside0.mk hR
  have HN := Aside0.mk hN
  have HS := Aside0.mk hS
  have HB := Aside0.mk hB
  have HG := Aside0.mk hg
  have HLT := Aside0.mk hlt
  have HC3 := Aside0.mk hc3
  have HC4 := Aside0.mk hc4
  have hs6 : (sec == 86400) = false := beq_eq_false_iff_ne.2 h6
  clear h6
  clear hR hN hS hB hc3 hc4
  have hu98 := Tryd.underlying98
  have hu59 := Tryd.underlying59
  have hu24 := Tryd.underlying24
  go_enter Tryd.func32, Tryd.ntmps32
  go_wp2_with (first | (go_at_call 57; (with_reducible refine HRC.out.mono ?_); rintro e w1 ⟨rfl, hb1⟩; have HB1 := Aside0.mk hb1; have hz1 := HB1.out.size; have HQ := Aside0.mk (blk_new w1 (.cells #[.int .i64 1, .int .i64 y, .int .i64 m, .int .i64 d, .int .i64 sec, .string sign, .bool roll] 98 (0, 0))); have HB2 : Aside0 (Below w.heap.size w (w1.alloc (.cells #[.int .i64 1, .int .i64 y, .int .i64 m, .int .i64 d, .int .i64 sec, .string sign, .bool roll] 98 (0, 0)))) := ⟨HB1.out.alloc HB1.out.size _⟩; clear hb1) | (go_at_call 58; (with_reducible refine (day_Number.calls _ _ _ _ _ _ HN.out).mono ?_); rintro e w2 ⟨rfl, hb2⟩; have HB3 := Aside0.mk (HB2.out.trans (hb2.mono HB2.out.size)); have HQ2 := Aside0.mk (blk_below HQ.out hb2); have hk0 : w2.cell? ⟨w1.heap.size, 0, none⟩ = some (.int .i64 1) := (blk_cell HQ2.out 0).trans rfl; have hk1 : w2.cell? ⟨w1.heap.size, 1, none⟩ = some (.int .i64 y) := (blk_cell HQ2.out 1).trans rfl; have hk2 : w2.cell? ⟨w1.heap.size, 2, none⟩ = some (.int .i64 m) := (blk_cell HQ2.out 2).trans rfl; have hk23 : w2.cell? ⟨w1.heap.size, 3, none⟩ = some (.int .i64 d) := (blk_cell HQ2.out 3).trans rfl; have hk25 : w2.cell? ⟨w1.heap.size, 5, none⟩ = some (.string sign) := (blk_cell HQ2.out 5).trans rfl; have hk26 : w2.cell? ⟨w1.heap.size, 6, none⟩ = some (.bool roll) := (blk_cell HQ2.out 6).trans rfl; have hk4 : w2.cell? ⟨w1.heap.size, 4, none⟩ = some (.int .i64 sec) := (blk_cell HQ2.out 4).trans rfl; have hk3 : w2.cell? ⟨g, 3, none⟩ = some (.int .i64 at_) := (HB3.out.cell (p := ⟨g, 3, none⟩) HLT.out).trans HC3.out; have hk5 : w2.cell? ⟨g, 4, none⟩ = some (.int .i64 until_) := (HB3.out.cell (p := ⟨g, 4, none⟩) HLT.out).trans HC4.out; have hf3 : w2.frozen? ⟨g, 3, none⟩ = false := blk_frozen (blk_below HS.out.blk HB3.out) 3; have hf4 : w2.frozen? ⟨g, 4, none⟩ = false := blk_frozen (blk_below HS.out.blk HB3.out) 4; clear hb2))
  have hm1 : -9223372036854775808 ≤ nn * 86400 := by omega
  have hm2 : nn * 86400 ≤ 9223372036854775807 := by omega
  have hm3 : -9223372036854775808 ≤ nn * 86400 + sec := by omega
  have hm4 : nn * 86400 + sec ≤ 9223372036854775807 := by omega
  go_region
  all_goals
    go_wp2_with fail
    go_ret
    have hb3 := blk_below HS.out.blk HB3.out
    exact ⟨rfl, ⟨blk_put (blk_put hb3 3 _ rfl) 4 _ rfl, Kd.R_drew (Kd.R_far (p := ⟨g, 4, none⟩) (Kd.R_far (p := ⟨g, 3, none⟩) (Kd.R_below HS.out.row HB3.out) (fun _ hk => hk) _) (fun _ hk => hk) _)⟩, (((HB.out.trans (HB3.out.mono HB.out.size)).setCell HG.out _).setCell HG.out _).drew, ((KeepBut.of_below HB3.out g none).set_ 3 _).set_ 4 _⟩
theorem sline_any (ws : List (List UInt8)) (h0 : ws ≠ []) (hs : ∀ x ∈ ws, x.length < 4294967281) (w0 : World) (g : Nat) (A : Option Addr) (c : Nat) (sv : Value) (l : List S46) (has : Bool) (exp at_ until_ : Int) (no : Int) (w : World)
    (hS : Src w0 g sv l has exp at_ until_ w) (hB : Below w0.heap.size w0 w) (hg : w0.heap.size ≤ g) (hl : l.length ≤ 1000000000000) (hC : Kd.C Kd.string w A ws.length (ws.map mkB)) (hc : ws.length ≤ c) :
    Calls Tryd.prog 32 #[.pointer (some ⟨g, 0, none⟩), .int .i64 no, .slice A ws.length c] w fun e w' =>
      e = .returned (.int .i64 (lineStep l has exp at_ until_ no ws).1) ∧ ((lineStep l has exp at_ until_ no ws).1 = 0 → ∃ sv, Src w0 g sv (lineStep l has exp at_ until_ no ws).2.1 has exp (lineStep l has exp at_ until_ no ws).2.2.1 (lineStep l has exp at_ until_ no ws).2.2.2 w') ∧ Below w0.heap.size w0 w' ∧ KeepBut w w' g none := by
  cases hr : readL ws with
  | none =>
    have e : lineStep l has exp at_ until_ no ws = (2, (l, at_, until_)) := by unfold lineStep; rw [hr]
    rw [e]
    refine (sline_none ws h0 hs hr g A c no w hC hc).mono ?_
    rintro e w' ⟨rfl, hb⟩
    exact ⟨rfl, fun h => absurd h (by show ¬ ((2 : Int) = 0); decide), hB.trans (hb.mono hB.size), KeepBut.of_below hb g none⟩
  | some r =>
    obtain ⟨k, y, m, d, sec, sign, roll, ok, h2, h1⟩ := read_calls ws h0 hs
    have hrd := h1 A c w hC hc
    clear h1
    unfold ReadsTo at h2
    rw [hr] at h2
    obtain ⟨rfl, rfl, rfl, rfl, rfl, rfl, rfl, rfl⟩ := h2
    have hrow := readL_row hr
    obtain ⟨kd, y, m, d, sec, sg, roll⟩ := r
    simp only at hrow hrd
    obtain ⟨hk, hs0, hs1⟩ := hrow
    have hrd' : Reads A c ws.length kd y m d sec (mkB sg) roll w := hrd
    have fin : ∀ (x : Int), x ≠ 0 → lineStep l has exp at_ until_ no ws = (x, (l, at_, until_)) → Calls Tryd.prog 32 #[.pointer (some ⟨g, 0, none⟩), .int .i64 no, .slice A ws.length c] w (fun e w' => e = .returned (.int .i64 x) ∧ Below w.heap.size w w') → Calls Tryd.prog 32 #[.pointer (some ⟨g, 0, none⟩), .int .i64 no, .slice A ws.length c] w fun e w' =>
      e = .returned (.int .i64 (lineStep l has exp at_ until_ no ws).1) ∧ ((lineStep l has exp at_ until_ no ws).1 = 0 → ∃ sv, Src w0 g sv (lineStep l has exp at_ until_ no ws).2.1 has exp (lineStep l has exp at_ until_ no ws).2.2.1 (lineStep l has exp at_ until_ no ws).2.2.2 w') ∧ Below w0.heap.size w0 w' ∧ KeepBut w w' g none := by
      intro x hx e h
      rw [e]
      refine h.mono ?_
      rintro e w' ⟨rfl, hb⟩
      exact ⟨rfl, fun h => absurd h hx, hB.trans (hb.mono hB.size), KeepBut.of_below hb g none⟩
    by_cases hv : validN y m d
    · have hN := number_valid hv
      have hnr := numberN_range hv
      rcases hk with rfl | rfl
      · obtain ⟨As, cs, rfl⟩ := Kd.R_slice hS.row
        have e : lineStep l has exp at_ until_ no ws = (leapIn l has exp sg sec (numberN y m d) roll, (l ++ [⟨numberN y m d, stepOf sg sec, roll⟩], at_, until_)) := by
          unfold lineStep; rw [hr]; simp only; rw [if_neg (by intro h; exact absurd h.1 (by decide)), if_neg (by exact fun h => h hv)]; rfl
        rw [e]
        exact sline_leap w0 g A c ws.length As cs l has exp at_ until_ no y m d sec (mkB sg) roll (numberN y m d) w hS hB hg hrd' hN hl
      · by_cases ha : 0 < at_
        · exact fin 2 (by decide) (by unfold lineStep; rw [hr]; simp only; rw [if_pos ⟨by trivial, ha⟩]) (sline_twice w0 g A c ws.length sv l has exp at_ until_ no y m d sec (mkB sg) roll _ w hS hB hg hrd' hN ha)
        · by_cases h6 : sec = 86400
          · exact fin 9 (by decide) (by unfold lineStep; rw [hr]; simp only; rw [if_neg (fun h => ha h.2), if_neg (fun h => h hv), if_neg (by decide), if_pos h6]) (sline_over w0 g A c ws.length sv l has exp at_ until_ no y m d sec (mkB sg) roll _ w hS hB hg hrd' hN ha h6)
          · have e : lineStep l has exp at_ until_ no ws = (0, (l, no, numberN y m d * 86400 + sec)) := by
              unfold lineStep; rw [hr]; simp only; rw [if_neg (fun h => ha h.2), if_neg (fun h => h hv), if_neg (by decide), if_neg h6]
            rw [e]
            refine (sline_expires w0 g A c ws.length sv l has exp at_ until_ no y m d sec (mkB sg) roll _ w hS hB hg hrd' hN ha h6 hnr.1 hnr.2 hs0 hs1).mono ?_
            rintro e w' ⟨rfl, h1, h2, h3⟩
            exact ⟨rfl, fun _ => ⟨_, h1⟩, h2, h3⟩
    · have hN := number_invalid hv
      rcases hk with rfl | rfl
      · exact fin 9 (by decide) (by unfold lineStep; rw [hr]; simp only; rw [if_neg (by intro h; exact absurd h.1 (by decide)), if_pos hv]) (sline_bad0 w0 g A c ws.length sv l has exp at_ until_ no y m d sec (mkB sg) roll _ w hS hB hg hrd' hN)
      · by_cases ha : 0 < at_
        · exact fin 2 (by decide) (by unfold lineStep; rw [hr]; simp only; rw [if_pos ⟨by trivial, ha⟩]) (sline_twice2 w0 g A c ws.length sv l has exp at_ until_ no y m d sec (mkB sg) roll _ w hS hB hg hrd' hN ha)
        · exact fin 9 (by decide) (by unfold lineStep; rw [hr]; simp only; rw [if_neg (fun h => ha h.2), if_pos hv]) (sline_bad1 w0 g A c ws.length sv l has exp at_ until_ no y m d sec (mkB sg) roll _ w hS hB hg hrd' hN ha)
end Go.Proofs.YtodalfobehddmaaDoor.Y
namespace Go.Proofs.YtodalfobehddmaaDoor.Z
open Go.RowKit Go.Proofs.YtodalfobehddmaaDoorW.PrintWords Go.Proofs.YtodalfobehddmaaDoorW.PrintLast Go.Proofs.YtodalfobehddmaaDoor.Mx
def lines_Words.f (a0 : ByteArray) : Option (List ByteArray) := if a0.size ≤ 8796093022000 then some ((wordsL a0.data.toList).map mkB) else none
theorem infoStr : (Tryd.prog.info? 9).map (fun i => (i.zero, i.size, i.bytes)) = some (some (.string ⟨#[]⟩), 1, 16) := by kernel_rfl
def fromI (pos : Nat) (cur : List UInt8) : Int := if cur = [] then -1 else ((pos - cur.length : Nat) : Int)
theorem fromI_nil (pos : Nat) : fromI pos [] = -1 := if_pos rfl
theorem fromI_some {pos : Nat} {cur : List UInt8} (h : cur ≠ []) : fromI pos cur = ((pos - cur.length : Nat) : Int) := if_neg h
structure WRel (l : List UInt8) (s2 : ByteArray) (w : World) (v f : Value) (pos : Nat) (cur : List UInt8) (done : List (List UInt8)) (wr : World) : Prop where
  inv : WInv l pos cur done
  it : wr.heap[w.heap.size]? = some (.stringIter s2 pos)
  bel : Below w.heap.size w wr
  row : Kd.R Kd.string 9 wr w.heap.size (fun k => k ≠ w.heap.size) v (done.map mkB)
  at_ : f = .int .i64 (fromI pos cur)
theorem iterPos_of {w : World} {k : Nat} {s : ByteArray} {p : Nat} (h : w.heap[k]? = some (.stringIter s p)) : w.iterPos k = p := by simp [World.iterPos, h]
theorem WRel.start (l : List UInt8) (s2 : ByteArray) (w : World) : WRel l s2 w (.slice none 0 0) (.int .i64 (-1)) 0 [] [] (w.iter s2 0) :=
  ⟨WInv.start l, World.iter_heap w s2 0, (Below.refl _ _).alloc (Nat.le_refl _) _, Kd.R_nil _ _ _ _ _, by rw [fromI_nil]⟩
theorem R_iterAt {α : Type} {d : Kd α} {e : Nat} {w : World} {base : Nat} {ok : Nat → Prop} {v : Value} {xs : List α} {b : Nat} {s : ByteArray} {p : Nat} (h : d.R e w base ok v xs) (hb : ∀ k, ok k → k ≠ b) : d.R e (w.iterAt b s p) base ok v xs :=
  Kd.R_step h (fun k ho _ => Lib.iterAt_other w b k s p (hb k ho))
theorem WRel.blank0 {l : List UInt8} {s2 : ByteArray} {w wr : World} {v f : Value} {pos : Nat} {done : List (List UInt8)} (h : WRel l s2 w v f pos [] done wr) (hp : pos < (l ++ [32]).length) (hb : blankU (l ++ [32])[pos] = true) :
    WRel l s2 w v f (pos + 1) [] done (wr.iterAt w.heap.size s2 (pos + 1)) :=
  ⟨h.inv.blank0 hp hb, Lib.iterAt_heap _ _ _ _ _ h.it, Lib.below_iterAt h.bel (Nat.le_refl _) _ _, R_iterAt h.row (fun _ hk => hk), h.at_.trans (by rw [fromI_nil, fromI_nil])⟩
theorem WRel.seg {l cur : List UInt8} {s2 : ByteArray} {w wr : World} {v f : Value} {pos : Nat} {done : List (List UInt8)} (h : WRel l s2 w v f pos cur done wr) (wd : Nat) (h1 : 1 ≤ wd) (hp : pos + wd ≤ (l ++ [32]).length)
    (hn : ∀ j (hj : j < (l ++ [32]).length), pos ≤ j → j < pos + wd → blankU (l ++ [32])[j] = false) :
    WRel l s2 w v (.int .i64 (if cur = [] then (pos : Int) else fromI pos cur)) (pos + wd) (cur ++ ((l ++ [32]).drop pos).take wd) done (wr.iterAt w.heap.size s2 (pos + wd)) := by
  obtain ⟨hl, hi⟩ := h.inv.seg wd h1 hp hn
  refine ⟨hi, Lib.iterAt_heap _ _ _ _ _ h.it, Lib.below_iterAt h.bel (Nat.le_refl _) _ _, R_iterAt h.row (fun _ hk => hk), ?_⟩
  have hsl : (((l ++ [32]).drop pos).take wd).length = wd := by rw [List.length_take, List.length_drop]; omega
  have hne : cur ++ ((l ++ [32]).drop pos).take wd ≠ [] := by
    intro e
    have e2 := congrArg List.length e
    rw [List.length_append, hsl] at e2
    simp at e2
    omega
  rw [fromI_some hne, List.length_append, hsl]
  have hle := h.inv.len
  by_cases e : cur = []
  · subst e
    rw [if_pos rfl]
    congr 1
    simp
  · rw [if_neg e, fromI_some e]
    congr 1
    omega
theorem WRel.blank1 {l cur : List UInt8} {s2 : ByteArray} {w wr wq : World} {v v1 f : Value} {pos : Nat} {done : List (List UInt8)} (h : WRel l s2 w v f pos cur done wr) (hc : cur ≠ []) (hp : pos < (l ++ [32]).length) (hb : blankU (l ++ [32])[pos] = true)
    (hr : Kd.R Kd.string 9 wq w.heap.size (fun k => k ≠ w.heap.size) v1 (done.map mkB ++ [mkB cur])) (hbq : Below w.heap.size w wq) (hg : (wr.iterAt w.heap.size s2 (pos + 1)).grownBy wq v.ownBlock) :
    WRel l s2 w v1 (.int .i64 (-1)) (pos + 1) [] (done ++ [cur]) wq := by
  refine ⟨h.inv.blank1 hc hp hb, ?_, hbq, by simpa using hr, by rw [fromI_nil]⟩
  have hlt : w.heap.size < wr.heap.size := (Array.getElem?_eq_some_iff.1 h.it).1
  rw [hg.block w.heap.size (by rw [Lib.iterAt_size]; exact hlt) (fun e => by have := h.row.1 w.heap.size e.symm; exact this rfl)]
  exact Lib.iterAt_heap _ _ _ _ _ h.it
set_option maxHeartbeats 2000000 in
set_option maxRecDepth 100000 in
theorem words_walk (s : ByteArray) (l : List UInt8) (hl : s.data.toList = l) (w : World) (hs : s.size ≤ 8796093022000) :
    Calls Tryd.prog 18 #[.string s] w fun e w' => ∃ v0_ : Value, e = .returned (v0_) ∧ Kd.R Kd.string 9 w' w.heap.size (fun _ => True) v0_ ((wordsL l).map mkB) ∧ Below w.heap.size w w' := by
  have hl2 : (s ++ (⟨#[32]⟩ : ByteArray)).data.toList = l ++ [32] := by rw [← hl]; simp
  have hz2 : (s ++ (⟨#[32]⟩ : ByteArray)).size = s.size + 1 := by simp; rfl
  have hzl : l.length = s.size := by rw [← hl]; rfl
  have HZ := Aside0.mk hzl
  have HL2 := Aside0.mk hl2
  have HZ2 := Aside0.mk hz2
  have HL := Aside0.mk hl
  clear hl hl2 hz2 hzl
  have H0 := Aside0.mk (WRel.start l (s ++ (⟨#[32]⟩ : ByteArray)) w)
  go_enter Tryd.func18, Tryd.ntmps18
  go_wp2_with fail
  generalize s ++ (⟨#[32]⟩ : ByteArray) = s2 at *
  generalize w.iter s2 0 = w0 at H0 ⊢
  go_loopw [2, 3] (fun v f wr => ∃ pos cur done, Aside0 (WRel l s2 w v f pos cur done wr)) (fun _ _ wr => s2.size - wr.iterPos w.heap.size)
  case atStart => exact ⟨0, [], [], H0⟩
  case round =>
    clear H0
    obtain ⟨pos, cur, done, HI⟩ := hrel
    have hf := HI.out.at_
    subst hf
    by_cases hp : pos < s2.size
    · have hnx : ∀ ty, (Instr.next (.pointer (some ⟨w.heap.size, 0, none⟩)) true ty).run Tryd.prog wr = _ := fun ty => Lib.run_next_any_at wr w.heap.size s2 pos ty HI.out.it hp
      have hT : pos < (l ++ [32]).length := by rw [← HL2.out]; exact hp
      have HB := Aside0.mk (bytes_get s2 _ HL2.out pos hp hT)
      have HS := Aside0.mk (decode_sees s2 pos hp)
      have HW1 : Aside0 (wr.iterPos w.heap.size = pos) := ⟨iterPos_of HI.out.it⟩
      have HTL : Aside0 ((l ++ [32]).length = s2.size) := ⟨by rw [← HL2.out]; rfl⟩
      have HALT : Aside0 (((blankU (l ++ [32])[pos] = true) ∧ ((l ++ [32])[pos] = 32 ∨ (l ++ [32])[pos] = 9) ∧ (Utf8.decode s2 pos) = ((l ++ [32])[pos].toNat, 1)) ∨
          ((Utf8.decode s2 pos).1 ≠ 32 ∧ (Utf8.decode s2 pos).1 ≠ 9 ∧ WRel l s2 w u2 (.int .i64 (if cur = [] then (pos : Int) else fromI pos cur)) (pos + (Utf8.decode s2 pos).2) (cur ++ ((l ++ [32]).drop pos).take (Utf8.decode s2 pos).2) done (wr.iterAt w.heap.size s2 (pos + (Utf8.decode s2 pos).2)) ∧ 1 ≤ (Utf8.decode s2 pos).2)) := ⟨by
        rcases HS.out with ⟨ha, hd⟩ | ⟨hd1, hd2, hd3, hd4⟩
        · rw [HB.out] at ha hd
          by_cases hb : blankU (l ++ [32])[pos] = true
          · exact .inl ⟨hb, by simpa [blankU] using hb, hd⟩
          · right
            have hb' : blankU (l ++ [32])[pos] = false := by simpa using hb
            rw [hd]
            refine ⟨?_, ?_, HI.out.seg 1 (Nat.le_refl _) (by omega) ?_, Nat.le_refl _⟩
            · intro e
              apply hb
              have : (l ++ [32])[pos] = 32 := UInt8.toNat_inj.1 (by simpa using e)
              simp [this, blankU]
            · intro e
              apply hb
              have : (l ++ [32])[pos] = 9 := UInt8.toNat_inj.1 (by simpa using e)
              simp [this, blankU]
            · intro j hj hj1 hj2
              have : j = pos := by omega
              subst this
              exact hb'
        · right
          refine ⟨by omega, by omega, HI.out.seg _ hd2 (by rw [HTL.out]; exact hd3) ?_, hd2⟩
          intro j hj hj1 hj2
          have hj3 : j < s2.size := by rw [← HTL.out]; exact hj
          have := hd4 j hj3 hj1 hj2
          rw [bytes_get s2 _ HL2.out j hj3 hj] at this
          exact blankU_high _ (by omega) (by omega)⟩
      clear HS HB
      rcases HALT.out with ⟨hb, hcc, hd⟩ | ⟨hr1, hr2, hn, hw1⟩
      · clear HALT
        rw [hd] at hnx
        simp only at hnx
        clear hd
        generalize hc : (l ++ [32])[pos] = c at *
        have HC := Aside0.mk hc
        clear hc
        by_cases e : cur = []
        · subst e
          have HN := Aside0.mk (HI.out.blank0 hT (by rw [HC.out]; exact hb))
          rw [fromI_nil]
          clear hb
          rcases hcc with rfl | rfl
          · skip
            have hnx2 : ∀ ty, (Instr.next (.pointer (some ⟨w.heap.size, 0, none⟩)) true ty).run Tryd.prog wr = .ok (.tuple #[.bool true, .int .i64 pos, .int .i32 32]) (wr.iterAt w.heap.size s2 (pos + 1)) := hnx
            clear hnx
            generalize wr.iterAt w.heap.size s2 (pos + 1) = wn at *
            go_wp2_with fail
            all_goals
              go_roundw
              case rel => exact ⟨pos + 1, [], done, ⟨⟨HN.out.inv, HN.out.it, HN.out.bel, HN.out.row, by rw [fromI_nil]⟩⟩⟩
              case measure => rw [iterPos_of HN.out.it, HW1.out]; omega
          · skip
            have hnx2 : ∀ ty, (Instr.next (.pointer (some ⟨w.heap.size, 0, none⟩)) true ty).run Tryd.prog wr = .ok (.tuple #[.bool true, .int .i64 pos, .int .i32 9]) (wr.iterAt w.heap.size s2 (pos + 1)) := hnx
            clear hnx
            generalize wr.iterAt w.heap.size s2 (pos + 1) = wn at *
            go_wp2_with fail
            all_goals
              go_roundw
              case rel => exact ⟨pos + 1, [], done, ⟨⟨HN.out.inv, HN.out.it, HN.out.bel, HN.out.row, by rw [fromI_nil]⟩⟩⟩
              case measure => rw [iterPos_of HN.out.it, HW1.out]; omega
        · have HWD2 := HI.out.inv.word e s HL.out
          have hpl : pos ≤ s.size := by have := HZ.out; have := HWD2.1; omega
          have HWD := Aside0.mk HWD2.2
          have HNUM : Aside0 (done.length ≤ 8796093022000) := ⟨by have := HI.out.inv.num; omega⟩
          clear HWD2
          rw [fromI_some e]
          have hf1 : (0 : Int) ≤ ((pos - cur.length : Nat) : Int) := by omega
          have hf2 : ((pos - cur.length : Nat) : Int) ≤ (pos : Int) := by omega
          have hf3 : (pos : Int) ≤ (s.size : Int) := by omega
          have hf4 : pos - cur.length ≤ pos := by omega
          rcases hcc with rfl | rfl
          · skip
            have hnx2 : ∀ ty, (Instr.next (.pointer (some ⟨w.heap.size, 0, none⟩)) true ty).run Tryd.prog wr = .ok (.tuple #[.bool true, .int .i64 pos, .int .i32 32]) (wr.iterAt w.heap.size s2 (pos + 1)) := hnx
            clear hnx
            have HR := Aside0.mk (R_iterAt (s := s2) (p := pos + 1) HI.out.row (fun _ hk => hk))
            have HBL := Aside0.mk (Lib.below_iterAt HI.out.bel (Nat.le_refl _) s2 (pos + 1))
            have HLT : Aside0 (w.heap.size < (wr.iterAt w.heap.size s2 (pos + 1)).heap.size) := ⟨by rw [Lib.iterAt_size]; exact (Array.getElem?_eq_some_iff.1 HI.out.it).1⟩
            have HQ : Aside0 (∀ (wq : World) (v1 : Value), Kd.R Kd.string 9 wq w.heap.size (fun k => k ≠ w.heap.size) v1 (done.map mkB ++ [mkB cur]) → Below w.heap.size w wq → (wr.iterAt w.heap.size s2 (pos + 1)).grownBy wq u2.ownBlock → WRel l s2 w v1 (.int .i64 (-1)) (pos + 1) [] (done ++ [cur]) wq) := ⟨fun wq v1 h1 h2 h3 => HI.out.blank1 e hT (by rw [HC.out]; exact hb) h1 h2 h3⟩
            generalize wr.iterAt w.heap.size s2 (pos + 1) = wn at *
            go_wp2_with (at_builtin; refine Kd.R_append Kd.string (w0 := w) w.heap.size rfl _ _ 35 9 (.string ⟨#[]⟩) 16 rfl Tryd.underlying35 infoStr rfl (by decide) (by decide) u2 (done.map mkB) (s.extract (pos - cur.length) pos) [.string (s.extract (pos - cur.length) pos)] (fun k => k ≠ w.heap.size) (fun _ => False) rfl rfl rfl (fun _ hk => hk.elim) (fun k hk => by have := HLT.out; omega) HR.out HBL.out (by have := HLT.out; omega) (by have := HNUM.out; simp only [List.length_map]; omega) ?_; intro v1 w1 hr1 hb1 hg1 _; have HF := Aside0.mk (HQ.out w1 v1 (by rw [← HWD.out]; exact hr1) hb1 hg1); clear hr1 hb1 hg1)
            all_goals
              go_roundw
              case rel => exact ⟨pos + 1, [], done ++ [cur], HF⟩
              case measure => rw [iterPos_of HF.out.it, HW1.out]; omega
          · skip
            have hnx2 : ∀ ty, (Instr.next (.pointer (some ⟨w.heap.size, 0, none⟩)) true ty).run Tryd.prog wr = .ok (.tuple #[.bool true, .int .i64 pos, .int .i32 9]) (wr.iterAt w.heap.size s2 (pos + 1)) := hnx
            clear hnx
            have HR := Aside0.mk (R_iterAt (s := s2) (p := pos + 1) HI.out.row (fun _ hk => hk))
            have HBL := Aside0.mk (Lib.below_iterAt HI.out.bel (Nat.le_refl _) s2 (pos + 1))
            have HLT : Aside0 (w.heap.size < (wr.iterAt w.heap.size s2 (pos + 1)).heap.size) := ⟨by rw [Lib.iterAt_size]; exact (Array.getElem?_eq_some_iff.1 HI.out.it).1⟩
            have HQ : Aside0 (∀ (wq : World) (v1 : Value), Kd.R Kd.string 9 wq w.heap.size (fun k => k ≠ w.heap.size) v1 (done.map mkB ++ [mkB cur]) → Below w.heap.size w wq → (wr.iterAt w.heap.size s2 (pos + 1)).grownBy wq u2.ownBlock → WRel l s2 w v1 (.int .i64 (-1)) (pos + 1) [] (done ++ [cur]) wq) := ⟨fun wq v1 h1 h2 h3 => HI.out.blank1 e hT (by rw [HC.out]; exact hb) h1 h2 h3⟩
            generalize wr.iterAt w.heap.size s2 (pos + 1) = wn at *
            go_wp2_with (at_builtin; refine Kd.R_append Kd.string (w0 := w) w.heap.size rfl _ _ 35 9 (.string ⟨#[]⟩) 16 rfl Tryd.underlying35 infoStr rfl (by decide) (by decide) u2 (done.map mkB) (s.extract (pos - cur.length) pos) [.string (s.extract (pos - cur.length) pos)] (fun k => k ≠ w.heap.size) (fun _ => False) rfl rfl rfl (fun _ hk => hk.elim) (fun k hk => by have := HLT.out; omega) HR.out HBL.out (by have := HLT.out; omega) (by have := HNUM.out; simp only [List.length_map]; omega) ?_; intro v1 w1 hr1 hb1 hg1 _; have HF := Aside0.mk (HQ.out w1 v1 (by rw [← HWD.out]; exact hr1) hb1 hg1); clear hr1 hb1 hg1)
            all_goals
              go_roundw
              case rel => exact ⟨pos + 1, [], done ++ [cur], HF⟩
              case measure => rw [iterPos_of HF.out.it, HW1.out]; omega
      · have HN := Aside0.mk hn
        clear hn HALT
        generalize (Utf8.decode s2 pos).2 = wd at *
        generalize hr : (Utf8.decode s2 pos).1 = r at *
        clear hr
        have hq1 : ((r : Int) == 32) = false := beq_eq_false_iff_ne.2 (by omega)
        have hq2 : ((r : Int) == 9) = false := beq_eq_false_iff_ne.2 (by omega)
        clear hr1 hr2
        generalize wr.iterAt w.heap.size s2 (pos + wd) = wn at *
        by_cases e : cur = []
        · subst e
          rw [fromI_nil]
          go_wp2_with fail
          all_goals
            go_roundw
            case rel => exact ⟨pos + wd, _, done, ⟨⟨HN.out.inv, HN.out.it, HN.out.bel, HN.out.row, by rw [← HN.out.at_, if_pos rfl]⟩⟩⟩
            case measure => rw [iterPos_of HN.out.it, HW1.out]; omega
        · rw [fromI_some e]
          have hf5 : decide (((pos - cur.length : Nat) : Int) < 0) = false := decide_eq_false (by omega)
          have HN2 : Aside0 (WRel l s2 w u2 (.int .i64 ((pos - cur.length : Nat) : Int)) (pos + wd) (cur ++ ((l ++ [32]).drop pos).take wd) done wn) := ⟨by
            have h := HN.out
            rw [if_neg e, fromI_some e] at h
            exact h⟩
          go_wp2_with fail
          all_goals
            go_roundw
            case rel => exact ⟨pos + wd, _, done, HN2⟩
            case measure => rw [iterPos_of HN.out.it, HW1.out]; omega
    · have hnx : ∀ ty, (Instr.next (.pointer (some ⟨w.heap.size, 0, none⟩)) true ty).run Tryd.prog wr = _ := fun ty => Lib.run_next_end_at wr w.heap.size s2 pos ty HI.out.it hp
      have hpe : pos = l.length + 1 := by have := HI.out.inv.le; have := HZ.out; have := HZ2.out; omega
      have HC := Aside0.mk (HI.out.inv.fin hpe)
      have HD : Aside0 (done = wordsL l) := ⟨by
        have h := HI.out.inv.sum
        rw [HC.out, hpe, List.drop_of_length_le (by simp)] at h
        simpa [wgo] using h⟩
      clear hpe
      go_wp2_with fail
      go_ret
      exact ⟨_, rfl, by rw [← HD.out]; exact Kd.R_mono HI.out.row (fun _ _ => trivial), HI.out.bel⟩
theorem lines_Words.calls (a0 : ByteArray) (r : List ByteArray) (w : World) (h : lines_Words.f a0 = some r) :
    Calls Tryd.prog 18 #[.string a0] w fun e w' => ∃ v0_ : Value, e = .returned (v0_) ∧ Kd.R Kd.string 9 w' w.heap.size (fun _ => True) v0_ r ∧ Below w.heap.size w w' := by
  unfold lines_Words.f at h
  split at h
  · obtain rfl := Option.some.inj h
    exact words_walk a0 _ rfl w (by assumption)
  · cases h
end Go.Proofs.YtodalfobehddmaaDoor.Z
namespace Go.Proofs.YtodalfobehddmaaDoor.Y
open Go.RowKit Go.Proofs.YtodalfobehddmaaDoorW.PrintWords Go.Proofs.YtodalfobehddmaaDoorW.PrintLast Go.Proofs.YtodalfobehddmaaDoor.Mx
open Go.Proofs.YtodalfobehddmaaDoor.Z
def parseLine (k : Int) (x : List UInt8) (l : List S46) (a u : Int) : Int × (List S46 × Int × Int) :=
  if wordsL (cutL 35 x).1 = [] then (0, (l, a, u)) else lineStep l false 0 a u (k + 1) (wordsL (cutL 35 x).1)
def parseGo (k : Int) : List (List UInt8) → List S46 → Int → Int → (Int × Int) ⊕ (List S46 × Int × Int)
  | [], l, a, u => .inr (l, a, u)
  | x :: t, l, a, u => if (parseLine k x l a u).1 = 0 then parseGo (k + 1) t (parseLine k x l a u).2.1 (parseLine k x l a u).2.2.1 (parseLine k x l a u).2.2.2 else .inl (k + 1, (parseLine k x l a u).1)
def parseEnd : (Int × Int) ⊕ (List S46 × Int × Int) → List S46 × Bool × Int × Int × Int
  | .inl (n, e) => ([], false, 0, n, e)
  | .inr (l, a, u) => if 0 < a then (if rightN l true u = true then (l, true, u, 0, 0) else ([], false, 0, a, 9)) else (l, false, 0, 0, 0)
def parseL (s : List UInt8) : List S46 × Bool × Int × Int × Int := parseEnd (parseGo 0 (linesL s) [] 0 0)
theorem parseGo_step (k : Int) (xs : List (List UInt8)) (i : Nat) (h : i < xs.length) (l : List S46) (a u : Int) : parseGo k (xs.drop i) l a u = if (parseLine k xs[i] l a u).1 = 0 then parseGo (k + 1) (xs.drop (i + 1)) (parseLine k xs[i] l a u).2.1 (parseLine k xs[i] l a u).2.2.1 (parseLine k xs[i] l a u).2.2.2 else .inl (k + 1, (parseLine k xs[i] l a u).1) := by
  rw [List.drop_eq_getElem_cons h]
  rfl
theorem lineStep_len (l : List S46) (has : Bool) (exp a u no : Int) (ws : List (List UInt8)) : (lineStep l has exp a u no ws).2.1.length ≤ l.length + 1 := by
  unfold lineStep
  split
  · simp
  · split
    · simp
    · split
      · simp
      · split
        · simp
        · split
          · simp
          · simp
theorem parseLine_len (k : Int) (x : List UInt8) (l : List S46) (a u : Int) : (parseLine k x l a u).2.1.length ≤ l.length + 1 := by
  unfold parseLine
  split
  · simp
  · exact lineStep_len ..
structure PRel (W : World) (g : Nat) (lines : List ByteArray) (ls : List (List UInt8)) (A : Option Addr) (c : Nat) (l : List S46) (a u : Int) (k : Nat) (wr : World) : Prop where
  src : ∃ sv, Src W g sv l false 0 a u wr
  bel : Below W.heap.size W wr
  row : Kd.R Kd.string 9 wr W.heap.size (fun b => b ≠ g) (.slice A lines.length c) lines
  eq : parseGo 0 ls [] 0 0 = parseGo k (ls.drop k) l a u
  len : l.length ≤ k
theorem row_at {w : World} {base : Nat} {ok : Nat → Prop} {A : Option Addr} {n c : Nat} {p : List ByteArray} (h : Kd.R Kd.string 9 w base ok (.slice A n c) p) (k : Nat) (hk : k < p.length) : ∃ q, A = some ⟨q, 0, none⟩ ∧ w.cell? ⟨q, k, none⟩ = some (.string p[k]) ∧ q < w.heap.size := by
  obtain ⟨q, cap, e, _, h2, _⟩ := Kd.R_form h (by omega)
  injection e with e1 e2 e3
  subst e1 e2 e3
  refine ⟨q, rfl, ?_, h2⟩
  have := (Kd.R_celln (⟨#[]⟩ : ByteArray) h (k : Int) (by omega) (by omega)).1
  rw [Int.toNat_natCast] at this
  rw [this]
  unfold rdOf
  rw [Int.toNat_natCast, List.getD_eq_getElem?_getD, List.getElem?_eq_getElem hk]
  rfl
theorem wgo_len : ∀ (l cur : List UInt8), ∀ x ∈ wgo cur l, x.length ≤ cur.length + l.length
  | [], cur => by
    intro x hx
    unfold wgo at hx
    split at hx
    · cases hx
    · simp at hx; rw [hx]; omega
  | c :: t, cur => by
    intro x hx
    unfold wgo at hx
    split at hx
    · split at hx
      · have := wgo_len t [] x hx
        simp at *; omega
      · rcases List.mem_cons.1 hx with rfl | hx
        · simp
        · have := wgo_len t [] x hx
          simp at *; omega
    · have := wgo_len t _ x hx
      simp at *; omega
theorem cutAt_len (c : UInt8) : ∀ (l a b : List UInt8), cutAt c l = some (a, b) → a.length ≤ l.length
  | [], a, b, h => by cases h
  | x :: t, a, b, h => by
    unfold cutAt at h
    split at h
    · injection h with h; injection h with h1 h2; subst h1; simp
    · split at h
      · rename_i y r hq
        injection h with h; injection h with h1 h2; subst h1
        have := cutAt_len c t _ _ hq
        simp; omega
      · cases h
theorem cutL_len (c : UInt8) (l : List UInt8) : (cutL c l).1.length ≤ l.length := by
  unfold cutL
  split
  · rename_i h
    exact cutAt_len c l _ _ h
  · simp
theorem cut_first (s : ByteArray) : (⟨(Lib.cut s.data.toList [35]).1.toArray⟩ : ByteArray) = mkB (cutL 35 s.data.toList).1 := by rw [cut_eq]; rfl
theorem PRel.skip {W : World} {g : Nat} {lines : List ByteArray} {ls : List (List UInt8)} {A : Option Addr} {c : Nat} {l : List S46} {a u : Int} {k : Nat} {wr wa wb : World} (h : PRel W g lines ls A c l a u k wr) (ha : Below wr.heap.size wr wa) (hb0 : Below wa.heap.size wa wb)
    (he : parseGo k (ls.drop k) l a u = parseGo ((k + 1 : Nat) : Int) (ls.drop (k + 1)) l a u) : PRel W g lines ls A c l a u (k + 1) wb := by
  have hb := ha.trans (hb0.mono ha.size)
  obtain ⟨sv, hsv⟩ := h.src
  exact ⟨⟨sv, blk_below hsv.blk hb, Kd.R_below hsv.row hb⟩, h.bel.trans (hb.mono h.bel.size), Kd.R_below h.row hb, h.eq.trans he, Nat.le_succ_of_le h.len⟩
theorem PRel.line {W : World} {g : Nat} {lines : List ByteArray} {ls : List (List UInt8)} {A : Option Addr} {c : Nat} {l l2 : List S46} {a u a2 u2 : Int} {k : Nat} {wr wa wb wc : World} (h : PRel W g lines ls A c l a u k wr) (ha : Below wr.heap.size wr wa) (hb0 : Below wa.heap.size wa wb)
    (hs : ∃ sv, Src W g sv l2 false 0 a2 u2 wc) (hw : Below W.heap.size W wc) (hk : KeepBut wb wc g none) (hl : l2.length ≤ l.length + 1)
    (he : parseGo k (ls.drop k) l a u = parseGo ((k + 1 : Nat) : Int) (ls.drop (k + 1)) l2 a2 u2) : PRel W g lines ls A c l2 a2 u2 (k + 1) wc := by
  have hb := ha.trans (hb0.mono ha.size)
  have := h.len
  exact ⟨hs, hw, Kd.R_keep (Kd.R_below h.row hb) hk (fun _ h => h), h.eq.trans he, by omega⟩
structure AtLine (W : World) (g : Nat) (sv : Value) (l : List S46) (a u : Int) (ws : List (List UInt8)) (A2 : Option Addr) (c2 : Nat) (wb : World) : Prop where
  src : Src W g sv l false 0 a u wb
  bel : Below W.heap.size W wb
  row : Kd.C Kd.string wb A2 ws.length (ws.map mkB)
  cap : ws.length ≤ c2
theorem AtLine.make {W : World} {g : Nat} {lines : List ByteArray} {ls : List (List UInt8)} {A : Option Addr} {c : Nat} {l : List S46} {a u : Int} {k : Nat} {wr wa wb : World} {sv : Value} (h : PRel W g lines ls A c l a u k wr) (hsv : Src W g sv l false 0 a u wr) (ha : Below wr.heap.size wr wa) (hb0 : Below wa.heap.size wa wb)
    {ws : List (List UInt8)} {A2 : Option Addr} {n c2 base : Nat} {ok : Nat → Prop} (hr : Kd.R Kd.string 9 wb base ok (.slice A2 n c2) (ws.map mkB)) : AtLine W g sv l a u ws A2 c2 wb := by
  have hb := ha.trans (hb0.mono ha.size)
  have hrd := Kd.R_reads' hr
  rw [List.length_map] at hrd
  exact ⟨⟨blk_below hsv.blk hb, Kd.R_below hsv.row hb⟩, h.bel.trans (hb.mono h.bel.size), hrd.2.2, hrd.1 ▸ hrd.2.1⟩
@[reducible] def LineOk (W : World) (g : Nat) (sv : Value) (l : List S46) (a u : Int) (no : Int) (ws : List (List UInt8)) (l2 : List S46) (a2 u2 : Int) : Prop :=
  ∀ wb A2 c2, AtLine W g sv l a u ws A2 c2 wb → Calls Tryd.prog 32 #[.pointer (some ⟨g, 0, none⟩), .int .i64 no, .slice A2 ws.length c2] wb fun e w' =>
    e = .returned (.int .i64 0) ∧ (∃ sv, Src W g sv l2 false 0 a2 u2 w') ∧ Below W.heap.size W w' ∧ KeepBut wb w' g none
@[reducible] def LineBad (W : World) (g : Nat) (sv : Value) (l : List S46) (a u : Int) (no : Int) (ws : List (List UInt8)) (r : Int) : Prop :=
  ∀ wb A2 c2, AtLine W g sv l a u ws A2 c2 wb → Calls Tryd.prog 32 #[.pointer (some ⟨g, 0, none⟩), .int .i64 no, .slice A2 ws.length c2] wb fun e w' =>
    e = .returned (.int .i64 r) ∧ Below W.heap.size W w'
theorem LineOk.of {W : World} {g : Nat} (hg : W.heap.size ≤ g) (sv : Value) (l : List S46) (a u no : Int) (ws : List (List UInt8)) (h0 : ws ≠ []) (hs : ∀ x ∈ ws, x.length ≤ 4294967280) (hl : l.length ≤ 1000000000000) (h : (lineStep l false 0 a u no ws).1 = 0) :
    LineOk W g sv l a u no ws (lineStep l false 0 a u no ws).2.1 (lineStep l false 0 a u no ws).2.2.1 (lineStep l false 0 a u no ws).2.2.2 := by
  intro wb A2 c2 hat
  refine (sline_any ws h0 (fun x hx => by have := hs x hx; omega) W g A2 c2 sv l false 0 a u no wb hat.src hat.bel hg hl hat.row hat.cap).mono ?_
  rintro e w' ⟨rfl, h1, h2, h3⟩
  exact ⟨by rw [h], h1 h, h2, h3⟩
theorem LineBad.of {W : World} {g : Nat} (hg : W.heap.size ≤ g) (sv : Value) (l : List S46) (a u no : Int) (ws : List (List UInt8)) (h0 : ws ≠ []) (hs : ∀ x ∈ ws, x.length ≤ 4294967280) (hl : l.length ≤ 1000000000000) :
    LineBad W g sv l a u no ws (lineStep l false 0 a u no ws).1 := by
  intro wb A2 c2 hat
  refine (sline_any ws h0 (fun x hx => by have := hs x hx; omega) W g A2 c2 sv l false 0 a u no wb hat.src hat.bel hg hl hat.row hat.cap).mono ?_
  rintro e w' ⟨rfl, h1, h2, h3⟩
  exact ⟨rfl, h2⟩
theorem parse_laid {w0 W wc : World} {a : Nat} {x0 x1 x2 y0 y1 : Value} (hb : Below w0.heap.size w0 W) (hw : Below W.heap.size W wc) (ha : w0.heap.size = a) (h0 : wc.heap[a]? = some (.cells #[x0, x1, x2] 24 (0, 0))) (h1 : wc.heap[a + 1]? = some (.cells #[y0, y1] 31 (0, 0))) (v0 v1 v2 z0 z1 : Value) :
    (((((wc.setCell ⟨a, 0, none⟩ v0).setCell ⟨a, 1, none⟩ v1).setCell ⟨a, 2, none⟩ v2).setCell ⟨a + 1, 0, none⟩ z0).setCell ⟨a + 1, 1, none⟩ z1).heap[a]? = some (.cells #[v0, v1, v2] 24 (0, 0)) ∧
    (((((wc.setCell ⟨a, 0, none⟩ v0).setCell ⟨a, 1, none⟩ v1).setCell ⟨a, 2, none⟩ v2).setCell ⟨a + 1, 0, none⟩ z0).setCell ⟨a + 1, 1, none⟩ z1).heap[a + 1]? = some (.cells #[z0, z1] 31 (0, 0)) ∧
    Below w0.heap.size w0 (((((wc.setCell ⟨a, 0, none⟩ v0).setCell ⟨a, 1, none⟩ v1).setCell ⟨a, 2, none⟩ v2).setCell ⟨a + 1, 0, none⟩ z0).setCell ⟨a + 1, 1, none⟩ z1) := by
  have hn : a ≠ a + 1 := by omega
  have hn2 : a + 1 ≠ a := by omega
  refine ⟨?_, ?_, ?_⟩
  · exact blk_far (p := ⟨a + 1, 1, none⟩) (blk_far (p := ⟨a + 1, 0, none⟩) (blk_put (blk_put (blk_put h0 0 _ rfl) 1 _ rfl) 2 _ rfl) hn _) hn _
  · exact blk_put (blk_put (blk_far (p := ⟨a, 2, none⟩) (blk_far (p := ⟨a, 1, none⟩) (blk_far (p := ⟨a, 0, none⟩) h1 hn2 _) hn2 _) hn2 _) 0 _ rfl) 1 _ rfl
  · have h := hb.trans (hw.mono hb.size)
    exact ((((h.setCell (p := ⟨a, 0, none⟩) (by show _ ≤ a; omega) _).setCell (p := ⟨a, 1, none⟩) (by show _ ≤ a; omega) _).setCell (p := ⟨a, 2, none⟩) (by show _ ≤ a; omega) _).setCell (p := ⟨a + 1, 0, none⟩) (by show _ ≤ a + 1; omega) _).setCell (p := ⟨a + 1, 1, none⟩) (by show _ ≤ a + 1; omega) _
theorem parse_row {w0 wc : World} {a base g : Nat} {v : Value} {l : List S46} (hr : Kd.R k46 46 wc base (fun k => k ≠ g) v l) (hz : w0.heap.size ≤ base) (ha : a + 2 ≤ base) (v0 v1 v2 z0 z1 : Value) :
    Kd.R k46 46 (((((wc.setCell ⟨a, 0, none⟩ v0).setCell ⟨a, 1, none⟩ v1).setCell ⟨a, 2, none⟩ v2).setCell ⟨a + 1, 0, none⟩ z0).setCell ⟨a + 1, 1, none⟩ z1) w0.heap.size (fun _ => True) v l := by
  have h : Kd.R k46 46 wc w0.heap.size (fun k => k ≠ a ∧ k ≠ a + 1) v l := Kd.R_lower (Kd.R_mono (Kd.R_bound hr) (fun k hk => by have := hk.2.1; omega)) hz
  refine Kd.R_mono (Kd.R_far (Kd.R_far (Kd.R_far (Kd.R_far (Kd.R_far h ?_ _) ?_ _) ?_ _) ?_ _) ?_ _) (fun _ _ => trivial)
  all_goals exact fun k hk => by first | exact hk.1 | exact hk.2
set_option maxHeartbeats 1000000 in
set_option maxRecDepth 100000 in
theorem parse_walk (s : ByteArray) (ls : List (List UInt8)) (hls : linesL s.data.toList = ls) (hs : s.size < 4294967281) (hn : ls.length ≤ 4294967281) (hx : ∀ x ∈ ls, x.length ≤ 4294967280) (l1 : List S46) (h1 : Bool) (e1 n1 f1 : Int) (hr : parseEnd (parseGo 0 ls [] 0 0) = (l1, h1, e1, n1, f1)) (w : World) :
    Calls Tryd.prog 15 #[.string s] w fun e w' => ∃ v0_ : Value, e = .returned (.tuple #[.agg #[v0_, .bool h1, .int .i64 e1], .agg #[.int .i64 n1, .int .i64 f1]]) ∧ Kd.R k46 46 w' w.heap.size (fun _ => True) v0_ l1 ∧ Below w.heap.size w w' := by
  have hsp : lines_Split.f s = some (ls.map mkB) := by unfold lines_Split.f; rw [if_pos hs, hls]
  have HSP := Aside0.mk hsp
  have HX := Aside0.mk hx
  have HR := Aside0.mk hr
  have HN := Aside0.mk hn
  have hu24 := Tryd.underlying24
  have hu31 := Tryd.underlying31
  have hu59 := Tryd.underlying59
  clear hsp hx hr hls hs hn
  go_enter Tryd.func15, Tryd.ntmps15
  go_wp2_with fail
  have HBW := Aside0.mk (show Below w.heap.size w ((w.alloc (.cells #[.slice none 0 0, .bool false, .int .i64 0] 24)).alloc (.cells #[.int .i64 0, .int .i64 0] 31)) from ((Below.refl _ _).alloc (Nat.le_refl _) _).alloc (by simp) _)
  have HK0 := Aside0.mk (blk_alloc (blk_new w (.cells #[.slice none 0 0, .bool false, .int .i64 0] 24 (0, 0))) (.cells #[.int .i64 0, .int .i64 0] 31 (0, 0)))
  have HK1 := Aside0.mk (blk_new (w.alloc (.cells #[.slice none 0 0, .bool false, .int .i64 0] 24 (0, 0))) (.cells #[.int .i64 0, .int .i64 0] 31 (0, 0)))
  have hz : ((w.alloc (.cells #[.slice none 0 0, .bool false, .int .i64 0] 24)).alloc (.cells #[.int .i64 0, .int .i64 0] 31)).heap.size = w.heap.size + 2 := by simp
  rw [show (w.alloc (.cells #[.slice none 0 0, .bool false, .int .i64 0] 24 (0, 0))).heap.size = w.heap.size + 1 by simp] at HK1
  generalize (w.alloc (.cells #[.slice none 0 0, .bool false, .int .i64 0] 24)).alloc (.cells #[.int .i64 0, .int .i64 0] 31) = W at *
  go_step3
  go_wp2_with fail
  try go_step3
  have hg0 : W.heap.size = w.heap.size + 2 := hz
  have HB0 := Aside0.mk (show Below W.heap.size W (W.alloc (.cells #[.slice none 0 0, .bool false, .int .i64 0, .int .i64 0, .int .i64 0] 59)) from (Below.refl _ _).alloc (Nat.le_refl _) _)
  have HG0 := Aside0.mk (blk_new W (.cells #[.slice none 0 0, .bool false, .int .i64 0, .int .i64 0, .int .i64 0] 59 (0, 0)))
  have hgl : W.heap.size < (W.alloc (.cells #[.slice none 0 0, .bool false, .int .i64 0, .int .i64 0, .int .i64 0] 59)).heap.size := by simp
  generalize W.alloc (.cells #[.slice none 0 0, .bool false, .int .i64 0, .int .i64 0, .int .i64 0] 59) = W3 at *
  go_wp2_with (go_at_call 17; (with_reducible refine (lines_Split.calls _ _ _ HSP.out).mono ?_); rintro e w1 ⟨v, rfl, hr1, hb1⟩; have HR1 := Aside0.mk hr1; have HB1 := Aside0.mk hb1; obtain ⟨A, c, rfl⟩ := Kd.R_slice hr1; clear hr1 hb1)
  have HCUT : ∀ (x : List UInt8), x.length ≤ 4294967280 → Aside0 (∀ wr, Calls Tryd.prog 31 #[.string (mkB x), .string ⟨#[35]⟩] wr fun e w' => e = .returned (.tuple #[.string (mkB (cutL 35 x).1), .string (mkB (cutL 35 x).2.1), .bool (cutL 35 x).2.2]) ∧ Below wr.heap.size wr w') := by
    intro x hx
    refine ⟨fun wr => (cut_one (mkB x) 35 wr ?_).mono ?_⟩
    · have : (mkB x).size = x.length := rfl
      omega
    · rintro e w' ⟨rfl, hd⟩
      rw [show (mkB x).data.toList = x from rfl, cut_eq]
      exact ⟨rfl, hd.below⟩
  have HLEN : Aside0 ((ls.map mkB).length = ls.length) := ⟨by simp⟩
  have hg2 : W.heap.size ≤ w.heap.size + 2 := by omega
  go_loopw [12] (fun i wr => ∃ (k : Nat) (l : List S46) (a u : Int), k ≤ ls.length ∧ i = .int .i64 k ∧ Aside0 (PRel W (w.heap.size + 2) (ls.map mkB) ls A c l a u k wr)) (fun i _ => ls.length - (intOf i).toNat)
  case atStart =>
    refine ⟨0, [], 0, 0, Nat.zero_le _, rfl, ⟨⟨⟨.slice none 0 0, ⟨?_, ?_⟩⟩, ?_, ?_, rfl, Nat.le_refl _⟩⟩⟩
    · have := blk_below HG0.out HB1.out
      rw [hg0] at this
      exact this
    · exact Kd.R_nil _ _ _ _ _
    · exact HB0.out.trans (HB1.out.mono HB0.out.size)
    · exact Kd.R_lower (Kd.R_mono (Kd.R_bound HR1.out) (fun b hb => by have := hb.2.1; omega)) (by omega)
  case round =>
    obtain ⟨k, l, a, u, hk, rfl, HI⟩ := hrel
    by_cases hlt : k < ls.length
    · obtain ⟨q, rfl, hcell, hq⟩ := row_at HI.out.row k (by rw [HLEN.out]; exact hlt)
      rw [List.getElem_map] at hcell
      have hxl := HX.out _ (List.getElem_mem hlt)
      have HXL := Aside0.mk hxl
      generalize hx : ls[k] = x at *
      have HQ := Aside0.mk hq
      have hk1 : wrap64 ((k : Int) + 1) = k + 1 := wrap_id _ (by omega) (by have := HN.out; omega)
      have HGO := Aside0.mk (show parseGo k (ls.drop k) l a u = if (parseLine k x l a u).1 = 0 then parseGo ((k + 1 : Nat) : Int) (ls.drop (k + 1)) (parseLine k x l a u).2.1 (parseLine k x l a u).2.2.1 (parseLine k x l a u).2.2.2 else .inl ((k : Int) + 1, (parseLine k x l a u).1) by rw [parseGo_step k ls k hlt, hx]; rfl)
      have HPL := Aside0.mk (parseLine_len k x l a u)
      have hcut := HCUT x hxl
      have hwz : (mkB (cutL 35 x).1).size ≤ 4294967280 := by
        have h1 := cutL_len 35 x
        have h2 : (mkB (cutL 35 x).1).size = (cutL 35 x).1.length := rfl
        omega
      have HWD : Aside0 (lines_Words.f (mkB (cutL 35 x).1) = some ((wordsL (cutL 35 x).1).map mkB)) := ⟨by unfold lines_Words.f; rw [if_pos (by omega)]; rfl⟩
      have HWX : Aside0 (∀ y ∈ wordsL (cutL 35 x).1, y.length ≤ 4294967280) := ⟨fun y hy => by
        have h1 := wgo_len _ _ y hy
        have h2 := cutL_len 35 x
        simp at h1
        omega⟩
      have HPLE : Aside0 (parseLine k x l a u = if wordsL (cutL 35 x).1 = [] then (0, (l, a, u)) else lineStep l false 0 a u (k + 1) (wordsL (cutL 35 x).1)) := ⟨rfl⟩
      clear hx hxl hwz
      generalize wordsL (cutL 35 x).1 = ws at *
      by_cases hw : ws = []
      · subst hw
        rw [if_pos rfl] at HPLE
        rw [HPLE.out] at HGO HPL
        go_wp2_with (first | (go_at_call 31; (with_reducible refine (hcut.out _).mono ?_); rintro e wa ⟨rfl, hba⟩; have HBA := Aside0.mk hba; clear hba) | (go_at_call 18; (with_reducible refine (lines_Words.calls _ _ _ HWD.out).mono ?_); rintro e wb ⟨v, rfl, hr2, hb2⟩; have HBB := Aside0.mk hb2; obtain ⟨A2, c2, rfl⟩ := Kd.R_slice hr2; clear hb2))
        all_goals
          have hnn := HN.out
          go_roundw
          case rel =>
            exact ⟨k + 1, l, a, u, by omega, by go_num, ⟨HI.out.skip HBA.out HBB.out HGO.out⟩⟩
          case measure => rw [hk1]; simp [intOf]; omega
      · rw [if_neg hw] at HPLE
        obtain ⟨sv, hsv⟩ := HI.out.src
        have hll : l.length ≤ 1000000000000 := by have := HI.out.len; have := HN.out; omega
        have HLB := Aside0.mk (LineBad.of hg2 sv l a u ((k : Int) + 1) ws hw HWX.out hll)
        have HLO := Aside0.mk (LineOk.of hg2 sv l a u ((k : Int) + 1) ws hw HWX.out hll)
        have HSV := Aside0.mk hsv
        have hwl3 : ((ws.length : Int) == 0) = false := beq_eq_false_iff_ne.2 (fun h0 => hw (List.length_eq_zero_iff.1 (by omega)))
        rw [HPLE.out] at HGO HPL
        clear hw hsv hll HPLE
        generalize lineStep l false 0 a u (k + 1) ws = st at *
        obtain ⟨r, l2, a2, u2⟩ := st
        by_cases hr0 : r = 0
        · have HL := Aside0.mk (HLO.out hr0)
          have HE := Aside0.mk (HGO.out.trans (if_pos hr0))
          clear HLB HLO HGO hr0
          go_wp2_with (first | (go_at_call 31; (with_reducible refine (hcut.out _).mono ?_); rintro e wa ⟨rfl, hba⟩; have HBA := Aside0.mk hba; clear hba) | (go_at_call 18; (with_reducible refine (lines_Words.calls _ _ _ HWD.out).mono ?_); rintro e wb ⟨v, rfl, hr2, hb2⟩; have HBB := Aside0.mk hb2; obtain ⟨A2, c2, rfl⟩ := Kd.R_slice hr2; have HAL := Aside0.mk (AtLine.make HI.out HSV.out HBA.out HBB.out hr2); clear hr2 hb2) | (go_at_call 32; (with_reducible refine (HL.out _ _ _ HAL.out).mono ?_); rintro e wc ⟨rfl, hc1, hc2, hc3⟩; have HC1 := Aside0.mk hc1; have HC2 := Aside0.mk hc2; have HC3 := Aside0.mk hc3; clear hc1 hc2 hc3))
          all_goals
            have hnn := HN.out
            go_roundw
            case rel => exact ⟨k + 1, l2, a2, u2, by omega, by go_num, ⟨HI.out.line HBA.out HBB.out HC1.out HC2.out HC3.out HPL.out HE.out⟩⟩
            case measure => rw [hk1]; simp [intOf]; omega
        · have hrb : (r == 0) = false := beq_eq_false_iff_ne.2 hr0
          have HL := Aside0.mk HLB.out
          have HE := Aside0.mk (HI.out.eq.trans (HGO.out.trans (if_neg hr0)))
          clear HLB HLO HGO hr0 HPL
          go_wp2_with (first | (go_at_call 31; (with_reducible refine (hcut.out _).mono ?_); rintro e wa ⟨rfl, hba⟩; have HBA := Aside0.mk hba; clear hba) | (go_at_call 18; (with_reducible refine (lines_Words.calls _ _ _ HWD.out).mono ?_); rintro e wb ⟨v, rfl, hr2, hb2⟩; have HBB := Aside0.mk hb2; obtain ⟨A2, c2, rfl⟩ := Kd.R_slice hr2; have HAL := Aside0.mk (AtLine.make HI.out HSV.out HBA.out HBB.out hr2); clear hr2 hb2) | (go_at_call 32; (with_reducible refine (HL.out _ _ _ HAL.out).mono ?_); rintro e wc ⟨rfl, hc1⟩; have HC1 := Aside0.mk hc1; have HM0 := Aside0.mk (blk_below HK0.out hc1); have HM1 := Aside0.mk (blk_below HK1.out hc1); have hm0 : wc.cell? ⟨w.heap.size, 0, none⟩ = some (.slice none 0 0) := (blk_cell HM0.out 0).trans rfl; have hm1 : wc.cell? ⟨w.heap.size, 1, none⟩ = some (.bool false) := (blk_cell HM0.out 1).trans rfl; have hm2 : wc.cell? ⟨w.heap.size, 2, none⟩ = some (.int .i64 0) := (blk_cell HM0.out 2).trans rfl; have hm3 : wc.cell? ⟨w.heap.size + 1, 0, none⟩ = some (.int .i64 0) := (blk_cell HM1.out 0).trans rfl; have hm4 : wc.cell? ⟨w.heap.size + 1, 1, none⟩ = some (.int .i64 0) := (blk_cell HM1.out 1).trans rfl; have hf0 : wc.frozen? ⟨w.heap.size, 0, none⟩ = false := blk_frozen HM0.out 0; have hf1 : wc.frozen? ⟨w.heap.size, 1, none⟩ = false := blk_frozen HM0.out 1; have hf2 : wc.frozen? ⟨w.heap.size, 2, none⟩ = false := blk_frozen HM0.out 2; have hf3 : wc.frozen? ⟨w.heap.size + 1, 0, none⟩ = false := blk_frozen HM1.out 0; have hf4 : wc.frozen? ⟨w.heap.size + 1, 1, none⟩ = false := blk_frozen HM1.out 1; clear hc1))
          all_goals
            have HV := HR.out
            rw [HE.out] at HV
            obtain ⟨rfl, rfl, rfl, rfl, rfl⟩ : l1 = [] ∧ h1 = false ∧ e1 = 0 ∧ n1 = k + 1 ∧ f1 = r := by
              injection HV with q1 q2; injection q2 with q2 q3; injection q3 with q3 q4; injection q4 with q4 q5
              exact ⟨q1.symm, q2.symm, q3.symm, q4.symm, q5.symm⟩
            rw [Exit.noGoto_ret]
            have hlaid := parse_laid HBW.out HC1.out rfl HM0.out HM1.out (.slice none 0 0) (.bool false) (.int .i64 0) (.int .i64 (k + 1)) (.int .i64 f1)
            refine bodyPost_ret (results_cc rfl _ _ w.heap.size (w.heap.size + 1) 24 31 #[.slice none 0 0, .bool false, .int .i64 0] #[.int .i64 (k + 1), .int .i64 f1] (0, 0) (0, 0) _ _ rfl hlaid.1 hu24 rfl (by kernel_rfl) rfl hlaid.2.1 hu31 rfl (by kernel_rfl)) rfl ⟨_, rfl, Kd.R_nil _ _ _ _ _, hlaid.2.2⟩
    · have hkn : k = ls.length := by omega
      subst hkn
      have HEQ : Aside0 (parseGo 0 ls [] 0 0 = .inr (l, a, u)) := ⟨HI.out.eq.trans (by rw [List.drop_length]; rfl)⟩
      have HV := HR.out
      rw [HEQ.out] at HV
      have hvals : (l1, h1, e1, n1, f1) = parseEnd (.inr (l, a, u)) := HV.symm
      clear HV
      have HVAL := Aside0.mk hvals
      clear hvals
      obtain ⟨sv, hsv⟩ := HI.out.src
      obtain ⟨As, cs, rfl⟩ := Kd.R_slice hsv.row
      have HSV := Aside0.mk hsv
      have HLL := Aside0.mk HI.out.len
      have HBL := Aside0.mk HI.out.bel
      have HGE := Aside0.mk hsv.blk
      have HNN := HN.out
      have HM0 := Aside0.mk (blk_below HK0.out HBL.out)
      have HM1 := Aside0.mk (blk_below HK1.out HBL.out)
      have hm0 : wr.cell? ⟨w.heap.size, 0, none⟩ = some (.slice none 0 0) := (blk_cell HM0.out 0).trans rfl
      have hm1 : wr.cell? ⟨w.heap.size, 1, none⟩ = some (.bool false) := (blk_cell HM0.out 1).trans rfl
      have hm2 : wr.cell? ⟨w.heap.size, 2, none⟩ = some (.int .i64 0) := (blk_cell HM0.out 2).trans rfl
      have hm3 : wr.cell? ⟨w.heap.size + 1, 0, none⟩ = some (.int .i64 0) := (blk_cell HM1.out 0).trans rfl
      have hm4 : wr.cell? ⟨w.heap.size + 1, 1, none⟩ = some (.int .i64 0) := (blk_cell HM1.out 1).trans rfl
      have hf0 : wr.frozen? ⟨w.heap.size, 0, none⟩ = false := blk_frozen HM0.out 0
      have hf1 : wr.frozen? ⟨w.heap.size, 1, none⟩ = false := blk_frozen HM0.out 1
      have hf2 : wr.frozen? ⟨w.heap.size, 2, none⟩ = false := blk_frozen HM0.out 2
      have hf3 : wr.frozen? ⟨w.heap.size + 1, 0, none⟩ = false := blk_frozen HM1.out 0
      have hf4 : wr.frozen? ⟨w.heap.size + 1, 1, none⟩ = false := blk_frozen HM1.out 1
      have hg5 : wr.cell? ⟨w.heap.size + 2, 0, none⟩ = some (.slice As l.length cs) := (blk_cell HGE.out 0).trans rfl
      have hgf0 : wr.frozen? ⟨w.heap.size + 2, 0, none⟩ = false := blk_frozen HGE.out 0
      have hg6 : wr.cell? ⟨w.heap.size + 2, 1, none⟩ = some (.bool false) := (blk_cell HGE.out 1).trans rfl
      have hgf1 : wr.frozen? ⟨w.heap.size + 2, 1, none⟩ = false := blk_frozen HGE.out 1
      have hg7 : wr.cell? ⟨w.heap.size + 2, 2, none⟩ = some (.int .i64 0) := (blk_cell HGE.out 2).trans rfl
      have hgf2 : wr.frozen? ⟨w.heap.size + 2, 2, none⟩ = false := blk_frozen HGE.out 2
      have hg8 : wr.cell? ⟨w.heap.size + 2, 3, none⟩ = some (.int .i64 a) := (blk_cell HGE.out 3).trans rfl
      have hgf3 : wr.frozen? ⟨w.heap.size + 2, 3, none⟩ = false := blk_frozen HGE.out 3
      have hg9 : wr.cell? ⟨w.heap.size + 2, 4, none⟩ = some (.int .i64 u) := (blk_cell HGE.out 4).trans rfl
      have hgf4 : wr.frozen? ⟨w.heap.size + 2, 4, none⟩ = false := blk_frozen HGE.out 4
      have hu22 : Tryd.prog.underlying 22 = _ := Tryd.underlying22
      have hu46 := Tryd.underlying46
      clear hsv HI
      by_cases ha : 0 < a
      · have hda : decide (0 < a) = true := decide_eq_true ha
        have HG13 : Aside0 (((wr.setCell ⟨w.heap.size + 2, 1, none⟩ (.bool true)).setCell ⟨w.heap.size + 2, 2, none⟩ (.int .i64 u)).heap[w.heap.size + 2]? = some (.cells #[.slice As l.length cs, .bool true, .int .i64 u, .int .i64 a, .int .i64 u] 59 (0, 0))) := ⟨blk_put (blk_put HGE.out 1 _ rfl) 2 _ rfl⟩
        have HB13 : Aside0 (Below W.heap.size W ((wr.setCell ⟨w.heap.size + 2, 1, none⟩ (.bool true)).setCell ⟨w.heap.size + 2, 2, none⟩ (.int .i64 u))) := ⟨(HBL.out.setCell (p := ⟨w.heap.size + 2, 1, none⟩) hg2 _).setCell (p := ⟨w.heap.size + 2, 2, none⟩) hg2 _⟩
        have HR13 : Aside0 (Kd.R k46 46 ((wr.setCell ⟨w.heap.size + 2, 1, none⟩ (.bool true)).setCell ⟨w.heap.size + 2, 2, none⟩ (.int .i64 u)) W.heap.size (fun k => k ≠ w.heap.size + 2) (.slice As l.length cs) l) := ⟨Kd.R_far (p := ⟨w.heap.size + 2, 2, none⟩) (Kd.R_far (p := ⟨w.heap.size + 2, 1, none⟩) HSV.out.row (fun _ h => h) _) (fun _ h => h) _⟩
        have HC13 := Aside0.mk (Kd.R_reads' HR13.out).2.2
        have HCC := Aside0.mk (Kd.R_reads' HR13.out).2.1
        by_cases hrt : rightN l true u = true
        · have HRT : Aside0 (leap_Right.f l true u = some true) := ⟨by unfold leap_Right.f; rw [if_pos (by have := HLL.out; omega), hrt]⟩
          have HV : (l1, h1, e1, n1, f1) = (l, true, u, 0, 0) := by rw [HVAL.out]; unfold parseEnd; simp only; rw [if_pos ha, if_pos hrt]
          have HV := Aside0.mk HV
          clear hrt
          go_wp2_with (go_at_call 14; (with_reducible refine (leap_Right.calls _ _ _ _ _ _ _ HC13.out HCC.out HRT.out).mono ?_); rintro e we ⟨rfl, hbe⟩; have HBE := Aside0.mk (HB13.out.trans (hbe.mono HB13.out.size)); have HGF := Aside0.mk (blk_below HG13.out hbe); have HRE := Aside0.mk (Kd.R_below HR13.out hbe); have HM0 := Aside0.mk (blk_below HK0.out HBE.out); have HM1 := Aside0.mk (blk_below HK1.out HBE.out); have hm0 : we.cell? ⟨w.heap.size, 0, none⟩ = some (.slice none 0 0) := (blk_cell HM0.out 0).trans rfl; have hm1 : we.cell? ⟨w.heap.size, 1, none⟩ = some (.bool false) := (blk_cell HM0.out 1).trans rfl; have hm2 : we.cell? ⟨w.heap.size, 2, none⟩ = some (.int .i64 0) := (blk_cell HM0.out 2).trans rfl; have hm3 : we.cell? ⟨w.heap.size + 1, 0, none⟩ = some (.int .i64 0) := (blk_cell HM1.out 0).trans rfl; have hm4 : we.cell? ⟨w.heap.size + 1, 1, none⟩ = some (.int .i64 0) := (blk_cell HM1.out 1).trans rfl; have hf0 : we.frozen? ⟨w.heap.size, 0, none⟩ = false := blk_frozen HM0.out 0; have hf1 : we.frozen? ⟨w.heap.size, 1, none⟩ = false := blk_frozen HM0.out 1; have hf2 : we.frozen? ⟨w.heap.size, 2, none⟩ = false := blk_frozen HM0.out 2; have hf3 : we.frozen? ⟨w.heap.size + 1, 0, none⟩ = false := blk_frozen HM1.out 0; have hf4 : we.frozen? ⟨w.heap.size + 1, 1, none⟩ = false := blk_frozen HM1.out 1; have hg5 : we.cell? ⟨w.heap.size + 2, 0, none⟩ = some (.slice As l.length cs) := (blk_cell HGF.out 0).trans rfl; have hg6 : we.cell? ⟨w.heap.size + 2, 1, none⟩ = some (.bool true) := (blk_cell HGF.out 1).trans rfl; have hg7 : we.cell? ⟨w.heap.size + 2, 2, none⟩ = some (.int .i64 u) := (blk_cell HGF.out 2).trans rfl; have hg8 : we.cell? ⟨w.heap.size + 2, 3, none⟩ = some (.int .i64 a) := (blk_cell HGF.out 3).trans rfl; have hg9 : we.cell? ⟨w.heap.size + 2, 4, none⟩ = some (.int .i64 u) := (blk_cell HGF.out 4).trans rfl; clear hbe)
          all_goals
            have HV := HV.out
            obtain ⟨rfl, rfl, rfl, rfl, rfl⟩ : l = l1 ∧ true = h1 ∧ u = e1 ∧ 0 = n1 ∧ 0 = f1 := by
              injection HV with q1 q2; injection q2 with q2 q3; injection q3 with q3 q4; injection q4 with q4 q5
              exact ⟨q1.symm, q2.symm, q3.symm, q4.symm, q5.symm⟩
            have hlaid := parse_laid HBW.out HBE.out rfl HM0.out HM1.out (.slice As l.length cs) (.bool true) (.int .i64 u) (.int .i64 0) (.int .i64 0)
            first | rw [Exit.noGoto_ret] | skip
            refine bodyPost_ret (results_cc rfl _ _ w.heap.size (w.heap.size + 1) 24 31 #[.slice As l.length cs, .bool true, .int .i64 u] #[.int .i64 0, .int .i64 0] (0, 0) (0, 0) _ _ rfl hlaid.1 hu24 rfl (by kernel_rfl) rfl hlaid.2.1 hu31 rfl (by kernel_rfl)) rfl ⟨_, rfl, parse_row HRE.out HBW.out.size (by omega) _ _ _ _ _, hlaid.2.2⟩
        · have HRT : Aside0 (leap_Right.f l true u = some false) := ⟨by unfold leap_Right.f; rw [if_pos (by have := HLL.out; omega)]; congr 1; simpa using hrt⟩
          have HV : (l1, h1, e1, n1, f1) = ([], false, 0, a, 9) := by rw [HVAL.out]; unfold parseEnd; simp only; rw [if_pos ha, if_neg hrt]
          have HV := Aside0.mk HV
          clear hrt
          go_wp2_with (go_at_call 14; (with_reducible refine (leap_Right.calls _ _ _ _ _ _ _ HC13.out HCC.out HRT.out).mono ?_); rintro e we ⟨rfl, hbe⟩; have HBE := Aside0.mk (HB13.out.trans (hbe.mono HB13.out.size)); have HGF := Aside0.mk (blk_below HG13.out hbe); have HRE := Aside0.mk (Kd.R_below HR13.out hbe); have HM0 := Aside0.mk (blk_below HK0.out HBE.out); have HM1 := Aside0.mk (blk_below HK1.out HBE.out); have hm0 : we.cell? ⟨w.heap.size, 0, none⟩ = some (.slice none 0 0) := (blk_cell HM0.out 0).trans rfl; have hm1 : we.cell? ⟨w.heap.size, 1, none⟩ = some (.bool false) := (blk_cell HM0.out 1).trans rfl; have hm2 : we.cell? ⟨w.heap.size, 2, none⟩ = some (.int .i64 0) := (blk_cell HM0.out 2).trans rfl; have hm3 : we.cell? ⟨w.heap.size + 1, 0, none⟩ = some (.int .i64 0) := (blk_cell HM1.out 0).trans rfl; have hm4 : we.cell? ⟨w.heap.size + 1, 1, none⟩ = some (.int .i64 0) := (blk_cell HM1.out 1).trans rfl; have hf0 : we.frozen? ⟨w.heap.size, 0, none⟩ = false := blk_frozen HM0.out 0; have hf1 : we.frozen? ⟨w.heap.size, 1, none⟩ = false := blk_frozen HM0.out 1; have hf2 : we.frozen? ⟨w.heap.size, 2, none⟩ = false := blk_frozen HM0.out 2; have hf3 : we.frozen? ⟨w.heap.size + 1, 0, none⟩ = false := blk_frozen HM1.out 0; have hf4 : we.frozen? ⟨w.heap.size + 1, 1, none⟩ = false := blk_frozen HM1.out 1; have hg5 : we.cell? ⟨w.heap.size + 2, 0, none⟩ = some (.slice As l.length cs) := (blk_cell HGF.out 0).trans rfl; have hg6 : we.cell? ⟨w.heap.size + 2, 1, none⟩ = some (.bool true) := (blk_cell HGF.out 1).trans rfl; have hg7 : we.cell? ⟨w.heap.size + 2, 2, none⟩ = some (.int .i64 u) := (blk_cell HGF.out 2).trans rfl; have hg8 : we.cell? ⟨w.heap.size + 2, 3, none⟩ = some (.int .i64 a) := (blk_cell HGF.out 3).trans rfl; have hg9 : we.cell? ⟨w.heap.size + 2, 4, none⟩ = some (.int .i64 u) := (blk_cell HGF.out 4).trans rfl; clear hbe)
          all_goals
            go_region
            all_goals
              go_wp2_with fail
              have HV := HV.out
              obtain ⟨rfl, rfl, rfl, rfl, rfl⟩ : [] = l1 ∧ false = h1 ∧ 0 = e1 ∧ a = n1 ∧ 9 = f1 := by
                injection HV with q1 q2; injection q2 with q2 q3; injection q3 with q3 q4; injection q4 with q4 q5
                exact ⟨q1.symm, q2.symm, q3.symm, q4.symm, q5.symm⟩
              have hlaid := parse_laid HBW.out HBE.out rfl HM0.out HM1.out (.slice none 0 0) (.bool false) (.int .i64 0) (.int .i64 a) (.int .i64 9)
              first | rw [Exit.noGoto_ret] | skip
              refine bodyPost_ret (results_cc rfl _ _ w.heap.size (w.heap.size + 1) 24 31 #[.slice none 0 0, .bool false, .int .i64 0] #[.int .i64 a, .int .i64 9] (0, 0) (0, 0) _ _ rfl hlaid.1 hu24 rfl (by kernel_rfl) rfl hlaid.2.1 hu31 rfl (by kernel_rfl)) rfl ⟨_, rfl, Kd.R_nil _ _ _ _ _, hlaid.2.2.drew⟩
      · have HV : (l1, h1, e1, n1, f1) = (l, false, 0, 0, 0) := by rw [HVAL.out]; unfold parseEnd; simp only; rw [if_neg ha]
        have HV := Aside0.mk HV
        go_wp2_with fail
        all_goals
          have HV := HV.out
          obtain ⟨rfl, rfl, rfl, rfl, rfl⟩ : l = l1 ∧ false = h1 ∧ 0 = e1 ∧ 0 = n1 ∧ 0 = f1 := by
            injection HV with q1 q2; injection q2 with q2 q3; injection q3 with q3 q4; injection q4 with q4 q5
            exact ⟨q1.symm, q2.symm, q3.symm, q4.symm, q5.symm⟩
          have hlaid := parse_laid HBW.out HBL.out rfl HM0.out HM1.out (.slice As l.length cs) (.bool false) (.int .i64 0) (.int .i64 0) (.int .i64 0)
          first | rw [Exit.noGoto_ret] | skip
          refine bodyPost_ret (results_cc rfl _ _ w.heap.size (w.heap.size + 1) 24 31 #[.slice As l.length cs, .bool false, .int .i64 0] #[.int .i64 0, .int .i64 0] (0, 0) (0, 0) _ _ rfl hlaid.1 hu24 rfl (by kernel_rfl) rfl hlaid.2.1 hu31 rfl (by kernel_rfl)) rfl ⟨_, rfl, parse_row HSV.out.row HBW.out.size (by omega) _ _ _ _ _, hlaid.2.2⟩
end Go.Proofs.YtodalfobehddmaaDoor.Y
namespace Go.Proofs.YtodalfobehddmaaDoor.Y
open Go.RowKit Go.Proofs.YtodalfobehddmaaDoorW.PrintWords Go.Proofs.YtodalfobehddmaaDoorW.PrintLast Go.Proofs.YtodalfobehddmaaDoor.Mx
open Go.Proofs.YtodalfobehddmaaDoor.Z
theorem rawSplit_len (c : UInt8) : ∀ l : List UInt8, (rawSplit c l).length ≤ l.length + 1 ∧ ∀ y ∈ rawSplit c l, y.length ≤ l.length
  | [] => by simp [rawSplit]
  | b :: t => by
    have ih := rawSplit_len c t
    rw [rawSplit]
    split
    · refine ⟨by simp; omega, fun y hy => ?_⟩
      rcases List.mem_cons.1 hy with rfl | hy
      · simp
      · have := ih.2 y hy; simp; omega
    · rcases hq : rawSplit c t with _ | ⟨g, r⟩
      · simp
      · rw [hq] at ih
        refine ⟨by have := ih.1; simp at *; omega, fun y hy => ?_⟩
        rcases List.mem_cons.1 hy with rfl | hy
        · have := ih.2 g (by simp); simp; omega
        · have := ih.2 y (by simp [hy]); simp; omega
theorem lastOff_sub (p : List (List UInt8)) : (lastOff p).length ≤ p.length ∧ ∀ y ∈ lastOff p, y ∈ p := by
  unfold lastOff
  split
  · exact ⟨by simp, fun y hy => (List.dropLast_sublist p).subset hy⟩
  · exact ⟨Nat.le_refl _, fun _ h => h⟩
theorem trimCR_len (l : List UInt8) : (trimCR l).length ≤ l.length := by
  unfold trimCR
  split
  · simp
  · exact Nat.le_refl _
theorem linesL_len (l : List UInt8) : (linesL l).length ≤ l.length + 1 ∧ ∀ y ∈ linesL l, y.length ≤ l.length := by
  unfold linesL
  have h1 := rawSplit_len 10 l
  have h2 := lastOff_sub (rawSplit 10 l)
  refine ⟨by rw [List.length_map]; omega, fun y hy => ?_⟩
  obtain ⟨z, hz, rfl⟩ := List.mem_map.1 hy
  exact Nat.le_trans (trimCR_len z) (h1.2 z (h2.2 z hz))
def zic_Parse.f (a0 : ByteArray) : Option ((List (S46)) × Bool × Int × Int × Int) := if a0.size ≤ 4294967280 then some (parseL a0.data.toList) else none
theorem zic_Parse.calls (a0 : ByteArray) (r1 : List (S46)) (r2 : Bool) (r3 : Int) (r4 : Int) (r5 : Int) (w : World) (h : zic_Parse.f a0 = some (r1, r2, r3, r4, r5)) :
    Calls Tryd.prog 15 #[.string a0] w fun e w' => ∃ v0_ : Value, e = .returned (.tuple #[.agg #[v0_, .bool r2, .int .i64 r3], .agg #[.int .i64 r4, .int .i64 r5]]) ∧ Kd.R k46 46 w' w.heap.size (fun _ => True) v0_ r1 ∧ Below w.heap.size w w' := by
  unfold zic_Parse.f at h
  split at h
  · rename_i hz
    have hp := Option.some.inj h
    have hl := linesL_len a0.data.toList
    have hs : a0.data.toList.length = a0.size := rfl
    exact parse_walk a0 _ rfl (by omega) (by omega) (fun x hx => by have := hl.2 x hx; omega) r1 r2 r3 r4 r5 hp w
  · cases h
end Go.Proofs.YtodalfobehddmaaDoor.Y
namespace Go.Proofs.YtodalfobehddmaaDoor.Y.S
open Go.RowKit Go.Proofs.YtodalfobehddmaaDoorW.PrintWords Go.Proofs.YtodalfobehddmaaDoorW.PrintLast Go.Proofs.YtodalfobehddmaaDoor.Mx
attribute [local go_sem] max2_int min2_int max_two min_two max_three min_three   -- for this text's walks alone
open Go.Proofs.YtodalfobehddmaaDoor.Z
theorem eqA31 (d : Nat) (w : World) (x0 y0 : Int) (x1 y1 : Int) :
    (Op.equalIn (d + 2) 31 (.agg #[.int .i64 x0, .int .i64 x1]) (.agg #[.int .i64 y0, .int .i64 y1])).run Tryd.prog w = .ok (x0 == y0 && (x1 == y1)) w := by
  refine eqA_of Tryd.underlying31 (by kernel_rfl) ?_
  refine eqf_cons (by rfl) (by go_simp; rfl) (by go_simp; rfl) (by go_simp) ?_
  exact eqf_last (by rfl) (by go_simp; rfl) (by go_simp; rfl) (by go_simp)
end Go.Proofs.YtodalfobehddmaaDoor.Y.S
namespace Go.Proofs.YtodalfobehddmaaDoor.Y
open Go.RowKit Go.Proofs.YtodalfobehddmaaDoorW.PrintWords Go.Proofs.YtodalfobehddmaaDoorW.PrintLast Go.Proofs.YtodalfobehddmaaDoor.Mx
open Go.Proofs.YtodalfobehddmaaDoor.Z
inductive Lies where
  | tab (A : Option Addr) (c : Nat) (l : List S46) (has : Bool) (exp : Int)
  | flt (line code : Int)
def Lies.at_ (W : World) (g : Nat) : Lies → Prop
  | .tab A c l has exp => W.heap[g]? = some (.cells #[.slice A l.length c, .bool has, .int .i64 exp] 24 (0, 0)) ∧ Kd.C k46 W A l.length l ∧ l.length ≤ c
  | .flt line code => W.heap[g]? = some (.cells #[.int .i64 line, .int .i64 code] 31 (0, 0))
theorem Lies.below {W W' : World} {g : Nat} {x : Lies} (h : x.at_ W g) (hb : Below W.heap.size W W') : x.at_ W' g := by
  cases x with
  | tab A c l has exp => exact ⟨blk_below h.1 hb, Kd.C_below h.2.1 hb, h.2.2⟩
  | flt line code => exact blk_below h hb
structure St (w W : World) (bs : List (Nat × Lies)) : Prop where
  bel : Below w.heap.size w W
  all : ∀ p ∈ bs, p.2.at_ W p.1
theorem St.below {w W W' : World} {bs : List (Nat × Lies)} (h : St w W bs) (hb : Below W.heap.size W W') : St w W' bs :=
  ⟨h.bel.trans (hb.mono h.bel.size), fun p hp => Lies.below (h.all p hp) hb⟩
theorem St.flt {w W W' : World} {bs : List (Nat × Lies)} {xs : Array Value} {line code : Int} (h : St w W bs)
    (hb : Below ((W.alloc (.cells xs 24)).alloc (.cells #[.int .i64 line, .int .i64 code] 31)).heap.size ((W.alloc (.cells xs 24)).alloc (.cells #[.int .i64 line, .int .i64 code] 31)) W') :
    St w W' ((W.heap.size + 1, .flt line code) :: bs) := by
  have hb1 : Below W.heap.size W (W.alloc (.cells xs 24)) := (Below.refl _ _).alloc (Nat.le_refl _) _
  have hn := blk_new (W.alloc (.cells xs 24)) (.cells #[.int .i64 line, .int .i64 code] 31 (0, 0))
  have hb2 : Below (W.alloc (.cells xs 24)).heap.size (W.alloc (.cells xs 24)) ((W.alloc (.cells xs 24)).alloc (.cells #[.int .i64 line, .int .i64 code] 31)) := (Below.refl _ _).alloc (Nat.le_refl _) _
  have h2 := ((h.below hb1).below hb2).below hb
  refine ⟨h2.bel, fun p hp => ?_⟩
  rcases List.mem_cons.1 hp with rfl | hp
  · have e : (W.alloc (.cells xs 24)).heap.size = W.heap.size + 1 := by simp
    rw [e] at hn
    exact Lies.below (x := .flt line code) hn hb
  · exact h2.all p hp
theorem St.tab {w W W' : World} {bs : List (Nat × Lies)} {A : Option Addr} {c : Nat} {l : List S46} {has : Bool} {exp line code : Int} (h : St w W bs) (hr : Kd.C k46 W A l.length l ∧ l.length ≤ c)
    (hb : Below ((W.alloc (.cells #[.slice A l.length c, .bool has, .int .i64 exp] 24)).alloc (.cells #[.int .i64 line, .int .i64 code] 31)).heap.size ((W.alloc (.cells #[.slice A l.length c, .bool has, .int .i64 exp] 24)).alloc (.cells #[.int .i64 line, .int .i64 code] 31)) W') :
    St w W' ((W.heap.size, .tab A c l has exp) :: (W.heap.size + 1, .flt line code) :: bs) := by
  have h2 := h.flt hb
  have hb1 : Below W.heap.size W (W.alloc (.cells #[.slice A l.length c, .bool has, .int .i64 exp] 24)) := (Below.refl _ _).alloc (Nat.le_refl _) _
  have hb2 : Below (W.alloc (.cells #[.slice A l.length c, .bool has, .int .i64 exp] 24)).heap.size (W.alloc (.cells #[.slice A l.length c, .bool has, .int .i64 exp] 24)) ((W.alloc (.cells #[.slice A l.length c, .bool has, .int .i64 exp] 24)).alloc (.cells #[.int .i64 line, .int .i64 code] 31)) := (Below.refl _ _).alloc (Nat.le_refl _) _
  have hn := blk_new W (.cells #[.slice A l.length c, .bool has, .int .i64 exp] 24 (0, 0))
  refine ⟨h2.bel, fun p hp => ?_⟩
  rcases List.mem_cons.1 hp with rfl | hp
  · exact Lies.below (x := .tab A c l has exp) (Lies.below (x := .tab A c l has exp) ⟨hn, Kd.C_below hr.1 hb1, hr.2⟩ hb2) hb
  · exact h2.all p hp
def tinyL : List S46 := [⟨911, 1, false⟩, ⟨1095, -1, true⟩]
def tinyCells : Array Value := #[.int .i64 911, .int .i64 1, .bool false, .int .i64 1095, .int .i64 (-1), .bool true]
theorem tiny_row {W : World} {g : Nat} (h : W.heap[g]? = some (.cells tinyCells 46 (0, 0))) : Kd.C k46 W (some ⟨g, 0, none⟩) 2 tinyL := by
  refine ⟨rfl, by decide, fun _ => ⟨_, rfl, fun j p hp => ?_⟩⟩
  have hj : j = 0 ∨ j = 1 := by
    have := (List.getElem?_eq_some_iff.1 hp).1
    simp [tinyL] at this
    omega
  rcases hj with rfl | rfl
  · have : p = ⟨911, 1, false⟩ := by simpa [tinyL] using hp.symm
    subst this
    refine ⟨_, rfl, k46_mk _ _, fun i u hu => ?_⟩
    have hi : i = 0 ∨ i = 1 ∨ i = 2 := by
      have := (List.getElem?_eq_some_iff.1 hu).1
      simp at this
      omega
    rcases hi with rfl | rfl | rfl <;> exact (blk_cell h _).trans hu
  · have : p = ⟨1095, -1, true⟩ := by simpa [tinyL] using hp.symm
    subst this
    refine ⟨_, rfl, k46_mk _ _, fun i u hu => ?_⟩
    have hi : i = 0 ∨ i = 1 ∨ i = 2 := by
      have := (List.getElem?_eq_some_iff.1 hu).1
      simp at this
      omega
    rcases hi with rfl | rfl | rfl <;> exact (blk_cell h _).trans hu
theorem St.first {w W W' : World} {A : Option Addr} {c : Nat} {l : List S46} {has : Bool} {exp : Int} (hb0 : Below w.heap.size w W) (hr : Kd.C k46 W A l.length l ∧ l.length ≤ c)
    (hb : Below ((((W.alloc (.cells #[.slice A l.length c, .bool has, .int .i64 exp] 24)).alloc (.cells #[.int .i64 0, .int .i64 0] 31)).alloc (.cells #[.int .i64 911, .int .i64 1, .bool false, .int .i64 1095, .int .i64 (-1), .bool true] 46)).alloc (.cells #[.slice (some ⟨W.heap.size + 1 + 1, 0, none⟩) 2 2, .bool true, .int .i64 126230405] 24)).heap.size
      ((((W.alloc (.cells #[.slice A l.length c, .bool has, .int .i64 exp] 24)).alloc (.cells #[.int .i64 0, .int .i64 0] 31)).alloc (.cells #[.int .i64 911, .int .i64 1, .bool false, .int .i64 1095, .int .i64 (-1), .bool true] 46)).alloc (.cells #[.slice (some ⟨W.heap.size + 1 + 1, 0, none⟩) 2 2, .bool true, .int .i64 126230405] 24)) W') :
    St w W' [(W.heap.size, .tab A c l has exp), (W.heap.size + 1, .flt 0 0), (W.heap.size + 1 + 1 + 1, .tab (some ⟨W.heap.size + 1 + 1, 0, none⟩) 2 tinyL true 126230405)] := by
  have h0 : St w W [] := ⟨hb0, fun p hp => by cases hp⟩
  have h1 := h0.tab (has := has) (exp := exp) (line := 0) (code := 0) hr (Below.refl _ _)
  have e1 : ((W.alloc (.cells #[.slice A l.length c, .bool has, .int .i64 exp] 24)).alloc (.cells #[.int .i64 0, .int .i64 0] 31)).heap.size = W.heap.size + 1 + 1 := by simp
  generalize (W.alloc (.cells #[.slice A l.length c, .bool has, .int .i64 exp] 24)).alloc (.cells #[.int .i64 0, .int .i64 0] 31) = W1 at *
  have hn := blk_new W1 (.cells tinyCells 46 (0, 0))
  have hb1 : Below W1.heap.size W1 (W1.alloc (.cells #[.int .i64 911, .int .i64 1, .bool false, .int .i64 1095, .int .i64 (-1), .bool true] 46)) := (Below.refl _ _).alloc (Nat.le_refl _) _
  have h2 := h1.below hb1
  have e2 : (W1.alloc (.cells #[.int .i64 911, .int .i64 1, .bool false, .int .i64 1095, .int .i64 (-1), .bool true] 46)).heap.size = W.heap.size + 1 + 1 + 1 := by simp; omega
  have hn2 : (W1.alloc (.cells #[.int .i64 911, .int .i64 1, .bool false, .int .i64 1095, .int .i64 (-1), .bool true] 46)).heap[W1.heap.size]? = some (.cells tinyCells 46 (0, 0)) := hn
  generalize W1.alloc (.cells #[.int .i64 911, .int .i64 1, .bool false, .int .i64 1095, .int .i64 (-1), .bool true] 46) = W2 at *
  rw [e1] at hn2
  have hb2 : Below W2.heap.size W2 (W2.alloc (.cells #[.slice (some ⟨W.heap.size + 1 + 1, 0, none⟩) 2 2, .bool true, .int .i64 126230405] 24)) := (Below.refl _ _).alloc (Nat.le_refl _) _
  have h3 := (h2.below hb2).below hb
  have hn3 := blk_new W2 (.cells #[.slice (some ⟨W.heap.size + 1 + 1, 0, none⟩) 2 2, .bool true, .int .i64 126230405] 24 (0, 0))
  rw [e2] at hn3
  refine ⟨h3.bel, fun p hp => ?_⟩
  simp only [List.mem_cons, List.mem_nil_iff, or_false] at hp
  rcases hp with rfl | rfl | rfl
  · exact h3.all _ (by simp)
  · exact h3.all _ (by simp)
  · exact Lies.below (x := .tab (some ⟨W.heap.size + 1 + 1, 0, none⟩) 2 tinyL true 126230405) ⟨hn3, tiny_row (blk_below hn2 hb2), by decide⟩ hb
theorem St.tabAt {w W : World} {bs : List (Nat × Lies)} (h : St w W bs) {g : Nat} {A : Option Addr} {c : Nat} {l : List S46} {has : Bool} {exp : Int} {n : Nat} (hn : l.length = n) (hm : (g, Lies.tab A c l has exp) ∈ bs) :
    (W.cell? ⟨g, 0, none⟩ = some (.slice A n c) ∧ W.cell? ⟨g, 1, none⟩ = some (.bool has) ∧ W.cell? ⟨g, 2, none⟩ = some (.int .i64 exp)) ∧ Kd.C k46 W A l.length l ∧ l.length ≤ c :=
  have h1 := h.all _ hm
  ⟨⟨(blk_cell h1.1 0).trans (by subst hn; rfl), (blk_cell h1.1 1).trans rfl, (blk_cell h1.1 2).trans rfl⟩, h1.2⟩
theorem St.fltAt {w W : World} {bs : List (Nat × Lies)} (h : St w W bs) {g : Nat} {line code : Int} (hm : (g, Lies.flt line code) ∈ bs) :
    W.cell? ⟨g, 0, none⟩ = some (.int .i64 line) ∧ W.cell? ⟨g, 1, none⟩ = some (.int .i64 code) :=
  have h1 : W.heap[g]? = some (.cells #[.int .i64 line, .int .i64 code] 31 (0, 0)) := h.all _ hm
  ⟨(blk_cell h1 0).trans rfl, (blk_cell h1 1).trans rfl⟩
@[reducible] def ParsesTo (s : ByteArray) (l : List S46) (n : Nat) (has : Bool) (exp line code : Int) : Prop := ∀ w : World,
  Calls Tryd.prog 15 #[.string s] w fun e w' => ∃ (A : Option Addr) (c : Nat), e = .returned (.tuple #[.agg #[.slice A n c, .bool has, .int .i64 exp], .agg #[.int .i64 line, .int .i64 code]]) ∧ (Kd.C k46 w' A l.length l ∧ l.length ≤ c) ∧ Below w.heap.size w w'
theorem parses {s : ByteArray} {l : List S46} {n : Nat} {has : Bool} {exp line code : Int} (hn : l.length = n) (h : zic_Parse.f s = some (l, has, exp, line, code)) : ParsesTo s l n has exp line code := by
  intro w
  subst hn
  refine (zic_Parse.calls s l has exp line code w h).mono ?_
  rintro e w' ⟨v, rfl, hR, hb⟩
  obtain ⟨A, c, rfl, h1, h2⟩ := Kd.R_reads hR
  exact ⟨A, c, rfl, ⟨h2, h1⟩, hb⟩
theorem small_p1 : ParsesTo (⟨#[35, 32, 120, 10, 76, 101, 97, 112, 9, 49, 57, 55, 50, 9, 74, 117, 110, 9, 51, 48, 9, 50, 51, 58, 53, 57, 58, 54, 48, 9, 43, 9, 83, 32, 35, 32, 121, 10, 10, 108, 101, 97, 112, 32, 49, 57, 55, 50, 32, 68, 69, 67, 69, 77, 66, 69, 82, 32, 51, 49, 32, 50, 51, 58, 53, 57, 58, 53, 57, 32, 45, 32, 114, 111, 108, 108, 10, 69, 120, 112, 105, 114, 101, 115, 32, 49, 57, 55, 52, 32, 74, 97, 110, 32, 49, 32, 48, 58, 48, 48, 58, 48, 53, 10]⟩ : ByteArray) tinyL 2 true 126230405 0 0 := parses rfl (by kernel_rfl)
theorem small_p2 : ParsesTo (⟨#[76, 101, 97, 112, 32, 49, 57, 55, 50, 32, 74, 117, 110, 32, 51, 48, 32, 50, 51, 58, 53, 57, 58, 53, 57, 32, 43, 32, 83]⟩ : ByteArray) [] 0 false 0 1 6 := parses rfl (by kernel_rfl)
theorem small_p3 : ParsesTo (⟨#[10, 76, 101, 97, 112, 32, 49, 57, 55, 50, 32, 74, 117, 110, 32, 50, 57, 32, 50, 51, 58, 53, 57, 58, 54, 48, 32, 43, 32, 83]⟩ : ByteArray) [] 0 false 0 2 5 := parses rfl (by kernel_rfl)
theorem small_p4 : ParsesTo (⟨#[76, 101, 97, 112, 32, 49, 57, 55, 50, 32, 74, 117, 110, 32, 51, 49, 32, 50, 51, 58, 53, 57, 58, 54, 48, 32, 43, 32, 83]⟩ : ByteArray) [] 0 false 0 1 9 := parses rfl (by kernel_rfl)
theorem small_p5 : ParsesTo (⟨#[76, 101, 97, 112, 32, 49, 57, 55, 50, 32, 74, 117, 32, 51, 48, 32, 50, 51, 58, 53, 57, 58, 54, 48, 32, 43, 32, 83]⟩ : ByteArray) [] 0 false 0 1 2 := parses rfl (by kernel_rfl)
theorem small_p6 : ParsesTo (⟨#[69, 120, 112, 105, 114, 101, 115, 32, 49, 57, 55, 51, 32, 74, 97, 110, 32, 49, 32, 48, 58, 48, 58, 48, 10, 69, 120, 112, 105, 114, 101, 115, 32, 49, 57, 55, 51, 32, 74, 97, 110, 32, 49, 32, 48, 58, 48, 58, 48]⟩ : ByteArray) [] 0 false 0 2 2 := parses rfl (by kernel_rfl)
theorem small_p7 : ParsesTo (⟨#[76, 101, 97, 112, 9, 49, 57, 55, 50, 9, 74, 117, 110, 9, 51, 48, 9, 50, 51, 58, 53, 57, 58, 54, 48, 9, 43, 9, 83, 10, 76, 101, 97, 112, 9, 49, 57, 55, 50, 9, 68, 101, 99, 9, 51, 49, 9, 50, 51, 58, 53, 57, 58, 53, 57, 9, 45, 9, 82, 10, 69, 120, 112, 105, 114, 101, 115, 9, 49, 57, 55, 52, 9, 74, 97, 110, 9, 49, 9, 48, 48, 58, 48, 48, 58, 48, 53, 10]⟩ : ByteArray) tinyL 2 true 126230405 0 0 := parses rfl (by kernel_rfl)
theorem small_t {w : World} {A : Option Addr} {c : Nat} (hC : Kd.C k46 w A tinyL.length tinyL) (hc : tinyL.length ≤ c) (hG : Gl w) :
    Calls Tryd.prog 13 #[.agg #[.slice A 2 c, .bool true, .int .i64 126230405]] w fun e w' => e = .returned (.tuple #[.string (⟨#[76, 101, 97, 112, 9, 49, 57, 55, 50, 9, 74, 117, 110, 9, 51, 48, 9, 50, 51, 58, 53, 57, 58, 54, 48, 9, 43, 9, 83, 10, 76, 101, 97, 112, 9, 49, 57, 55, 50, 9, 68, 101, 99, 9, 51, 49, 9, 50, 51, 58, 53, 57, 58, 53, 57, 9, 45, 9, 82, 10, 69, 120, 112, 105, 114, 101, 115, 9, 49, 57, 55, 52, 9, 74, 97, 110, 9, 49, 9, 48, 48, 58, 48, 48, 58, 48, 53, 10]⟩ : ByteArray), .bool true]) ∧ Below w.heap.size w w' :=
  zic_Text.calls A c tinyL true 126230405 (⟨#[76, 101, 97, 112, 9, 49, 57, 55, 50, 9, 74, 117, 110, 9, 51, 48, 9, 50, 51, 58, 53, 57, 58, 54, 48, 9, 43, 9, 83, 10, 76, 101, 97, 112, 9, 49, 57, 55, 50, 9, 68, 101, 99, 9, 51, 49, 9, 50, 51, 58, 53, 57, 58, 53, 57, 9, 45, 9, 82, 10, 69, 120, 112, 105, 114, 101, 115, 9, 49, 57, 55, 52, 9, 74, 97, 110, 9, 49, 9, 48, 48, 58, 48, 48, 58, 48, 53, 10]⟩ : ByteArray) true w hC hc (by kernel_rfl) hG
theorem small_s {w : World} {A A2 : Option Addr} {c c2 : Nat} (hC : Kd.C k46 w A tinyL.length tinyL ∧ tinyL.length ≤ c) (hC2 : Kd.C k46 w A2 tinyL.length tinyL ∧ tinyL.length ≤ c2) :
    Calls Tryd.prog 16 #[.agg #[.slice A 2 c, .bool true, .int .i64 126230405], .agg #[.slice A2 2 c2, .bool true, .int .i64 126230405]] w fun e w' => e = .returned (.bool true) ∧ Below w.heap.size w w' :=
  epactref09_Same.calls A c tinyL true 126230405 A2 c2 tinyL true 126230405 true w hC.1 hC.2 hC2.1 hC2.2 (by kernel_rfl)
theorem small_m1 (w : World) : Calls Tryd.prog 20 #[.string (⟨#[115, 69, 112, 116]⟩ : ByteArray)] w fun e w' => e = .returned (.tuple #[.int .i64 9, .bool true]) ∧ Below w.heap.size w w' := zic_Month.calls _ _ _ w (by kernel_rfl)
theorem small_m2 (w : World) : Calls Tryd.prog 20 #[.string (⟨#[109, 97]⟩ : ByteArray)] w fun e w' => e = .returned (.tuple #[.int .i64 0, .bool false]) ∧ Below w.heap.size w w' := zic_Month.calls _ _ _ w (by kernel_rfl)
theorem small_c1 (w : World) : Calls Tryd.prog 27 #[.string (⟨#[49, 58, 50, 58, 51]⟩ : ByteArray)] w fun e w' => e = .returned (.tuple #[.int .i64 3723, .bool true]) ∧ Below w.heap.size w w' := zic_Clock.calls _ _ _ w (by kernel_rfl)
theorem small_c2 (w : World) : Calls Tryd.prog 27 #[.string (⟨#[49, 58, 50]⟩ : ByteArray)] w fun e w' => e = .returned (.tuple #[.int .i64 0, .bool false]) ∧ Below w.heap.size w w' := zic_Clock.calls _ _ _ w (by kernel_rfl)
theorem small_c3 (w : World) : Calls Tryd.prog 27 #[.string (⟨#[48, 48, 49, 58, 50, 58, 51]⟩ : ByteArray)] w fun e w' => e = .returned (.tuple #[.int .i64 0, .bool false]) ∧ Below w.heap.size w w' := zic_Clock.calls _ _ _ w (by kernel_rfl)
attribute [local go_sem high] S.eqA31
set_option maxHeartbeats 8000000 in
set_option maxRecDepth 100000 in
theorem small_walk (w : World) (hG : Gl w) : Calls Tryd.prog 11 #[] w fun e w' => e = .returned (.bool true) ∧ Below w.heap.size w w' := by
  have HG := Aside0.mk hG
  clear hG
  go_enter Tryd.func11, Tryd.ntmps11
  go_wp2_with (first | (go_at_call 15; (with_reducible refine (small_p1 _).mono ?_); rintro e w1 ⟨A1, c1, rfl, hr1, hb1⟩; have HR1 := Aside0.mk hr1; have HB1 := Aside0.mk hb1; clear hr1 hb1) | (go_at_call 15; (with_reducible refine (small_p2 _).mono ?_); rintro e w2 ⟨A2, c2, rfl, hr, hb⟩; have HS := Aside0.mk (St.first HB1.out HR1.out hb); clear hr hb) | (go_at_call 15; (with_reducible refine (small_p3 _).mono ?_); rintro e w3 ⟨A3, c3, rfl, hr, hb⟩; have HS := Aside0.mk (HS.out.flt hb); clear hr hb) | (go_at_call 15; (with_reducible refine (small_p4 _).mono ?_); rintro e w4 ⟨A4, c4, rfl, hr, hb⟩; have HS := Aside0.mk (HS.out.flt hb); clear hr hb) | (go_at_call 15; (with_reducible refine (small_p5 _).mono ?_); rintro e w5 ⟨A5, c5, rfl, hr, hb⟩; have HS := Aside0.mk (HS.out.flt hb); clear hr hb) | (go_at_call 15; (with_reducible refine (small_p6 _).mono ?_); rintro e w6 ⟨A6, c6, rfl, hr, hb⟩; have HS := Aside0.mk (HS.out.flt hb); clear hr hb; have HS := Aside0.mk (HS.out.flt (Below.refl ((w6.alloc (.cells #[.slice A6 0 c6, .bool false, .int .i64 0] 24)).alloc (.cells #[.int .i64 2, .int .i64 2] 31)).heap.size ((w6.alloc (.cells #[.slice A6 0 c6, .bool false, .int .i64 0] 24)).alloc (.cells #[.int .i64 2, .int .i64 2] 31)))); obtain ⟨⟨ht0, ht1, ht2⟩, htc⟩ := HS.out.tabAt (g := w1.heap.size + 1 + 1 + 1) (A := some ⟨w1.heap.size + 1 + 1, 0, none⟩) (c := 2) (l := tinyL) (has := true) (exp := 126230405) (n := 2) rfl (by repeat (first | exact List.mem_cons_self | apply List.mem_cons_of_mem)); have HTC := Aside0.mk htc; clear htc) | (go_at_call 13; (with_reducible refine (small_t HTC.out.1 (by decide) (gl_below HG.out HS.out.bel)).mono ?_); rintro e w7 ⟨rfl, hb⟩; have HS := Aside0.mk (HS.out.below hb); clear hb ht0 ht1 ht2) | (go_at_call 15; (with_reducible refine (small_p7 _).mono ?_); rintro e w8 ⟨A8, c8, rfl, hr8, hb⟩; have HS := Aside0.mk (HS.out.below hb); have HR8 := Aside0.mk hr8; clear hr8 hb) | (go_at_call 20; (with_reducible refine (small_m1 _).mono ?_); rintro e w9 ⟨rfl, hb⟩; have HS := Aside0.mk (HS.out.tab HR8.out hb); clear hb) | (go_at_call 20; (with_reducible refine (small_m2 _).mono ?_); rintro e w10 ⟨rfl, hb⟩; have HS := Aside0.mk (HS.out.below hb); clear hb) | (go_at_call 27; (with_reducible refine (small_c1 _).mono ?_); rintro e w11 ⟨rfl, hb⟩; have HS := Aside0.mk (HS.out.below hb); clear hb) | (go_at_call 27; (with_reducible refine (small_c2 _).mono ?_); rintro e w12 ⟨rfl, hb⟩; have HS := Aside0.mk (HS.out.below hb); clear hb) | (go_at_call 27; (with_reducible refine (small_c3 _).mono ?_); rintro e w13 ⟨rfl, hb⟩; have HS := Aside0.mk (HS.out.below hb); clear hb; obtain ⟨⟨a0x, a1x, a2x⟩, hcax⟩ := HS.out.tabAt (g := w1.heap.size) (A := A1) (c := c1) (l := tinyL) (has := true) (exp := 126230405) (n := 2) rfl (by repeat (first | exact List.mem_cons_self | apply List.mem_cons_of_mem)); have HCa := Aside0.mk hcax; clear hcax; obtain ⟨⟨t0x, t1x, t2x⟩, hctx⟩ := HS.out.tabAt (g := w1.heap.size + 1 + 1 + 1) (A := some ⟨w1.heap.size + 1 + 1, 0, none⟩) (c := 2) (l := tinyL) (has := true) (exp := 126230405) (n := 2) rfl (by repeat (first | exact List.mem_cons_self | apply List.mem_cons_of_mem)); have HCt := Aside0.mk hctx; clear hctx; obtain ⟨⟨i0x, i1x, i2x⟩, hcix⟩ := HS.out.tabAt (g := w8.heap.size) (A := A8) (c := c8) (l := tinyL) (has := true) (exp := 126230405) (n := 2) rfl (by repeat (first | exact List.mem_cons_self | apply List.mem_cons_of_mem)); have HCi := Aside0.mk hcix; clear hcix; obtain ⟨b0x, b1x⟩ := HS.out.fltAt (g := w1.heap.size + 1) (line := 0) (code := 0) (by repeat (first | exact List.mem_cons_self | apply List.mem_cons_of_mem)); obtain ⟨c0x, c1x⟩ := HS.out.fltAt (g := w2.heap.size + 1) (line := 1) (code := 6) (by repeat (first | exact List.mem_cons_self | apply List.mem_cons_of_mem)); obtain ⟨d0x, d1x⟩ := HS.out.fltAt (g := w3.heap.size + 1) (line := 2) (code := 5) (by repeat (first | exact List.mem_cons_self | apply List.mem_cons_of_mem)); obtain ⟨e0x, e1x⟩ := HS.out.fltAt (g := w4.heap.size + 1) (line := 1) (code := 9) (by repeat (first | exact List.mem_cons_self | apply List.mem_cons_of_mem)); obtain ⟨f0x, f1x⟩ := HS.out.fltAt (g := w5.heap.size + 1) (line := 1) (code := 2) (by repeat (first | exact List.mem_cons_self | apply List.mem_cons_of_mem)); obtain ⟨g0x, g1x⟩ := HS.out.fltAt (g := w6.heap.size + 1) (line := 2) (code := 2) (by repeat (first | exact List.mem_cons_self | apply List.mem_cons_of_mem)); obtain ⟨k0x, k1x⟩ := HS.out.fltAt (g := w8.heap.size + 1) (line := 0) (code := 0) (by repeat (first | exact List.mem_cons_self | apply List.mem_cons_of_mem))) | (go_at_call 16; have tok1 : True := trivial; (with_reducible refine (small_s HCa.out HCt.out).mono ?_); rintro e w14 ⟨rfl, hb⟩; have HS := Aside0.mk (HS.out.below hb); clear hb a0x a1x a2x t0x t1x t2x i0x i1x i2x b0x b1x c0x c1x d0x d1x e0x e1x f0x f1x g0x g1x k0x k1x; obtain ⟨⟨a0y, a1y, a2y⟩, hcay⟩ := HS.out.tabAt (g := w1.heap.size) (A := A1) (c := c1) (l := tinyL) (has := true) (exp := 126230405) (n := 2) rfl (by repeat (first | exact List.mem_cons_self | apply List.mem_cons_of_mem)); have HCa := Aside0.mk hcay; clear hcay; obtain ⟨⟨t0y, t1y, t2y⟩, hcty⟩ := HS.out.tabAt (g := w1.heap.size + 1 + 1 + 1) (A := some ⟨w1.heap.size + 1 + 1, 0, none⟩) (c := 2) (l := tinyL) (has := true) (exp := 126230405) (n := 2) rfl (by repeat (first | exact List.mem_cons_self | apply List.mem_cons_of_mem)); have HCt := Aside0.mk hcty; clear hcty; obtain ⟨⟨i0y, i1y, i2y⟩, hciy⟩ := HS.out.tabAt (g := w8.heap.size) (A := A8) (c := c8) (l := tinyL) (has := true) (exp := 126230405) (n := 2) rfl (by repeat (first | exact List.mem_cons_self | apply List.mem_cons_of_mem)); have HCi := Aside0.mk hciy; clear hciy; obtain ⟨b0y, b1y⟩ := HS.out.fltAt (g := w1.heap.size + 1) (line := 0) (code := 0) (by repeat (first | exact List.mem_cons_self | apply List.mem_cons_of_mem)); obtain ⟨c0y, c1y⟩ := HS.out.fltAt (g := w2.heap.size + 1) (line := 1) (code := 6) (by repeat (first | exact List.mem_cons_self | apply List.mem_cons_of_mem)); obtain ⟨d0y, d1y⟩ := HS.out.fltAt (g := w3.heap.size + 1) (line := 2) (code := 5) (by repeat (first | exact List.mem_cons_self | apply List.mem_cons_of_mem)); obtain ⟨e0y, e1y⟩ := HS.out.fltAt (g := w4.heap.size + 1) (line := 1) (code := 9) (by repeat (first | exact List.mem_cons_self | apply List.mem_cons_of_mem)); obtain ⟨f0y, f1y⟩ := HS.out.fltAt (g := w5.heap.size + 1) (line := 1) (code := 2) (by repeat (first | exact List.mem_cons_self | apply List.mem_cons_of_mem)); obtain ⟨g0y, g1y⟩ := HS.out.fltAt (g := w6.heap.size + 1) (line := 2) (code := 2) (by repeat (first | exact List.mem_cons_self | apply List.mem_cons_of_mem)); obtain ⟨k0y, k1y⟩ := HS.out.fltAt (g := w8.heap.size + 1) (line := 0) (code := 0) (by repeat (first | exact List.mem_cons_self | apply List.mem_cons_of_mem))) | (go_at_call 16; (with_reducible refine (small_s HCi.out HCt.out).mono ?_); rintro e w15 ⟨rfl, hb⟩; have HS := Aside0.mk (HS.out.below hb); clear hb a0y a1y a2y t0y t1y t2y i0y i1y i2y b0y b1y c0y c1y d0y d1y e0y e1y f0y f1y g0y g1y k0y k1y; obtain ⟨⟨a0z, a1z, a2z⟩, hcaz⟩ := HS.out.tabAt (g := w1.heap.size) (A := A1) (c := c1) (l := tinyL) (has := true) (exp := 126230405) (n := 2) rfl (by repeat (first | exact List.mem_cons_self | apply List.mem_cons_of_mem)); have HCa := Aside0.mk hcaz; clear hcaz; obtain ⟨⟨t0z, t1z, t2z⟩, hctz⟩ := HS.out.tabAt (g := w1.heap.size + 1 + 1 + 1) (A := some ⟨w1.heap.size + 1 + 1, 0, none⟩) (c := 2) (l := tinyL) (has := true) (exp := 126230405) (n := 2) rfl (by repeat (first | exact List.mem_cons_self | apply List.mem_cons_of_mem)); have HCt := Aside0.mk hctz; clear hctz; obtain ⟨⟨i0z, i1z, i2z⟩, hciz⟩ := HS.out.tabAt (g := w8.heap.size) (A := A8) (c := c8) (l := tinyL) (has := true) (exp := 126230405) (n := 2) rfl (by repeat (first | exact List.mem_cons_self | apply List.mem_cons_of_mem)); have HCi := Aside0.mk hciz; clear hciz; obtain ⟨b0z, b1z⟩ := HS.out.fltAt (g := w1.heap.size + 1) (line := 0) (code := 0) (by repeat (first | exact List.mem_cons_self | apply List.mem_cons_of_mem)); obtain ⟨c0z, c1z⟩ := HS.out.fltAt (g := w2.heap.size + 1) (line := 1) (code := 6) (by repeat (first | exact List.mem_cons_self | apply List.mem_cons_of_mem)); obtain ⟨d0z, d1z⟩ := HS.out.fltAt (g := w3.heap.size + 1) (line := 2) (code := 5) (by repeat (first | exact List.mem_cons_self | apply List.mem_cons_of_mem)); obtain ⟨e0z, e1z⟩ := HS.out.fltAt (g := w4.heap.size + 1) (line := 1) (code := 9) (by repeat (first | exact List.mem_cons_self | apply List.mem_cons_of_mem)); obtain ⟨f0z, f1z⟩ := HS.out.fltAt (g := w5.heap.size + 1) (line := 1) (code := 2) (by repeat (first | exact List.mem_cons_self | apply List.mem_cons_of_mem)); obtain ⟨g0z, g1z⟩ := HS.out.fltAt (g := w6.heap.size + 1) (line := 2) (code := 2) (by repeat (first | exact List.mem_cons_self | apply List.mem_cons_of_mem)); obtain ⟨k0z, k1z⟩ := HS.out.fltAt (g := w8.heap.size + 1) (line := 0) (code := 0) (by repeat (first | exact List.mem_cons_self | apply List.mem_cons_of_mem))))
  go_ret
  exact ⟨by first | rfl | simp, HS.out.bel⟩
def epactlaw11_small.f  : Option (Bool) := some true
theorem epactlaw11_small.calls  (r : Bool) (w : World) (h : epactlaw11_small.f  = some r) (hG : Gl w) :
    Calls Tryd.prog 11 #[] w fun e w' => e = .returned (.bool r) ∧ Below w.heap.size w w' := by
  obtain rfl : true = r := Option.some.inj h
  exact small_walk w hG
end Go.Proofs.YtodalfobehddmaaDoor.Y
namespace Go.Proofs.YtodalfobehddmaaDoor.Y
open Go Go.RowKit
def laidL : List (String × DataW Unit) := [("math/bits.deBruijn32tab", Rows.laid_math_bits_deBruijn32tab), ("math/bits.deBruijn64tab", Rows.laid_math_bits_deBruijn64tab), ("internal/strconv.uint64pow10", Rows.laid_internal_strconv_uint64pow10), ("unicode/utf8.acceptRanges", Rows.laid_unicode_utf8_acceptRanges), ("unicode/utf8.first", Rows.laid_unicode_utf8_first)]
theorem gPow : Tryd.prog.globalNamed "internal/strconv.uint64pow10" = some 1 := by kernel_rfl
theorem gPowType : (Tryd.prog.globals[1]?).map (·.type) = some 163 := by kernel_rfl
theorem gl_of_laid {W : World} (h : laidMet Tryd.prog laidL W) : Gl W := by
  have h2 := h.tail.tail
  exact Lib.tabIs_of_head (zs := Lib.pow10Tab) gPow gPowType Tryd.underlying163 Tryd.underlying133 (by kernel_rfl) (by kernel_rfl) h2
theorem gl_of_laidH {W : World} (h : laidMetH Tryd.prog laidL W) : Gl W := by
  rw [MakeChecks.laidMetH_plain _ _ _ (by kernel_rfl)] at h
  exact gl_of_laid h
theorem world_met (os : Os) (args : Array Value) : laidMetH Tryd.prog laidL ((World.laidAll Tryd.prog os laidL).forCall (fun _ _ => 0) ⟨#[], args, []⟩).memory := by
  rw [MakeChecks.laidMetH_plain _ _ _ (by kernel_rfl)]
  exact laidMet_laidAll _ (by kernel_rfl) (by kernel_rfl)
theorem own : ownKnob Tryd.prog.godebug = none := by kernel_rfl
end Go.Proofs.YtodalfobehddmaaDoor.Y
namespace Go.Proofs.YtodalfobehddmaaDoor.Y
open Go Go.RowKit Go.Proofs.YtodalfobehddmaaDoorW.PrintWords Go.Joins Go.ChangeShapes Go.WideShapes Go.Deep
open Go.Proofs.YtodalfobehddmaaDoor.Z
section
variable {H : Type} {enc : TypeId × Value → H} {P : Program} {w : World} {base : Nat} {spare : Nat → Bool} {held : Bool}
theorem open_slice_fields {t e : TypeId} {fs : Array Field} {fuel : Nat} {cs : List Value} {x : DataW H × List MemPlace} (ht : P.underlying t = some (.slice e)) (he : P.underlying e = some (.struct fs))
    (hone : oneCellFields P fs = true) (hC : P.cellsOf e = fs.size) (h : DataW.trod enc P w base spare held fuel t cs = some x) :
    (cs = [.slice none 0 0] ∧ x = (.nil, [])) ∨
    ∃ (a : Addr) (len cap m : Nat) (D : Nat → DataW H) (Pl : Nat → List MemPlace), cs = [.slice (some a) len cap] ∧ base ≤ a.block ∧ len ≤ cap ∧ cap ≤ maxLen ∧ m = (if spare a.block then cap else len) ∧
      x = (.slice ((List.range len).map D) ((List.range (m - len)).map fun j => D (len + j)), MemPlace.row a (m * fs.size) ++ (List.range m).flatMap Pl) ∧
      ∀ i, i < m → ∃ (ys : List (DataW H × List MemPlace)) (n : Nat), D i = .agg (ys.map (·.1)) ∧ Pl i = ys.flatMap (·.2) ∧ ys.length = fs.size ∧
        ∀ (j : Nat) (f : Field), fs[j]? = some f → ∃ (v : Value) (y : DataW H × List MemPlace), w.cell? (a.add (i * fs.size + j)) = some v ∧ ys[j]? = some y ∧ DataW.trod enc P w base spare held n f.type [v] = some y := by
  rcases open_slice ht h with h0 | ⟨a, len, cap, m, n, D, Pl, hcs, hb, hl, hm, hmm, hx, hi⟩
  · exact .inl h0
  · refine .inr ⟨a, len, cap, m, D, Pl, hcs, hb, hl, hm, hmm, by rw [hC] at hx; exact hx, fun i him => ?_⟩
    obtain ⟨cs', hc, ht'⟩ := hi i him
    rw [hC] at hc
    obtain ⟨ys, n', hn', hy, hlen, hyl, hf⟩ := DataW.trod_struct he ht'
    obtain ⟨_, hcl, hat⟩ := World.cells?_some hc
    simp only [Prod.mk.injEq] at hy
    refine ⟨ys, n', hy.1, hy.2, hyl, fun j f hj => ?_⟩
    obtain ⟨ho, hk⟩ := hone_of hone j f hj
    have hjl : j < fs.size := (Array.getElem?_eq_some_iff.1 hj).1
    have hcell := hat j hjl
    have hv : cs'[j]? = some (cs'[j]'(by omega)) := List.getElem?_eq_getElem (by omega)
    have h1 := hf j f hj
    rw [ho, hk] at h1
    have hone' : (cs'.drop j).take 1 = [cs'[j]'(by omega)] := by
      rw [List.drop_eq_getElem_cons (by omega)]
      rfl
    rw [hone'] at h1
    have hys : ys[j]? = some (ys[j]'(by omega)) := List.getElem?_eq_getElem (by omega)
    refine ⟨_, _, ?_, hys, h1.trans hys⟩
    rw [← Go.Deep.add_add, hcell, hv]
end
section
variable {H : Type} {enc : TypeId × Value → H} {W : World} {base b0 : Nat} {spare : Nat → Bool} {held : Bool}
theorem one_int {n : Nat} {v : Value} {y : DataW H × List MemPlace} (h : DataW.trod enc Tryd.prog W base spare held n 3 [v] = some y) : ∃ z : Int, v = .int .i64 z := by
  obtain ⟨z, e, _⟩ := DataW.trod_int Tryd.underlying3 h
  exact ⟨z, by simpa using e⟩
theorem one_bool {n : Nat} {v : Value} {y : DataW H × List MemPlace} (h : DataW.trod enc Tryd.prog W base spare held n 4 [v] = some y) : ∃ z : Bool, v = .bool z := by
  obtain ⟨z, e, _⟩ := DataW.trod_bool Tryd.underlying4 h
  exact ⟨z, by simpa using e⟩
set_option maxRecDepth 100000 in
theorem open_table {v : Value} {d : DataW H} {p : List MemPlace} (hv : Value.okWide Tryd.prog W .any b0 24 v) (h : DataW.Trod enc Tryd.prog W base spare held 24 v d p) :
    ∃ (A : Option Addr) (c : Nat) (l : List S46) (b : Bool) (e : Int), v = .agg #[.slice A l.length c, .bool b, .int .i64 e] ∧ Kd.C k46 W A l.length l ∧ l.length ≤ c := by
  obtain ⟨v0, v1, v2, y0, y1, y2, n, rfl, _, _, h0, h1, h2⟩ := open_agg3 Tryd.underlying24 (by kernel_rfl) (by kernel_rfl) hv h
  obtain ⟨b, rfl⟩ := one_bool h1
  obtain ⟨e, rfl⟩ := one_int h2
  rcases open_slice_fields Tryd.underlying22 Tryd.underlying46 (by kernel_rfl) (by kernel_rfl) h0 with ⟨hcs, _⟩ | ⟨a, len, cap, m, D, Pl, hcs, _, hl, hm, hmm, _, hi⟩
  · obtain rfl : v0 = .slice none 0 0 := by simpa using hcs
    exact ⟨none, 0, [], b, e, rfl, Kd.C_nil _ _, Nat.le_refl _⟩
  · obtain rfl : v0 = .slice (some a) len cap := by simpa using hcs
    have hlm : len ≤ m := by rw [hmm]; split <;> omega
    have hcell : ∀ i, i < len → ∃ x : S46, W.cell? (a.add (i * 3)) = some (.int .i64 x.f0) ∧ W.cell? (a.add (i * 3 + 1)) = some (.int .i64 x.f1) ∧ W.cell? (a.add (i * 3 + 2)) = some (.bool x.f2) := by
      intro i hin
      obtain ⟨ys, n', _, _, _, hf⟩ := hi i (by omega)
      obtain ⟨u0, z0, c0, _, t0⟩ := hf 0 _ rfl
      obtain ⟨u1, z1, c1, _, t1⟩ := hf 1 _ rfl
      obtain ⟨u2, z2, c2, _, t2⟩ := hf 2 _ rfl
      obtain ⟨x0, rfl⟩ := one_int t0
      obtain ⟨x1, rfl⟩ := one_int t1
      obtain ⟨x2, rfl⟩ := one_bool t2
      exact ⟨⟨x0, x1, x2⟩, c0, c1, c2⟩
    let x : Nat → S46 := fun i => if hin : i < len then Classical.choose (hcell i hin) else ⟨0, 0, false⟩
    have hx : ∀ i, i < len → W.cell? (a.add (i * 3)) = some (.int .i64 (x i).f0) ∧ W.cell? (a.add (i * 3 + 1)) = some (.int .i64 (x i).f1) ∧ W.cell? (a.add (i * 3 + 2)) = some (.bool (x i).f2) := by
      intro i hin
      have := Classical.choose_spec (hcell i hin)
      show W.cell? (a.add (i * 3)) = some (.int .i64 (if hin : i < len then Classical.choose (hcell i hin) else ⟨0, 0, false⟩ : S46).f0) ∧ W.cell? (a.add (i * 3 + 1)) = some (.int .i64 (if hin : i < len then Classical.choose (hcell i hin) else ⟨0, 0, false⟩ : S46).f1) ∧ W.cell? (a.add (i * 3 + 2)) = some (.bool (if hin : i < len then Classical.choose (hcell i hin) else ⟨0, 0, false⟩ : S46).f2)
      rw [dif_pos hin]
      exact this
    have hlen : ((List.range len).map x).length = len := by simp
    refine ⟨some a, cap, (List.range len).map x, b, e, by rw [hlen], ?_, by rw [hlen]; exact hl⟩
    rw [hlen]
    refine ⟨hlen, by unfold maxLen at hm; omega, fun _ => ⟨a, rfl, fun j q hq => ?_⟩⟩
    have hj : j < len := by
      have := (List.getElem?_eq_some_iff.1 hq).1
      rw [hlen] at this
      exact this
    have hqx : q = x j := by
      rw [List.getElem?_map, List.getElem?_range hj] at hq
      exact (Option.some.inj hq).symm
    subst hqx
    obtain ⟨h0, h1, h2⟩ := hx j hj
    refine ⟨_, rfl, k46_mk W (x j), fun i u hu => ?_⟩
    have hi3 : i = 0 ∨ i = 1 ∨ i = 2 := by
      have := (List.getElem?_eq_some_iff.1 hu).1
      simp at this
      omega
    rcases hi3 with rfl | rfl | rfl
    · exact h0.trans hu
    · exact h1.trans hu
    · exact h2.trans hu
end
end Go.Proofs.YtodalfobehddmaaDoor.Y
