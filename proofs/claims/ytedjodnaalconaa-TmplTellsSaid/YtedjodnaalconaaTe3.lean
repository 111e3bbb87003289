/- Part 3 of 6 of the proof that 'YtedjodnaalconaaLawTmplTells' holds: functions of plain values for the Go functions that the law reaches, what each call comes to, and the plain law; of the words that the kit's print wrote, what these use. Written together by a program of this session; no condition of its own. -/
import Derived.Test.YtedjodnaalconaaTe2
import Derived.MapKept
import Derived.Carry
import Derived.Lib.QuietBelow
section
namespace Go.Proofs.Ytedjodnaalconaa.P
open Go.RowKit Go.Proofs.YtedjodnaalconaaW.PrintWords Go.Proofs.YtedjodnaalconaaW.PrintLast Go.Proofs.YtedjodnaalconaaW.PrintMore
attribute [local go_sem] max2_int min2_int max_two min_two max_three min_three max_four min_four
set_option linter.unusedVariables false
set_option linter.unusedSimpArgs false
def data_read.l0 : Nat → ByteArray → Int → Int → Int → Int → Int → Int → Int → ByteArray → ByteArray → List ByteArray → Option (ByteArray × ByteArray × List ByteArray × Bool)
 | 0, _, _, _, _, _, _, _, _, _, _, _ => none
 | k + 1, x0, x1, x2, x37, x38, x122000, x122001, x122002, x124000, x124001, x124002 => if x38 < x37 then ((comp_Read.f k x0 x1).bind fun bt124 => (if bt124.2.2 = 0 then (if bt124.2.1 > x2 then (some ((⟨#[]⟩ : ByteArray), (⟨#[]⟩ : ByteArray), ([] : List ByteArray), false)) else (if x124002.length < 8796093022208 then (data_read.l0 k x0 bt124.2.1 x2 x37 (wrap64 (x38 + 1)) x122000 x122001 x122002 x124000 x124001 (x124002 ++ [bt124.1])) else (none))) else (some ((⟨#[]⟩ : ByteArray), (⟨#[]⟩ : ByteArray), ([] : List ByteArray), false)))) else (if 0 ≤ x1 then (if x1 ≤ x2 then (if x2 ≤ (x0.size : Int) then (some (x124000, x0.extract (x1 : Int).toNat (x2 : Int).toNat, x124002, ((((x2.toNat - x1.toNat : Nat) : Int)) == x122002))) else (none)) else (none)) else (none))
def data_read.f (k : Nat) (a0 : ByteArray) (a1 : Int) (a2 : Int) (a3_0 : Int) (a3_1 : Int) (a3_2 : Int) : Option (ByteArray × ByteArray × List ByteArray × Bool) := if (a3_0 ≤ (wrap64 (a2 - a1))) then (if 0 ≤ a1 then (if a1 ≤ (wrap64 (a1 + a3_0)) then (if (wrap64 (a1 + a3_0)) ≤ (a0.size : Int) then (data_read.l0 k a0 (wrap64 (a1 + a3_0)) a2 a3_1 0 a3_0 a3_1 a3_2 (a0.extract (a1 : Int).toNat ((wrap64 (a1 + a3_0)) : Int).toNat) (⟨#[]⟩ : ByteArray) ([] : List ByteArray)) else (none)) else (none)) else (none)) else (some ((⟨#[]⟩ : ByteArray), (⟨#[]⟩ : ByteArray), ([] : List ByteArray), false))
theorem data_read.mono_l : ∀ k, (∀ y0 y1 y2 y3 y4 y5 y6 y7 y8 y9 y10, LeO (data_read.l0 k y0 y1 y2 y3 y4 y5 y6 y7 y8 y9 y10) (data_read.l0 (k + 1) y0 y1 y2 y3 y4 y5 y6 y7 y8 y9 y10))
 | 0 => fun _ _ _ _ _ _ _ _ _ _ _ r h => by simp [data_read.l0] at h
 | k + 1 => by
  have ih0 := data_read.mono_l k
  ·intro y0 y1 y2 y3 y4 y5 y6 y7 y8 y9 y10
   unfold data_read.l0
   repeat' first
   | (with_reducible exact ih0 _ _ _ _ _ _ _ _ _ _ _)
   | (with_reducible exact comp_Read.mono _ _ _)
   | (with_reducible exact LeO.refl _)
   | (with_reducible exact LeO.none _)
   | (with_reducible refine LeO.ite ?_ ?_)
   | (with_reducible refine LeO.bind ?_ (fun _ => ?_))
theorem data_read.mono : ∀ a0 a1 a2 a3 a4 a5 k, LeO (data_read.f k a0 a1 a2 a3 a4 a5) (data_read.f (k + 1) a0 a1 a2 a3 a4 a5) := by
 intro a0 a1 a2 a3 a4 a5 k
 have ih0 := data_read.mono_l k
 unfold data_read.f
 repeat' first
   | (with_reducible exact ih0 _ _ _ _ _ _ _ _ _ _ _)
   | (with_reducible exact comp_Read.mono _ _ _)
   | (with_reducible exact LeO.refl _)
   | (with_reducible exact LeO.none _)
   | (with_reducible refine LeO.ite ?_ ?_)
   | (with_reducible refine LeO.bind ?_ (fun _ => ?_))
def data_read.T15 : Bool × List (List Nat × List Nat) := (true, [([], []), ([], []), ([1], [1]), ([2], [2]), ([], []), ([4], [4]), ([3, 5], [3, 5]), ([0, 0], [0]), ([6, 7, 0, 1, 2, 3, 4, 5, 6, 7], [6])])
def data_read.B15 : List Nat := [0, 0, 2, 6, 0, 16, 62, 1, 255]
theorem data_read.tab15 : rtab .any (opsOf Try.f100 15) = data_read.T15 := by kernel_rfl
theorem data_read.bits15 : waitsOk data_read.T15.2 data_read.B15 = true := by kernel_rfl
set_option maxHeartbeats 8000000 in
set_option maxRecDepth 100000 in
theorem data_read.calls (k : Nat) (a0 : ByteArray) (a1 : Int) (a2 : Int) (a3_0 : Int) (a3_1 : Int) (a3_2 : Int) (r1 : ByteArray) (r2 : ByteArray) (r3 : List ByteArray) (r4 : Bool) (w : World) (h : data_read.f k a0 a1 a2 a3_0 a3_1 a3_2 = some (r1, r2, r3, r4)) :
  Calls Try.prog 100 #[.string a0, .int .i64 a1, .int .i64 a2, .agg #[.int .i64 a3_0, .int .i64 a3_1, .int .i64 a3_2]] w fun e w' => ∃ v2_ : Value, e = .returned (.tuple #[.agg #[.string r1, .string r2, v2_], .bool r4]) ∧ Kd.R Kd.string 9 w' w.heap.size (fun _ => True) v2_ r3 ∧ Below w.heap.size w w' := by
 have hu138 := Try.underlying138
 have hu130 := Try.underlying130
 have HB := Aside0.mk (Below.refl w.heap.size w)
 have H : (if (a3_0 ≤ (wrap64 (a2 - a1))) then (if 0 ≤ a1 then (if a1 ≤ (wrap64 (a1 + a3_0)) then (if (wrap64 (a1 + a3_0)) ≤ (a0.size : Int) then (data_read.l0 k a0 (wrap64 (a1 + a3_0)) a2 a3_1 0 a3_0 a3_1 a3_2 (a0.extract (a1 : Int).toNat ((wrap64 (a1 + a3_0)) : Int).toNat) (⟨#[]⟩ : ByteArray) ([] : List ByteArray)) else (none)) else (none)) else (none)) else (some ((⟨#[]⟩ : ByteArray), (⟨#[]⟩ : ByteArray), ([] : List ByteArray), false))) = some (r1, r2, r3, r4) := h
 clear h
 by_cases c5 : (a3_0 ≤ (wrap64 (a2 - a1)))
 ·rw [if_pos c5] at H
  have c5b0 : decide (a3_0 ≤ (wrap64 (a2 - a1))) = true := decide_eq_true c5
  clear c5
  by_cases c6 : 0 ≤ a1
  ·rw [if_pos c6] at H
   have c6b0 := eq_true c6
   have c6b1 : decide (0 ≤ a1) = true := decide_eq_true c6
   clear c6
   by_cases c7 : a1 ≤ (wrap64 (a1 + a3_0))
   ·rw [if_pos c7] at H
    have c7b0 := eq_true c7
    have c7b1 : decide (a1 ≤ (wrap64 (a1 + a3_0))) = true := decide_eq_true c7
    by_cases c8 : (wrap64 (a1 + a3_0)) ≤ (a0.size : Int)
    ·rw [if_pos c8] at H
     have c8b0 := eq_true c8
     have c8b1 : decide ((wrap64 (a1 + a3_0)) ≤ (a0.size : Int)) = true := decide_eq_true c8
     have H' := Aside0.mk H
     clear H
     go_enter Try.func100, Try.ntmps100
     go_wp2_with (first | ((with_reducible refine gate_dst (N := 7) rfl ?_); refine box_event ?hg (N := 7) ?hd (cs := #[.int .i64 a3_0, .int .i64 a3_1, .int .i64 a3_2]) (t := 138) ?hr ?_; (case hd => rfl); (case hg => rfl); (case hr => first | (go_simp; done) | (go_simp; rfl)); intro gb121 hg w9 hbox hb; have n0_ := Aside0.mk (below_step (by repeat (first | (with_reducible first | exact HB.out | apply below_alloc | apply pw_below_drewN | apply below_drew1) | exact HB.out)) hb); have n1_ := Aside0.mk (hbox); have n2_ := Aside0.mk ((by rw [hg]; exact (below_size (by repeat (first | (with_reducible first | exact HB.out | apply below_alloc | apply pw_below_drewN | apply below_drew1) | exact HB.out))) : w.heap.size ≤ gb121)); have n3_ := Aside0.mk ((by rw [hg]; exact (below_size (by repeat (first | (with_reducible first | exact HB.out | apply below_alloc | apply pw_below_drewN | apply below_drew1) | exact HB.out))) : w.heap.size ≤ gb121)); clear HB; have HB := n0_; have BK121 := n1_; have GW121 := n2_; have GE121 := n3_; clear n0_ n1_ n2_ n3_; clear hb hbox hg) | ((with_reducible refine gate_dst (N := 8) rfl ?_); refine box_event ?hg (N := 8) ?hd (cs := #[.string (⟨#[]⟩ : ByteArray), .string (⟨#[]⟩ : ByteArray), .slice none 0 0]) (t := 130) ?hr ?_; (case hd => rfl); (case hg => rfl); (case hr => first | (go_simp; done) | (go_simp; rfl)); intro gb122 hg w10 hbox hb; have n0_ := Aside0.mk (blk_below (g := gb121) (o := .cells #[.int .i64 a3_0, .int .i64 a3_1, .int .i64 a3_2] 138 (0, 0)) (by (with_reducible repeat (first | refine blk_drewN ?_ _ | refine blk_drew ?_ | refine blk_alloc ?_ _)); exact BK121.out) hb); have n1_ := Aside0.mk (below_step (by repeat (first | (with_reducible first | exact HB.out | apply below_alloc | apply pw_below_drewN | apply below_drew1 | refine below_set ?_ GE121.out) | exact HB.out)) hb); have n2_ := Aside0.mk (hbox); have n3_ := Aside0.mk ((by rw [hg]; exact (below_size (by repeat (first | (with_reducible first | exact HB.out | apply below_alloc | apply pw_below_drewN | apply below_drew1 | refine below_set ?_ GE121.out) | exact HB.out))) : w.heap.size ≤ gb122)); have n4_ := Aside0.mk ((by rw [hg]; exact (below_size (by repeat (first | (with_reducible first | exact HB.out | apply below_alloc | apply pw_below_drewN | apply below_drew1 | refine below_set ?_ GE121.out) | exact HB.out))) : w.heap.size ≤ gb122)); have n5_ := Aside0.mk ((by rw [hg]; exact Nat.ne_of_lt (blk_lt (g := gb121) (o := .cells #[.int .i64 a3_0, .int .i64 a3_1, .int .i64 a3_2] 138 (0, 0)) (by (with_reducible repeat (first | refine blk_drewN ?_ _ | refine blk_drew ?_ | refine blk_alloc ?_ _)); exact BK121.out)) : gb121 ≠ gb122)); have n6_ := Aside0.mk ((by rw [hg]; exact Nat.ne_of_gt (blk_lt (g := gb121) (o := .cells #[.int .i64 a3_0, .int .i64 a3_1, .int .i64 a3_2] 138 (0, 0)) (by (with_reducible repeat (first | refine blk_drewN ?_ _ | refine blk_drew ?_ | refine blk_alloc ?_ _)); exact BK121.out)) : gb122 ≠ gb121)); clear BK121; clear HB; have BK121 := n0_; have HB := n1_; have BK122 := n2_; have GW122 := n3_; have GE122 := n4_; have NB121_122 := n5_; have NB122_121 := n6_; clear n0_ n1_ n2_ n3_ n4_ n5_ n6_; clear hb hbox hg) | ((with_reducible refine gate_dst (N := 10) rfl ?_); refine box_event ?hg (N := 10) ?hd (cs := #[.string (⟨#[]⟩ : ByteArray), .string (⟨#[]⟩ : ByteArray), .slice none 0 0]) (t := 130) ?hr ?_; (case hd => rfl); (case hg => rfl); (case hr => first | (go_simp; done) | (go_simp; rfl)); intro gb123 hg w11 hbox hb; have n0_ := Aside0.mk (blk_below (g := gb121) (o := .cells #[.int .i64 a3_0, .int .i64 a3_1, .int .i64 a3_2] 138 (0, 0)) (by (with_reducible repeat (first | refine blk_drewN ?_ _ | refine blk_drew ?_ | refine blk_alloc ?_ _)); exact BK121.out) hb); have n1_ := Aside0.mk (blk_below (g := gb122) (o := .cells #[.string (⟨#[]⟩ : ByteArray), .string (⟨#[]⟩ : ByteArray), .slice none 0 0] 130 (0, 0)) (by (with_reducible repeat (first | refine blk_drewN ?_ _ | refine blk_drew ?_ | refine blk_alloc ?_ _)); exact BK122.out) hb); have n2_ := Aside0.mk (below_step (by repeat (first | (with_reducible first | exact HB.out | apply below_alloc | apply pw_below_drewN | apply below_drew1 | refine below_set ?_ GE121.out | refine below_set ?_ GE122.out) | exact HB.out)) hb); have n3_ := Aside0.mk (hbox); have n4_ := Aside0.mk ((by rw [hg]; exact (below_size (by repeat (first | (with_reducible first | exact HB.out | apply below_alloc | apply pw_below_drewN | apply below_drew1 | refine below_set ?_ GE121.out | refine below_set ?_ GE122.out) | exact HB.out))) : w.heap.size ≤ gb123)); have n5_ := Aside0.mk ((by rw [hg]; exact (below_size (by repeat (first | (with_reducible first | exact HB.out | apply below_alloc | apply pw_below_drewN | apply below_drew1 | refine below_set ?_ GE121.out | refine below_set ?_ GE122.out) | exact HB.out))) : w.heap.size ≤ gb123)); have n6_ := Aside0.mk ((by rw [hg]; exact Nat.ne_of_lt (blk_lt (g := gb121) (o := .cells #[.int .i64 a3_0, .int .i64 a3_1, .int .i64 a3_2] 138 (0, 0)) (by (with_reducible repeat (first | refine blk_drewN ?_ _ | refine blk_drew ?_ | refine blk_alloc ?_ _)); exact BK121.out)) : gb121 ≠ gb123)); have n7_ := Aside0.mk ((by rw [hg]; exact Nat.ne_of_gt (blk_lt (g := gb121) (o := .cells #[.int .i64 a3_0, .int .i64 a3_1, .int .i64 a3_2] 138 (0, 0)) (by (with_reducible repeat (first | refine blk_drewN ?_ _ | refine blk_drew ?_ | refine blk_alloc ?_ _)); exact BK121.out)) : gb123 ≠ gb121)); have n8_ := Aside0.mk ((by rw [hg]; exact Nat.ne_of_lt (blk_lt (g := gb122) (o := .cells #[.string (⟨#[]⟩ : ByteArray), .string (⟨#[]⟩ : ByteArray), .slice none 0 0] 130 (0, 0)) (by (with_reducible repeat (first | refine blk_drewN ?_ _ | refine blk_drew ?_ | refine blk_alloc ?_ _)); exact BK122.out)) : gb122 ≠ gb123)); have n9_ := Aside0.mk ((by rw [hg]; exact Nat.ne_of_gt (blk_lt (g := gb122) (o := .cells #[.string (⟨#[]⟩ : ByteArray), .string (⟨#[]⟩ : ByteArray), .slice none 0 0] 130 (0, 0)) (by (with_reducible repeat (first | refine blk_drewN ?_ _ | refine blk_drew ?_ | refine blk_alloc ?_ _)); exact BK122.out)) : gb123 ≠ gb122)); clear BK121; clear BK122; clear HB; have BK121 := n0_; have BK122 := n1_; have HB := n2_; have BK123 := n3_; have GW123 := n4_; have GE123 := n5_; have NB121_123 := n6_; have NB123_121 := n7_; have NB122_123 := n8_; have NB123_122 := n9_; clear n0_ n1_ n2_ n3_ n4_ n5_ n6_ n7_ n8_ n9_; clear hb hbox hg; have hnb12 := NB121_122.out; have hnc12 := NB122_121.out; have hnb13 := NB121_123.out; have hnc13 := NB123_121.out; have hcz14_0 : w11.cell? ⟨gb121, 0, none⟩ = some (.int .i64 a3_0) := (blk_cell BK121.out 0).trans rfl; have hcz14_1 : w11.cell? ⟨gb121, 1, none⟩ = some (.int .i64 a3_1) := (blk_cell BK121.out 1).trans rfl; have hcz14_2 : w11.cell? ⟨gb121, 2, none⟩ = some (.int .i64 a3_2) := (blk_cell BK121.out 2).trans rfl; have hfz14_0 := blk_frozen BK121.out 0; have hfz14_1 := blk_frozen BK121.out 1; have hfz14_2 := blk_frozen BK121.out 2; have hnb15 := NB123_122.out; have hnc15 := NB122_123.out; have hcz16_0 : w11.cell? ⟨gb123, 0, none⟩ = some (.string (⟨#[]⟩ : ByteArray)) := (blk_cell BK123.out 0).trans rfl; have hcz16_1 : w11.cell? ⟨gb123, 1, none⟩ = some (.string (⟨#[]⟩ : ByteArray)) := (blk_cell BK123.out 1).trans rfl; have hcz16_2 : w11.cell? ⟨gb123, 2, none⟩ = some (.slice none 0 0) := (blk_cell BK123.out 2).trans rfl; have hfz16_0 := blk_frozen BK123.out 0; have hfz16_1 := blk_frozen BK123.out 1; have hfz16_2 := blk_frozen BK123.out 2))
     go_loopg [1, 38] k (fun kq v1 v38 w' => ∃ (x1_1 : Int) (x38_1 : Int) (x123000_1 : ByteArray) (x123001_1 : ByteArray) (x124002_1 : List ByteArray) (u124002 : Value), v1 = .int .i64 x1_1 ∧ v38 = .int .i64 x38_1 ∧ Aside0 (data_read.l0 kq a0 x1_1 a2 a3_1 x38_1 a3_0 a3_1 a3_2 (a0.extract (a1 : Int).toNat ((wrap64 (a1 + a3_0)) : Int).toNat) (⟨#[]⟩ : ByteArray) x124002_1 = some (r1, r2, r3, r4)) ∧ Aside0 (kq ≤ k) ∧ Aside0 (Kd.R Kd.string 9 w' w.heap.size (fun _ => True) u124002 x124002_1) ∧ Aside0 (w'.heap[gb121]? = some (.cells #[.int .i64 a3_0, .int .i64 a3_1, .int .i64 a3_2] 138 (0, 0))) ∧ Aside0 (w'.heap[gb122]? = some (.cells #[.string x123000_1, .string x123001_1, (.slice none 0 0)] 130 (0, 0))) ∧ Aside0 (w'.heap[gb123]? = some (.cells #[.string (a0.extract (a1 : Int).toNat ((wrap64 (a1 + a3_0)) : Int).toNat), .string (⟨#[]⟩ : ByteArray), u124002] 130 (0, 0))) ∧ Aside0 (Below w.heap.size w w'))
     case atStart => exact ⟨(wrap64 (a1 + a3_0)), (0), ((⟨#[]⟩ : ByteArray)), ((⟨#[]⟩ : ByteArray)), (([] : List ByteArray)), (.slice none 0 0), (by first | rfl | (simp; done) | (simp [*]; done)), (by first | rfl | (simp; done) | (simp [*]; done)), H', ⟨Nat.le_refl _⟩, ⟨by first | exact Kd.R_nil _ _ _ _ _ | exact Kd.N_nil _ _ _ _ _ | exact Kd.V_nil _ _ _ _ _ | exact Kd.Q_nil _ _ _ _ _ | exact Kd.S_nil _ _ _ _ _⟩, ⟨by (with_reducible repeat (first | refine blk_drewN ?_ _ | refine blk_drew ?_ | refine blk_alloc ?_ _)); refine blk_far ?_ NB121_123.out _; (with_reducible repeat (first | refine blk_drewN ?_ _ | refine blk_drew ?_ | refine blk_alloc ?_ _)); exact BK121.out⟩, ⟨by (with_reducible repeat (first | refine blk_drewN ?_ _ | refine blk_drew ?_ | refine blk_alloc ?_ _)); refine blk_far ?_ NB122_123.out _; (with_reducible repeat (first | refine blk_drewN ?_ _ | refine blk_drew ?_ | refine blk_alloc ?_ _)); exact BK122.out⟩, ⟨by (with_reducible repeat (first | refine blk_drewN ?_ _ | refine blk_drew ?_ | refine blk_alloc ?_ _)); refine blk_put (cs := #[.string (⟨#[]⟩ : ByteArray), .string (⟨#[]⟩ : ByteArray), .slice none 0 0]) ?_ 0 _ rfl; (with_reducible repeat (first | refine blk_drewN ?_ _ | refine blk_drew ?_ | refine blk_alloc ?_ _)); exact BK123.out⟩, ⟨by repeat (first | (with_reducible first | exact HB.out | apply below_alloc | apply pw_below_drewN | apply below_drew1 | refine below_set ?_ GE121.out | refine below_set ?_ GE122.out | refine below_set ?_ GE123.out) | exact HB.out)⟩⟩
     case round =>
      clear H'
      try clear c1
      try clear p2
      try clear c5
      try clear c5b0
      try clear c6
      try clear c6b0
      try clear c6b1
      try clear p6
      try clear c7
      try clear c7b0
      try clear c7b1
      try clear c8
      try clear c8b0
      try clear c8b1
      try clear c10
      try clear c12
      try clear c13
      try clear c15
      try clear hcz14_0
      try clear hcz14_1
      try clear hcz14_2
      try clear hcz16_0
      try clear hcz16_1
      try clear hcz16_2
      try clear hfz14_0
      try clear hfz14_1
      try clear hfz14_2
      try clear hfz16_0
      try clear hfz16_1
      try clear hfz16_2
      obtain ⟨x1_1, x38_1, x123000_1, x123001_1, x124002_1, u124002, rfl, rfl, HA, HK1, HO_124002, BK121, BK122, BK123, HB⟩ := hrel
      cases gk with
      | zero => exact absurd HA.out (by simp [data_read.l0])
      | succ k1 =>
       have H := HA.out
       clear HA
       simp only [data_read.l0] at H
       by_cases c17 : x38_1 < a3_1
       ·rw [if_pos c17] at H
        have c17b0 : decide (x38_1 < a3_1) = true := decide_eq_true c17
        clear c17
        replace H := Option.bind_eq_some_iff.mp H
        obtain ⟨⟨t124, t125, t126⟩, A180, H⟩ := H
        replace H : (if t126 = 0 then (if t125 > a2 then (some ((⟨#[]⟩ : ByteArray), (⟨#[]⟩ : ByteArray), ([] : List ByteArray), false)) else (if x124002_1.length < 8796093022208 then (data_read.l0 k1 a0 t125 a2 a3_1 (wrap64 (x38_1 + 1)) a3_0 a3_1 a3_2 (a0.extract (a1 : Int).toNat ((wrap64 (a1 + a3_0)) : Int).toNat) (⟨#[]⟩ : ByteArray) (x124002_1 ++ [t124])) else (none))) else (some ((⟨#[]⟩ : ByteArray), (⟨#[]⟩ : ByteArray), ([] : List ByteArray), false))) = some (r1, r2, r3, r4) := H
        have A18 := Aside0.mk A180
        clear A180
        by_cases c19 : t126 = 0
        ·rw [if_pos c19] at H
         have c19b0 : (t126 == 0) = true := beq_iff_eq.mpr c19
         have c19b1 : (t126 != 0) = false := bne_eq_false_iff_eq.mpr c19
         clear c19
         by_cases c20 : t125 > a2
         ·rw [if_pos c20] at H
          have c20b0 : decide (a2 < t125) = true := decide_eq_true c20
          clear c20
          simp only [Option.some.injEq, Prod.mk.injEq] at H
          obtain ⟨rfl, rfl, rfl, rfl⟩ := H
          go_wp2_with (first | ((with_reducible refine gate_callee (f := 104) rfl ?_); refine goesL_ (some 43) rfl rfl Try.func104 (by kernel_rfl) rfl #[.string a0, .int .i64 x1_1] rfl (by (try simp only [List.map_toArray, List.map_cons, List.map_nil]); first | done | rfl | (simp only [List.length_drop, List.length_take]; rfl)) ?_; (with_reducible refine (comp_Read.calls k1 a0 x1_1 t124 t125 t126 _ A18.out).mono ?_); rintro e w21 ⟨rfl, hb⟩; refine ⟨_, rfl, ?_⟩; have n0_ := Aside0.mk (Kd.R_below (by (with_reducible repeat (first | apply Kd.R_alloc | apply Kd.R_drewN | apply Kd.R_drew)); exact HO_124002.out) hb); have n1_ := Aside0.mk (blk_below (g := gb121) (o := .cells #[.int .i64 a3_0, .int .i64 a3_1, .int .i64 a3_2] 138 (0, 0)) (by (with_reducible repeat (first | refine blk_drewN ?_ _ | refine blk_drew ?_ | refine blk_alloc ?_ _)); exact BK121.out) hb); have n2_ := Aside0.mk (blk_below (g := gb122) (o := .cells #[.string x123000_1, .string x123001_1, .slice none 0 0] 130 (0, 0)) (by (with_reducible repeat (first | refine blk_drewN ?_ _ | refine blk_drew ?_ | refine blk_alloc ?_ _)); exact BK122.out) hb); have n3_ := Aside0.mk (blk_below (g := gb123) (o := .cells #[.string (a0.extract (a1 : Int).toNat ((wrap64 (a1 + a3_0)) : Int).toNat), .string (⟨#[]⟩ : ByteArray), u124002] 130 (0, 0)) (by (with_reducible repeat (first | refine blk_drewN ?_ _ | refine blk_drew ?_ | refine blk_alloc ?_ _)); exact BK123.out) hb); have n4_ := Aside0.mk (below_step (by repeat (first | (with_reducible first | exact HB.out | apply below_alloc | apply pw_below_drewN | apply below_drew1 | refine below_set ?_ GE121.out | refine below_set ?_ GE122.out | refine below_set ?_ GE123.out) | exact HB.out)) hb); clear HO_124002; clear BK121; clear BK122; clear BK123; clear HB; have HO_124002 := n0_; have BK121 := n1_; have BK122 := n2_; have BK123 := n3_; have HB := n4_; clear n0_ n1_ n2_ n3_ n4_; (try clear hb); (try clear hb2); (try clear hk); (try clear hi); have hnb22 := NB122_121.out; have hnc22 := NB121_122.out; have hnb23 := NB122_123.out; have hnc23 := NB123_122.out; have hcz24_0 : w21.cell? ⟨gb122, 0, none⟩ = some (.string x123000_1) := (blk_cell BK122.out 0).trans rfl; have hcz24_1 : w21.cell? ⟨gb122, 1, none⟩ = some (.string x123001_1) := (blk_cell BK122.out 1).trans rfl; have hcz24_2 : w21.cell? ⟨gb122, 2, none⟩ = some (.slice none 0 0) := (blk_cell BK122.out 2).trans rfl; have hfz24_0 := blk_frozen BK122.out 0; have hfz24_1 := blk_frozen BK122.out 1; have hfz24_2 := blk_frozen BK122.out 2))
          refine bodyPost_ret (results_ct rfl _ _ gb122 130 #[.string (⟨#[]⟩ : ByteArray), .string (⟨#[]⟩ : ByteArray), .slice none 0 0] (0, 0) _ rfl (by (with_reducible repeat (first | refine blk_drewN ?_ _ | refine blk_drew ?_ | refine blk_alloc ?_ _)); refine blk_put (cs := #[.string (⟨#[]⟩ : ByteArray), .string (⟨#[]⟩ : ByteArray), .slice none 0 0]) ?_ 2 _ rfl; (with_reducible repeat (first | refine blk_drewN ?_ _ | refine blk_drew ?_ | refine blk_alloc ?_ _)); refine blk_put (cs := #[.string (⟨#[]⟩ : ByteArray), .string x123001_1, .slice none 0 0]) ?_ 1 _ rfl; (with_reducible repeat (first | refine blk_drewN ?_ _ | refine blk_drew ?_ | refine blk_alloc ?_ _)); refine blk_put (cs := #[.string x123000_1, .string x123001_1, .slice none 0 0]) ?_ 0 _ rfl; (with_reducible repeat (first | refine blk_drewN ?_ _ | refine blk_drew ?_ | refine blk_alloc ?_ _)); exact BK122.out) Try.underlying130 rfl (by kernel_rfl)) rfl ?_
          exact ⟨_, by first | rfl | (simp [errW_none, errW_some] <;> rfl) | (simp [*, errW_none, errW_some] <;> rfl), by first | exact Kd.R_nil _ _ _ _ _ | exact Kd.N_nil _ _ _ _ _ | exact Kd.V_nil _ _ _ _ _ | exact Kd.Q_nil _ _ _ _ _ | exact Kd.S_nil _ _ _ _ _, by repeat (first | (with_reducible first | exact HB.out | apply below_alloc | apply pw_below_drewN | apply below_drew1 | refine below_set ?_ GE121.out | refine below_set ?_ GE122.out | refine below_set ?_ GE123.out) | exact HB.out)⟩
         ·rw [if_neg c20] at H
          have c20b0 : decide (a2 < t125) = false := decide_eq_false c20
          clear c20
          by_cases c25 : x124002_1.length < 8796093022208
          ·rw [if_pos c25] at H
           have LMc25 := Aside0.mk c25
           clear c25
           obtain ⟨y127, hy127⟩ : ∃ y_ : List ByteArray, y_ = (x124002_1 ++ [t124]) := ⟨_, rfl⟩
           replace H : (data_read.l0 k1 a0 t125 a2 a3_1 (wrap64 (x38_1 + 1)) a3_0 a3_1 a3_2 (a0.extract (a1 : Int).toNat ((wrap64 (a1 + a3_0)) : Int).toNat) (⟨#[]⟩ : ByteArray) y127) = some (r1, r2, r3, r4) := by first | (rw [hy127]; with_reducible exact H) | (have H2_ := (Option.bind_some _ _).symm.trans H; rw [hy127]; with_reducible exact H2_) | (have H2_ := (Option.bind_some _ _).symm.trans H; with_reducible exact H2_) | with_reducible exact H | (rw [hy127]; exact H) | exact H
           have Ny127 := Aside0.mk hy127
           clear hy127
           have H' := Aside0.mk H
           clear H
           go_wp2_with (first | ((with_reducible refine gate_callee (f := 104) rfl ?_); refine goesL_ (some 43) rfl rfl Try.func104 (by kernel_rfl) rfl #[.string a0, .int .i64 x1_1] rfl (by (try simp only [List.map_toArray, List.map_cons, List.map_nil]); first | done | rfl | (simp only [List.length_drop, List.length_take]; rfl)) ?_; (with_reducible refine (comp_Read.calls k1 a0 x1_1 t124 t125 t126 _ A18.out).mono ?_); rintro e w26 ⟨rfl, hb⟩; refine ⟨_, rfl, ?_⟩; have n0_ := Aside0.mk (Kd.R_below (by (with_reducible repeat (first | apply Kd.R_alloc | apply Kd.R_drewN | apply Kd.R_drew)); exact HO_124002.out) hb); have n1_ := Aside0.mk (blk_below (g := gb121) (o := .cells #[.int .i64 a3_0, .int .i64 a3_1, .int .i64 a3_2] 138 (0, 0)) (by (with_reducible repeat (first | refine blk_drewN ?_ _ | refine blk_drew ?_ | refine blk_alloc ?_ _)); exact BK121.out) hb); have n2_ := Aside0.mk (blk_below (g := gb122) (o := .cells #[.string x123000_1, .string x123001_1, .slice none 0 0] 130 (0, 0)) (by (with_reducible repeat (first | refine blk_drewN ?_ _ | refine blk_drew ?_ | refine blk_alloc ?_ _)); exact BK122.out) hb); have n3_ := Aside0.mk (blk_below (g := gb123) (o := .cells #[.string (a0.extract (a1 : Int).toNat ((wrap64 (a1 + a3_0)) : Int).toNat), .string (⟨#[]⟩ : ByteArray), u124002] 130 (0, 0)) (by (with_reducible repeat (first | refine blk_drewN ?_ _ | refine blk_drew ?_ | refine blk_alloc ?_ _)); exact BK123.out) hb); have n4_ := Aside0.mk (below_step (by repeat (first | (with_reducible first | exact HB.out | apply below_alloc | apply pw_below_drewN | apply below_drew1 | refine below_set ?_ GE121.out | refine below_set ?_ GE122.out | refine below_set ?_ GE123.out) | exact HB.out)) hb); clear HO_124002; clear BK121; clear BK122; clear BK123; clear HB; have HO_124002 := n0_; have BK121 := n1_; have BK122 := n2_; have BK123 := n3_; have HB := n4_; clear n0_ n1_ n2_ n3_ n4_; (try clear hb); (try clear hb2); (try clear hk); (try clear hi); have hnb27 := NB123_121.out; have hnc27 := NB121_123.out; have hnb28 := NB123_122.out; have hnc28 := NB122_123.out; have hcz29_0 : w26.cell? ⟨gb123, 0, none⟩ = some (.string (a0.extract (a1 : Int).toNat ((wrap64 (a1 + a3_0)) : Int).toNat)) := (blk_cell BK123.out 0).trans rfl; have hcz29_1 : w26.cell? ⟨gb123, 1, none⟩ = some (.string (⟨#[]⟩ : ByteArray)) := (blk_cell BK123.out 1).trans rfl; have hcz29_2 : w26.cell? ⟨gb123, 2, none⟩ = some (u124002) := (blk_cell BK123.out 2).trans rfl; have hfz29_0 := blk_frozen BK123.out 0; have hfz29_1 := blk_frozen BK123.out 1; have hfz29_2 := blk_frozen BK123.out 2) | ((with_reducible refine gate_builtin (b := .append) (xs := #[.tmp 56, .tmp 58]) rfl ?_); at_builtin; refine Kd.R_append Kd.string (w0 := w) w.heap.size rfl (.tmp 56) (.tmp 58) 25 9 (.string ⟨#[]⟩) 16 rfl Try.underlying25 info9 rfl (by decide) (by omega) u124002 x124002_1 t124 [.string t124] (fun _ => True) (fun _ => False) rfl rfl ?aP (fun _ hk => hk.elim) ?aF ?aO ?aB ?aS ?aL ?_; (case aP => exact rfl); (case aB => exact (by repeat (first | (with_reducible first | exact HB.out | apply below_alloc | apply pw_below_drewN | apply below_drew1 | refine below_set ?_ GE121.out | refine below_set ?_ GE122.out | refine below_set ?_ GE123.out) | exact HB.out))); (case aF => exact (fun _ _ => trivial)); (case aO => exact (by (with_reducible repeat (first | apply Kd.R_alloc | apply Kd.R_drewN | apply Kd.R_drew)); exact HO_124002.out)); (case aS => exact (below_size (by repeat (first | (with_reducible first | exact HB.out | apply below_alloc | apply pw_below_drewN | apply below_drew1 | refine below_set ?_ GE121.out | refine below_set ?_ GE122.out | refine below_set ?_ GE123.out) | exact HB.out)))); (case aL => have := LMc25.out; omega); intro v128 w30 ho hb hg hat; rw [← Ny127.out] at ho; have n0_ := Aside0.mk (blk_grown (g := gb121) (o := .cells #[.int .i64 a3_0, .int .i64 a3_1, .int .i64 a3_2] 138 (0, 0)) (by (with_reducible repeat (first | refine blk_drewN ?_ _ | refine blk_drew ?_ | refine blk_alloc ?_ _)); exact BK121.out) hg (Kd.R_ne HO_124002.out BK121.out (by decide))); have n1_ := Aside0.mk (blk_grown (g := gb122) (o := .cells #[.string x123000_1, .string x123001_1, .slice none 0 0] 130 (0, 0)) (by (with_reducible repeat (first | refine blk_drewN ?_ _ | refine blk_drew ?_ | refine blk_alloc ?_ _)); exact BK122.out) hg (Kd.R_ne HO_124002.out BK122.out (by decide))); have n2_ := Aside0.mk (blk_grown (g := gb123) (o := .cells #[.string (a0.extract (a1 : Int).toNat ((wrap64 (a1 + a3_0)) : Int).toNat), .string (⟨#[]⟩ : ByteArray), u124002] 130 (0, 0)) (by (with_reducible repeat (first | refine blk_drewN ?_ _ | refine blk_drew ?_ | refine blk_alloc ?_ _)); exact BK123.out) hg (Kd.R_ne HO_124002.out BK123.out (by decide))); have n3_ := Aside0.mk (hb); have n4_ := Aside0.mk (ho); clear BK121; clear BK122; clear BK123; clear HB; clear HO_124002; have BK121 := n0_; have BK122 := n1_; have BK123 := n2_; have HB := n3_; have HO129 := n4_; clear n0_ n1_ n2_ n3_ n4_; clear ho hb hg hat; obtain ⟨Ao31, co31, eo31⟩ := Kd.R_slice HO129.out; subst eo31; have hcz32_0 : w30.cell? ⟨gb123, 0, none⟩ = some (.string (a0.extract (a1 : Int).toNat ((wrap64 (a1 + a3_0)) : Int).toNat)) := (blk_cell BK123.out 0).trans rfl; have hcz32_1 : w30.cell? ⟨gb123, 1, none⟩ = some (.string (⟨#[]⟩ : ByteArray)) := (blk_cell BK123.out 1).trans rfl; have hcz32_2 : w30.cell? ⟨gb123, 2, none⟩ = some (u124002) := (blk_cell BK123.out 2).trans rfl; have hfz32_0 := blk_frozen BK123.out 0; have hfz32_1 := blk_frozen BK123.out 1; have hfz32_2 := blk_frozen BK123.out 2))
           go_roundg k1
           case measure => have := HK1.out; omega
           case rel => exact ⟨(t125), (wrap64 (x38_1 + 1)), (x123000_1), (x123001_1), (y127), (.slice Ao31 y127.length co31), (by first | rfl | (simp; done) | (simp [*]; done)), (by first | rfl | (simp; done) | (simp [*]; done)), H', ⟨by have := HK1.out; omega⟩, ⟨by (with_reducible repeat (first | apply Kd.R_alloc | apply Kd.R_drewN | apply Kd.R_drew)); exact Kd.R_mono (Kd.R_far (p := ⟨gb123, 2, none⟩) (Kd.R_types HO129.out BK123.out (by decide)) (fun _ hk => hk.2) (.slice Ao31 y127.length co31)) (fun _ hk => trivial)⟩, ⟨by (with_reducible repeat (first | refine blk_drewN ?_ _ | refine blk_drew ?_ | refine blk_alloc ?_ _)); refine blk_far ?_ NB121_123.out _; (with_reducible repeat (first | refine blk_drewN ?_ _ | refine blk_drew ?_ | refine blk_alloc ?_ _)); exact BK121.out⟩, ⟨by (with_reducible repeat (first | refine blk_drewN ?_ _ | refine blk_drew ?_ | refine blk_alloc ?_ _)); refine blk_far ?_ NB122_123.out _; (with_reducible repeat (first | refine blk_drewN ?_ _ | refine blk_drew ?_ | refine blk_alloc ?_ _)); exact BK122.out⟩, ⟨by (with_reducible repeat (first | refine blk_drewN ?_ _ | refine blk_drew ?_ | refine blk_alloc ?_ _)); refine blk_put (cs := #[.string (a0.extract (a1 : Int).toNat ((wrap64 (a1 + a3_0)) : Int).toNat), .string (⟨#[]⟩ : ByteArray), u124002]) ?_ 2 _ rfl; (with_reducible repeat (first | refine blk_drewN ?_ _ | refine blk_drew ?_ | refine blk_alloc ?_ _)); exact BK123.out⟩, ⟨by repeat (first | (with_reducible first | exact HB.out | apply below_alloc | apply pw_below_drewN | apply below_drew1 | refine below_set ?_ GE121.out | refine below_set ?_ GE122.out | refine below_set ?_ GE123.out) | exact HB.out)⟩⟩
          ·rw [if_neg c25] at H
           exact absurd H (by simp)
        ·rw [if_neg c19] at H
         have c19b0 : (t126 == 0) = false := beq_eq_false_iff_ne.mpr c19
         have c19b1 : (t126 != 0) = true := bne_iff_ne.mpr c19
         simp only [Option.some.injEq, Prod.mk.injEq] at H
         obtain ⟨rfl, rfl, rfl, rfl⟩ := H
         go_wp2_with (first | ((with_reducible refine gate_callee (f := 104) rfl ?_); refine goesL_ (some 43) rfl rfl Try.func104 (by kernel_rfl) rfl #[.string a0, .int .i64 x1_1] rfl (by (try simp only [List.map_toArray, List.map_cons, List.map_nil]); first | done | rfl | (simp only [List.length_drop, List.length_take]; rfl)) ?_; (with_reducible refine (comp_Read.calls k1 a0 x1_1 t124 t125 t126 _ A18.out).mono ?_); rintro e w33 ⟨rfl, hb⟩; refine ⟨_, rfl, ?_⟩; have n0_ := Aside0.mk (Kd.R_below (by (with_reducible repeat (first | apply Kd.R_alloc | apply Kd.R_drewN | apply Kd.R_drew)); exact HO_124002.out) hb); have n1_ := Aside0.mk (blk_below (g := gb121) (o := .cells #[.int .i64 a3_0, .int .i64 a3_1, .int .i64 a3_2] 138 (0, 0)) (by (with_reducible repeat (first | refine blk_drewN ?_ _ | refine blk_drew ?_ | refine blk_alloc ?_ _)); exact BK121.out) hb); have n2_ := Aside0.mk (blk_below (g := gb122) (o := .cells #[.string x123000_1, .string x123001_1, .slice none 0 0] 130 (0, 0)) (by (with_reducible repeat (first | refine blk_drewN ?_ _ | refine blk_drew ?_ | refine blk_alloc ?_ _)); exact BK122.out) hb); have n3_ := Aside0.mk (blk_below (g := gb123) (o := .cells #[.string (a0.extract (a1 : Int).toNat ((wrap64 (a1 + a3_0)) : Int).toNat), .string (⟨#[]⟩ : ByteArray), u124002] 130 (0, 0)) (by (with_reducible repeat (first | refine blk_drewN ?_ _ | refine blk_drew ?_ | refine blk_alloc ?_ _)); exact BK123.out) hb); have n4_ := Aside0.mk (below_step (by repeat (first | (with_reducible first | exact HB.out | apply below_alloc | apply pw_below_drewN | apply below_drew1 | refine below_set ?_ GE121.out | refine below_set ?_ GE122.out | refine below_set ?_ GE123.out) | exact HB.out)) hb); clear HO_124002; clear BK121; clear BK122; clear BK123; clear HB; have HO_124002 := n0_; have BK121 := n1_; have BK122 := n2_; have BK123 := n3_; have HB := n4_; clear n0_ n1_ n2_ n3_ n4_; (try clear hb); (try clear hb2); (try clear hk); (try clear hi); have hnb34 := NB122_121.out; have hnc34 := NB121_122.out; have hnb35 := NB122_123.out; have hnc35 := NB123_122.out; have hcz36_0 : w33.cell? ⟨gb122, 0, none⟩ = some (.string x123000_1) := (blk_cell BK122.out 0).trans rfl; have hcz36_1 : w33.cell? ⟨gb122, 1, none⟩ = some (.string x123001_1) := (blk_cell BK122.out 1).trans rfl; have hcz36_2 : w33.cell? ⟨gb122, 2, none⟩ = some (.slice none 0 0) := (blk_cell BK122.out 2).trans rfl; have hfz36_0 := blk_frozen BK122.out 0; have hfz36_1 := blk_frozen BK122.out 1; have hfz36_2 := blk_frozen BK122.out 2))
         refine bodyPost_ret (results_ct rfl _ _ gb122 130 #[.string (⟨#[]⟩ : ByteArray), .string (⟨#[]⟩ : ByteArray), .slice none 0 0] (0, 0) _ rfl (by (with_reducible repeat (first | refine blk_drewN ?_ _ | refine blk_drew ?_ | refine blk_alloc ?_ _)); refine blk_put (cs := #[.string (⟨#[]⟩ : ByteArray), .string (⟨#[]⟩ : ByteArray), .slice none 0 0]) ?_ 2 _ rfl; (with_reducible repeat (first | refine blk_drewN ?_ _ | refine blk_drew ?_ | refine blk_alloc ?_ _)); refine blk_put (cs := #[.string (⟨#[]⟩ : ByteArray), .string x123001_1, .slice none 0 0]) ?_ 1 _ rfl; (with_reducible repeat (first | refine blk_drewN ?_ _ | refine blk_drew ?_ | refine blk_alloc ?_ _)); refine blk_put (cs := #[.string x123000_1, .string x123001_1, .slice none 0 0]) ?_ 0 _ rfl; (with_reducible repeat (first | refine blk_drewN ?_ _ | refine blk_drew ?_ | refine blk_alloc ?_ _)); exact BK122.out) Try.underlying130 rfl (by kernel_rfl)) rfl ?_
         exact ⟨_, by first | rfl | (simp [errW_none, errW_some] <;> rfl) | (simp [*, errW_none, errW_some] <;> rfl), by first | exact Kd.R_nil _ _ _ _ _ | exact Kd.N_nil _ _ _ _ _ | exact Kd.V_nil _ _ _ _ _ | exact Kd.Q_nil _ _ _ _ _ | exact Kd.S_nil _ _ _ _ _, by repeat (first | (with_reducible first | exact HB.out | apply below_alloc | apply pw_below_drewN | apply below_drew1 | refine below_set ?_ GE121.out | refine below_set ?_ GE122.out | refine below_set ?_ GE123.out) | exact HB.out)⟩
       ·rw [if_neg c17] at H
        have c17b0 : decide (x38_1 < a3_1) = false := decide_eq_false c17
        clear c17
        by_cases c37 : 0 ≤ x1_1
        ·rw [if_pos c37] at H
         have c37b0 := eq_true c37
         have c37b1 : decide (0 ≤ x1_1) = true := decide_eq_true c37
         clear c37
         by_cases c38 : x1_1 ≤ a2
         ·rw [if_pos c38] at H
          have c38b0 := eq_true c38
          have c38b1 : decide (x1_1 ≤ a2) = true := decide_eq_true c38
          clear c38
          by_cases c39 : a2 ≤ (a0.size : Int)
          ·rw [if_pos c39] at H
           have c39b0 := eq_true c39
           have c39b1 : decide (a2 ≤ (a0.size : Int)) = true := decide_eq_true c39
           clear c39
           simp only [Option.some.injEq, Prod.mk.injEq] at H
           obtain ⟨rfl, rfl, rfl, rfl⟩ := H
           have hnb40 := NB123_121.out
           have hnc40 := NB121_123.out
           have hnb41 := NB123_122.out
           have hnc41 := NB122_123.out
           have hcz42_0 : wr.cell? ⟨gb123, 0, none⟩ = some (.string (a0.extract (a1 : Int).toNat ((wrap64 (a1 + a3_0)) : Int).toNat)) := (blk_cell BK123.out 0).trans rfl
           have hcz42_1 : wr.cell? ⟨gb123, 1, none⟩ = some (.string (⟨#[]⟩ : ByteArray)) := (blk_cell BK123.out 1).trans rfl
           have hcz42_2 : wr.cell? ⟨gb123, 2, none⟩ = some (u124002) := (blk_cell BK123.out 2).trans rfl
           have hfz42_0 := blk_frozen BK123.out 0
           have hfz42_1 := blk_frozen BK123.out 1
           have hfz42_2 := blk_frozen BK123.out 2
           try go_wp2
           have n0_ : Aside0 (Kd.R Kd.string 9 (wr.setCell ⟨gb123, 1, none⟩ (.string (a0.extract (x1_1 : Int).toNat (a2 : Int).toNat))) w.heap.size (fun _ => True) u124002 x124002_1) := ⟨by (with_reducible repeat (first | apply Kd.R_alloc | apply Kd.R_drewN | apply Kd.R_drew)); exact Kd.R_mono (Kd.R_far (p := ⟨gb123, 1, none⟩) (Kd.R_types HO_124002.out BK123.out (by decide)) (fun _ hk => hk.2) (.string (a0.extract (x1_1 : Int).toNat (a2 : Int).toNat))) (fun _ hk => trivial)⟩
           have n1_ : Aside0 ((wr.setCell ⟨gb123, 1, none⟩ (.string (a0.extract (x1_1 : Int).toNat (a2 : Int).toNat))).heap[gb121]? = some (.cells #[.int .i64 a3_0, .int .i64 a3_1, .int .i64 a3_2] 138 (0, 0))) := ⟨by (with_reducible repeat (first | refine blk_drewN ?_ _ | refine blk_drew ?_ | refine blk_alloc ?_ _)); refine blk_far ?_ NB121_123.out _; (with_reducible repeat (first | refine blk_drewN ?_ _ | refine blk_drew ?_ | refine blk_alloc ?_ _)); exact BK121.out⟩
           have n2_ : Aside0 ((wr.setCell ⟨gb123, 1, none⟩ (.string (a0.extract (x1_1 : Int).toNat (a2 : Int).toNat))).heap[gb122]? = some (.cells #[.string x123000_1, .string x123001_1, .slice none 0 0] 130 (0, 0))) := ⟨by (with_reducible repeat (first | refine blk_drewN ?_ _ | refine blk_drew ?_ | refine blk_alloc ?_ _)); refine blk_far ?_ NB122_123.out _; (with_reducible repeat (first | refine blk_drewN ?_ _ | refine blk_drew ?_ | refine blk_alloc ?_ _)); exact BK122.out⟩
           have n3_ : Aside0 ((wr.setCell ⟨gb123, 1, none⟩ (.string (a0.extract (x1_1 : Int).toNat (a2 : Int).toNat))).heap[gb123]? = some (.cells #[.string (a0.extract (a1 : Int).toNat ((wrap64 (a1 + a3_0)) : Int).toNat), .string (a0.extract (x1_1 : Int).toNat (a2 : Int).toNat), u124002] 130 (0, 0))) := ⟨by (with_reducible repeat (first | refine blk_drewN ?_ _ | refine blk_drew ?_ | refine blk_alloc ?_ _)); refine blk_put (cs := #[.string (a0.extract (a1 : Int).toNat ((wrap64 (a1 + a3_0)) : Int).toNat), .string (⟨#[]⟩ : ByteArray), u124002]) ?_ 1 _ rfl; (with_reducible repeat (first | refine blk_drewN ?_ _ | refine blk_drew ?_ | refine blk_alloc ?_ _)); exact BK123.out⟩
           have n4_ : Aside0 (Below w.heap.size w (wr.setCell ⟨gb123, 1, none⟩ (.string (a0.extract (x1_1 : Int).toNat (a2 : Int).toNat)))) := ⟨by repeat (first | (with_reducible first | exact HB.out | apply below_alloc | apply pw_below_drewN | apply below_drew1 | refine below_set ?_ GE121.out | refine below_set ?_ GE122.out | refine below_set ?_ GE123.out) | exact HB.out)⟩
           (try clear HO_124002)
           (try clear BK121)
           (try clear BK122)
           (try clear BK123)
           (try clear HB)
           generalize (wr.setCell ⟨gb123, 1, none⟩ (.string (a0.extract (x1_1 : Int).toNat (a2 : Int).toNat))) = w43 at n0_ n1_ n2_ n3_ n4_ ⊢
           have HO_124002 := n0_
           have BK121 := n1_
           have BK122 := n2_
           have BK123 := n3_
           have HB := n4_
           clear n0_ n1_ n2_ n3_ n4_
           have n0_ := Aside0.mk (Kd.R_drew HO_124002.out)
           have n1_ := Aside0.mk (blk_drew BK121.out)
           have n2_ := Aside0.mk (blk_drew BK122.out)
           have n3_ := Aside0.mk (blk_drew BK123.out)
           have n4_ := Aside0.mk (below_drew1 HB.out)
           clear HO_124002
           clear BK121
           clear BK122
           clear BK123
           clear HB
           have HO_124002 := n0_
           have BK121 := n1_
           have BK122 := n2_
           have BK123 := n3_
           have HB := n4_
           clear n0_ n1_ n2_ n3_ n4_
           obtain ⟨Ao47, co47, eo47⟩ := Kd.R_slice HO_124002.out
           (first | subst eo47 | (injection eo47 with f1_ f2_ f3_; have f4_ := f1_.symm; have f5_ := f3_.symm; clear f1_ f2_ f3_; subst f4_; subst f5_))
           refine start_ (n := 9) (S := fun w' => w'.cell? ⟨gb123, 0, none⟩ = some (.string (a0.extract (a1 : Int).toNat ((wrap64 (a1 + a3_0)) : Int).toNat)) ∧ w'.cell? ⟨gb123, 1, none⟩ = some (.string (a0.extract (x1_1 : Int).toNat (a2 : Int).toNat)) ∧ w'.cell? ⟨gb123, 2, none⟩ = some (.slice Ao47 x124002_1.length co47) ∧ w'.cell? ⟨gb121, 0, none⟩ = some (.int .i64 a3_0) ∧ w'.cell? ⟨gb121, 1, none⟩ = some (.int .i64 a3_1) ∧ w'.cell? ⟨gb121, 2, none⟩ = some (.int .i64 a3_2)) (ds := []) #[false, false, false, false, false, false, false, false, false] (by kernel_rfl) rfl rfl ⟨(blk_cell BK123.out 0).trans rfl, (blk_cell BK123.out 1).trans rfl, (blk_cell BK123.out 2).trans rfl, (blk_cell BK121.out 0).trans rfl, (blk_cell BK121.out 1).trans rfl, (blk_cell BK121.out 2).trans rfl⟩ (fun hHeld => ?_); refine with_tabW data_read.tab15 data_read.bits15 (fun HT_ HW_ => ?_)
           generalize w43.drew = w44 at HO_124002 BK121 BK122 BK123 HB hHeld ⊢
           refine pure_ (i := 1) (N := some 69) (v := ?_) (a' := ?_) #[false, true, false, false, false, false, false, false, false] rfl rfl (any_of HT_.out (by kernel_rfl)) (fun _ _ _ h => h) (Or.inl ⟨by rfl, ?_⟩) ?_ ?_
           rotate_left
           ·intro w'
            go_simp
            with_reducible rfl
           rotate_left
           ·simp only [Act.put, List.setIfInBounds_toArray, List.set_cons_zero, List.set_cons_succ, i64_w, i32_w]
            rfl
           refine pure_ (i := 4) (N := some 72) (v := ?_) (a' := ?_) #[false, true, false, false, true, false, false, false, false] rfl rfl (any_of HT_.out (by kernel_rfl)) (fun _ _ _ h => h) (Or.inl ⟨by rfl, ?_⟩) ?_ ?_
           rotate_left
           ·intro w'
            go_simp
            with_reducible rfl
           rotate_left
           ·simp only [Act.put, List.setIfInBounds_toArray, List.set_cons_zero, List.set_cons_succ, i64_w, i32_w]
            rfl
           refine take_ (i := 0) (N := some 68) (v := ?_) (a' := ?_) #[true, true, false, false, true, false, false, false, false] rfl rfl (take_ofW HT_.out HW_.out (by kernel_rfl)) (fun _ _ _ h => h) (Or.inl ⟨by rfl, ?_⟩) hHeld ?_ ?_
           rotate_left
           ·rintro w' ⟨s0, s1, s2, s3, s4, s5⟩
            go_simp
            with_reducible rfl
           rotate_left
           ·simp only [Act.put, List.setIfInBounds_toArray, List.set_cons_zero, List.set_cons_succ, i64_w, i32_w]
            rfl
           refine take_ (i := 2) (N := some 70) (v := ?_) (a' := ?_) #[true, true, true, false, true, false, false, false, false] rfl rfl (take_ofW HT_.out HW_.out (by kernel_rfl)) (fun _ _ _ h => h) (Or.inl ⟨by rfl, ?_⟩) hHeld ?_ ?_
           rotate_left
           ·rintro w' ⟨s0, s1, s2, s3, s4, s5⟩
            go_simp
            with_reducible rfl
           rotate_left
           ·simp only [Act.put, List.setIfInBounds_toArray, List.set_cons_zero, List.set_cons_succ, i64_w, i32_w]
            rfl
           refine pure_ (i := 3) (N := some 71) (v := ?_) (a' := ?_) #[true, true, true, true, true, false, false, false, false] rfl rfl (any_of HT_.out (by kernel_rfl)) (fun _ _ _ h => h) (Or.inl ⟨by rfl, ?_⟩) ?_ ?_
           rotate_left
           ·intro w'
            go_simp
            with_reducible rfl
           rotate_left
           ·simp only [Act.put, List.setIfInBounds_toArray, List.set_cons_zero, List.set_cons_succ, i64_w, i32_w]
            rfl
           refine take_ (i := 5) (N := some 73) (v := ?_) (a' := ?_) #[true, true, true, true, true, true, false, false, false] rfl rfl (take_ofW HT_.out HW_.out (by kernel_rfl)) (fun _ _ _ h => h) (Or.inl ⟨by rfl, ?_⟩) hHeld ?_ ?_
           rotate_left
           ·rintro w' ⟨s0, s1, s2, s3, s4, s5⟩
            go_simp
            with_reducible rfl
           rotate_left
           ·simp only [Act.put, List.setIfInBounds_toArray, List.set_cons_zero, List.set_cons_succ, i64_w, i32_w]
            rfl
           refine pure_ (i := 6) (N := some 74) (v := ?_) (a' := ?_) #[true, true, true, true, true, true, true, false, false] rfl rfl (any_of HT_.out (by kernel_rfl)) (fun _ _ _ h => h) (Or.inl ⟨by rfl, ?_⟩) ?_ ?_
           rotate_left
           ·intro w'
            go_simp
            with_reducible rfl
           rotate_left
           ·simp only [Act.put, List.setIfInBounds_toArray, List.set_cons_zero, List.set_cons_succ, i64_w, i32_w]
            rfl
           refine one_ (i := 7) (N := none) #[true, true, true, true, true, true, true, true, false] rfl rfl (one_of HT_.out (by kernel_rfl)) (by decide) (fun K hK => ?_)
           have hs45 : w44.cell? ⟨gb122, 0, none⟩ = some (.string x123000_1) := (blk_cell BK122.out 0).trans rfl
           have hfs45 := blk_frozen BK122.out 0
           have hns45_0 := NB121_122.out
           have hns45_2 := NB123_122.out
           have hms45_0 := NB122_121.out
           have hms45_2 := NB122_123.out
           have hs46 : w44.cell? ⟨gb122, 1, none⟩ = some (.string x123001_1) := (blk_cell BK122.out 1).trans rfl
           have hfs46 := blk_frozen BK122.out 1
           have hns46_0 := NB121_122.out
           have hns46_2 := NB123_122.out
           have hms46_0 := NB122_121.out
           have hms46_2 := NB122_123.out
           have hs48 : w44.cell? ⟨gb122, 2, none⟩ = some (.slice none 0 0) := (blk_cell BK122.out 2).trans rfl
           have hfs48 := blk_frozen BK122.out 2
           have hns48_0 := NB121_122.out
           have hns48_2 := NB123_122.out
           have hms48_0 := NB122_121.out
           have hms48_2 := NB122_123.out
           refine skip_ (w1 := ?_) (by rfl) rfl ?_ ?_
           rotate_left
           ·go_simp
            rfl
           refine hK.out _ _ ⟨((cell_far (p := ⟨gb122, _, none⟩) NB123_122.out _).trans (((cell_far (p := ⟨gb122, _, none⟩) NB123_122.out _).trans (((cell_far (p := ⟨gb122, _, none⟩) NB123_122.out _).trans (hHeld.1)))))), ((cell_far (p := ⟨gb122, _, none⟩) NB123_122.out _).trans (((cell_far (p := ⟨gb122, _, none⟩) NB123_122.out _).trans (((cell_far (p := ⟨gb122, _, none⟩) NB123_122.out _).trans (hHeld.2.1)))))), ((cell_far (p := ⟨gb122, _, none⟩) NB123_122.out _).trans (((cell_far (p := ⟨gb122, _, none⟩) NB123_122.out _).trans (((cell_far (p := ⟨gb122, _, none⟩) NB123_122.out _).trans (hHeld.2.2.1)))))), ((cell_far (p := ⟨gb122, _, none⟩) NB121_122.out _).trans (((cell_far (p := ⟨gb122, _, none⟩) NB121_122.out _).trans (((cell_far (p := ⟨gb122, _, none⟩) NB121_122.out _).trans (hHeld.2.2.2.1)))))), ((cell_far (p := ⟨gb122, _, none⟩) NB121_122.out _).trans (((cell_far (p := ⟨gb122, _, none⟩) NB121_122.out _).trans (((cell_far (p := ⟨gb122, _, none⟩) NB121_122.out _).trans (hHeld.2.2.2.2.1)))))), ((cell_far (p := ⟨gb122, _, none⟩) NB121_122.out _).trans (((cell_far (p := ⟨gb122, _, none⟩) NB121_122.out _).trans (((cell_far (p := ⟨gb122, _, none⟩) NB121_122.out _).trans (hHeld.2.2.2.2.2))))))⟩ (fun hHeld => ?_)
           clear hK K
           refine pure_ (i := 8) (N := some 9) (v := ?_) (a' := ?_) #[true, true, true, true, true, true, true, true, true] rfl rfl (any_of HT_.out (by kernel_rfl)) (fun _ _ _ h => h) (Or.inl ⟨by rfl, ?_⟩) ?_ ?_
           rotate_left
           ·intro w'
            go_simp
            with_reducible rfl
           rotate_left
           ·simp only [Act.put, List.setIfInBounds_toArray, List.set_cons_zero, List.set_cons_succ, i64_w, i32_w]
            rfl
           refine done_ (done_of HT_.out (by kernel_rfl)) ?_
           try go_wp2
           refine bodyPost_ret (results_ct rfl _ _ gb122 130 #[.string (a0.extract (a1 : Int).toNat ((wrap64 (a1 + a3_0)) : Int).toNat), .string (a0.extract (x1_1 : Int).toNat (a2 : Int).toNat), .slice Ao47 x124002_1.length co47] (0, 0) _ rfl (by (with_reducible repeat (first | refine blk_drewN ?_ _ | refine blk_drew ?_ | refine blk_alloc ?_ _)); refine blk_put (cs := #[.string (a0.extract (a1 : Int).toNat ((wrap64 (a1 + a3_0)) : Int).toNat), .string (a0.extract (x1_1 : Int).toNat (a2 : Int).toNat), .slice none 0 0]) ?_ 2 _ rfl; (with_reducible repeat (first | refine blk_drewN ?_ _ | refine blk_drew ?_ | refine blk_alloc ?_ _)); refine blk_put (cs := #[.string (a0.extract (a1 : Int).toNat ((wrap64 (a1 + a3_0)) : Int).toNat), .string x123001_1, .slice none 0 0]) ?_ 1 _ rfl; (with_reducible repeat (first | refine blk_drewN ?_ _ | refine blk_drew ?_ | refine blk_alloc ?_ _)); refine blk_put (cs := #[.string x123000_1, .string x123001_1, .slice none 0 0]) ?_ 0 _ rfl; (with_reducible repeat (first | refine blk_drewN ?_ _ | refine blk_drew ?_ | refine blk_alloc ?_ _)); exact BK122.out) Try.underlying130 rfl (by kernel_rfl)) rfl ?_
           exact ⟨_, by first | rfl | (simp [errW_none, errW_some] <;> rfl) | (simp [*, errW_none, errW_some] <;> rfl), by (with_reducible repeat (first | apply Kd.R_alloc | apply Kd.R_drewN | apply Kd.R_drew)); exact Kd.R_mono (Kd.R_far (p := ⟨gb122, 2, none⟩) (Kd.R_far (p := ⟨gb122, 1, none⟩) (Kd.R_far (p := ⟨gb122, 0, none⟩) (Kd.R_types HO_124002.out BK122.out (by decide)) (fun _ hk => hk.2) (.string (a0.extract (a1 : Int).toNat ((wrap64 (a1 + a3_0)) : Int).toNat))) (fun _ hk => hk.2) (.string (a0.extract (x1_1 : Int).toNat (a2 : Int).toNat))) (fun _ hk => hk.2) (.slice Ao47 x124002_1.length co47)) (fun _ hk => trivial), by repeat (first | (with_reducible first | exact HB.out | apply below_alloc | apply pw_below_drewN | apply below_drew1 | refine below_set ?_ GE121.out | refine below_set ?_ GE122.out | refine below_set ?_ GE123.out) | exact HB.out)⟩
          ·rw [if_neg c39] at H
           exact absurd H (by simp)
         ·rw [if_neg c38] at H
          exact absurd H (by simp)
        ·rw [if_neg c37] at H
         exact absurd H (by simp)
    ·rw [if_neg c8] at H
     exact absurd H (by simp)
   ·rw [if_neg c7] at H
    exact absurd H (by simp)
  ·rw [if_neg c6] at H
   exact absurd H (by simp)
 ·rw [if_neg c5] at H
  have c5b0 : decide (a3_0 ≤ (wrap64 (a2 - a1))) = false := decide_eq_false c5
  clear c5
  simp only [Option.some.injEq, Prod.mk.injEq] at H
  obtain ⟨rfl, rfl, rfl, rfl⟩ := H
  go_enter Try.func100, Try.ntmps100
  go_wp2_with (first | ((with_reducible refine gate_dst (N := 7) rfl ?_); refine box_event ?hg (N := 7) ?hd (cs := #[.int .i64 a3_0, .int .i64 a3_1, .int .i64 a3_2]) (t := 138) ?hr ?_; (case hd => rfl); (case hg => rfl); (case hr => first | (go_simp; done) | (go_simp; rfl)); intro gb121 hg w49 hbox hb; have n0_ := Aside0.mk (below_step (by repeat (first | (with_reducible first | exact HB.out | apply below_alloc | apply pw_below_drewN | apply below_drew1) | exact HB.out)) hb); have n1_ := Aside0.mk (hbox); have n2_ := Aside0.mk ((by rw [hg]; exact (below_size (by repeat (first | (with_reducible first | exact HB.out | apply below_alloc | apply pw_below_drewN | apply below_drew1) | exact HB.out))) : w.heap.size ≤ gb121)); have n3_ := Aside0.mk ((by rw [hg]; exact (below_size (by repeat (first | (with_reducible first | exact HB.out | apply below_alloc | apply pw_below_drewN | apply below_drew1) | exact HB.out))) : w.heap.size ≤ gb121)); clear HB; have HB := n0_; have BK121 := n1_; have GW121 := n2_; have GE121 := n3_; clear n0_ n1_ n2_ n3_; clear hb hbox hg) | ((with_reducible refine gate_dst (N := 8) rfl ?_); refine box_event ?hg (N := 8) ?hd (cs := #[.string (⟨#[]⟩ : ByteArray), .string (⟨#[]⟩ : ByteArray), .slice none 0 0]) (t := 130) ?hr ?_; (case hd => rfl); (case hg => rfl); (case hr => first | (go_simp; done) | (go_simp; rfl)); intro gb122 hg w50 hbox hb; have n0_ := Aside0.mk (blk_below (g := gb121) (o := .cells #[.int .i64 a3_0, .int .i64 a3_1, .int .i64 a3_2] 138 (0, 0)) (by (with_reducible repeat (first | refine blk_drewN ?_ _ | refine blk_drew ?_ | refine blk_alloc ?_ _)); exact BK121.out) hb); have n1_ := Aside0.mk (below_step (by repeat (first | (with_reducible first | exact HB.out | apply below_alloc | apply pw_below_drewN | apply below_drew1 | refine below_set ?_ GE121.out) | exact HB.out)) hb); have n2_ := Aside0.mk (hbox); have n3_ := Aside0.mk ((by rw [hg]; exact (below_size (by repeat (first | (with_reducible first | exact HB.out | apply below_alloc | apply pw_below_drewN | apply below_drew1 | refine below_set ?_ GE121.out) | exact HB.out))) : w.heap.size ≤ gb122)); have n4_ := Aside0.mk ((by rw [hg]; exact (below_size (by repeat (first | (with_reducible first | exact HB.out | apply below_alloc | apply pw_below_drewN | apply below_drew1 | refine below_set ?_ GE121.out) | exact HB.out))) : w.heap.size ≤ gb122)); have n5_ := Aside0.mk ((by rw [hg]; exact Nat.ne_of_lt (blk_lt (g := gb121) (o := .cells #[.int .i64 a3_0, .int .i64 a3_1, .int .i64 a3_2] 138 (0, 0)) (by (with_reducible repeat (first | refine blk_drewN ?_ _ | refine blk_drew ?_ | refine blk_alloc ?_ _)); exact BK121.out)) : gb121 ≠ gb122)); have n6_ := Aside0.mk ((by rw [hg]; exact Nat.ne_of_gt (blk_lt (g := gb121) (o := .cells #[.int .i64 a3_0, .int .i64 a3_1, .int .i64 a3_2] 138 (0, 0)) (by (with_reducible repeat (first | refine blk_drewN ?_ _ | refine blk_drew ?_ | refine blk_alloc ?_ _)); exact BK121.out)) : gb122 ≠ gb121)); clear BK121; clear HB; have BK121 := n0_; have HB := n1_; have BK122 := n2_; have GW122 := n3_; have GE122 := n4_; have NB121_122 := n5_; have NB122_121 := n6_; clear n0_ n1_ n2_ n3_ n4_ n5_ n6_; clear hb hbox hg) | ((with_reducible refine gate_dst (N := 10) rfl ?_); refine box_event ?hg (N := 10) ?hd (cs := #[.string (⟨#[]⟩ : ByteArray), .string (⟨#[]⟩ : ByteArray), .slice none 0 0]) (t := 130) ?hr ?_; (case hd => rfl); (case hg => rfl); (case hr => first | (go_simp; done) | (go_simp; rfl)); intro gb123 hg w51 hbox hb; have n0_ := Aside0.mk (blk_below (g := gb121) (o := .cells #[.int .i64 a3_0, .int .i64 a3_1, .int .i64 a3_2] 138 (0, 0)) (by (with_reducible repeat (first | refine blk_drewN ?_ _ | refine blk_drew ?_ | refine blk_alloc ?_ _)); exact BK121.out) hb); have n1_ := Aside0.mk (blk_below (g := gb122) (o := .cells #[.string (⟨#[]⟩ : ByteArray), .string (⟨#[]⟩ : ByteArray), .slice none 0 0] 130 (0, 0)) (by (with_reducible repeat (first | refine blk_drewN ?_ _ | refine blk_drew ?_ | refine blk_alloc ?_ _)); exact BK122.out) hb); have n2_ := Aside0.mk (below_step (by repeat (first | (with_reducible first | exact HB.out | apply below_alloc | apply pw_below_drewN | apply below_drew1 | refine below_set ?_ GE121.out | refine below_set ?_ GE122.out) | exact HB.out)) hb); have n3_ := Aside0.mk (hbox); have n4_ := Aside0.mk ((by rw [hg]; exact (below_size (by repeat (first | (with_reducible first | exact HB.out | apply below_alloc | apply pw_below_drewN | apply below_drew1 | refine below_set ?_ GE121.out | refine below_set ?_ GE122.out) | exact HB.out))) : w.heap.size ≤ gb123)); have n5_ := Aside0.mk ((by rw [hg]; exact (below_size (by repeat (first | (with_reducible first | exact HB.out | apply below_alloc | apply pw_below_drewN | apply below_drew1 | refine below_set ?_ GE121.out | refine below_set ?_ GE122.out) | exact HB.out))) : w.heap.size ≤ gb123)); have n6_ := Aside0.mk ((by rw [hg]; exact Nat.ne_of_lt (blk_lt (g := gb121) (o := .cells #[.int .i64 a3_0, .int .i64 a3_1, .int .i64 a3_2] 138 (0, 0)) (by (with_reducible repeat (first | refine blk_drewN ?_ _ | refine blk_drew ?_ | refine blk_alloc ?_ _)); exact BK121.out)) : gb121 ≠ gb123)); have n7_ := Aside0.mk ((by rw [hg]; exact Nat.ne_of_gt (blk_lt (g := gb121) (o := .cells #[.int .i64 a3_0, .int .i64 a3_1, .int .i64 a3_2] 138 (0, 0)) (by (with_reducible repeat (first | refine blk_drewN ?_ _ | refine blk_drew ?_ | refine blk_alloc ?_ _)); exact BK121.out)) : gb123 ≠ gb121)); have n8_ := Aside0.mk ((by rw [hg]; exact Nat.ne_of_lt (blk_lt (g := gb122) (o := .cells #[.string (⟨#[]⟩ : ByteArray), .string (⟨#[]⟩ : ByteArray), .slice none 0 0] 130 (0, 0)) (by (with_reducible repeat (first | refine blk_drewN ?_ _ | refine blk_drew ?_ | refine blk_alloc ?_ _)); exact BK122.out)) : gb122 ≠ gb123)); have n9_ := Aside0.mk ((by rw [hg]; exact Nat.ne_of_gt (blk_lt (g := gb122) (o := .cells #[.string (⟨#[]⟩ : ByteArray), .string (⟨#[]⟩ : ByteArray), .slice none 0 0] 130 (0, 0)) (by (with_reducible repeat (first | refine blk_drewN ?_ _ | refine blk_drew ?_ | refine blk_alloc ?_ _)); exact BK122.out)) : gb123 ≠ gb122)); clear BK121; clear BK122; clear HB; have BK121 := n0_; have BK122 := n1_; have HB := n2_; have BK123 := n3_; have GW123 := n4_; have GE123 := n5_; have NB121_123 := n6_; have NB123_121 := n7_; have NB122_123 := n8_; have NB123_122 := n9_; clear n0_ n1_ n2_ n3_ n4_ n5_ n6_ n7_ n8_ n9_; clear hb hbox hg; have hnb52 := NB121_122.out; have hnc52 := NB122_121.out; have hnb53 := NB121_123.out; have hnc53 := NB123_121.out; have hcz54_0 : w51.cell? ⟨gb121, 0, none⟩ = some (.int .i64 a3_0) := (blk_cell BK121.out 0).trans rfl; have hcz54_1 : w51.cell? ⟨gb121, 1, none⟩ = some (.int .i64 a3_1) := (blk_cell BK121.out 1).trans rfl; have hcz54_2 : w51.cell? ⟨gb121, 2, none⟩ = some (.int .i64 a3_2) := (blk_cell BK121.out 2).trans rfl; have hfz54_0 := blk_frozen BK121.out 0; have hfz54_1 := blk_frozen BK121.out 1; have hfz54_2 := blk_frozen BK121.out 2; have hnb55 := NB122_123.out; have hnc55 := NB123_122.out; have hcz56_0 : w51.cell? ⟨gb122, 0, none⟩ = some (.string (⟨#[]⟩ : ByteArray)) := (blk_cell BK122.out 0).trans rfl; have hcz56_1 : w51.cell? ⟨gb122, 1, none⟩ = some (.string (⟨#[]⟩ : ByteArray)) := (blk_cell BK122.out 1).trans rfl; have hcz56_2 : w51.cell? ⟨gb122, 2, none⟩ = some (.slice none 0 0) := (blk_cell BK122.out 2).trans rfl; have hfz56_0 := blk_frozen BK122.out 0; have hfz56_1 := blk_frozen BK122.out 1; have hfz56_2 := blk_frozen BK122.out 2))
  refine bodyPost_ret (results_ct rfl _ _ gb122 130 #[.string (⟨#[]⟩ : ByteArray), .string (⟨#[]⟩ : ByteArray), .slice none 0 0] (0, 0) _ rfl (by (with_reducible repeat (first | refine blk_drewN ?_ _ | refine blk_drew ?_ | refine blk_alloc ?_ _)); refine blk_put (cs := #[.string (⟨#[]⟩ : ByteArray), .string (⟨#[]⟩ : ByteArray), .slice none 0 0]) ?_ 2 _ rfl; (with_reducible repeat (first | refine blk_drewN ?_ _ | refine blk_drew ?_ | refine blk_alloc ?_ _)); refine blk_put (cs := #[.string (⟨#[]⟩ : ByteArray), .string (⟨#[]⟩ : ByteArray), .slice none 0 0]) ?_ 1 _ rfl; (with_reducible repeat (first | refine blk_drewN ?_ _ | refine blk_drew ?_ | refine blk_alloc ?_ _)); refine blk_put (cs := #[.string (⟨#[]⟩ : ByteArray), .string (⟨#[]⟩ : ByteArray), .slice none 0 0]) ?_ 0 _ rfl; (with_reducible repeat (first | refine blk_drewN ?_ _ | refine blk_drew ?_ | refine blk_alloc ?_ _)); exact BK122.out) Try.underlying130 rfl (by kernel_rfl)) rfl ?_
  exact ⟨_, by first | rfl | (simp [errW_none, errW_some] <;> rfl) | (simp [*, errW_none, errW_some] <;> rfl), by first | exact Kd.R_nil _ _ _ _ _ | exact Kd.N_nil _ _ _ _ _ | exact Kd.V_nil _ _ _ _ _ | exact Kd.Q_nil _ _ _ _ _ | exact Kd.S_nil _ _ _ _ _, by repeat (first | (with_reducible first | exact HB.out | apply below_alloc | apply pw_below_drewN | apply below_drew1 | refine below_set ?_ GE121.out | refine below_set ?_ GE122.out | refine below_set ?_ GE123.out) | exact HB.out)⟩
theorem run_ins (w : World) (es : Array MapEntry) (n : Nat) (key : Int) (v : Value) (hf : Instr.findNow (.int .i64) (.int .i64 key) es.toList 0 = some none) :
  (Instr.mapUpdate 140 (.map (some w.heap.size)) (.int .i64 key) v).run Try.prog (w.alloc (.map es n)) = .ok () (w.alloc (.map (es.push ⟨.int .i64 key, v, n⟩) (n + 1))) := by
 have hu := Try.underlying140
 have hi := Try.underlying3
 have hb : (w.alloc (.map es n)).heap[w.heap.size]? = some (.map es n) := heap_alloc_new w _
 have hc : (Instr.checkKey false 10000 3 (.int .i64 key)).run Try.prog (w.alloc (.map es n)) = .ok () (w.alloc (.map es n)) := MapKept.run_checkKey (k := .int .i64 key) hi (by simp [MapKept.IsKey]) false 9999
 simp [-World.alloc_eq, Instr.mapUpdate, run_underlying hu, MapKept.run_getObj_map hb, hc, MapKept.run_findKey hi hf, MapKept.run_setObj_map _ hb, Result.andThen]
 have e : (w.heap.push (Obj.map es n)).setIfInBounds w.heap.size (Obj.map (es.push ⟨.int .i64 key, v, n⟩) (n + 1)) = w.heap.push (Obj.map (es.push ⟨.int .i64 key, v, n⟩) (n + 1)) := by
  apply Array.ext'
  simp [List.set_append]
 simp [World.alloc, -World.alloc_eq, e]
def shEnt : List MapEntry := [⟨.int .i64 1, .agg #[.int .i64 4, .int .i64 0, .int .i64 0], 0⟩, ⟨.int .i64 28, .agg #[.int .i64 16, .int .i64 0, .int .i64 0], 1⟩, ⟨.int .i64 2, .agg #[.int .i64 0, .int .i64 1, .int .i64 0], 2⟩, ⟨.int .i64 5, .agg #[.int .i64 0, .int .i64 1, .int .i64 0], 3⟩,
 ⟨.int .i64 12, .agg #[.int .i64 0, .int .i64 1, .int .i64 0], 4⟩, ⟨.int .i64 6, .agg #[.int .i64 0, .int .i64 2, .int .i64 20], 5⟩, ⟨.int .i64 15, .agg #[.int .i64 2, .int .i64 1, .int .i64 0], 6⟩, ⟨.int .i64 33, .agg #[.int .i64 6, .int .i64 1, .int .i64 0], 7⟩]
def shW (w : World) (i : Nat) : World := w.alloc (.map (shEnt.take i).toArray i)
theorem run_ins_sh (w : World) (i : Nat) (key : Int) (v : Value) (hf : Instr.findNow (.int .i64) (.int .i64 key) (shEnt.take i) 0 = some none) (he : shEnt.take (i + 1) = shEnt.take i ++ [⟨.int .i64 key, v, i⟩]) :
  (Instr.mapUpdate 140 (.map (some w.heap.size)) (.int .i64 key) v).run Try.prog (shW w i) = .ok () (shW w (i + 1)) := by
 unfold shW
 rw [run_ins w _ i key v (by simpa using hf), he]
 simp
set_option maxHeartbeats 4000000 in
set_option maxRecDepth 100000 in
theorem shapes_calls (w : World) :
  Calls Try.prog 99 #[] w fun e w' => e = .returned (.map (some w.heap.size)) ∧ w' = shW w 8 := by
 have hu := Try.underlying138
 have hmm : (Instr.makeMap 140 none).run Try.prog w = .ok (.map (some w.heap.size)) (shW w 0) := run_makeMap _ w
 have h1 := run_ins_sh w 0 1 (.agg #[.int .i64 4, .int .i64 0, .int .i64 0]) rfl rfl
 have h2 := run_ins_sh w 1 28 (.agg #[.int .i64 16, .int .i64 0, .int .i64 0]) rfl rfl
 have h3 := run_ins_sh w 2 2 (.agg #[.int .i64 0, .int .i64 1, .int .i64 0]) rfl rfl
 have h4 := run_ins_sh w 3 5 (.agg #[.int .i64 0, .int .i64 1, .int .i64 0]) rfl rfl
 have h5 := run_ins_sh w 4 12 (.agg #[.int .i64 0, .int .i64 1, .int .i64 0]) rfl rfl
 have h6 := run_ins_sh w 5 6 (.agg #[.int .i64 0, .int .i64 2, .int .i64 20]) rfl rfl
 have h7 := run_ins_sh w 6 15 (.agg #[.int .i64 2, .int .i64 1, .int .i64 0]) rfl rfl
 have h8 := run_ins_sh w 7 33 (.agg #[.int .i64 6, .int .i64 1, .int .i64 0]) rfl rfl
 simp only [Nat.reduceAdd] at h1 h2 h3 h4 h5 h6 h7 h8
 go_enter Try.func99, Try.ntmps99
 go_wp2
 go_ret
 exact ⟨rfl, rfl⟩
def shapeOf (kind : Int) : Option (Int × Int × Int) :=
 if kind = 1 then some (4, 0, 0) else if kind = 28 then some (16, 0, 0) else if kind = 2 then some (0, 1, 0) else if kind = 5 then some (0, 1, 0) else if kind = 12 then some (0, 1, 0)
 else if kind = 6 then some (0, 2, 20) else if kind = 15 then some (2, 1, 0) else if kind = 33 then some (6, 1, 0) else none
def shapeV (kind : Int) : Int × Int × Int := (shapeOf kind).getD (0, 0, 0)
theorem shape_find (kind : Int) : ∃ r, Instr.findNow (.int .i64) (.int .i64 kind) shEnt 0 = some r ∧ ((∃ i s, r = some (i, .agg #[.int .i64 s.1, .int .i64 s.2.1, .int .i64 s.2.2]) ∧ shapeOf kind = some s) ∨ (r = none ∧ shapeOf kind = none)) := by
 unfold shapeOf
 simp only [shEnt, Instr.findNow, Instr.sameNow, if_true]
 by_cases h1 : kind = 1
 ·subst h1; exact ⟨_, rfl, .inl ⟨_, (4, 0, 0), rfl, rfl⟩⟩
 rw [beq_eq_false_iff_ne.2 h1, if_neg h1]
 by_cases h2 : kind = 28
 ·subst h2; exact ⟨_, rfl, .inl ⟨_, (16, 0, 0), rfl, rfl⟩⟩
 simp only [beq_eq_false_iff_ne.2 h2, if_neg h2]
 by_cases h3 : kind = 2
 ·subst h3; exact ⟨_, rfl, .inl ⟨_, (0, 1, 0), rfl, rfl⟩⟩
 simp only [beq_eq_false_iff_ne.2 h3, if_neg h3]
 by_cases h4 : kind = 5
 ·subst h4; exact ⟨_, rfl, .inl ⟨_, (0, 1, 0), rfl, rfl⟩⟩
 simp only [beq_eq_false_iff_ne.2 h4, if_neg h4]
 by_cases h5 : kind = 12
 ·subst h5; exact ⟨_, rfl, .inl ⟨_, (0, 1, 0), rfl, rfl⟩⟩
 simp only [beq_eq_false_iff_ne.2 h5, if_neg h5]
 by_cases h6 : kind = 6
 ·subst h6; exact ⟨_, rfl, .inl ⟨_, (0, 2, 20), rfl, rfl⟩⟩
 simp only [beq_eq_false_iff_ne.2 h6, if_neg h6]
 by_cases h7 : kind = 15
 ·subst h7; exact ⟨_, rfl, .inl ⟨_, (2, 1, 0), rfl, rfl⟩⟩
 simp only [beq_eq_false_iff_ne.2 h7, if_neg h7]
 by_cases h8 : kind = 33
 ·subst h8; exact ⟨_, rfl, .inl ⟨_, (6, 1, 0), rfl, rfl⟩⟩
 simp only [beq_eq_false_iff_ne.2 h8, if_neg h8]
 exact ⟨_, rfl, by simp⟩
theorem run_shape (W : World) (r : Nat) (kind : Int) (hb : W.heap[r]? = some (.map shEnt.toArray 8)) :
  (Instr.lookup 140 (.map (some r)) (.int .i64 kind) true).run Try.prog W = .ok (.tuple #[.agg #[.int .i64 (shapeV kind).1, .int .i64 (shapeV kind).2.1, .int .i64 (shapeV kind).2.2], .bool (shapeOf kind).isSome]) W := by
 have hu := Try.underlying140
 have hi := Try.underlying3
 have hz := Try.zeroValue138
 have hc : (Instr.checkKey false 10000 3 (.int .i64 kind)).run Try.prog W = .ok () W := MapKept.run_checkKey (k := .int .i64 kind) hi (by simp [MapKept.IsKey]) false 9999
 obtain ⟨q, hf, h⟩ := shape_find kind
 have hf2 : (Instr.findKey 3 (.int .i64 kind) shEnt).run Try.prog W = .ok q W := MapKept.run_findKey hi hf
 have he : shEnt.toArray.isEmpty = false := rfl
 rcases h with ⟨i, s, rfl, hs⟩ | ⟨rfl, hs⟩
 ·simp [Instr.lookup, run_underlying hu, MapKept.run_getObj_map hb, hc, he, hf2, Result.andThen, shapeV, hs]
 ·simp [Instr.lookup, run_underlying hu, MapKept.run_getObj_map hb, hc, he, hf2, Result.andThen, shapeV, hs, hz]
def data_texts.l0 : Nat → ByteArray → Option (Bool)
 | 0, _ => none
 | k + 1, x0 => if x0.toList = ([] : List UInt8) then (some true) else (if 0 < (x0.size : Int) then (if (wrap64 (1 + (wrap64 (bt x0 0)))) > (x0.size : Int) then (some false) else (if 0 ≤ (wrap64 (1 + (wrap64 (bt x0 0)))) then (if (wrap64 (1 + (wrap64 (bt x0 0)))) ≤ (x0.size : Int) then (data_texts.l0 k (x0.extract ((wrap64 (1 + (wrap64 (bt x0 0)))) : Int).toNat x0.size)) else (none)) else (none))) else (none))
def data_texts.f (k : Nat) (a0 : ByteArray) : Option (Bool) := if a0.toList = ([] : List UInt8) then (some false) else (data_texts.l0 k a0)
theorem data_texts.mono_l : ∀ k, (∀ y0, LeO (data_texts.l0 k y0) (data_texts.l0 (k + 1) y0))
 | 0 => fun _ r h => by simp [data_texts.l0] at h
 | k + 1 => by
  have ih0 := data_texts.mono_l k
  ·intro y0
   unfold data_texts.l0
   repeat' first
   | (with_reducible exact ih0 _)
   | (with_reducible exact LeO.refl _)
   | (with_reducible exact LeO.none _)
   | (with_reducible refine LeO.ite ?_ ?_)
   | (with_reducible refine LeO.bind ?_ (fun _ => ?_))
theorem data_texts.mono : ∀ a0 k, LeO (data_texts.f k a0) (data_texts.f (k + 1) a0) := by
 intro a0 k
 have ih0 := data_texts.mono_l k
 unfold data_texts.f
 repeat' first
   | (with_reducible exact ih0 _)
   | (with_reducible exact LeO.refl _)
   | (with_reducible exact LeO.none _)
   | (with_reducible refine LeO.ite ?_ ?_)
   | (with_reducible refine LeO.bind ?_ (fun _ => ?_))
set_option maxHeartbeats 8000000 in
set_option maxRecDepth 100000 in
theorem data_texts.calls (k : Nat) (a0 : ByteArray) (r : Bool) (w : World) (h : data_texts.f k a0 = some r) :
  Calls Try.prog 101 #[.string a0] w fun e w' => e = .returned (.bool r) ∧ Drawn0 w w' := by
 have H : (if a0.toList = ([] : List UInt8) then (some false) else (data_texts.l0 k a0)) = some r := h
 clear h
 by_cases c2 : a0.toList = ([] : List UInt8)
 ·rw [if_pos c2] at H
  have c2b0 : (a0.toList == ([] : List UInt8)) = true := beq_iff_eq.mpr c2
  have c2b1 : (a0.toList != ([] : List UInt8)) = false := bne_eq_false_iff_eq.mpr c2
  clear c2
  obtain rfl := Option.some.inj H
  go_enter Try.func101, Try.ntmps101
  go_wp2
  go_ret
  exact ⟨by first | rfl | (simp; done) | (simp [*]; done), by repeat (first | exact Drawn0.refl _ | apply Drawn0.step)⟩
 ·rw [if_neg c2] at H
  have c2b0 : (a0.toList == ([] : List UInt8)) = false := beq_eq_false_iff_ne.mpr c2
  have c2b1 : (a0.toList != ([] : List UInt8)) = true := bne_iff_ne.mpr c2
  have H' := Aside0.mk H
  clear H
  go_enter Try.func101, Try.ntmps101
  go_wp2
  go_loopg [0] k (fun kq v0 w' => ∃ (x0_1 : ByteArray), v0 = .string x0_1 ∧ Aside0 (data_texts.l0 kq x0_1 = some r) ∧ Aside0 (kq ≤ k) ∧ Drawn0 w w')
  case atStart => exact ⟨(a0), (by first | rfl | (simp; done) | (simp [*]; done)), H', ⟨Nat.le_refl _⟩, by repeat (first | exact Drawn0.refl _ | apply Drawn0.step)⟩
  case round =>
   clear H'
   try clear c1
   try clear c2
   try clear c2b0
   try clear c2b1
   try clear p2
   obtain ⟨x0_1, rfl, HA, HK1, ⟨m1, rfl⟩⟩ := hrel
   cases gk with
   | zero => exact absurd HA.out (by simp [data_texts.l0])
   | succ k1 =>
    have H := HA.out
    clear HA
    simp only [data_texts.l0] at H
    by_cases c3 : x0_1.toList = ([] : List UInt8)
    ·rw [if_pos c3] at H
     have c3b0 : (x0_1.toList == ([] : List UInt8)) = true := beq_iff_eq.mpr c3
     have c3b1 : (x0_1.toList != ([] : List UInt8)) = false := bne_eq_false_iff_eq.mpr c3
     clear c3
     obtain rfl := Option.some.inj H
     go_wp2
     go_ret
     exact ⟨by first | rfl | (simp; done) | (simp [*]; done), by repeat (first | exact Drawn0.refl _ | apply Drawn0.step)⟩
    ·rw [if_neg c3] at H
     have c3b0 : (x0_1.toList == ([] : List UInt8)) = false := beq_eq_false_iff_ne.mpr c3
     have c3b1 : (x0_1.toList != ([] : List UInt8)) = true := bne_iff_ne.mpr c3
     by_cases c4 : 0 < (x0_1.size : Int)
     ·rw [if_pos c4] at H
      have c4b0 : decide (0 < (x0_1.size : Int)) = true := decide_eq_true c4
      have c4b1 : decide (0 < x0_1.size) = true := decide_eq_true (by omega)
      clear c4
      by_cases c6 : (wrap64 (1 + (wrap64 (bt x0_1 0)))) > (x0_1.size : Int)
      ·rw [if_pos c6] at H
       have c6b0 : decide ((x0_1.size : Int) < (wrap64 (1 + (wrap64 (bt x0_1 0))))) = true := decide_eq_true c6
       clear c6
       obtain rfl := Option.some.inj H
       have p5 : 0 ≤ (0 : Int) := (by omega)
       have q5 : 0 < x0_1.size := (by have : (0 : Int) < (x0_1.size : Int) := of_decide_eq_true (by first | (with_reducible assumption) | assumption); omega)
       have hx5 : ∀ h : 0 < x0_1.size, ((x0_1[0]'h).toNat : Int) = bt x0_1 0 := bt_at x0_1 0
       clear p5
       have qi5 : (0 < (x0_1.size : Int)) = True := eq_true (of_decide_eq_true (by first | (with_reducible assumption) | assumption))
       replace q5 := eq_true q5
       go_wp2
       go_ret
       exact ⟨by first | rfl | (simp; done) | (simp [*]; done), by repeat (first | exact Drawn0.refl _ | apply Drawn0.step)⟩
      ·rw [if_neg c6] at H
       have c6b0 : decide ((x0_1.size : Int) < (wrap64 (1 + (wrap64 (bt x0_1 0))))) = false := decide_eq_false c6
       clear c6
       obtain ⟨ji7, hji7⟩ : ∃ j_ : Int, (wrap64 (1 + (wrap64 (bt x0_1 0)))) = j_ := ⟨_, rfl⟩
       replace H : (if 0 ≤ (ji7) then (if (ji7) ≤ (x0_1.size : Int) then (data_texts.l0 k1 (x0_1.extract ((ji7) : Int).toNat x0_1.size)) else (none)) else (none)) = some r := by first | (rw [hji7] at H; exact H) | (simp only [hji7] at H ⊢; exact H)
       (try rw [hji7] at c6b0)
       have hji7w : (IntKind.i64.wrap (1 + (wrap64 (bt x0_1 0)))) = ji7 := (i64_w _).trans hji7
       by_cases c8 : 0 ≤ (ji7)
       ·rw [if_pos c8] at H
        have c8b0 := eq_true c8
        have c8b1 : decide (0 ≤ (ji7)) = true := decide_eq_true c8
        clear c8
        by_cases c9 : (ji7) ≤ (x0_1.size : Int)
        ·rw [if_pos c9] at H
         have c9b0 := eq_true c9
         have c9b1 : decide ((ji7) ≤ (x0_1.size : Int)) = true := decide_eq_true c9
         clear c9
         have H' := Aside0.mk H
         clear H
         have p5 : 0 ≤ (0 : Int) := (by omega)
         have q5 : 0 < x0_1.size := (by have : (0 : Int) < (x0_1.size : Int) := of_decide_eq_true (by first | (with_reducible assumption) | assumption); omega)
         have hx5 : ∀ h : 0 < x0_1.size, ((x0_1[0]'h).toNat : Int) = bt x0_1 0 := bt_at x0_1 0
         clear p5
         have qi5 : (0 < (x0_1.size : Int)) = True := eq_true (of_decide_eq_true (by first | (with_reducible assumption) | assumption))
         replace q5 := eq_true q5
         go_wp2
         go_roundg k1
         case measure => have := HK1.out; omega
         case rel => exact ⟨(x0_1.extract ((ji7) : Int).toNat x0_1.size), (by first | rfl | (simp; done) | (simp only [← hji7] <;> (first | rfl | simp)) | (simp [*]; done)), H', ⟨by have := HK1.out; omega⟩, by repeat (first | exact Drawn0.refl _ | apply Drawn0.step)⟩
        ·rw [if_neg c9] at H
         exact absurd H (by simp)
       ·rw [if_neg c8] at H
        exact absurd H (by simp)
     ·rw [if_neg c4] at H
      exact absurd H (by simp)
def data_Expand.j0 (k : Nat) (kind : Int) (d : ByteArray) (is : Bool) : Option (ByteArray × Int) :=
  if is = true then (if kind = 16 then (data_texts.f k d).bind fun t => (if t = true then (if (d.size : Int) > 65535 then some (⟨#[]⟩, 4) else some (d, 0)) else some (⟨#[]⟩, 4)) else (if (d.size : Int) > 65535 then some (⟨#[]⟩, 4) else some (d, 0))) else some (⟨#[]⟩, 4)
def data_Expand.f (k : Nat) (a0 : ByteArray) (a1 : Int) (a2 : Int) (a3 : Int) : Option (ByteArray × Int) :=
  (octet_Take.f a0 a1 a2).bind fun t => if t.2 = true then
    (match shapeOf a3 with
     | none => data_Expand.j0 k a3 t.1 true
     | some s => (data_read.f k a0 a1 (wrap64 (a1 + a2)) s.1 s.2.1 s.2.2).bind fun p => (data_parts_whole.f p.1 p.2.1 p.2.2.1).bind fun d => data_Expand.j0 k a3 d p.2.2.2)
  else some (⟨#[]⟩, 2)
theorem data_Expand.mono : ∀ a0 a1 a2 a3 k, LeO (data_Expand.f k a0 a1 a2 a3) (data_Expand.f (k + 1) a0 a1 a2 a3) := by
  intro a0 a1 a2 a3 k
  have h0 : ∀ kind d is, LeO (data_Expand.j0 k kind d is) (data_Expand.j0 (k + 1) kind d is) := by
    intro kind d is
    unfold data_Expand.j0
    repeat' first
      | exact data_texts.mono _ _
      | (with_reducible exact LeO.refl _)
      | refine LeO.ite ?_ ?_
      | refine LeO.bind ?_ (fun _ => ?_)
  unfold data_Expand.f
  refine LeO.bind (LeO.refl _) (fun _ => LeO.ite ?_ (LeO.refl _))
  cases shapeOf a3 with
  | none => exact h0 _ _ _
  | some s => exact LeO.bind (data_read.mono _ _ _ _ _ _ _) (fun _ => LeO.bind (LeO.refl _) (fun _ => h0 _ _ _))
theorem data_Expand.j0_cases {k : Nat} {kind : Int} {d : ByteArray} {is : Bool} {r1 : ByteArray} {r2 : Int} (h : data_Expand.j0 k kind d is = some (r1, r2)) :
    (is = false ∧ r1 = ⟨#[]⟩ ∧ r2 = 4) ∨ (is = true ∧ (kind == 16) = true ∧ data_texts.f k d = some false ∧ r1 = ⟨#[]⟩ ∧ r2 = 4) ∨
    (is = true ∧ (kind == 16) = true ∧ data_texts.f k d = some true ∧ decide (65535 < (d.size : Int)) = true ∧ decide (65535 < d.size) = true ∧ r1 = ⟨#[]⟩ ∧ r2 = 4) ∨ (is = true ∧ (kind == 16) = true ∧ data_texts.f k d = some true ∧ decide (65535 < (d.size : Int)) = false ∧ decide (65535 < d.size) = false ∧ r1 = d ∧ r2 = 0) ∨
    (is = true ∧ (kind == 16) = false ∧ decide (65535 < (d.size : Int)) = true ∧ decide (65535 < d.size) = true ∧ r1 = ⟨#[]⟩ ∧ r2 = 4) ∨ (is = true ∧ (kind == 16) = false ∧ decide (65535 < (d.size : Int)) = false ∧ decide (65535 < d.size) = false ∧ r1 = d ∧ r2 = 0) := by
  unfold data_Expand.j0 at h
  cases is with
  | false => simp only [Bool.false_eq_true, if_false, Option.some.injEq, Prod.mk.injEq] at h; exact .inl ⟨rfl, h.1.symm, h.2.symm⟩
  | true =>
    simp only [if_true] at h
    have hz : ∀ {q1 : ByteArray} {q2 : Int}, (if (d.size : Int) > 65535 then some ((⟨#[]⟩ : ByteArray), (4 : Int)) else some (d, 0)) = some (q1, q2) → (decide (65535 < (d.size : Int)) = true ∧ decide (65535 < d.size) = true ∧ q1 = ⟨#[]⟩ ∧ q2 = 4) ∨ (decide (65535 < (d.size : Int)) = false ∧ decide (65535 < d.size) = false ∧ q1 = d ∧ q2 = 0) := by
      intro q1 q2 hq
      by_cases c : (d.size : Int) > 65535
      · rw [if_pos c] at hq
        simp only [Option.some.injEq, Prod.mk.injEq] at hq
        exact .inl ⟨decide_eq_true c, decide_eq_true (by omega), hq.1.symm, hq.2.symm⟩
      · rw [if_neg c] at hq
        simp only [Option.some.injEq, Prod.mk.injEq] at hq
        exact .inr ⟨decide_eq_false c, decide_eq_false (by omega), hq.1.symm, hq.2.symm⟩
    by_cases hk : kind = 16
    · rw [if_pos hk] at h
      obtain ⟨t, ht, h⟩ := Option.bind_eq_some_iff.mp h
      cases t with
      | false =>
        simp only [Bool.false_eq_true, if_false, Option.some.injEq, Prod.mk.injEq] at h
        exact .inr (.inl ⟨rfl, beq_iff_eq.2 hk, ht, h.1.symm, h.2.symm⟩)
      | true =>
        simp only [if_true] at h
        rcases hz h with q | q
        · exact .inr (.inr (.inl ⟨rfl, beq_iff_eq.2 hk, ht, q⟩))
        · exact .inr (.inr (.inr (.inl ⟨rfl, beq_iff_eq.2 hk, ht, q⟩)))
    · rw [if_neg hk] at h
      rcases hz h with q | q
      · exact .inr (.inr (.inr (.inr (.inl ⟨rfl, beq_eq_false_iff_ne.2 hk, q⟩))))
      · exact .inr (.inr (.inr (.inr (.inr ⟨rfl, beq_eq_false_iff_ne.2 hk, q⟩))))
set_option maxHeartbeats 4000000 in
set_option maxRecDepth 100000 in
theorem data_Expand.calls (k : Nat) (a0 : ByteArray) (a1 : Int) (a2 : Int) (a3 : Int) (r1 : ByteArray) (r2 : Int) (w : World) (h : data_Expand.f k a0 a1 a2 a3 = some (r1, r2)) :
    Calls Try.prog 90 #[.string a0, .int .i64 a1, .int .i64 a2, .int .i64 a3] w fun e w' => e = .returned (.tuple #[.string r1, .int .i64 r2]) ∧ Below w.heap.size w w' := by
  have hu := Try.underlying138
  have hu2 := Try.underlying130
  unfold data_Expand.f at h
  obtain ⟨⟨d, is⟩, hT, h⟩ := Option.bind_eq_some_iff.mp h
  have HT := Aside0.mk hT
  clear hT
  cases is with
  | false =>
    simp only [Bool.false_eq_true, if_false, Option.some.injEq, Prod.mk.injEq] at h
    obtain ⟨rfl, rfl⟩ := h
    go_enter Try.func90, Try.ntmps90
    go_wp2_with fail
    refine (octet_Take.calls _ _ _ _ _ _ HT.out).mono ?_
    rintro e w1 ⟨rfl, ⟨nd, rfl⟩⟩
    go_wp2
    go_ret2
    exact ⟨rfl, pw_below_drewN (Below.refl _ _) _⟩
  | true =>
    simp only [if_true] at h
    have hl := fun nd => run_shape (shW (w.drewN nd) 8) w.heap.size a3 (by exact heap_alloc_new (w.drewN nd) _)
    have hB : ∀ nd, Below w.heap.size w (shW (w.drewN nd) 8) := fun nd => (pw_below_drewN (Below.refl _ _) nd).alloc (Nat.le_refl _) _
    have HB := Aside0.mk hB
    have hsz : ∀ nd, (shW (w.drewN nd) 8).heap.size = w.heap.size + 1 := fun nd => by simp [shW]
    have HZ := Aside0.mk hsz
    clear hB hsz
    cases hs : shapeOf a3 with
    | none =>
      simp only [hs, Option.isSome_none] at h hl
      have hv : shapeV a3 = (0, 0, 0) := by unfold shapeV; rw [hs]; rfl
      simp only [hv] at hl
      have h2 := data_Expand.j0_cases h
      clear h hs hv
      rcases h2 with ⟨hi, rfl, rfl⟩ | ⟨hi, h16, ht, rfl, rfl⟩ | ⟨hi, h16, ht, hz1, hz2, rfl, rfl⟩ | ⟨hi, h16, ht, hz1, hz2, rfl, rfl⟩ | ⟨hi, h16, hz1, hz2, rfl, rfl⟩ | ⟨hi, h16, hz1, hz2, rfl, rfl⟩
      · exact absurd hi (by decide)
      all_goals
        (try have HTX := Aside0.mk ht)
        clear hi
        (try clear ht)
        go_enter Try.func90, Try.ntmps90
        go_wp2_with fail
        refine (octet_Take.calls _ _ _ _ _ _ HT.out).mono ?_
        rintro e w1 ⟨rfl, ⟨nd, rfl⟩⟩
        go_wp2_with fail
        refine (shapes_calls _).mono ?_
        rintro e w1 ⟨rfl, rfl⟩
        have HL := hl nd
        clear hl
        go_wp2_with (first | (go_at_call 101; refine (data_texts.calls _ _ _ _ HTX.out).mono ?_; rintro e w1 ⟨rfl, ⟨nd2, rfl⟩⟩))
        go_ret2
        exact ⟨rfl, by repeat (first | exact HB.out _ | apply pw_below_drewN | apply below_alloc)⟩
    | some s =>
      have hv : shapeV a3 = s := by unfold shapeV; rw [hs]; rfl
      simp only [hs, Option.isSome_some, hv] at h hl
      clear hs hv
      obtain ⟨⟨p1, p2, p3, p4⟩, hR, h⟩ := Option.bind_eq_some_iff.mp h
      obtain ⟨d2, hW, h⟩ := Option.bind_eq_some_iff.mp h
      have HR := Aside0.mk hR
      have HW := Aside0.mk hW
      have h2 := data_Expand.j0_cases h
      clear h hR hW
      obtain ⟨s1, s2, s3⟩ := s
      rcases h2 with ⟨rfl, rfl, rfl⟩ | ⟨rfl, h16, ht, rfl, rfl⟩ | ⟨rfl, h16, ht, hz1, hz2, rfl, rfl⟩ | ⟨rfl, h16, ht, hz1, hz2, rfl, rfl⟩ | ⟨rfl, h16, hz1, hz2, rfl, rfl⟩ | ⟨rfl, h16, hz1, hz2, rfl, rfl⟩
      all_goals
        (try have HTX := Aside0.mk ht)
        (try clear ht)
        go_enter Try.func90, Try.ntmps90
        go_wp2_with fail
        refine (octet_Take.calls _ _ _ _ _ _ HT.out).mono ?_
        rintro e w1 ⟨rfl, ⟨nd, rfl⟩⟩
        go_wp2_with fail
        refine (shapes_calls _).mono ?_
        rintro e w1 ⟨rfl, rfl⟩
        have HL := hl nd
        clear hl
        go_wp2_with fail
        refine (data_read.calls _ _ _ _ _ _ _ _ _ _ _ _ HR.out).mono ?_
        rintro e w1 ⟨v2, rfl, hr, hb⟩
        obtain ⟨A, c, rfl, hlc, hC⟩ := Kd.R_reads hr
        have HC := Aside0.mk hC
        have HLC := Aside0.mk hlc
        have HB1 := Aside0.mk (((HB.out nd).alloc (HB.out nd).size (.cells #[.int .i64 s1, .int .i64 s2, .int .i64 s3] 138)).trans ⟨hb.os, hb.tape, hb.output, hb.size, fun i hi => hb.block i (by have := HZ.out nd; simp; omega)⟩)
        clear hr hC hlc hb
        go_wp2_with fail
        refine (data_parts_whole.calls _ _ _ _ _ _ _ (by (with_reducible repeat (first | refine Kd.C_alloc ?_ _ | refine Kd.C_drewN ?_ _)); exact HC.out) HLC.out HW.out).mono ?_
        rintro e w2 ⟨rfl, hb2⟩
        have HB2 := Aside0.mk (below_then (HB1.out.alloc HB1.out.size (.cells #[.string p1, .string p2, .slice A p3.length c] 130)) (by have := HB1.out.size; simp; omega) hb2)
        clear hb2
        go_wp2_with (first | (go_at_call 101; refine (data_texts.calls _ _ _ _ HTX.out).mono ?_; rintro e w1 ⟨rfl, ⟨nd2, rfl⟩⟩))
        go_ret2
        exact ⟨rfl, by repeat (first | exact HB2.out | apply pw_below_drewN | apply below_alloc)⟩
def data_Check.f (k : Nat) (a0 : Int) (a1 : ByteArray) : Option (Bool) := if (a1.size : Int) > 65535 then (some false) else ((data_Expand.f k a1 0 (a1.size : Int) a0).bind fun bt130 => (if bt130.2 = 0 then (some (bt130.1.toList == a1.toList)) else (some false)))
theorem data_Check.mono : ∀ a0 a1 k, LeO (data_Check.f k a0 a1) (data_Check.f (k + 1) a0 a1) := by
 intro a0 a1 k
 unfold data_Check.f
 repeat' first
   | (with_reducible exact data_Expand.mono _ _ _ _ _)
   | (with_reducible exact LeO.refl _)
   | (with_reducible exact LeO.none _)
   | (with_reducible refine LeO.ite ?_ ?_)
   | (with_reducible refine LeO.bind ?_ (fun _ => ?_))
set_option maxHeartbeats 8000000 in
set_option maxRecDepth 100000 in
theorem data_Check.calls (k : Nat) (a0 : Int) (a1 : ByteArray) (r : Bool) (w : World) (h : data_Check.f k a0 a1 = some r) :
  Calls Try.prog 80 #[.int .i64 a0, .string a1] w fun e w' => e = .returned (.bool r) ∧ Below w.heap.size w w' := by
 have HB := Aside0.mk (Below.refl w.heap.size w)
 have H : (if (a1.size : Int) > 65535 then (some false) else ((data_Expand.f k a1 0 (a1.size : Int) a0).bind fun bt130 => (if bt130.2 = 0 then (some (bt130.1.toList == a1.toList)) else (some false)))) = some r := h
 clear h
 by_cases c3 : (a1.size : Int) > 65535
 ·rw [if_pos c3] at H
  have c3b0 : decide (65535 < (a1.size : Int)) = true := decide_eq_true c3
  have c3b1 : decide (65535 < a1.size) = true := decide_eq_true (by omega)
  clear c3
  obtain rfl := Option.some.inj H
  go_enter Try.func80, Try.ntmps80
  go_wp2
  go_ret
  exact ⟨by first | rfl | (simp [errW_none, errW_some] <;> rfl) | (simp [*, errW_none, errW_some] <;> rfl), by repeat (first | (with_reducible first | exact HB.out | apply below_alloc | apply pw_below_drewN | apply below_drew1) | exact HB.out)⟩
 ·rw [if_neg c3] at H
  have c3b0 : decide (65535 < (a1.size : Int)) = false := decide_eq_false c3
  have c3b1 : decide (65535 < a1.size) = false := decide_eq_false (by omega)
  clear c3
  replace H := Option.bind_eq_some_iff.mp H
  obtain ⟨⟨t130, t131⟩, A40, H⟩ := H
  replace H : (if t131 = 0 then (some (t130.toList == a1.toList)) else (some false)) = some r := H
  have A4 := Aside0.mk A40
  clear A40
  by_cases c5 : t131 = 0
  ·rw [if_pos c5] at H
   have c5b0 : (t131 == 0) = true := beq_iff_eq.mpr c5
   have c5b1 : (t131 != 0) = false := bne_eq_false_iff_eq.mpr c5
   clear c5
   obtain rfl := Option.some.inj H
   go_enter Try.func80, Try.ntmps80
   go_wp2_with (first | ((with_reducible refine gate_callee (f := 90) rfl ?_); refine goesL_ (some 15) rfl rfl Try.func90 (by kernel_rfl) rfl #[.string a1, .int .i64 0, .int .i64 (a1.size : Int), .int .i64 a0] rfl (by (try simp only [List.map_toArray, List.map_cons, List.map_nil]); first | done | rfl | (simp only [List.length_drop, List.length_take]; rfl)) ?_; (with_reducible refine (data_Expand.calls k a1 0 (a1.size : Int) a0 t130 t131 _ A4.out).mono ?_); rintro e w6 ⟨rfl, hb⟩; refine ⟨_, rfl, ?_⟩; have n0_ := Aside0.mk (below_step (by repeat (first | (with_reducible first | exact HB.out | apply below_alloc | apply pw_below_drewN | apply below_drew1) | exact HB.out)) hb); clear HB; have HB := n0_; clear n0_; (try clear hb); (try clear hb2); (try clear hk); (try clear hi)))
   go_ret
   exact ⟨by first | rfl | (simp [errW_none, errW_some] <;> rfl) | (simp [*, errW_none, errW_some] <;> rfl), by repeat (first | (with_reducible first | exact HB.out | apply below_alloc | apply pw_below_drewN | apply below_drew1) | exact HB.out)⟩
  ·rw [if_neg c5] at H
   have c5b0 : (t131 == 0) = false := beq_eq_false_iff_ne.mpr c5
   have c5b1 : (t131 != 0) = true := bne_iff_ne.mpr c5
   obtain rfl := Option.some.inj H
   go_enter Try.func80, Try.ntmps80
   go_wp2_with (first | ((with_reducible refine gate_callee (f := 90) rfl ?_); refine goesL_ (some 15) rfl rfl Try.func90 (by kernel_rfl) rfl #[.string a1, .int .i64 0, .int .i64 (a1.size : Int), .int .i64 a0] rfl (by (try simp only [List.map_toArray, List.map_cons, List.map_nil]); first | done | rfl | (simp only [List.length_drop, List.length_take]; rfl)) ?_; (with_reducible refine (data_Expand.calls k a1 0 (a1.size : Int) a0 t130 t131 _ A4.out).mono ?_); rintro e w7 ⟨rfl, hb⟩; refine ⟨_, rfl, ?_⟩; have n0_ := Aside0.mk (below_step (by repeat (first | (with_reducible first | exact HB.out | apply below_alloc | apply pw_below_drewN | apply below_drew1) | exact HB.out)) hb); clear HB; have HB := n0_; clear n0_; (try clear hb); (try clear hb2); (try clear hk); (try clear hi)))
   go_ret
   exact ⟨by first | rfl | (simp [errW_none, errW_some] <;> rfl) | (simp [*, errW_none, errW_some] <;> rfl), by repeat (first | (with_reducible first | exact HB.out | apply below_alloc | apply pw_below_drewN | apply below_drew1) | exact HB.out)⟩
def ps0 : Array Value := #[.string ⟨#[]⟩, .string ⟨#[]⟩, .slice none 0 0]
theorem ps_put {w : World} {g : Nat} {u0 u1 u2 x0 x1 x2 : Value} (h : w.heap[g]? = some (.cells #[u0, u1, u2] 130 (0, 0))) :
    (((w.setCell ⟨g, 0, none⟩ x0).setCell ⟨g, 1, none⟩ x1).setCell ⟨g, 2, none⟩ x2).heap[g]? = some (.cells #[x0, x1, x2] 130 (0, 0)) :=
  blk_put (blk_put (blk_put h 0 x0 rfl) 1 x1 rfl) 2 x2 rfl
theorem ps_below {w w1 : World} {g : Nat} {x0 x1 x2 : Value} (h : Below w.heap.size w w1) (hg : w.heap.size ≤ g) : Below w.heap.size w (((w1.setCell ⟨g, 0, none⟩ x0).setCell ⟨g, 1, none⟩ x1).setCell ⟨g, 2, none⟩ x2) :=
  ((h.setCell (p := ⟨g, 0, none⟩) hg _).setCell (p := ⟨g, 1, none⟩) hg _).setCell (p := ⟨g, 2, none⟩) hg _
def data_split.f (k : Nat) (a0 : Int) (a1 : ByteArray) : Option (ByteArray × ByteArray × List ByteArray × Bool) :=
  (data_Check.f k a0 a1).bind fun t => if t = true then
    (match shapeOf a0 with
     | none => some (a1, ⟨#[]⟩, [], true)
     | some s => (data_read.f k a1 0 (a1.size : Int) s.1 s.2.1 s.2.2))
  else some (⟨#[]⟩, ⟨#[]⟩, [], false)
theorem data_split.mono : ∀ a0 a1 k, LeO (data_split.f k a0 a1) (data_split.f (k + 1) a0 a1) := by
  intro a0 a1 k
  unfold data_split.f
  refine LeO.bind (data_Check.mono _ _ _) (fun _ => LeO.ite ?_ (LeO.refl _))
  cases shapeOf a0 with
  | none => exact LeO.refl _
  | some s => exact data_read.mono _ _ _ _ _ _ _
set_option maxHeartbeats 4000000 in
set_option maxRecDepth 100000 in
theorem data_split.calls (k : Nat) (a0 : Int) (a1 : ByteArray) (r1 : ByteArray) (r2 : ByteArray) (r3 : List ByteArray) (r4 : Bool) (w : World) (h : data_split.f k a0 a1 = some (r1, r2, r3, r4)) :
    Calls Try.prog 91 #[.int .i64 a0, .string a1] w fun e w' => ∃ v2_ : Value, e = .returned (.tuple #[.agg #[.string r1, .string r2, v2_], .bool r4]) ∧ Kd.R Kd.string 9 w' w.heap.size (fun _ => True) v2_ r3 ∧ Below w.heap.size w w' := by
  have hu := Try.underlying138
  have hu2 := Try.underlying130
  unfold data_split.f at h
  obtain ⟨t, hT, h⟩ := Option.bind_eq_some_iff.mp h
  have HT := Aside0.mk hT
  clear hT
  cases t with
  | false =>
    simp only [Bool.false_eq_true, if_false, Option.some.injEq, Prod.mk.injEq] at h
    obtain ⟨rfl, rfl, rfl, rfl⟩ := h
    go_enter Try.func91, Try.ntmps91
    go_wp2_with fail
    refine (data_Check.calls _ _ _ _ _ HT.out).mono ?_
    rintro e w1 ⟨rfl, hb⟩
    have hbk : w1.heap[w.heap.size]? = some (.cells #[.string ⟨#[]⟩, .string ⟨#[]⟩, .slice none 0 0] 130 (0, 0)) := (hb.block _ (by simp)).trans (heap_alloc_new w _)
    have z0 := (blk_cell hbk 0).trans rfl
    have z1 := (blk_cell hbk 1).trans rfl
    have z2 := (blk_cell hbk 2).trans rfl
    have f0 := blk_frozen hbk 0
    have f1 := blk_frozen hbk 1
    have f2 := blk_frozen hbk 2
    have HK := Aside0.mk hbk
    have HB := Aside0.mk (below_then (below_alloc (Below.refl w.heap.size w) (.cells #[.string ⟨#[]⟩, .string ⟨#[]⟩, .slice none 0 0] 130)) (by simp) hb)
    clear hb hbk
    go_wp2
    refine bodyPost_ret (results_ct rfl _ _ w.heap.size 130 #[.string ⟨#[]⟩, .string ⟨#[]⟩, .slice none 0 0] (0, 0) _ rfl (ps_put HK.out) hu2 rfl (by kernel_rfl)) rfl ⟨.slice none 0 0, rfl, Kd.R_nil _ _ _ _ _, ps_below HB.out (Nat.le_refl _)⟩
  | true =>
    simp only [if_true] at h
    cases hs : shapeOf a0 with
    | none =>
      simp only [hs, Option.some.injEq, Prod.mk.injEq] at h
      obtain ⟨rfl, rfl, rfl, rfl⟩ := h
      have hv : shapeV a0 = (0, 0, 0) := by unfold shapeV; rw [hs]; rfl
      have hl := fun (W : World) (r : Nat) hb => run_shape W r a0 hb
      simp only [hv, hs, Option.isSome_none] at hl
      clear hs hv
      go_enter Try.func91, Try.ntmps91
      go_wp2_with fail
      refine (data_Check.calls _ _ _ _ _ HT.out).mono ?_
      rintro e w1 ⟨rfl, hb⟩
      have hbk : w1.heap[w.heap.size]? = some (.cells #[.string ⟨#[]⟩, .string ⟨#[]⟩, .slice none 0 0] 130 (0, 0)) := (hb.block _ (by simp)).trans (heap_alloc_new w _)
      have HK := Aside0.mk hbk
      have HB := Aside0.mk (below_then (below_alloc (Below.refl w.heap.size w) (.cells #[.string ⟨#[]⟩, .string ⟨#[]⟩, .slice none 0 0] 130)) (by simp) hb)
      clear hb hbk
      go_wp2_with fail
      refine (shapes_calls _).mono ?_
      rintro e w2 ⟨rfl, rfl⟩
      have hl2 := hl (shW w1 8) w1.heap.size (heap_alloc_new w1 _)
      have hbk : (shW w1 8).heap[w.heap.size]? = some (.cells #[.string ⟨#[]⟩, .string ⟨#[]⟩, .slice none 0 0] 130 (0, 0)) := blk_alloc HK.out _
      have HK2 := Aside0.mk hbk
      have HB2 : Aside0 (Below w.heap.size w (shW w1 8)) := ⟨below_alloc HB.out _⟩
      generalize shW w1 8 = w2 at *
      have hb3 := blk_alloc HK2.out (.cells #[.int .i64 0, .int .i64 0, .int .i64 0] 138)
      have z0 := (blk_cell hb3 0).trans rfl
      have z1 := (blk_cell hb3 1).trans rfl
      have z2 := (blk_cell hb3 2).trans rfl
      have f0 := blk_frozen hb3 0
      have f1 := blk_frozen hb3 1
      have f2 := blk_frozen hb3 2
      have HK3 := Aside0.mk hb3
      clear hl hb3
      go_wp2
      refine bodyPost_ret (results_ct rfl _ _ w.heap.size 130 #[.string a1, .string ⟨#[]⟩, .slice none 0 0] (0, 0) _ rfl (ps_put HK3.out) hu2 rfl (by kernel_rfl)) rfl ⟨.slice none 0 0, rfl, Kd.R_nil _ _ _ _ _, ps_below (below_alloc HB2.out _) (Nat.le_refl _)⟩
    | some s =>
      simp only [hs] at h
      have hv : shapeV a0 = s := by unfold shapeV; rw [hs]; rfl
      have hl := fun (W : World) (r : Nat) hb => run_shape W r a0 hb
      simp only [hv, hs, Option.isSome_some] at hl
      have HR := Aside0.mk h
      clear hs hv h
      obtain ⟨s1, s2, s3⟩ := s
      go_enter Try.func91, Try.ntmps91
      go_wp2_with fail
      refine (data_Check.calls _ _ _ _ _ HT.out).mono ?_
      rintro e w1 ⟨rfl, hb⟩
      have hbk : w1.heap[w.heap.size]? = some (.cells #[.string ⟨#[]⟩, .string ⟨#[]⟩, .slice none 0 0] 130 (0, 0)) := (hb.block _ (by simp)).trans (heap_alloc_new w _)
      have HK := Aside0.mk hbk
      have HB := Aside0.mk (below_then (below_alloc (Below.refl w.heap.size w) (.cells #[.string ⟨#[]⟩, .string ⟨#[]⟩, .slice none 0 0] 130)) (by simp) hb)
      clear hb hbk
      go_wp2_with fail
      refine (shapes_calls _).mono ?_
      rintro e w2 ⟨rfl, rfl⟩
      have hl2 := hl (shW w1 8) w1.heap.size (heap_alloc_new w1 _)
      have hbk : (shW w1 8).heap[w.heap.size]? = some (.cells #[.string ⟨#[]⟩, .string ⟨#[]⟩, .slice none 0 0] 130 (0, 0)) := blk_alloc HK.out _
      have HK2 := Aside0.mk hbk
      have HB2 : Aside0 (Below w.heap.size w (shW w1 8)) := ⟨below_alloc HB.out _⟩
      generalize shW w1 8 = w2 at *
      clear hl
      go_wp2_with fail
      refine (data_read.calls _ _ _ _ _ _ _ _ _ _ _ _ HR.out).mono ?_
      rintro e w3 ⟨v2, rfl, hr, hb⟩
      have hsz3 : w.heap.size ≤ (w2.alloc (.cells #[.int .i64 s1, .int .i64 s2, .int .i64 s3] 138)).heap.size := by have := HB2.out.size; simp; omega
      have hb3 := blk_below (blk_alloc HK2.out (.cells #[.int .i64 s1, .int .i64 s2, .int .i64 s3] 138)) hb
      have HB3 := Aside0.mk (below_then (below_alloc HB2.out (.cells #[.int .i64 s1, .int .i64 s2, .int .i64 s3] 138)) hsz3 hb)
      have HR3 := Aside0.mk (Kd.R_lower hr hsz3)
      clear hr hb hsz3
      obtain ⟨A, c, rfl⟩ := Kd.R_slice HR3.out
      have z0 := (blk_cell hb3 0).trans rfl
      have z1 := (blk_cell hb3 1).trans rfl
      have z2 := (blk_cell hb3 2).trans rfl
      have f0 := blk_frozen hb3 0
      have f1 := blk_frozen hb3 1
      have f2 := blk_frozen hb3 2
      have HK3 := Aside0.mk hb3
      clear hb3
      go_wp2
      refine bodyPost_ret (results_ct rfl _ _ w.heap.size 130 #[.string r1, .string r2, .slice A r3.length c] (0, 0) _ rfl (ps_put HK3.out) hu2 rfl (by kernel_rfl)) rfl ⟨.slice A r3.length c, rfl, ?_, ps_below HB3.out (Nat.le_refl _)⟩
      exact Kd.R_set (Kd.R_set (Kd.R_set HR3.out HK3.out (by decide) 0 _) (blk_put HK3.out 0 _ rfl) (by decide) 1 _) (blk_put (blk_put HK3.out 0 _ rfl) 1 _ rfl) (by decide) 2 _
mutual
def name_split.l0 : Nat → ByteArray → List ByteArray → Option (List ByteArray × Bool)
 | 0, _, _ => none
 | k + 1, x0, x4 => if (x0.size : Int) > 0 then (name_split.j1 k x0 x4 (x0.toList != ([0] : List UInt8))) else (name_split.j1 k x0 x4 false)
def name_split.j1 : Nat → ByteArray → List ByteArray → Bool → Option (List ByteArray × Bool)
 | 0, _, _, _ => none
 | k + 1, x0, x4, x15 => if x15 = true then (if 0 < (x0.size : Int) then (if (wrap64 (bt x0 0)) < 1 then (some (([] : List ByteArray), false)) else (if (wrap64 (bt x0 0)) > 63 then (some (([] : List ByteArray), false)) else (if (wrap64 ((wrap64 (bt x0 0)) + 1)) ≥ (x0.size : Int) then (some (([] : List ByteArray), false)) else (if 1 ≤ (wrap64 (1 + (wrap64 (bt x0 0)))) then (if (wrap64 (1 + (wrap64 (bt x0 0)))) ≤ (x0.size : Int) then (if x4.length < 8796093022208 then (if 0 ≤ (wrap64 (1 + (wrap64 (bt x0 0)))) then (name_split.l0 k (x0.extract ((wrap64 (1 + (wrap64 (bt x0 0)))) : Int).toNat x0.size) (x4 ++ [x0.extract 1 ((wrap64 (1 + (wrap64 (bt x0 0)))) : Int).toNat])) else (none)) else (none)) else (none)) else (none))))) else (none)) else (some (x4, (x0.toList == ([0] : List UInt8))))
end
def name_split.f (k : Nat) (a0 : ByteArray) : Option (List ByteArray × Bool) := if (a0.size : Int) > 255 then (some (([] : List ByteArray), false)) else (name_split.l0 k a0 ([] : List ByteArray))
theorem name_split.mono_l : ∀ k, (∀ y0 y1, LeO (name_split.l0 k y0 y1) (name_split.l0 (k + 1) y0 y1)) ∧ (∀ y0 y1 y2, LeO (name_split.j1 k y0 y1 y2) (name_split.j1 (k + 1) y0 y1 y2))
 | 0 => ⟨fun _ _ r h => by simp [name_split.l0] at h, fun _ _ _ r h => by simp [name_split.j1] at h⟩
 | k + 1 => by
  obtain ⟨ih0, ih1⟩ := name_split.mono_l k
  refine ⟨?_, ?_⟩
  ·intro y0 y1
   unfold name_split.l0
   repeat' first
   | (with_reducible exact ih0 _ _)
   | (with_reducible exact ih1 _ _ _)
   | (with_reducible exact LeO.refl _)
   | (with_reducible exact LeO.none _)
   | (with_reducible refine LeO.ite ?_ ?_)
   | (with_reducible refine LeO.bind ?_ (fun _ => ?_))
  ·intro y0 y1 y2
   unfold name_split.j1
   repeat' first
   | (with_reducible exact ih0 _ _)
   | (with_reducible exact ih1 _ _ _)
   | (with_reducible exact LeO.refl _)
   | (with_reducible exact LeO.none _)
   | (with_reducible refine LeO.ite ?_ ?_)
   | (with_reducible refine LeO.bind ?_ (fun _ => ?_))
theorem name_split.mono : ∀ a0 k, LeO (name_split.f k a0) (name_split.f (k + 1) a0) := by
 intro a0 k
 obtain ⟨ih0, ih1⟩ := name_split.mono_l k
 unfold name_split.f
 repeat' first
   | (with_reducible exact ih0 _ _)
   | (with_reducible exact ih1 _ _ _)
   | (with_reducible exact LeO.refl _)
   | (with_reducible exact LeO.none _)
   | (with_reducible refine LeO.ite ?_ ?_)
   | (with_reducible refine LeO.bind ?_ (fun _ => ?_))
def name_split.T8 : Bool × List (List Nat × List Nat) := (true, [([], []), ([], []), ([], []), ([2], [2]), ([1, 3], [1, 3]), ([4], [4]), ([0, 5], [0, 5]), ([], []), ([], []), ([8], [8]), ([7, 9], [7, 9]), ([6, 6, 0, 1, 2, 3, 4, 5, 6], [0, 6]), ([10, 11, 0, 1, 2, 3, 4, 5, 6, 7, 8, 9, 10, 11], [1, 7, 10])])
def name_split.B8 : List Nat := [0, 0, 0, 4, 14, 30, 63, 0, 0, 256, 896, 127, 4095]
theorem name_split.tab8 : rtab .any (opsOf Try.f65 8) = name_split.T8 := by kernel_rfl
theorem name_split.bits8 : waitsOk name_split.T8.2 name_split.B8 = true := by kernel_rfl
set_option maxHeartbeats 8000000 in
set_option maxRecDepth 100000 in
theorem name_split.calls (k : Nat) (a0 : ByteArray) (r1 : List ByteArray) (r2 : Bool) (w : World) (h : name_split.f k a0 = some (r1, r2)) :
  Calls Try.prog 65 #[.string a0] w fun e w' => ∃ v0_ : Value, e = .returned (.tuple #[v0_, .bool r2]) ∧ Kd.R Kd.string 9 w' w.heap.size (fun _ => True) v0_ r1 ∧ Below w.heap.size w w' := by
 have HB := Aside0.mk (Below.refl w.heap.size w)
 have H : (if (a0.size : Int) > 255 then (some (([] : List ByteArray), false)) else (name_split.l0 k a0 ([] : List ByteArray))) = some (r1, r2) := h
 clear h
 by_cases c2 : (a0.size : Int) > 255
 ·rw [if_pos c2] at H
  have c2b0 : decide (255 < (a0.size : Int)) = true := decide_eq_true c2
  have c2b1 : decide (255 < a0.size) = true := decide_eq_true (by omega)
  clear c2
  simp only [Option.some.injEq, Prod.mk.injEq] at H
  obtain ⟨rfl, rfl⟩ := H
  go_enter Try.func65, Try.ntmps65
  go_wp2
  go_ret2
  exact ⟨_, by first | rfl | (simp [errW_none, errW_some] <;> rfl) | (simp [*, errW_none, errW_some] <;> rfl), by first | exact Kd.R_nil _ _ _ _ _ | exact Kd.N_nil _ _ _ _ _ | exact Kd.V_nil _ _ _ _ _ | exact Kd.Q_nil _ _ _ _ _ | exact Kd.S_nil _ _ _ _ _, by repeat (first | (with_reducible first | exact HB.out | apply below_alloc | apply pw_below_drewN | apply below_drew1) | exact HB.out)⟩
 ·rw [if_neg c2] at H
  have c2b0 : decide (255 < (a0.size : Int)) = false := decide_eq_false c2
  have c2b1 : decide (255 < a0.size) = false := decide_eq_false (by omega)
  clear c2
  have H' := Aside0.mk H
  clear H
  go_enter Try.func65, Try.ntmps65
  go_wp2
  go_loopg [0, 4] k (fun kq v0 v4 w' => ∃ (x0_1 : ByteArray) (x4_1 : List ByteArray), v0 = .string x0_1 ∧ Aside0 (name_split.l0 kq x0_1 x4_1 = some (r1, r2)) ∧ Aside0 (kq ≤ k) ∧ Aside0 (Kd.R Kd.string 9 w' w.heap.size (fun _ => True) v4 x4_1) ∧ Aside0 (Below w.heap.size w w'))
  case atStart => exact ⟨(a0), (([] : List ByteArray)), (by first | rfl | (simp; done) | (simp [*]; done)), H', ⟨Nat.le_refl _⟩, ⟨by first | exact Kd.R_nil _ _ _ _ _ | exact Kd.N_nil _ _ _ _ _ | exact Kd.V_nil _ _ _ _ _ | exact Kd.Q_nil _ _ _ _ _ | exact Kd.S_nil _ _ _ _ _⟩, ⟨by repeat (first | (with_reducible first | exact HB.out | apply below_alloc | apply pw_below_drewN | apply below_drew1) | exact HB.out)⟩⟩
  case round =>
   clear H'
   try clear c2
   try clear c2b0
   try clear c2b1
   try clear p2
   obtain ⟨x0_1, x4_1, rfl, HA, HK1, HO_4, HB⟩ := hrel
   cases gk with
   | zero => exact absurd HA.out (by simp [name_split.l0])
   | succ k1 =>
    have H := HA.out
    clear HA
    simp only [name_split.l0] at H
    have HC3 := Aside0.mk H
    clear H
    go_upto_region 4 with (fail)
    go_cut [15] (fun v15 wc => ∃ (kq : Nat) (x15_2 : Bool), v15 = .bool x15_2 ∧ Aside0 (name_split.j1 kq x0_1 x4_1 x15_2 = some (r1, r2)) ∧ Aside0 (kq ≤ k1) ∧ Aside0 (Kd.R Kd.string 9 wc w.heap.size (fun _ => True) u4 x4_1) ∧ Aside0 (Below w.heap.size w wc))
    case first =>
     have H := HC3.out
     clear HC3
     by_cases c4 : (x0_1.size : Int) > 0
     ·rw [if_pos c4] at H
      have c4b0 : decide (0 < (x0_1.size : Int)) = true := decide_eq_true c4
      have c4b1 : decide (0 < x0_1.size) = true := decide_eq_true (by omega)
      clear c4
      (first | rw [c4b0] | (simp only [i64_w, i32_w]; rw [c4b0]) | skip)
      have H' := Aside0.mk H
      clear H
      go_wp2
      go_meet
      case rel => exact ⟨_, ((x0_1.toList != ([0] : List UInt8))), (by first | rfl | (simp; done) | (simp [*]; done)), H', ⟨by have := HK1.out; first | omega | exact Nat.le_refl _⟩, ⟨by (with_reducible repeat (first | apply Kd.R_alloc | apply Kd.R_drewN | apply Kd.R_drew)); exact HO_4.out⟩, ⟨by repeat (first | (with_reducible first | exact HB.out | apply below_alloc | apply pw_below_drewN | apply below_drew1) | exact HB.out)⟩⟩
     ·rw [if_neg c4] at H
      have c4b0 : decide (0 < (x0_1.size : Int)) = false := decide_eq_false c4
      have c4b1 : decide (0 < x0_1.size) = false := decide_eq_false (by omega)
      clear c4
      (first | rw [c4b0] | (simp only [i64_w, i32_w]; rw [c4b0]) | skip)
      have H' := Aside0.mk H
      clear H
      go_wp2
      go_meet
      case rel => exact ⟨_, (false), (by first | rfl | (simp; done) | (simp [*]; done)), H', ⟨by have := HK1.out; first | omega | exact Nat.le_refl _⟩, ⟨by (with_reducible repeat (first | apply Kd.R_alloc | apply Kd.R_drewN | apply Kd.R_drew)); exact HO_4.out⟩, ⟨by repeat (first | (with_reducible first | exact HB.out | apply below_alloc | apply pw_below_drewN | apply below_drew1) | exact HB.out)⟩⟩
    case rest =>
     clear HC3
     try clear c2
     try clear c2b0
     try clear c2b1
     try clear p2
     try clear c4
     try clear c4b0
     try clear c4b1
     try clear p2
     obtain ⟨kq, x15_2, rfl, HA, HJ2, HO_4, HB⟩ := hcut
     cases kq with
     | zero => exact absurd HA.out (by simp [name_split.j1])
     | succ kj2 =>
      have H := HA.out
      clear HA
      simp only [name_split.j1] at H
      by_cases c5 : x15_2 = true
      ·subst c5
       have H1 : (if 0 < (x0_1.size : Int) then (if (wrap64 (bt x0_1 0)) < 1 then (some (([] : List ByteArray), false)) else (if (wrap64 (bt x0_1 0)) > 63 then (some (([] : List ByteArray), false)) else (if (wrap64 ((wrap64 (bt x0_1 0)) + 1)) ≥ (x0_1.size : Int) then (some (([] : List ByteArray), false)) else (if 1 ≤ (wrap64 (1 + (wrap64 (bt x0_1 0)))) then (if (wrap64 (1 + (wrap64 (bt x0_1 0)))) ≤ (x0_1.size : Int) then (if x4_1.length < 8796093022208 then (if 0 ≤ (wrap64 (1 + (wrap64 (bt x0_1 0)))) then (name_split.l0 kj2 (x0_1.extract ((wrap64 (1 + (wrap64 (bt x0_1 0)))) : Int).toNat x0_1.size) (x4_1 ++ [x0_1.extract 1 ((wrap64 (1 + (wrap64 (bt x0_1 0)))) : Int).toNat])) else (none)) else (none)) else (none)) else (none))))) else (none)) = some (r1, r2) := by rw [if_pos rfl] at H; exact H
       clear H
       have H := H1
       clear H1
       by_cases c6 : 0 < (x0_1.size : Int)
       ·rw [if_pos c6] at H
        have c6b0 : decide (0 < (x0_1.size : Int)) = true := decide_eq_true c6
        have c6b1 : decide (0 < x0_1.size) = true := decide_eq_true (by omega)
        clear c6
        by_cases c8 : (wrap64 (bt x0_1 0)) < 1
        ·rw [if_pos c8] at H
         have c8b0 : decide ((wrap64 (bt x0_1 0)) < 1) = true := decide_eq_true c8
         clear c8
         simp only [Option.some.injEq, Prod.mk.injEq] at H
         obtain ⟨rfl, rfl⟩ := H
         have p7 : 0 ≤ (0 : Int) := (by omega)
         have q7 : 0 < x0_1.size := (by have : (0 : Int) < (x0_1.size : Int) := of_decide_eq_true (by first | (with_reducible assumption) | assumption); omega)
         have hx7 : ∀ h : 0 < x0_1.size, ((x0_1[0]'h).toNat : Int) = bt x0_1 0 := bt_at x0_1 0
         clear p7
         have qi7 : (0 < (x0_1.size : Int)) = True := eq_true (of_decide_eq_true (by first | (with_reducible assumption) | assumption))
         replace q7 := eq_true q7
         go_wp2
         go_ret2
         exact ⟨_, by first | rfl | (simp [errW_none, errW_some] <;> rfl) | (simp [*, errW_none, errW_some] <;> rfl), by first | exact Kd.R_nil _ _ _ _ _ | exact Kd.N_nil _ _ _ _ _ | exact Kd.V_nil _ _ _ _ _ | exact Kd.Q_nil _ _ _ _ _ | exact Kd.S_nil _ _ _ _ _, by repeat (first | (with_reducible first | exact HB.out | apply below_alloc | apply pw_below_drewN | apply below_drew1) | exact HB.out)⟩
        ·rw [if_neg c8] at H
         have c8b0 : decide ((wrap64 (bt x0_1 0)) < 1) = false := decide_eq_false c8
         clear c8
         by_cases c9 : (wrap64 (bt x0_1 0)) > 63
         ·rw [if_pos c9] at H
          have c9b0 : decide (63 < (wrap64 (bt x0_1 0))) = true := decide_eq_true c9
          clear c9
          simp only [Option.some.injEq, Prod.mk.injEq] at H
          obtain ⟨rfl, rfl⟩ := H
          have p7 : 0 ≤ (0 : Int) := (by omega)
          have q7 : 0 < x0_1.size := (by have : (0 : Int) < (x0_1.size : Int) := of_decide_eq_true (by first | (with_reducible assumption) | assumption); omega)
          have hx7 : ∀ h : 0 < x0_1.size, ((x0_1[0]'h).toNat : Int) = bt x0_1 0 := bt_at x0_1 0
          clear p7
          have qi7 : (0 < (x0_1.size : Int)) = True := eq_true (of_decide_eq_true (by first | (with_reducible assumption) | assumption))
          replace q7 := eq_true q7
          go_wp2
          go_ret2
          exact ⟨_, by first | rfl | (simp [errW_none, errW_some] <;> rfl) | (simp [*, errW_none, errW_some] <;> rfl), by first | exact Kd.R_nil _ _ _ _ _ | exact Kd.N_nil _ _ _ _ _ | exact Kd.V_nil _ _ _ _ _ | exact Kd.Q_nil _ _ _ _ _ | exact Kd.S_nil _ _ _ _ _, by repeat (first | (with_reducible first | exact HB.out | apply below_alloc | apply pw_below_drewN | apply below_drew1) | exact HB.out)⟩
         ·rw [if_neg c9] at H
          have c9b0 : decide (63 < (wrap64 (bt x0_1 0))) = false := decide_eq_false c9
          clear c9
          by_cases c10 : (wrap64 ((wrap64 (bt x0_1 0)) + 1)) ≥ (x0_1.size : Int)
          ·rw [if_pos c10] at H
           have c10b0 : decide ((x0_1.size : Int) ≤ (wrap64 ((wrap64 (bt x0_1 0)) + 1))) = true := decide_eq_true c10
           clear c10
           simp only [Option.some.injEq, Prod.mk.injEq] at H
           obtain ⟨rfl, rfl⟩ := H
           have p7 : 0 ≤ (0 : Int) := (by omega)
           have q7 : 0 < x0_1.size := (by have : (0 : Int) < (x0_1.size : Int) := of_decide_eq_true (by first | (with_reducible assumption) | assumption); omega)
           have hx7 : ∀ h : 0 < x0_1.size, ((x0_1[0]'h).toNat : Int) = bt x0_1 0 := bt_at x0_1 0
           clear p7
           have qi7 : (0 < (x0_1.size : Int)) = True := eq_true (of_decide_eq_true (by first | (with_reducible assumption) | assumption))
           replace q7 := eq_true q7
           go_wp2
           go_ret2
           exact ⟨_, by first | rfl | (simp [errW_none, errW_some] <;> rfl) | (simp [*, errW_none, errW_some] <;> rfl), by first | exact Kd.R_nil _ _ _ _ _ | exact Kd.N_nil _ _ _ _ _ | exact Kd.V_nil _ _ _ _ _ | exact Kd.Q_nil _ _ _ _ _ | exact Kd.S_nil _ _ _ _ _, by repeat (first | (with_reducible first | exact HB.out | apply below_alloc | apply pw_below_drewN | apply below_drew1) | exact HB.out)⟩
          ·rw [if_neg c10] at H
           have c10b0 : decide ((x0_1.size : Int) ≤ (wrap64 ((wrap64 (bt x0_1 0)) + 1))) = false := decide_eq_false c10
           clear c10
           by_cases c11 : 1 ≤ (wrap64 (1 + (wrap64 (bt x0_1 0))))
           ·rw [if_pos c11] at H
            have c11b0 := eq_true c11
            have c11b1 : decide (1 ≤ (wrap64 (1 + (wrap64 (bt x0_1 0))))) = true := decide_eq_true c11
            by_cases c12 : (wrap64 (1 + (wrap64 (bt x0_1 0)))) ≤ (x0_1.size : Int)
            ·rw [if_pos c12] at H
             have c12b0 := eq_true c12
             have c12b1 : decide ((wrap64 (1 + (wrap64 (bt x0_1 0)))) ≤ (x0_1.size : Int)) = true := decide_eq_true c12
             by_cases c13 : x4_1.length < 8796093022208
             ·rw [if_pos c13] at H
              have LMc13 := Aside0.mk c13
              clear c13
              obtain ⟨y107, hy107⟩ : ∃ y_ : List ByteArray, y_ = (x4_1 ++ [x0_1.extract 1 ((wrap64 (1 + (wrap64 (bt x0_1 0)))) : Int).toNat]) := ⟨_, rfl⟩
              replace H : (if 0 ≤ (wrap64 (1 + (wrap64 (bt x0_1 0)))) then (name_split.l0 kj2 (x0_1.extract ((wrap64 (1 + (wrap64 (bt x0_1 0)))) : Int).toNat x0_1.size) y107) else (none)) = some (r1, r2) := by first | (rw [hy107]; with_reducible exact H) | (have H2_ := (Option.bind_some _ _).symm.trans H; rw [hy107]; with_reducible exact H2_) | (have H2_ := (Option.bind_some _ _).symm.trans H; with_reducible exact H2_) | with_reducible exact H | (rw [hy107]; exact H) | exact H
              have Ny107 := Aside0.mk hy107
              clear hy107
              obtain ⟨ji14, hji14⟩ : ∃ j_ : Int, (wrap64 (1 + (wrap64 (bt x0_1 0)))) = j_ := ⟨_, rfl⟩
              replace H : (if 0 ≤ (ji14) then (name_split.l0 kj2 (x0_1.extract ((ji14) : Int).toNat x0_1.size) y107) else (none)) = some (r1, r2) := by first | (rw [hji14] at H; exact H) | (simp only [hji14] at H ⊢; exact H)
              (try rw [hji14] at c11b0)
              (try rw [hji14] at c11b1)
              (try rw [hji14] at c11)
              (try rw [hji14] at c12b0)
              (try rw [hji14] at c12b1)
              (try rw [hji14] at c12)
              (try rw [hji14] at Ny107)
              have hji14w : (IntKind.i64.wrap (1 + (wrap64 (bt x0_1 0)))) = ji14 := (i64_w _).trans hji14
              by_cases c15 : 0 ≤ (ji14)
              ·rw [if_pos c15] at H
               have c15b0 := eq_true c15
               have c15b1 : decide (0 ≤ (ji14)) = true := decide_eq_true c15
               clear c15
               have c16b0 := eq_true (of_decide_eq_true (by first | (with_reducible assumption) | assumption) : (ji14) ≤ (x0_1.size : Int))
               have H' := Aside0.mk H
               clear H
               have p7 : 0 ≤ (0 : Int) := (by omega)
               have q7 : 0 < x0_1.size := (by have : (0 : Int) < (x0_1.size : Int) := of_decide_eq_true (by first | (with_reducible assumption) | assumption); omega)
               have hx7 : ∀ h : 0 < x0_1.size, ((x0_1[0]'h).toNat : Int) = bt x0_1 0 := bt_at x0_1 0
               clear p7
               have qi7 : (0 < (x0_1.size : Int)) = True := eq_true (of_decide_eq_true (by first | (with_reducible assumption) | assumption))
               replace q7 := eq_true q7
               try go_wp2
               have n0_ := Aside0.mk (Kd.R_drew HO_4.out)
               have n1_ := Aside0.mk (below_drew1 HB.out)
               clear HO_4
               clear HB
               have HO_4 := n0_
               have HB := n1_
               clear n0_ n1_
               refine start_ (n := 13) (S := fun w' => True) (ds := []) #[false, false, false, false, false, false, false, false, false, false, false, false, false] (by kernel_rfl) rfl rfl trivial (fun hHeld => ?_); refine with_tabW name_split.tab8 name_split.bits8 (fun HT_ HW_ => ?_)
               generalize wc.drew = w17 at HO_4 HB hHeld ⊢
               refine pure_ (i := 0) (N := some 32) (v := ?_) (a' := ?_) #[true, false, false, false, false, false, false, false, false, false, false, false, false] rfl rfl (any_of HT_.out (by kernel_rfl)) (fun _ _ _ h => h) (Or.inl ⟨by rfl, ?_⟩) ?_ ?_
               rotate_left
               ·intro w'
                go_simp
                with_reducible rfl
               rotate_left
               ·simp only [Act.put, List.setIfInBounds_toArray, List.set_cons_zero, List.set_cons_succ, i64_w, i32_w]
                rfl
               refine pure_ (i := 1) (N := some 33) (v := ?_) (a' := ?_) #[true, true, false, false, false, false, false, false, false, false, false, false, false] rfl rfl (any_of HT_.out (by kernel_rfl)) (fun _ _ _ h => h) (Or.inl ⟨by rfl, ?_⟩) ?_ ?_
               rotate_left
               ·intro w'
                go_simp
                with_reducible rfl
               rotate_left
               ·simp only [Act.put, List.setIfInBounds_toArray, List.set_cons_zero, List.set_cons_succ, i64_w, i32_w]
                rfl
               refine pure_ (i := 2) (N := some 34) (v := ?_) (a' := ?_) #[true, true, true, false, false, false, false, false, false, false, false, false, false] rfl rfl (any_of HT_.out (by kernel_rfl)) (fun _ _ _ h => h) (Or.inl ⟨by rfl, ?_⟩) ?_ ?_
               rotate_left
               ·intro w'
                go_simp
                with_reducible rfl
               rotate_left
               ·simp only [Act.put, List.setIfInBounds_toArray, List.set_cons_zero, List.set_cons_succ, i64_w, i32_w]
                rfl
               refine pure_ (i := 3) (N := some 35) (v := ?_) (a' := ?_) #[true, true, true, true, false, false, false, false, false, false, false, false, false] rfl rfl (any_of HT_.out (by kernel_rfl)) (fun _ _ _ h => h) (Or.inl ⟨by rfl, ?_⟩) ?_ ?_
               rotate_left
               ·intro w'
                go_simp
                with_reducible rfl
               rotate_left
               ·simp only [Act.put, List.setIfInBounds_toArray, List.set_cons_zero, List.set_cons_succ, i64_w, i32_w]
                rfl
               refine pure_ (i := 4) (N := some 36) (v := ?_) (a' := ?_) #[true, true, true, true, true, false, false, false, false, false, false, false, false] rfl rfl (any_of HT_.out (by kernel_rfl)) (fun _ _ _ h => h) (Or.inl ⟨by rfl, ?_⟩) ?_ ?_
               rotate_left
               ·intro w'
                go_simp
                with_reducible rfl
               rotate_left
               ·simp only [Act.put, List.setIfInBounds_toArray, List.set_cons_zero, List.set_cons_succ, i64_w, i32_w]
                rfl
               refine pure_ (i := 7) (N := some 39) (v := ?_) (a' := ?_) #[true, true, true, true, true, false, false, true, false, false, false, false, false] rfl rfl (any_of HT_.out (by kernel_rfl)) (fun _ _ _ h => h) (Or.inl ⟨by rfl, ?_⟩) ?_ ?_
               rotate_left
               ·intro w'
                go_simp
                with_reducible rfl
               rotate_left
               ·simp only [Act.put, List.setIfInBounds_toArray, List.set_cons_zero, List.set_cons_succ, i64_w, i32_w]
                rfl
               refine pure_ (i := 8) (N := some 40) (v := ?_) (a' := ?_) #[true, true, true, true, true, false, false, true, true, false, false, false, false] rfl rfl (any_of HT_.out (by kernel_rfl)) (fun _ _ _ h => h) (Or.inl ⟨by rfl, ?_⟩) ?_ ?_
               rotate_left
               ·intro w'
                go_simp
                with_reducible rfl
               rotate_left
               ·simp only [Act.put, List.setIfInBounds_toArray, List.set_cons_zero, List.set_cons_succ, i64_w, i32_w]
                rfl
               refine pure_ (i := 9) (N := some 41) (v := ?_) (a' := ?_) #[true, true, true, true, true, false, false, true, true, true, false, false, false] rfl rfl (any_of HT_.out (by kernel_rfl)) (fun _ _ _ h => h) (Or.inl ⟨by rfl, ?_⟩) ?_ ?_
               rotate_left
               ·intro w'
                go_simp
                with_reducible rfl
               rotate_left
               ·simp only [Act.put, List.setIfInBounds_toArray, List.set_cons_zero, List.set_cons_succ, i64_w, i32_w]
                rfl
               refine pure_ (i := 10) (N := some 42) (v := ?_) (a' := ?_) #[true, true, true, true, true, false, false, true, true, true, true, false, false] rfl rfl (any_of HT_.out (by kernel_rfl)) (fun _ _ _ h => h) (Or.inl ⟨by rfl, ?_⟩) ?_ ?_
               rotate_left
               ·intro w'
                go_simp
                with_reducible rfl
               rotate_left
               ·simp only [Act.put, List.setIfInBounds_toArray, List.set_cons_zero, List.set_cons_succ, i64_w, i32_w]
                rfl
               refine one_ (i := 5) (N := some 37) #[true, true, true, true, true, true, false, true, true, true, true, false, false] rfl rfl (one_of HT_.out (by kernel_rfl)) (by decide) (fun K hK => ?_)
               refine value_ (w1 := ?_) (v := ?_) (by rfl) rfl ?_ ?_
               rotate_left 2
               ·go_simp
                constructor
                ·rfl
                ·rfl
               refine hK.out _ _ trivial (fun hHeld => ?_)
               clear hK K
               refine norm_ (a' := ?_) ?_ ?_
               rotate_left
               ·show Act.put _ (some 37) _ = _
                simp only [Act.put, List.setIfInBounds_toArray, List.set_cons_zero, List.set_cons_succ, i64_w, i32_w]
                rfl
               refine one_ (i := 6) (N := some 38) #[true, true, true, true, true, true, true, true, true, true, true, false, false] rfl rfl (one_of HT_.out (by kernel_rfl)) (by decide) (fun K hK => ?_)
               refine Kd.R_append_step Kd.string (w0 := w) w.heap.size (by rfl) (.tmp 32) (.tmp 37) 25 9 (.string ⟨#[]⟩) 16 rfl Try.underlying25 info9 rfl (by decide) (by omega) u4 x4_1 (x0_1.extract 1 ((ji14) : Int).toNat) [.string (x0_1.extract 1 ((ji14) : Int).toNat)] (fun _ => True) (fun _ => False) rfl rfl ?aP (fun _ hk => hk.elim) ?aF ?aO ?aB ?aS ?aL ?_
               (case aP => exact rfl)
               (case aB => exact (by repeat (first | (with_reducible first | exact HB.out | apply below_alloc | apply pw_below_drewN | apply below_drew1) | exact HB.out)))
               (case aF => exact (fun _ _ => trivial))
               (case aO => exact (by (with_reducible repeat (first | apply Kd.R_alloc | apply Kd.R_drewN | apply Kd.R_drew)); exact HO_4.out))
               (case aS => exact (below_size (by repeat (first | (with_reducible first | exact HB.out | apply below_alloc | apply pw_below_drewN | apply below_drew1) | exact HB.out))))
               (case aL => have := LMc13.out; omega)
               intro v108 w18 ho hb hg hat
               rw [← Ny107.out] at ho
               have n0_ := Aside0.mk (hb)
               have n1_ := Aside0.mk (ho)
               clear HB
               clear HO_4
               have HB := n0_
               have HO109 := n1_
               clear n0_ n1_
               clear ho hb hg hat
               refine hK.out _ _ trivial (fun hHeld => ?_)
               clear hK K
               refine norm_ (a' := ?_) ?_ ?_
               rotate_left
               ·show Act.put _ (some 38) _ = _
                simp only [Act.put, List.setIfInBounds_toArray, List.set_cons_zero, List.set_cons_succ, i64_w, i32_w]
                rfl
               refine pure_ (i := 11) (N := some 4) (v := ?_) (a' := ?_) #[true, true, true, true, true, true, true, true, true, true, true, true, false] rfl rfl (any_of HT_.out (by kernel_rfl)) (fun _ _ _ h => h) (Or.inl ⟨by rfl, ?_⟩) ?_ ?_
               rotate_left
               ·intro w'
                go_simp
                with_reducible rfl
               rotate_left
               ·simp only [Act.put, List.setIfInBounds_toArray, List.set_cons_zero, List.set_cons_succ, i64_w, i32_w]
                rfl
               refine pure_ (i := 12) (N := some 0) (v := ?_) (a' := ?_) #[true, true, true, true, true, true, true, true, true, true, true, true, true] rfl rfl (any_of HT_.out (by kernel_rfl)) (fun _ _ _ h => h) (Or.inl ⟨by rfl, ?_⟩) ?_ ?_
               rotate_left
               ·intro w'
                go_simp
                with_reducible rfl
               rotate_left
               ·simp only [Act.put, List.setIfInBounds_toArray, List.set_cons_zero, List.set_cons_succ, i64_w, i32_w]
                rfl
               refine done_ (done_of HT_.out (by kernel_rfl)) ?_
               try go_wp2
               go_roundg kj2
               case measure => have := HK1.out; have := HJ2.out; omega
               case rel => exact ⟨(x0_1.extract ((ji14) : Int).toNat x0_1.size), (y107), (by first | rfl | (simp; done) | (simp only [← hji14] <;> (first | rfl | simp)) | (simp [*]; done)), H', ⟨by have := HK1.out; have := HJ2.out; omega⟩, ⟨by (with_reducible repeat (first | apply Kd.R_alloc | apply Kd.R_drewN | apply Kd.R_drew)); exact HO109.out⟩, ⟨by repeat (first | (with_reducible first | exact HB.out | apply below_alloc | apply pw_below_drewN | apply below_drew1) | exact HB.out)⟩⟩
              ·rw [if_neg c15] at H
               exact absurd H (by simp)
             ·rw [if_neg c13] at H
              exact absurd H (by simp)
            ·rw [if_neg c12] at H
             exact absurd H (by simp)
           ·rw [if_neg c11] at H
            exact absurd H (by simp)
       ·rw [if_neg c6] at H
        exact absurd H (by simp)
      ·replace c5 := Bool.eq_false_iff.mpr c5
       subst c5
       have H1 : (some (x4_1, (x0_1.toList == ([0] : List UInt8)))) = some (r1, r2) := by rw [if_neg (show ¬ (false = true) by decide)] at H; exact H
       clear H
       have H := H1
       clear H1
       simp only [Option.some.injEq, Prod.mk.injEq] at H
       obtain ⟨rfl, rfl⟩ := H
       go_wp2
       go_ret2
       exact ⟨_, by first | rfl | (simp [errW_none, errW_some] <;> rfl) | (simp [*, errW_none, errW_some] <;> rfl), by (with_reducible repeat (first | apply Kd.R_alloc | apply Kd.R_drewN | apply Kd.R_drew)); exact HO_4.out, by repeat (first | (with_reducible first | exact HB.out | apply below_alloc | apply pw_below_drewN | apply below_drew1) | exact HB.out)⟩
def name_Check.f (k : Nat) (a0 : ByteArray) : Option (Bool) := (name_split.f k a0).bind fun bt110 => (some bt110.2)
theorem name_Check.mono : ∀ a0 k, LeO (name_Check.f k a0) (name_Check.f (k + 1) a0) := by
 intro a0 k
 unfold name_Check.f
 repeat' first
   | (with_reducible exact name_split.mono _ _)
   | (with_reducible exact LeO.refl _)
   | (with_reducible exact LeO.none _)
   | (with_reducible refine LeO.ite ?_ ?_)
   | (with_reducible refine LeO.bind ?_ (fun _ => ?_))
set_option maxHeartbeats 8000000 in
set_option maxRecDepth 100000 in
theorem name_Check.calls (k : Nat) (a0 : ByteArray) (r : Bool) (w : World) (h : name_Check.f k a0 = some r) :
  Calls Try.prog 46 #[.string a0] w fun e w' => e = .returned (.bool r) ∧ Below w.heap.size w w' := by
 have HB := Aside0.mk (Below.refl w.heap.size w)
 have H : ((name_split.f k a0).bind fun bt110 => (some bt110.2)) = some r := h
 clear h
 replace H := Option.bind_eq_some_iff.mp H
 obtain ⟨⟨t110, t111⟩, A20, H⟩ := H
 replace H : (some t111) = some r := H
 have A2 := Aside0.mk A20
 clear A20
 obtain rfl := Option.some.inj H
 go_enter Try.func46, Try.ntmps46
 go_wp2_with (first | ((with_reducible refine gate_callee (f := 65) rfl ?_); refine goesL_ (some 7) rfl rfl Try.func65 (by kernel_rfl) rfl #[.string a0] rfl (by (try simp only [List.map_toArray, List.map_cons, List.map_nil]); first | done | rfl | (simp only [List.length_drop, List.length_take]; rfl)) ?_; (with_reducible refine (name_split.calls k a0 t110 t111 _ A2.out).mono ?_); rintro e w3 ⟨v112, rfl, ho0, hb⟩; refine ⟨_, rfl, ?_⟩; have n0_ := Aside0.mk (Kd.R_lower ho0 (below_size (by repeat (first | (with_reducible first | exact HB.out | apply below_alloc | apply pw_below_drewN | apply below_drew1) | exact HB.out)))); have n1_ := Aside0.mk (below_step (by repeat (first | (with_reducible first | exact HB.out | apply below_alloc | apply pw_below_drewN | apply below_drew1) | exact HB.out)) hb); clear HB; have HO113 := n0_; have HB := n1_; clear n0_ n1_; (try clear hb); (try clear hb2); (try clear hk); (try clear hi); (try clear ho0)))
 go_ret
 exact ⟨by first | rfl | (simp [errW_none, errW_some] <;> rfl) | (simp [*, errW_none, errW_some] <;> rfl), by repeat (first | (with_reducible first | exact HB.out | apply below_alloc | apply pw_below_drewN | apply below_drew1) | exact HB.out)⟩
def name_small.f (a0 : Int) : Option (Int) := if a0 ≥ 65 then (if a0 ≤ 90 then (some ((a0 + 32) % 256)) else (some a0)) else (some a0)
set_option maxHeartbeats 8000000 in
set_option maxRecDepth 100000 in
theorem name_small.calls (a0 : Int) (r : Int) (w : World) (h : name_small.f a0 = some r) :
  Calls Try.prog 79 #[.int .u8 a0] w fun e w' => e = .returned (.int .u8 r) ∧ Drawn0 w w' := by
 have H : (if a0 ≥ 65 then (if a0 ≤ 90 then (some ((a0 + 32) % 256)) else (some a0)) else (some a0)) = some r := h
 clear h
 by_cases c2 : a0 ≥ 65
 ·rw [if_pos c2] at H
  have c2b0 : decide (65 ≤ a0) = true := decide_eq_true c2
  clear c2
  by_cases c3 : a0 ≤ 90
  ·rw [if_pos c3] at H
   have c3b0 : decide (a0 ≤ 90) = true := decide_eq_true c3
   clear c3
   obtain rfl := Option.some.inj H
   go_enter Try.func79, Try.ntmps79
   go_wp2
   go_ret
   exact ⟨by first | rfl | (simp; done) | (simp [*]; done), by repeat (first | exact Drawn0.refl _ | apply Drawn0.step)⟩
  ·rw [if_neg c3] at H
   have c3b0 : decide (a0 ≤ 90) = false := decide_eq_false c3
   clear c3
   obtain rfl := Option.some.inj H
   go_enter Try.func79, Try.ntmps79
   go_wp2
   go_ret
   exact ⟨by first | rfl | (simp; done) | (simp [*]; done), by repeat (first | exact Drawn0.refl _ | apply Drawn0.step)⟩
 ·rw [if_neg c2] at H
  have c2b0 : decide (65 ≤ a0) = false := decide_eq_false c2
  clear c2
  obtain rfl := Option.some.inj H
  go_enter Try.func79, Try.ntmps79
  go_wp2
  go_ret
  exact ⟨by first | rfl | (simp; done) | (simp [*]; done), by repeat (first | exact Drawn0.refl _ | apply Drawn0.step)⟩
def lowc (c : UInt8) : UInt8 := if 65 ≤ c ∧ c ≤ 90 then c + 32 else c
def lowB (s : ByteArray) : ByteArray := ⟨(s.data.toList.map lowc).toArray⟩
def name_low.f (a0 : ByteArray) : Option ByteArray := if a0.size ≤ 140737488351232 then some (lowB a0) else none
structure LowSt (g n : Nat) (s : ByteArray) (i : Nat) (w W : World) : Prop where
 ex : ∃ cs : Array Value, W.heap[g]? = some (.cells cs 5 (n, n + 1)) ∧ cs.size = n ∧ s.size ≤ n ∧ ∀ j (h : j < s.size), cs[j]? = some (.int .u8 (if j < i then lowc s[j] else s[j]).toNat)
 below : Below g w W
theorem LowSt.drewN {g n : Nat} {s : ByteArray} {i : Nat} {w W : World} (h : LowSt g n s i w W) (m : Nat) : LowSt g n s i w (W.drewN m) := ⟨h.ex, pw_below_drewN h.below m⟩
theorem LowSt.cell {g n : Nat} {s : ByteArray} {i : Nat} {w W : World} (h : LowSt g n s i w W) (hi : i < s.size) : W.cell? ⟨g, i, none⟩ = some (.int .u8 (s[i].toNat : Int)) := by
 obtain ⟨cs, hb, _, _, hc⟩ := h.ex
 rw [Lib.cell_of_heap hb, hc i hi]
 simp
theorem LowSt.free {g n : Nat} {s : ByteArray} {i : Nat} {w W : World} (h : LowSt g n s i w W) (hi : i < s.size) : W.frozen? ⟨g, i, none⟩ = false := by
 obtain ⟨cs, hb, _, hn, _⟩ := h.ex
 simp [World.frozen?, hb]
 omega
theorem LowSt.put {g n : Nat} {s : ByteArray} {i : Nat} {w W : World} (h : LowSt g n s i w W) (hi : i < s.size) : LowSt g n s (i + 1) w (W.setCell ⟨g, i, none⟩ (.int .u8 ((lowc s[i]).toNat : Int))) := by
 obtain ⟨cs, hb, hz, hn, hc⟩ := h.ex
 refine ⟨⟨cs.setIfInBounds i (.int .u8 ((lowc s[i]).toNat : Int)), by simp [World.setCell, Array.getElem?_modify, hb], by simpa using hz, hn, fun j hj => ?_⟩, h.below.setCell (p := ⟨g, i, none⟩) (Nat.le_refl _) _⟩
 rw [Array.getElem?_setIfInBounds]
 by_cases e : i = j
 ·subst e
  rw [if_pos rfl, if_pos (by omega), if_pos (by omega)]
 ·rw [if_neg e, hc j hj]
  by_cases e2 : j < i
  ·rw [if_pos e2, if_pos (by omega)]
  ·rw [if_neg e2, if_neg (by omega)]
theorem LowSt.skip {g n : Nat} {s : ByteArray} {i : Nat} {w W : World} (h : LowSt g n s i w W) (hi : i < s.size) (e : lowc s[i] = s[i]) : LowSt g n s (i + 1) w W := by
 obtain ⟨cs, hb, hz, hn, hc⟩ := h.ex
 refine ⟨⟨cs, hb, hz, hn, fun j hj => ?_⟩, h.below⟩
 rw [hc j hj]
 by_cases e2 : j < i
 ·rw [if_pos e2, if_pos (by omega)]
 ·rw [if_neg e2]
  by_cases e3 : j = i
  ·subst e3
   rw [if_pos (by omega), e]
  ·rw [if_neg (by omega)]
theorem bytesWorld_below (w : World) (e : Nat) (s : ByteArray) : Below w.heap.size w (Lib.bytesWorld w e s) :=
 ⟨rfl, rfl, rfl, by rw [Lib.bytesWorld_size]; omega, fun i hi => Lib.bytesWorld_at_old w e s i hi⟩
def bytesCellsN (w : World) (s : ByteArray) : Nat := (Lib.bytesCells w 5 s).size
theorem lowc_small (c : UInt8) : name_small.f (c.toNat : Int) = some ((lowc c).toNat : Int) := by
 unfold name_small.f lowc
 have hc := c.toNat_lt
 by_cases h1 : (c.toNat : Int) ≥ 65
 ·rw [if_pos h1]
  have h1' : 65 ≤ c := UInt8.le_iff_toNat_le.2 (by simpa using (by omega : 65 ≤ c.toNat))
  by_cases h2 : (c.toNat : Int) ≤ 90
  ·have h2' : c ≤ 90 := UInt8.le_iff_toNat_le.2 (by simpa using (by omega : c.toNat ≤ 90))
   rw [if_pos h2, if_pos ⟨h1', h2'⟩]
   congr 1
  ·have h2' : ¬ c ≤ 90 := fun h => h2 (by have := UInt8.le_iff_toNat_le.1 h; simp at this; omega)
   rw [if_neg h2, if_neg (fun h => h2' h.2)]
 ·have h1' : ¬ (65 : UInt8) ≤ c := fun h => h1 (by have := UInt8.le_iff_toNat_le.1 h; simp at this; omega)
  rw [if_neg h1, if_neg (fun h => h1' h.1)]
theorem LowSt.string {n : Nat} {s : ByteArray} {w W : World} {cap : Nat} (h : LowSt w.heap.size n s s.size w W) :
  (convert 84 9 (.slice (some ⟨w.heap.size, 0, none⟩) s.size cap)).run Try.prog W = .ok (.string (lowB s)) W := by
 obtain ⟨cs, hb, hz, hn, hcs⟩ := h.ex
 have h1 := run_convert_bytes_arg (P := Try.prog) W 84 5 Try.underlying84 Try.underlying5 w.heap.size 0 s.size cap (s.data.toList.map fun c => ((lowc c).toNat : Int)) (by simp) (fun j hj => by
  rw [Nat.zero_add, Lib.cell_of_heap hb, hcs j hj, if_pos hj]
  have : (s.data.toList.map fun c => ((lowc c).toNat : Int)).getD j 0 = ((lowc s[j]).toNat : Int) := by
   rw [List.getD_eq_getElem?_getD, List.getElem?_map, List.getElem?_eq_getElem (by simpa using hj)]
   rfl
  rw [this]) 9 Try.underlying9
 rw [h1]
 unfold strOfNums lowB
 simp
theorem LowSt.start (w : World) (s : ByteArray) : LowSt w.heap.size (bytesCellsN w s) s 0 w (Lib.bytesWorld w 5 s) := by
 refine ⟨⟨_, Lib.bytesWorld_at_new w 5 s, rfl, ?_, fun j hj => ?_⟩, bytesWorld_below w _ s⟩
 ·show s.size ≤ (Lib.bytesCells w 5 s).size
  unfold Lib.bytesCells
  rw [Array.size_append, Array.size_map]
  exact Nat.le_add_right _ _
 ·rw [if_neg (Nat.not_lt_zero _)]
  have hj2 : j < s.data.size := hj
  simp [Lib.bytesCells, Array.getElem?_append, hj2]
  rw [if_pos hj, Array.getElem?_eq_getElem hj2]
  rfl
set_option maxHeartbeats 4000000 in
set_option maxRecDepth 100000 in
theorem name_low.calls (a0 : ByteArray) (r : ByteArray) (w : World) (h : name_low.f a0 = some r) :
  Calls Try.prog 66 #[.string a0] w fun e w' => e = .returned (.string r) ∧ Below w.heap.size w w' := by
 have hc := fun (W : World) => Lib.run_convert_string_bytes (P := Try.prog) W 9 84 5 a0 Try.underlying9 Try.underlying84 Try.underlying5
 unfold name_low.f at h
 by_cases hs : a0.size ≤ 140737488351232
 ·rw [if_pos hs] at h
  obtain rfl := Option.some.inj h
  clear h
  go_enter Try.func66, Try.ntmps66
  go_wp2
  go_loopg [10] a0.size (fun kq v10 W => ∃ i : Nat, v10 = .int .i64 i ∧ Aside0 (i + kq = a0.size) ∧ Aside0 (LowSt w.heap.size (bytesCellsN w a0) a0 i w W))
  case atStart => exact ⟨0, rfl, ⟨Nat.zero_add _⟩, ⟨LowSt.start w a0⟩⟩
  case round =>
   obtain ⟨i, rfl, HI, HS⟩ := hrel
   by_cases hlt : i < a0.size
   ·have hcell := HS.out.cell hlt
    have hfree := HS.out.free hlt
    go_wp2_with fail
    refine (name_small.calls _ _ _ (lowc_small _)).mono ?_
    rintro e w1 ⟨rfl, ⟨nd, rfl⟩⟩
    go_wp2
    cases gk with
    | zero => exact absurd HI.out (by omega)
    | succ k1 =>
     go_roundg k1
     case measure => omega
     case rel => exact ⟨i + 1, by simp, ⟨by have := HI.out; omega⟩, ⟨(HS.out.drewN _).put hlt⟩⟩
   ·obtain rfl : i = a0.size := by have := HI.out; omega
    have hcv := HS.out.string (cap := grownCap w a0.size 0 5)
    have HS2 := Aside0.mk HS.out.below
    clear HS HI hlt
    go_wp2
    go_ret
    exact ⟨rfl, HS2.out⟩
 ·rw [if_neg hs] at h
  exact absurd h (by simp)
def name_Low.f (k : Nat) (a0 : ByteArray) : Option (ByteArray) := (name_Check.f k a0).bind fun t114 => (if t114 = true then ((name_low.f a0).bind fun t115 => (some t115)) else (some (⟨#[]⟩ : ByteArray)))
theorem name_Low.mono : ∀ a0 k, LeO (name_Low.f k a0) (name_Low.f (k + 1) a0) := by
 intro a0 k
 unfold name_Low.f
 repeat' first
   | (with_reducible exact name_Check.mono _ _)
   | (with_reducible exact LeO.refl _)
   | (with_reducible exact LeO.none _)
   | (with_reducible refine LeO.ite ?_ ?_)
   | (with_reducible refine LeO.bind ?_ (fun _ => ?_))
set_option maxHeartbeats 8000000 in
set_option maxRecDepth 100000 in
theorem name_Low.calls (k : Nat) (a0 : ByteArray) (r : ByteArray) (w : World) (h : name_Low.f k a0 = some r) :
  Calls Try.prog 47 #[.string a0] w fun e w' => e = .returned (.string r) ∧ Below w.heap.size w w' := by
 have HB := Aside0.mk (Below.refl w.heap.size w)
 have H : ((name_Check.f k a0).bind fun t114 => (if t114 = true then ((name_low.f a0).bind fun t115 => (some t115)) else (some (⟨#[]⟩ : ByteArray)))) = some r := h
 clear h
 replace H := Option.bind_eq_some_iff.mp H
 obtain ⟨t114, A20, H⟩ := H
 replace H : (if t114 = true then ((name_low.f a0).bind fun t115 => (some t115)) else (some (⟨#[]⟩ : ByteArray))) = some r := H
 have A2 := Aside0.mk A20
 clear A20
 by_cases c3 : t114 = true
 ·subst c3
  have H1 : ((name_low.f a0).bind fun t115 => (some t115)) = some r := by rw [if_pos rfl] at H; exact H
  clear H
  have H := H1
  clear H1
  replace H := Option.bind_eq_some_iff.mp H
  obtain ⟨t115, A40, H⟩ := H
  replace H : (some t115) = some r := H
  have A4 := Aside0.mk A40
  clear A40
  obtain rfl := Option.some.inj H
  go_enter Try.func47, Try.ntmps47
  go_wp2_with (first | ((with_reducible refine gate_callee (f := 46) rfl ?_); refine goesL_ (some 4) rfl rfl Try.func46 (by kernel_rfl) rfl #[.string a0] rfl (by (try simp only [List.map_toArray, List.map_cons, List.map_nil]); first | done | rfl | (simp only [List.length_drop, List.length_take]; rfl)) ?_; (with_reducible refine (name_Check.calls k a0 true _ A2.out).mono ?_); rintro e w5 ⟨rfl, hb⟩; refine ⟨_, rfl, ?_⟩; have n0_ := Aside0.mk (below_step (by repeat (first | (with_reducible first | exact HB.out | apply below_alloc | apply pw_below_drewN | apply below_drew1) | exact HB.out)) hb); clear HB; have HB := n0_; clear n0_; (try clear hb); (try clear hb2); (try clear hk); (try clear hi)) | ((with_reducible refine gate_callee (f := 66) rfl ?_); refine goesL_ (some 7) rfl rfl Try.func66 (by kernel_rfl) rfl #[.string a0] rfl (by (try simp only [List.map_toArray, List.map_cons, List.map_nil]); first | done | rfl | (simp only [List.length_drop, List.length_take]; rfl)) ?_; (with_reducible refine (name_low.calls a0 t115 _ A4.out).mono ?_); rintro e w6 ⟨rfl, hb⟩; refine ⟨_, rfl, ?_⟩; have n0_ := Aside0.mk (below_step (by repeat (first | (with_reducible first | exact HB.out | apply below_alloc | apply pw_below_drewN | apply below_drew1) | exact HB.out)) hb); clear HB; have HB := n0_; clear n0_; (try clear hb); (try clear hb2); (try clear hk); (try clear hi)))
  go_ret
  exact ⟨by first | rfl | (simp [errW_none, errW_some] <;> rfl) | (simp [*, errW_none, errW_some] <;> rfl), by repeat (first | (with_reducible first | exact HB.out | apply below_alloc | apply pw_below_drewN | apply below_drew1) | exact HB.out)⟩
 ·replace c3 := Bool.eq_false_iff.mpr c3
  subst c3
  have H1 : (some (⟨#[]⟩ : ByteArray)) = some r := by rw [if_neg (show ¬ (false = true) by decide)] at H; exact H
  clear H
  have H := H1
  clear H1
  obtain rfl := Option.some.inj H
  go_enter Try.func47, Try.ntmps47
  go_wp2_with (first | ((with_reducible refine gate_callee (f := 46) rfl ?_); refine goesL_ (some 4) rfl rfl Try.func46 (by kernel_rfl) rfl #[.string a0] rfl (by (try simp only [List.map_toArray, List.map_cons, List.map_nil]); first | done | rfl | (simp only [List.length_drop, List.length_take]; rfl)) ?_; (with_reducible refine (name_Check.calls k a0 false _ A2.out).mono ?_); rintro e w7 ⟨rfl, hb⟩; refine ⟨_, rfl, ?_⟩; have n0_ := Aside0.mk (below_step (by repeat (first | (with_reducible first | exact HB.out | apply below_alloc | apply pw_below_drewN | apply below_drew1) | exact HB.out)) hb); clear HB; have HB := n0_; clear n0_; (try clear hb); (try clear hb2); (try clear hk); (try clear hi)))
  go_ret
  exact ⟨by first | rfl | (simp [errW_none, errW_some] <;> rfl) | (simp [*, errW_none, errW_some] <;> rfl), by repeat (first | (with_reducible first | exact HB.out | apply below_alloc | apply pw_below_drewN | apply below_drew1) | exact HB.out)⟩
def lowEach (k : Nat) : List ByteArray → Option (List ByteArray)
 | [] => some []
 | x :: l => (name_Low.f k x).bind fun y => (lowEach k l).bind fun z => some (y :: z)
def data_Low.f (k : Nat) (a0 : Int) (a1 : ByteArray) : Option ByteArray :=
 (data_split.f k a0 a1).bind fun p => (lowEach k p.2.2.1).bind fun l => data_parts_whole.f p.1 p.2.1 l
theorem lowEach_mono (k : Nat) : ∀ l, LeO (lowEach k l) (lowEach (k + 1) l)
 | [] => LeO.refl _
 | x :: l => LeO.bind (name_Low.mono _ _) (fun _ => LeO.bind (lowEach_mono k l) (fun _ => LeO.refl _))
theorem data_Low.mono : ∀ a0 a1 k, LeO (data_Low.f k a0 a1) (data_Low.f (k + 1) a0 a1) := fun a0 a1 k =>
 LeO.bind (data_split.mono _ _ _) (fun _ => LeO.bind (lowEach_mono k _) (fun _ => LeO.refl _))
theorem lowEach_length {k : Nat} : ∀ {l ys : List ByteArray}, lowEach k l = some ys → ys.length = l.length
 | [], ys, h => by simp [lowEach] at h; simp [← h]
 | x :: l, ys, h => by
  simp only [lowEach] at h
  obtain ⟨y, _, h⟩ := Option.bind_eq_some_iff.mp h
  obtain ⟨z, hz, h⟩ := Option.bind_eq_some_iff.mp h
  obtain rfl := Option.some.inj h
  simp [lowEach_length hz]
theorem lowEach_at {k : Nat} : ∀ {l ys : List ByteArray}, lowEach k l = some ys → ∀ i (h : i < l.length), ∃ y, name_Low.f k l[i] = some y ∧ ys[i]? = some y
 | [], ys, _ => fun i h => absurd h (by simp)
 | x :: l, ys, h => by
  simp only [lowEach] at h
  obtain ⟨y, hy, h⟩ := Option.bind_eq_some_iff.mp h
  obtain ⟨z, hz, h⟩ := Option.bind_eq_some_iff.mp h
  obtain rfl := Option.some.inj h
  intro i hi
  cases i with
  | zero => exact ⟨y, hy, rfl⟩
  | succ i => exact lowEach_at hz i (by simpa using hi)
theorem lowEach_step {l ys : List ByteArray} {y : ByteArray} {i : Nat} (hl : ys.length = l.length) (hy : ys[i]? = some y) (hi : i < l.length) : (ys.take i ++ l.drop i).set i y = ys.take (i + 1) ++ l.drop (i + 1) := by
 rw [List.set_append_right _ _ (by simp; omega)]
 have e : i - (ys.take i).length = 0 := by simp; omega
 rw [e, List.take_add_one, hy, List.drop_eq_getElem_cons hi, List.set_cons_zero]
 simp
set_option maxHeartbeats 4000000 in
set_option maxRecDepth 100000 in
theorem data_Low.calls (k : Nat) (a0 : Int) (a1 : ByteArray) (r : ByteArray) (w : World) (h : data_Low.f k a0 a1 = some r) :
  Calls Try.prog 81 #[.int .i64 a0, .string a1] w fun e w' => e = .returned (.string r) ∧ Below w.heap.size w w' := by
 have hu2 := Try.underlying130
 unfold data_Low.f at h
 obtain ⟨⟨p1, p2, p3, p4⟩, hS, h⟩ := Option.bind_eq_some_iff.mp h
 obtain ⟨ys, hY, hW⟩ := Option.bind_eq_some_iff.mp h
 have HS := Aside0.mk hS
 have HY := Aside0.mk hY
 have HW := Aside0.mk hW
 clear h hS hY hW
 go_enter Try.func81, Try.ntmps81
 go_wp2_with fail
 refine (data_split.calls _ _ _ _ _ _ _ _ HS.out).mono ?_
 rintro e w1 ⟨v2, rfl, hr, hb⟩
 obtain ⟨A, c, rfl⟩ := Kd.R_slice hr
 have HR := Aside0.mk hr
 have HB := Aside0.mk hb
 clear hr hb
 obtain ⟨inner, hown⟩ := Kd.R_own HR.out
 have hbk : (w1.alloc (.cells #[.string p1, .string p2, .slice A p3.length c] 130)).heap[w1.heap.size]? = some (.cells #[.string p1, .string p2, .slice A p3.length c] 130 (0, 0)) := heap_alloc_new _ _
 have HBK := Aside0.mk hbk
 have hlen : ys.length = p3.length := lowEach_length HY.out
 have HL := Aside0.mk hlen
 have hlen0 : p3.length ≤ 9223372036854775807 := by
  rcases hown.2 with ⟨_, h0⟩ | ⟨g, cap, cur, _, _, _, h1, h2, _⟩
  ·omega
  ·unfold maxLen at h2; omega
 have HA : Aside0 (0 < p3.length → ∃ g, A = some ⟨g, 0, none⟩ ∧ g < w1.heap.size) := ⟨fun h0 => by
  obtain ⟨g, cap, e, _⟩ := hown.form h0
  injection e with e1
  subst e1
  exact ⟨g, rfl, own_lt hown g rfl⟩⟩
 have HB1 := Aside0.mk (below_alloc HB.out (.cells #[.string p1, .string p2, .slice A p3.length c] 130))
 have HR1 := Aside0.mk (Kd.R_alloc HR.out (.cells #[.string p1, .string p2, .slice A p3.length c] 130))
 clear hown hbk hlen
 go_wp2_with fail
 go_loopg [18] p3.length (fun kq v18 W => ∃ i : Nat, v18 = .int .i64 i ∧ Aside0 (i + kq = p3.length) ∧ Aside0 (Kd.R Kd.string 9 W w.heap.size (fun _ => True) (.slice A p3.length c) (ys.take i ++ p3.drop i)) ∧ Aside0 (W.heap[w1.heap.size]? = some (.cells #[.string p1, .string p2, .slice A p3.length c] 130 (0, 0))) ∧ Aside0 (Below w.heap.size w W) ∧ Aside0 (w1.heap.size < W.heap.size))
 case atStart => exact ⟨0, rfl, ⟨Nat.zero_add _⟩, ⟨by simpa using HR1.out⟩, HBK, HB1, ⟨by simp⟩⟩
 case round =>
  obtain ⟨i, rfl, HI, HRr, HBr, HBB, HZ⟩ := hrel
  by_cases hlt : i < p3.length
  ·obtain ⟨g, rfl, hg⟩ := HA.out (by omega)
   have hcl := Kd.R_celln ByteArray.empty HRr.out (i : Int) (by omega) (by omega)
   have hv : rdOf ByteArray.empty (ys.take i ++ p3.drop i) (i : Int) = p3[i] := by
    unfold rdOf
    rw [Int.toNat_natCast, List.getD_eq_getElem?_getD, List.getElem?_append_right (by simp; omega)]
    simp [List.getElem?_eq_getElem hlt, Nat.min_eq_left (show i ≤ ys.length by have := HL.out; omega)]
   rw [hv, Int.toNat_natCast] at hcl
   obtain ⟨hc1, hf1⟩ := hcl
   have z2 := (blk_cell HBr.out 2).trans rfl
   obtain ⟨y, hy, hyl⟩ := lowEach_at HY.out i hlt
   have HYI := Aside0.mk hy
   have HYL := Aside0.mk hyl
   have hne : w1.heap.size ≠ g := by omega
   have HNE := Aside0.mk hne
   have HRd := Aside0.mk (Kd.R_drew HRr.out)
   clear hv hy hyl hne
   go_wp2_with fail
   go_region_held3 (fun w' => w'.cell? ⟨w1.heap.size, 2, none⟩ = some (.slice (some ⟨g, 0, none⟩) p3.length c)) (first | exact z2 | exact z2b | exact z3 _ | assumption) (first | (go_at_call 47; refine (name_Low.calls k p3[i] y _ HYI.out).mono ?_; rintro e w2 ⟨rfl, hb2⟩; have HR2 := Aside0.mk (Kd.R_below HRd.out hb2); have hbr2 := blk_below (show wr.drew.heap[w1.heap.size]? = _ from HBr.out) hb2; have z2b := (blk_cell hbr2 2).trans rfl; have z3 := fun x => (blk_cell (blk_far (p := ⟨g, i, none⟩) hbr2 HNE.out x) 2).trans rfl; have hcl2 := Kd.R_celln ByteArray.empty HR2.out (i : Int) (by omega) (by omega); rw [Int.toNat_natCast] at hcl2; obtain ⟨hc2, hf2⟩ := hcl2; have HBr2 := Aside0.mk hbr2; have HBB2 := Aside0.mk (below_then (below_drew HBB.out) HBB.out.size hb2); have hsz2 : w1.heap.size < w2.heap.size := Nat.lt_of_lt_of_le HZ.out hb2.size; have HSZ2 := Aside0.mk hsz2; clear hb2 hbr2 hsz2))
   go_wp2
   cases gk with
   | zero => exact absurd HI.out (by omega)
   | succ k1 =>
    go_roundg k1
    case measure => omega
    case rel =>
     refine ⟨i + 1, by simp, ⟨by have := HI.out; omega⟩, ⟨?_⟩, ⟨blk_far HBr2.out HNE.out _⟩, ⟨HBB2.out.setCell (p := ⟨g, i, none⟩) (by
      obtain ⟨_, hown⟩ := Kd.R_own HR2.out
      exact own_base hown g rfl) _⟩, ⟨by simpa [World.setCell] using HSZ2.out⟩⟩
     have hp := Kd.R_putn HR2.out (i : Int) y
     rw [Int.toNat_natCast, lowEach_step HL.out HYL.out hlt] at hp
     exact hp
  ·obtain rfl : i = p3.length := by have := HI.out; omega
   have hyy : ys.take p3.length ++ p3.drop p3.length = ys := by rw [List.drop_length, List.append_nil, List.take_of_length_le (by have := HL.out; omega)]
   have hR := HRr.out
   rw [hyy] at hR
   obtain ⟨h1, h2, h3⟩ := Kd.R_reads' hR
   have z0 := (blk_cell HBr.out 0).trans rfl
   have z1 := (blk_cell HBr.out 1).trans rfl
   have z2 := (blk_cell HBr.out 2).trans rfl
   have HC := Aside0.mk (And.intro h1 (And.intro h2 h3))
   clear hyy hR h1 h2 h3 hlt
   go_wp2_with fail
   refine (calls_of_args (args' := #[.agg #[.string p1, .string p2, .slice A ys.length c]]) (by rw [HC.out.1]) ?_)
   refine (data_parts_whole.calls _ _ _ _ _ _ _ HC.out.2.2 (by have := HC.out.1; have := HC.out.2.1; omega) HW.out).mono ?_
   rintro e w3 ⟨rfl, hb3⟩
   have HB3 := Aside0.mk (below_then HBB.out HBB.out.size hb3)
   clear hb3
   go_wp2
   go_ret
   exact ⟨rfl, HB3.out⟩
def group_in.f (a0 : Int) (a1 : Int) : Option (Bool) := if a0 ≥ 0 then (some (decide (a0 ≤ a1))) else (some false)
set_option maxHeartbeats 8000000 in
set_option maxRecDepth 100000 in
theorem group_in.calls (a0 : Int) (a1 : Int) (r : Bool) (w : World) (h : group_in.f a0 a1 = some r) :
  Calls Try.prog 68 #[.int .i64 a0, .int .i64 a1] w fun e w' => e = .returned (.bool r) ∧ Drawn0 w w' := by
 have H : (if a0 ≥ 0 then (some (decide (a0 ≤ a1))) else (some false)) = some r := h
 clear h
 by_cases c3 : a0 ≥ 0
 ·rw [if_pos c3] at H
  have c3b0 : decide (0 ≤ a0) = true := decide_eq_true c3
  clear c3
  obtain rfl := Option.some.inj H
  go_enter Try.func68, Try.ntmps68
  go_wp2
  go_ret
  exact ⟨by first | rfl | (simp; done) | (simp [*]; done), by repeat (first | exact Drawn0.refl _ | apply Drawn0.step)⟩
 ·rw [if_neg c3] at H
  have c3b0 : decide (0 ≤ a0) = false := decide_eq_false c3
  clear c3
  obtain rfl := Option.some.inj H
  go_enter Try.func68, Try.ntmps68
  go_wp2
  go_ret
  exact ⟨by first | rfl | (simp; done) | (simp [*]; done), by repeat (first | exact Drawn0.refl _ | apply Drawn0.step)⟩
def slices_Index_string_string.l0 : Nat → List ByteArray → ByteArray → Int → Int → Option (Int)
 | 0, _, _, _, _ => none
 | k + 1, x0, x1, x7, x8 => if x8 < x7 then (if 0 ≤ x8 then (if x8 < (x0.length : Int) then (if x1.toList = (rdOf ByteArray.empty x0 x8).toList then (some x8) else (slices_Index_string_string.l0 k x0 x1 x7 (wrap64 (x8 + 1)))) else (none)) else (none)) else (some (-1))
def slices_Index_string_string.f (k : Nat) (l0 : List ByteArray) (a1 : ByteArray) : Option (Int) := slices_Index_string_string.l0 k l0 a1 (l0.length : Int) 0
theorem slices_Index_string_string.mono_l : ∀ k, (∀ y0 y1 y2 y3, LeO (slices_Index_string_string.l0 k y0 y1 y2 y3) (slices_Index_string_string.l0 (k + 1) y0 y1 y2 y3))
 | 0 => fun _ _ _ _ r h => by simp [slices_Index_string_string.l0] at h
 | k + 1 => by
  have ih0 := slices_Index_string_string.mono_l k
  ·intro y0 y1 y2 y3
   unfold slices_Index_string_string.l0
   repeat' first
   | (with_reducible exact ih0 _ _ _ _)
   | (with_reducible exact LeO.refl _)
   | (with_reducible exact LeO.none _)
   | (with_reducible refine LeO.ite ?_ ?_)
   | (with_reducible refine LeO.bind ?_ (fun _ => ?_))
theorem slices_Index_string_string.mono : ∀ a0 a1 k, LeO (slices_Index_string_string.f k a0 a1) (slices_Index_string_string.f (k + 1) a0 a1) := by
 intro a0 a1 k
 have ih0 := slices_Index_string_string.mono_l k
 unfold slices_Index_string_string.f
 repeat' first
   | (with_reducible exact ih0 _ _ _ _)
   | (with_reducible exact LeO.refl _)
   | (with_reducible exact LeO.none _)
   | (with_reducible refine LeO.ite ?_ ?_)
   | (with_reducible refine LeO.bind ?_ (fun _ => ?_))
set_option maxHeartbeats 8000000 in
set_option maxRecDepth 100000 in
theorem slices_Index_string_string.calls (k : Nat) (A0 : Option Addr) (c0 : Nat) (l0 : List ByteArray) (a1 : ByteArray) (r : Int) (w : World) (hr0 : Kd.C Kd.string w A0 l0.length l0) (hc0 : l0.length ≤ c0) (h : slices_Index_string_string.f k l0 a1 = some r) :
  Calls Try.prog 93 #[.slice A0 l0.length c0, .string a1] w fun e w' => e = .returned (.int .i64 r) ∧ Drawn0 w w' := by
 have HR0 := Aside0.mk hr0
 have HC0 := Aside0.mk hc0
 clear hr0 hc0
 have H : (slices_Index_string_string.l0 k l0 a1 (l0.length : Int) 0) = some r := h
 clear h
 have H' := Aside0.mk H
 clear H
 go_enter Try.func93, Try.ntmps93
 go_wp2
 go_loopg [8] k (fun kq v8 w' => ∃ (x8_1 : Int), v8 = .int .i64 x8_1 ∧ Aside0 (slices_Index_string_string.l0 kq l0 a1 (l0.length : Int) x8_1 = some r) ∧ Aside0 (kq ≤ k) ∧ Drawn0 w w')
 case atStart => exact ⟨(0), (by first | rfl | (simp; done) | (simp [*]; done)), H', ⟨Nat.le_refl _⟩, by repeat (first | exact Drawn0.refl _ | apply Drawn0.step)⟩
 case round =>
  clear H'
  try clear p2
  obtain ⟨x8_1, rfl, HA, HK1, ⟨m1, rfl⟩⟩ := hrel
  cases gk with
  | zero => exact absurd HA.out (by simp [slices_Index_string_string.l0])
  | succ k1 =>
   have H := HA.out
   clear HA
   simp only [slices_Index_string_string.l0] at H
   by_cases c3 : x8_1 < (l0.length : Int)
   ·rw [if_pos c3] at H
    have c3b0 : decide (x8_1 < (l0.length : Int)) = true := decide_eq_true c3
    clear c3
    by_cases c4 : 0 ≤ x8_1
    ·rw [if_pos c4] at H
     have c4b0 : decide (0 ≤ x8_1) = true := decide_eq_true c4
     clear c4
     by_cases c5 : x8_1 < (l0.length : Int)
     ·rw [if_pos c5] at H
      have c5b0 : decide (x8_1 < (l0.length : Int)) = true := decide_eq_true c5
      clear c5
      by_cases c6 : a1.toList = (rdOf ByteArray.empty l0 x8_1).toList
      ·rw [if_pos c6] at H
       have c6b0 : (a1.toList == (rdOf ByteArray.empty l0 x8_1).toList) = true := beq_iff_eq.mpr c6
       have c6b1 : (a1.toList != (rdOf ByteArray.empty l0 x8_1).toList) = false := bne_eq_false_iff_eq.mpr c6
       clear c6
       obtain rfl := Option.some.inj H
       have p132 : 0 ≤ (x8_1 : Int) := of_decide_eq_true (by first | (with_reducible assumption) | assumption)
       have q132 : x8_1 < (l0.length : Int) := of_decide_eq_true (by first | (with_reducible assumption) | assumption)
       obtain ⟨ad132, e132, hx132_0⟩ := Kd.at_string HR0.out x8_1 p132 q132
       cases e132
       replace p132 := eq_true p132
       replace q132 := eq_true q132
       go_wp2
       go_ret
       exact ⟨by first | rfl | (simp; done) | (simp [*]; done), by repeat (first | exact Drawn0.refl _ | apply Drawn0.step)⟩
      ·rw [if_neg c6] at H
       have c6b0 : (a1.toList == (rdOf ByteArray.empty l0 x8_1).toList) = false := beq_eq_false_iff_ne.mpr c6
       have c6b1 : (a1.toList != (rdOf ByteArray.empty l0 x8_1).toList) = true := bne_iff_ne.mpr c6
       have H' := Aside0.mk H
       clear H
       have p132 : 0 ≤ (x8_1 : Int) := of_decide_eq_true (by first | (with_reducible assumption) | assumption)
       have q132 : x8_1 < (l0.length : Int) := of_decide_eq_true (by first | (with_reducible assumption) | assumption)
       obtain ⟨ad132, e132, hx132_0⟩ := Kd.at_string HR0.out x8_1 p132 q132
       cases e132
       replace p132 := eq_true p132
       replace q132 := eq_true q132
       go_wp2
       go_roundg k1
       case measure => have := HK1.out; omega
       case rel => exact ⟨(wrap64 (x8_1 + 1)), (by first | rfl | (simp; done) | (simp [*]; done)), H', ⟨by have := HK1.out; omega⟩, by repeat (first | exact Drawn0.refl _ | apply Drawn0.step)⟩
     ·rw [if_neg c5] at H
      exact absurd H (by simp)
    ·rw [if_neg c4] at H
     exact absurd H (by simp)
   ·rw [if_neg c3] at H
    have c3b0 : decide (x8_1 < (l0.length : Int)) = false := decide_eq_false c3
    clear c3
    obtain rfl := Option.some.inj H
    go_wp2
    go_ret
    exact ⟨by first | rfl | (simp; done) | (simp [*]; done), by repeat (first | exact Drawn0.refl _ | apply Drawn0.step)⟩
def slices_Contains_string_string.f (k : Nat) (l0 : List ByteArray) (a1 : ByteArray) : Option (Bool) := (slices_Index_string_string.f k l0 a1).bind fun t133 => (some (decide (t133 ≥ 0)))
theorem slices_Contains_string_string.mono : ∀ a0 a1 k, LeO (slices_Contains_string_string.f k a0 a1) (slices_Contains_string_string.f (k + 1) a0 a1) := by
 intro a0 a1 k
 unfold slices_Contains_string_string.f
 repeat' first
   | (with_reducible exact slices_Index_string_string.mono _ _ _)
   | (with_reducible exact LeO.refl _)
   | (with_reducible exact LeO.none _)
   | (with_reducible refine LeO.ite ?_ ?_)
   | (with_reducible refine LeO.bind ?_ (fun _ => ?_))
set_option maxHeartbeats 8000000 in
set_option maxRecDepth 100000 in
theorem slices_Contains_string_string.calls (k : Nat) (A0 : Option Addr) (c0 : Nat) (l0 : List ByteArray) (a1 : ByteArray) (r : Bool) (w : World) (hr0 : Kd.C Kd.string w A0 l0.length l0) (hc0 : l0.length ≤ c0) (h : slices_Contains_string_string.f k l0 a1 = some r) :
  Calls Try.prog 82 #[.slice A0 l0.length c0, .string a1] w fun e w' => e = .returned (.bool r) ∧ Drawn0 w w' := by
 have HR0 := Aside0.mk hr0
 have HC0 := Aside0.mk hc0
 clear hr0 hc0
 have H : ((slices_Index_string_string.f k l0 a1).bind fun t133 => (some (decide (t133 ≥ 0)))) = some r := h
 clear h
 replace H := Option.bind_eq_some_iff.mp H
 obtain ⟨t133, A30, H⟩ := H
 replace H : (some (decide (t133 ≥ 0))) = some r := H
 have A3 := Aside0.mk A30
 clear A30
 obtain rfl := Option.some.inj H
 go_enter Try.func82, Try.ntmps82
 go_wp2_with (first | ((with_reducible refine gate_callee (f := 93) rfl ?_); refine goesL_ (some 7) rfl rfl Try.func93 (by kernel_rfl) rfl #[.slice A0 l0.length c0, .string a1] rfl (by (try simp only [List.map_toArray, List.map_cons, List.map_nil]); first | done | rfl | (simp only [List.length_drop, List.length_take]; rfl)) ?_; (with_reducible refine (slices_Index_string_string.calls k _ _ l0 a1 t133 _ ?side1 ?side2 A3.out).mono ?_); (case side1 => repeat (first | exact HR0.out | (with_reducible refine Kd.C_alloc ?_ _) | (with_reducible refine Kd.C_drewN ?_ _) | (with_reducible refine Kd.C_drew ?_))); (case side2 => exact HC0.out); rintro e w' ⟨rfl, ⟨nd, rfl⟩⟩; refine ⟨_, rfl, ?_⟩))
 go_ret
 exact ⟨by first | rfl | (simp; done) | (simp [*]; done), by repeat (first | exact Drawn0.refl _ | apply Drawn0.step)⟩
def group_Check.l0 (k : Nat) (kind : Int) : List ByteArray → List ByteArray → Option Bool
  | _, [] => some true
  | pre, d :: rest => (data_Check.f k kind d).bind fun a => if a = true then
      (data_Low.f k kind d).bind fun lo => if lo.toList = d.toList then ((slices_Contains_string_string.f k pre d).bind fun m => if m = true then some false else group_Check.l0 k kind (pre ++ [d]) rest) else some false
    else some false
def group_Check.f (k : Nat) (a0_0 : ByteArray) (a0_1 : Int) (a0_2 : Int) (l0_3 : List ByteArray) (a0_4 : Int) : Option Bool :=
  if 9223372036854775807 < l0_3.length then none else (name_Check.f k a0_0).bind fun a => if a = true then
    (name_Low.f k a0_0).bind fun lo => if lo.toList = a0_0.toList then
      (if 0 ≤ a0_1 ∧ a0_1 ≤ 65535 ∧ 0 ≤ a0_2 ∧ a0_2 ≤ 65535 ∧ 0 ≤ a0_4 ∧ a0_4 ≤ 2147483647 then
        (group_Check.l0 k a0_1 [] l0_3).bind fun b => some (b && decide (0 < l0_3.length))
       else some false)
    else some false
  else some false
def inR (n m : Int) : Bool := decide (0 ≤ n ∧ n ≤ m)
theorem group_in.inR (n m : Int) : group_in.f n m = some (P.inR n m) := by
  unfold group_in.f P.inR
  by_cases c : n ≥ 0
  · rw [if_pos c]; exact congrArg some (decide_eq_decide.mpr ⟨fun h => ⟨c, h⟩, fun h => h.2⟩)
  · rw [if_neg c]; exact congrArg some (decide_eq_false fun h => c h.1).symm
theorem group_Check.mono_l (k : Nat) (kind : Int) : ∀ pre rest, LeO (group_Check.l0 k kind pre rest) (group_Check.l0 (k + 1) kind pre rest)
  | _, [] => LeO.refl _
  | pre, d :: rest => by
    unfold group_Check.l0
    refine LeO.bind (data_Check.mono _ _ _) (fun _ => LeO.ite (LeO.bind (data_Low.mono _ _ _) (fun _ => LeO.ite (LeO.bind (slices_Contains_string_string.mono _ _ _) (fun _ => LeO.ite (LeO.refl _) (group_Check.mono_l k kind _ rest))) (LeO.refl _))) (LeO.refl _))
theorem group_Check.mono : ∀ a0 a1 a2 a3 a4 k, LeO (group_Check.f k a0 a1 a2 a3 a4) (group_Check.f (k + 1) a0 a1 a2 a3 a4) := by
  intro a0 a1 a2 a3 a4 k
  unfold group_Check.f
  refine LeO.ite (LeO.refl _) ?_
  exact LeO.bind (name_Check.mono _ _) (fun _ => LeO.ite (LeO.bind (name_Low.mono _ _) (fun _ => LeO.ite (LeO.ite (LeO.bind (group_Check.mono_l k _ _ _) (fun _ => LeO.refl _)) (LeO.refl _)) (LeO.refl _))) (LeO.refl _))
set_option maxHeartbeats 4000000 in
set_option maxRecDepth 100000 in
theorem group_Check.calls (k : Nat) (a0_0 : ByteArray) (a0_1 : Int) (a0_2 : Int) (A0_3 : Option Addr) (c0_3 : Nat) (l0_3 : List ByteArray) (a0_4 : Int) (r : Bool) (w : World) (hr0_3 : Kd.C Kd.string w A0_3 l0_3.length l0_3) (hc0_3 : l0_3.length ≤ c0_3) (h : group_Check.f k a0_0 a0_1 a0_2 l0_3 a0_4 = some r) :
    Calls Try.prog 67 #[.agg #[.string a0_0, .int .i64 a0_1, .int .i64 a0_2, .slice A0_3 l0_3.length c0_3, .int .i64 a0_4]] w fun e w' => e = .returned (.bool r) ∧ Below w.heap.size w w' := by
  have hu := Try.underlying27
  have hu2 := Try.underlying23
  have HR0 := Aside0.mk hr0_3
  have HC0 := Aside0.mk hc0_3
  clear hr0_3 hc0_3
  unfold group_Check.f at h
  by_cases hbig : 9223372036854775807 < l0_3.length
  · rw [if_pos hbig] at h; cases h
  rw [if_neg hbig] at h
  have HBIG := Aside0.mk hbig
  clear hbig
  replace h := Option.bind_eq_some_iff.mp h
  obtain ⟨chk, hchk, h⟩ := h
  have HK := Aside0.mk hchk
  clear hchk
  obtain ⟨e1, he1⟩ : ∃ b, inR a0_1 65535 = b := ⟨_, rfl⟩
  obtain ⟨e2, he2⟩ : ∃ b, inR a0_2 65535 = b := ⟨_, rfl⟩
  obtain ⟨e3, he3⟩ : ∃ b, inR a0_4 2147483647 = b := ⟨_, rfl⟩
  have hcond : (0 ≤ a0_1 ∧ a0_1 ≤ 65535 ∧ 0 ≤ a0_2 ∧ a0_2 ≤ 65535 ∧ 0 ≤ a0_4 ∧ a0_4 ≤ 2147483647) = ((e1 && e2 && e3) = true) := by
    subst he1; subst he2; subst he3; apply propext; simp only [inR, Bool.and_eq_true, decide_eq_true_eq]; omega
  simp only [hcond] at h
  clear hcond
  cases chk with
  | false =>
    simp only [Bool.false_eq_true, if_false, Option.some.injEq] at h
    subst h
    have HL : Aside0 True := ⟨trivial⟩
    go_enter Try.func67, Try.ntmps67
    go_wp2_with fail
    have hb0 : ((w.alloc (.cells #[.string a0_0, .int .i64 a0_1, .int .i64 a0_2, .slice A0_3 l0_3.length c0_3, .int .i64 a0_4] 27)).alloc (.cells #[.string a0_0, .int .i64 a0_1, .int .i64 a0_2] 23)).heap[w.heap.size]? = some (.cells #[.string a0_0, .int .i64 a0_1, .int .i64 a0_2, .slice A0_3 l0_3.length c0_3, .int .i64 a0_4] 27 (0, 0)) := blk_alloc (heap_alloc_new _ _) _
    have hb1 : ((w.alloc (.cells #[.string a0_0, .int .i64 a0_1, .int .i64 a0_2, .slice A0_3 l0_3.length c0_3, .int .i64 a0_4] 27)).alloc (.cells #[.string a0_0, .int .i64 a0_1, .int .i64 a0_2] 23)).heap[w.heap.size + 1]? = some (.cells #[.string a0_0, .int .i64 a0_1, .int .i64 a0_2] 23 (0, 0)) := by
      have := heap_alloc_new (w.alloc (.cells #[.string a0_0, .int .i64 a0_1, .int .i64 a0_2, .slice A0_3 l0_3.length c0_3, .int .i64 a0_4] 27)) (.cells #[.string a0_0, .int .i64 a0_1, .int .i64 a0_2] 23)
      simpa using this
    have hW0 : Below w.heap.size w ((w.alloc (.cells #[.string a0_0, .int .i64 a0_1, .int .i64 a0_2, .slice A0_3 l0_3.length c0_3, .int .i64 a0_4] 27)).alloc (.cells #[.string a0_0, .int .i64 a0_1, .int .i64 a0_2] 23)) := below_alloc (below_alloc (Below.refl _ _) _) _
    generalize ((w.alloc (.cells #[.string a0_0, .int .i64 a0_1, .int .i64 a0_2, .slice A0_3 l0_3.length c0_3, .int .i64 a0_4] 27)).alloc (.cells #[.string a0_0, .int .i64 a0_1, .int .i64 a0_2] 23)) = w1 at hb0 hb1 hW0 ⊢
    have z0 := cell_regrown ((blk_cell hb1 0).trans rfl)
    have z1 := cell_regrown ((blk_cell hb1 1).trans rfl)
    have z2 := cell_regrown ((blk_cell hb1 2).trans rfl)
    have z3 := cell_regrown ((blk_cell hb0 4).trans rfl)
    refine wp_region_quiet_below (by kernel_rfl) (by kernel_rfl) ?_
    repeat (go_big_quiet_step (first
      | (go_at_call 46; exact Calls.regrown_of (name_Check.calls _ _ _ _ HK.out))
      | (go_at_call 47; exact Calls.regrown_of (name_Low.calls _ _ _ _ HL.out))
      | (go_at_call 68; exact Calls.regrown_of ((group_in.calls _ _ _ _ (group_in.inR _ _)).mono fun _ _ ⟨he, hd⟩ => ⟨he, hd.below⟩))))
    refine wpQuiet_nil ?_
    intro w2 hw'
    have hB : Below w1.heap.size w1 w2 := by
      obtain ⟨p, rfl⟩ := hw'
      exact below_regrown _ _ _
    clear z0 z1 z2 z3 hw'
    go_wp2
    go_ret
    exact ⟨rfl, below_then hW0 hW0.size hB⟩
  | true =>
    rw [if_pos rfl] at h
    replace h := Option.bind_eq_some_iff.mp h
    obtain ⟨lo, hlo, h⟩ := h
    have HL := Aside0.mk hlo
    clear hlo
    by_cases hl : lo.toList = a0_0.toList
    · rw [if_pos hl] at h
      have hlb : (lo.toList == a0_0.toList) = true := beq_iff_eq.mpr hl
      clear hl
      cases hee : (e1 && e2 && e3) with
      | false =>
        rw [if_neg (by rw [hee]; exact Bool.false_ne_true)] at h
        simp only [Option.some.injEq] at h
        subst h
        revert he1 he2 he3
        cases e1 <;> cases e2 <;> cases e3 <;> first | exact absurd hee (by decide) | intro he1 he2 he3
        all_goals clear hee
        all_goals
          go_enter Try.func67, Try.ntmps67
          go_wp2_with fail
          have hb0 : ((w.alloc (.cells #[.string a0_0, .int .i64 a0_1, .int .i64 a0_2, .slice A0_3 l0_3.length c0_3, .int .i64 a0_4] 27)).alloc (.cells #[.string a0_0, .int .i64 a0_1, .int .i64 a0_2] 23)).heap[w.heap.size]? = some (.cells #[.string a0_0, .int .i64 a0_1, .int .i64 a0_2, .slice A0_3 l0_3.length c0_3, .int .i64 a0_4] 27 (0, 0)) := blk_alloc (heap_alloc_new _ _) _
          have hb1 : ((w.alloc (.cells #[.string a0_0, .int .i64 a0_1, .int .i64 a0_2, .slice A0_3 l0_3.length c0_3, .int .i64 a0_4] 27)).alloc (.cells #[.string a0_0, .int .i64 a0_1, .int .i64 a0_2] 23)).heap[w.heap.size + 1]? = some (.cells #[.string a0_0, .int .i64 a0_1, .int .i64 a0_2] 23 (0, 0)) := by
            have := heap_alloc_new (w.alloc (.cells #[.string a0_0, .int .i64 a0_1, .int .i64 a0_2, .slice A0_3 l0_3.length c0_3, .int .i64 a0_4] 27)) (.cells #[.string a0_0, .int .i64 a0_1, .int .i64 a0_2] 23)
            simpa using this
          have hW0 : Below w.heap.size w ((w.alloc (.cells #[.string a0_0, .int .i64 a0_1, .int .i64 a0_2, .slice A0_3 l0_3.length c0_3, .int .i64 a0_4] 27)).alloc (.cells #[.string a0_0, .int .i64 a0_1, .int .i64 a0_2] 23)) := below_alloc (below_alloc (Below.refl _ _) _) _
          generalize ((w.alloc (.cells #[.string a0_0, .int .i64 a0_1, .int .i64 a0_2, .slice A0_3 l0_3.length c0_3, .int .i64 a0_4] 27)).alloc (.cells #[.string a0_0, .int .i64 a0_1, .int .i64 a0_2] 23)) = w1 at hb0 hb1 hW0 ⊢
          have z0 := cell_regrown ((blk_cell hb1 0).trans rfl)
          have z1 := cell_regrown ((blk_cell hb1 1).trans rfl)
          have z2 := cell_regrown ((blk_cell hb1 2).trans rfl)
          have z3 := cell_regrown ((blk_cell hb0 4).trans rfl)
          refine wp_region_quiet_below (by kernel_rfl) (by kernel_rfl) ?_
          repeat (go_big_quiet_step (first
            | (go_at_call 46; exact Calls.regrown_of (name_Check.calls _ _ _ _ HK.out))
            | (go_at_call 47; exact Calls.regrown_of (name_Low.calls _ _ _ _ HL.out))
            | (go_at_call 68; exact Calls.regrown_of ((group_in.calls _ _ _ _ (group_in.inR _ _)).mono fun _ _ ⟨he, hd⟩ => ⟨he, hd.below⟩))))
          refine wpQuiet_nil ?_
          intro w2 hw'
          have hB : Below w1.heap.size w1 w2 := by
            obtain ⟨p, rfl⟩ := hw'
            exact below_regrown _ _ _
          clear z0 z1 z2 z3 hw'
          go_wp2
          go_ret
          exact ⟨rfl, below_then hW0 hW0.size hB⟩
      | true =>
        rw [if_pos hee] at h
        simp only [Bool.and_eq_true] at hee
        obtain ⟨⟨rfl, rfl⟩, rfl⟩ := hee
        go_enter Try.func67, Try.ntmps67
        go_wp2_with fail
        have hb0 : ((w.alloc (.cells #[.string a0_0, .int .i64 a0_1, .int .i64 a0_2, .slice A0_3 l0_3.length c0_3, .int .i64 a0_4] 27)).alloc (.cells #[.string a0_0, .int .i64 a0_1, .int .i64 a0_2] 23)).heap[w.heap.size]? = some (.cells #[.string a0_0, .int .i64 a0_1, .int .i64 a0_2, .slice A0_3 l0_3.length c0_3, .int .i64 a0_4] 27 (0, 0)) := blk_alloc (heap_alloc_new _ _) _
        have hb1 : ((w.alloc (.cells #[.string a0_0, .int .i64 a0_1, .int .i64 a0_2, .slice A0_3 l0_3.length c0_3, .int .i64 a0_4] 27)).alloc (.cells #[.string a0_0, .int .i64 a0_1, .int .i64 a0_2] 23)).heap[w.heap.size + 1]? = some (.cells #[.string a0_0, .int .i64 a0_1, .int .i64 a0_2] 23 (0, 0)) := by
          have := heap_alloc_new (w.alloc (.cells #[.string a0_0, .int .i64 a0_1, .int .i64 a0_2, .slice A0_3 l0_3.length c0_3, .int .i64 a0_4] 27)) (.cells #[.string a0_0, .int .i64 a0_1, .int .i64 a0_2] 23)
          simpa using this
        have hW0 : Below w.heap.size w ((w.alloc (.cells #[.string a0_0, .int .i64 a0_1, .int .i64 a0_2, .slice A0_3 l0_3.length c0_3, .int .i64 a0_4] 27)).alloc (.cells #[.string a0_0, .int .i64 a0_1, .int .i64 a0_2] 23)) := below_alloc (below_alloc (Below.refl _ _) _) _
        generalize ((w.alloc (.cells #[.string a0_0, .int .i64 a0_1, .int .i64 a0_2, .slice A0_3 l0_3.length c0_3, .int .i64 a0_4] 27)).alloc (.cells #[.string a0_0, .int .i64 a0_1, .int .i64 a0_2] 23)) = w1 at hb0 hb1 hW0 ⊢
        have z0 := cell_regrown ((blk_cell hb1 0).trans rfl)
        have z1 := cell_regrown ((blk_cell hb1 1).trans rfl)
        have z2 := cell_regrown ((blk_cell hb1 2).trans rfl)
        have z3 := cell_regrown ((blk_cell hb0 4).trans rfl)
        refine wp_region_quiet_below (by kernel_rfl) (by kernel_rfl) ?_
        repeat (go_big_quiet_step (first
          | (go_at_call 46; exact Calls.regrown_of (name_Check.calls _ _ _ _ HK.out))
          | (go_at_call 47; exact Calls.regrown_of (name_Low.calls _ _ _ _ HL.out))
          | (go_at_call 68; exact Calls.regrown_of ((group_in.calls _ _ _ _ (group_in.inR _ _)).mono fun _ _ ⟨he, hd⟩ => ⟨he, hd.below⟩))))
        refine wpQuiet_nil ?_
        intro w2 hw'
        have hB : Below w1.heap.size w1 w2 := by
          obtain ⟨p, rfl⟩ := hw'
          exact below_regrown _ _ _
        clear z0 z1 z2 z3 hw'
        have HB0 := Aside0.mk (blk_below hb0 hB)
        have HB1 := Aside0.mk (blk_below hb1 hB)
        have HW := Aside0.mk (below_then hW0 hW0.size hB)
        clear hb0 hb1 hW0 HK HL he1 he2 he3 hlb hB
        replace h := Option.bind_eq_some_iff.mp h
        obtain ⟨b, hb, h⟩ := h
        have HF := Aside0.mk hb
        have HR := Aside0.mk (Option.some.inj h).symm
        clear hb h
        have z3 := (blk_cell HB0.out 3).trans rfl
        go_wp2_with fail
        clear z3
        go_loopg [41] l0_3.length (fun kq v41 W => ∃ i : Nat, v41 = .int .i64 i ∧ Aside0 (i + kq = l0_3.length) ∧ Aside0 (group_Check.l0 k a0_1 (l0_3.take i) (l0_3.drop i) = some b) ∧ Aside0 (W.heap[w.heap.size]? = some (.cells #[.string a0_0, .int .i64 a0_1, .int .i64 a0_2, .slice A0_3 l0_3.length c0_3, .int .i64 a0_4] 27 (0, 0))) ∧ Aside0 (W.heap[w.heap.size + 1]? = some (.cells #[.string a0_0, .int .i64 a0_1, .int .i64 a0_2] 23 (0, 0))) ∧ Aside0 (Below w.heap.size w W))
        case atStart => exact ⟨0, rfl, ⟨Nat.zero_add _⟩, HF, HB0, HB1, HW⟩
        case round =>
          obtain ⟨i, rfl, HI, HA, HB0, HB1, HW⟩ := hrel
          clear HF
          by_cases hlt : i < l0_3.length
          · obtain ⟨ad, rfl, hx⟩ := Kd.at_string (Kd.C_below HR0.out HW.out) (i : Int) (Int.natCast_nonneg i) (by omega)
            have h := HA.out
            clear HA
            rw [List.drop_eq_getElem_cons hlt] at h
            have hrd : l0_3[i] = rdOf ByteArray.empty l0_3 (i : Int) := by
              unfold rdOf
              rw [Int.toNat_natCast, List.getD_eq_getElem?_getD, List.getElem?_eq_getElem hlt]; rfl
            rw [hrd] at h
            unfold group_Check.l0 at h
            replace h := Option.bind_eq_some_iff.mp h
            obtain ⟨e, he, h⟩ := h
            have HE := Aside0.mk he
            have hlt1 : ((i : Int) < (l0_3.length : Int)) = True := eq_true (by omega)
            have hi0 : (0 ≤ (i : Int)) = True := eq_true (Int.natCast_nonneg i)
            clear he
            have HRD : Aside0 (l0_3.take (i + 1) = l0_3.take i ++ [rdOf ByteArray.empty l0_3 (i : Int)]) := ⟨by rw [← hrd, List.take_succ_eq_append_getElem hlt]⟩
            clear hrd
            rw [Int.toNat_natCast] at hx
            have HSL : Aside0 (Kd.C Kd.string w (some ad) (l0_3.take i).length (l0_3.take i)) := ⟨Kd.C_take HR0.out (Nat.le_of_lt hlt)⟩
            have HLT := Aside0.mk hlt
            clear hlt
            cases e with
            | false =>
              simp only [Bool.false_eq_true, if_false, Option.some.injEq] at h
              subst h
              have z1 := (blk_cell HB1.out 1).trans rfl
              go_wp2_with fail
              go_at_call 80
              refine (data_Check.calls _ _ _ _ _ HE.out).mono ?_
              rintro _ w3 ⟨rfl, hb3⟩
              have HB0' := Aside0.mk (blk_below HB0.out hb3)
              have HB1' := Aside0.mk (blk_below HB1.out hb3)
              have HW' := Aside0.mk (below_then HW.out HW.out.size hb3)
              clear hb3 z1 HB0 HB1 HW
              have HB0 := HB0'
              have HB1 := HB1'
              have HW := HW'
              clear HB0' HB1' HW'
              have z1 := (blk_cell HB1.out 1).trans rfl
              have z3 := (blk_cell HB0.out 3).trans rfl
              go_wp2
              go_ret
              exact ⟨by rw [HR.out]; rfl, HW.out⟩
            | true =>
              rw [if_pos rfl] at h
              replace h := Option.bind_eq_some_iff.mp h
              obtain ⟨lo2, hlo2, h⟩ := h
              have HLO := Aside0.mk hlo2
              clear hlo2
              by_cases hl : lo2.toList = (rdOf ByteArray.empty l0_3 (i : Int)).toList
              · rw [if_pos hl] at h
                have hlb : (lo2.toList == (rdOf ByteArray.empty l0_3 (i : Int)).toList) = true := beq_iff_eq.mpr hl
                clear hl
                replace h := Option.bind_eq_some_iff.mp h
                obtain ⟨m, hm, h⟩ := h
                have HM := Aside0.mk hm
                clear hm
                have hi1 : ((i : Int) ≤ (c0_3 : Int)) = True := eq_true (by have := HC0.out; have := HLT.out; omega)
                cases m with
                | true =>
                  rw [if_pos rfl] at h
                  simp only [Option.some.injEq] at h
                  subst h
                  have z1 := (blk_cell HB1.out 1).trans rfl
                  go_wp2_with fail
                  go_at_call 80
                  refine (data_Check.calls _ _ _ _ _ HE.out).mono ?_
                  rintro _ w3 ⟨rfl, hb3⟩
                  have HB0' := Aside0.mk (blk_below HB0.out hb3)
                  have HB1' := Aside0.mk (blk_below HB1.out hb3)
                  have HW' := Aside0.mk (below_then HW.out HW.out.size hb3)
                  clear hb3 z1 HB0 HB1 HW
                  have HB0 := HB0'
                  have HB1 := HB1'
                  have HW := HW'
                  clear HB0' HB1' HW'
                  have z1 := (blk_cell HB1.out 1).trans rfl
                  have z3 := (blk_cell HB0.out 3).trans rfl
                  go_wp2_with fail
                  go_at_call 81
                  refine (data_Low.calls _ _ _ _ _ HLO.out).mono ?_
                  rintro _ w3 ⟨rfl, hb3⟩
                  have HB0' := Aside0.mk (blk_below HB0.out hb3)
                  have HB1' := Aside0.mk (blk_below HB1.out hb3)
                  have HW' := Aside0.mk (below_then HW.out HW.out.size hb3)
                  clear hb3 z1 HB0 HB1 HW
                  have HB0 := HB0'
                  have HB1 := HB1'
                  have HW := HW'
                  clear HB0' HB1' HW'
                  have z1 := (blk_cell HB1.out 1).trans rfl
                  have z3 := (blk_cell HB0.out 3).trans rfl
                  go_wp2_with fail
                  go_at_call 82
                  refine (calls_of_args (args' := #[.slice (some ad) (l0_3.take i).length c0_3, .string (rdOf ByteArray.empty l0_3 (i : Int))]) (by simp [List.length_take, Nat.min_eq_left (Nat.le_of_lt HLT.out)]) ?_)
                  refine (slices_Contains_string_string.calls _ _ _ _ _ _ _ (Kd.C_below HSL.out HW.out) (by have := HC0.out; have := HLT.out; simp only [List.length_take]; omega) HM.out).mono ?_
                  rintro _ w3 ⟨rfl, m3, rfl⟩
                  go_wp2
                  go_ret
                  exact ⟨by rw [HR.out]; rfl, pw_below_drewN HW.out _⟩
                | false =>
                  rw [if_neg Bool.false_ne_true] at h
                  have HN := Aside0.mk h
                  clear h
                  have z1 := (blk_cell HB1.out 1).trans rfl
                  go_wp2_with fail
                  go_at_call 80
                  refine (data_Check.calls _ _ _ _ _ HE.out).mono ?_
                  rintro _ w3 ⟨rfl, hb3⟩
                  have HB0' := Aside0.mk (blk_below HB0.out hb3)
                  have HB1' := Aside0.mk (blk_below HB1.out hb3)
                  have HW' := Aside0.mk (below_then HW.out HW.out.size hb3)
                  clear hb3 z1 HB0 HB1 HW
                  have HB0 := HB0'
                  have HB1 := HB1'
                  have HW := HW'
                  clear HB0' HB1' HW'
                  have z1 := (blk_cell HB1.out 1).trans rfl
                  have z3 := (blk_cell HB0.out 3).trans rfl
                  go_wp2_with fail
                  go_at_call 81
                  refine (data_Low.calls _ _ _ _ _ HLO.out).mono ?_
                  rintro _ w3 ⟨rfl, hb3⟩
                  have HB0' := Aside0.mk (blk_below HB0.out hb3)
                  have HB1' := Aside0.mk (blk_below HB1.out hb3)
                  have HW' := Aside0.mk (below_then HW.out HW.out.size hb3)
                  clear hb3 z1 HB0 HB1 HW
                  have HB0 := HB0'
                  have HB1 := HB1'
                  have HW := HW'
                  clear HB0' HB1' HW'
                  have z1 := (blk_cell HB1.out 1).trans rfl
                  have z3 := (blk_cell HB0.out 3).trans rfl
                  go_wp2_with fail
                  go_at_call 82
                  refine (calls_of_args (args' := #[.slice (some ad) (l0_3.take i).length c0_3, .string (rdOf ByteArray.empty l0_3 (i : Int))]) (by simp [List.length_take, Nat.min_eq_left (Nat.le_of_lt HLT.out)]) ?_)
                  refine (slices_Contains_string_string.calls _ _ _ _ _ _ _ (Kd.C_below HSL.out HW.out) (by have := HC0.out; have := HLT.out; simp only [List.length_take]; omega) HM.out).mono ?_
                  rintro _ w3 ⟨rfl, m3, rfl⟩
                  go_wp2
                  cases gk with
                  | zero => exact absurd HI.out (by have := HLT.out; omega)
                  | succ k1 =>
                    go_roundg k1
                    case measure => omega
                    case rel =>
                      refine ⟨i + 1, congrArg (Value.int .i64) (by have := HI.out; have := HBIG.out; unfold wrap64; omega), ⟨by have := HI.out; omega⟩, ⟨?_⟩, ⟨blk_drewN HB0.out _⟩, ⟨blk_drewN HB1.out _⟩, ⟨pw_below_drewN HW.out _⟩⟩
                      rw [HRD.out]
                      exact HN.out
              · rw [if_neg hl] at h
                simp only [Option.some.injEq] at h
                subst h
                have hlb : (lo2.toList == (rdOf ByteArray.empty l0_3 (i : Int)).toList) = false := beq_eq_false_iff_ne.mpr hl
                clear hl
                have z1 := (blk_cell HB1.out 1).trans rfl
                go_wp2_with fail
                go_at_call 80
                refine (data_Check.calls _ _ _ _ _ HE.out).mono ?_
                rintro _ w3 ⟨rfl, hb3⟩
                have HB0' := Aside0.mk (blk_below HB0.out hb3)
                have HB1' := Aside0.mk (blk_below HB1.out hb3)
                have HW' := Aside0.mk (below_then HW.out HW.out.size hb3)
                clear hb3 z1 HB0 HB1 HW
                have HB0 := HB0'
                have HB1 := HB1'
                have HW := HW'
                clear HB0' HB1' HW'
                have z1 := (blk_cell HB1.out 1).trans rfl
                have z3 := (blk_cell HB0.out 3).trans rfl
                go_wp2_with fail
                go_at_call 81
                refine (data_Low.calls _ _ _ _ _ HLO.out).mono ?_
                rintro _ w3 ⟨rfl, hb3⟩
                have HB0' := Aside0.mk (blk_below HB0.out hb3)
                have HB1' := Aside0.mk (blk_below HB1.out hb3)
                have HW' := Aside0.mk (below_then HW.out HW.out.size hb3)
                clear hb3 z1 HB0 HB1 HW
                have HB0 := HB0'
                have HB1 := HB1'
                have HW := HW'
                clear HB0' HB1' HW'
                have z1 := (blk_cell HB1.out 1).trans rfl
                have z3 := (blk_cell HB0.out 3).trans rfl
                go_wp2
                go_ret
                exact ⟨by rw [HR.out]; rfl, HW.out⟩
          · obtain rfl : i = l0_3.length := by have := HI.out; omega
            have h := HA.out
            rw [List.drop_length] at h
            have hb : b = true := by
              unfold group_Check.l0 at h
              exact (Option.some.inj h).symm
            subst hb
            have z3 := (blk_cell HB0.out 3).trans rfl
            clear h HA hlt
            go_wp2_with fail
            go_ret
            exact ⟨by rw [HR.out]; simp, HW.out⟩
    · rw [if_neg hl] at h
      simp only [Option.some.injEq] at h
      subst h
      have hlb : (lo.toList == a0_0.toList) = false := beq_eq_false_iff_ne.mpr hl
      clear hl
      go_enter Try.func67, Try.ntmps67
      go_wp2_with fail
      have hb0 : ((w.alloc (.cells #[.string a0_0, .int .i64 a0_1, .int .i64 a0_2, .slice A0_3 l0_3.length c0_3, .int .i64 a0_4] 27)).alloc (.cells #[.string a0_0, .int .i64 a0_1, .int .i64 a0_2] 23)).heap[w.heap.size]? = some (.cells #[.string a0_0, .int .i64 a0_1, .int .i64 a0_2, .slice A0_3 l0_3.length c0_3, .int .i64 a0_4] 27 (0, 0)) := blk_alloc (heap_alloc_new _ _) _
      have hb1 : ((w.alloc (.cells #[.string a0_0, .int .i64 a0_1, .int .i64 a0_2, .slice A0_3 l0_3.length c0_3, .int .i64 a0_4] 27)).alloc (.cells #[.string a0_0, .int .i64 a0_1, .int .i64 a0_2] 23)).heap[w.heap.size + 1]? = some (.cells #[.string a0_0, .int .i64 a0_1, .int .i64 a0_2] 23 (0, 0)) := by
        have := heap_alloc_new (w.alloc (.cells #[.string a0_0, .int .i64 a0_1, .int .i64 a0_2, .slice A0_3 l0_3.length c0_3, .int .i64 a0_4] 27)) (.cells #[.string a0_0, .int .i64 a0_1, .int .i64 a0_2] 23)
        simpa using this
      have hW0 : Below w.heap.size w ((w.alloc (.cells #[.string a0_0, .int .i64 a0_1, .int .i64 a0_2, .slice A0_3 l0_3.length c0_3, .int .i64 a0_4] 27)).alloc (.cells #[.string a0_0, .int .i64 a0_1, .int .i64 a0_2] 23)) := below_alloc (below_alloc (Below.refl _ _) _) _
      generalize ((w.alloc (.cells #[.string a0_0, .int .i64 a0_1, .int .i64 a0_2, .slice A0_3 l0_3.length c0_3, .int .i64 a0_4] 27)).alloc (.cells #[.string a0_0, .int .i64 a0_1, .int .i64 a0_2] 23)) = w1 at hb0 hb1 hW0 ⊢
      have z0 := cell_regrown ((blk_cell hb1 0).trans rfl)
      have z1 := cell_regrown ((blk_cell hb1 1).trans rfl)
      have z2 := cell_regrown ((blk_cell hb1 2).trans rfl)
      have z3 := cell_regrown ((blk_cell hb0 4).trans rfl)
      refine wp_region_quiet_below (by kernel_rfl) (by kernel_rfl) ?_
      repeat (go_big_quiet_step (first
        | (go_at_call 46; exact Calls.regrown_of (name_Check.calls _ _ _ _ HK.out))
        | (go_at_call 47; exact Calls.regrown_of (name_Low.calls _ _ _ _ HL.out))
        | (go_at_call 68; exact Calls.regrown_of ((group_in.calls _ _ _ _ (group_in.inR _ _)).mono fun _ _ ⟨he, hd⟩ => ⟨he, hd.below⟩))))
      refine wpQuiet_nil ?_
      intro w2 hw'
      have hB : Below w1.heap.size w1 w2 := by
        obtain ⟨p, rfl⟩ := hw'
        exact below_regrown _ _ _
      clear z0 z1 z2 z3 hw'
      go_wp2
      go_ret
      exact ⟨rfl, below_then hW0 hW0.size hB⟩
end Go.Proofs.Ytedjodnaalconaa.P
end
section
namespace Go.Proofs.Ytedjodnaalconaa.P
open Go.RowKit Go.Proofs.YtedjodnaalconaaW.PrintWords Go.Proofs.YtedjodnaalconaaW.PrintLast Go.Proofs.YtedjodnaalconaaW.PrintMore
attribute [local go_sem] max2_int min2_int max_two min_two max_three min_three max_four min_four
set_option linter.unusedVariables false
set_option linter.unusedSimpArgs false
set_option maxHeartbeats 4000000 in
set_option maxRecDepth 100000 in
theorem slices_Grow.calls0 (n : Int) (w : World) (h0 : 0 ≤ n) (h1 : n < 100000000) :
  Calls Try.prog 83 #[.slice none 0 0, .int .i64 n] w fun e w' => ∃ v, e = .returned v ∧ Kd.R Kd.string 9 w' w.heap.size (fun _ => True) v ([] : List ByteArray) ∧ Below w.heap.size w w' := by
 have c0 : decide (n < 0) = false := decide_eq_false (by omega)
 have N0 := Aside0.mk h0
 have N1 := Aside0.mk h1
 by_cases hp : 0 < n
 ·have c1 : decide (0 < n) = true := decide_eq_true hp
  have hw : wrap64 n = n := by unfold wrap64; omega
  have g1 : (281474976710656 < Builtin.nextslicecap n.toNat 0 * Try.t9.bytes) → False := (by
   have := growslice_fits (need := n.toNat) (old := 0) (bytes := 16) (by omega) (by omega)
   show ¬ 281474976710656 < Builtin.nextslicecap n.toNat 0 * 16
   omega)
  have g2 : ¬ (n < 0) := by omega
  have g3 : ¬ (281474976710656 < n * (Try.t9.bytes : Int)) := by show ¬ (281474976710656 < n * (16 : Int)); omega
  have g4 : ¬ (n ≤ 0) := by omega
  have g5 : ¬ (9223372036854775807 < max n 0) := by omega
  clear hp h0 h1
  go_enter Try.func83, Try.ntmps83
  have hcap := grownCap_ge w n.toNat 0 9
  have hmax := grownCap_le_maxLen w n.toNat 0 9 (by have := N1.out; unfold maxLen; omega)
  unfold grownCap at hcap hmax
  generalize hC : (Question.appendCap n.toNat 0 9).cut (w.tape w.drawn (Question.appendCap n.toNat 0 9)) = C at hcap hmax
  have HCAP := Aside0.mk hcap
  have HMAX := Aside0.mk hmax
  clear hcap hmax
  go_wp2_with fail
  all_goals try (first | exact absurd (by assumption) g2 | exact absurd (by assumption) g3 | exact absurd (by assumption) g4 | exact absurd (by assumption) g5 | exact absurd (by assumption) g1)
  go_ret
  refine ⟨_, rfl, Kd.R_of_own (h1 := fun _ => rfl) ⟨rfl, .inr ⟨w.heap.size, C, _, rfl, Nat.le_refl _, heap_alloc_new w _, Nat.zero_le _, HMAX.out, ?_, rfl⟩⟩ (fun _ _ => trivial), below_drew (below_alloc (Below.refl _ _) _)⟩
  have := HCAP.out
  simp only [Array.size_append, size_zeroCells]
  simp
  omega
 ·have c1 : decide (0 < n) = false := decide_eq_false hp
  obtain rfl : n = 0 := by omega
  clear hp h0 h1
  go_enter Try.func83, Try.ntmps83
  go_wp2
  go_ret
  exact ⟨_, rfl, Kd.R_nil _ _ _ _ _, Below.refl _ _⟩
theorem own_apart {W : World} {v v1 : Value} {g : Nat} (hg : g < W.heap.size) (hv : v.ownBlock ≠ some g) (hat : v1.ownBlock = v.ownBlock ∨ ∃ b, v1.ownBlock = some b ∧ W.heap.size ≤ b) : v1.ownBlock ≠ some g := by
 rcases hat with h | ⟨b, h, hb⟩
 ·rw [h]; exact hv
 ·rw [h]; intro e; injection e with e; omega
set_option maxHeartbeats 4000000 in
set_option maxRecDepth 100000 in
theorem slices_Concat.calls2 (g : Nat) (A1 A2 : Option Addr) (c1 c2 : Nat) (l1 l2 : List ByteArray) (w : World) (hg : w.heap[g]? = some (.cells #[.slice A1 l1.length c1, .slice A2 l2.length c2] 25 (0, 0))) (h1 : Kd.C Kd.string w A1 l1.length l1) (h2 : Kd.C Kd.string w A2 l2.length l2) (hl : l1.length + l2.length < 100000000) :
  Calls Try.prog 69 #[.slice (some ⟨g, 0, none⟩) 2 2] w fun e w' => ∃ v, e = .returned v ∧ Kd.R Kd.string 9 w' w.heap.size (fun _ => True) v (l1 ++ l2) ∧ Below w.heap.size w w' := by
 have HG := Aside0.mk hg
 have H1 := Aside0.mk h1
 have H2 := Aside0.mk h2
 have HL := Aside0.mk hl
 have z0 := (blk_cell hg 0).trans rfl
 have z1 := (blk_cell hg 1).trans rfl
 have hgw := blk_lt hg
 have HGW := Aside0.mk hgw
 clear hg h1 h2 hl hgw
 go_enter Try.func69, Try.ntmps69
 go_wp2_with fail
 go_loopg [3, 11] 2 (fun kq v3 v11 W => ∃ i : Nat, v11 = .int .i64 i ∧ v3 = .int .i64 ((if i = 0 then 0 else if i = 1 then l1.length else l1.length + l2.length : Nat) : Int) ∧ w = W ∧ i + kq = 2)
 case atStart => exact ⟨0, rfl, rfl, rfl, rfl⟩
 case round =>
  obtain ⟨i, rfl, rfl, rfl, hi⟩ := hrel
  have hi2 : i = 0 ∨ i = 1 ∨ i = 2 := by omega
  rcases hi2 with rfl | rfl | rfl
  ·have e1 : decide ((l1.length : Int) < 0) = false := decide_eq_false (by omega)
   have e2 : wrap64 (l1.length : Int) = l1.length := by have := HL.out; unfold wrap64; omega
   go_wp2_with fail
   go_roundg 1
   case measure => omega
   case rel => exact ⟨1, rfl, by simpa using e2, rfl, rfl⟩
  ·have e1 : decide ((l1.length : Int) + (l2.length : Int) < 0) = false := decide_eq_false (by omega)
   have e2 : wrap64 ((l1.length : Int) + (l2.length : Int)) = (l1.length : Int) + (l2.length : Int) := by have := HL.out; unfold wrap64; omega
   go_wp2_with fail
   go_roundg 0
   case measure => omega
   case rel => exact ⟨2, rfl, by simpa using e2, rfl, rfl⟩
  ·go_wp2_with fail
   go_at_call 83
   refine (calls_of_args (args' := #[.slice none 0 0, .int .i64 ((l1.length + l2.length : Nat) : Int)]) (by simp) ?_)
   refine (slices_Grow.calls0 _ _ (by omega) (by have := HL.out; omega)).mono ?_
   rintro _ w2 ⟨v0, rfl, ho, hb⟩
   have HO := Aside0.mk ho
   have HB := Aside0.mk hb
   clear z0 z1 ho hb
   go_wp2_with fail
   go_loopg [6, 27] 2 (fun kq v v27 W => ∃ i : Nat, v27 = .int .i64 i ∧ Aside0 (Kd.R Kd.string 9 W w.heap.size (fun _ => True) v (if i = 0 then [] else if i = 1 then l1 else l1 ++ l2)) ∧ Aside0 (Below w.heap.size w W) ∧ i + kq = 2)
   case atStart => exact ⟨0, rfl, HO, HB, rfl⟩
   case round =>
    obtain ⟨i, rfl, HO, HB, hi⟩ := hrel
    have hi2 : i = 0 ∨ i = 1 ∨ i = 2 := by omega
    have z0 := (blk_cell (blk_below HG.out HB.out) 0).trans rfl
    have z1 := (blk_cell (blk_below HG.out HB.out) 1).trans rfl
    rcases hi2 with rfl | rfl | rfl
    ·simp only [if_true] at HO
     go_wp2_with (first | ((with_reducible refine gate_builtin (b := .append) (xs := #[.tmp 31, .tmp 32]) rfl ?_); at_builtin; refine Kd.R_append_rows Kd.string (w0 := w) w.heap.size rfl (.tmp 31) (.tmp 32) 25 9 (.string ⟨#[]⟩) 16 rfl Try.underlying25 info9 rfl (by decide) (by omega) u6 [] l1 _ _ _ (fun _ => True) (fun _ => False) rfl rfl ?aO ?aR (fun _ _ h => h) (fun _ h => h.elim) ?aF ?aB ?aS ?aL ?_; (case aO => exact HO.out); (case aR => exact Kd.C_below H1.out HB.out); (case aF => exact fun _ _ => trivial); (case aB => exact HB.out); (case aS => exact HB.out.size); (case aL => have := HL.out; simp; omega); intro v1 w1 ho hb hg_ hat; have HO1 := Aside0.mk ho; have HB1 := Aside0.mk hb; clear ho hb hg_ hat))
     go_roundg 1
     case measure => omega
     case rel => exact ⟨1, rfl, HO1, HB1, rfl⟩
    ·simp only [Nat.one_ne_zero, if_true, if_false] at HO
     go_wp2_with (first | ((with_reducible refine gate_builtin (b := .append) (xs := #[.tmp 31, .tmp 32]) rfl ?_); at_builtin; refine Kd.R_append_rows Kd.string (w0 := w) w.heap.size rfl (.tmp 31) (.tmp 32) 25 9 (.string ⟨#[]⟩) 16 rfl Try.underlying25 info9 rfl (by decide) (by omega) u6 l1 l2 _ _ _ (fun _ => True) (fun _ => False) rfl rfl ?aO ?aR (fun _ _ h => h) (fun _ h => h.elim) ?aF ?aB ?aS ?aL ?_; (case aO => exact HO.out); (case aR => exact Kd.C_below H2.out HB.out); (case aF => exact fun _ _ => trivial); (case aB => exact HB.out); (case aS => exact HB.out.size); (case aL => have := HL.out; simp; omega); intro v1 w1 ho hb hg_ hat; have HO1 := Aside0.mk ho; have HB1 := Aside0.mk hb; clear ho hb hg_ hat))
     go_roundg 0
     case measure => omega
     case rel => exact ⟨2, rfl, HO1, HB1, rfl⟩
    ·clear z0 z1
     simp only [show (2 : Nat) ≠ 0 from by decide, show (2 : Nat) ≠ 1 from by decide, if_false] at HO
     go_wp2_with fail
     go_ret
     exact ⟨_, rfl, HO.out, HB.out⟩
def group_Flat.l0 (n : ByteArray) (t c ttl : Int) (ds : List ByteArray) : List S65 := ds.map fun d => (⟨n, t, c, ttl, d⟩ : S65)
def turned (m : Nat) (l : List ByteArray) : List ByteArray := l.drop m ++ l.take m
def group_Flat.f (k : Nat) (a0_0 : ByteArray) (a0_1 : Int) (a0_2 : Int) (l0_3 : List ByteArray) (a0_4 : Int) (a1 : Int) (a2 : Int) : Option (List (S65)) :=
 if 100000000 ≤ l0_3.length then none else (group_Check.f k a0_0 a0_1 a0_2 l0_3 a0_4).bind fun t => if t = true then (if inR a1 2147483647 = true then (if a2 < 0 then some [] else
  (if l0_3.length = 0 then none else some (group_Flat.l0 a0_0 a0_1 a0_2 a1 (turned (Int.tmod a2 (l0_3.length : Int)).toNat l0_3)))) else some []) else some []
theorem group_Flat.mono : ∀ a0 a1 a2 a3 a4 a5 a6 k, LeO (group_Flat.f k a0 a1 a2 a3 a4 a5 a6) (group_Flat.f (k + 1) a0 a1 a2 a3 a4 a5 a6) := by
 intro a0 a1 a2 a3 a4 a5 a6 k
 unfold group_Flat.f
 exact LeO.ite (LeO.refl _) (LeO.bind (group_Check.mono _ _ _ _ _ _) (fun _ => LeO.refl _))
theorem blk_over {α : Type} {d : Kd α} {W w1 : World} {e g t base : Nat} {cs : Array Value} {ok : Nat → Prop} {v : Value} {ys : List α} (hb : W.heap[g]? = some (.cells cs t (0, 0))) (hv : d.R e W base ok v ys) (ht : t ≠ e) (hg : W.grownBy w1 v.ownBlock) : w1.heap[g]? = some (.cells cs t (0, 0)) :=
 blk_grown hb hg fun h => by
  obtain ⟨cells, hc⟩ := Kd.R_typed hv g h.symm
  rw [hb] at hc
  injection hc with hc
  injection hc with _ h2 _
  exact ht h2
set_option maxHeartbeats 4000000 in
set_option maxRecDepth 100000 in
theorem group_Flat.calls (k : Nat) (a0_0 : ByteArray) (a0_1 : Int) (a0_2 : Int) (A0_3 : Option Addr) (c0_3 : Nat) (l0_3 : List ByteArray) (a0_4 : Int) (a1 : Int) (a2 : Int) (r : List (S65)) (w : World) (hr0_3 : Kd.C Kd.string w A0_3 l0_3.length l0_3) (hc0_3 : l0_3.length ≤ c0_3) (h : group_Flat.f k a0_0 a0_1 a0_2 l0_3 a0_4 a1 a2 = some r) :
  Calls Try.prog 48 #[.agg #[.string a0_0, .int .i64 a0_1, .int .i64 a0_2, .slice A0_3 l0_3.length c0_3, .int .i64 a0_4], .int .i64 a1, .int .i64 a2] w fun e w' => ∃ v0_ : Value, e = .returned (v0_) ∧ Kd.R k65 65 w' w.heap.size (fun _ => True) v0_ r ∧ Below w.heap.size w w' := by
 have hu := Try.underlying27
 have hu2 := Try.underlying23
 have HR0 := Aside0.mk hr0_3
 have HC0 := Aside0.mk hc0_3
 clear hr0_3 hc0_3
 unfold group_Flat.f at h
 by_cases hbig : 100000000 ≤ l0_3.length
 ·rw [if_pos hbig] at h; cases h
 rw [if_neg hbig] at h
 have HBIG := Aside0.mk hbig
 clear hbig
 replace h := Option.bind_eq_some_iff.mp h
 obtain ⟨t, hk, h⟩ := h
 have HK := Aside0.mk hk
 clear hk
 have hb0 : (w.alloc (.cells #[.string a0_0, .int .i64 a0_1, .int .i64 a0_2, .slice A0_3 l0_3.length c0_3, .int .i64 a0_4] 27)).heap[w.heap.size]? = some (.cells #[.string a0_0, .int .i64 a0_1, .int .i64 a0_2, .slice A0_3 l0_3.length c0_3, .int .i64 a0_4] 27 (0, 0)) := heap_alloc_new _ _
 have hW0 : Below w.heap.size w (w.alloc (.cells #[.string a0_0, .int .i64 a0_1, .int .i64 a0_2, .slice A0_3 l0_3.length c0_3, .int .i64 a0_4] 27)) := below_alloc (Below.refl _ _) _
 cases t with
 | false =>
  simp only [Bool.false_eq_true, if_false, Option.some.injEq] at h
  subst h
  go_enter Try.func48, Try.ntmps48
  go_upto_region 1 with (first | fail)
  generalize (w.alloc (.cells #[.string a0_0, .int .i64 a0_1, .int .i64 a0_2, .slice A0_3 l0_3.length c0_3, .int .i64 a0_4] 27)) = w1 at hb0 hW0 ⊢
  have z0 := (blk_cell hb0 0).trans rfl
  have f0 := blk_frozen hb0 0
  have z1 := (blk_cell hb0 1).trans rfl
  have f1 := blk_frozen hb0 1
  have z2 := (blk_cell hb0 2).trans rfl
  have f2 := blk_frozen hb0 2
  have z3 := (blk_cell hb0 3).trans rfl
  have f3 := blk_frozen hb0 3
  have z4 := (blk_cell hb0 4).trans rfl
  have f4 := blk_frozen hb0 4
  go_wp2_with fail
  go_at_call 67
  refine (group_Check.calls _ _ _ _ _ _ _ _ _ _ (Kd.C_below HR0.out hW0) HC0.out HK.out).mono ?_
  rintro _ w2 ⟨rfl, hb2⟩
  have hb0' := blk_below hb0 hb2
  have hW0' := below_then hW0 hW0.size hb2
  clear z0 z1 z2 z3 z4 f0 f1 f2 f3 f4 hb0 hW0 hb2
  go_wp2_with fail
  go_ret
  exact ⟨_, rfl, Kd.R_nil _ _ _ _ _, hW0'⟩
 | true =>
  rw [if_pos rfl] at h
  cases hin : inR a1 2147483647 with
  | false =>
   rw [if_neg (by rw [hin]; exact Bool.false_ne_true)] at h
   simp only [Option.some.injEq] at h
   subst h
   go_enter Try.func48, Try.ntmps48
   go_upto_region 1 with (first | fail)
   generalize (w.alloc (.cells #[.string a0_0, .int .i64 a0_1, .int .i64 a0_2, .slice A0_3 l0_3.length c0_3, .int .i64 a0_4] 27)) = w1 at hb0 hW0 ⊢
   have z0 := (blk_cell hb0 0).trans rfl
   have f0 := blk_frozen hb0 0
   have z1 := (blk_cell hb0 1).trans rfl
   have f1 := blk_frozen hb0 1
   have z2 := (blk_cell hb0 2).trans rfl
   have f2 := blk_frozen hb0 2
   have z3 := (blk_cell hb0 3).trans rfl
   have f3 := blk_frozen hb0 3
   have z4 := (blk_cell hb0 4).trans rfl
   have f4 := blk_frozen hb0 4
   go_wp2_with fail
   go_at_call 67
   refine (group_Check.calls _ _ _ _ _ _ _ _ _ _ (Kd.C_below HR0.out hW0) HC0.out HK.out).mono ?_
   rintro _ w2 ⟨rfl, hb2⟩
   have hb0' := blk_below hb0 hb2
   have hW0' := below_then hW0 hW0.size hb2
   clear z0 z1 z2 z3 z4 f0 f1 f2 f3 f4 hb0 hW0 hb2
   go_wp2_with fail
   go_at_call 68
   refine (group_in.calls _ _ _ _ (group_in.inR _ _)).mono ?_
   rintro _ w3 ⟨rfl, m3, rfl⟩
   go_wp2_with fail
   go_ret
   exact ⟨_, rfl, Kd.R_nil _ _ _ _ _, pw_below_drewN hW0' _⟩
  | true =>
   rw [if_pos hin] at h
   by_cases hn : a2 < 0
   ·rw [if_pos hn] at h
    have hnb : decide (a2 < 0) = true := decide_eq_true hn
    clear hn
    simp only [Option.some.injEq] at h
    subst h
    go_enter Try.func48, Try.ntmps48
    go_upto_region 1 with (first | fail)
    generalize (w.alloc (.cells #[.string a0_0, .int .i64 a0_1, .int .i64 a0_2, .slice A0_3 l0_3.length c0_3, .int .i64 a0_4] 27)) = w1 at hb0 hW0 ⊢
    have z0 := (blk_cell hb0 0).trans rfl
    have f0 := blk_frozen hb0 0
    have z1 := (blk_cell hb0 1).trans rfl
    have f1 := blk_frozen hb0 1
    have z2 := (blk_cell hb0 2).trans rfl
    have f2 := blk_frozen hb0 2
    have z3 := (blk_cell hb0 3).trans rfl
    have f3 := blk_frozen hb0 3
    have z4 := (blk_cell hb0 4).trans rfl
    have f4 := blk_frozen hb0 4
    go_wp2_with fail
    go_at_call 67
    refine (group_Check.calls _ _ _ _ _ _ _ _ _ _ (Kd.C_below HR0.out hW0) HC0.out HK.out).mono ?_
    rintro _ w2 ⟨rfl, hb2⟩
    have hb0' := blk_below hb0 hb2
    have hW0' := below_then hW0 hW0.size hb2
    clear z0 z1 z2 z3 z4 f0 f1 f2 f3 f4 hb0 hW0 hb2
    go_wp2_with fail
    go_at_call 68
    refine (group_in.calls _ _ _ _ (group_in.inR _ _)).mono ?_
    rintro _ w3 ⟨rfl, m3, rfl⟩
    go_wp2_with fail
    go_ret
    exact ⟨_, rfl, Kd.R_nil _ _ _ _ _, pw_below_drewN hW0' _⟩
   ·rw [if_neg hn] at h
    have hnb : decide (a2 < 0) = false := decide_eq_false hn
    by_cases hz : l0_3.length = 0
    ·rw [if_pos hz] at h; cases h
    rw [if_neg hz] at h
    simp only [Option.some.injEq] at h
    subst h
    have hl0 : ((l0_3.length : Int) = 0) = False := eq_false (by omega)
    have hl1 : (l0_3.length = 0) = False := eq_false hz
    have hl2 : (l0_3 = []) = False := eq_false (by rintro rfl; exact hz rfl)
    obtain ⟨m, hm⟩ : ∃ m : Nat, Int.tmod a2 (l0_3.length : Int) = (m : Int) := Int.eq_ofNat_of_zero_le (Int.tmod_nonneg _ (by omega))
    have hml : m < l0_3.length := by
     have := Int.tmod_lt_of_pos a2 (show (0 : Int) < (l0_3.length : Int) by omega)
     omega
    rw [hm, Int.toNat_natCast]
    have HM := Aside0.mk hml
    clear hn hz hml
    go_enter Try.func48, Try.ntmps48
    go_upto_region 1 with (first | fail)
    generalize (w.alloc (.cells #[.string a0_0, .int .i64 a0_1, .int .i64 a0_2, .slice A0_3 l0_3.length c0_3, .int .i64 a0_4] 27)) = w1 at hb0 hW0 ⊢
    have z0 := (blk_cell hb0 0).trans rfl
    have f0 := blk_frozen hb0 0
    have z1 := (blk_cell hb0 1).trans rfl
    have f1 := blk_frozen hb0 1
    have z2 := (blk_cell hb0 2).trans rfl
    have f2 := blk_frozen hb0 2
    have z3 := (blk_cell hb0 3).trans rfl
    have f3 := blk_frozen hb0 3
    have z4 := (blk_cell hb0 4).trans rfl
    have f4 := blk_frozen hb0 4
    go_wp2_with fail
    go_at_call 67
    refine (group_Check.calls _ _ _ _ _ _ _ _ _ _ (Kd.C_below HR0.out hW0) HC0.out HK.out).mono ?_
    rintro _ w2 ⟨rfl, hb2⟩
    have hb0' := blk_below hb0 hb2
    have hW0' := below_then hW0 hW0.size hb2
    clear z0 z1 z2 z3 z4 f0 f1 f2 f3 f4 hb0 hW0 hb2
    go_wp2_with fail
    go_at_call 68
    refine (group_in.calls _ _ _ _ (group_in.inR _ _)).mono ?_
    rintro _ w3 ⟨rfl, m3, rfl⟩
    have hb1 := blk_drewN hb0' m3
    have hW1 := pw_below_drewN hW0' m3
    clear hb0' hW0'
    generalize w2.drewN m3 = w4 at hb1 hW1 ⊢
    have z3 := (blk_cell hb1 3).trans rfl
    have f3 := blk_frozen hb1 3
    have hm0 : (0 ≤ (m : Int)) = True := eq_true (by omega)
    have hmc : ((m : Int) ≤ (c0_3 : Int)) = True := eq_true (by have := HM.out; have := HC0.out; omega)
    have hml : ((m : Int) ≤ (l0_3.length : Int)) = True := eq_true (by have := HM.out; omega)
    go_wp2_with fail
    clear hnb hin hl0 hl1 hl2 hm0 hmc hml
    have z3a := fun o => (blk_cell (blk_alloc (show w4.drew.heap[w.heap.size]? = _ from hb1) o) 3).trans rfl
    have hcm : (c0_3 = m) = False := eq_false (by have := HM.out; have := HC0.out; omega)
    have HCA : Aside0 (Kd.C Kd.string w (A0_3.map (fun x => x.add m)) (l0_3.drop m).length (l0_3.drop m)) := ⟨by
     have := Kd.C_drop (k := Kd.string) HR0.out (Nat.le_of_lt HM.out) HC0.out
     rw [show m * Kd.string.sz = m from Nat.mul_one m, if_neg (of_eq_false hcm)] at this
     exact this⟩
    have HCB : Aside0 (Kd.C Kd.string w A0_3 (l0_3.take m).length (l0_3.take m)) := ⟨Kd.C_take HR0.out (Nat.le_of_lt HM.out)⟩
    have hm0 : (0 ≤ (m : Int)) = True := eq_true (by omega)
    have hmc : ((m : Int) ≤ (c0_3 : Int)) = True := eq_true (by have := HM.out; have := HC0.out; omega)
    have hml : ((m : Int) ≤ (l0_3.length : Int)) = True := eq_true (by have := HM.out; omega)
    have hgo : ((w4.alloc (.cells #[.slice (A0_3.map (fun x => x.add m)) (l0_3.length - m) (c0_3 - m), .slice A0_3 m c0_3] 25)).drew).heap[w4.heap.size]? = some (.cells #[.slice (A0_3.map (fun x => x.add m)) (l0_3.drop m).length (c0_3 - m), .slice A0_3 (l0_3.take m).length c0_3] 25 (0, 0)) := by
     rw [List.length_drop, List.length_take, Nat.min_eq_left (Nat.le_of_lt HM.out)]
     exact heap_alloc_new w4 _
    have hlo : (l0_3.drop m).length + (l0_3.take m).length < 100000000 := by
     have := HBIG.out
     have := HM.out
     rw [List.length_drop, List.length_take]
     omega
    have HGO := Aside0.mk hgo
    have HLO := Aside0.mk hlo
    have HBA : Aside0 (Below w.heap.size w ((w4.alloc (.cells #[.slice (A0_3.map (fun x => x.add m)) (l0_3.length - m) (c0_3 - m), .slice A0_3 m c0_3] 25)).drew)) := ⟨below_drew (below_alloc hW1 _)⟩
    clear hgo hlo
    obtain ⟨ds, hds⟩ : ∃ ds, l0_3.drop m ++ l0_3.take m = ds := ⟨_, rfl⟩
    have HDL : Aside0 (ds.length = l0_3.length) := ⟨by have := HM.out; rw [← hds, List.length_append, List.length_drop, List.length_take]; omega⟩
    have HDS := Aside0.mk hds
    clear hds
    go_region_held3 (fun w' => w'.cell? ⟨w.heap.size, 3, none⟩ = some (.slice A0_3 l0_3.length c0_3)) (first | exact z3 | exact z3a _ | exact z5 | assumption) (first | (go_at_call 69; refine (slices_Concat.calls2 _ _ _ _ _ _ _ _ HGO.out (Kd.C_below HCA.out HBA.out) (Kd.C_below HCB.out HBA.out) HLO.out).mono ?_; rintro _ w5 ⟨v5, rfl, ho5, hb5⟩; rw [HDS.out] at ho5; obtain ⟨A5, c5, rfl⟩ := Kd.R_slice ho5; have HB5 := Aside0.mk (blk_below (blk_drew (blk_alloc hb1 _)) hb5); have HW5 := Aside0.mk (below_then HBA.out HBA.out.size hb5); have HO5 := Aside0.mk (Kd.R_lower ho5 HBA.out.size); have z5 := (blk_cell HB5.out 3).trans rfl; clear ho5 hb5))
    clear z3 f3 z3a HCA HCB hm0 hmc hml hb1 hW1 HK
    go_wp2_with fail
    go_loopg [8, 39] ds.length (fun kq v8 v39 W => ∃ i : Nat, v39 = .int .i64 i ∧ Aside0 (i + kq = ds.length) ∧ Aside0 (Kd.R k65 65 W w.heap.size (fun _ => True) v8 (group_Flat.l0 a0_0 a0_1 a0_2 a1 (ds.take i))) ∧ Aside0 (Kd.R Kd.string 9 W w.heap.size (fun _ => True) (.slice A5 ds.length c5) ds) ∧ Aside0 (W.heap[w.heap.size]? = some (.cells #[.string a0_0, .int .i64 a0_1, .int .i64 a0_2, .slice A0_3 l0_3.length c0_3, .int .i64 a0_4] 27 (0, 0))) ∧ Aside0 (Below w.heap.size w W))
    case atStart => exact ⟨0, rfl, ⟨Nat.zero_add _⟩, ⟨Kd.R_nil _ _ _ _ _⟩, HO5, HB5, HW5⟩
    case round =>
     clear HO5 HB5 HW5
     obtain ⟨i, rfl, HI, HO8, HO5, HB5, HW5⟩ := hrel
     by_cases hlt : i < ds.length
     ·obtain ⟨g, cap, he, _⟩ := Kd.R_form HO5.out (by omega)
      injection he with he1 _ he3
      subst he1
      subst he3
      have hcl := Kd.R_celln ByteArray.empty HO5.out (i : Int) (by omega) (by omega)
      rw [Int.toNat_natCast] at hcl
      obtain ⟨hc1, hf1⟩ := hcl
      have hrd : ds.take (i + 1) = ds.take i ++ [rdOf ByteArray.empty ds (i : Int)] := by
       rw [List.take_succ_eq_append_getElem hlt]
       congr 2
       unfold rdOf
       rw [Int.toNat_natCast, List.getD_eq_getElem?_getD, List.getElem?_eq_getElem hlt]; rfl
      have HRD := Aside0.mk hrd
      have z0 := (blk_cell HB5.out 0).trans rfl
      have z1 := (blk_cell HB5.out 1).trans rfl
      have z2 := (blk_cell HB5.out 2).trans rfl
      have hlt1 : ((i : Int) < (ds.length : Int)) = True := eq_true (by omega)
      have hi0 : (0 ≤ (i : Int)) = True := eq_true (by omega)
      clear hrd hlt
      go_wp2_with (first | ((with_reducible refine gate_builtin (b := .append) (xs := #[.tmp 43, .tmp 56]) rfl ?_); at_builtin; refine Kd.R_append k65 (w0 := w) w.heap.size rfl (.tmp 43) (.tmp 56) 61 65 (.agg #[(.string ⟨#[]⟩), (.int .i64 0), (.int .i64 0), (.int .i64 0), (.string ⟨#[]⟩)]) 56 rfl Try.underlying61 info65 rfl (by decide) (by omega) u8 (group_Flat.l0 a0_0 a0_1 a0_2 a1 (ds.take i)) (⟨a0_0, a0_1, a0_2, a1, rdOf ByteArray.empty ds (i : Int)⟩ : S65) [.string a0_0, .int .i64 a0_1, .int .i64 a0_2, .int .i64 a1, .string (rdOf ByteArray.empty ds (i : Int))] (fun _ => True) (fun _ => False) rfl rfl ?aP (fun _ hk => hk.elim) ?aF ?aO ?aB ?aS ?aL ?_; (case aP => exact k65_mkM _ _ _ _); (case aF => exact fun _ _ => trivial); (case aO => exact HO8.out); (case aB => exact HW5.out); (case aS => exact HW5.out.size); (case aL => have := HBIG.out; have := HDL.out; unfold group_Flat.l0; rw [List.length_map, List.length_take]; omega); intro v6 w6 ho hb hg hat; have HOc := Aside0.mk (Kd.R_over HO5.out HO8.out (by decide) hg); have HB6 := Aside0.mk (blk_over HB5.out HO8.out (by decide) hg); have HO6 := Aside0.mk ho; have HW6 := Aside0.mk hb; clear ho hb hg hat))
      cases gk with
      | zero => exact absurd HI.out (by have := of_eq_true hlt1; omega)
      | succ k1 =>
       go_roundg k1
       case measure => omega
       case rel =>
        refine ⟨i + 1, congrArg (Value.int .i64) (by have := HI.out; have := HDL.out; have := HBIG.out; unfold wrap64; omega), ⟨by have := HI.out; omega⟩, ⟨?_⟩, HOc, HB6, HW6⟩
        have := HO6.out
        rw [HRD.out]
        unfold group_Flat.l0 at this ⊢
        rw [List.map_append]
        exact this
     ·obtain rfl : i = ds.length := by have := HI.out; omega
      have hlt1 : ((ds.length : Int) < (ds.length : Int)) = False := eq_false (by omega)
      have HO9 : Aside0 (Kd.R k65 65 wr w.heap.size (fun _ => True) u8 (group_Flat.l0 a0_0 a0_1 a0_2 a1 (turned m l0_3))) := ⟨by
       have := HO8.out
       rw [List.take_length] at this
       unfold turned
       rw [HDS.out]
       exact this⟩
      clear hlt HO8
      go_wp2_with fail
      go_ret
      exact ⟨_, rfl, HO9.out, HW5.out⟩
end Go.Proofs.Ytedjodnaalconaa.P
end
section
namespace Go.Proofs.Ytedjodnaalconaa.P
open Go.RowKit Go.Proofs.YtedjodnaalconaaW.PrintWords Go.Proofs.YtedjodnaalconaaW.PrintLast Go.Proofs.YtedjodnaalconaaW.PrintMore
attribute [local go_sem] max2_int min2_int max_two min_two max_three min_three max_four min_four
set_option linter.unusedVariables false
set_option linter.unusedSimpArgs false
def name_Same.f (k : Nat) (a0 : ByteArray) (a1 : ByteArray) : Option (Bool) := (name_Check.f k a0).bind fun t141 => (if t141 = true then ((name_Check.f k a1).bind fun t142 => (if t142 = true then ((name_low.f a0).bind fun t143 => ((name_low.f a1).bind fun t144 => (some (t143.toList == t144.toList)))) else (some false))) else (some false))
theorem name_Same.mono : ∀ a0 a1 k, LeO (name_Same.f k a0 a1) (name_Same.f (k + 1) a0 a1) := by
 intro a0 a1 k
 unfold name_Same.f
 repeat' first
   | (with_reducible exact name_Check.mono _ _)
   | (with_reducible exact LeO.refl _)
   | (with_reducible exact LeO.none _)
   | (with_reducible refine LeO.ite ?_ ?_)
   | (with_reducible refine LeO.bind ?_ (fun _ => ?_))
set_option maxHeartbeats 8000000 in
set_option maxRecDepth 100000 in
theorem name_Same.calls (k : Nat) (a0 : ByteArray) (a1 : ByteArray) (r : Bool) (w : World) (h : name_Same.f k a0 a1 = some r) :
  Calls Try.prog 94 #[.string a0, .string a1] w fun e w' => e = .returned (.bool r) ∧ Below w.heap.size w w' := by
 have HB := Aside0.mk (Below.refl w.heap.size w)
 have H : ((name_Check.f k a0).bind fun t141 => (if t141 = true then ((name_Check.f k a1).bind fun t142 => (if t142 = true then ((name_low.f a0).bind fun t143 => ((name_low.f a1).bind fun t144 => (some (t143.toList == t144.toList)))) else (some false))) else (some false))) = some r := h
 clear h
 replace H := Option.bind_eq_some_iff.mp H
 obtain ⟨t141, A30, H⟩ := H
 replace H : (if t141 = true then ((name_Check.f k a1).bind fun t142 => (if t142 = true then ((name_low.f a0).bind fun t143 => ((name_low.f a1).bind fun t144 => (some (t143.toList == t144.toList)))) else (some false))) else (some false)) = some r := H
 have A3 := Aside0.mk A30
 clear A30
 by_cases c4 : t141 = true
 ·subst c4
  have H1 : ((name_Check.f k a1).bind fun t142 => (if t142 = true then ((name_low.f a0).bind fun t143 => ((name_low.f a1).bind fun t144 => (some (t143.toList == t144.toList)))) else (some false))) = some r := by rw [if_pos rfl] at H; exact H
  clear H
  have H := H1
  clear H1
  replace H := Option.bind_eq_some_iff.mp H
  obtain ⟨t142, A50, H⟩ := H
  replace H : (if t142 = true then ((name_low.f a0).bind fun t143 => ((name_low.f a1).bind fun t144 => (some (t143.toList == t144.toList)))) else (some false)) = some r := H
  have A5 := Aside0.mk A50
  clear A50
  by_cases c6 : t142 = true
  ·subst c6
   have H1 : ((name_low.f a0).bind fun t143 => ((name_low.f a1).bind fun t144 => (some (t143.toList == t144.toList)))) = some r := by rw [if_pos rfl] at H; exact H
   clear H
   have H := H1
   clear H1
   replace H := Option.bind_eq_some_iff.mp H
   obtain ⟨t143, A70, H⟩ := H
   replace H : ((name_low.f a1).bind fun t144 => (some (t143.toList == t144.toList))) = some r := H
   have A7 := Aside0.mk A70
   clear A70
   replace H := Option.bind_eq_some_iff.mp H
   obtain ⟨t144, A80, H⟩ := H
   replace H : (some (t143.toList == t144.toList)) = some r := H
   have A8 := Aside0.mk A80
   clear A80
   obtain rfl := Option.some.inj H
   go_enter Try.func94, Try.ntmps94
   go_wp2_with (first | ((with_reducible refine gate_callee (f := 46) rfl ?_); refine goesL_ (some 6) rfl rfl Try.func46 (by kernel_rfl) rfl #[.string a0] rfl (by (try simp only [List.map_toArray, List.map_cons, List.map_nil]); first | done | rfl | (simp only [List.length_drop, List.length_take]; rfl)) ?_; (with_reducible refine (name_Check.calls k a0 true _ A3.out).mono ?_); rintro e w9 ⟨rfl, hb⟩; refine ⟨_, rfl, ?_⟩; have n0_ := Aside0.mk (below_step (by repeat (first | (with_reducible first | exact HB.out | apply below_alloc | apply pw_below_drewN | apply below_drew1) | exact HB.out)) hb); clear HB; have HB := n0_; clear n0_; (try clear hb); (try clear hb2); (try clear hk); (try clear hi)) | (go_at_call 46; (with_reducible refine (name_Check.calls k a1 true _ A5.out).mono ?_); rintro e w10 ⟨rfl, hb⟩; have n0_ := Aside0.mk (below_step (by repeat (first | (with_reducible first | exact HB.out | apply below_alloc | apply pw_below_drewN | apply below_drew1) | exact HB.out)) hb); clear HB; have HB := n0_; clear n0_; (try clear hb); (try clear hb2); (try clear hk); (try clear hi)) | (go_at_call 66; (with_reducible refine (name_low.calls a0 t143 _ A7.out).mono ?_); rintro e w11 ⟨rfl, hb⟩; have n0_ := Aside0.mk (below_step (by repeat (first | (with_reducible first | exact HB.out | apply below_alloc | apply pw_below_drewN | apply below_drew1) | exact HB.out)) hb); clear HB; have HB := n0_; clear n0_; (try clear hb); (try clear hb2); (try clear hk); (try clear hi)) | (go_at_call 66; (with_reducible refine (name_low.calls a1 t144 _ A8.out).mono ?_); rintro e w12 ⟨rfl, hb⟩; have n0_ := Aside0.mk (below_step (by repeat (first | (with_reducible first | exact HB.out | apply below_alloc | apply pw_below_drewN | apply below_drew1) | exact HB.out)) hb); clear HB; have HB := n0_; clear n0_; (try clear hb); (try clear hb2); (try clear hk); (try clear hi)))
   go_ret
   exact ⟨by first | rfl | (simp [errW_none, errW_some] <;> rfl) | (simp [*, errW_none, errW_some] <;> rfl), by repeat (first | (with_reducible first | exact HB.out | apply below_alloc | apply pw_below_drewN | apply below_drew1) | exact HB.out)⟩
  ·replace c6 := Bool.eq_false_iff.mpr c6
   subst c6
   have H1 : (some false) = some r := by rw [if_neg (show ¬ (false = true) by decide)] at H; exact H
   clear H
   have H := H1
   clear H1
   obtain rfl := Option.some.inj H
   go_enter Try.func94, Try.ntmps94
   go_wp2_with (first | ((with_reducible refine gate_callee (f := 46) rfl ?_); refine goesL_ (some 6) rfl rfl Try.func46 (by kernel_rfl) rfl #[.string a0] rfl (by (try simp only [List.map_toArray, List.map_cons, List.map_nil]); first | done | rfl | (simp only [List.length_drop, List.length_take]; rfl)) ?_; (with_reducible refine (name_Check.calls k a0 true _ A3.out).mono ?_); rintro e w13 ⟨rfl, hb⟩; refine ⟨_, rfl, ?_⟩; have n0_ := Aside0.mk (below_step (by repeat (first | (with_reducible first | exact HB.out | apply below_alloc | apply pw_below_drewN | apply below_drew1) | exact HB.out)) hb); clear HB; have HB := n0_; clear n0_; (try clear hb); (try clear hb2); (try clear hk); (try clear hi)) | (go_at_call 46; (with_reducible refine (name_Check.calls k a1 false _ A5.out).mono ?_); rintro e w14 ⟨rfl, hb⟩; have n0_ := Aside0.mk (below_step (by repeat (first | (with_reducible first | exact HB.out | apply below_alloc | apply pw_below_drewN | apply below_drew1) | exact HB.out)) hb); clear HB; have HB := n0_; clear n0_; (try clear hb); (try clear hb2); (try clear hk); (try clear hi)))
   go_ret
   exact ⟨by first | rfl | (simp [errW_none, errW_some] <;> rfl) | (simp [*, errW_none, errW_some] <;> rfl), by repeat (first | (with_reducible first | exact HB.out | apply below_alloc | apply pw_below_drewN | apply below_drew1) | exact HB.out)⟩
 ·replace c4 := Bool.eq_false_iff.mpr c4
  subst c4
  have H1 : (some false) = some r := by rw [if_neg (show ¬ (false = true) by decide)] at H; exact H
  clear H
  have H := H1
  clear H1
  obtain rfl := Option.some.inj H
  go_enter Try.func94, Try.ntmps94
  go_wp2_with (first | ((with_reducible refine gate_callee (f := 46) rfl ?_); refine goesL_ (some 6) rfl rfl Try.func46 (by kernel_rfl) rfl #[.string a0] rfl (by (try simp only [List.map_toArray, List.map_cons, List.map_nil]); first | done | rfl | (simp only [List.length_drop, List.length_take]; rfl)) ?_; (with_reducible refine (name_Check.calls k a0 false _ A3.out).mono ?_); rintro e w15 ⟨rfl, hb⟩; refine ⟨_, rfl, ?_⟩; have n0_ := Aside0.mk (below_step (by repeat (first | (with_reducible first | exact HB.out | apply below_alloc | apply pw_below_drewN | apply below_drew1) | exact HB.out)) hb); clear HB; have HB := n0_; clear n0_; (try clear hb); (try clear hb2); (try clear hk); (try clear hi)))
  go_ret
  exact ⟨by first | rfl | (simp [errW_none, errW_some] <;> rfl) | (simp [*, errW_none, errW_some] <;> rfl), by repeat (first | (with_reducible first | exact HB.out | apply below_alloc | apply pw_below_drewN | apply below_drew1) | exact HB.out)⟩
def name_Up.f (k : Nat) (a0 : ByteArray) : Option (ByteArray × Bool) := (name_Check.f k a0).bind fun t140 => (if t140 = true then (if a0.toList = ([0] : List UInt8) then (some ((⟨#[]⟩ : ByteArray), false)) else (if 0 < (a0.size : Int) then (if 0 ≤ (wrap64 (1 + (wrap64 (bt a0 0)))) then (if (wrap64 (1 + (wrap64 (bt a0 0)))) ≤ (a0.size : Int) then (some (a0.extract ((wrap64 (1 + (wrap64 (bt a0 0)))) : Int).toNat a0.size, true)) else (none)) else (none)) else (none))) else (some ((⟨#[]⟩ : ByteArray), false)))
theorem name_Up.mono : ∀ a0 k, LeO (name_Up.f k a0) (name_Up.f (k + 1) a0) := by
 intro a0 k
 unfold name_Up.f
 repeat' first
   | (with_reducible exact name_Check.mono _ _)
   | (with_reducible exact LeO.refl _)
   | (with_reducible exact LeO.none _)
   | (with_reducible refine LeO.ite ?_ ?_)
   | (with_reducible refine LeO.bind ?_ (fun _ => ?_))
set_option maxHeartbeats 8000000 in
set_option maxRecDepth 100000 in
theorem name_Up.calls (k : Nat) (a0 : ByteArray) (r1 : ByteArray) (r2 : Bool) (w : World) (h : name_Up.f k a0 = some (r1, r2)) :
  Calls Try.prog 84 #[.string a0] w fun e w' => e = .returned (.tuple #[.string r1, .bool r2]) ∧ Below w.heap.size w w' := by
 have HB := Aside0.mk (Below.refl w.heap.size w)
 have H : ((name_Check.f k a0).bind fun t140 => (if t140 = true then (if a0.toList = ([0] : List UInt8) then (some ((⟨#[]⟩ : ByteArray), false)) else (if 0 < (a0.size : Int) then (if 0 ≤ (wrap64 (1 + (wrap64 (bt a0 0)))) then (if (wrap64 (1 + (wrap64 (bt a0 0)))) ≤ (a0.size : Int) then (some (a0.extract ((wrap64 (1 + (wrap64 (bt a0 0)))) : Int).toNat a0.size, true)) else (none)) else (none)) else (none))) else (some ((⟨#[]⟩ : ByteArray), false)))) = some (r1, r2) := h
 clear h
 replace H := Option.bind_eq_some_iff.mp H
 obtain ⟨t140, A20, H⟩ := H
 replace H : (if t140 = true then (if a0.toList = ([0] : List UInt8) then (some ((⟨#[]⟩ : ByteArray), false)) else (if 0 < (a0.size : Int) then (if 0 ≤ (wrap64 (1 + (wrap64 (bt a0 0)))) then (if (wrap64 (1 + (wrap64 (bt a0 0)))) ≤ (a0.size : Int) then (some (a0.extract ((wrap64 (1 + (wrap64 (bt a0 0)))) : Int).toNat a0.size, true)) else (none)) else (none)) else (none))) else (some ((⟨#[]⟩ : ByteArray), false))) = some (r1, r2) := H
 have A2 := Aside0.mk A20
 clear A20
 by_cases c3 : t140 = true
 ·subst c3
  have H1 : (if a0.toList = ([0] : List UInt8) then (some ((⟨#[]⟩ : ByteArray), false)) else (if 0 < (a0.size : Int) then (if 0 ≤ (wrap64 (1 + (wrap64 (bt a0 0)))) then (if (wrap64 (1 + (wrap64 (bt a0 0)))) ≤ (a0.size : Int) then (some (a0.extract ((wrap64 (1 + (wrap64 (bt a0 0)))) : Int).toNat a0.size, true)) else (none)) else (none)) else (none))) = some (r1, r2) := by rw [if_pos rfl] at H; exact H
  clear H
  have H := H1
  clear H1
  by_cases c4 : a0.toList = ([0] : List UInt8)
  ·rw [if_pos c4] at H
   have c4b0 : (a0.toList == ([0] : List UInt8)) = true := beq_iff_eq.mpr c4
   have c4b1 : (a0.toList != ([0] : List UInt8)) = false := bne_eq_false_iff_eq.mpr c4
   clear c4
   simp only [Option.some.injEq, Prod.mk.injEq] at H
   obtain ⟨rfl, rfl⟩ := H
   go_enter Try.func84, Try.ntmps84
   go_wp2_with (first | ((with_reducible refine gate_callee (f := 46) rfl ?_); refine goesL_ (some 5) rfl rfl Try.func46 (by kernel_rfl) rfl #[.string a0] rfl (by (try simp only [List.map_toArray, List.map_cons, List.map_nil]); first | done | rfl | (simp only [List.length_drop, List.length_take]; rfl)) ?_; (with_reducible refine (name_Check.calls k a0 true _ A2.out).mono ?_); rintro e w5 ⟨rfl, hb⟩; refine ⟨_, rfl, ?_⟩; have n0_ := Aside0.mk (below_step (by repeat (first | (with_reducible first | exact HB.out | apply below_alloc | apply pw_below_drewN | apply below_drew1) | exact HB.out)) hb); clear HB; have HB := n0_; clear n0_; (try clear hb); (try clear hb2); (try clear hk); (try clear hi)))
   go_ret2
   exact ⟨by first | rfl | (simp [errW_none, errW_some] <;> rfl) | (simp [*, errW_none, errW_some] <;> rfl), by repeat (first | (with_reducible first | exact HB.out | apply below_alloc | apply pw_below_drewN | apply below_drew1) | exact HB.out)⟩
  ·rw [if_neg c4] at H
   have c4b0 : (a0.toList == ([0] : List UInt8)) = false := beq_eq_false_iff_ne.mpr c4
   have c4b1 : (a0.toList != ([0] : List UInt8)) = true := bne_iff_ne.mpr c4
   by_cases c6 : 0 < (a0.size : Int)
   ·rw [if_pos c6] at H
    have c6b0 : decide (0 < (a0.size : Int)) = true := decide_eq_true c6
    have c6b1 : decide (0 < a0.size) = true := decide_eq_true (by omega)
    clear c6
    obtain ⟨ji8, hji8⟩ : ∃ j_ : Int, (wrap64 (1 + (wrap64 (bt a0 0)))) = j_ := ⟨_, rfl⟩
    replace H : (if 0 ≤ (ji8) then (if (ji8) ≤ (a0.size : Int) then (some (a0.extract ((ji8) : Int).toNat a0.size, true)) else (none)) else (none)) = some (r1, r2) := by first | (rw [hji8] at H; exact H) | (simp only [hji8] at H ⊢; exact H)
    (try rw [hji8] at A2)
    have hji8w : (IntKind.i64.wrap (1 + (wrap64 (bt a0 0)))) = ji8 := (i64_w _).trans hji8
    by_cases c9 : 0 ≤ (ji8)
    ·rw [if_pos c9] at H
     have c9b0 := eq_true c9
     have c9b1 : decide (0 ≤ (ji8)) = true := decide_eq_true c9
     clear c9
     by_cases c10 : (ji8) ≤ (a0.size : Int)
     ·rw [if_pos c10] at H
      have c10b0 := eq_true c10
      have c10b1 : decide ((ji8) ≤ (a0.size : Int)) = true := decide_eq_true c10
      clear c10
      simp only [Option.some.injEq, Prod.mk.injEq] at H
      obtain ⟨rfl, rfl⟩ := H
      go_enter Try.func84, Try.ntmps84
      go_wp2_with (first | ((with_reducible refine gate_callee (f := 46) rfl ?_); refine goesL_ (some 5) rfl rfl Try.func46 (by kernel_rfl) rfl #[.string a0] rfl (by (try simp only [List.map_toArray, List.map_cons, List.map_nil]); first | done | rfl | (simp only [List.length_drop, List.length_take]; rfl)) ?_; (with_reducible refine (name_Check.calls k a0 true _ A2.out).mono ?_); rintro e w11 ⟨rfl, hb⟩; refine ⟨_, rfl, ?_⟩; have n0_ := Aside0.mk (below_step (by repeat (first | (with_reducible first | exact HB.out | apply below_alloc | apply pw_below_drewN | apply below_drew1) | exact HB.out)) hb); clear HB; have HB := n0_; clear n0_; (try clear hb); (try clear hb2); (try clear hk); (try clear hi); have p7 : 0 ≤ (0 : Int) := (by omega); have q7 : 0 < a0.size := (by have : (0 : Int) < (a0.size : Int) := of_decide_eq_true (by first | (with_reducible assumption) | assumption); omega); have hx7 : ∀ h : 0 < a0.size, ((a0[0]'h).toNat : Int) = bt a0 0 := bt_at a0 0; clear p7; have qi7 : (0 < (a0.size : Int)) = True := eq_true (of_decide_eq_true (by first | (with_reducible assumption) | assumption)); replace q7 := eq_true q7))
      go_ret2
      exact ⟨by first | rfl | (simp [errW_none, errW_some] <;> rfl) | (simp only [← hji8]; first | rfl | (simp [errW_none, errW_some] <;> rfl)) | (simp [*, errW_none, errW_some] <;> rfl), by repeat (first | (with_reducible first | exact HB.out | apply below_alloc | apply pw_below_drewN | apply below_drew1) | exact HB.out)⟩
     ·rw [if_neg c10] at H
      exact absurd H (by simp)
    ·rw [if_neg c9] at H
     exact absurd H (by simp)
   ·rw [if_neg c6] at H
    exact absurd H (by simp)
 ·replace c3 := Bool.eq_false_iff.mpr c3
  subst c3
  have H1 : (some ((⟨#[]⟩ : ByteArray), false)) = some (r1, r2) := by rw [if_neg (show ¬ (false = true) by decide)] at H; exact H
  clear H
  have H := H1
  clear H1
  simp only [Option.some.injEq, Prod.mk.injEq] at H
  obtain ⟨rfl, rfl⟩ := H
  go_enter Try.func84, Try.ntmps84
  go_wp2_with (first | ((with_reducible refine gate_callee (f := 46) rfl ?_); refine goesL_ (some 5) rfl rfl Try.func46 (by kernel_rfl) rfl #[.string a0] rfl (by (try simp only [List.map_toArray, List.map_cons, List.map_nil]); first | done | rfl | (simp only [List.length_drop, List.length_take]; rfl)) ?_; (with_reducible refine (name_Check.calls k a0 false _ A2.out).mono ?_); rintro e w12 ⟨rfl, hb⟩; refine ⟨_, rfl, ?_⟩; have n0_ := Aside0.mk (below_step (by repeat (first | (with_reducible first | exact HB.out | apply below_alloc | apply pw_below_drewN | apply below_drew1) | exact HB.out)) hb); clear HB; have HB := n0_; clear n0_; (try clear hb); (try clear hb2); (try clear hk); (try clear hi)))
  go_ret2
  exact ⟨by first | rfl | (simp [errW_none, errW_some] <;> rfl) | (simp [*, errW_none, errW_some] <;> rfl), by repeat (first | (with_reducible first | exact HB.out | apply below_alloc | apply pw_below_drewN | apply below_drew1) | exact HB.out)⟩
mutual
def comp_place.l0 : Nat → ByteArray → ByteArray → ByteArray → Bool → Option (Int)
 | 0, _, _, _, _ => none
 | k + 1, x0, x1, x5, x6 => if x6 = true then (comp_place.j1 k x0 x1 x5 (decide ((x5.size : Int) > 1))) else (comp_place.j1 k x0 x1 x5 false)
def comp_place.j1 : Nat → ByteArray → ByteArray → ByteArray → Bool → Option (Int)
 | 0, _, _, _, _ => none
 | k + 1, x0, x1, x5, x13 => if x13 = true then ((name_Same.f k x5 x1).bind fun t145 => (if t145 = true then (some (wrap64 ((x0.size : Int) - (x5.size : Int)))) else ((name_Up.f k x5).bind fun bt146 => (comp_place.l0 k x0 x1 bt146.1 bt146.2)))) else (some (-1))
end
def comp_place.f (k : Nat) (a0 : ByteArray) (a1 : ByteArray) : Option (Int) := comp_place.l0 k a0 a1 a0 true
theorem comp_place.mono_l : ∀ k, (∀ y0 y1 y2 y3, LeO (comp_place.l0 k y0 y1 y2 y3) (comp_place.l0 (k + 1) y0 y1 y2 y3)) ∧ (∀ y0 y1 y2 y3, LeO (comp_place.j1 k y0 y1 y2 y3) (comp_place.j1 (k + 1) y0 y1 y2 y3))
 | 0 => ⟨fun _ _ _ _ r h => by simp [comp_place.l0] at h, fun _ _ _ _ r h => by simp [comp_place.j1] at h⟩
 | k + 1 => by
  obtain ⟨ih0, ih1⟩ := comp_place.mono_l k
  refine ⟨?_, ?_⟩
  ·intro y0 y1 y2 y3
   unfold comp_place.l0
   repeat' first
   | (with_reducible exact ih0 _ _ _ _)
   | (with_reducible exact ih1 _ _ _ _)
   | (with_reducible exact name_Same.mono _ _ _)
   | (with_reducible exact name_Up.mono _ _)
   | (with_reducible exact LeO.refl _)
   | (with_reducible exact LeO.none _)
   | (with_reducible refine LeO.ite ?_ ?_)
   | (with_reducible refine LeO.bind ?_ (fun _ => ?_))
  ·intro y0 y1 y2 y3
   unfold comp_place.j1
   repeat' first
   | (with_reducible exact ih0 _ _ _ _)
   | (with_reducible exact ih1 _ _ _ _)
   | (with_reducible exact name_Same.mono _ _ _)
   | (with_reducible exact name_Up.mono _ _)
   | (with_reducible exact LeO.refl _)
   | (with_reducible exact LeO.none _)
   | (with_reducible refine LeO.ite ?_ ?_)
   | (with_reducible refine LeO.bind ?_ (fun _ => ?_))
theorem comp_place.mono : ∀ a0 a1 k, LeO (comp_place.f k a0 a1) (comp_place.f (k + 1) a0 a1) := by
 intro a0 a1 k
 obtain ⟨ih0, ih1⟩ := comp_place.mono_l k
 unfold comp_place.f
 repeat' first
   | (with_reducible exact ih0 _ _ _ _)
   | (with_reducible exact ih1 _ _ _ _)
   | (with_reducible exact name_Same.mono _ _ _)
   | (with_reducible exact name_Up.mono _ _)
   | (with_reducible exact LeO.refl _)
   | (with_reducible exact LeO.none _)
   | (with_reducible refine LeO.ite ?_ ?_)
   | (with_reducible refine LeO.bind ?_ (fun _ => ?_))
set_option maxHeartbeats 8000000 in
set_option maxRecDepth 100000 in
theorem comp_place.calls (k : Nat) (a0 : ByteArray) (a1 : ByteArray) (r : Int) (w : World) (h : comp_place.f k a0 a1 = some r) :
  Calls Try.prog 85 #[.string a0, .string a1] w fun e w' => e = .returned (.int .i64 r) ∧ Below w.heap.size w w' := by
 have HB := Aside0.mk (Below.refl w.heap.size w)
 have H : (comp_place.l0 k a0 a1 a0 true) = some r := h
 clear h
 have H' := Aside0.mk H
 clear H
 go_enter Try.func85, Try.ntmps85
 go_wp2
 go_loopg [5, 6] k (fun kq v5 v6 w' => ∃ (x5_1 : ByteArray) (x6_1 : Bool), v5 = .string x5_1 ∧ v6 = .bool x6_1 ∧ Aside0 (comp_place.l0 kq a0 a1 x5_1 x6_1 = some r) ∧ Aside0 (kq ≤ k) ∧ Aside0 (Below w.heap.size w w'))
 case atStart => exact ⟨(a0), (true), (by first | rfl | (simp; done) | (simp [*]; done)), (by first | rfl | (simp; done) | (simp [*]; done)), H', ⟨Nat.le_refl _⟩, ⟨by repeat (first | (with_reducible first | exact HB.out | apply below_alloc | apply pw_below_drewN | apply below_drew1) | exact HB.out)⟩⟩
 case round =>
  clear H'
  try clear p2
  obtain ⟨x5_1, x6_1, rfl, rfl, HA, HK1, HB⟩ := hrel
  cases gk with
  | zero => exact absurd HA.out (by simp [comp_place.l0])
  | succ k1 =>
   have H := HA.out
   clear HA
   simp only [comp_place.l0] at H
   have HC3 := Aside0.mk H
   clear H
   go_upto_region 2 with (fail)
   go_cut [13] (fun v13 wc => ∃ (kq : Nat) (x13_2 : Bool), v13 = .bool x13_2 ∧ Aside0 (comp_place.j1 kq a0 a1 x5_1 x13_2 = some r) ∧ Aside0 (kq ≤ k1) ∧ Aside0 (Below w.heap.size w wc))
   case first =>
    have H := HC3.out
    clear HC3
    by_cases c4 : x6_1 = true
    ·subst c4
     have H1 : (comp_place.j1 k1 a0 a1 x5_1 (decide ((x5_1.size : Int) > 1))) = some r := by rw [if_pos rfl] at H; exact H
     clear H
     have H := H1
     clear H1
     have H' := Aside0.mk H
     clear H
     go_wp2
     go_meet
     case rel => exact ⟨_, (decide ((x5_1.size : Int) > 1)), (by first | rfl | (simp; done) | (simp [*]; done)), H', ⟨by have := HK1.out; first | omega | exact Nat.le_refl _⟩, ⟨by repeat (first | (with_reducible first | exact HB.out | apply below_alloc | apply pw_below_drewN | apply below_drew1) | exact HB.out)⟩⟩
    ·replace c4 := Bool.eq_false_iff.mpr c4
     subst c4
     have H1 : (comp_place.j1 k1 a0 a1 x5_1 false) = some r := by rw [if_neg (show ¬ (false = true) by decide)] at H; exact H
     clear H
     have H := H1
     clear H1
     have H' := Aside0.mk H
     clear H
     go_wp2
     go_meet
     case rel => exact ⟨_, (false), (by first | rfl | (simp; done) | (simp [*]; done)), H', ⟨by have := HK1.out; first | omega | exact Nat.le_refl _⟩, ⟨by repeat (first | (with_reducible first | exact HB.out | apply below_alloc | apply pw_below_drewN | apply below_drew1) | exact HB.out)⟩⟩
   case rest =>
    clear HC3
    try clear p2
    try clear c4
    try clear p2
    obtain ⟨kq, x13_2, rfl, HA, HJ2, HB⟩ := hcut
    cases kq with
    | zero => exact absurd HA.out (by simp [comp_place.j1])
    | succ kj2 =>
     have H := HA.out
     clear HA
     simp only [comp_place.j1] at H
     by_cases c5 : x13_2 = true
     ·subst c5
      have H1 : ((name_Same.f kj2 x5_1 a1).bind fun t145 => (if t145 = true then (some (wrap64 ((a0.size : Int) - (x5_1.size : Int)))) else ((name_Up.f kj2 x5_1).bind fun bt146 => (comp_place.l0 kj2 a0 a1 bt146.1 bt146.2)))) = some r := by rw [if_pos rfl] at H; exact H
      clear H
      have H := H1
      clear H1
      replace H := Option.bind_eq_some_iff.mp H
      obtain ⟨t145, A60, H⟩ := H
      replace H : (if t145 = true then (some (wrap64 ((a0.size : Int) - (x5_1.size : Int)))) else ((name_Up.f kj2 x5_1).bind fun bt146 => (comp_place.l0 kj2 a0 a1 bt146.1 bt146.2))) = some r := H
      have A6 := Aside0.mk A60
      clear A60
      by_cases c7 : t145 = true
      ·subst c7
       have H1 : (some (wrap64 ((a0.size : Int) - (x5_1.size : Int)))) = some r := by rw [if_pos rfl] at H; exact H
       clear H
       have H := H1
       clear H1
       obtain rfl := Option.some.inj H
       go_wp2_with (first | ((with_reducible refine gate_callee (f := 94) rfl ?_); refine goesL_ (some 21) rfl rfl Try.func94 (by kernel_rfl) rfl #[.string x5_1, .string a1] rfl (by (try simp only [List.map_toArray, List.map_cons, List.map_nil]); first | done | rfl | (simp only [List.length_drop, List.length_take]; rfl)) ?_; (with_reducible refine (name_Same.calls kj2 x5_1 a1 true _ A6.out).mono ?_); rintro e w8 ⟨rfl, hb⟩; refine ⟨_, rfl, ?_⟩; have n0_ := Aside0.mk (below_step (by repeat (first | (with_reducible first | exact HB.out | apply below_alloc | apply pw_below_drewN | apply below_drew1) | exact HB.out)) hb); clear HB; have HB := n0_; clear n0_; (try clear hb); (try clear hb2); (try clear hk); (try clear hi)))
       go_ret
       exact ⟨by first | rfl | (simp [errW_none, errW_some] <;> rfl) | (simp [*, errW_none, errW_some] <;> rfl), by repeat (first | (with_reducible first | exact HB.out | apply below_alloc | apply pw_below_drewN | apply below_drew1) | exact HB.out)⟩
      ·replace c7 := Bool.eq_false_iff.mpr c7
       subst c7
       have H1 : ((name_Up.f kj2 x5_1).bind fun bt146 => (comp_place.l0 kj2 a0 a1 bt146.1 bt146.2)) = some r := by rw [if_neg (show ¬ (false = true) by decide)] at H; exact H
       clear H
       have H := H1
       clear H1
       replace H := Option.bind_eq_some_iff.mp H
       obtain ⟨⟨t146, t147⟩, A90, H⟩ := H
       replace H : (comp_place.l0 kj2 a0 a1 t146 t147) = some r := H
       have A9 := Aside0.mk A90
       clear A90
       have H' := Aside0.mk H
       clear H
       go_wp2_with (first | ((with_reducible refine gate_callee (f := 94) rfl ?_); refine goesL_ (some 21) rfl rfl Try.func94 (by kernel_rfl) rfl #[.string x5_1, .string a1] rfl (by (try simp only [List.map_toArray, List.map_cons, List.map_nil]); first | done | rfl | (simp only [List.length_drop, List.length_take]; rfl)) ?_; (with_reducible refine (name_Same.calls kj2 x5_1 a1 false _ A6.out).mono ?_); rintro e w10 ⟨rfl, hb⟩; refine ⟨_, rfl, ?_⟩; have n0_ := Aside0.mk (below_step (by repeat (first | (with_reducible first | exact HB.out | apply below_alloc | apply pw_below_drewN | apply below_drew1) | exact HB.out)) hb); clear HB; have HB := n0_; clear n0_; (try clear hb); (try clear hb2); (try clear hk); (try clear hi)) | ((with_reducible refine gate_callee (f := 84) rfl ?_); refine goesL_ (some 16) rfl rfl Try.func84 (by kernel_rfl) rfl #[.string x5_1] rfl (by (try simp only [List.map_toArray, List.map_cons, List.map_nil]); first | done | rfl | (simp only [List.length_drop, List.length_take]; rfl)) ?_; (with_reducible refine (name_Up.calls kj2 x5_1 t146 t147 _ A9.out).mono ?_); rintro e w11 ⟨rfl, hb⟩; refine ⟨_, rfl, ?_⟩; have n0_ := Aside0.mk (below_step (by repeat (first | (with_reducible first | exact HB.out | apply below_alloc | apply pw_below_drewN | apply below_drew1) | exact HB.out)) hb); clear HB; have HB := n0_; clear n0_; (try clear hb); (try clear hb2); (try clear hk); (try clear hi)))
       go_roundg kj2
       case measure => have := HK1.out; have := HJ2.out; omega
       case rel => exact ⟨(t146), (t147), (by first | rfl | (simp; done) | (simp [*]; done)), (by first | rfl | (simp; done) | (simp [*]; done)), H', ⟨by have := HK1.out; have := HJ2.out; omega⟩, ⟨by repeat (first | (with_reducible first | exact HB.out | apply below_alloc | apply pw_below_drewN | apply below_drew1) | exact HB.out)⟩⟩
     ·replace c5 := Bool.eq_false_iff.mpr c5
      subst c5
      have H1 : (some (-1)) = some r := by rw [if_neg (show ¬ (false = true) by decide)] at H; exact H
      clear H
      have H := H1
      clear H1
      obtain rfl := Option.some.inj H
      go_wp2
      go_ret
      exact ⟨by first | rfl | (simp [errW_none, errW_some] <;> rfl) | (simp [*, errW_none, errW_some] <;> rfl), by repeat (first | (with_reducible first | exact HB.out | apply below_alloc | apply pw_below_drewN | apply below_drew1) | exact HB.out)⟩
def stringslite_HasSuffix.f (a0 : ByteArray) (a1 : ByteArray) : Option (Bool) := if (a0.size : Int) ≥ (a1.size : Int) then (if 0 ≤ (wrap64 ((a0.size : Int) - (a1.size : Int))) then (if (wrap64 ((a0.size : Int) - (a1.size : Int))) ≤ (a0.size : Int) then (some ((a0.extract ((wrap64 ((a0.size : Int) - (a1.size : Int))) : Int).toNat a0.size).toList == a1.toList)) else (none)) else (none)) else (some false)
set_option maxHeartbeats 8000000 in
set_option maxRecDepth 100000 in
theorem stringslite_HasSuffix.calls (a0 : ByteArray) (a1 : ByteArray) (r : Bool) (w : World) (h : stringslite_HasSuffix.f a0 a1 = some r) :
  Calls Try.prog 103 #[.string a0, .string a1] w fun e w' => e = .returned (.bool r) ∧ Drawn0 w w' := by
 have H : (if (a0.size : Int) ≥ (a1.size : Int) then (if 0 ≤ (wrap64 ((a0.size : Int) - (a1.size : Int))) then (if (wrap64 ((a0.size : Int) - (a1.size : Int))) ≤ (a0.size : Int) then (some ((a0.extract ((wrap64 ((a0.size : Int) - (a1.size : Int))) : Int).toNat a0.size).toList == a1.toList)) else (none)) else (none)) else (some false)) = some r := h
 clear h
 by_cases c3 : (a0.size : Int) ≥ (a1.size : Int)
 ·rw [if_pos c3] at H
  have c3b0 : decide ((a1.size : Int) ≤ (a0.size : Int)) = true := decide_eq_true c3
  have c3b1 : decide (a1.size ≤ a0.size) = true := decide_eq_true (Int.ofNat_le.mp c3)
  clear c3
  obtain ⟨ji4, hji4⟩ : ∃ j_ : Int, (wrap64 ((a0.size : Int) - (a1.size : Int))) = j_ := ⟨_, rfl⟩
  replace H : (if 0 ≤ (ji4) then (if (ji4) ≤ (a0.size : Int) then (some ((a0.extract ((ji4) : Int).toNat a0.size).toList == a1.toList)) else (none)) else (none)) = some r := by first | (rw [hji4] at H; exact H) | (simp only [hji4] at H ⊢; exact H)
  have hji4w : (IntKind.i64.wrap ((a0.size : Int) - (a1.size : Int))) = ji4 := (i64_w _).trans hji4
  by_cases c5 : 0 ≤ (ji4)
  ·rw [if_pos c5] at H
   have c5b0 := eq_true c5
   have c5b1 : decide (0 ≤ (ji4)) = true := decide_eq_true c5
   clear c5
   by_cases c6 : (ji4) ≤ (a0.size : Int)
   ·rw [if_pos c6] at H
    have c6b0 := eq_true c6
    have c6b1 : decide ((ji4) ≤ (a0.size : Int)) = true := decide_eq_true c6
    clear c6
    obtain rfl := Option.some.inj H
    go_enter Try.func103, Try.ntmps103
    go_wp2
    go_ret
    exact ⟨by first | rfl | (simp; done) | (simp only [← hji4] <;> (first | rfl | simp)) | (simp [*]; done), by repeat (first | exact Drawn0.refl _ | apply Drawn0.step)⟩
   ·rw [if_neg c6] at H
    exact absurd H (by simp)
  ·rw [if_neg c5] at H
   exact absurd H (by simp)
 ·rw [if_neg c3] at H
  have c3b0 : decide ((a1.size : Int) ≤ (a0.size : Int)) = false := decide_eq_false c3
  have c3b1 : decide (a1.size ≤ a0.size) = false := decide_eq_false (fun h => c3 (Int.ofNat_le.mpr h))
  clear c3
  obtain rfl := Option.some.inj H
  go_enter Try.func103, Try.ntmps103
  go_wp2
  go_ret
  exact ⟨by first | rfl | (simp; done) | (simp [*]; done), by repeat (first | exact Drawn0.refl _ | apply Drawn0.step)⟩
def stringslite_TrimSuffix.f (a0 : ByteArray) (a1 : ByteArray) : Option (ByteArray) := (stringslite_HasSuffix.f a0 a1).bind fun t148 => (if t148 = true then (if 0 ≤ (wrap64 ((a0.size : Int) - (a1.size : Int))) then (if (wrap64 ((a0.size : Int) - (a1.size : Int))) ≤ (a0.size : Int) then (some (a0.extract 0 ((wrap64 ((a0.size : Int) - (a1.size : Int))) : Int).toNat)) else (none)) else (none)) else (some a0))
set_option maxHeartbeats 8000000 in
set_option maxRecDepth 100000 in
theorem stringslite_TrimSuffix.calls (a0 : ByteArray) (a1 : ByteArray) (r : ByteArray) (w : World) (h : stringslite_TrimSuffix.f a0 a1 = some r) :
  Calls Try.prog 95 #[.string a0, .string a1] w fun e w' => e = .returned (.string r) ∧ Drawn0 w w' := by
 have H : ((stringslite_HasSuffix.f a0 a1).bind fun t148 => (if t148 = true then (if 0 ≤ (wrap64 ((a0.size : Int) - (a1.size : Int))) then (if (wrap64 ((a0.size : Int) - (a1.size : Int))) ≤ (a0.size : Int) then (some (a0.extract 0 ((wrap64 ((a0.size : Int) - (a1.size : Int))) : Int).toNat)) else (none)) else (none)) else (some a0))) = some r := h
 clear h
 replace H := Option.bind_eq_some_iff.mp H
 obtain ⟨t148, A30, H⟩ := H
 replace H : (if t148 = true then (if 0 ≤ (wrap64 ((a0.size : Int) - (a1.size : Int))) then (if (wrap64 ((a0.size : Int) - (a1.size : Int))) ≤ (a0.size : Int) then (some (a0.extract 0 ((wrap64 ((a0.size : Int) - (a1.size : Int))) : Int).toNat)) else (none)) else (none)) else (some a0)) = some r := H
 have A3 := Aside0.mk A30
 clear A30
 by_cases c4 : t148 = true
 ·subst c4
  have H1 : (if 0 ≤ (wrap64 ((a0.size : Int) - (a1.size : Int))) then (if (wrap64 ((a0.size : Int) - (a1.size : Int))) ≤ (a0.size : Int) then (some (a0.extract 0 ((wrap64 ((a0.size : Int) - (a1.size : Int))) : Int).toNat)) else (none)) else (none)) = some r := by rw [if_pos rfl] at H; exact H
  clear H
  have H := H1
  clear H1
  obtain ⟨ji5, hji5⟩ : ∃ j_ : Int, (wrap64 ((a0.size : Int) - (a1.size : Int))) = j_ := ⟨_, rfl⟩
  replace H : (if 0 ≤ (ji5) then (if (ji5) ≤ (a0.size : Int) then (some (a0.extract 0 ((ji5) : Int).toNat)) else (none)) else (none)) = some r := by first | (rw [hji5] at H; exact H) | (simp only [hji5] at H ⊢; exact H)
  (try rw [hji5] at A3)
  have hji5w : (IntKind.i64.wrap ((a0.size : Int) - (a1.size : Int))) = ji5 := (i64_w _).trans hji5
  by_cases c6 : 0 ≤ (ji5)
  ·rw [if_pos c6] at H
   have c6b0 := eq_true c6
   have c6b1 : decide (0 ≤ (ji5)) = true := decide_eq_true c6
   clear c6
   by_cases c7 : (ji5) ≤ (a0.size : Int)
   ·rw [if_pos c7] at H
    have c7b0 := eq_true c7
    have c7b1 : decide ((ji5) ≤ (a0.size : Int)) = true := decide_eq_true c7
    clear c7
    obtain rfl := Option.some.inj H
    go_enter Try.func95, Try.ntmps95
    go_wp2_with (first | ((with_reducible refine gate_callee (f := 103) rfl ?_); refine goesL_ (some 7) rfl rfl Try.func103 (by kernel_rfl) rfl #[.string a0, .string a1] rfl (by (try simp only [List.map_toArray, List.map_cons, List.map_nil]); first | done | rfl | (simp only [List.length_drop, List.length_take]; rfl)) ?_; (with_reducible refine (stringslite_HasSuffix.calls a0 a1 true _ A3.out).mono ?_); rintro e w' ⟨rfl, ⟨nd, rfl⟩⟩; refine ⟨_, rfl, ?_⟩))
    go_ret
    exact ⟨by first | rfl | (simp; done) | (simp only [← hji5] <;> (first | rfl | simp)) | (simp [*]; done), by repeat (first | exact Drawn0.refl _ | apply Drawn0.step)⟩
   ·rw [if_neg c7] at H
    exact absurd H (by simp)
  ·rw [if_neg c6] at H
   exact absurd H (by simp)
 ·replace c4 := Bool.eq_false_iff.mpr c4
  subst c4
  have H1 : (some a0) = some r := by rw [if_neg (show ¬ (false = true) by decide)] at H; exact H
  clear H
  have H := H1
  clear H1
  obtain rfl := Option.some.inj H
  go_enter Try.func95, Try.ntmps95
  go_wp2_with (first | ((with_reducible refine gate_callee (f := 103) rfl ?_); refine goesL_ (some 7) rfl rfl Try.func103 (by kernel_rfl) rfl #[.string a0, .string a1] rfl (by (try simp only [List.map_toArray, List.map_cons, List.map_nil]); first | done | rfl | (simp only [List.length_drop, List.length_take]; rfl)) ?_; (with_reducible refine (stringslite_HasSuffix.calls a0 a1 false _ A3.out).mono ?_); rintro e w' ⟨rfl, ⟨nd, rfl⟩⟩; refine ⟨_, rfl, ?_⟩))
  go_ret
  exact ⟨by first | rfl | (simp; done) | (simp [*]; done), by repeat (first | exact Drawn0.refl _ | apply Drawn0.step)⟩
def strings_TrimSuffix.f (a0 : ByteArray) (a1 : ByteArray) : Option (ByteArray) := (stringslite_TrimSuffix.f a0 a1).bind fun t149 => (some t149)
set_option maxHeartbeats 8000000 in
set_option maxRecDepth 100000 in
theorem strings_TrimSuffix.calls (a0 : ByteArray) (a1 : ByteArray) (r : ByteArray) (w : World) (h : strings_TrimSuffix.f a0 a1 = some r) :
  Calls Try.prog 86 #[.string a0, .string a1] w fun e w' => e = .returned (.string r) ∧ Drawn0 w w' := by
 have H : ((stringslite_TrimSuffix.f a0 a1).bind fun t149 => (some t149)) = some r := h
 clear h
 replace H := Option.bind_eq_some_iff.mp H
 obtain ⟨t149, A30, H⟩ := H
 replace H : (some t149) = some r := H
 have A3 := Aside0.mk A30
 clear A30
 obtain rfl := Option.some.inj H
 go_enter Try.func86, Try.ntmps86
 go_wp2_with (first | ((with_reducible refine gate_callee (f := 95) rfl ?_); refine goesL_ (some 7) rfl rfl Try.func95 (by kernel_rfl) rfl #[.string a0, .string a1] rfl (by (try simp only [List.map_toArray, List.map_cons, List.map_nil]); first | done | rfl | (simp only [List.length_drop, List.length_take]; rfl)) ?_; (with_reducible refine (stringslite_TrimSuffix.calls a0 a1 t149 _ A3.out).mono ?_); rintro e w' ⟨rfl, ⟨nd, rfl⟩⟩; refine ⟨_, rfl, ?_⟩))
 go_ret
 exact ⟨by first | rfl | (simp; done) | (simp [*]; done), by repeat (first | exact Drawn0.refl _ | apply Drawn0.step)⟩
mutual
def comp_Write.j0 : Nat → ByteArray → Int → ByteArray → Bool → Option (ByteArray)
 | 0, _, _, _, _ => none
 | k + 1, x0, x1, x2, x25 => if x25 = true then (some (⟨#[]⟩ : ByteArray)) else (comp_Write.l0 k x0 x1 x2 x2 true)
def comp_Write.l0 : Nat → ByteArray → Int → ByteArray → ByteArray → Bool → Option (ByteArray)
 | 0, _, _, _, _, _ => none
 | k + 1, x0, x1, x2, x7, x8 => if x8 = true then (comp_Write.j2 k x0 x1 x2 x7 (decide ((x7.size : Int) > 1))) else (comp_Write.j2 k x0 x1 x2 x7 false)
def comp_Write.j2 : Nat → ByteArray → Int → ByteArray → ByteArray → Bool → Option (ByteArray)
 | 0, _, _, _, _, _ => none
 | k + 1, x0, x1, x2, x7, x32 => if x32 = true then ((comp_place.f k x0 x7).bind fun t152 => (if t152 ≥ 0 then ((strings_TrimSuffix.f x2 x7).bind fun t153 => ((octet_Put.f k (wrap64 ((wrap64 (49152 + x1)) + t152)) 2).bind fun t154 => (if t153.size + t154.size ≤ 9223372036854775807 then (some (t153 ++ t154)) else (none)))) else ((name_Up.f k x7).bind fun bt155 => (comp_Write.l0 k x0 x1 x2 bt155.1 bt155.2)))) else (some x2)
end
def comp_Write.f (k : Nat) (a0 : ByteArray) (a1 : Int) (a2 : ByteArray) : Option (ByteArray) := (name_Check.f k a0).bind fun t150 => (if t150 = true then ((name_Check.f k a2).bind fun t151 => (if t151 = true then (if a1 < 0 then (comp_Write.j0 k a0 a1 a2 true) else (comp_Write.j0 k a0 a1 a2 (decide (a1 > 16000)))) else (comp_Write.j0 k a0 a1 a2 true))) else (comp_Write.j0 k a0 a1 a2 true))
theorem comp_Write.mono_l : ∀ k, (∀ y0 y1 y2 y3, LeO (comp_Write.j0 k y0 y1 y2 y3) (comp_Write.j0 (k + 1) y0 y1 y2 y3)) ∧ (∀ y0 y1 y2 y3 y4, LeO (comp_Write.l0 k y0 y1 y2 y3 y4) (comp_Write.l0 (k + 1) y0 y1 y2 y3 y4)) ∧ (∀ y0 y1 y2 y3 y4, LeO (comp_Write.j2 k y0 y1 y2 y3 y4) (comp_Write.j2 (k + 1) y0 y1 y2 y3 y4))
 | 0 => ⟨fun _ _ _ _ r h => by simp [comp_Write.j0] at h, fun _ _ _ _ _ r h => by simp [comp_Write.l0] at h, fun _ _ _ _ _ r h => by simp [comp_Write.j2] at h⟩
 | k + 1 => by
  obtain ⟨ih0, ih1, ih2⟩ := comp_Write.mono_l k
  refine ⟨?_, ?_, ?_⟩
  ·intro y0 y1 y2 y3
   unfold comp_Write.j0
   repeat' first
   | (with_reducible exact ih0 _ _ _ _)
   | (with_reducible exact ih1 _ _ _ _ _)
   | (with_reducible exact ih2 _ _ _ _ _)
   | (with_reducible exact comp_place.mono _ _ _)
   | (with_reducible exact name_Check.mono _ _)
   | (with_reducible exact name_Up.mono _ _)
   | (with_reducible exact octet_Put.mono _ _ _)
   | (with_reducible exact LeO.refl _)
   | (with_reducible exact LeO.none _)
   | (with_reducible refine LeO.ite ?_ ?_)
   | (with_reducible refine LeO.bind ?_ (fun _ => ?_))
  ·intro y0 y1 y2 y3 y4
   unfold comp_Write.l0
   repeat' first
   | (with_reducible exact ih0 _ _ _ _)
   | (with_reducible exact ih1 _ _ _ _ _)
   | (with_reducible exact ih2 _ _ _ _ _)
   | (with_reducible exact comp_place.mono _ _ _)
   | (with_reducible exact name_Check.mono _ _)
   | (with_reducible exact name_Up.mono _ _)
   | (with_reducible exact octet_Put.mono _ _ _)
   | (with_reducible exact LeO.refl _)
   | (with_reducible exact LeO.none _)
   | (with_reducible refine LeO.ite ?_ ?_)
   | (with_reducible refine LeO.bind ?_ (fun _ => ?_))
  ·intro y0 y1 y2 y3 y4
   unfold comp_Write.j2
   repeat' first
   | (with_reducible exact ih0 _ _ _ _)
   | (with_reducible exact ih1 _ _ _ _ _)
   | (with_reducible exact ih2 _ _ _ _ _)
   | (with_reducible exact comp_place.mono _ _ _)
   | (with_reducible exact name_Check.mono _ _)
   | (with_reducible exact name_Up.mono _ _)
   | (with_reducible exact octet_Put.mono _ _ _)
   | (with_reducible exact LeO.refl _)
   | (with_reducible exact LeO.none _)
   | (with_reducible refine LeO.ite ?_ ?_)
   | (with_reducible refine LeO.bind ?_ (fun _ => ?_))
theorem comp_Write.mono : ∀ a0 a1 a2 k, LeO (comp_Write.f k a0 a1 a2) (comp_Write.f (k + 1) a0 a1 a2) := by
 intro a0 a1 a2 k
 obtain ⟨ih0, ih1, ih2⟩ := comp_Write.mono_l k
 unfold comp_Write.f
 repeat' first
   | (with_reducible exact ih0 _ _ _ _)
   | (with_reducible exact ih1 _ _ _ _ _)
   | (with_reducible exact ih2 _ _ _ _ _)
   | (with_reducible exact comp_place.mono _ _ _)
   | (with_reducible exact name_Check.mono _ _)
   | (with_reducible exact name_Up.mono _ _)
   | (with_reducible exact octet_Put.mono _ _ _)
   | (with_reducible exact LeO.refl _)
   | (with_reducible exact LeO.none _)
   | (with_reducible refine LeO.ite ?_ ?_)
   | (with_reducible refine LeO.bind ?_ (fun _ => ?_))
set_option maxHeartbeats 8000000 in
set_option maxRecDepth 100000 in
theorem comp_Write.calls (k : Nat) (a0 : ByteArray) (a1 : Int) (a2 : ByteArray) (r : ByteArray) (w : World) (h : comp_Write.f k a0 a1 a2 = some r) :
  Calls Try.prog 70 #[.string a0, .int .i64 a1, .string a2] w fun e w' => e = .returned (.string r) ∧ Below w.heap.size w w' := by
 have HB := Aside0.mk (Below.refl w.heap.size w)
 have H : ((name_Check.f k a0).bind fun t150 => (if t150 = true then ((name_Check.f k a2).bind fun t151 => (if t151 = true then (if a1 < 0 then (comp_Write.j0 k a0 a1 a2 true) else (comp_Write.j0 k a0 a1 a2 (decide (a1 > 16000)))) else (comp_Write.j0 k a0 a1 a2 true))) else (comp_Write.j0 k a0 a1 a2 true))) = some r := h
 clear h
 have HC4 := Aside0.mk H
 clear H
 go_enter Try.func70, Try.ntmps70
 go_upto_region 1 with (fail)
 go_cut [25] (fun v25 wc => ∃ (kq : Nat) (x25_3 : Bool), v25 = .bool x25_3 ∧ Aside0 (comp_Write.j0 kq a0 a1 a2 x25_3 = some r) ∧ Aside0 (kq ≤ k) ∧ Aside0 (Below w.heap.size w wc))
 case first =>
  have H := HC4.out
  clear HC4
  replace H := Option.bind_eq_some_iff.mp H
  obtain ⟨t150, A50, H⟩ := H
  replace H : (if t150 = true then ((name_Check.f k a2).bind fun t151 => (if t151 = true then (if a1 < 0 then (comp_Write.j0 k a0 a1 a2 true) else (comp_Write.j0 k a0 a1 a2 (decide (a1 > 16000)))) else (comp_Write.j0 k a0 a1 a2 true))) else (comp_Write.j0 k a0 a1 a2 true)) = some r := H
  have A5 := Aside0.mk A50
  clear A50
  by_cases c6 : t150 = true
  ·subst c6
   have H1 : ((name_Check.f k a2).bind fun t151 => (if t151 = true then (if a1 < 0 then (comp_Write.j0 k a0 a1 a2 true) else (comp_Write.j0 k a0 a1 a2 (decide (a1 > 16000)))) else (comp_Write.j0 k a0 a1 a2 true))) = some r := by rw [if_pos rfl] at H; exact H
   clear H
   have H := H1
   clear H1
   replace H := Option.bind_eq_some_iff.mp H
   obtain ⟨t151, A70, H⟩ := H
   replace H : (if t151 = true then (if a1 < 0 then (comp_Write.j0 k a0 a1 a2 true) else (comp_Write.j0 k a0 a1 a2 (decide (a1 > 16000)))) else (comp_Write.j0 k a0 a1 a2 true)) = some r := H
   have A7 := Aside0.mk A70
   clear A70
   by_cases c8 : t151 = true
   ·subst c8
    have H1 : (if a1 < 0 then (comp_Write.j0 k a0 a1 a2 true) else (comp_Write.j0 k a0 a1 a2 (decide (a1 > 16000)))) = some r := by rw [if_pos rfl] at H; exact H
    clear H
    have H := H1
    clear H1
    by_cases c9 : a1 < 0
    ·rw [if_pos c9] at H
     have c9b0 : decide (a1 < 0) = true := decide_eq_true c9
     clear c9
     (first | rw [c9b0] | (simp only [i64_w, i32_w]; rw [c9b0]) | skip)
     have H' := Aside0.mk H
     clear H
     go_wp2_with (first | ((with_reducible refine gate_callee (f := 46) rfl ?_); refine goesL_ (some 11) rfl rfl Try.func46 (by kernel_rfl) rfl #[.string a0] rfl (by (try simp only [List.map_toArray, List.map_cons, List.map_nil]); first | done | rfl | (simp only [List.length_drop, List.length_take]; rfl)) ?_; (with_reducible refine (name_Check.calls k a0 true _ A5.out).mono ?_); rintro e w10 ⟨rfl, hb⟩; refine ⟨_, rfl, ?_⟩; have n0_ := Aside0.mk (below_step (by repeat (first | (with_reducible first | exact HB.out | apply below_alloc | apply pw_below_drewN | apply below_drew1) | exact HB.out)) hb); clear HB; have HB := n0_; clear n0_; (try clear hb); (try clear hb2); (try clear hk); (try clear hi)) | (go_at_call 46; (with_reducible refine (name_Check.calls k a2 true _ A7.out).mono ?_); rintro e w11 ⟨rfl, hb⟩; have n0_ := Aside0.mk (below_step (by repeat (first | (with_reducible first | exact HB.out | apply below_alloc | apply pw_below_drewN | apply below_drew1) | exact HB.out)) hb); clear HB; have HB := n0_; clear n0_; (try clear hb); (try clear hb2); (try clear hk); (try clear hi)))
     go_meet
     case rel => exact ⟨_, (true), (by first | rfl | (simp; done) | (simp [*]; done)), H', ⟨by first | omega | exact Nat.le_refl _⟩, ⟨by repeat (first | (with_reducible first | exact HB.out | apply below_alloc | apply pw_below_drewN | apply below_drew1) | exact HB.out)⟩⟩
    ·rw [if_neg c9] at H
     have c9b0 : decide (a1 < 0) = false := decide_eq_false c9
     clear c9
     (first | rw [c9b0] | (simp only [i64_w, i32_w]; rw [c9b0]) | skip)
     have H' := Aside0.mk H
     clear H
     go_wp2_with (first | ((with_reducible refine gate_callee (f := 46) rfl ?_); refine goesL_ (some 11) rfl rfl Try.func46 (by kernel_rfl) rfl #[.string a0] rfl (by (try simp only [List.map_toArray, List.map_cons, List.map_nil]); first | done | rfl | (simp only [List.length_drop, List.length_take]; rfl)) ?_; (with_reducible refine (name_Check.calls k a0 true _ A5.out).mono ?_); rintro e w12 ⟨rfl, hb⟩; refine ⟨_, rfl, ?_⟩; have n0_ := Aside0.mk (below_step (by repeat (first | (with_reducible first | exact HB.out | apply below_alloc | apply pw_below_drewN | apply below_drew1) | exact HB.out)) hb); clear HB; have HB := n0_; clear n0_; (try clear hb); (try clear hb2); (try clear hk); (try clear hi)) | (go_at_call 46; (with_reducible refine (name_Check.calls k a2 true _ A7.out).mono ?_); rintro e w13 ⟨rfl, hb⟩; have n0_ := Aside0.mk (below_step (by repeat (first | (with_reducible first | exact HB.out | apply below_alloc | apply pw_below_drewN | apply below_drew1) | exact HB.out)) hb); clear HB; have HB := n0_; clear n0_; (try clear hb); (try clear hb2); (try clear hk); (try clear hi)))
     go_meet
     case rel => exact ⟨_, (decide (a1 > 16000)), (by first | rfl | (simp; done) | (simp [*]; done)), H', ⟨by first | omega | exact Nat.le_refl _⟩, ⟨by repeat (first | (with_reducible first | exact HB.out | apply below_alloc | apply pw_below_drewN | apply below_drew1) | exact HB.out)⟩⟩
   ·replace c8 := Bool.eq_false_iff.mpr c8
    subst c8
    have H1 : (comp_Write.j0 k a0 a1 a2 true) = some r := by rw [if_neg (show ¬ (false = true) by decide)] at H; exact H
    clear H
    have H := H1
    clear H1
    have H' := Aside0.mk H
    clear H
    go_wp2_with (first | ((with_reducible refine gate_callee (f := 46) rfl ?_); refine goesL_ (some 11) rfl rfl Try.func46 (by kernel_rfl) rfl #[.string a0] rfl (by (try simp only [List.map_toArray, List.map_cons, List.map_nil]); first | done | rfl | (simp only [List.length_drop, List.length_take]; rfl)) ?_; (with_reducible refine (name_Check.calls k a0 true _ A5.out).mono ?_); rintro e w14 ⟨rfl, hb⟩; refine ⟨_, rfl, ?_⟩; have n0_ := Aside0.mk (below_step (by repeat (first | (with_reducible first | exact HB.out | apply below_alloc | apply pw_below_drewN | apply below_drew1) | exact HB.out)) hb); clear HB; have HB := n0_; clear n0_; (try clear hb); (try clear hb2); (try clear hk); (try clear hi)) | (go_at_call 46; (with_reducible refine (name_Check.calls k a2 false _ A7.out).mono ?_); rintro e w15 ⟨rfl, hb⟩; have n0_ := Aside0.mk (below_step (by repeat (first | (with_reducible first | exact HB.out | apply below_alloc | apply pw_below_drewN | apply below_drew1) | exact HB.out)) hb); clear HB; have HB := n0_; clear n0_; (try clear hb); (try clear hb2); (try clear hk); (try clear hi)))
    go_meet
    case rel => exact ⟨_, (true), (by first | rfl | (simp; done) | (simp [*]; done)), H', ⟨by first | omega | exact Nat.le_refl _⟩, ⟨by repeat (first | (with_reducible first | exact HB.out | apply below_alloc | apply pw_below_drewN | apply below_drew1) | exact HB.out)⟩⟩
  ·replace c6 := Bool.eq_false_iff.mpr c6
   subst c6
   have H1 : (comp_Write.j0 k a0 a1 a2 true) = some r := by rw [if_neg (show ¬ (false = true) by decide)] at H; exact H
   clear H
   have H := H1
   clear H1
   have H' := Aside0.mk H
   clear H
   go_wp2_with (first | ((with_reducible refine gate_callee (f := 46) rfl ?_); refine goesL_ (some 11) rfl rfl Try.func46 (by kernel_rfl) rfl #[.string a0] rfl (by (try simp only [List.map_toArray, List.map_cons, List.map_nil]); first | done | rfl | (simp only [List.length_drop, List.length_take]; rfl)) ?_; (with_reducible refine (name_Check.calls k a0 false _ A5.out).mono ?_); rintro e w16 ⟨rfl, hb⟩; refine ⟨_, rfl, ?_⟩; have n0_ := Aside0.mk (below_step (by repeat (first | (with_reducible first | exact HB.out | apply below_alloc | apply pw_below_drewN | apply below_drew1) | exact HB.out)) hb); clear HB; have HB := n0_; clear n0_; (try clear hb); (try clear hb2); (try clear hk); (try clear hi)))
   go_meet
   case rel => exact ⟨_, (true), (by first | rfl | (simp; done) | (simp [*]; done)), H', ⟨by first | omega | exact Nat.le_refl _⟩, ⟨by repeat (first | (with_reducible first | exact HB.out | apply below_alloc | apply pw_below_drewN | apply below_drew1) | exact HB.out)⟩⟩
 case rest =>
  clear HC4
  try clear p2
  try clear c4
  try clear c6
  try clear c7
  try clear c8
  try clear c9
  try clear c9b0
  obtain ⟨kq, x25_3, rfl, HA, HJ3, HB⟩ := hcut
  cases kq with
  | zero => exact absurd HA.out (by simp [comp_Write.j0])
  | succ kj3 =>
   have H := HA.out
   clear HA
   simp only [comp_Write.j0] at H
   by_cases c17 : x25_3 = true
   ·subst c17
    have H1 : (some (⟨#[]⟩ : ByteArray)) = some r := by rw [if_pos rfl] at H; exact H
    clear H
    have H := H1
    clear H1
    obtain rfl := Option.some.inj H
    go_wp2
    go_ret
    exact ⟨by first | rfl | (simp [errW_none, errW_some] <;> rfl) | (simp [*, errW_none, errW_some] <;> rfl), by repeat (first | (with_reducible first | exact HB.out | apply below_alloc | apply pw_below_drewN | apply below_drew1) | exact HB.out)⟩
   ·replace c17 := Bool.eq_false_iff.mpr c17
    subst c17
    have H1 : (comp_Write.l0 kj3 a0 a1 a2 a2 true) = some r := by rw [if_neg (show ¬ (false = true) by decide)] at H; exact H
    clear H
    have H := H1
    clear H1
    have H' := Aside0.mk H
    clear H
    go_wp2
    go_loopg [7, 8] kj3 (fun kq v7 v8 w' => ∃ (x7_2 : ByteArray) (x8_2 : Bool), v7 = .string x7_2 ∧ v8 = .bool x8_2 ∧ Aside0 (comp_Write.l0 kq a0 a1 a2 x7_2 x8_2 = some r) ∧ Aside0 (kq ≤ kj3) ∧ Aside0 (Below w.heap.size w w'))
    case atStart => exact ⟨(a2), (true), (by first | rfl | (simp; done) | (simp [*]; done)), (by first | rfl | (simp; done) | (simp [*]; done)), H', ⟨Nat.le_refl _⟩, ⟨by repeat (first | (with_reducible first | exact HB.out | apply below_alloc | apply pw_below_drewN | apply below_drew1) | exact HB.out)⟩⟩
    case round =>
     clear H'
     try clear c1
     try clear p2
     try clear c4
     try clear c6
     try clear c7
     try clear c8
     try clear c9
     try clear c9b0
     try clear c17
     try clear p2
     obtain ⟨x7_2, x8_2, rfl, rfl, HA, HK2, HB⟩ := hrel
     cases gk with
     | zero => exact absurd HA.out (by simp [comp_Write.l0])
     | succ k2 =>
      have H := HA.out
      clear HA
      simp only [comp_Write.l0] at H
      have HC18 := Aside0.mk H
      clear H
      go_upto_region 4 with (fail)
      go_cut [32] (fun v32 wc => ∃ (kq : Nat) (x32_17 : Bool), v32 = .bool x32_17 ∧ Aside0 (comp_Write.j2 kq a0 a1 a2 x7_2 x32_17 = some r) ∧ Aside0 (kq ≤ k2) ∧ Aside0 (Below w.heap.size w wc))
      case first =>
       have H := HC18.out
       clear HC18
       by_cases c19 : x8_2 = true
       ·subst c19
        have H1 : (comp_Write.j2 k2 a0 a1 a2 x7_2 (decide ((x7_2.size : Int) > 1))) = some r := by rw [if_pos rfl] at H; exact H
        clear H
        have H := H1
        clear H1
        have H' := Aside0.mk H
        clear H
        go_wp2
        go_meet
        case rel => exact ⟨_, (decide ((x7_2.size : Int) > 1)), (by first | rfl | (simp; done) | (simp [*]; done)), H', ⟨by have := HJ3.out; have := HK2.out; first | omega | exact Nat.le_refl _⟩, ⟨by repeat (first | (with_reducible first | exact HB.out | apply below_alloc | apply pw_below_drewN | apply below_drew1) | exact HB.out)⟩⟩
       ·replace c19 := Bool.eq_false_iff.mpr c19
        subst c19
        have H1 : (comp_Write.j2 k2 a0 a1 a2 x7_2 false) = some r := by rw [if_neg (show ¬ (false = true) by decide)] at H; exact H
        clear H
        have H := H1
        clear H1
        have H' := Aside0.mk H
        clear H
        go_wp2
        go_meet
        case rel => exact ⟨_, (false), (by first | rfl | (simp; done) | (simp [*]; done)), H', ⟨by have := HJ3.out; have := HK2.out; first | omega | exact Nat.le_refl _⟩, ⟨by repeat (first | (with_reducible first | exact HB.out | apply below_alloc | apply pw_below_drewN | apply below_drew1) | exact HB.out)⟩⟩
      case rest =>
       clear HC18
       try clear c1
       try clear p2
       try clear c4
       try clear c6
       try clear c7
       try clear c8
       try clear c9
       try clear c9b0
       try clear c17
       try clear c19
       try clear p2
       obtain ⟨kq, x32_17, rfl, HA, HJ17, HB⟩ := hcut
       cases kq with
       | zero => exact absurd HA.out (by simp [comp_Write.j2])
       | succ kj17 =>
        have H := HA.out
        clear HA
        simp only [comp_Write.j2] at H
        by_cases c20 : x32_17 = true
        ·subst c20
         have H1 : ((comp_place.f kj17 a0 x7_2).bind fun t152 => (if t152 ≥ 0 then ((strings_TrimSuffix.f a2 x7_2).bind fun t153 => ((octet_Put.f kj17 (wrap64 ((wrap64 (49152 + a1)) + t152)) 2).bind fun t154 => (if t153.size + t154.size ≤ 9223372036854775807 then (some (t153 ++ t154)) else (none)))) else ((name_Up.f kj17 x7_2).bind fun bt155 => (comp_Write.l0 kj17 a0 a1 a2 bt155.1 bt155.2)))) = some r := by rw [if_pos rfl] at H; exact H
         clear H
         have H := H1
         clear H1
         replace H := Option.bind_eq_some_iff.mp H
         obtain ⟨t152, A210, H⟩ := H
         replace H : (if t152 ≥ 0 then ((strings_TrimSuffix.f a2 x7_2).bind fun t153 => ((octet_Put.f kj17 (wrap64 ((wrap64 (49152 + a1)) + t152)) 2).bind fun t154 => (if t153.size + t154.size ≤ 9223372036854775807 then (some (t153 ++ t154)) else (none)))) else ((name_Up.f kj17 x7_2).bind fun bt155 => (comp_Write.l0 kj17 a0 a1 a2 bt155.1 bt155.2))) = some r := H
         have A21 := Aside0.mk A210
         clear A210
         by_cases c22 : t152 ≥ 0
         ·rw [if_pos c22] at H
          have c22b0 : decide (0 ≤ t152) = true := decide_eq_true c22
          clear c22
          replace H := Option.bind_eq_some_iff.mp H
          obtain ⟨t153, A230, H⟩ := H
          replace H : ((octet_Put.f kj17 (wrap64 ((wrap64 (49152 + a1)) + t152)) 2).bind fun t154 => (if t153.size + t154.size ≤ 9223372036854775807 then (some (t153 ++ t154)) else (none))) = some r := H
          have A23 := Aside0.mk A230
          clear A230
          replace H := Option.bind_eq_some_iff.mp H
          obtain ⟨t154, A240, H⟩ := H
          replace H : (if t153.size + t154.size ≤ 9223372036854775807 then (some (t153 ++ t154)) else (none)) = some r := H
          have A24 := Aside0.mk A240
          clear A240
          by_cases c25 : t153.size + t154.size ≤ 9223372036854775807
          ·rw [if_pos c25] at H
           have c25b0 := eq_true c25
           have c25b1 : decide (t153.size + t154.size ≤ 9223372036854775807) = true := decide_eq_true c25
           try have c25b2 : (9223372036854775807 < t153.size + t154.size) = False := eq_false (Nat.not_lt.2 c25)
           obtain rfl := Option.some.inj H
           go_wp2_with (first | ((with_reducible refine gate_callee (f := 85) rfl ?_); refine goesL_ (some 40) rfl rfl Try.func85 (by kernel_rfl) rfl #[.string a0, .string x7_2] rfl (by (try simp only [List.map_toArray, List.map_cons, List.map_nil]); first | done | rfl | (simp only [List.length_drop, List.length_take]; rfl)) ?_; (with_reducible refine (comp_place.calls kj17 a0 x7_2 t152 _ A21.out).mono ?_); rintro e w26 ⟨rfl, hb⟩; refine ⟨_, rfl, ?_⟩; have n0_ := Aside0.mk (below_step (by repeat (first | (with_reducible first | exact HB.out | apply below_alloc | apply pw_below_drewN | apply below_drew1) | exact HB.out)) hb); clear HB; have HB := n0_; clear n0_; (try clear hb); (try clear hb2); (try clear hk); (try clear hi)) | ((with_reducible refine gate_callee (f := 86) rfl ?_); refine goesL_ (some 45) rfl rfl Try.func86 (by kernel_rfl) rfl #[.string a2, .string x7_2] rfl (by (try simp only [List.map_toArray, List.map_cons, List.map_nil]); first | done | rfl | (simp only [List.length_drop, List.length_take]; rfl)) ?_; (with_reducible refine (strings_TrimSuffix.calls a2 x7_2 t153 _ A23.out).mono ?_); rintro e w' ⟨rfl, ⟨nd, rfl⟩⟩; refine ⟨_, rfl, ?_⟩) | ((with_reducible refine gate_callee (f := 35) rfl ?_); refine goesL_ (some 50) rfl rfl Try.func35 (by kernel_rfl) rfl #[.int .i64 (wrap64 ((wrap64 (49152 + a1)) + t152)), .int .i64 2] rfl (by (try simp only [List.map_toArray, List.map_cons, List.map_nil]); first | done | rfl | (simp only [List.length_drop, List.length_take]; rfl)) ?_; (with_reducible refine (octet_Put.calls kj17 (wrap64 ((wrap64 (49152 + a1)) + t152)) 2 t154 _ A24.out).mono ?_); rintro e w27 ⟨rfl, hb⟩; refine ⟨_, rfl, ?_⟩; have n0_ := Aside0.mk (below_step (by repeat (first | (with_reducible first | exact HB.out | apply below_alloc | apply pw_below_drewN | apply below_drew1) | exact HB.out)) hb); clear HB; have HB := n0_; clear n0_; (try clear hb); (try clear hb2); (try clear hk); (try clear hi)))
           go_ret
           exact ⟨by first | rfl | (simp [errW_none, errW_some] <;> rfl) | (simp [*, errW_none, errW_some] <;> rfl), by repeat (first | (with_reducible first | exact HB.out | apply below_alloc | apply pw_below_drewN | apply below_drew1) | exact HB.out)⟩
          ·rw [if_neg c25] at H
           exact absurd H (by simp)
         ·rw [if_neg c22] at H
          have c22b0 : decide (0 ≤ t152) = false := decide_eq_false c22
          clear c22
          replace H := Option.bind_eq_some_iff.mp H
          obtain ⟨⟨t155, t156⟩, A280, H⟩ := H
          replace H : (comp_Write.l0 kj17 a0 a1 a2 t155 t156) = some r := H
          have A28 := Aside0.mk A280
          clear A280
          have H' := Aside0.mk H
          clear H
          go_wp2_with (first | ((with_reducible refine gate_callee (f := 85) rfl ?_); refine goesL_ (some 40) rfl rfl Try.func85 (by kernel_rfl) rfl #[.string a0, .string x7_2] rfl (by (try simp only [List.map_toArray, List.map_cons, List.map_nil]); first | done | rfl | (simp only [List.length_drop, List.length_take]; rfl)) ?_; (with_reducible refine (comp_place.calls kj17 a0 x7_2 t152 _ A21.out).mono ?_); rintro e w29 ⟨rfl, hb⟩; refine ⟨_, rfl, ?_⟩; have n0_ := Aside0.mk (below_step (by repeat (first | (with_reducible first | exact HB.out | apply below_alloc | apply pw_below_drewN | apply below_drew1) | exact HB.out)) hb); clear HB; have HB := n0_; clear n0_; (try clear hb); (try clear hb2); (try clear hk); (try clear hi)) | ((with_reducible refine gate_callee (f := 84) rfl ?_); refine goesL_ (some 35) rfl rfl Try.func84 (by kernel_rfl) rfl #[.string x7_2] rfl (by (try simp only [List.map_toArray, List.map_cons, List.map_nil]); first | done | rfl | (simp only [List.length_drop, List.length_take]; rfl)) ?_; (with_reducible refine (name_Up.calls kj17 x7_2 t155 t156 _ A28.out).mono ?_); rintro e w30 ⟨rfl, hb⟩; refine ⟨_, rfl, ?_⟩; have n0_ := Aside0.mk (below_step (by repeat (first | (with_reducible first | exact HB.out | apply below_alloc | apply pw_below_drewN | apply below_drew1) | exact HB.out)) hb); clear HB; have HB := n0_; clear n0_; (try clear hb); (try clear hb2); (try clear hk); (try clear hi)))
          go_roundg kj17
          case measure => have := HJ3.out; have := HK2.out; have := HJ17.out; omega
          case rel => exact ⟨(t155), (t156), (by first | rfl | (simp; done) | (simp [*]; done)), (by first | rfl | (simp; done) | (simp [*]; done)), H', ⟨by have := HJ3.out; have := HK2.out; have := HJ17.out; omega⟩, ⟨by repeat (first | (with_reducible first | exact HB.out | apply below_alloc | apply pw_below_drewN | apply below_drew1) | exact HB.out)⟩⟩
        ·replace c20 := Bool.eq_false_iff.mpr c20
         subst c20
         have H1 : (some a2) = some r := by rw [if_neg (show ¬ (false = true) by decide)] at H; exact H
         clear H
         have H := H1
         clear H1
         obtain rfl := Option.some.inj H
         go_wp2
         go_ret
         exact ⟨by first | rfl | (simp [errW_none, errW_some] <;> rfl) | (simp [*, errW_none, errW_some] <;> rfl), by repeat (first | (with_reducible first | exact HB.out | apply below_alloc | apply pw_below_drewN | apply below_drew1) | exact HB.out)⟩
def record_in.f (a0 : Int) (a1 : Int) : Option (Bool) := if a0 ≥ 0 then (some (decide (a0 ≤ a1))) else (some false)
set_option maxHeartbeats 8000000 in
set_option maxRecDepth 100000 in
theorem record_in.calls (a0 : Int) (a1 : Int) (r : Bool) (w : World) (h : record_in.f a0 a1 = some r) :
  Calls Try.prog 87 #[.int .i64 a0, .int .i64 a1] w fun e w' => e = .returned (.bool r) ∧ Drawn0 w w' := by
 have H : (if a0 ≥ 0 then (some (decide (a0 ≤ a1))) else (some false)) = some r := h
 clear h
 by_cases c3 : a0 ≥ 0
 ·rw [if_pos c3] at H
  have c3b0 : decide (0 ≤ a0) = true := decide_eq_true c3
  clear c3
  obtain rfl := Option.some.inj H
  go_enter Try.func87, Try.ntmps87
  go_wp2
  go_ret
  exact ⟨by first | rfl | (simp; done) | (simp [*]; done), by repeat (first | exact Drawn0.refl _ | apply Drawn0.step)⟩
 ·rw [if_neg c3] at H
  have c3b0 : decide (0 ≤ a0) = false := decide_eq_false c3
  clear c3
  obtain rfl := Option.some.inj H
  go_enter Try.func87, Try.ntmps87
  go_wp2
  go_ret
  exact ⟨by first | rfl | (simp; done) | (simp [*]; done), by repeat (first | exact Drawn0.refl _ | apply Drawn0.step)⟩
end Go.Proofs.Ytedjodnaalconaa.P
end
