/- Part 6 of 6 of the proof that 'YtedjodnaalconaaLawTmplTells' holds: functions of plain values for the Go functions that the law reaches, what each call comes to, and the plain law; of the words that the kit's print wrote, what these use. Written together by a program of this session; no condition of its own. -/
import Derived.Test.YtedjodnaalconaaTe5
import Derived.Test.YtedjodnaalconaaRows
import Derived.ProofKit
import Derived.ShutString
import Derived.ChangeOld
import Derived.SizedLaws
section
namespace Go.Proofs.Ytedjodnaalconaa.P
open Go.RowKit Go.Proofs.YtedjodnaalconaaW.PrintWords Go.Proofs.YtedjodnaalconaaW.PrintLast Go.Proofs.YtedjodnaalconaaW.PrintMore
attribute [local go_sem] max2_int min2_int max_two min_two max_three min_three max_four min_four
set_option linter.unusedVariables false
set_option linter.unusedSimpArgs false
def wellspringref18_Small.l0 : Nat → Int → ByteArray → Int → Int → Int → ByteArray → List (S74) → Option (Bool)
 | 0, _, _, _, _, _, _, _ => none
 | k + 1, x3, x411000, x411001, x411002, x411003, x411004, x411005 => if x3 < (x411005.length : Int) then (if 0 ≤ x3 then (if (((rd_T74 x411005 x3).f0).length : Int) > 60 then (some false) else (if (x411005.length : Int) > 20 then (some false) else (wellspringref18_Small.l0 k (wrap64 (x3 + 1)) x411000 x411001 x411002 x411003 x411004 x411005))) else (none)) else (if (x411004.size : Int) ≤ 20000 then (some (decide ((x411000.size : Int) ≤ 300))) else (some false))
def wellspringref18_Small.f (k : Nat) (a0_0 : ByteArray) (a0_1 : Int) (a0_2 : Int) (a0_3 : Int) (a0_4 : ByteArray) (l0_5 : List (S74)) : Option (Bool) := wellspringref18_Small.l0 k 0 a0_0 a0_1 a0_2 a0_3 a0_4 l0_5
theorem wellspringref18_Small.mono_l : ∀ k, (∀ y0 y1 y2 y3 y4 y5 y6, LeO (wellspringref18_Small.l0 k y0 y1 y2 y3 y4 y5 y6) (wellspringref18_Small.l0 (k + 1) y0 y1 y2 y3 y4 y5 y6))
 | 0 => fun _ _ _ _ _ _ _ r h => by simp [wellspringref18_Small.l0] at h
 | k + 1 => by
  have ih0 := wellspringref18_Small.mono_l k
  ·intro y0 y1 y2 y3 y4 y5 y6
   unfold wellspringref18_Small.l0
   repeat' first
   | (with_reducible exact ih0 _ _ _ _ _ _ _)
   | (with_reducible exact LeO.refl _)
   | (with_reducible exact LeO.none _)
   | (with_reducible refine LeO.ite ?_ ?_)
   | (with_reducible refine LeO.bind ?_ (fun _ => ?_))
theorem wellspringref18_Small.mono : ∀ a0 a1 a2 a3 a4 a5 k, LeO (wellspringref18_Small.f k a0 a1 a2 a3 a4 a5) (wellspringref18_Small.f (k + 1) a0 a1 a2 a3 a4 a5) := by
 intro a0 a1 a2 a3 a4 a5 k
 have ih0 := wellspringref18_Small.mono_l k
 unfold wellspringref18_Small.f
 repeat' first
   | (with_reducible exact ih0 _ _ _ _ _ _ _)
   | (with_reducible exact LeO.refl _)
   | (with_reducible exact LeO.none _)
   | (with_reducible refine LeO.ite ?_ ?_)
   | (with_reducible refine LeO.bind ?_ (fun _ => ?_))
set_option maxHeartbeats 8000000 in
set_option maxRecDepth 100000 in
theorem wellspringref18_Small.calls (k : Nat) (a0_0 : ByteArray) (a0_1 : Int) (a0_2 : Int) (a0_3 : Int) (a0_4 : ByteArray) (A0_5 : Option Addr) (c0_5 : Nat) (l0_5 : List (S74)) (r : Bool) (w : World) (hr0_5 : Kd.C k74 w A0_5 l0_5.length l0_5) (hc0_5 : l0_5.length ≤ c0_5) (h : wellspringref18_Small.f k a0_0 a0_1 a0_2 a0_3 a0_4 l0_5 = some r) :
  Calls Try.prog 16 #[.agg #[.string a0_0, .int .i64 a0_1, .int .i64 a0_2, .int .i64 a0_3, .string a0_4, .slice A0_5 l0_5.length c0_5]] w fun e w' => e = .returned (.bool r) ∧ Below w.heap.size w w' := by
 have hu46 := Try.underlying46
 have HR0_5 := Aside0.mk hr0_5
 have HC0_5 := Aside0.mk hc0_5
 clear hr0_5 hc0_5
 have HB := Aside0.mk (Below.refl w.heap.size w)
 have H : (wellspringref18_Small.l0 k 0 a0_0 a0_1 a0_2 a0_3 a0_4 l0_5) = some r := h
 clear h
 have H' := Aside0.mk H
 clear H
 go_enter Try.func16, Try.ntmps16
 go_wp2_with (first | ((with_reducible refine gate_dst (N := 1) rfl ?_); (try (refine gate_guard (by rfl) ?_; dsimp only)); refine box_event ?hg (N := 1) ?hd (cs := #[.string a0_0, .int .i64 a0_1, .int .i64 a0_2, .int .i64 a0_3, .string a0_4, .slice A0_5 l0_5.length c0_5]) (t := 46) ?hr ?_; (case hd => rfl); (case hg => rfl); (case hr => first | (go_simp; done) | (go_simp; rfl)); intro gb410 hg w2 hbox hb; have n0_ := Aside0.mk (below_step (by repeat (first | (with_reducible first | exact HB.out | apply below_alloc | apply pw_below_drewN | apply below_drew1) | exact HB.out)) hb); have n1_ := Aside0.mk (hbox); have n2_ := Aside0.mk ((by rw [hg]; exact (below_size (by repeat (first | (with_reducible first | exact HB.out | apply below_alloc | apply pw_below_drewN | apply below_drew1) | exact HB.out))) : w.heap.size ≤ gb410)); have n3_ := Aside0.mk ((by rw [hg]; exact (below_size (by repeat (first | (with_reducible first | exact HB.out | apply below_alloc | apply pw_below_drewN | apply below_drew1) | exact HB.out))) : w.heap.size ≤ gb410)); clear HB; have HB := n0_; have BK410 := n1_; have GW410 := n2_; have GE410 := n3_; clear n0_ n1_ n2_ n3_; clear hb hbox hg))
 go_loopg [3] k (fun kq v3 w' => ∃ (x3_1 : Int), v3 = .int .i64 x3_1 ∧ Aside0 (wellspringref18_Small.l0 kq x3_1 a0_0 a0_1 a0_2 a0_3 a0_4 l0_5 = some r) ∧ Aside0 (kq ≤ k) ∧ Aside0 (w'.heap[gb410]? = some (.cells #[.string a0_0, .int .i64 a0_1, .int .i64 a0_2, .int .i64 a0_3, .string a0_4, (.slice A0_5 l0_5.length c0_5)] 46 (0, 0))) ∧ Aside0 (Below w.heap.size w w'))
 case atStart => exact ⟨(0), (by first | rfl | (simp; done) | (simp [*]; done)), H', ⟨Nat.le_refl _⟩, ⟨by (with_reducible repeat (first | refine blk_drewN ?_ _ | refine blk_drew ?_ | refine blk_alloc ?_ _)); exact BK410.out⟩, ⟨by repeat (first | (with_reducible first | exact HB.out | apply below_alloc | apply pw_below_drewN | apply below_drew1 | refine below_set ?_ GE410.out) | exact HB.out)⟩⟩
 case round =>
  clear H'
  try clear c1
  try clear p2
  obtain ⟨x3_1, rfl, HA, HK1, BK410, HB⟩ := hrel
  cases gk with
  | zero => exact absurd HA.out (by simp [wellspringref18_Small.l0])
  | succ k1 =>
   have H := HA.out
   clear HA
   simp only [wellspringref18_Small.l0] at H
   by_cases c3 : x3_1 < (l0_5.length : Int)
   ·rw [if_pos c3] at H
    have c3b0 : decide (x3_1 < (l0_5.length : Int)) = true := decide_eq_true c3
    clear c3
    by_cases c4 : 0 ≤ x3_1
    ·rw [if_pos c4] at H
     have c4b0 : decide (0 ≤ x3_1) = true := decide_eq_true c4
     clear c4
     by_cases c5 : (((rd_T74 l0_5 x3_1).f0).length : Int) > 60
     ·rw [if_pos c5] at H
      have c5b0 : decide (60 < (((rd_T74 l0_5 x3_1).f0).length : Int)) = true := decide_eq_true c5
      have c5b1 : decide (60 < ((rd_T74 l0_5 x3_1).f0).length) = true := decide_eq_true (by omega)
      clear c5
      obtain rfl := Option.some.inj H
      have hcz6_0 : wr.cell? ⟨gb410, 0, none⟩ = some (.string a0_0) := (blk_cell BK410.out 0).trans rfl
      have hcz6_1 : wr.cell? ⟨gb410, 1, none⟩ = some (.int .i64 a0_1) := (blk_cell BK410.out 1).trans rfl
      have hcz6_2 : wr.cell? ⟨gb410, 2, none⟩ = some (.int .i64 a0_2) := (blk_cell BK410.out 2).trans rfl
      have hcz6_3 : wr.cell? ⟨gb410, 3, none⟩ = some (.int .i64 a0_3) := (blk_cell BK410.out 3).trans rfl
      have hcz6_4 : wr.cell? ⟨gb410, 4, none⟩ = some (.string a0_4) := (blk_cell BK410.out 4).trans rfl
      have hcz6_5 : wr.cell? ⟨gb410, 5, none⟩ = some (.slice A0_5 l0_5.length c0_5) := (blk_cell BK410.out 5).trans rfl
      have hfz6_0 := blk_frozen BK410.out 0
      have hfz6_1 := blk_frozen BK410.out 1
      have hfz6_2 := blk_frozen BK410.out 2
      have hfz6_3 := blk_frozen BK410.out 3
      have hfz6_4 := blk_frozen BK410.out 4
      have hfz6_5 := blk_frozen BK410.out 5
      have p411 : 0 ≤ (x3_1 : Int) := of_decide_eq_true (by first | (with_reducible assumption) | assumption)
      have q411 : x3_1 < (l0_5.length : Int) := of_decide_eq_true (by first | (with_reducible assumption) | assumption)
      obtain ⟨ad411, A411_0, c411_0, e411, hx411_0, hx411_1, hx411_2, hl411_0, hi411_0⟩ := at_T74 HR0_5.out x3_1 p411 q411
      cases e411
      replace hx411_0 := (HB.out.cell (World.block_lt_of_cell? w _ hx411_0)).trans hx411_0
      replace hx411_1 := (HB.out.cell (World.block_lt_of_cell? w _ hx411_1)).trans hx411_1
      replace hx411_2 := (HB.out.cell (World.block_lt_of_cell? w _ hx411_2)).trans hx411_2
      have HR411_0 := Aside0.mk hi411_0
      have HC411_0 := Aside0.mk hl411_0
      clear hi411_0 hl411_0
      replace p411 := eq_true p411
      replace q411 := eq_true q411
      go_wp2
      go_ret
      exact ⟨by first | rfl | (simp [errW_none, errW_some] <;> rfl) | (simp [*, errW_none, errW_some] <;> rfl), by repeat (first | (with_reducible first | exact HB.out | apply below_alloc | apply pw_below_drewN | apply below_drew1 | refine below_set ?_ GE410.out) | exact HB.out)⟩
     ·rw [if_neg c5] at H
      have c5b0 : decide (60 < (((rd_T74 l0_5 x3_1).f0).length : Int)) = false := decide_eq_false c5
      have c5b1 : decide (60 < ((rd_T74 l0_5 x3_1).f0).length) = false := decide_eq_false (by omega)
      clear c5
      by_cases c7 : (l0_5.length : Int) > 20
      ·rw [if_pos c7] at H
       have c7b0 : decide (20 < (l0_5.length : Int)) = true := decide_eq_true c7
       have c7b1 : decide (20 < l0_5.length) = true := decide_eq_true (by omega)
       clear c7
       obtain rfl := Option.some.inj H
       have hcz8_0 : wr.cell? ⟨gb410, 0, none⟩ = some (.string a0_0) := (blk_cell BK410.out 0).trans rfl
       have hcz8_1 : wr.cell? ⟨gb410, 1, none⟩ = some (.int .i64 a0_1) := (blk_cell BK410.out 1).trans rfl
       have hcz8_2 : wr.cell? ⟨gb410, 2, none⟩ = some (.int .i64 a0_2) := (blk_cell BK410.out 2).trans rfl
       have hcz8_3 : wr.cell? ⟨gb410, 3, none⟩ = some (.int .i64 a0_3) := (blk_cell BK410.out 3).trans rfl
       have hcz8_4 : wr.cell? ⟨gb410, 4, none⟩ = some (.string a0_4) := (blk_cell BK410.out 4).trans rfl
       have hcz8_5 : wr.cell? ⟨gb410, 5, none⟩ = some (.slice A0_5 l0_5.length c0_5) := (blk_cell BK410.out 5).trans rfl
       have hfz8_0 := blk_frozen BK410.out 0
       have hfz8_1 := blk_frozen BK410.out 1
       have hfz8_2 := blk_frozen BK410.out 2
       have hfz8_3 := blk_frozen BK410.out 3
       have hfz8_4 := blk_frozen BK410.out 4
       have hfz8_5 := blk_frozen BK410.out 5
       have p411 : 0 ≤ (x3_1 : Int) := of_decide_eq_true (by first | (with_reducible assumption) | assumption)
       have q411 : x3_1 < (l0_5.length : Int) := of_decide_eq_true (by first | (with_reducible assumption) | assumption)
       obtain ⟨ad411, A411_0, c411_0, e411, hx411_0, hx411_1, hx411_2, hl411_0, hi411_0⟩ := at_T74 HR0_5.out x3_1 p411 q411
       cases e411
       replace hx411_0 := (HB.out.cell (World.block_lt_of_cell? w _ hx411_0)).trans hx411_0
       replace hx411_1 := (HB.out.cell (World.block_lt_of_cell? w _ hx411_1)).trans hx411_1
       replace hx411_2 := (HB.out.cell (World.block_lt_of_cell? w _ hx411_2)).trans hx411_2
       have HR411_0 := Aside0.mk hi411_0
       have HC411_0 := Aside0.mk hl411_0
       clear hi411_0 hl411_0
       replace p411 := eq_true p411
       replace q411 := eq_true q411
       go_wp2
       go_ret
       exact ⟨by first | rfl | (simp [errW_none, errW_some] <;> rfl) | (simp [*, errW_none, errW_some] <;> rfl), by repeat (first | (with_reducible first | exact HB.out | apply below_alloc | apply pw_below_drewN | apply below_drew1 | refine below_set ?_ GE410.out) | exact HB.out)⟩
      ·rw [if_neg c7] at H
       have c7b0 : decide (20 < (l0_5.length : Int)) = false := decide_eq_false c7
       have c7b1 : decide (20 < l0_5.length) = false := decide_eq_false (by omega)
       clear c7
       have H' := Aside0.mk H
       clear H
       have hcz9_0 : wr.cell? ⟨gb410, 0, none⟩ = some (.string a0_0) := (blk_cell BK410.out 0).trans rfl
       have hcz9_1 : wr.cell? ⟨gb410, 1, none⟩ = some (.int .i64 a0_1) := (blk_cell BK410.out 1).trans rfl
       have hcz9_2 : wr.cell? ⟨gb410, 2, none⟩ = some (.int .i64 a0_2) := (blk_cell BK410.out 2).trans rfl
       have hcz9_3 : wr.cell? ⟨gb410, 3, none⟩ = some (.int .i64 a0_3) := (blk_cell BK410.out 3).trans rfl
       have hcz9_4 : wr.cell? ⟨gb410, 4, none⟩ = some (.string a0_4) := (blk_cell BK410.out 4).trans rfl
       have hcz9_5 : wr.cell? ⟨gb410, 5, none⟩ = some (.slice A0_5 l0_5.length c0_5) := (blk_cell BK410.out 5).trans rfl
       have hfz9_0 := blk_frozen BK410.out 0
       have hfz9_1 := blk_frozen BK410.out 1
       have hfz9_2 := blk_frozen BK410.out 2
       have hfz9_3 := blk_frozen BK410.out 3
       have hfz9_4 := blk_frozen BK410.out 4
       have hfz9_5 := blk_frozen BK410.out 5
       have p411 : 0 ≤ (x3_1 : Int) := of_decide_eq_true (by first | (with_reducible assumption) | assumption)
       have q411 : x3_1 < (l0_5.length : Int) := of_decide_eq_true (by first | (with_reducible assumption) | assumption)
       obtain ⟨ad411, A411_0, c411_0, e411, hx411_0, hx411_1, hx411_2, hl411_0, hi411_0⟩ := at_T74 HR0_5.out x3_1 p411 q411
       cases e411
       replace hx411_0 := (HB.out.cell (World.block_lt_of_cell? w _ hx411_0)).trans hx411_0
       replace hx411_1 := (HB.out.cell (World.block_lt_of_cell? w _ hx411_1)).trans hx411_1
       replace hx411_2 := (HB.out.cell (World.block_lt_of_cell? w _ hx411_2)).trans hx411_2
       have HR411_0 := Aside0.mk hi411_0
       have HC411_0 := Aside0.mk hl411_0
       clear hi411_0 hl411_0
       replace p411 := eq_true p411
       replace q411 := eq_true q411
       go_wp2
       go_roundg k1
       case measure => have := HK1.out; omega
       case rel => exact ⟨(wrap64 (x3_1 + 1)), (by first | rfl | (simp; done) | (simp [*]; done)), H', ⟨by have := HK1.out; omega⟩, ⟨by (with_reducible repeat (first | refine blk_drewN ?_ _ | refine blk_drew ?_ | refine blk_alloc ?_ _)); exact BK410.out⟩, ⟨by repeat (first | (with_reducible first | exact HB.out | apply below_alloc | apply pw_below_drewN | apply below_drew1 | refine below_set ?_ GE410.out) | exact HB.out)⟩⟩
    ·rw [if_neg c4] at H
     exact absurd H (by simp)
   ·rw [if_neg c3] at H
    have c3b0 : decide (x3_1 < (l0_5.length : Int)) = false := decide_eq_false c3
    clear c3
    by_cases c10 : (a0_4.size : Int) ≤ 20000
    ·rw [if_pos c10] at H
     have c10b0 : decide ((a0_4.size : Int) ≤ 20000) = true := decide_eq_true c10
     have c10b1 : decide (a0_4.size ≤ 20000) = true := decide_eq_true (by omega)
     clear c10
     obtain rfl := Option.some.inj H
     have hcz11_0 : wr.cell? ⟨gb410, 0, none⟩ = some (.string a0_0) := (blk_cell BK410.out 0).trans rfl
     have hcz11_1 : wr.cell? ⟨gb410, 1, none⟩ = some (.int .i64 a0_1) := (blk_cell BK410.out 1).trans rfl
     have hcz11_2 : wr.cell? ⟨gb410, 2, none⟩ = some (.int .i64 a0_2) := (blk_cell BK410.out 2).trans rfl
     have hcz11_3 : wr.cell? ⟨gb410, 3, none⟩ = some (.int .i64 a0_3) := (blk_cell BK410.out 3).trans rfl
     have hcz11_4 : wr.cell? ⟨gb410, 4, none⟩ = some (.string a0_4) := (blk_cell BK410.out 4).trans rfl
     have hcz11_5 : wr.cell? ⟨gb410, 5, none⟩ = some (.slice A0_5 l0_5.length c0_5) := (blk_cell BK410.out 5).trans rfl
     have hfz11_0 := blk_frozen BK410.out 0
     have hfz11_1 := blk_frozen BK410.out 1
     have hfz11_2 := blk_frozen BK410.out 2
     have hfz11_3 := blk_frozen BK410.out 3
     have hfz11_4 := blk_frozen BK410.out 4
     have hfz11_5 := blk_frozen BK410.out 5
     go_wp2
     go_ret
     exact ⟨by first | rfl | (simp [errW_none, errW_some] <;> rfl) | (simp [*, errW_none, errW_some] <;> rfl), by repeat (first | (with_reducible first | exact HB.out | apply below_alloc | apply pw_below_drewN | apply below_drew1 | refine below_set ?_ GE410.out) | exact HB.out)⟩
    ·rw [if_neg c10] at H
     have c10b0 : decide ((a0_4.size : Int) ≤ 20000) = false := decide_eq_false c10
     have c10b1 : decide (a0_4.size ≤ 20000) = false := decide_eq_false (by omega)
     clear c10
     obtain rfl := Option.some.inj H
     have hcz12_0 : wr.cell? ⟨gb410, 0, none⟩ = some (.string a0_0) := (blk_cell BK410.out 0).trans rfl
     have hcz12_1 : wr.cell? ⟨gb410, 1, none⟩ = some (.int .i64 a0_1) := (blk_cell BK410.out 1).trans rfl
     have hcz12_2 : wr.cell? ⟨gb410, 2, none⟩ = some (.int .i64 a0_2) := (blk_cell BK410.out 2).trans rfl
     have hcz12_3 : wr.cell? ⟨gb410, 3, none⟩ = some (.int .i64 a0_3) := (blk_cell BK410.out 3).trans rfl
     have hcz12_4 : wr.cell? ⟨gb410, 4, none⟩ = some (.string a0_4) := (blk_cell BK410.out 4).trans rfl
     have hcz12_5 : wr.cell? ⟨gb410, 5, none⟩ = some (.slice A0_5 l0_5.length c0_5) := (blk_cell BK410.out 5).trans rfl
     have hfz12_0 := blk_frozen BK410.out 0
     have hfz12_1 := blk_frozen BK410.out 1
     have hfz12_2 := blk_frozen BK410.out 2
     have hfz12_3 := blk_frozen BK410.out 3
     have hfz12_4 := blk_frozen BK410.out 4
     have hfz12_5 := blk_frozen BK410.out 5
     go_wp2
     go_ret
     exact ⟨by first | rfl | (simp [errW_none, errW_some] <;> rfl) | (simp [*, errW_none, errW_some] <;> rfl), by repeat (first | (with_reducible first | exact HB.out | apply below_alloc | apply pw_below_drewN | apply below_drew1 | refine below_set ?_ GE410.out) | exact HB.out)⟩
def wellspringlaw18_TmplTells.f (k : Nat) (a0_0 : ByteArray) (a0_1 : Int) (a0_2 : Int) (a0_3 : Int) (a0_4 : ByteArray) (l0_5 : List (S74)) (a1 : Int) (a2_0 : Int) (a2_1 : Int) : Option (Bool) := (wellspringref18_Small.f k a0_0 a0_1 a0_2 a0_3 a0_4 l0_5).bind fun t452 => (if t452 = true then ((wellspringlaw18_Own.f k a0_0 a0_1 a0_2 a0_3 a0_4 l0_5).bind fun bt454 => ((tmpl_Template_Check.f k bt454.1 bt454.2.1 bt454.2.2.1 bt454.2.2.2.1 bt454.2.2.2.2.1 bt454.2.2.2.2.2).bind fun t463 => ((wellspringref18_Check.f k a0_0 a0_1 a0_2 a0_3 a0_4 l0_5).bind fun t464 => (if (t463 == t464) = true then ((tmpl_Template_Live.f k bt454.1 bt454.2.1 bt454.2.2.1 bt454.2.2.2.1 bt454.2.2.2.2.1 bt454.2.2.2.2.2 a2_0).bind fun t465 => ((wellspringref18_Live.f k a0_0 a0_1 a0_2 a0_3 a0_4 l0_5 a2_0).bind fun t466 => (if (t465 == t466) = true then ((tmpl_Template_Part.f k bt454.1 bt454.2.1 bt454.2.2.1 bt454.2.2.2.1 bt454.2.2.2.2.1 bt454.2.2.2.2.2 a1 a2_0 a2_1).bind fun t467 => ((wellspringref18_Part.f k a0_0 a0_1 a0_2 a0_3 a0_4 l0_5 a1 a2_0 a2_1).bind fun t468 => (if t467.toList = t468.toList then ((wellspringlaw18_live.f).bind fun t469 => (some t469)) else (none)))) else (none)))) else (none))))) else ((wellspringlaw18_live.f).bind fun t453 => (some t453)))
theorem wellspringlaw18_TmplTells.mono : ∀ a0 a1 a2 a3 a4 a5 a6 a7 a8 k, LeO (wellspringlaw18_TmplTells.f k a0 a1 a2 a3 a4 a5 a6 a7 a8) (wellspringlaw18_TmplTells.f (k + 1) a0 a1 a2 a3 a4 a5 a6 a7 a8) := by
 intro a0 a1 a2 a3 a4 a5 a6 a7 a8 k
 unfold wellspringlaw18_TmplTells.f
 repeat' first
   | (with_reducible exact tmpl_Template_Check.mono _ _ _ _ _ _ _)
   | (with_reducible exact tmpl_Template_Live.mono _ _ _ _ _ _ _ _)
   | (with_reducible exact tmpl_Template_Part.mono _ _ _ _ _ _ _ _ _ _)
   | (with_reducible exact wellspringlaw18_Own.mono _ _ _ _ _ _ _)
   | (with_reducible exact wellspringref18_Check.mono _ _ _ _ _ _ _)
   | (with_reducible exact wellspringref18_Live.mono _ _ _ _ _ _ _ _)
   | (with_reducible exact wellspringref18_Part.mono _ _ _ _ _ _ _ _ _ _)
   | (with_reducible exact wellspringref18_Small.mono _ _ _ _ _ _ _)
   | (with_reducible exact LeO.refl _)
   | (with_reducible exact LeO.none _)
   | (with_reducible refine LeO.ite ?_ ?_)
   | (with_reducible refine LeO.bind ?_ (fun _ => ?_))
def wellspringlaw18_TmplTells.T4 : Bool × List (List Nat × List Nat) := (true, [([], []), ([0], [0]), ([], []), ([2, 1], [2]), ([1, 3], [1, 3]), ([4, 3], [4]), ([5], [5]), ([5], [5]), ([7, 5], [5, 7]), ([6, 8, 5, 5], [5, 6, 8]), ([5], [5]), ([5], [5]), ([11, 5], [5, 11]), ([10, 12, 9, 5], [5, 10, 12]), ([9, 13, 5], [5, 9, 13]), ([5, 14], [5, 14]), ([15, 13], [15]), ([16], [16]), ([16], [16]), ([16], [16]), ([19, 16], [16, 19]), ([16], [16]), ([21, 16], [16, 21]), ([17, 18, 20, 22, 16, 16], [16, 17, 18, 20, 22]), ([16], [16]), ([16], [16]), ([16], [16]), ([26, 16], [16, 26]), ([16], [16]), ([28, 16], [16, 28]), ([24, 25, 27, 29, 23, 16], [16, 24, 25, 27, 29]), ([23, 30, 16], [16, 23, 30]), ([16, 31], [16, 31]), ([32, 30], [32]), ([33, 33], [33]), ([33, 34], [33, 34]), ([35, 34, 0, 1, 2, 3, 4, 5, 6, 7, 8, 9, 10, 11, 12, 13, 14, 15, 16, 17, 18, 19, 20, 21, 22, 23, 24, 25, 26, 27, 28, 29, 30, 31, 32, 33, 34, 35], [35])])
def wellspringlaw18_TmplTells.B4 : List Nat := [0, 1, 0, 7, 15, 31, 63, 63, 191, 511, 63, 63, 2111, 8191, 16383, 32767, 65535, 131071, 131071, 131071, 655359, 131071, 2228223, 8388607, 131071, 131071, 131071, 67239935, 131071, 268566527, 1073741823, 2147483647, 4294967295, 8589934591, 17179869183, 34359738367, 68719476735]
theorem wellspringlaw18_TmplTells.tab4 : rtab .any (opsOf Try.f4 4) = wellspringlaw18_TmplTells.T4 := by kernel_rfl
theorem wellspringlaw18_TmplTells.bits4 : waitsOk wellspringlaw18_TmplTells.T4.2 wellspringlaw18_TmplTells.B4 = true := by kernel_rfl
set_option maxHeartbeats 8000000 in
set_option maxRecDepth 100000 in
theorem wellspringlaw18_TmplTells.calls (k : Nat) (a0_0 : ByteArray) (a0_1 : Int) (a0_2 : Int) (a0_3 : Int) (a0_4 : ByteArray) (A0_5 : Option Addr) (c0_5 : Nat) (l0_5 : List (S74)) (a1 : Int) (a2_0 : Int) (a2_1 : Int) (r : Bool) (w : World) (hr0_5 : Kd.C k74 w A0_5 l0_5.length l0_5) (hc0_5 : l0_5.length ≤ c0_5) (h : wellspringlaw18_TmplTells.f k a0_0 a0_1 a0_2 a0_3 a0_4 l0_5 a1 a2_0 a2_1 = some r) :
  Calls Try.prog 4 #[.agg #[.string a0_0, .int .i64 a0_1, .int .i64 a0_2, .int .i64 a0_3, .string a0_4, .slice A0_5 l0_5.length c0_5], .int .i64 a1, .agg #[.int .i64 a2_0, .int .i64 a2_1]] w fun e w' => e = .returned (.bool r) ∧ Below w.heap.size w w' := by
 have hu46 := Try.underlying46
 have hu52 := Try.underlying52
 have hu36 := Try.underlying36
 have HR0_5 := Aside0.mk hr0_5
 have HC0_5 := Aside0.mk hc0_5
 clear hr0_5 hc0_5
 have HB := Aside0.mk (Below.refl w.heap.size w)
 have H : ((wellspringref18_Small.f k a0_0 a0_1 a0_2 a0_3 a0_4 l0_5).bind fun t452 => (if t452 = true then ((wellspringlaw18_Own.f k a0_0 a0_1 a0_2 a0_3 a0_4 l0_5).bind fun bt454 => ((tmpl_Template_Check.f k bt454.1 bt454.2.1 bt454.2.2.1 bt454.2.2.2.1 bt454.2.2.2.2.1 bt454.2.2.2.2.2).bind fun t463 => ((wellspringref18_Check.f k a0_0 a0_1 a0_2 a0_3 a0_4 l0_5).bind fun t464 => (if (t463 == t464) = true then ((tmpl_Template_Live.f k bt454.1 bt454.2.1 bt454.2.2.1 bt454.2.2.2.1 bt454.2.2.2.2.1 bt454.2.2.2.2.2 a2_0).bind fun t465 => ((wellspringref18_Live.f k a0_0 a0_1 a0_2 a0_3 a0_4 l0_5 a2_0).bind fun t466 => (if (t465 == t466) = true then ((tmpl_Template_Part.f k bt454.1 bt454.2.1 bt454.2.2.1 bt454.2.2.2.1 bt454.2.2.2.2.1 bt454.2.2.2.2.2 a1 a2_0 a2_1).bind fun t467 => ((wellspringref18_Part.f k a0_0 a0_1 a0_2 a0_3 a0_4 l0_5 a1 a2_0 a2_1).bind fun t468 => (if t467.toList = t468.toList then ((wellspringlaw18_live.f).bind fun t469 => (some t469)) else (none)))) else (none)))) else (none))))) else ((wellspringlaw18_live.f).bind fun t453 => (some t453)))) = some r := h
 clear h
 replace H := Option.bind_eq_some_iff.mp H
 obtain ⟨t452, A40, H⟩ := H
 replace H : (if t452 = true then ((wellspringlaw18_Own.f k a0_0 a0_1 a0_2 a0_3 a0_4 l0_5).bind fun bt454 => ((tmpl_Template_Check.f k bt454.1 bt454.2.1 bt454.2.2.1 bt454.2.2.2.1 bt454.2.2.2.2.1 bt454.2.2.2.2.2).bind fun t463 => ((wellspringref18_Check.f k a0_0 a0_1 a0_2 a0_3 a0_4 l0_5).bind fun t464 => (if (t463 == t464) = true then ((tmpl_Template_Live.f k bt454.1 bt454.2.1 bt454.2.2.1 bt454.2.2.2.1 bt454.2.2.2.2.1 bt454.2.2.2.2.2 a2_0).bind fun t465 => ((wellspringref18_Live.f k a0_0 a0_1 a0_2 a0_3 a0_4 l0_5 a2_0).bind fun t466 => (if (t465 == t466) = true then ((tmpl_Template_Part.f k bt454.1 bt454.2.1 bt454.2.2.1 bt454.2.2.2.1 bt454.2.2.2.2.1 bt454.2.2.2.2.2 a1 a2_0 a2_1).bind fun t467 => ((wellspringref18_Part.f k a0_0 a0_1 a0_2 a0_3 a0_4 l0_5 a1 a2_0 a2_1).bind fun t468 => (if t467.toList = t468.toList then ((wellspringlaw18_live.f).bind fun t469 => (some t469)) else (none)))) else (none)))) else (none))))) else ((wellspringlaw18_live.f).bind fun t453 => (some t453))) = some r := H
 have A4 := Aside0.mk A40
 clear A40
 by_cases c5 : t452 = true
 ·subst c5
  have H1 : ((wellspringlaw18_Own.f k a0_0 a0_1 a0_2 a0_3 a0_4 l0_5).bind fun bt454 => ((tmpl_Template_Check.f k bt454.1 bt454.2.1 bt454.2.2.1 bt454.2.2.2.1 bt454.2.2.2.2.1 bt454.2.2.2.2.2).bind fun t463 => ((wellspringref18_Check.f k a0_0 a0_1 a0_2 a0_3 a0_4 l0_5).bind fun t464 => (if (t463 == t464) = true then ((tmpl_Template_Live.f k bt454.1 bt454.2.1 bt454.2.2.1 bt454.2.2.2.1 bt454.2.2.2.2.1 bt454.2.2.2.2.2 a2_0).bind fun t465 => ((wellspringref18_Live.f k a0_0 a0_1 a0_2 a0_3 a0_4 l0_5 a2_0).bind fun t466 => (if (t465 == t466) = true then ((tmpl_Template_Part.f k bt454.1 bt454.2.1 bt454.2.2.1 bt454.2.2.2.1 bt454.2.2.2.2.1 bt454.2.2.2.2.2 a1 a2_0 a2_1).bind fun t467 => ((wellspringref18_Part.f k a0_0 a0_1 a0_2 a0_3 a0_4 l0_5 a1 a2_0 a2_1).bind fun t468 => (if t467.toList = t468.toList then ((wellspringlaw18_live.f).bind fun t469 => (some t469)) else (none)))) else (none)))) else (none))))) = some r := by rw [if_pos rfl] at H; exact H
  clear H
  have H := H1
  clear H1
  replace H := Option.bind_eq_some_iff.mp H
  obtain ⟨⟨t454, t455, t456, t457, t458, t459⟩, A60, H⟩ := H
  replace H : ((tmpl_Template_Check.f k t454 t455 t456 t457 t458 t459).bind fun t463 => ((wellspringref18_Check.f k a0_0 a0_1 a0_2 a0_3 a0_4 l0_5).bind fun t464 => (if (t463 == t464) = true then ((tmpl_Template_Live.f k t454 t455 t456 t457 t458 t459 a2_0).bind fun t465 => ((wellspringref18_Live.f k a0_0 a0_1 a0_2 a0_3 a0_4 l0_5 a2_0).bind fun t466 => (if (t465 == t466) = true then ((tmpl_Template_Part.f k t454 t455 t456 t457 t458 t459 a1 a2_0 a2_1).bind fun t467 => ((wellspringref18_Part.f k a0_0 a0_1 a0_2 a0_3 a0_4 l0_5 a1 a2_0 a2_1).bind fun t468 => (if t467.toList = t468.toList then ((wellspringlaw18_live.f).bind fun t469 => (some t469)) else (none)))) else (none)))) else (none)))) = some r := H
  have A6 := Aside0.mk A60
  clear A60
  replace H := Option.bind_eq_some_iff.mp H
  obtain ⟨t463, A70, H⟩ := H
  replace H : ((wellspringref18_Check.f k a0_0 a0_1 a0_2 a0_3 a0_4 l0_5).bind fun t464 => (if (t463 == t464) = true then ((tmpl_Template_Live.f k t454 t455 t456 t457 t458 t459 a2_0).bind fun t465 => ((wellspringref18_Live.f k a0_0 a0_1 a0_2 a0_3 a0_4 l0_5 a2_0).bind fun t466 => (if (t465 == t466) = true then ((tmpl_Template_Part.f k t454 t455 t456 t457 t458 t459 a1 a2_0 a2_1).bind fun t467 => ((wellspringref18_Part.f k a0_0 a0_1 a0_2 a0_3 a0_4 l0_5 a1 a2_0 a2_1).bind fun t468 => (if t467.toList = t468.toList then ((wellspringlaw18_live.f).bind fun t469 => (some t469)) else (none)))) else (none)))) else (none))) = some r := H
  have A7 := Aside0.mk A70
  clear A70
  replace H := Option.bind_eq_some_iff.mp H
  obtain ⟨t464, A80, H⟩ := H
  replace H : (if (t463 == t464) = true then ((tmpl_Template_Live.f k t454 t455 t456 t457 t458 t459 a2_0).bind fun t465 => ((wellspringref18_Live.f k a0_0 a0_1 a0_2 a0_3 a0_4 l0_5 a2_0).bind fun t466 => (if (t465 == t466) = true then ((tmpl_Template_Part.f k t454 t455 t456 t457 t458 t459 a1 a2_0 a2_1).bind fun t467 => ((wellspringref18_Part.f k a0_0 a0_1 a0_2 a0_3 a0_4 l0_5 a1 a2_0 a2_1).bind fun t468 => (if t467.toList = t468.toList then ((wellspringlaw18_live.f).bind fun t469 => (some t469)) else (none)))) else (none)))) else (none)) = some r := H
  have A8 := Aside0.mk A80
  clear A80
  by_cases c9 : (t463 == t464) = true
  ·rw [if_pos c9] at H
   have c9b0 : (t463 == t464) = true := c9
   (try (have c9b1 : decide (t463 = t464) = true := by simpa using c9))
   (try (have c9b2 : (t463 == t464) = true := by simpa using c9))
   clear c9
   replace H := Option.bind_eq_some_iff.mp H
   obtain ⟨t465, A100, H⟩ := H
   replace H : ((wellspringref18_Live.f k a0_0 a0_1 a0_2 a0_3 a0_4 l0_5 a2_0).bind fun t466 => (if (t465 == t466) = true then ((tmpl_Template_Part.f k t454 t455 t456 t457 t458 t459 a1 a2_0 a2_1).bind fun t467 => ((wellspringref18_Part.f k a0_0 a0_1 a0_2 a0_3 a0_4 l0_5 a1 a2_0 a2_1).bind fun t468 => (if t467.toList = t468.toList then ((wellspringlaw18_live.f).bind fun t469 => (some t469)) else (none)))) else (none))) = some r := H
   have A10 := Aside0.mk A100
   clear A100
   replace H := Option.bind_eq_some_iff.mp H
   obtain ⟨t466, A110, H⟩ := H
   replace H : (if (t465 == t466) = true then ((tmpl_Template_Part.f k t454 t455 t456 t457 t458 t459 a1 a2_0 a2_1).bind fun t467 => ((wellspringref18_Part.f k a0_0 a0_1 a0_2 a0_3 a0_4 l0_5 a1 a2_0 a2_1).bind fun t468 => (if t467.toList = t468.toList then ((wellspringlaw18_live.f).bind fun t469 => (some t469)) else (none)))) else (none)) = some r := H
   have A11 := Aside0.mk A110
   clear A110
   by_cases c12 : (t465 == t466) = true
   ·rw [if_pos c12] at H
    have c12b0 : (t465 == t466) = true := c12
    (try (have c12b1 : decide (t465 = t466) = true := by simpa using c12))
    (try (have c12b2 : (t465 == t466) = true := by simpa using c12))
    clear c12
    replace H := Option.bind_eq_some_iff.mp H
    obtain ⟨t467, A130, H⟩ := H
    replace H : ((wellspringref18_Part.f k a0_0 a0_1 a0_2 a0_3 a0_4 l0_5 a1 a2_0 a2_1).bind fun t468 => (if t467.toList = t468.toList then ((wellspringlaw18_live.f).bind fun t469 => (some t469)) else (none))) = some r := H
    have A13 := Aside0.mk A130
    clear A130
    replace H := Option.bind_eq_some_iff.mp H
    obtain ⟨t468, A140, H⟩ := H
    replace H : (if t467.toList = t468.toList then ((wellspringlaw18_live.f).bind fun t469 => (some t469)) else (none)) = some r := H
    have A14 := Aside0.mk A140
    clear A140
    by_cases c15 : t467.toList = t468.toList
    ·rw [if_pos c15] at H
     have c15b0 : (t467.toList == t468.toList) = true := beq_iff_eq.mpr c15
     have c15b1 : (t467.toList != t468.toList) = false := bne_eq_false_iff_eq.mpr c15
     clear c15
     replace H := Option.bind_eq_some_iff.mp H
     obtain ⟨t469, A160, H⟩ := H
     replace H : (some t469) = some r := H
     have A16 := Aside0.mk A160
     clear A160
     obtain rfl := Option.some.inj H
     go_enter Try.func4, Try.ntmps4
     try go_wp2_with (first | ((with_reducible refine gate_dst (N := 3) rfl ?_); refine box_event ?hg (N := 3) ?hd (cs := #[.string a0_0, .int .i64 a0_1, .int .i64 a0_2, .int .i64 a0_3, .string a0_4, .slice A0_5 l0_5.length c0_5]) (t := 46) ?hr ?_; (case hd => rfl); (case hg => rfl); (case hr => first | (go_simp; done) | (go_simp; rfl)); intro gb450 hg w17 hbox hb; have n0_ := Aside0.mk (below_step (by repeat (first | (with_reducible first | exact HB.out | apply below_alloc | apply pw_below_drewN | apply below_drew1) | exact HB.out)) hb); have n1_ := Aside0.mk (hbox); have n2_ := Aside0.mk ((by rw [hg]; exact (below_size (by repeat (first | (with_reducible first | exact HB.out | apply below_alloc | apply pw_below_drewN | apply below_drew1) | exact HB.out))) : w.heap.size ≤ gb450)); have n3_ := Aside0.mk ((by rw [hg]; exact (below_size (by repeat (first | (with_reducible first | exact HB.out | apply below_alloc | apply pw_below_drewN | apply below_drew1) | exact HB.out))) : w.heap.size ≤ gb450)); clear HB; have HB := n0_; have BK450 := n1_; have GW450 := n2_; have GE450 := n3_; clear n0_ n1_ n2_ n3_; clear hb hbox hg) | ((with_reducible refine gate_dst (N := 5) rfl ?_); refine box_event ?hg (N := 5) ?hd (cs := #[.int .i64 a2_0, .int .i64 a2_1]) (t := 52) ?hr ?_; (case hd => rfl); (case hg => rfl); (case hr => first | (go_simp; done) | (go_simp; rfl)); intro gb451 hg w18 hbox hb; have n0_ := Aside0.mk (blk_below (g := gb450) (o := .cells #[.string a0_0, .int .i64 a0_1, .int .i64 a0_2, .int .i64 a0_3, .string a0_4, .slice A0_5 l0_5.length c0_5] 46 (0, 0)) (by (with_reducible repeat (first | refine blk_drewN ?_ _ | refine blk_drew ?_ | refine blk_alloc ?_ _)); exact BK450.out) hb); have n1_ := Aside0.mk (below_step (by repeat (first | (with_reducible first | exact HB.out | apply below_alloc | apply pw_below_drewN | apply below_drew1 | refine below_set ?_ GE450.out) | exact HB.out)) hb); have n2_ := Aside0.mk (hbox); have n3_ := Aside0.mk ((by rw [hg]; exact (below_size (by repeat (first | (with_reducible first | exact HB.out | apply below_alloc | apply pw_below_drewN | apply below_drew1 | refine below_set ?_ GE450.out) | exact HB.out))) : w.heap.size ≤ gb451)); have n4_ := Aside0.mk ((by rw [hg]; exact (below_size (by repeat (first | (with_reducible first | exact HB.out | apply below_alloc | apply pw_below_drewN | apply below_drew1 | refine below_set ?_ GE450.out) | exact HB.out))) : w.heap.size ≤ gb451)); have n5_ := Aside0.mk ((by rw [hg]; exact Nat.ne_of_lt (blk_lt (g := gb450) (o := .cells #[.string a0_0, .int .i64 a0_1, .int .i64 a0_2, .int .i64 a0_3, .string a0_4, .slice A0_5 l0_5.length c0_5] 46 (0, 0)) (by (with_reducible repeat (first | refine blk_drewN ?_ _ | refine blk_drew ?_ | refine blk_alloc ?_ _)); exact BK450.out)) : gb450 ≠ gb451)); have n6_ := Aside0.mk ((by rw [hg]; exact Nat.ne_of_gt (blk_lt (g := gb450) (o := .cells #[.string a0_0, .int .i64 a0_1, .int .i64 a0_2, .int .i64 a0_3, .string a0_4, .slice A0_5 l0_5.length c0_5] 46 (0, 0)) (by (with_reducible repeat (first | refine blk_drewN ?_ _ | refine blk_drew ?_ | refine blk_alloc ?_ _)); exact BK450.out)) : gb451 ≠ gb450)); clear BK450; clear HB; have BK450 := n0_; have HB := n1_; have BK451 := n2_; have GW451 := n3_; have GE451 := n4_; have NB450_451 := n5_; have NB451_450 := n6_; clear n0_ n1_ n2_ n3_ n4_ n5_ n6_; clear hb hbox hg; have hnb19 := NB450_451.out; have hnc19 := NB451_450.out; have hcz20_0 : w18.cell? ⟨gb450, 0, none⟩ = some (.string a0_0) := (blk_cell BK450.out 0).trans rfl; have hcz20_1 : w18.cell? ⟨gb450, 1, none⟩ = some (.int .i64 a0_1) := (blk_cell BK450.out 1).trans rfl; have hcz20_2 : w18.cell? ⟨gb450, 2, none⟩ = some (.int .i64 a0_2) := (blk_cell BK450.out 2).trans rfl; have hcz20_3 : w18.cell? ⟨gb450, 3, none⟩ = some (.int .i64 a0_3) := (blk_cell BK450.out 3).trans rfl; have hcz20_4 : w18.cell? ⟨gb450, 4, none⟩ = some (.string a0_4) := (blk_cell BK450.out 4).trans rfl; have hcz20_5 : w18.cell? ⟨gb450, 5, none⟩ = some (.slice A0_5 l0_5.length c0_5) := (blk_cell BK450.out 5).trans rfl; have hfz20_0 := blk_frozen BK450.out 0; have hfz20_1 := blk_frozen BK450.out 1; have hfz20_2 := blk_frozen BK450.out 2; have hfz20_3 := blk_frozen BK450.out 3; have hfz20_4 := blk_frozen BK450.out 4; have hfz20_5 := blk_frozen BK450.out 5) | ((with_reducible refine gate_callee (f := 16) rfl ?_); refine goesL_ (some 9) rfl rfl Try.func16 (by kernel_rfl) rfl #[.agg #[.string a0_0, .int .i64 a0_1, .int .i64 a0_2, .int .i64 a0_3, .string a0_4, .slice A0_5 l0_5.length c0_5]] rfl (by (try simp only [List.map_toArray, List.map_cons, List.map_nil]); first | done | rfl | (simp only [List.length_drop, List.length_take]; rfl)) ?_; (with_reducible refine (wellspringref18_Small.calls k a0_0 a0_1 a0_2 a0_3 a0_4 _ _ l0_5 true _ ?side1 ?side2 A4.out).mono ?_); (case side1 => repeat (first | exact (Kd.C_below HR0_5.out HB.out) | (with_reducible refine Kd.C_alloc ?_ _) | (with_reducible refine Kd.C_drewN ?_ _) | (with_reducible refine Kd.C_drew ?_))); (case side2 => exact HC0_5.out); rintro e w21 ⟨rfl, hb⟩; refine ⟨_, rfl, ?_⟩; have n0_ := Aside0.mk (blk_below (g := gb450) (o := .cells #[.string a0_0, .int .i64 a0_1, .int .i64 a0_2, .int .i64 a0_3, .string a0_4, .slice A0_5 l0_5.length c0_5] 46 (0, 0)) (by (with_reducible repeat (first | refine blk_drewN ?_ _ | refine blk_drew ?_ | refine blk_alloc ?_ _)); exact BK450.out) hb); have n1_ := Aside0.mk (blk_below (g := gb451) (o := .cells #[.int .i64 a2_0, .int .i64 a2_1] 52 (0, 0)) (by (with_reducible repeat (first | refine blk_drewN ?_ _ | refine blk_drew ?_ | refine blk_alloc ?_ _)); exact BK451.out) hb); have n2_ := Aside0.mk (below_step (by repeat (first | (with_reducible first | exact HB.out | apply below_alloc | apply pw_below_drewN | apply below_drew1 | refine below_set ?_ GE450.out | refine below_set ?_ GE451.out) | exact HB.out)) hb); clear BK450; clear BK451; clear HB; have BK450 := n0_; have BK451 := n1_; have HB := n2_; clear n0_ n1_ n2_; (try clear hb); (try clear hb2); (try clear hk); (try clear hi); have hcz22_0 : w21.cell? ⟨gb450, 0, none⟩ = some (.string a0_0) := (blk_cell BK450.out 0).trans rfl; have hcz22_1 : w21.cell? ⟨gb450, 1, none⟩ = some (.int .i64 a0_1) := (blk_cell BK450.out 1).trans rfl; have hcz22_2 : w21.cell? ⟨gb450, 2, none⟩ = some (.int .i64 a0_2) := (blk_cell BK450.out 2).trans rfl; have hcz22_3 : w21.cell? ⟨gb450, 3, none⟩ = some (.int .i64 a0_3) := (blk_cell BK450.out 3).trans rfl; have hcz22_4 : w21.cell? ⟨gb450, 4, none⟩ = some (.string a0_4) := (blk_cell BK450.out 4).trans rfl; have hcz22_5 : w21.cell? ⟨gb450, 5, none⟩ = some (.slice A0_5 l0_5.length c0_5) := (blk_cell BK450.out 5).trans rfl; have hfz22_0 := blk_frozen BK450.out 0; have hfz22_1 := blk_frozen BK450.out 1; have hfz22_2 := blk_frozen BK450.out 2; have hfz22_3 := blk_frozen BK450.out 3; have hfz22_4 := blk_frozen BK450.out 4; have hfz22_5 := blk_frozen BK450.out 5) | ((with_reducible refine gate_callee (f := 17) rfl ?_); refine goesL_ (some 13) rfl rfl Try.func17 (by kernel_rfl) rfl #[.agg #[.string a0_0, .int .i64 a0_1, .int .i64 a0_2, .int .i64 a0_3, .string a0_4, .slice A0_5 l0_5.length c0_5]] rfl (by (try simp only [List.map_toArray, List.map_cons, List.map_nil]); first | done | rfl | (simp only [List.length_drop, List.length_take]; rfl)) ?_; (with_reducible refine (wellspringlaw18_Own.calls k a0_0 a0_1 a0_2 a0_3 a0_4 _ _ l0_5 t454 t455 t456 t457 t458 t459 _ ?side1 ?side2 A6.out).mono ?_); (case side1 => repeat (first | exact (Kd.C_below HR0_5.out HB.out) | (with_reducible refine Kd.C_alloc ?_ _) | (with_reducible refine Kd.C_drewN ?_ _) | (with_reducible refine Kd.C_drew ?_))); (case side2 => exact HC0_5.out); rintro e w23 ⟨v460, rfl, ho0, hb⟩; refine ⟨_, rfl, ?_⟩; have n0_ := Aside0.mk (Kd.S_lower ho0 (below_size (by repeat (first | (with_reducible first | exact HB.out | apply below_alloc | apply pw_below_drewN | apply below_drew1 | refine below_set ?_ GE450.out | refine below_set ?_ GE451.out) | exact HB.out)))); have n1_ := Aside0.mk (blk_below (g := gb450) (o := .cells #[.string a0_0, .int .i64 a0_1, .int .i64 a0_2, .int .i64 a0_3, .string a0_4, .slice A0_5 l0_5.length c0_5] 46 (0, 0)) (by (with_reducible repeat (first | refine blk_drewN ?_ _ | refine blk_drew ?_ | refine blk_alloc ?_ _)); exact BK450.out) hb); have n2_ := Aside0.mk (blk_below (g := gb451) (o := .cells #[.int .i64 a2_0, .int .i64 a2_1] 52 (0, 0)) (by (with_reducible repeat (first | refine blk_drewN ?_ _ | refine blk_drew ?_ | refine blk_alloc ?_ _)); exact BK451.out) hb); have n3_ := Aside0.mk (below_step (by repeat (first | (with_reducible first | exact HB.out | apply below_alloc | apply pw_below_drewN | apply below_drew1 | refine below_set ?_ GE450.out | refine below_set ?_ GE451.out) | exact HB.out)) hb); clear BK450; clear BK451; clear HB; have HO461 := n0_; have BK450 := n1_; have BK451 := n2_; have HB := n3_; clear n0_ n1_ n2_ n3_; (try clear hb); (try clear hb2); (try clear hk); (try clear hi); (try clear ho0)) | ((with_reducible refine gate_dst (N := 7) rfl ?_); refine box_event ?hg (N := 7) ?hd (cs := #[.string (⟨#[]⟩ : ByteArray), .int .i64 0, .int .i64 0, .int .i64 0, .string (⟨#[]⟩ : ByteArray), .slice none 0 0]) (t := 36) ?hr ?_; (case hd => rfl); (case hg => rfl); (case hr => first | (go_simp; done) | (go_simp; rfl)); intro gb462 hg w24 hbox hb; have n0_ := Aside0.mk (Kd.S_below (by (with_reducible repeat (first | apply Kd.S_alloc | apply Kd.S_drewN | apply Kd.S_drew)); exact HO461.out) hb); have n1_ := Aside0.mk (blk_below (g := gb450) (o := .cells #[.string a0_0, .int .i64 a0_1, .int .i64 a0_2, .int .i64 a0_3, .string a0_4, .slice A0_5 l0_5.length c0_5] 46 (0, 0)) (by (with_reducible repeat (first | refine blk_drewN ?_ _ | refine blk_drew ?_ | refine blk_alloc ?_ _)); exact BK450.out) hb); have n2_ := Aside0.mk (blk_below (g := gb451) (o := .cells #[.int .i64 a2_0, .int .i64 a2_1] 52 (0, 0)) (by (with_reducible repeat (first | refine blk_drewN ?_ _ | refine blk_drew ?_ | refine blk_alloc ?_ _)); exact BK451.out) hb); have n3_ := Aside0.mk (below_step (by repeat (first | (with_reducible first | exact HB.out | apply below_alloc | apply pw_below_drewN | apply below_drew1 | refine below_set ?_ GE450.out | refine below_set ?_ GE451.out) | exact HB.out)) hb); have n4_ := Aside0.mk (hbox); have n5_ := Aside0.mk ((by rw [hg]; exact (below_size (by repeat (first | (with_reducible first | exact HB.out | apply below_alloc | apply pw_below_drewN | apply below_drew1 | refine below_set ?_ GE450.out | refine below_set ?_ GE451.out) | exact HB.out))) : w.heap.size ≤ gb462)); have n6_ := Aside0.mk ((by rw [hg]; exact (below_size (by repeat (first | (with_reducible first | exact HB.out | apply below_alloc | apply pw_below_drewN | apply below_drew1 | refine below_set ?_ GE450.out | refine below_set ?_ GE451.out) | exact HB.out))) : w.heap.size ≤ gb462)); have n7_ := Aside0.mk ((by rw [hg]; exact Nat.ne_of_lt (blk_lt (g := gb450) (o := .cells #[.string a0_0, .int .i64 a0_1, .int .i64 a0_2, .int .i64 a0_3, .string a0_4, .slice A0_5 l0_5.length c0_5] 46 (0, 0)) (by (with_reducible repeat (first | refine blk_drewN ?_ _ | refine blk_drew ?_ | refine blk_alloc ?_ _)); exact BK450.out)) : gb450 ≠ gb462)); have n8_ := Aside0.mk ((by rw [hg]; exact Nat.ne_of_gt (blk_lt (g := gb450) (o := .cells #[.string a0_0, .int .i64 a0_1, .int .i64 a0_2, .int .i64 a0_3, .string a0_4, .slice A0_5 l0_5.length c0_5] 46 (0, 0)) (by (with_reducible repeat (first | refine blk_drewN ?_ _ | refine blk_drew ?_ | refine blk_alloc ?_ _)); exact BK450.out)) : gb462 ≠ gb450)); have n9_ := Aside0.mk ((by rw [hg]; exact Nat.ne_of_lt (blk_lt (g := gb451) (o := .cells #[.int .i64 a2_0, .int .i64 a2_1] 52 (0, 0)) (by (with_reducible repeat (first | refine blk_drewN ?_ _ | refine blk_drew ?_ | refine blk_alloc ?_ _)); exact BK451.out)) : gb451 ≠ gb462)); have n10_ := Aside0.mk ((by rw [hg]; exact Nat.ne_of_gt (blk_lt (g := gb451) (o := .cells #[.int .i64 a2_0, .int .i64 a2_1] 52 (0, 0)) (by (with_reducible repeat (first | refine blk_drewN ?_ _ | refine blk_drew ?_ | refine blk_alloc ?_ _)); exact BK451.out)) : gb462 ≠ gb451)); clear HO461; clear BK450; clear BK451; clear HB; have HO461 := n0_; have BK450 := n1_; have BK451 := n2_; have HB := n3_; have BK462 := n4_; have GW462 := n5_; have GE462 := n6_; have NB450_462 := n7_; have NB462_450 := n8_; have NB451_462 := n9_; have NB462_451 := n10_; clear n0_ n1_ n2_ n3_ n4_ n5_ n6_ n7_ n8_ n9_ n10_; clear hb hbox hg; have hnb25 := NB462_450.out; have hnc25 := NB450_462.out; have hnb26 := NB462_451.out; have hnc26 := NB451_462.out; have hcz27_0 : w24.cell? ⟨gb462, 0, none⟩ = some (.string (⟨#[]⟩ : ByteArray)) := (blk_cell BK462.out 0).trans rfl; have hcz27_1 : w24.cell? ⟨gb462, 1, none⟩ = some (.int .i64 0) := (blk_cell BK462.out 1).trans rfl; have hcz27_2 : w24.cell? ⟨gb462, 2, none⟩ = some (.int .i64 0) := (blk_cell BK462.out 2).trans rfl; have hcz27_3 : w24.cell? ⟨gb462, 3, none⟩ = some (.int .i64 0) := (blk_cell BK462.out 3).trans rfl; have hcz27_4 : w24.cell? ⟨gb462, 4, none⟩ = some (.string (⟨#[]⟩ : ByteArray)) := (blk_cell BK462.out 4).trans rfl; have hcz27_5 : w24.cell? ⟨gb462, 5, none⟩ = some (.slice none 0 0) := (blk_cell BK462.out 5).trans rfl; have hfz27_0 := blk_frozen BK462.out 0; have hfz27_1 := blk_frozen BK462.out 1; have hfz27_2 := blk_frozen BK462.out 2; have hfz27_3 := blk_frozen BK462.out 3; have hfz27_4 := blk_frozen BK462.out 4; have hfz27_5 := blk_frozen BK462.out 5; obtain ⟨Ao28, co28, eo28⟩ := Kd.S_slice HO461.out; subst eo28))
     have n0_ : Aside0 (Kd.S k69 69 ((((((w24.setCell ⟨gb462, 0, none⟩ (.string t454)).setCell ⟨gb462, 1, none⟩ (.int .i64 t455)).setCell ⟨gb462, 2, none⟩ (.int .i64 t456)).setCell ⟨gb462, 3, none⟩ (.int .i64 t457)).setCell ⟨gb462, 4, none⟩ (.string t458)).setCell ⟨gb462, 5, none⟩ (.slice Ao28 t459.length co28)) w.heap.size (fun _ => True) (.slice Ao28 t459.length co28) t459) := ⟨by (with_reducible repeat (first | apply Kd.S_alloc | apply Kd.S_drewN | apply Kd.S_drew)); exact Kd.S_mono (Kd.S_far (p := ⟨gb462, 5, none⟩) (Kd.S_far (p := ⟨gb462, 4, none⟩) (Kd.S_far (p := ⟨gb462, 3, none⟩) (Kd.S_far (p := ⟨gb462, 2, none⟩) (Kd.S_far (p := ⟨gb462, 1, none⟩) (Kd.S_far (p := ⟨gb462, 0, none⟩) (Kd.S_types HO461.out BK462.out (by decide)) (fun _ hk => hk.2) (.string t454)) (fun _ hk => hk.2) (.int .i64 t455)) (fun _ hk => hk.2) (.int .i64 t456)) (fun _ hk => hk.2) (.int .i64 t457)) (fun _ hk => hk.2) (.string t458)) (fun _ hk => hk.2) (.slice Ao28 t459.length co28)) (fun _ hk => trivial)⟩
     have n1_ : Aside0 (((((((w24.setCell ⟨gb462, 0, none⟩ (.string t454)).setCell ⟨gb462, 1, none⟩ (.int .i64 t455)).setCell ⟨gb462, 2, none⟩ (.int .i64 t456)).setCell ⟨gb462, 3, none⟩ (.int .i64 t457)).setCell ⟨gb462, 4, none⟩ (.string t458)).setCell ⟨gb462, 5, none⟩ (.slice Ao28 t459.length co28)).heap[gb450]? = some (.cells #[.string a0_0, .int .i64 a0_1, .int .i64 a0_2, .int .i64 a0_3, .string a0_4, .slice A0_5 l0_5.length c0_5] 46 (0, 0))) := ⟨by (with_reducible repeat (first | refine blk_drewN ?_ _ | refine blk_drew ?_ | refine blk_alloc ?_ _)); refine blk_far ?_ NB450_462.out _; (with_reducible repeat (first | refine blk_drewN ?_ _ | refine blk_drew ?_ | refine blk_alloc ?_ _)); refine blk_far ?_ NB450_462.out _; (with_reducible repeat (first | refine blk_drewN ?_ _ | refine blk_drew ?_ | refine blk_alloc ?_ _)); refine blk_far ?_ NB450_462.out _; (with_reducible repeat (first | refine blk_drewN ?_ _ | refine blk_drew ?_ | refine blk_alloc ?_ _)); refine blk_far ?_ NB450_462.out _; (with_reducible repeat (first | refine blk_drewN ?_ _ | refine blk_drew ?_ | refine blk_alloc ?_ _)); refine blk_far ?_ NB450_462.out _; (with_reducible repeat (first | refine blk_drewN ?_ _ | refine blk_drew ?_ | refine blk_alloc ?_ _)); refine blk_far ?_ NB450_462.out _; (with_reducible repeat (first | refine blk_drewN ?_ _ | refine blk_drew ?_ | refine blk_alloc ?_ _)); exact BK450.out⟩
     have n2_ : Aside0 (((((((w24.setCell ⟨gb462, 0, none⟩ (.string t454)).setCell ⟨gb462, 1, none⟩ (.int .i64 t455)).setCell ⟨gb462, 2, none⟩ (.int .i64 t456)).setCell ⟨gb462, 3, none⟩ (.int .i64 t457)).setCell ⟨gb462, 4, none⟩ (.string t458)).setCell ⟨gb462, 5, none⟩ (.slice Ao28 t459.length co28)).heap[gb451]? = some (.cells #[.int .i64 a2_0, .int .i64 a2_1] 52 (0, 0))) := ⟨by (with_reducible repeat (first | refine blk_drewN ?_ _ | refine blk_drew ?_ | refine blk_alloc ?_ _)); refine blk_far ?_ NB451_462.out _; (with_reducible repeat (first | refine blk_drewN ?_ _ | refine blk_drew ?_ | refine blk_alloc ?_ _)); refine blk_far ?_ NB451_462.out _; (with_reducible repeat (first | refine blk_drewN ?_ _ | refine blk_drew ?_ | refine blk_alloc ?_ _)); refine blk_far ?_ NB451_462.out _; (with_reducible repeat (first | refine blk_drewN ?_ _ | refine blk_drew ?_ | refine blk_alloc ?_ _)); refine blk_far ?_ NB451_462.out _; (with_reducible repeat (first | refine blk_drewN ?_ _ | refine blk_drew ?_ | refine blk_alloc ?_ _)); refine blk_far ?_ NB451_462.out _; (with_reducible repeat (first | refine blk_drewN ?_ _ | refine blk_drew ?_ | refine blk_alloc ?_ _)); refine blk_far ?_ NB451_462.out _; (with_reducible repeat (first | refine blk_drewN ?_ _ | refine blk_drew ?_ | refine blk_alloc ?_ _)); exact BK451.out⟩
     have n3_ : Aside0 (((((((w24.setCell ⟨gb462, 0, none⟩ (.string t454)).setCell ⟨gb462, 1, none⟩ (.int .i64 t455)).setCell ⟨gb462, 2, none⟩ (.int .i64 t456)).setCell ⟨gb462, 3, none⟩ (.int .i64 t457)).setCell ⟨gb462, 4, none⟩ (.string t458)).setCell ⟨gb462, 5, none⟩ (.slice Ao28 t459.length co28)).heap[gb462]? = some (.cells #[.string t454, .int .i64 t455, .int .i64 t456, .int .i64 t457, .string t458, .slice Ao28 t459.length co28] 36 (0, 0))) := ⟨by (with_reducible repeat (first | refine blk_drewN ?_ _ | refine blk_drew ?_ | refine blk_alloc ?_ _)); refine blk_put (cs := #[.string t454, .int .i64 t455, .int .i64 t456, .int .i64 t457, .string t458, .slice none 0 0]) ?_ 5 _ rfl; (with_reducible repeat (first | refine blk_drewN ?_ _ | refine blk_drew ?_ | refine blk_alloc ?_ _)); refine blk_put (cs := #[.string t454, .int .i64 t455, .int .i64 t456, .int .i64 t457, .string (⟨#[]⟩ : ByteArray), .slice none 0 0]) ?_ 4 _ rfl; (with_reducible repeat (first | refine blk_drewN ?_ _ | refine blk_drew ?_ | refine blk_alloc ?_ _)); refine blk_put (cs := #[.string t454, .int .i64 t455, .int .i64 t456, .int .i64 0, .string (⟨#[]⟩ : ByteArray), .slice none 0 0]) ?_ 3 _ rfl; (with_reducible repeat (first | refine blk_drewN ?_ _ | refine blk_drew ?_ | refine blk_alloc ?_ _)); refine blk_put (cs := #[.string t454, .int .i64 t455, .int .i64 0, .int .i64 0, .string (⟨#[]⟩ : ByteArray), .slice none 0 0]) ?_ 2 _ rfl; (with_reducible repeat (first | refine blk_drewN ?_ _ | refine blk_drew ?_ | refine blk_alloc ?_ _)); refine blk_put (cs := #[.string t454, .int .i64 0, .int .i64 0, .int .i64 0, .string (⟨#[]⟩ : ByteArray), .slice none 0 0]) ?_ 1 _ rfl; (with_reducible repeat (first | refine blk_drewN ?_ _ | refine blk_drew ?_ | refine blk_alloc ?_ _)); refine blk_put (cs := #[.string (⟨#[]⟩ : ByteArray), .int .i64 0, .int .i64 0, .int .i64 0, .string (⟨#[]⟩ : ByteArray), .slice none 0 0]) ?_ 0 _ rfl; (with_reducible repeat (first | refine blk_drewN ?_ _ | refine blk_drew ?_ | refine blk_alloc ?_ _)); exact BK462.out⟩
     have n4_ : Aside0 (Below w.heap.size w ((((((w24.setCell ⟨gb462, 0, none⟩ (.string t454)).setCell ⟨gb462, 1, none⟩ (.int .i64 t455)).setCell ⟨gb462, 2, none⟩ (.int .i64 t456)).setCell ⟨gb462, 3, none⟩ (.int .i64 t457)).setCell ⟨gb462, 4, none⟩ (.string t458)).setCell ⟨gb462, 5, none⟩ (.slice Ao28 t459.length co28))) := ⟨by repeat (first | (with_reducible first | exact HB.out | apply below_alloc | apply pw_below_drewN | apply below_drew1 | refine below_set ?_ GE450.out | refine below_set ?_ GE451.out | refine below_set ?_ GE462.out) | exact HB.out)⟩
     (try clear HO461)
     (try clear BK450)
     (try clear BK451)
     (try clear BK462)
     (try clear HB)
     generalize ((((((w24.setCell ⟨gb462, 0, none⟩ (.string t454)).setCell ⟨gb462, 1, none⟩ (.int .i64 t455)).setCell ⟨gb462, 2, none⟩ (.int .i64 t456)).setCell ⟨gb462, 3, none⟩ (.int .i64 t457)).setCell ⟨gb462, 4, none⟩ (.string t458)).setCell ⟨gb462, 5, none⟩ (.slice Ao28 t459.length co28)) = w29 at n0_ n1_ n2_ n3_ n4_ ⊢
     have HO461 := n0_
     have BK450 := n1_
     have BK451 := n2_
     have BK462 := n3_
     have HB := n4_
     clear n0_ n1_ n2_ n3_ n4_
     have n0_ := Aside0.mk (Kd.S_drew HO461.out)
     have n1_ := Aside0.mk (blk_drew BK450.out)
     have n2_ := Aside0.mk (blk_drew BK451.out)
     have n3_ := Aside0.mk (blk_drew BK462.out)
     have n4_ := Aside0.mk (below_drew1 HB.out)
     clear HO461
     clear BK450
     clear BK451
     clear BK462
     clear HB
     have HO461 := n0_
     have BK450 := n1_
     have BK451 := n2_
     have BK462 := n3_
     have HB := n4_
     clear n0_ n1_ n2_ n3_ n4_
     refine start_ (n := 37) (S := fun w' => w'.cell? ⟨gb462, 0, none⟩ = some (.string t454) ∧ w'.cell? ⟨gb462, 1, none⟩ = some (.int .i64 t455) ∧ w'.cell? ⟨gb462, 2, none⟩ = some (.int .i64 t456) ∧ w'.cell? ⟨gb462, 3, none⟩ = some (.int .i64 t457) ∧ w'.cell? ⟨gb462, 4, none⟩ = some (.string t458) ∧ w'.cell? ⟨gb462, 5, none⟩ = some (.slice Ao28 t459.length co28) ∧ w'.cell? ⟨gb450, 0, none⟩ = some (.string a0_0) ∧ w'.cell? ⟨gb450, 1, none⟩ = some (.int .i64 a0_1) ∧ w'.cell? ⟨gb450, 2, none⟩ = some (.int .i64 a0_2) ∧ w'.cell? ⟨gb450, 3, none⟩ = some (.int .i64 a0_3) ∧ w'.cell? ⟨gb450, 4, none⟩ = some (.string a0_4) ∧ w'.cell? ⟨gb450, 5, none⟩ = some (.slice A0_5 l0_5.length c0_5) ∧ w'.cell? ⟨gb451, 0, none⟩ = some (.int .i64 a2_0) ∧ w'.cell? ⟨gb451, 1, none⟩ = some (.int .i64 a2_1)) (ds := []) #[false, false, false, false, false, false, false, false, false, false, false, false, false, false, false, false, false, false, false, false, false, false, false, false, false, false, false, false, false, false, false, false, false, false, false, false, false] (by kernel_rfl) rfl rfl ⟨(blk_cell BK462.out 0).trans rfl, (blk_cell BK462.out 1).trans rfl, (blk_cell BK462.out 2).trans rfl, (blk_cell BK462.out 3).trans rfl, (blk_cell BK462.out 4).trans rfl, (blk_cell BK462.out 5).trans rfl, (blk_cell BK450.out 0).trans rfl, (blk_cell BK450.out 1).trans rfl, (blk_cell BK450.out 2).trans rfl, (blk_cell BK450.out 3).trans rfl, (blk_cell BK450.out 4).trans rfl, (blk_cell BK450.out 5).trans rfl, (blk_cell BK451.out 0).trans rfl, (blk_cell BK451.out 1).trans rfl⟩ (fun hHeld => ?_); refine with_tabW wellspringlaw18_TmplTells.tab4 wellspringlaw18_TmplTells.bits4 (fun HT_ HW_ => ?_)
     generalize w29.drew = w30 at HO461 BK450 BK451 BK462 HB hHeld ⊢
     refine take_ (i := 0) (N := some 14) (v := ?_) (a' := ?_) #[true, false, false, false, false, false, false, false, false, false, false, false, false, false, false, false, false, false, false, false, false, false, false, false, false, false, false, false, false, false, false, false, false, false, false, false, false] rfl rfl (take_ofW HT_.out HW_.out (by kernel_rfl)) (fun _ _ _ h => h) (Or.inl ⟨by rfl, ?_⟩) hHeld ?_ ?_
     rotate_left
     ·rintro w' ⟨s0, s1, s2, s3, s4, s5, s6, s7, s8, s9, s10, s11, s12, s13⟩
      go_simp
      with_reducible rfl
     rotate_left
     ·simp only [Act.put, List.setIfInBounds_toArray, List.set_cons_zero, List.set_cons_succ, i64_w, i32_w]
      rfl
     refine take_ (i := 2) (N := some 16) (v := ?_) (a' := ?_) #[true, false, true, false, false, false, false, false, false, false, false, false, false, false, false, false, false, false, false, false, false, false, false, false, false, false, false, false, false, false, false, false, false, false, false, false, false] rfl rfl (take_ofW HT_.out HW_.out (by kernel_rfl)) (fun _ _ _ h => h) (Or.inl ⟨by rfl, ?_⟩) hHeld ?_ ?_
     rotate_left
     ·rintro w' ⟨s0, s1, s2, s3, s4, s5, s6, s7, s8, s9, s10, s11, s12, s13⟩
      go_simp
      with_reducible rfl
     rotate_left
     ·simp only [Act.put, List.setIfInBounds_toArray, List.set_cons_zero, List.set_cons_succ, i64_w, i32_w]
      rfl
     refine one_ (i := 1) (N := some 15) #[true, true, true, false, false, false, false, false, false, false, false, false, false, false, false, false, false, false, false, false, false, false, false, false, false, false, false, false, false, false, false, false, false, false, false, false, false] rfl rfl (one_of HT_.out (by kernel_rfl)) (by decide) (fun K hK => ?_)
     refine goes_ Try.func18 (by kernel_rfl) rfl #[.agg #[.string t454, .int .i64 t455, .int .i64 t456, .int .i64 t457, .string t458, .slice Ao28 t459.length co28]] (by rfl) rfl rfl (by (try simp only [List.map_toArray, List.map_cons, List.map_nil]); first | done | rfl | (simp only [List.length_drop, List.length_take]; rfl)) ?_
     with_reducible refine (tmpl_Template_Check.calls k t454 t455 t456 t457 t458 _ _ t459 t463 _ ?side1 ?side2 A7.out).mono ?_
     (case side1 => repeat (first | exact (Kd.S_reads' HO461.out).2.2 | (with_reducible refine Kd.C_alloc ?_ _) | (with_reducible refine Kd.C_drewN ?_ _) | (with_reducible refine Kd.C_drew ?_)))
     (case side2 => exact (Kd.S_reads' HO461.out).2.1)
     rintro e w31 ⟨rfl, hb⟩
     refine ⟨_, rfl, ?_⟩
     have n0_ := Aside0.mk (Kd.S_below (by (with_reducible repeat (first | apply Kd.S_alloc | apply Kd.S_drewN | apply Kd.S_drew)); exact HO461.out) hb)
     have n1_ := Aside0.mk (blk_below (g := gb450) (o := .cells #[.string a0_0, .int .i64 a0_1, .int .i64 a0_2, .int .i64 a0_3, .string a0_4, .slice A0_5 l0_5.length c0_5] 46 (0, 0)) (by (with_reducible repeat (first | refine blk_drewN ?_ _ | refine blk_drew ?_ | refine blk_alloc ?_ _)); exact BK450.out) hb)
     have n2_ := Aside0.mk (blk_below (g := gb451) (o := .cells #[.int .i64 a2_0, .int .i64 a2_1] 52 (0, 0)) (by (with_reducible repeat (first | refine blk_drewN ?_ _ | refine blk_drew ?_ | refine blk_alloc ?_ _)); exact BK451.out) hb)
     have n3_ := Aside0.mk (blk_below (g := gb462) (o := .cells #[.string t454, .int .i64 t455, .int .i64 t456, .int .i64 t457, .string t458, .slice Ao28 t459.length co28] 36 (0, 0)) (by (with_reducible repeat (first | refine blk_drewN ?_ _ | refine blk_drew ?_ | refine blk_alloc ?_ _)); exact BK462.out) hb)
     have n4_ := Aside0.mk (below_step (by repeat (first | (with_reducible first | exact HB.out | apply below_alloc | apply pw_below_drewN | apply below_drew1 | refine below_set ?_ GE450.out | refine below_set ?_ GE451.out | refine below_set ?_ GE462.out) | exact HB.out)) hb)
     clear HO461
     clear BK450
     clear BK451
     clear BK462
     clear HB
     have HO461 := n0_
     have BK450 := n1_
     have BK451 := n2_
     have BK462 := n3_
     have HB := n4_
     clear n0_ n1_ n2_ n3_ n4_
     (try clear hb)
     (try clear hb2)
     (try clear hk)
     (try clear hi)
     refine hK.out _ _ ⟨(blk_cell BK462.out 0).trans rfl, (blk_cell BK462.out 1).trans rfl, (blk_cell BK462.out 2).trans rfl, (blk_cell BK462.out 3).trans rfl, (blk_cell BK462.out 4).trans rfl, (blk_cell BK462.out 5).trans rfl, (blk_cell BK450.out 0).trans rfl, (blk_cell BK450.out 1).trans rfl, (blk_cell BK450.out 2).trans rfl, (blk_cell BK450.out 3).trans rfl, (blk_cell BK450.out 4).trans rfl, (blk_cell BK450.out 5).trans rfl, (blk_cell BK451.out 0).trans rfl, (blk_cell BK451.out 1).trans rfl⟩ (fun hHeld => ?_)
     clear hK K
     refine norm_ (a' := ?_) ?_ ?_
     rotate_left
     ·show Act.put _ (some 15) _ = _
      simp only [Act.put, List.setIfInBounds_toArray, List.set_cons_zero, List.set_cons_succ, i64_w, i32_w]
      rfl
     refine one_ (i := 3) (N := some 17) #[true, true, true, true, false, false, false, false, false, false, false, false, false, false, false, false, false, false, false, false, false, false, false, false, false, false, false, false, false, false, false, false, false, false, false, false, false] rfl rfl (one_of HT_.out (by kernel_rfl)) (by decide) (fun K hK => ?_)
     refine goes_ Try.func19 (by kernel_rfl) rfl #[.agg #[.string a0_0, .int .i64 a0_1, .int .i64 a0_2, .int .i64 a0_3, .string a0_4, .slice A0_5 l0_5.length c0_5]] (by rfl) rfl rfl (by (try simp only [List.map_toArray, List.map_cons, List.map_nil]); first | done | rfl | (simp only [List.length_drop, List.length_take]; rfl)) ?_
     with_reducible refine (wellspringref18_Check.calls k a0_0 a0_1 a0_2 a0_3 a0_4 _ _ l0_5 t464 _ ?side1 ?side2 A8.out).mono ?_
     (case side1 => repeat (first | exact (Kd.C_below HR0_5.out HB.out) | (with_reducible refine Kd.C_alloc ?_ _) | (with_reducible refine Kd.C_drewN ?_ _) | (with_reducible refine Kd.C_drew ?_)))
     (case side2 => exact HC0_5.out)
     rintro e w32 ⟨rfl, hb⟩
     refine ⟨_, rfl, ?_⟩
     have n0_ := Aside0.mk (Kd.S_below (by (with_reducible repeat (first | apply Kd.S_alloc | apply Kd.S_drewN | apply Kd.S_drew)); exact HO461.out) hb)
     have n1_ := Aside0.mk (blk_below (g := gb450) (o := .cells #[.string a0_0, .int .i64 a0_1, .int .i64 a0_2, .int .i64 a0_3, .string a0_4, .slice A0_5 l0_5.length c0_5] 46 (0, 0)) (by (with_reducible repeat (first | refine blk_drewN ?_ _ | refine blk_drew ?_ | refine blk_alloc ?_ _)); exact BK450.out) hb)
     have n2_ := Aside0.mk (blk_below (g := gb451) (o := .cells #[.int .i64 a2_0, .int .i64 a2_1] 52 (0, 0)) (by (with_reducible repeat (first | refine blk_drewN ?_ _ | refine blk_drew ?_ | refine blk_alloc ?_ _)); exact BK451.out) hb)
     have n3_ := Aside0.mk (blk_below (g := gb462) (o := .cells #[.string t454, .int .i64 t455, .int .i64 t456, .int .i64 t457, .string t458, .slice Ao28 t459.length co28] 36 (0, 0)) (by (with_reducible repeat (first | refine blk_drewN ?_ _ | refine blk_drew ?_ | refine blk_alloc ?_ _)); exact BK462.out) hb)
     have n4_ := Aside0.mk (below_step (by repeat (first | (with_reducible first | exact HB.out | apply below_alloc | apply pw_below_drewN | apply below_drew1 | refine below_set ?_ GE450.out | refine below_set ?_ GE451.out | refine below_set ?_ GE462.out) | exact HB.out)) hb)
     clear HO461
     clear BK450
     clear BK451
     clear BK462
     clear HB
     have HO461 := n0_
     have BK450 := n1_
     have BK451 := n2_
     have BK462 := n3_
     have HB := n4_
     clear n0_ n1_ n2_ n3_ n4_
     (try clear hb)
     (try clear hb2)
     (try clear hk)
     (try clear hi)
     refine hK.out _ _ ⟨(blk_cell BK462.out 0).trans rfl, (blk_cell BK462.out 1).trans rfl, (blk_cell BK462.out 2).trans rfl, (blk_cell BK462.out 3).trans rfl, (blk_cell BK462.out 4).trans rfl, (blk_cell BK462.out 5).trans rfl, (blk_cell BK450.out 0).trans rfl, (blk_cell BK450.out 1).trans rfl, (blk_cell BK450.out 2).trans rfl, (blk_cell BK450.out 3).trans rfl, (blk_cell BK450.out 4).trans rfl, (blk_cell BK450.out 5).trans rfl, (blk_cell BK451.out 0).trans rfl, (blk_cell BK451.out 1).trans rfl⟩ (fun hHeld => ?_)
     clear hK K
     refine norm_ (a' := ?_) ?_ ?_
     rotate_left
     ·show Act.put _ (some 17) _ = _
      simp only [Act.put, List.setIfInBounds_toArray, List.set_cons_zero, List.set_cons_succ, i64_w, i32_w]
      rfl
     refine pure_ (i := 4) (N := some 18) (v := ?_) (a' := ?_) #[true, true, true, true, true, false, false, false, false, false, false, false, false, false, false, false, false, false, false, false, false, false, false, false, false, false, false, false, false, false, false, false, false, false, false, false, false] rfl rfl (any_of HT_.out (by kernel_rfl)) (fun _ _ _ h => h) (Or.inl ⟨by rfl, ?_⟩) ?_ ?_
     rotate_left
     ·intro w'
      go_simp
      with_reducible rfl
     rotate_left
     ·simp only [Act.put, List.setIfInBounds_toArray, List.set_cons_zero, List.set_cons_succ, i64_w, i32_w]
      rfl
     refine pure_ (i := 5) (N := some 19) (v := ?_) (a' := ?_) #[true, true, true, true, true, true, false, false, false, false, false, false, false, false, false, false, false, false, false, false, false, false, false, false, false, false, false, false, false, false, false, false, false, false, false, false, false] rfl rfl (any_of HT_.out (by kernel_rfl)) (fun _ _ _ h => h) (Or.inl ⟨by rfl, ?_⟩) ?_ ?_
     rotate_left
     ·intro w'
      go_simp
      with_reducible rfl
     rotate_left
     ·simp only [Act.put, List.setIfInBounds_toArray, List.set_cons_zero, List.set_cons_succ, i64_w, i32_w]
      rfl
     refine pure_ (i := 7) (N := some 21) (v := ?_) (a' := ?_) #[true, true, true, true, true, true, false, true, false, false, false, false, false, false, false, false, false, false, false, false, false, false, false, false, false, false, false, false, false, false, false, false, false, false, false, false, false] rfl rfl (any_of HT_.out (by kernel_rfl)) (fun _ _ _ h => h) (Or.inl ⟨by rfl, ?_⟩) ?_ ?_
     rotate_left
     ·intro w'
      go_simp
      with_reducible rfl
     rotate_left
     ·simp only [Act.put, List.setIfInBounds_toArray, List.set_cons_zero, List.set_cons_succ, i64_w, i32_w]
      rfl
     refine pure_ (i := 11) (N := some 25) (v := ?_) (a' := ?_) #[true, true, true, true, true, true, false, true, false, false, false, true, false, false, false, false, false, false, false, false, false, false, false, false, false, false, false, false, false, false, false, false, false, false, false, false, false] rfl rfl (any_of HT_.out (by kernel_rfl)) (fun _ _ _ h => h) (Or.inl ⟨by rfl, ?_⟩) ?_ ?_
     rotate_left
     ·intro w'
      go_simp
      with_reducible rfl
     rotate_left
     ·simp only [Act.put, List.setIfInBounds_toArray, List.set_cons_zero, List.set_cons_succ, i64_w, i32_w]
      rfl
     refine take_ (i := 6) (N := some 20) (v := ?_) (a' := ?_) #[true, true, true, true, true, true, true, true, false, false, false, true, false, false, false, false, false, false, false, false, false, false, false, false, false, false, false, false, false, false, false, false, false, false, false, false, false] rfl rfl (take_ofW HT_.out HW_.out (by kernel_rfl)) (fun _ _ _ h => h) (Or.inl ⟨by rfl, ?_⟩) hHeld ?_ ?_
     rotate_left
     ·rintro w' ⟨s0, s1, s2, s3, s4, s5, s6, s7, s8, s9, s10, s11, s12, s13⟩
      go_simp
      with_reducible rfl
     rotate_left
     ·simp only [Act.put, List.setIfInBounds_toArray, List.set_cons_zero, List.set_cons_succ, i64_w, i32_w]
      rfl
     refine take_ (i := 8) (N := some 22) (v := ?_) (a' := ?_) #[true, true, true, true, true, true, true, true, true, false, false, true, false, false, false, false, false, false, false, false, false, false, false, false, false, false, false, false, false, false, false, false, false, false, false, false, false] rfl rfl (take_ofW HT_.out HW_.out (by kernel_rfl)) (fun _ _ _ h => h) (Or.inl ⟨by rfl, ?_⟩) hHeld ?_ ?_
     rotate_left
     ·rintro w' ⟨s0, s1, s2, s3, s4, s5, s6, s7, s8, s9, s10, s11, s12, s13⟩
      go_simp
      with_reducible rfl
     rotate_left
     ·simp only [Act.put, List.setIfInBounds_toArray, List.set_cons_zero, List.set_cons_succ, i64_w, i32_w]
      rfl
     refine take_ (i := 10) (N := some 24) (v := ?_) (a' := ?_) #[true, true, true, true, true, true, true, true, true, false, true, true, false, false, false, false, false, false, false, false, false, false, false, false, false, false, false, false, false, false, false, false, false, false, false, false, false] rfl rfl (take_ofW HT_.out HW_.out (by kernel_rfl)) (fun _ _ _ h => h) (Or.inl ⟨by rfl, ?_⟩) hHeld ?_ ?_
     rotate_left
     ·rintro w' ⟨s0, s1, s2, s3, s4, s5, s6, s7, s8, s9, s10, s11, s12, s13⟩
      go_simp
      with_reducible rfl
     rotate_left
     ·simp only [Act.put, List.setIfInBounds_toArray, List.set_cons_zero, List.set_cons_succ, i64_w, i32_w]
      rfl
     refine take_ (i := 12) (N := some 26) (v := ?_) (a' := ?_) #[true, true, true, true, true, true, true, true, true, false, true, true, true, false, false, false, false, false, false, false, false, false, false, false, false, false, false, false, false, false, false, false, false, false, false, false, false] rfl rfl (take_ofW HT_.out HW_.out (by kernel_rfl)) (fun _ _ _ h => h) (Or.inl ⟨by rfl, ?_⟩) hHeld ?_ ?_
     rotate_left
     ·rintro w' ⟨s0, s1, s2, s3, s4, s5, s6, s7, s8, s9, s10, s11, s12, s13⟩
      go_simp
      with_reducible rfl
     rotate_left
     ·simp only [Act.put, List.setIfInBounds_toArray, List.set_cons_zero, List.set_cons_succ, i64_w, i32_w]
      rfl
     refine one_ (i := 9) (N := some 23) #[true, true, true, true, true, true, true, true, true, true, true, true, true, false, false, false, false, false, false, false, false, false, false, false, false, false, false, false, false, false, false, false, false, false, false, false, false] rfl rfl (one_of HT_.out (by kernel_rfl)) (by decide) (fun K hK => ?_)
     refine goes_ Try.func20 (by kernel_rfl) rfl #[.agg #[.string t454, .int .i64 t455, .int .i64 t456, .int .i64 t457, .string t458, .slice Ao28 t459.length co28], .int .i64 a2_0] (by rfl) rfl rfl (by (try simp only [List.map_toArray, List.map_cons, List.map_nil]); first | done | rfl | (simp only [List.length_drop, List.length_take]; rfl)) ?_
     with_reducible refine (tmpl_Template_Live.calls k t454 t455 t456 t457 t458 _ _ t459 a2_0 t465 _ ?side1 ?side2 A10.out).mono ?_
     (case side1 => repeat (first | exact (Kd.S_reads' HO461.out).2.2 | (with_reducible refine Kd.C_alloc ?_ _) | (with_reducible refine Kd.C_drewN ?_ _) | (with_reducible refine Kd.C_drew ?_)))
     (case side2 => exact (Kd.S_reads' HO461.out).2.1)
     rintro e w33 ⟨rfl, hb⟩
     refine ⟨_, rfl, ?_⟩
     have n0_ := Aside0.mk (Kd.S_below (by (with_reducible repeat (first | apply Kd.S_alloc | apply Kd.S_drewN | apply Kd.S_drew)); exact HO461.out) hb)
     have n1_ := Aside0.mk (blk_below (g := gb450) (o := .cells #[.string a0_0, .int .i64 a0_1, .int .i64 a0_2, .int .i64 a0_3, .string a0_4, .slice A0_5 l0_5.length c0_5] 46 (0, 0)) (by (with_reducible repeat (first | refine blk_drewN ?_ _ | refine blk_drew ?_ | refine blk_alloc ?_ _)); exact BK450.out) hb)
     have n2_ := Aside0.mk (blk_below (g := gb451) (o := .cells #[.int .i64 a2_0, .int .i64 a2_1] 52 (0, 0)) (by (with_reducible repeat (first | refine blk_drewN ?_ _ | refine blk_drew ?_ | refine blk_alloc ?_ _)); exact BK451.out) hb)
     have n3_ := Aside0.mk (blk_below (g := gb462) (o := .cells #[.string t454, .int .i64 t455, .int .i64 t456, .int .i64 t457, .string t458, .slice Ao28 t459.length co28] 36 (0, 0)) (by (with_reducible repeat (first | refine blk_drewN ?_ _ | refine blk_drew ?_ | refine blk_alloc ?_ _)); exact BK462.out) hb)
     have n4_ := Aside0.mk (below_step (by repeat (first | (with_reducible first | exact HB.out | apply below_alloc | apply pw_below_drewN | apply below_drew1 | refine below_set ?_ GE450.out | refine below_set ?_ GE451.out | refine below_set ?_ GE462.out) | exact HB.out)) hb)
     clear HO461
     clear BK450
     clear BK451
     clear BK462
     clear HB
     have HO461 := n0_
     have BK450 := n1_
     have BK451 := n2_
     have BK462 := n3_
     have HB := n4_
     clear n0_ n1_ n2_ n3_ n4_
     (try clear hb)
     (try clear hb2)
     (try clear hk)
     (try clear hi)
     refine hK.out _ _ ⟨(blk_cell BK462.out 0).trans rfl, (blk_cell BK462.out 1).trans rfl, (blk_cell BK462.out 2).trans rfl, (blk_cell BK462.out 3).trans rfl, (blk_cell BK462.out 4).trans rfl, (blk_cell BK462.out 5).trans rfl, (blk_cell BK450.out 0).trans rfl, (blk_cell BK450.out 1).trans rfl, (blk_cell BK450.out 2).trans rfl, (blk_cell BK450.out 3).trans rfl, (blk_cell BK450.out 4).trans rfl, (blk_cell BK450.out 5).trans rfl, (blk_cell BK451.out 0).trans rfl, (blk_cell BK451.out 1).trans rfl⟩ (fun hHeld => ?_)
     clear hK K
     refine norm_ (a' := ?_) ?_ ?_
     rotate_left
     ·show Act.put _ (some 23) _ = _
      simp only [Act.put, List.setIfInBounds_toArray, List.set_cons_zero, List.set_cons_succ, i64_w, i32_w]
      rfl
     refine one_ (i := 13) (N := some 27) #[true, true, true, true, true, true, true, true, true, true, true, true, true, true, false, false, false, false, false, false, false, false, false, false, false, false, false, false, false, false, false, false, false, false, false, false, false] rfl rfl (one_of HT_.out (by kernel_rfl)) (by decide) (fun K hK => ?_)
     refine goes_ Try.func21 (by kernel_rfl) rfl #[.agg #[.string a0_0, .int .i64 a0_1, .int .i64 a0_2, .int .i64 a0_3, .string a0_4, .slice A0_5 l0_5.length c0_5], .int .i64 a2_0] (by rfl) rfl rfl (by (try simp only [List.map_toArray, List.map_cons, List.map_nil]); first | done | rfl | (simp only [List.length_drop, List.length_take]; rfl)) ?_
     with_reducible refine (wellspringref18_Live.calls k a0_0 a0_1 a0_2 a0_3 a0_4 _ _ l0_5 a2_0 t466 _ ?side1 ?side2 A11.out).mono ?_
     (case side1 => repeat (first | exact (Kd.C_below HR0_5.out HB.out) | (with_reducible refine Kd.C_alloc ?_ _) | (with_reducible refine Kd.C_drewN ?_ _) | (with_reducible refine Kd.C_drew ?_)))
     (case side2 => exact HC0_5.out)
     rintro e w34 ⟨rfl, hb⟩
     refine ⟨_, rfl, ?_⟩
     have n0_ := Aside0.mk (Kd.S_below (by (with_reducible repeat (first | apply Kd.S_alloc | apply Kd.S_drewN | apply Kd.S_drew)); exact HO461.out) hb)
     have n1_ := Aside0.mk (blk_below (g := gb450) (o := .cells #[.string a0_0, .int .i64 a0_1, .int .i64 a0_2, .int .i64 a0_3, .string a0_4, .slice A0_5 l0_5.length c0_5] 46 (0, 0)) (by (with_reducible repeat (first | refine blk_drewN ?_ _ | refine blk_drew ?_ | refine blk_alloc ?_ _)); exact BK450.out) hb)
     have n2_ := Aside0.mk (blk_below (g := gb451) (o := .cells #[.int .i64 a2_0, .int .i64 a2_1] 52 (0, 0)) (by (with_reducible repeat (first | refine blk_drewN ?_ _ | refine blk_drew ?_ | refine blk_alloc ?_ _)); exact BK451.out) hb)
     have n3_ := Aside0.mk (blk_below (g := gb462) (o := .cells #[.string t454, .int .i64 t455, .int .i64 t456, .int .i64 t457, .string t458, .slice Ao28 t459.length co28] 36 (0, 0)) (by (with_reducible repeat (first | refine blk_drewN ?_ _ | refine blk_drew ?_ | refine blk_alloc ?_ _)); exact BK462.out) hb)
     have n4_ := Aside0.mk (below_step (by repeat (first | (with_reducible first | exact HB.out | apply below_alloc | apply pw_below_drewN | apply below_drew1 | refine below_set ?_ GE450.out | refine below_set ?_ GE451.out | refine below_set ?_ GE462.out) | exact HB.out)) hb)
     clear HO461
     clear BK450
     clear BK451
     clear BK462
     clear HB
     have HO461 := n0_
     have BK450 := n1_
     have BK451 := n2_
     have BK462 := n3_
     have HB := n4_
     clear n0_ n1_ n2_ n3_ n4_
     (try clear hb)
     (try clear hb2)
     (try clear hk)
     (try clear hi)
     refine hK.out _ _ ⟨(blk_cell BK462.out 0).trans rfl, (blk_cell BK462.out 1).trans rfl, (blk_cell BK462.out 2).trans rfl, (blk_cell BK462.out 3).trans rfl, (blk_cell BK462.out 4).trans rfl, (blk_cell BK462.out 5).trans rfl, (blk_cell BK450.out 0).trans rfl, (blk_cell BK450.out 1).trans rfl, (blk_cell BK450.out 2).trans rfl, (blk_cell BK450.out 3).trans rfl, (blk_cell BK450.out 4).trans rfl, (blk_cell BK450.out 5).trans rfl, (blk_cell BK451.out 0).trans rfl, (blk_cell BK451.out 1).trans rfl⟩ (fun hHeld => ?_)
     clear hK K
     refine norm_ (a' := ?_) ?_ ?_
     rotate_left
     ·show Act.put _ (some 27) _ = _
      simp only [Act.put, List.setIfInBounds_toArray, List.set_cons_zero, List.set_cons_succ, i64_w, i32_w]
      rfl
     refine pure_ (i := 14) (N := some 28) (v := ?_) (a' := ?_) #[true, true, true, true, true, true, true, true, true, true, true, true, true, true, true, false, false, false, false, false, false, false, false, false, false, false, false, false, false, false, false, false, false, false, false, false, false] rfl rfl (any_of HT_.out (by kernel_rfl)) (fun _ _ _ h => h) (Or.inl ⟨by rfl, ?_⟩) ?_ ?_
     rotate_left
     ·intro w'
      go_simp
      with_reducible rfl
     rotate_left
     ·simp only [Act.put, List.setIfInBounds_toArray, List.set_cons_zero, List.set_cons_succ, i64_w, i32_w]
      rfl
     refine pure_ (i := 15) (N := some 29) (v := ?_) (a' := ?_) #[true, true, true, true, true, true, true, true, true, true, true, true, true, true, true, true, false, false, false, false, false, false, false, false, false, false, false, false, false, false, false, false, false, false, false, false, false] rfl rfl (any_of HT_.out (by kernel_rfl)) (fun _ _ _ h => h) (Or.inl ⟨by rfl, ?_⟩) ?_ ?_
     rotate_left
     ·intro w'
      go_simp
      with_reducible rfl
     rotate_left
     ·simp only [Act.put, List.setIfInBounds_toArray, List.set_cons_zero, List.set_cons_succ, i64_w, i32_w]
      rfl
     refine pure_ (i := 16) (N := some 30) (v := ?_) (a' := ?_) #[true, true, true, true, true, true, true, true, true, true, true, true, true, true, true, true, true, false, false, false, false, false, false, false, false, false, false, false, false, false, false, false, false, false, false, false, false] rfl rfl (any_of HT_.out (by kernel_rfl)) (fun _ _ _ h => h) (Or.inl ⟨by rfl, ?_⟩) ?_ ?_
     rotate_left
     ·intro w'
      go_simp
      with_reducible rfl
     rotate_left
     ·simp only [Act.put, List.setIfInBounds_toArray, List.set_cons_zero, List.set_cons_succ, i64_w, i32_w]
      rfl
     refine pure_ (i := 18) (N := some 32) (v := ?_) (a' := ?_) #[true, true, true, true, true, true, true, true, true, true, true, true, true, true, true, true, true, false, true, false, false, false, false, false, false, false, false, false, false, false, false, false, false, false, false, false, false] rfl rfl (any_of HT_.out (by kernel_rfl)) (fun _ _ _ h => h) (Or.inl ⟨by rfl, ?_⟩) ?_ ?_
     rotate_left
     ·intro w'
      go_simp
      with_reducible rfl
     rotate_left
     ·simp only [Act.put, List.setIfInBounds_toArray, List.set_cons_zero, List.set_cons_succ, i64_w, i32_w]
      rfl
     refine pure_ (i := 19) (N := some 33) (v := ?_) (a' := ?_) #[true, true, true, true, true, true, true, true, true, true, true, true, true, true, true, true, true, false, true, true, false, false, false, false, false, false, false, false, false, false, false, false, false, false, false, false, false] rfl rfl (any_of HT_.out (by kernel_rfl)) (fun _ _ _ h => h) (Or.inl ⟨by rfl, ?_⟩) ?_ ?_
     rotate_left
     ·intro w'
      go_simp
      with_reducible rfl
     rotate_left
     ·simp only [Act.put, List.setIfInBounds_toArray, List.set_cons_zero, List.set_cons_succ, i64_w, i32_w]
      rfl
     refine pure_ (i := 21) (N := some 35) (v := ?_) (a' := ?_) #[true, true, true, true, true, true, true, true, true, true, true, true, true, true, true, true, true, false, true, true, false, true, false, false, false, false, false, false, false, false, false, false, false, false, false, false, false] rfl rfl (any_of HT_.out (by kernel_rfl)) (fun _ _ _ h => h) (Or.inl ⟨by rfl, ?_⟩) ?_ ?_
     rotate_left
     ·intro w'
      go_simp
      with_reducible rfl
     rotate_left
     ·simp only [Act.put, List.setIfInBounds_toArray, List.set_cons_zero, List.set_cons_succ, i64_w, i32_w]
      rfl
     refine pure_ (i := 25) (N := some 39) (v := ?_) (a' := ?_) #[true, true, true, true, true, true, true, true, true, true, true, true, true, true, true, true, true, false, true, true, false, true, false, false, false, true, false, false, false, false, false, false, false, false, false, false, false] rfl rfl (any_of HT_.out (by kernel_rfl)) (fun _ _ _ h => h) (Or.inl ⟨by rfl, ?_⟩) ?_ ?_
     rotate_left
     ·intro w'
      go_simp
      with_reducible rfl
     rotate_left
     ·simp only [Act.put, List.setIfInBounds_toArray, List.set_cons_zero, List.set_cons_succ, i64_w, i32_w]
      rfl
     refine pure_ (i := 26) (N := some 40) (v := ?_) (a' := ?_) #[true, true, true, true, true, true, true, true, true, true, true, true, true, true, true, true, true, false, true, true, false, true, false, false, false, true, true, false, false, false, false, false, false, false, false, false, false] rfl rfl (any_of HT_.out (by kernel_rfl)) (fun _ _ _ h => h) (Or.inl ⟨by rfl, ?_⟩) ?_ ?_
     rotate_left
     ·intro w'
      go_simp
      with_reducible rfl
     rotate_left
     ·simp only [Act.put, List.setIfInBounds_toArray, List.set_cons_zero, List.set_cons_succ, i64_w, i32_w]
      rfl
     refine pure_ (i := 28) (N := some 42) (v := ?_) (a' := ?_) #[true, true, true, true, true, true, true, true, true, true, true, true, true, true, true, true, true, false, true, true, false, true, false, false, false, true, true, false, true, false, false, false, false, false, false, false, false] rfl rfl (any_of HT_.out (by kernel_rfl)) (fun _ _ _ h => h) (Or.inl ⟨by rfl, ?_⟩) ?_ ?_
     rotate_left
     ·intro w'
      go_simp
      with_reducible rfl
     rotate_left
     ·simp only [Act.put, List.setIfInBounds_toArray, List.set_cons_zero, List.set_cons_succ, i64_w, i32_w]
      rfl
     refine take_ (i := 17) (N := some 31) (v := ?_) (a' := ?_) #[true, true, true, true, true, true, true, true, true, true, true, true, true, true, true, true, true, true, true, true, false, true, false, false, false, true, true, false, true, false, false, false, false, false, false, false, false] rfl rfl (take_ofW HT_.out HW_.out (by kernel_rfl)) (fun _ _ _ h => h) (Or.inl ⟨by rfl, ?_⟩) hHeld ?_ ?_
     rotate_left
     ·rintro w' ⟨s0, s1, s2, s3, s4, s5, s6, s7, s8, s9, s10, s11, s12, s13⟩
      go_simp
      with_reducible rfl
     rotate_left
     ·simp only [Act.put, List.setIfInBounds_toArray, List.set_cons_zero, List.set_cons_succ, i64_w, i32_w]
      rfl
     refine take_ (i := 20) (N := some 34) (v := ?_) (a' := ?_) #[true, true, true, true, true, true, true, true, true, true, true, true, true, true, true, true, true, true, true, true, true, true, false, false, false, true, true, false, true, false, false, false, false, false, false, false, false] rfl rfl (take_ofW HT_.out HW_.out (by kernel_rfl)) (fun _ _ _ h => h) (Or.inl ⟨by rfl, ?_⟩) hHeld ?_ ?_
     rotate_left
     ·rintro w' ⟨s0, s1, s2, s3, s4, s5, s6, s7, s8, s9, s10, s11, s12, s13⟩
      go_simp
      with_reducible rfl
     rotate_left
     ·simp only [Act.put, List.setIfInBounds_toArray, List.set_cons_zero, List.set_cons_succ, i64_w, i32_w]
      rfl
     refine take_ (i := 22) (N := some 36) (v := ?_) (a' := ?_) #[true, true, true, true, true, true, true, true, true, true, true, true, true, true, true, true, true, true, true, true, true, true, true, false, false, true, true, false, true, false, false, false, false, false, false, false, false] rfl rfl (take_ofW HT_.out HW_.out (by kernel_rfl)) (fun _ _ _ h => h) (Or.inl ⟨by rfl, ?_⟩) hHeld ?_ ?_
     rotate_left
     ·rintro w' ⟨s0, s1, s2, s3, s4, s5, s6, s7, s8, s9, s10, s11, s12, s13⟩
      go_simp
      with_reducible rfl
     rotate_left
     ·simp only [Act.put, List.setIfInBounds_toArray, List.set_cons_zero, List.set_cons_succ, i64_w, i32_w]
      rfl
     refine take_ (i := 24) (N := some 38) (v := ?_) (a' := ?_) #[true, true, true, true, true, true, true, true, true, true, true, true, true, true, true, true, true, true, true, true, true, true, true, false, true, true, true, false, true, false, false, false, false, false, false, false, false] rfl rfl (take_ofW HT_.out HW_.out (by kernel_rfl)) (fun _ _ _ h => h) (Or.inl ⟨by rfl, ?_⟩) hHeld ?_ ?_
     rotate_left
     ·rintro w' ⟨s0, s1, s2, s3, s4, s5, s6, s7, s8, s9, s10, s11, s12, s13⟩
      go_simp
      with_reducible rfl
     rotate_left
     ·simp only [Act.put, List.setIfInBounds_toArray, List.set_cons_zero, List.set_cons_succ, i64_w, i32_w]
      rfl
     refine take_ (i := 27) (N := some 41) (v := ?_) (a' := ?_) #[true, true, true, true, true, true, true, true, true, true, true, true, true, true, true, true, true, true, true, true, true, true, true, false, true, true, true, true, true, false, false, false, false, false, false, false, false] rfl rfl (take_ofW HT_.out HW_.out (by kernel_rfl)) (fun _ _ _ h => h) (Or.inl ⟨by rfl, ?_⟩) hHeld ?_ ?_
     rotate_left
     ·rintro w' ⟨s0, s1, s2, s3, s4, s5, s6, s7, s8, s9, s10, s11, s12, s13⟩
      go_simp
      with_reducible rfl
     rotate_left
     ·simp only [Act.put, List.setIfInBounds_toArray, List.set_cons_zero, List.set_cons_succ, i64_w, i32_w]
      rfl
     refine take_ (i := 29) (N := some 43) (v := ?_) (a' := ?_) #[true, true, true, true, true, true, true, true, true, true, true, true, true, true, true, true, true, true, true, true, true, true, true, false, true, true, true, true, true, true, false, false, false, false, false, false, false] rfl rfl (take_ofW HT_.out HW_.out (by kernel_rfl)) (fun _ _ _ h => h) (Or.inl ⟨by rfl, ?_⟩) hHeld ?_ ?_
     rotate_left
     ·rintro w' ⟨s0, s1, s2, s3, s4, s5, s6, s7, s8, s9, s10, s11, s12, s13⟩
      go_simp
      with_reducible rfl
     rotate_left
     ·simp only [Act.put, List.setIfInBounds_toArray, List.set_cons_zero, List.set_cons_succ, i64_w, i32_w]
      rfl
     refine one_ (i := 23) (N := some 37) #[true, true, true, true, true, true, true, true, true, true, true, true, true, true, true, true, true, true, true, true, true, true, true, true, true, true, true, true, true, true, false, false, false, false, false, false, false] rfl rfl (one_of HT_.out (by kernel_rfl)) (by decide) (fun K hK => ?_)
     refine goes_ Try.func22 (by kernel_rfl) rfl #[.agg #[.string t454, .int .i64 t455, .int .i64 t456, .int .i64 t457, .string t458, .slice Ao28 t459.length co28], .int .i64 a1, .int .i64 a2_0, .int .i64 a2_1] (by rfl) rfl rfl (by (try simp only [List.map_toArray, List.map_cons, List.map_nil]); first | done | rfl | (simp only [List.length_drop, List.length_take]; rfl)) ?_
     with_reducible refine (tmpl_Template_Part.calls k t454 t455 t456 t457 t458 _ _ t459 a1 a2_0 a2_1 t467 _ ?side1 ?side2 A13.out).mono ?_
     (case side1 => repeat (first | exact (Kd.S_reads' HO461.out).2.2 | (with_reducible refine Kd.C_alloc ?_ _) | (with_reducible refine Kd.C_drewN ?_ _) | (with_reducible refine Kd.C_drew ?_)))
     (case side2 => exact (Kd.S_reads' HO461.out).2.1)
     rintro e w35 ⟨rfl, hb⟩
     refine ⟨_, rfl, ?_⟩
     have n0_ := Aside0.mk (Kd.S_below (by (with_reducible repeat (first | apply Kd.S_alloc | apply Kd.S_drewN | apply Kd.S_drew)); exact HO461.out) hb)
     have n1_ := Aside0.mk (blk_below (g := gb450) (o := .cells #[.string a0_0, .int .i64 a0_1, .int .i64 a0_2, .int .i64 a0_3, .string a0_4, .slice A0_5 l0_5.length c0_5] 46 (0, 0)) (by (with_reducible repeat (first | refine blk_drewN ?_ _ | refine blk_drew ?_ | refine blk_alloc ?_ _)); exact BK450.out) hb)
     have n2_ := Aside0.mk (blk_below (g := gb451) (o := .cells #[.int .i64 a2_0, .int .i64 a2_1] 52 (0, 0)) (by (with_reducible repeat (first | refine blk_drewN ?_ _ | refine blk_drew ?_ | refine blk_alloc ?_ _)); exact BK451.out) hb)
     have n3_ := Aside0.mk (blk_below (g := gb462) (o := .cells #[.string t454, .int .i64 t455, .int .i64 t456, .int .i64 t457, .string t458, .slice Ao28 t459.length co28] 36 (0, 0)) (by (with_reducible repeat (first | refine blk_drewN ?_ _ | refine blk_drew ?_ | refine blk_alloc ?_ _)); exact BK462.out) hb)
     have n4_ := Aside0.mk (below_step (by repeat (first | (with_reducible first | exact HB.out | apply below_alloc | apply pw_below_drewN | apply below_drew1 | refine below_set ?_ GE450.out | refine below_set ?_ GE451.out | refine below_set ?_ GE462.out) | exact HB.out)) hb)
     clear HO461
     clear BK450
     clear BK451
     clear BK462
     clear HB
     have HO461 := n0_
     have BK450 := n1_
     have BK451 := n2_
     have BK462 := n3_
     have HB := n4_
     clear n0_ n1_ n2_ n3_ n4_
     (try clear hb)
     (try clear hb2)
     (try clear hk)
     (try clear hi)
     refine hK.out _ _ ⟨(blk_cell BK462.out 0).trans rfl, (blk_cell BK462.out 1).trans rfl, (blk_cell BK462.out 2).trans rfl, (blk_cell BK462.out 3).trans rfl, (blk_cell BK462.out 4).trans rfl, (blk_cell BK462.out 5).trans rfl, (blk_cell BK450.out 0).trans rfl, (blk_cell BK450.out 1).trans rfl, (blk_cell BK450.out 2).trans rfl, (blk_cell BK450.out 3).trans rfl, (blk_cell BK450.out 4).trans rfl, (blk_cell BK450.out 5).trans rfl, (blk_cell BK451.out 0).trans rfl, (blk_cell BK451.out 1).trans rfl⟩ (fun hHeld => ?_)
     clear hK K
     refine norm_ (a' := ?_) ?_ ?_
     rotate_left
     ·show Act.put _ (some 37) _ = _
      simp only [Act.put, List.setIfInBounds_toArray, List.set_cons_zero, List.set_cons_succ, i64_w, i32_w]
      rfl
     refine one_ (i := 30) (N := some 44) #[true, true, true, true, true, true, true, true, true, true, true, true, true, true, true, true, true, true, true, true, true, true, true, true, true, true, true, true, true, true, true, false, false, false, false, false, false] rfl rfl (one_of HT_.out (by kernel_rfl)) (by decide) (fun K hK => ?_)
     refine goes_ Try.func23 (by kernel_rfl) rfl #[.agg #[.string a0_0, .int .i64 a0_1, .int .i64 a0_2, .int .i64 a0_3, .string a0_4, .slice A0_5 l0_5.length c0_5], .int .i64 a1, .int .i64 a2_0, .int .i64 a2_1] (by rfl) rfl rfl (by (try simp only [List.map_toArray, List.map_cons, List.map_nil]); first | done | rfl | (simp only [List.length_drop, List.length_take]; rfl)) ?_
     with_reducible refine (wellspringref18_Part.calls k a0_0 a0_1 a0_2 a0_3 a0_4 _ _ l0_5 a1 a2_0 a2_1 t468 _ ?side1 ?side2 A14.out).mono ?_
     (case side1 => repeat (first | exact (Kd.C_below HR0_5.out HB.out) | (with_reducible refine Kd.C_alloc ?_ _) | (with_reducible refine Kd.C_drewN ?_ _) | (with_reducible refine Kd.C_drew ?_)))
     (case side2 => exact HC0_5.out)
     rintro e w36 ⟨rfl, hb⟩
     refine ⟨_, rfl, ?_⟩
     have n0_ := Aside0.mk (Kd.S_below (by (with_reducible repeat (first | apply Kd.S_alloc | apply Kd.S_drewN | apply Kd.S_drew)); exact HO461.out) hb)
     have n1_ := Aside0.mk (blk_below (g := gb450) (o := .cells #[.string a0_0, .int .i64 a0_1, .int .i64 a0_2, .int .i64 a0_3, .string a0_4, .slice A0_5 l0_5.length c0_5] 46 (0, 0)) (by (with_reducible repeat (first | refine blk_drewN ?_ _ | refine blk_drew ?_ | refine blk_alloc ?_ _)); exact BK450.out) hb)
     have n2_ := Aside0.mk (blk_below (g := gb451) (o := .cells #[.int .i64 a2_0, .int .i64 a2_1] 52 (0, 0)) (by (with_reducible repeat (first | refine blk_drewN ?_ _ | refine blk_drew ?_ | refine blk_alloc ?_ _)); exact BK451.out) hb)
     have n3_ := Aside0.mk (blk_below (g := gb462) (o := .cells #[.string t454, .int .i64 t455, .int .i64 t456, .int .i64 t457, .string t458, .slice Ao28 t459.length co28] 36 (0, 0)) (by (with_reducible repeat (first | refine blk_drewN ?_ _ | refine blk_drew ?_ | refine blk_alloc ?_ _)); exact BK462.out) hb)
     have n4_ := Aside0.mk (below_step (by repeat (first | (with_reducible first | exact HB.out | apply below_alloc | apply pw_below_drewN | apply below_drew1 | refine below_set ?_ GE450.out | refine below_set ?_ GE451.out | refine below_set ?_ GE462.out) | exact HB.out)) hb)
     clear HO461
     clear BK450
     clear BK451
     clear BK462
     clear HB
     have HO461 := n0_
     have BK450 := n1_
     have BK451 := n2_
     have BK462 := n3_
     have HB := n4_
     clear n0_ n1_ n2_ n3_ n4_
     (try clear hb)
     (try clear hb2)
     (try clear hk)
     (try clear hi)
     refine hK.out _ _ ⟨(blk_cell BK462.out 0).trans rfl, (blk_cell BK462.out 1).trans rfl, (blk_cell BK462.out 2).trans rfl, (blk_cell BK462.out 3).trans rfl, (blk_cell BK462.out 4).trans rfl, (blk_cell BK462.out 5).trans rfl, (blk_cell BK450.out 0).trans rfl, (blk_cell BK450.out 1).trans rfl, (blk_cell BK450.out 2).trans rfl, (blk_cell BK450.out 3).trans rfl, (blk_cell BK450.out 4).trans rfl, (blk_cell BK450.out 5).trans rfl, (blk_cell BK451.out 0).trans rfl, (blk_cell BK451.out 1).trans rfl⟩ (fun hHeld => ?_)
     clear hK K
     refine norm_ (a' := ?_) ?_ ?_
     rotate_left
     ·show Act.put _ (some 44) _ = _
      simp only [Act.put, List.setIfInBounds_toArray, List.set_cons_zero, List.set_cons_succ, i64_w, i32_w]
      rfl
     refine pure_ (i := 31) (N := some 45) (v := ?_) (a' := ?_) #[true, true, true, true, true, true, true, true, true, true, true, true, true, true, true, true, true, true, true, true, true, true, true, true, true, true, true, true, true, true, true, true, false, false, false, false, false] rfl rfl (any_of HT_.out (by kernel_rfl)) (fun _ _ _ h => h) (Or.inl ⟨by rfl, ?_⟩) ?_ ?_
     rotate_left
     ·intro w'
      go_simp
      with_reducible rfl
     rotate_left
     ·simp only [Act.put, List.setIfInBounds_toArray, List.set_cons_zero, List.set_cons_succ, i64_w, i32_w]
      rfl
     refine pure_ (i := 32) (N := some 46) (v := ?_) (a' := ?_) #[true, true, true, true, true, true, true, true, true, true, true, true, true, true, true, true, true, true, true, true, true, true, true, true, true, true, true, true, true, true, true, true, true, false, false, false, false] rfl rfl (any_of HT_.out (by kernel_rfl)) (fun _ _ _ h => h) (Or.inl ⟨by rfl, ?_⟩) ?_ ?_
     rotate_left
     ·intro w'
      go_simp
      with_reducible rfl
     rotate_left
     ·simp only [Act.put, List.setIfInBounds_toArray, List.set_cons_zero, List.set_cons_succ, i64_w, i32_w]
      rfl
     refine pure_ (i := 33) (N := some 47) (v := ?_) (a' := ?_) #[true, true, true, true, true, true, true, true, true, true, true, true, true, true, true, true, true, true, true, true, true, true, true, true, true, true, true, true, true, true, true, true, true, true, false, false, false] rfl rfl (any_of HT_.out (by kernel_rfl)) (fun _ _ _ h => h) (Or.inl ⟨by rfl, ?_⟩) ?_ ?_
     rotate_left
     ·intro w'
      go_simp
      with_reducible rfl
     rotate_left
     ·simp only [Act.put, List.setIfInBounds_toArray, List.set_cons_zero, List.set_cons_succ, i64_w, i32_w]
      rfl
     refine one_ (i := 34) (N := some 48) #[true, true, true, true, true, true, true, true, true, true, true, true, true, true, true, true, true, true, true, true, true, true, true, true, true, true, true, true, true, true, true, true, true, true, true, false, false] rfl rfl (one_of HT_.out (by kernel_rfl)) (by decide) (fun K hK => ?_)
     refine goes_ Try.func10 (by kernel_rfl) rfl #[] (by rfl) rfl rfl (by (try simp only [List.map_toArray, List.map_cons, List.map_nil]); first | done | rfl | (simp only [List.length_drop, List.length_take]; rfl)) ?_
     with_reducible refine (wellspringlaw18_live.calls  t469 _ A16.out).mono ?_
     rintro e w37 ⟨rfl, hb⟩
     refine ⟨_, rfl, ?_⟩
     have n0_ := Aside0.mk (Kd.S_below (by (with_reducible repeat (first | apply Kd.S_alloc | apply Kd.S_drewN | apply Kd.S_drew)); exact HO461.out) hb)
     have n1_ := Aside0.mk (blk_below (g := gb450) (o := .cells #[.string a0_0, .int .i64 a0_1, .int .i64 a0_2, .int .i64 a0_3, .string a0_4, .slice A0_5 l0_5.length c0_5] 46 (0, 0)) (by (with_reducible repeat (first | refine blk_drewN ?_ _ | refine blk_drew ?_ | refine blk_alloc ?_ _)); exact BK450.out) hb)
     have n2_ := Aside0.mk (blk_below (g := gb451) (o := .cells #[.int .i64 a2_0, .int .i64 a2_1] 52 (0, 0)) (by (with_reducible repeat (first | refine blk_drewN ?_ _ | refine blk_drew ?_ | refine blk_alloc ?_ _)); exact BK451.out) hb)
     have n3_ := Aside0.mk (blk_below (g := gb462) (o := .cells #[.string t454, .int .i64 t455, .int .i64 t456, .int .i64 t457, .string t458, .slice Ao28 t459.length co28] 36 (0, 0)) (by (with_reducible repeat (first | refine blk_drewN ?_ _ | refine blk_drew ?_ | refine blk_alloc ?_ _)); exact BK462.out) hb)
     have n4_ := Aside0.mk (below_step (by repeat (first | (with_reducible first | exact HB.out | apply below_alloc | apply pw_below_drewN | apply below_drew1 | refine below_set ?_ GE450.out | refine below_set ?_ GE451.out | refine below_set ?_ GE462.out) | exact HB.out)) hb)
     clear HO461
     clear BK450
     clear BK451
     clear BK462
     clear HB
     have HO461 := n0_
     have BK450 := n1_
     have BK451 := n2_
     have BK462 := n3_
     have HB := n4_
     clear n0_ n1_ n2_ n3_ n4_
     (try clear hb)
     (try clear hb2)
     (try clear hk)
     (try clear hi)
     refine hK.out _ _ ⟨(blk_cell BK462.out 0).trans rfl, (blk_cell BK462.out 1).trans rfl, (blk_cell BK462.out 2).trans rfl, (blk_cell BK462.out 3).trans rfl, (blk_cell BK462.out 4).trans rfl, (blk_cell BK462.out 5).trans rfl, (blk_cell BK450.out 0).trans rfl, (blk_cell BK450.out 1).trans rfl, (blk_cell BK450.out 2).trans rfl, (blk_cell BK450.out 3).trans rfl, (blk_cell BK450.out 4).trans rfl, (blk_cell BK450.out 5).trans rfl, (blk_cell BK451.out 0).trans rfl, (blk_cell BK451.out 1).trans rfl⟩ (fun hHeld => ?_)
     clear hK K
     refine norm_ (a' := ?_) ?_ ?_
     rotate_left
     ·show Act.put _ (some 48) _ = _
      simp only [Act.put, List.setIfInBounds_toArray, List.set_cons_zero, List.set_cons_succ, i64_w, i32_w]
      rfl
     refine pure_ (i := 35) (N := some 49) (v := ?_) (a' := ?_) #[true, true, true, true, true, true, true, true, true, true, true, true, true, true, true, true, true, true, true, true, true, true, true, true, true, true, true, true, true, true, true, true, true, true, true, true, false] rfl rfl (any_of HT_.out (by kernel_rfl)) (fun _ _ _ h => h) (Or.inl ⟨by rfl, ?_⟩) ?_ ?_
     rotate_left
     ·intro w'
      go_simp
      with_reducible rfl
     rotate_left
     ·simp only [Act.put, List.setIfInBounds_toArray, List.set_cons_zero, List.set_cons_succ, i64_w, i32_w]
      rfl
     refine pure_ (i := 36) (N := some 6) (v := ?_) (a' := ?_) #[true, true, true, true, true, true, true, true, true, true, true, true, true, true, true, true, true, true, true, true, true, true, true, true, true, true, true, true, true, true, true, true, true, true, true, true, true] rfl rfl (any_of HT_.out (by kernel_rfl)) (fun _ _ _ h => h) (Or.inl ⟨by rfl, ?_⟩) ?_ ?_
     rotate_left
     ·intro w'
      go_simp
      with_reducible rfl
     rotate_left
     ·simp only [Act.put, List.setIfInBounds_toArray, List.set_cons_zero, List.set_cons_succ, i64_w, i32_w]
      rfl
     refine done_ (done_of HT_.out (by kernel_rfl)) ?_
     try go_wp2
     go_ret
     exact ⟨by first | rfl | (simp [errW_none, errW_some] <;> rfl) | (simp [*, errW_none, errW_some] <;> rfl), by repeat (first | (with_reducible first | exact HB.out | apply below_alloc | apply pw_below_drewN | apply below_drew1 | refine below_set ?_ GE450.out | refine below_set ?_ GE451.out | refine below_set ?_ GE462.out) | exact HB.out)⟩
    ·rw [if_neg c15] at H
     have c15b0 : (t467.toList == t468.toList) = false := beq_eq_false_iff_ne.mpr c15
     have c15b1 : (t467.toList != t468.toList) = true := bne_iff_ne.mpr c15
     exact absurd H (by simp)
   ·rw [if_neg c12] at H
    have c12b0 : (t465 == t466) = false := by simpa using c12
    (try (have c12b1 : decide (t465 = t466) = false := by simpa using c12))
    (try (have c12b2 : (t465 == t466) = false := by simpa using c12))
    (try (have c12b3 : ¬ (t465 = t466) := by simpa using c12))
    clear c12
    exact absurd H (by simp)
  ·rw [if_neg c9] at H
   have c9b0 : (t463 == t464) = false := by simpa using c9
   (try (have c9b1 : decide (t463 = t464) = false := by simpa using c9))
   (try (have c9b2 : (t463 == t464) = false := by simpa using c9))
   (try (have c9b3 : ¬ (t463 = t464) := by simpa using c9))
   clear c9
   exact absurd H (by simp)
 ·replace c5 := Bool.eq_false_iff.mpr c5
  subst c5
  have H1 : ((wellspringlaw18_live.f).bind fun t453 => (some t453)) = some r := by rw [if_neg (show ¬ (false = true) by decide)] at H; exact H
  clear H
  have H := H1
  clear H1
  replace H := Option.bind_eq_some_iff.mp H
  obtain ⟨t453, A380, H⟩ := H
  replace H : (some t453) = some r := H
  have A38 := Aside0.mk A380
  clear A380
  obtain rfl := Option.some.inj H
  go_enter Try.func4, Try.ntmps4
  go_wp2_with (first | ((with_reducible refine gate_dst (N := 3) rfl ?_); refine box_event ?hg (N := 3) ?hd (cs := #[.string a0_0, .int .i64 a0_1, .int .i64 a0_2, .int .i64 a0_3, .string a0_4, .slice A0_5 l0_5.length c0_5]) (t := 46) ?hr ?_; (case hd => rfl); (case hg => rfl); (case hr => first | (go_simp; done) | (go_simp; rfl)); intro gb450 hg w39 hbox hb; have n0_ := Aside0.mk (below_step (by repeat (first | (with_reducible first | exact HB.out | apply below_alloc | apply pw_below_drewN | apply below_drew1) | exact HB.out)) hb); have n1_ := Aside0.mk (hbox); have n2_ := Aside0.mk ((by rw [hg]; exact (below_size (by repeat (first | (with_reducible first | exact HB.out | apply below_alloc | apply pw_below_drewN | apply below_drew1) | exact HB.out))) : w.heap.size ≤ gb450)); have n3_ := Aside0.mk ((by rw [hg]; exact (below_size (by repeat (first | (with_reducible first | exact HB.out | apply below_alloc | apply pw_below_drewN | apply below_drew1) | exact HB.out))) : w.heap.size ≤ gb450)); clear HB; have HB := n0_; have BK450 := n1_; have GW450 := n2_; have GE450 := n3_; clear n0_ n1_ n2_ n3_; clear hb hbox hg) | ((with_reducible refine gate_dst (N := 5) rfl ?_); refine box_event ?hg (N := 5) ?hd (cs := #[.int .i64 a2_0, .int .i64 a2_1]) (t := 52) ?hr ?_; (case hd => rfl); (case hg => rfl); (case hr => first | (go_simp; done) | (go_simp; rfl)); intro gb451 hg w40 hbox hb; have n0_ := Aside0.mk (blk_below (g := gb450) (o := .cells #[.string a0_0, .int .i64 a0_1, .int .i64 a0_2, .int .i64 a0_3, .string a0_4, .slice A0_5 l0_5.length c0_5] 46 (0, 0)) (by (with_reducible repeat (first | refine blk_drewN ?_ _ | refine blk_drew ?_ | refine blk_alloc ?_ _)); exact BK450.out) hb); have n1_ := Aside0.mk (below_step (by repeat (first | (with_reducible first | exact HB.out | apply below_alloc | apply pw_below_drewN | apply below_drew1 | refine below_set ?_ GE450.out) | exact HB.out)) hb); have n2_ := Aside0.mk (hbox); have n3_ := Aside0.mk ((by rw [hg]; exact (below_size (by repeat (first | (with_reducible first | exact HB.out | apply below_alloc | apply pw_below_drewN | apply below_drew1 | refine below_set ?_ GE450.out) | exact HB.out))) : w.heap.size ≤ gb451)); have n4_ := Aside0.mk ((by rw [hg]; exact (below_size (by repeat (first | (with_reducible first | exact HB.out | apply below_alloc | apply pw_below_drewN | apply below_drew1 | refine below_set ?_ GE450.out) | exact HB.out))) : w.heap.size ≤ gb451)); have n5_ := Aside0.mk ((by rw [hg]; exact Nat.ne_of_lt (blk_lt (g := gb450) (o := .cells #[.string a0_0, .int .i64 a0_1, .int .i64 a0_2, .int .i64 a0_3, .string a0_4, .slice A0_5 l0_5.length c0_5] 46 (0, 0)) (by (with_reducible repeat (first | refine blk_drewN ?_ _ | refine blk_drew ?_ | refine blk_alloc ?_ _)); exact BK450.out)) : gb450 ≠ gb451)); have n6_ := Aside0.mk ((by rw [hg]; exact Nat.ne_of_gt (blk_lt (g := gb450) (o := .cells #[.string a0_0, .int .i64 a0_1, .int .i64 a0_2, .int .i64 a0_3, .string a0_4, .slice A0_5 l0_5.length c0_5] 46 (0, 0)) (by (with_reducible repeat (first | refine blk_drewN ?_ _ | refine blk_drew ?_ | refine blk_alloc ?_ _)); exact BK450.out)) : gb451 ≠ gb450)); clear BK450; clear HB; have BK450 := n0_; have HB := n1_; have BK451 := n2_; have GW451 := n3_; have GE451 := n4_; have NB450_451 := n5_; have NB451_450 := n6_; clear n0_ n1_ n2_ n3_ n4_ n5_ n6_; clear hb hbox hg; have hnb41 := NB450_451.out; have hnc41 := NB451_450.out; have hcz42_0 : w40.cell? ⟨gb450, 0, none⟩ = some (.string a0_0) := (blk_cell BK450.out 0).trans rfl; have hcz42_1 : w40.cell? ⟨gb450, 1, none⟩ = some (.int .i64 a0_1) := (blk_cell BK450.out 1).trans rfl; have hcz42_2 : w40.cell? ⟨gb450, 2, none⟩ = some (.int .i64 a0_2) := (blk_cell BK450.out 2).trans rfl; have hcz42_3 : w40.cell? ⟨gb450, 3, none⟩ = some (.int .i64 a0_3) := (blk_cell BK450.out 3).trans rfl; have hcz42_4 : w40.cell? ⟨gb450, 4, none⟩ = some (.string a0_4) := (blk_cell BK450.out 4).trans rfl; have hcz42_5 : w40.cell? ⟨gb450, 5, none⟩ = some (.slice A0_5 l0_5.length c0_5) := (blk_cell BK450.out 5).trans rfl; have hfz42_0 := blk_frozen BK450.out 0; have hfz42_1 := blk_frozen BK450.out 1; have hfz42_2 := blk_frozen BK450.out 2; have hfz42_3 := blk_frozen BK450.out 3; have hfz42_4 := blk_frozen BK450.out 4; have hfz42_5 := blk_frozen BK450.out 5) | ((with_reducible refine gate_callee (f := 16) rfl ?_); refine goesL_ (some 9) rfl rfl Try.func16 (by kernel_rfl) rfl #[.agg #[.string a0_0, .int .i64 a0_1, .int .i64 a0_2, .int .i64 a0_3, .string a0_4, .slice A0_5 l0_5.length c0_5]] rfl (by (try simp only [List.map_toArray, List.map_cons, List.map_nil]); first | done | rfl | (simp only [List.length_drop, List.length_take]; rfl)) ?_; (with_reducible refine (wellspringref18_Small.calls k a0_0 a0_1 a0_2 a0_3 a0_4 _ _ l0_5 false _ ?side1 ?side2 A4.out).mono ?_); (case side1 => repeat (first | exact (Kd.C_below HR0_5.out HB.out) | (with_reducible refine Kd.C_alloc ?_ _) | (with_reducible refine Kd.C_drewN ?_ _) | (with_reducible refine Kd.C_drew ?_))); (case side2 => exact HC0_5.out); rintro e w43 ⟨rfl, hb⟩; refine ⟨_, rfl, ?_⟩; have n0_ := Aside0.mk (blk_below (g := gb450) (o := .cells #[.string a0_0, .int .i64 a0_1, .int .i64 a0_2, .int .i64 a0_3, .string a0_4, .slice A0_5 l0_5.length c0_5] 46 (0, 0)) (by (with_reducible repeat (first | refine blk_drewN ?_ _ | refine blk_drew ?_ | refine blk_alloc ?_ _)); exact BK450.out) hb); have n1_ := Aside0.mk (blk_below (g := gb451) (o := .cells #[.int .i64 a2_0, .int .i64 a2_1] 52 (0, 0)) (by (with_reducible repeat (first | refine blk_drewN ?_ _ | refine blk_drew ?_ | refine blk_alloc ?_ _)); exact BK451.out) hb); have n2_ := Aside0.mk (below_step (by repeat (first | (with_reducible first | exact HB.out | apply below_alloc | apply pw_below_drewN | apply below_drew1 | refine below_set ?_ GE450.out | refine below_set ?_ GE451.out) | exact HB.out)) hb); clear BK450; clear BK451; clear HB; have BK450 := n0_; have BK451 := n1_; have HB := n2_; clear n0_ n1_ n2_; (try clear hb); (try clear hb2); (try clear hk); (try clear hi)) | ((with_reducible refine gate_callee (f := 10) rfl ?_); refine goesL_ (some 11) rfl rfl Try.func10 (by kernel_rfl) rfl #[] rfl (by (try simp only [List.map_toArray, List.map_cons, List.map_nil]); first | done | rfl | (simp only [List.length_drop, List.length_take]; rfl)) ?_; (with_reducible refine (wellspringlaw18_live.calls  t453 _ A38.out).mono ?_); rintro e w44 ⟨rfl, hb⟩; refine ⟨_, rfl, ?_⟩; have n0_ := Aside0.mk (blk_below (g := gb450) (o := .cells #[.string a0_0, .int .i64 a0_1, .int .i64 a0_2, .int .i64 a0_3, .string a0_4, .slice A0_5 l0_5.length c0_5] 46 (0, 0)) (by (with_reducible repeat (first | refine blk_drewN ?_ _ | refine blk_drew ?_ | refine blk_alloc ?_ _)); exact BK450.out) hb); have n1_ := Aside0.mk (blk_below (g := gb451) (o := .cells #[.int .i64 a2_0, .int .i64 a2_1] 52 (0, 0)) (by (with_reducible repeat (first | refine blk_drewN ?_ _ | refine blk_drew ?_ | refine blk_alloc ?_ _)); exact BK451.out) hb); have n2_ := Aside0.mk (below_step (by repeat (first | (with_reducible first | exact HB.out | apply below_alloc | apply pw_below_drewN | apply below_drew1 | refine below_set ?_ GE450.out | refine below_set ?_ GE451.out) | exact HB.out)) hb); clear BK450; clear BK451; clear HB; have BK450 := n0_; have BK451 := n1_; have HB := n2_; clear n0_ n1_ n2_; (try clear hb); (try clear hb2); (try clear hk); (try clear hi)))
  go_ret
  exact ⟨by first | rfl | (simp [errW_none, errW_some] <;> rfl) | (simp [*, errW_none, errW_some] <;> rfl), by repeat (first | (with_reducible first | exact HB.out | apply below_alloc | apply pw_below_drewN | apply below_drew1 | refine below_set ?_ GE450.out | refine below_set ?_ GE451.out) | exact HB.out)⟩
end Go.Proofs.Ytedjodnaalconaa.P
end
section
namespace Go.Proofs.Ytedjodnaalconaa.tmplTells
open Go.RowKit Go.Proofs.YtedjodnaalconaaW.PrintWords Go.Proofs.Ytedjodnaalconaa.P Go.Proofs.Ytedjodnaalconaa.Opens
def Pure : Prop := ∀ (x0 : S46) (x1 : Int) (x2_0 x2_1 : Int), F46 x0 → wfI x1 → wfI x2_0 → wfI x2_1 → ∃ k, wellspringlaw18_TmplTells.f k x0.f0.f0 x0.f0.f1 x0.f0.f2 x0.f1 x0.f2 x0.f3 x1 x2_0 x2_1 = some true
end Go.Proofs.Ytedjodnaalconaa.tmplTells
end
section
namespace Go.Proofs.Ytedjodnaalconaa.Plain
open Go.RowKit Go.Proofs.YtedjodnaalconaaW.PrintWords Go.Proofs.YtedjodnaalconaaW.PrintLast Go.Proofs.YtedjodnaalconaaW.PrintMore Go.Proofs.Ytedjodnaalconaa.P Go.Proofs.Ytedjodnaalconaa.Opens
set_option linter.unusedVariables false
theorem live_true : Ev (fun _ => wellspringlaw18_live.f) true := Ev.now true
theorem wf_iff {n : Int} (h : wfI n) : -9223372036854775808 ≤ n ∧ n ≤ 9223372036854775807 := by
 unfold wfI Lit.wf at h
 have h0 : IntKind.i64.min = -9223372036854775808 := by decide
 simpa [h0] using h
theorem w64 {n : Int} (h1 : -9223372036854775808 ≤ n) (h2 : n ≤ 9223372036854775807) : wrap64 n = n := by unfold wrap64; omega
theorem rd74 {l : List S74} {i : Nat} (h : i < l.length) : rd_T74 l (i : Int) = l[i] := by unfold rd_T74; rw [Int.toNat_natCast, List.getD_eq_getElem?_getD, List.getElem?_eq_getElem h]; rfl
theorem rd80 {l : List S80} {i : Nat} (h : i < l.length) : rd_T80 l (i : Int) = l[i] := by unfold rd_T80; rw [Int.toNat_natCast, List.getD_eq_getElem?_getD, List.getElem?_eq_getElem h]; rfl
theorem rd69 {l : List S69} {i : Nat} (h : i < l.length) : rd_T69 l (i : Int) = l[i] := by unfold rd_T69; rw [Int.toNat_natCast, List.getD_eq_getElem?_getD, List.getElem?_eq_getElem h]; rfl
theorem rd71 {l : List S71} {i : Nat} (h : i < l.length) : rd_T71 l (i : Int) = l[i] := by unfold rd_T71; rw [Int.toNat_natCast, List.getD_eq_getElem?_getD, List.getElem?_eq_getElem h]; rfl
def SmallT (n text : ByteArray) (l : List S74) : Prop := (∀ p ∈ l, p.f0.length ≤ 60 ∧ l.length ≤ 20) ∧ text.size ≤ 20000 ∧ n.size ≤ 300
theorem small_l0 (n : ByteArray) (a b c : Int) (text : ByteArray) (l : List S74) (hl : l.length ≤ 9223372036854775807) : ∀ (d i k : Nat), i + d = l.length → d < k →
  ∃ r, wellspringref18_Small.l0 k (i : Int) n a b c text l = some r ∧ (r = true ↔ (∀ p ∈ l.drop i, p.f0.length ≤ 60 ∧ l.length ≤ 20) ∧ text.size ≤ 20000 ∧ n.size ≤ 300) := by
 intro d
 induction d with
 | zero =>
  intro i k hi hk
  obtain ⟨k, rfl⟩ : ∃ m, k = m + 1 := ⟨k - 1, by omega⟩
  obtain rfl : i = l.length := by omega
  simp only [wellspringref18_Small.l0]
  rw [if_neg (by omega), List.drop_length]
  by_cases ht : (text.size : Int) ≤ 20000
  ·rw [if_pos ht]
   refine ⟨_, rfl, ?_⟩
   simp only [decide_eq_true_eq]
   constructor
   ·intro h; exact ⟨fun _ h => (by cases h), by omega, by omega⟩
   ·intro h; have := h.2.2; omega
  ·rw [if_neg ht]
   refine ⟨_, rfl, ?_⟩
   constructor
   ·intro h; cases h
   ·intro h; have := h.2.1; omega
 | succ d ih =>
  intro i k hi hk
  obtain ⟨k, rfl⟩ : ∃ m, k = m + 1 := ⟨k - 1, by omega⟩
  have hil : i < l.length := by omega
  simp only [wellspringref18_Small.l0]
  rw [if_pos (by omega), if_pos (by omega), rd74 hil, List.drop_eq_getElem_cons hil]
  by_cases h1 : ((l[i].f0.length : Nat) : Int) > 60
  ·rw [if_pos h1]
   refine ⟨_, rfl, ?_⟩
   constructor
   ·intro h; cases h
   ·intro h; have := (h.1 l[i] (List.mem_cons_self ..)).1; omega
  ·rw [if_neg h1]
   by_cases h2 : (l.length : Int) > 20
   ·rw [if_pos h2]
    refine ⟨_, rfl, ?_⟩
    constructor
    ·intro h; cases h
    ·intro h; have := (h.1 l[i] (List.mem_cons_self ..)).2; omega
   ·rw [if_neg h2, w64 (by omega) (by omega)]
    obtain ⟨r, hr, hrt⟩ := ih (i + 1) k (by omega) (by omega)
    refine ⟨r, hr, hrt.trans ?_⟩
    constructor
    ·rintro ⟨h, ht⟩
     refine ⟨fun p hp => ?_, ht⟩
     rcases List.mem_cons.1 hp with rfl | hp
     ·exact ⟨by omega, by omega⟩
     ·exact h p hp
    ·rintro ⟨h, ht⟩
     exact ⟨fun p hp => h p (List.mem_cons_of_mem _ hp), ht⟩
theorem small_ev (n : ByteArray) (a b c : Int) (text : ByteArray) (l : List S74) (hl : l.length ≤ 9223372036854775807) : ∃ r, Ev (fun k => wellspringref18_Small.f k n a b c text l) r ∧ (r = true ↔ SmallT n text l) := by
 obtain ⟨r, hr, h⟩ := small_l0 n a b c text l hl l.length 0 (l.length + 1) (by omega) (by omega)
 exact ⟨r, Ev.of (g := fun k => wellspringref18_Small.f k n a b c text l) (wellspringref18_Small.mono n a b c text l) hr, by rw [h, List.drop_zero]; exact Iff.rfl⟩
def ownS (s : S80) : S71 := ⟨s.f0, s.f1, s.f2⟩
def ownP (p : S74) : S69 := ⟨p.f0.map ownS, p.f1, p.f2⟩
theorem own_step (n : ByteArray) (a b c : Int) (text : ByteArray) (l : List S74) (hl : l.length ≤ 1000) (hp : ∀ p ∈ l, p.f0.length ≤ 1000) : ∀ (d i : Nat), i + d = l.length →
  Ev (fun k => wellspringlaw18_Own.l0 k (i : Int) n a b c text l n a b c text ((l.take i).map ownP)) (n, a, b, c, text, l.map ownP) := by
 intro d
 induction d with
 | zero =>
  intro i hi
  obtain rfl : i = l.length := by omega
  refine Ev.step (f := fun _ => some (n, a, b, c, text, l.map ownP)) (fun k => ?_) (Ev.now _)
  simp only [wellspringlaw18_Own.l0]
  rw [if_neg (by omega), List.take_length]
 | succ d ih =>
  intro i hi
  have hil : i < l.length := by omega
  have hspans : ∀ (e j : Nat), j + e = l[i].f0.length → Ev (fun k => wellspringlaw18_Own.l1 k (i : Int) (j : Int) n a b c text l n a b c text ((l.take i).map ownP) ((l[i].f0.take j).map ownS) l[i].f1 l[i].f2) (n, a, b, c, text, l.map ownP) := by
   have hlen := hp l[i] (List.getElem_mem _)
   intro e
   induction e with
   | zero =>
    intro j hj
    obtain rfl : j = l[i].f0.length := by omega
    refine Ev.step (fun k => ?_) (ih (i + 1) (by omega))
    simp only [wellspringlaw18_Own.l1]
    rw [rd74 hil, if_pos (by omega), if_pos (by omega), if_neg (by omega), if_pos (by rw [List.length_map, List.length_take]; omega), w64 (by omega) (by omega), List.take_length]
    congr 1
    rw [List.take_succ_eq_append_getElem hil, List.map_append]
    rfl
   | succ e ihe =>
    intro j hj
    have hjl : j < l[i].f0.length := by omega
    refine Ev.step (fun k => ?_) (ihe (j + 1) (by omega))
    simp only [wellspringlaw18_Own.l1]
    rw [rd74 hil, rd80 hjl, if_pos (by omega), if_pos (by omega), if_pos (by omega), if_pos (by omega), if_pos (by rw [List.length_map, List.length_take]; omega), w64 (by omega) (by omega)]
    congr 1
    rw [List.take_succ_eq_append_getElem hjl, List.map_append]
    rfl
  refine Ev.step (fun k => ?_) (hspans l[i].f0.length 0 (by omega))
  simp only [wellspringlaw18_Own.l0]
  rw [if_pos (by omega), if_pos (by omega), rd74 hil]
  rfl
theorem own_ev (n : ByteArray) (a b c : Int) (text : ByteArray) (l : List S74) (hl : l.length ≤ 1000) (hp : ∀ p ∈ l, p.f0.length ≤ 1000) : Ev (fun k => wellspringlaw18_Own.f k n a b c text l) (n, a, b, c, text, l.map ownP) := own_step n a b c text l hl hp l.length 0 (by omega)
def SpansOk (text : ByteArray) (sp : List S71) : Prop := ∀ s ∈ sp, spanOk text s
instance (text : ByteArray) (sp : List S71) : Decidable (SpansOk text sp) := by unfold SpansOk; infer_instance
def PieceOk (text : ByteArray) (p : S69) : Prop := p.f0 ≠ [] ∧ SpansOk text p.f0
instance (text : ByteArray) (p : S69) : Decidable (PieceOk text p) := by unfold PieceOk; infer_instance
def CheckOk (text : ByteArray) (l : List S69) : Prop := ∀ p ∈ l, PieceOk text p
instance (text : ByteArray) (l : List S69) : Decidable (CheckOk text l) := by unfold CheckOk; infer_instance
theorem check_step (n : ByteArray) (a b c : Int) (text : ByteArray) (l : List S69) (ht : text.size ≤ 9223372036854775807) (hl : l.length ≤ 9223372036854775807) (hp : ∀ p ∈ l, p.f0.length ≤ 9223372036854775807) : ∀ (d i : Nat), i + d = l.length →
  Ev (fun k => tmpl_Template_Check.l0 k l (l.length : Int) (i : Int) n a b c text l) (decide (CheckOk text (l.drop i))) := by
 intro d
 induction d with
 | zero =>
  intro i hi
  obtain rfl : i = l.length := by omega
  refine Ev.step (f := fun _ => some _) (fun k => ?_) (Ev.now _)
  simp only [tmpl_Template_Check.l0]
  rw [if_neg (by omega), List.drop_length]
  exact congrArg some (decide_eq_true (fun _ h => (by cases h))).symm
 | succ d ih =>
  intro i hi
  have hil : i < l.length := by omega
  have hcons : CheckOk text (l.drop i) ↔ PieceOk text l[i] ∧ CheckOk text (l.drop (i + 1)) := by
   rw [List.drop_eq_getElem_cons hil]
   exact List.forall_mem_cons
  have hlen := hp l[i] (List.getElem_mem _)
  by_cases h0 : l[i].f0.length = 0
  ·have hne : ¬ CheckOk text (l.drop i) := fun h => (hcons.1 h).1.1 (List.length_eq_zero_iff.1 h0)
   refine Ev.step (f := fun _ => some _) (fun k => ?_) (Ev.now _)
   simp only [tmpl_Template_Check.l0]
   rw [if_pos (by omega), if_pos (by omega), if_pos (by omega), rd69 hil, if_pos (by omega)]
   exact congrArg some (decide_eq_false hne).symm
  ·have hspans : ∀ (e j : Nat), j + e = l[i].f0.length → Ev (fun k => tmpl_Template_Check.l1 k l (l.length : Int) (i : Int) l[i].f0 (l[i].f0.length : Int) (j : Int) n a b c text l) (decide (SpansOk text (l[i].f0.drop j) ∧ CheckOk text (l.drop (i + 1)))) := by
    intro e
    induction e with
    | zero =>
     intro j hj
     obtain rfl : j = l[i].f0.length := by omega
     have he : decide (SpansOk text (l[i].f0.drop l[i].f0.length) ∧ CheckOk text (l.drop (i + 1))) = decide (CheckOk text (l.drop (i + 1))) := by
      rw [List.drop_length]
      exact decide_eq_decide.2 ⟨fun h => h.2, fun h => ⟨fun _ h => (by cases h), h⟩⟩
     rw [he]
     refine Ev.step (fun k => ?_) (ih (i + 1) (by omega))
     simp only [tmpl_Template_Check.l1]
     rw [if_neg (by omega), w64 (by omega) (by omega)]
     rfl
    | succ e ihe =>
     intro j hj
     have hjl : j < l[i].f0.length := by omega
     have hc2 : SpansOk text (l[i].f0.drop j) ↔ spanOk text l[i].f0[j] ∧ SpansOk text (l[i].f0.drop (j + 1)) := by
      unfold SpansOk
      rw [List.drop_eq_getElem_cons hjl]
      exact List.forall_mem_cons
     by_cases hs : spanOk text l[i].f0[j]
     ·have he : decide (SpansOk text (l[i].f0.drop j) ∧ CheckOk text (l.drop (i + 1))) = decide (SpansOk text (l[i].f0.drop (j + 1)) ∧ CheckOk text (l.drop (i + 1))) :=
       decide_eq_decide.2 ⟨fun h => ⟨(hc2.1 h.1).2, h.2⟩, fun h => ⟨hc2.2 ⟨hs, h.1⟩, h.2⟩⟩
      rw [he]
      refine Ev.step (fun k => ?_) (ihe (j + 1) (by omega))
      obtain ⟨g1, g2, g3, g4⟩ := hs
      simp only [tmpl_Template_Check.l1]
      rw [if_pos (by omega), if_pos (by omega), if_pos (by omega), rd71 hjl, if_neg (by omega), if_neg (by omega), if_neg (by omega), if_neg (by omega), w64 (by omega) (by omega), if_neg (by omega), w64 (by omega) (by omega)]
      rfl
     ·have he : decide (SpansOk text (l[i].f0.drop j) ∧ CheckOk text (l.drop (i + 1))) = false := decide_eq_false (fun h => hs (hc2.1 h.1).1)
      rw [he]
      refine Ev.step (f := fun _ => some false) (fun k => ?_) (Ev.now _)
      simp only [tmpl_Template_Check.l1]
      rw [if_pos (by omega), if_pos (by omega), if_pos (by omega), rd71 hjl]
      by_cases q1 : l[i].f0[j].f0 < 0
      ·rw [if_pos q1]
      rw [if_neg q1]
      by_cases q2 : l[i].f0[j].f2 < l[i].f0[j].f0
      ·rw [if_pos q2]
      rw [if_neg q2]
      by_cases q3 : l[i].f0[j].f1 > (text.size : Int)
      ·rw [if_pos q3]
      rw [if_neg q3]
      by_cases q4 : l[i].f0[j].f1 < l[i].f0[j].f2
      ·rw [if_pos q4]
      rw [if_neg q4, w64 (by omega) (by omega), if_pos (by
       by_cases q5 : l[i].f0[j].f1 - l[i].f0[j].f2 < 4
       ·exact q5
       ·exact absurd ⟨by omega, by omega, by omega, by omega⟩ hs)]
   have he : decide (CheckOk text (l.drop i)) = decide (SpansOk text (l[i].f0.drop 0) ∧ CheckOk text (l.drop (i + 1))) := by
    refine decide_eq_decide.2 (hcons.trans ?_)
    rw [List.drop_zero]
    unfold PieceOk
    exact ⟨fun h => ⟨h.1.2, h.2⟩, fun h => ⟨⟨fun h2 => h0 (by rw [h2]; rfl), h.1⟩, h.2⟩⟩
   rw [he]
   refine Ev.step (fun k => ?_) (hspans l[i].f0.length 0 (by omega))
   simp only [tmpl_Template_Check.l0]
   rw [if_pos (by omega), if_pos (by omega), if_pos (by omega), rd69 hil, if_neg (by omega)]
   rfl
theorem check_ev (n : ByteArray) (a b c : Int) (text : ByteArray) (l : List S69) (ht : text.size ≤ 9223372036854775807) (hl : l.length ≤ 9223372036854775807) (hp : ∀ p ∈ l, p.f0.length ≤ 9223372036854775807) : Ev (fun k => tmpl_Template_Check.f k n a b c text l) (decide (CheckOk text l)) := check_step n a b c text l ht hl hp l.length 0 (by omega)
def LiveAt (now until_ : Int) : Prop := 0 ≤ now ∧ now ≤ 1099511627776 ∧ now < until_
instance (now until_ : Int) : Decidable (LiveAt now until_) := by unfold LiveAt; infer_instance
theorem live_now (now until_ : Int) : age_Live.f now until_ = some (decide (LiveAt now until_)) := by
 unfold age_Live.f age_within_int.f
 by_cases h1 : now ≥ 0
 ·rw [if_pos h1]
  by_cases h2 : now ≤ 1099511627776
  ·simp only [Option.bind_some, decide_eq_true h2, if_true]
   exact congrArg some (decide_eq_decide.2 ⟨fun h => ⟨h1, h2, h⟩, fun h => h.2.2⟩)
  ·simp only [Option.bind_some, decide_eq_false h2, Bool.false_eq_true, if_false]
   exact congrArg some (decide_eq_false (fun h => h2 h.2.1)).symm
 ·rw [if_neg h1]
  simp only [Option.bind_some, Bool.false_eq_true, if_false]
  exact congrArg some (decide_eq_false (fun h => h1 h.1)).symm
def leftAt (now until_ : Int) : Int := if until_ - now ≤ 604800 then until_ - now else 604800
theorem left_now {now until_ : Int} (h : LiveAt now until_) (hu : until_ ≤ 9223372036854775807) : age_Left.f now until_ = some (leftAt now until_) := by
 obtain ⟨h1, h2, h3⟩ := h
 unfold age_Left.f
 rw [live_now, decide_eq_true (show LiveAt now until_ from ⟨h1, h2, h3⟩)]
 simp only [Option.bind_some, if_true]
 rw [w64 (by omega) (by omega)]
 unfold mn leftAt
 by_cases hc : until_ - now ≤ 604800
 ·rw [if_pos hc, if_neg (by omega)]
 ·rw [if_neg hc, if_pos (by omega)]
theorem left_range {now until_ : Int} (h : LiveAt now until_) : 1 ≤ leftAt now until_ ∧ leftAt now until_ ≤ 604800 := by
 obtain ⟨h1, h2, h3⟩ := h
 unfold leftAt
 split <;> omega
def bytes4 (n : Int) : ByteArray := strOfNums [shr .i64 n 24 % 256, shr .i64 n 16 % 256, shr .i64 n 8 % 256, shr .i64 n 0 % 256]
theorem shr32 {n : Int} (h0 : 0 ≤ n) (h1 : n < 4294967296) : (shr .i64 n (wrap64 (8 * 4)) != 0) = false := by
 have h2 : shr .i64 n (wrap64 (8 * 4)) = n / 4294967296 := by kernel_rfl
 rw [h2, Int.ediv_eq_zero_of_lt h0 h1]
 rfl
theorem put4 {n : Int} (h0 : 0 ≤ n) (h1 : n < 4294967296) : Ev (fun k => octet_Put.f k n 4) (bytes4 n) := by
 refine Ev.of (g := fun k => octet_Put.f k n 4) (octet_Put.mono n 4) (k := 10) ?_
 show octet_Put.f 10 n 4 = _
 unfold octet_Put.f
 rw [shr32 h0 h1, show octet_sized.f 4 = some true from rfl]
 simp only [Option.bind_some, if_true]
 rw [if_neg (by omega), if_pos (by unfold wrap64; omega)]
 kernel_rfl
theorem bytes4_size (n : Int) : (bytes4 n).size = 4 := by kernel_rfl
def partV (text : ByteArray) (l : List S69) (i now turn : Int) : ByteArray :=
 if i < 0 ∨ i ≥ (l.length : Int) ∨ turn < 0 then ⟨#[]⟩ else if CheckOk text l then if LiveAt now (rd_T69 l i).f1 then partBytes text (bytes4 (leftAt now (rd_T69 l i).f1)) (turnedT (rd_T69 l i).f0 (P.partAt turn (rd_T69 l i).f2 (rd_T69 l i).f0.length)) else ⟨#[]⟩ else ⟨#[]⟩
theorem part_ev (n : ByteArray) (a b c : Int) (text : ByteArray) (l : List S69) (i now turn : Int) (ht : text.size ≤ 100000000) (hl : l.length ≤ 9223372036854775807) (hp : ∀ p ∈ l, p.f0.length ≤ 100000 ∧ p.f1 ≤ 9223372036854775807) :
  Ev (fun k => tmpl_Template_Part.f k n a b c text l i now turn) (partV text l i now turn) := by
 unfold partV
 by_cases h1 : i < 0 ∨ i ≥ (l.length : Int) ∨ turn < 0
 ·rw [if_pos h1]
  refine Ev.congr (f := fun _ => some _) (fun k => ?_) (Ev.now _)
  unfold tmpl_Template_Part.f
  rw [if_pos h1]
 rw [if_neg h1]
 have hmem : rd_T69 l i ∈ l := by
  have : i = ((i.toNat : Nat) : Int) := by omega
  rw [this, rd69 (show i.toNat < l.length by omega)]
  exact List.getElem_mem _
 obtain ⟨hp1, hp2⟩ := hp _ hmem
 refine Ev.congr (fun k => by unfold tmpl_Template_Part.f; rw [if_neg h1]) (Ev.bind (check_ev n a b c text l (by omega) hl (fun p hp' => Nat.le_trans (hp p hp').1 (by decide))) ?_)
 by_cases h2 : CheckOk text l
 ·rw [if_pos h2]
  simp only [decide_eq_true h2, if_true]
  by_cases h3 : LiveAt now (rd_T69 l i).f1
  ·rw [if_pos h3]
   have hlr := left_range h3
   simp only [live_now, decide_eq_true h3, Option.bind_some, if_true, left_now h3 hp2]
   refine Ev.bind (put4 (by omega) (by omega)) ?_
   have hok := h2 _ hmem
   refine Ev.congr (f := fun _ => some _) (fun k => ?_) (Ev.now _)
   rw [if_pos ⟨List.length_pos_iff.2 hok.1, hp1, hok.2, by rw [bytes4_size]; decide, ht⟩]
  ·rw [if_neg h3]
   simp only [live_now, decide_eq_false h3, Option.bind_some, Bool.false_eq_true, if_false]
   exact Ev.now _
 ·rw [if_neg h2]
  simp only [decide_eq_false h2, Bool.false_eq_true, if_false]
  exact Ev.now _
theorem partBytes_append (text lb : ByteArray) : ∀ l m : List S71, partBytes text lb (l ++ m) = partBytes text lb l ++ partBytes text lb m
 | [], m => by rw [List.nil_append]; show _ = ByteArray.empty ++ _; rw [ByteArray.empty_append]
 | s :: l, m => by rw [List.cons_append, partBytes, partBytes_append text lb l m, partBytes, ByteArray.append_assoc]
theorem refcheck_step (n : ByteArray) (a b c : Int) (text : ByteArray) (l : List S74) (ht : text.size ≤ 9223372036854775807) (hl : l.length ≤ 9223372036854775807) (hp : ∀ p ∈ l, p.f0.length ≤ 9223372036854775807) : ∀ (d i : Nat), i + d = l.length →
  Ev (fun k => wellspringref18_Check.l0 k (i : Int) n a b c text l) (decide (CheckOk text ((l.drop i).map ownP))) := by
 intro d
 induction d with
 | zero =>
  intro i hi
  obtain rfl : i = l.length := by omega
  refine Ev.step (f := fun _ => some _) (fun k => ?_) (Ev.now _)
  simp only [wellspringref18_Check.l0]
  rw [if_neg (by omega), List.drop_length]
  exact congrArg some (decide_eq_true (fun _ h => (by cases h))).symm
 | succ d ih =>
  intro i hi
  have hil : i < l.length := by omega
  have hcons : CheckOk text ((l.drop i).map ownP) ↔ PieceOk text (ownP l[i]) ∧ CheckOk text ((l.drop (i + 1)).map ownP) := by
   rw [List.drop_eq_getElem_cons hil, List.map_cons]
   exact List.forall_mem_cons
  have hlen := hp l[i] (List.getElem_mem _)
  have hspans : ∀ (e j : Nat), j + e = l[i].f0.length → Ev (fun k => wellspringref18_Check.l1 k (i : Int) l[i].f0 (j : Int) n a b c text l) (decide (SpansOk text ((l[i].f0.drop j).map ownS) ∧ l[i].f0 ≠ [] ∧ CheckOk text ((l.drop (i + 1)).map ownP))) := by
   intro e
   induction e with
   | zero =>
    intro j hj
    obtain rfl : j = l[i].f0.length := by omega
    by_cases h0 : l[i].f0.length = 0
    ·have hne : ¬ (SpansOk text ((l[i].f0.drop l[i].f0.length).map ownS) ∧ l[i].f0 ≠ [] ∧ CheckOk text ((l.drop (i + 1)).map ownP)) := fun h => h.2.1 (List.length_eq_zero_iff.1 h0)
     refine Ev.step (f := fun _ => some _) (fun k => ?_) (Ev.now _)
     simp only [wellspringref18_Check.l1]
     rw [if_neg (by omega), if_pos (by omega)]
     exact congrArg some (decide_eq_false hne).symm
    ·have he : decide (SpansOk text ((l[i].f0.drop l[i].f0.length).map ownS) ∧ l[i].f0 ≠ [] ∧ CheckOk text ((l.drop (i + 1)).map ownP)) = decide (CheckOk text ((l.drop (i + 1)).map ownP)) := by
      rw [List.drop_length]
      exact decide_eq_decide.2 ⟨fun h => h.2.2, fun h => ⟨fun _ h => (by cases h), fun h2 => h0 (by rw [h2]; rfl), h⟩⟩
     rw [he]
     refine Ev.step (fun k => ?_) (ih (i + 1) (by omega))
     simp only [wellspringref18_Check.l1]
     rw [if_neg (by omega), if_neg (by omega), w64 (by omega) (by omega)]
     rfl
   | succ e ihe =>
    intro j hj
    have hjl : j < l[i].f0.length := by omega
    have hc2 : SpansOk text ((l[i].f0.drop j).map ownS) ↔ spanOk text (ownS l[i].f0[j]) ∧ SpansOk text ((l[i].f0.drop (j + 1)).map ownS) := by
     unfold SpansOk
     rw [List.drop_eq_getElem_cons hjl, List.map_cons]
     exact List.forall_mem_cons
    by_cases hs : spanOk text (ownS l[i].f0[j])
    ·have he : decide (SpansOk text ((l[i].f0.drop j).map ownS) ∧ l[i].f0 ≠ [] ∧ CheckOk text ((l.drop (i + 1)).map ownP)) = decide (SpansOk text ((l[i].f0.drop (j + 1)).map ownS) ∧ l[i].f0 ≠ [] ∧ CheckOk text ((l.drop (i + 1)).map ownP)) :=
      decide_eq_decide.2 ⟨fun h => ⟨(hc2.1 h.1).2, h.2⟩, fun h => ⟨hc2.2 ⟨hs, h.1⟩, h.2⟩⟩
     rw [he]
     refine Ev.step (fun k => ?_) (ihe (j + 1) (by omega))
     have hs' : 0 ≤ l[i].f0[j].f0 ∧ l[i].f0[j].f0 ≤ l[i].f0[j].f2 ∧ l[i].f0[j].f2 + 4 ≤ l[i].f0[j].f1 ∧ l[i].f0[j].f1 ≤ text.size := hs
     obtain ⟨g1, g2, g3, g4⟩ := hs'
     simp only [wellspringref18_Check.l1]
     rw [if_pos (by omega), if_pos (by omega), rd80 hjl, if_neg (by omega), if_neg (by omega), if_neg (by omega), if_neg (by omega), w64 (by omega) (by omega), if_neg (by omega), w64 (by omega) (by omega)]
     rfl
    ·have he : decide (SpansOk text ((l[i].f0.drop j).map ownS) ∧ l[i].f0 ≠ [] ∧ CheckOk text ((l.drop (i + 1)).map ownP)) = false := decide_eq_false (fun h => hs (hc2.1 h.1).1)
     rw [he]
     refine Ev.step (f := fun _ => some false) (fun k => ?_) (Ev.now _)
     simp only [wellspringref18_Check.l1]
     rw [if_pos (by omega), if_pos (by omega), rd80 hjl]
     by_cases q1 : l[i].f0[j].f0 < 0
     ·rw [if_pos q1]
     rw [if_neg q1]
     by_cases q2 : l[i].f0[j].f2 < l[i].f0[j].f0
     ·rw [if_pos q2]
     rw [if_neg q2]
     by_cases q3 : l[i].f0[j].f1 > (text.size : Int)
     ·rw [if_pos q3]
     rw [if_neg q3]
     by_cases q4 : l[i].f0[j].f1 < l[i].f0[j].f2
     ·rw [if_pos q4]
     rw [if_neg q4, w64 (by omega) (by omega), if_pos (by
      by_cases q5 : l[i].f0[j].f1 - l[i].f0[j].f2 < 4
      ·exact q5
      ·exact absurd (show 0 ≤ l[i].f0[j].f0 ∧ l[i].f0[j].f0 ≤ l[i].f0[j].f2 ∧ l[i].f0[j].f2 + 4 ≤ l[i].f0[j].f1 ∧ l[i].f0[j].f1 ≤ text.size from ⟨by omega, by omega, by omega, by omega⟩) hs)]
  have he : decide (CheckOk text ((l.drop i).map ownP)) = decide (SpansOk text ((l[i].f0.drop 0).map ownS) ∧ l[i].f0 ≠ [] ∧ CheckOk text ((l.drop (i + 1)).map ownP)) := by
   refine decide_eq_decide.2 (hcons.trans ?_)
   rw [List.drop_zero]
   exact ⟨fun h => ⟨h.1.2, fun h2 => h.1.1 (show l[i].f0.map ownS = [] by rw [h2]; rfl), h.2⟩, fun h => ⟨⟨fun h2 => h.2.1 (List.map_eq_nil_iff.1 h2), h.1⟩, h.2.2⟩⟩
  rw [he]
  refine Ev.step (fun k => ?_) (hspans l[i].f0.length 0 (by omega))
  simp only [wellspringref18_Check.l0]
  rw [if_pos (by omega), if_pos (by omega), rd74 hil]
  rfl
theorem refcheck_ev (n : ByteArray) (a b c : Int) (text : ByteArray) (l : List S74) (ht : text.size ≤ 9223372036854775807) (hl : l.length ≤ 9223372036854775807) (hp : ∀ p ∈ l, p.f0.length ≤ 9223372036854775807) : Ev (fun k => wellspringref18_Check.f k n a b c text l) (decide (CheckOk text (l.map ownP))) := refcheck_step n a b c text l ht hl hp l.length 0 (by omega)
theorem reflive_now (now until_ : Int) : wellspringref12_Live.f now until_ = some (decide (LiveAt now until_)) := by
 unfold wellspringref12_Live.f wellspringref12_Time.f
 by_cases h1 : now ≥ 0
 ·rw [if_pos h1]
  by_cases h2 : now ≤ 1099511627776
  ·simp only [decide_eq_true h2, Option.bind_some, if_true]
   exact congrArg some (decide_eq_decide.2 ⟨fun h => ⟨h1, h2, h⟩, fun h => h.2.2⟩)
  ·simp only [decide_eq_false h2, Option.bind_some, Bool.false_eq_true, if_false]
   exact congrArg some (decide_eq_false (fun h => h2 h.2.1)).symm
 ·rw [if_neg h1]
  simp only [Option.bind_some, Bool.false_eq_true, if_false]
  exact congrArg some (decide_eq_false (fun h => h1 h.1)).symm
theorem refleft_now {now until_ : Int} (h : LiveAt now until_) (hu : until_ ≤ 9223372036854775807) : wellspringref12_Left.f now until_ = some (leftAt now until_) := by
 obtain ⟨h1, h2, h3⟩ := h
 unfold wellspringref12_Left.f
 rw [reflive_now, decide_eq_true (show LiveAt now until_ from ⟨h1, h2, h3⟩)]
 simp only [Option.bind_some, if_true]
 rw [w64 (by omega) (by omega)]
 unfold mn leftAt
 by_cases hc : until_ - now ≤ 604800
 ·rw [if_pos hc, if_neg (by omega)]
 ·rw [if_neg hc, if_pos (by omega)]
def TimeOk (now : Int) : Prop := 0 ≤ now ∧ now ≤ 1099511627776
instance (now : Int) : Decidable (TimeOk now) := by unfold TimeOk; infer_instance
def LivesAll (now : Int) (l : List S69) : Prop := (∀ p ∈ l, LiveAt now p.f1) ∧ TimeOk now
instance (now : Int) (l : List S69) : Decidable (LivesAll now l) := by unfold LivesAll; infer_instance
theorem in_time (now : Int) : tmpl_in.f now 1099511627776 = some (decide (TimeOk now)) := by
 unfold tmpl_in.f
 by_cases h1 : now ≥ 0
 ·rw [if_pos h1]; exact congrArg some (decide_eq_decide.2 ⟨fun h => ⟨h1, h⟩, fun h => h.2⟩)
 ·rw [if_neg h1]; exact congrArg some (decide_eq_false (fun h => h1 h.1)).symm
theorem reftime (now : Int) : wellspringref12_Time.f now = some (decide (TimeOk now)) := by
 unfold wellspringref12_Time.f
 by_cases h1 : now ≥ 0
 ·rw [if_pos h1]; exact congrArg some (decide_eq_decide.2 ⟨fun h => ⟨h1, h⟩, fun h => h.2⟩)
 ·rw [if_neg h1]; exact congrArg some (decide_eq_false (fun h => h1 h.1)).symm
theorem livesAll_cons (now : Int) (p : S69) (l : List S69) : LivesAll now (p :: l) ↔ LiveAt now p.f1 ∧ LivesAll now l := by
 unfold LivesAll
 rw [List.forall_mem_cons, and_assoc]
theorem lives_step (now : Int) (l : List S69) (hl : l.length ≤ 9223372036854775807) : ∀ (d i : Nat), i + d = l.length →
  Ev (fun k => tmpl_Template_Live.l0 k now l (l.length : Int) (i : Int)) (decide (LivesAll now (l.drop i))) := by
 intro d
 induction d with
 | zero =>
  intro i hi
  obtain rfl : i = l.length := by omega
  refine Ev.step (f := fun _ => some _) (fun k => ?_) (Ev.now _)
  simp only [tmpl_Template_Live.l0]
  rw [if_neg (by omega), List.drop_length, in_time]
  exact congrArg some (decide_eq_decide.2 ⟨fun h => ⟨fun _ h => (by cases h), h⟩, fun h => h.2⟩)
 | succ d ih =>
  intro i hi
  have hil : i < l.length := by omega
  rw [List.drop_eq_getElem_cons hil]
  by_cases h1 : LiveAt now l[i].f1
  ·rw [show decide (LivesAll now (l[i] :: l.drop (i + 1))) = decide (LivesAll now (l.drop (i + 1))) from decide_eq_decide.2 ⟨fun h => ((livesAll_cons ..).1 h).2, fun h => (livesAll_cons ..).2 ⟨h1, h⟩⟩]
   refine Ev.step (fun k => ?_) (ih (i + 1) (by omega))
   simp only [tmpl_Template_Live.l0]
   rw [if_pos (by omega), if_pos (by omega), if_pos (by omega), rd69 hil, live_now, decide_eq_true h1, w64 (by omega) (by omega)]
   rfl
  ·rw [decide_eq_false (fun h => h1 ((livesAll_cons ..).1 h).1)]
   refine Ev.step (f := fun _ => some false) (fun k => ?_) (Ev.now _)
   simp only [tmpl_Template_Live.l0]
   rw [if_pos (by omega), if_pos (by omega), if_pos (by omega), rd69 hil, live_now, decide_eq_false h1]
   rfl
theorem lives_ev (n : ByteArray) (a b c : Int) (text : ByteArray) (l : List S69) (now : Int) (hl : l.length ≤ 9223372036854775807) : Ev (fun k => tmpl_Template_Live.f k n a b c text l now) (decide (LivesAll now l)) := lives_step now l hl l.length 0 (by omega)
theorem reflives_step (now : Int) (n : ByteArray) (a b c : Int) (text : ByteArray) (l : List S74) (hl : l.length ≤ 9223372036854775807) : ∀ (d i : Nat), i + d = l.length →
  Ev (fun k => wellspringref18_Live.l0 k now (i : Int) n a b c text l) (decide (LivesAll now ((l.drop i).map ownP))) := by
 intro d
 induction d with
 | zero =>
  intro i hi
  obtain rfl : i = l.length := by omega
  refine Ev.step (f := fun _ => some _) (fun k => ?_) (Ev.now _)
  simp only [wellspringref18_Live.l0]
  rw [if_neg (by omega), List.drop_length, reftime]
  exact congrArg some (decide_eq_decide.2 ⟨fun h => ⟨fun _ h => (by cases h), h⟩, fun h => h.2⟩)
 | succ d ih =>
  intro i hi
  have hil : i < l.length := by omega
  rw [List.drop_eq_getElem_cons hil, List.map_cons]
  by_cases h1 : LiveAt now l[i].f1
  ·rw [show decide (LivesAll now (ownP l[i] :: (l.drop (i + 1)).map ownP)) = decide (LivesAll now ((l.drop (i + 1)).map ownP)) from decide_eq_decide.2 ⟨fun h => ((livesAll_cons ..).1 h).2, fun h => (livesAll_cons ..).2 ⟨h1, h⟩⟩]
   refine Ev.step (fun k => ?_) (ih (i + 1) (by omega))
   simp only [wellspringref18_Live.l0]
   rw [if_pos (by omega), if_pos (by omega), rd74 hil, reflive_now, decide_eq_true h1, w64 (by omega) (by omega)]
   rfl
  ·rw [decide_eq_false (fun h => h1 ((livesAll_cons ..).1 h).1)]
   refine Ev.step (f := fun _ => some false) (fun k => ?_) (Ev.now _)
   simp only [wellspringref18_Live.l0]
   rw [if_pos (by omega), if_pos (by omega), rd74 hil, reflive_now, decide_eq_false h1]
   rfl
theorem reflives_ev (n : ByteArray) (a b c : Int) (text : ByteArray) (l : List S74) (now : Int) (hl : l.length ≤ 9223372036854775807) : Ev (fun k => wellspringref18_Live.f k n a b c text l now) (decide (LivesAll now (l.map ownP))) := reflives_step now n a b c text l hl l.length 0 (by omega)
theorem and255 {n : Int} (h0 : 0 ≤ n) (h1 : n < 4294967296) : bits .and .i64 n 255 % 256 = n % 256 := by
 have h := bits_mask .i64 63 (by decide) (fun n h0 h1 => by rw [IntKind.wrap_i64]; omega) 8 (by decide) n h0 (by omega)
 rw [show (255 : Int) = 2 ^ 8 - 1 from rfl, h]
 omega
theorem shr_and {n m : Int} (q : Int) (h0 : 0 ≤ n) (h1 : n < 4294967296) (hq : 0 < q) (h : shr .i64 n m = n / q) : bits .and .i64 (shr .i64 n m) 255 % 256 = shr .i64 n m % 256 := by
 rw [h]
 exact and255 (Int.ediv_nonneg h0 (Int.le_of_lt hq)) (Int.lt_of_le_of_lt (Int.ediv_le_self _ h0) h1)
theorem refput4 {n : Int} (h0 : 0 ≤ n) (h1 : n < 4294967296) : Ev (fun k => wellspringref01_Put.f k n 4) (bytes4 n) := by
 refine Ev.of (g := fun k => wellspringref01_Put.f k n 4) (wellspringref01_Put.mono n 4) (k := 10) ?_
 have hs : ¬ (shr .i64 n 32 > 0) := by
  have h2 : shr .i64 n 32 = n / 4294967296 := by kernel_rfl
  rw [h2, Int.ediv_eq_zero_of_lt h0 h1]
  omega
 show wellspringref01_Put.f 10 n 4 = _
 have he : wellspringref01_Put.j0 10 n 4 false = (if shr .i64 n 32 > 0 then some (⟨#[]⟩ : ByteArray) else some (strOfNums [bits .and .i64 (shr .i64 n 24) 255 % 256, bits .and .i64 (shr .i64 n 16) 255 % 256, bits .and .i64 (shr .i64 n 8) 255 % 256, bits .and .i64 (shr .i64 n 0) 255 % 256])) := by kernel_rfl
 unfold wellspringref01_Put.f
 rw [if_neg (by omega), if_neg (by omega), decide_eq_false (show ¬ n < 0 by omega), he, if_neg hs]
 rw [shr_and 16777216 h0 h1 (by decide) (by kernel_rfl), shr_and 65536 h0 h1 (by decide) (by kernel_rfl), shr_and 256 h0 h1 (by decide) (by kernel_rfl), shr_and 1 h0 h1 (by decide) (by kernel_rfl)]
 rfl
theorem lay4 {sub lb : ByteArray} {at_ : Int} (h4 : lb.size = 4) (h0 : 0 ≤ at_) (h1 : at_ + 4 ≤ sub.size) (hs : sub.size ≤ 1000000) : wellspringref01_Lay.f sub at_ lb = some (sub.extract 0 at_.toNat ++ lb ++ sub.extract (at_ + 4).toNat sub.size, true) := by
 unfold wellspringref01_Lay.f wellspringref01_Take.f
 have e : (lb.size : Int) = 4 := by omega
 rw [e, w64 (by omega) (by omega), w64 (by omega) (by omega)]
 rw [if_neg (by omega), if_neg (by omega), if_neg (by omega), if_neg (by omega), if_pos (by omega), if_pos (by omega), if_pos (by omega)]
 simp only [Option.bind_some, if_true]
 rw [if_pos (by omega), if_pos (by omega), if_pos (by omega), if_pos (by omega), if_pos (by omega), if_pos (by omega)]
theorem lay_span {text lb : ByteArray} {s : S71} (h4 : lb.size = 4) (ht : text.size ≤ 1000000) (hs : spanOk text s) : wellspringref01_Lay.f (text.extract s.f0.toNat s.f1.toNat) (wrap64 (s.f2 - s.f0)) lb = some (spanBytes text lb s, true) := by
 obtain ⟨g1, g2, g3, g4⟩ := hs
 have hz : (text.extract s.f0.toNat s.f1.toNat).size = s.f1.toNat - s.f0.toNat := by rw [ByteArray.size_extract]; omega
 rw [w64 (by omega) (by omega), lay4 h4 (by omega) (by rw [hz]; omega) (by rw [hz]; omega), hz]
 have e1 : (text.extract s.f0.toNat s.f1.toNat).extract 0 (s.f2 - s.f0).toNat = text.extract s.f0.toNat s.f2.toNat := by
  rw [ByteArray.extract_extract]
  congr 1
  omega
 have e2 : (text.extract s.f0.toNat s.f1.toNat).extract (s.f2 - s.f0 + 4).toNat (s.f1.toNat - s.f0.toNat) = text.extract (s.f2 + 4).toNat s.f1.toNat := by
  rw [ByteArray.extract_extract]
  congr 1 <;> omega
 rw [e1, e2]
 rfl
theorem span_size {text lb : ByteArray} {s : S71} (h4 : lb.size = 4) (hs : spanOk text s) : (spanBytes text lb s).size ≤ text.size := by
 obtain ⟨g1, g2, g3, g4⟩ := hs
 unfold spanBytes
 rw [ByteArray.size_append, ByteArray.size_append, ByteArray.size_extract, ByteArray.size_extract]
 omega
theorem part_size {text lb : ByteArray} (h4 : lb.size = 4) : ∀ l : List S71, SpansOk text l → (partBytes text lb l).size ≤ l.length * text.size
 | [], _ => by show 0 ≤ _; exact Nat.zero_le _
 | s :: l, h => by
  have h1 := span_size h4 (h s (List.mem_cons_self ..))
  have h2 := part_size h4 l (fun x hx => h x (List.mem_cons_of_mem _ hx))
  rw [partBytes, ByteArray.size_append, List.length_cons, Nat.add_mul]
  omega
theorem turned_get {l : List S71} {a k : Nat} (ha : a < l.length) (hk : k < l.length) : ∃ h : k < (turnedT l a).length, (turnedT l a)[k] = l[(a + k) % l.length]'(Nat.mod_lt _ (by omega)) := by
 have h : k < (l.drop a ++ l.take a).length := by rw [List.length_append, List.length_drop, List.length_take]; omega
 refine ⟨h, ?_⟩
 show (l.drop a ++ l.take a)[k]'h = _
 by_cases hc : k < l.length - a
 ·rw [List.getElem_append_left (by rw [List.length_drop]; omega), List.getElem_drop]
  have : (a + k) % l.length = a + k := Nat.mod_eq_of_lt (by omega)
  simp only [this]
 ·rw [List.getElem_append_right (by rw [List.length_drop]; omega), List.getElem_take]
  have : (a + k) % l.length = k - (l.length - a) := by
   rw [Nat.mod_eq_sub_mod (by omega), Nat.mod_eq_of_lt (by omega)]
   omega
  simp only [this, List.length_drop]
theorem refpart_loop (now turn u : Int) (n : ByteArray) (a b c : Int) (text : ByteArray) (l : List S74) (sp : List S80) (soa : Bool) (ht : text.size ≤ 20000) (hn : sp.length ≤ 60) (h0 : 0 ≤ turn) (hok : SpansOk text (sp.map ownS)) (hl : LiveAt now u) (hu : u ≤ 9223372036854775807) (at_ : Nat) (hat : at_ < sp.length) (hta : turn % (sp.length : Int) = at_) : ∀ (d k : Nat), k + d = sp.length →
  Ev (fun K => wellspringref18_Part.l0 K now turn (partBytes text (bytes4 (leftAt now u)) ((turnedT (sp.map ownS) at_).take k)) (sp.length : Int) (k : Int) n a b c text l sp u soa) (partBytes text (bytes4 (leftAt now u)) (turnedT (sp.map ownS) at_)) := by
 intro d
 have htl : (turnedT (sp.map ownS) at_).length = sp.length := by unfold turnedT; rw [List.length_append, List.length_drop, List.length_take, List.length_map]; omega
 have hlr := left_range hl
 induction d with
 | zero =>
  intro k hk
  obtain rfl : k = sp.length := by omega
  refine Ev.step (f := fun _ => some _) (fun K => ?_) (Ev.now _)
  simp only [wellspringref18_Part.l0]
  rw [if_neg (by omega), List.take_of_length_le (by omega)]
 | succ d ih =>
  intro k hk
  have hkl : k < sp.length := by omega
  have hi : Int.tmod (wrap64 (Int.tmod turn (sp.length : Int) + (k : Int))) (sp.length : Int) = (((at_ + k) % sp.length : Nat) : Int) := by
   rw [Int.tmod_eq_emod_of_nonneg h0, hta, w64 (by omega) (by omega), Int.tmod_eq_emod_of_nonneg (by omega)]
   rw [Int.natCast_emod, Int.natCast_add]
  have hm : (at_ + k) % sp.length < sp.length := Nat.mod_lt _ (by omega)
  obtain ⟨h2, hg⟩ := turned_get (l := sp.map ownS) (a := at_) (k := k) (by rw [List.length_map]; exact hat) (by rw [List.length_map]; exact hkl)
  have hg' : (turnedT (sp.map ownS) at_)[k] = ownS sp[(at_ + k) % sp.length] := by rw [hg]; simp [List.length_map]
  have hs : spanOk text (ownS sp[(at_ + k) % sp.length]) := hok _ (List.mem_map_of_mem (List.getElem_mem _))
  have hs' : 0 ≤ sp[(at_ + k) % sp.length].f0 ∧ sp[(at_ + k) % sp.length].f0 ≤ sp[(at_ + k) % sp.length].f2 ∧ sp[(at_ + k) % sp.length].f2 + 4 ≤ sp[(at_ + k) % sp.length].f1 ∧ sp[(at_ + k) % sp.length].f1 ≤ text.size := hs
  obtain ⟨g1, g2, g3, g4⟩ := hs'
  have hb4 := bytes4_size (leftAt now u)
  have htk : SpansOk text ((turnedT (sp.map ownS) at_).take k) := by
   intro s h
   have h := List.mem_of_mem_take h
   unfold turnedT at h
   rcases List.mem_append.1 h with h | h
   ·exact hok s (List.mem_of_mem_drop h)
   ·exact hok s (List.mem_of_mem_take h)
  have hps := part_size hb4 _ htk
  have hss := span_size hb4 hs
  have hpl : ((turnedT (sp.map ownS) at_).take k).length * text.size ≤ 60 * 20000 := Nat.mul_le_mul (by rw [List.length_take]; omega) ht
  have hlay : wellspringref01_Lay.f (text.extract sp[(at_ + k) % sp.length].f0.toNat sp[(at_ + k) % sp.length].f1.toNat) (wrap64 (sp[(at_ + k) % sp.length].f2 - sp[(at_ + k) % sp.length].f0)) (bytes4 (leftAt now u)) = some (spanBytes text (bytes4 (leftAt now u)) (ownS sp[(at_ + k) % sp.length]), true) := lay_span (s := ownS sp[(at_ + k) % sp.length]) hb4 (by omega) hs
  refine Ev.step (f := fun K => (wellspringref01_Put.f K (leftAt now u) 4).bind fun t447 => ((wellspringref01_Lay.f (text.extract sp[(at_ + k) % sp.length].f0.toNat sp[(at_ + k) % sp.length].f1.toNat) (wrap64 (sp[(at_ + k) % sp.length].f2 - sp[(at_ + k) % sp.length].f0)) t447).bind fun bt448 => (if (partBytes text (bytes4 (leftAt now u)) ((turnedT (sp.map ownS) at_).take k)).size + bt448.1.size ≤ 9223372036854775807 then (wellspringref18_Part.l0 K now turn (partBytes text (bytes4 (leftAt now u)) ((turnedT (sp.map ownS) at_).take k) ++ bt448.1) (sp.length : Int) (wrap64 ((k : Int) + 1)) n a b c text l sp u soa) else none))) (fun K => ?_) ?_
  ·simp only [wellspringref18_Part.l0]
   rw [if_pos (by omega), if_neg (by omega), hi, rd80 hm, if_pos (by omega), if_pos (by omega), if_pos (by omega), if_pos (by omega), if_pos (by omega), refleft_now hl hu]
   rfl
  ·refine Ev.bind (refput4 (by omega) (by omega)) ?_
   simp only [hlay, Option.bind_some]
   refine Ev.congr (fun K => if_pos (by omega)) ?_
   have ht2 : partBytes text (bytes4 (leftAt now u)) ((turnedT (sp.map ownS) at_).take k) ++ spanBytes text (bytes4 (leftAt now u)) (ownS sp[(at_ + k) % sp.length]) = partBytes text (bytes4 (leftAt now u)) ((turnedT (sp.map ownS) at_).take (k + 1)) := by
    rw [← List.take_append_getElem h2, partBytes_append, hg']
    show _ = _ ++ (_ ++ ByteArray.empty)
    rw [ByteArray.append_empty]
   refine Ev.congr (fun K => ?_) (ih (k + 1) (by omega))
   rw [ht2, w64 (by omega) (by omega)]
   rfl
theorem refpart_gone (n : ByteArray) (a b c : Int) (text : ByteArray) (l : List S74) (i now turn : Int) : Ev (fun k => wellspringref18_Part.j0 k i now turn true n a b c text l) (⟨#[]⟩ : ByteArray) :=
 Ev.step (fun k => by simp only [wellspringref18_Part.j0, if_true]) (Ev.now _)
theorem refpart_ev (n : ByteArray) (a b c : Int) (text : ByteArray) (l : List S74) (i now turn : Int) (ht : text.size ≤ 20000) (hl : l.length ≤ 9223372036854775807) (hp : ∀ p ∈ l, p.f0.length ≤ 60 ∧ p.f1 ≤ 9223372036854775807) :
  Ev (fun k => wellspringref18_Part.f k n a b c text l i now turn) (partV text (l.map ownP) i now turn) := by
 have hll : (l.map ownP).length = l.length := List.length_map ..
 refine Ev.bind (refcheck_ev n a b c text l (by omega) hl (fun p hp' => Nat.le_trans (hp p hp').1 (by decide))) ?_
 unfold partV
 rw [hll]
 by_cases h2 : CheckOk text (l.map ownP)
 ·simp only [decide_eq_true h2, if_true]
  rw [if_pos h2]
  by_cases h3 : i < 0
  ·rw [if_pos (Or.inl h3)]; simp only [if_pos h3]; exact refpart_gone ..
  simp only [if_neg h3]
  by_cases h4 : i ≥ (l.length : Int)
  ·rw [if_pos (Or.inr (Or.inl h4))]; simp only [if_pos h4]; exact refpart_gone ..
  simp only [if_neg h4]
  by_cases h5 : turn < 0
  ·rw [if_pos (Or.inr (Or.inr h5))]; simp only [decide_eq_true h5]; exact refpart_gone ..
  simp only [decide_eq_false h5]
  rw [if_neg (by omega)]
  obtain ⟨j, rfl⟩ : ∃ j : Nat, i = (j : Int) := ⟨i.toNat, by omega⟩
  have hjl : j < l.length := by omega
  obtain ⟨hp1, hp2⟩ := hp _ (List.getElem_mem hjl)
  have hrd : rd_T69 (l.map ownP) (j : Int) = ownP l[j] := by rw [rd69 (by rw [hll]; exact hjl)]; simp
  have hok : PieceOk text (ownP l[j]) := h2 _ (List.mem_map_of_mem (List.getElem_mem hjl))
  have hne : 0 < l[j].f0.length := by
   rcases Nat.eq_zero_or_pos l[j].f0.length with h | h
   ·exact absurd (show l[j].f0.map ownS = [] by rw [List.length_eq_zero_iff.1 h]; rfl) hok.1
   ·exact h
  rw [hrd]
  show Ev _ (if LiveAt now l[j].f1 then partBytes text (bytes4 (leftAt now l[j].f1)) (turnedT (l[j].f0.map ownS) (P.partAt turn l[j].f2 (l[j].f0.map ownS).length)) else ⟨#[]⟩)
  rw [List.length_map]
  by_cases h6 : LiveAt now l[j].f1
  ·rw [if_pos h6]
   by_cases h7 : l[j].f2 = true
   ·have hpa : P.partAt turn l[j].f2 l[j].f0.length = 0 := by unfold P.partAt; rw [if_pos h7]
    rw [hpa]
    refine Ev.step (f := fun k => wellspringref18_Part.j1 k now 0 n a b c text l l[j].f0 l[j].f1 l[j].f2) (fun k => ?_) ?_
    ·simp only [wellspringref18_Part.j0, Bool.false_eq_true, if_false]
     rw [if_pos (by omega), if_pos (by omega), rd74 hjl, reflive_now, decide_eq_true h6]
     simp only [Option.bind_some, if_true, if_pos h7]
    ·refine Ev.step (fun k => by simp only [wellspringref18_Part.j1]; rfl) (refpart_loop now 0 l[j].f1 n a b c text l l[j].f0 l[j].f2 ht hp1 (by omega) hok.2 h6 hp2 0 hne (by rw [Int.zero_emod]; rfl) l[j].f0.length 0 (by omega))
   ·have hpa : P.partAt turn l[j].f2 l[j].f0.length = (turn % (l[j].f0.length : Int)).toNat := by unfold P.partAt; rw [if_neg h7]
    have hm0 : 0 ≤ turn % (l[j].f0.length : Int) := Int.emod_nonneg _ (by omega)
    have hm1 : turn % (l[j].f0.length : Int) < (l[j].f0.length : Int) := Int.emod_lt_of_pos _ (by omega)
    rw [hpa]
    refine Ev.step (f := fun k => wellspringref18_Part.j1 k now turn n a b c text l l[j].f0 l[j].f1 l[j].f2) (fun k => ?_) ?_
    ·simp only [wellspringref18_Part.j0, Bool.false_eq_true, if_false]
     rw [if_pos (by omega), if_pos (by omega), rd74 hjl, reflive_now, decide_eq_true h6]
     simp only [Option.bind_some, if_true, if_neg h7]
    ·refine Ev.step (fun k => by simp only [wellspringref18_Part.j1]; rfl) (refpart_loop now turn l[j].f1 n a b c text l l[j].f0 l[j].f2 ht hp1 (by omega) hok.2 h6 hp2 (turn % (l[j].f0.length : Int)).toNat (by omega) (by omega) l[j].f0.length 0 (by omega))
  ·rw [if_neg h6]
   refine Ev.step (f := fun k => some _) (fun k => ?_) (Ev.now _)
   simp only [wellspringref18_Part.j0, Bool.false_eq_true, if_false]
   rw [if_pos (by omega), if_pos (by omega), rd74 hjl, reflive_now, decide_eq_false h6]
   simp only [Option.bind_some, Bool.false_eq_true, if_false]
 ·simp only [decide_eq_false h2, Bool.false_eq_true, if_false]
  rw [if_neg h2, ite_self]
  exact refpart_gone ..
end Go.Proofs.Ytedjodnaalconaa.Plain
end
section
namespace Go.Proofs.Ytedjodnaalconaa.Pure
open Go.RowKit Go.Proofs.YtedjodnaalconaaW.PrintWords Go.Proofs.YtedjodnaalconaaW.PrintLast Go.Proofs.YtedjodnaalconaaW.PrintMore Go.Proofs.Ytedjodnaalconaa.P Go.Proofs.Ytedjodnaalconaa.Opens Go.Proofs.Ytedjodnaalconaa.Plain
theorem TmplTells : tmplTells.Pure := by
 intro x i now turn hx hi hnow hturn
 obtain ⟨⟨hn, ha, hb⟩, hc, ht, hl, hp⟩ := hx
 obtain ⟨s, hs, hS⟩ := small_ev x.f0.f0 x.f0.f1 x.f0.f2 x.f1 x.f2 x.f3 hl
 refine Ev.rounds (g := fun k => wellspringlaw18_TmplTells.f k x.f0.f0 x.f0.f1 x.f0.f2 x.f1 x.f2 x.f3 i now turn) (Ev.bind hs ?_)
 cases s with
 | false =>
  simp only [Bool.false_eq_true, if_false]
  exact Ev.bind (f := fun _ t => some t) live_true (Ev.now true)
 | true =>
  simp only [if_true]
  obtain ⟨hsp, hst, hsn⟩ := hS.1 rfl
  have hlen : x.f3.length ≤ 20 := by
   cases hx3 : x.f3 with
   | nil => exact Nat.zero_le _
   | cons p q => rw [← hx3]; exact (hsp p (by rw [hx3]; exact List.mem_cons_self ..)).2
  have hlm : (x.f3.map ownP).length = x.f3.length := List.length_map ..
  have h60 : ∀ p ∈ x.f3, p.f0.length ≤ 60 ∧ p.f1 ≤ 9223372036854775807 := fun p hp' => ⟨(hsp p hp').1, (wf_iff (hp p hp').2.1).2⟩
  have hlp : ∀ p ∈ x.f3.map ownP, p.f0.length ≤ 100000 ∧ p.f1 ≤ 9223372036854775807 := by
   intro p hp'
   obtain ⟨q, hq, rfl⟩ := List.mem_map.1 hp'
   refine ⟨?_, (h60 q hq).2⟩
   show (q.f0.map ownS).length ≤ 100000
   rw [List.length_map]
   exact Nat.le_trans (h60 q hq).1 (by decide)
  refine Ev.bind (own_ev x.f0.f0 x.f0.f1 x.f0.f2 x.f1 x.f2 x.f3 (by omega) (fun p hp' => Nat.le_trans (hsp p hp').1 (by decide))) ?_
  refine Ev.bind (check_ev x.f0.f0 x.f0.f1 x.f0.f2 x.f1 x.f2 (x.f3.map ownP) (by omega) (by omega) (fun p hp' => Nat.le_trans (hlp p hp').1 (by decide))) ?_
  refine Ev.bind (refcheck_ev x.f0.f0 x.f0.f1 x.f0.f2 x.f1 x.f2 x.f3 (by omega) (by omega) (fun p hp' => Nat.le_trans (h60 p hp').1 (by decide))) ?_
  simp only [beq_self_eq_true, if_true]
  refine Ev.bind (lives_ev x.f0.f0 x.f0.f1 x.f0.f2 x.f1 x.f2 (x.f3.map ownP) now (by omega)) ?_
  refine Ev.bind (reflives_ev x.f0.f0 x.f0.f1 x.f0.f2 x.f1 x.f2 x.f3 now (by omega)) ?_
  simp only [beq_self_eq_true, if_true]
  refine Ev.bind (part_ev x.f0.f0 x.f0.f1 x.f0.f2 x.f1 x.f2 (x.f3.map ownP) i now turn (by omega) (by omega) hlp) ?_
  refine Ev.bind (refpart_ev x.f0.f0 x.f0.f1 x.f0.f2 x.f1 x.f2 x.f3 i now turn hst (by omega) h60) ?_
  simp only [if_true]
  exact Ev.bind (f := fun _ t => some t) live_true (Ev.now true)
end Go.Proofs.Ytedjodnaalconaa.Pure
end
section
namespace Go.Proofs.Ytedjodnaalconaa.tmplTells
open Go.ChangeShapes Go.WideShapes Go.ChangeAt Go.RowKit Go.Proofs.YtedjodnaalconaaW.PrintWords Go.Proofs.Ytedjodnaalconaa.P Go.Proofs.Ytedjodnaalconaa.Opens
open Go.ChangeMaps (open_string shut_string)
set_option linter.unusedVariables false
theorem own : ownKnob Try.prog.godebug = none := by kernel_rfl
theorem laidOut : laidOutB Try.prog = true := by kernel_rfl
set_option maxRecDepth 100000 in
theorem lifted (os : Os) (started : os.Started) (H : Type) (enc : TypeId × Value → H) :
  ReturnsInHanded {} Try.checked os 4 .any (Rows.tmplTellsSpec.pre6 enc Try.prog Try.f4 Rows.tmplTellsRow.domain false) (Rows.tmplTellsSpec.post enc Try.prog Try.f4 false true false false) := by
 refine returnsInHanded_of_change_sized (C := Try.checked) own started (by kernel_rfl) Try.func4
  (ChangeSpec.witness6 (enc := enc) (C := Try.checked) false ⟨#[], #[.agg #[.string ByteArray.empty, .int .i64 0, .int .i64 0, .int .i64 0, .string ByteArray.empty, .slice none 0 0], .int .i64 0, .agg #[.int .i64 0, .int .i64 0]], []⟩ 8 (by kernel_rfl) (by kernel_rfl) (by kernel_rfl) (by kernel_rfl)) ?_
 intro W base args ds gs before hval0 hW hcnd hsz0 _
 have hval : ∀ (j : Nat) t v, Try.f4.params[j]? = some t → args[j]? = some v → Value.okWide Try.prog W .any base t v := hval0
 have hW' := hW
 obtain ⟨p, q, hA0, hV, rfl, hfz, hnd⟩ := hW
 have hA : DataW.TrodAll enc Try.prog W 0 (fun _ => true) true Try.f4.params.toList args.toList ds p := hA0
 rw [Try.params4] at hA hval
 obtain ⟨v0, vs0, d0, ds0, p0, q0, hargs, rfl, rfl, h0, r0⟩ := trodAll_cons hA
 obtain ⟨v1, vs1, d1, ds1, p1, q1, rfl, rfl, rfl, h1, r1⟩ := trodAll_cons r0
 obtain ⟨v2, vs2, d2, ds2, p2, q2, rfl, rfl, rfl, h2, r2⟩ := trodAll_cons r1
 obtain ⟨rfl, rfl, rfl⟩ := trodAll_nil r2
 obtain rfl : args = #[v0, v1, v2] := by cases args; simp_all
 obtain ⟨rfl, rfl⟩ := trodVars_none hV
 have o0 := (hval 0 46 v0 rfl rfl)
 unfold Value.okWide at o0
 rw [Try.underlying46] at o0
 obtain ⟨b0, rfl, _⟩ := o0
 have k0 := h0
 obtain ⟨fuel0, t0⟩ := h0
 obtain ⟨x0, m0, w0⟩ := opens46 enc W fuel0 _ _ t0
 obtain ⟨A0_1, c0_1, e0, l0_1, g0_1⟩ := k46_open m0
 obtain rfl : b0 = #[.string x0.f0.f0, .int .i64 x0.f0.f1, .int .i64 x0.f0.f2, .int .i64 x0.f1, .string x0.f2, .slice A0_1 x0.f3.length c0_1] := Array.toList_inj.1 e0
 have lt0 : ∀ x ∈ p0, x.block < W.heap.size := by obtain ⟨m, hm⟩ := k0; exact DataW.trod_lt m _ _ _ hm
 obtain ⟨x1, rfl, rfl, rfl, w1⟩ := open_int Try.underlying3 (hval 1 3 v1 rfl rfl) h1
 have o2 := (hval 2 52 v2 rfl rfl)
 unfold Value.okWide at o2
 rw [Try.underlying52] at o2
 obtain ⟨b2, rfl, _⟩ := o2
 have k2 := h2
 obtain ⟨fuel2, t2⟩ := h2
 obtain ⟨x2_0, x2_1, e2, w2_0, w2_1⟩ := array_ints2 Try.underlying52 Try.underlying3 (by kernel_rfl) (by kernel_rfl) t2
 obtain rfl : b2 = #[.int .i64 x2_0, .int .i64 x2_1] := Array.toList_inj.1 e2
 have lt2 : ∀ x ∈ p2, x.block < W.heap.size := by obtain ⟨m, hm⟩ := k2; exact DataW.trod_lt m _ _ _ hm
 clear hA0 hval0 hsz0
 obtain ⟨k, hp⟩ := Pure.TmplTells x0 x1 x2_0 x2_1 w0 w1 w2_0 w2_1
 refine (wellspringlaw18_TmplTells.calls k _ _ _ _ _ _ _ _ _ _ _ true W g0_1 l0_1 hp).mono fun e W' ⟨he, bel⟩ => ?_
 subst he
 exact ⟨_, rfl, _, _, _, [], _, [], hW', trodAll_mk1 (shut_bool Try.underlying4 _), (trodAll_cons_mk (Below.trod laidOut (by kernel_rfl) (of_decide_eq_true (by kernel_rfl)) k0 bel lt0) (trodAll_cons_mk (shut_int Try.underlying3 w1) (trodAll_cons_mk (Below.trod laidOut (by kernel_rfl) (of_decide_eq_true (by kernel_rfl)) k2 bel lt2) trodAll_mk0))), rfl, bel.frame _, fun h => by cases h⟩
theorem over : Rows.tmplTellsRow.holds Try.pinned (OpenSpec.ofChange Rows.tmplTellsSpec) :=
 OpenClaim.holds_of_wide 4 Try.f4 rfl rfl rfl rfl rfl rfl rfl ⟨rfl, rfl, rfl, rfl, rfl⟩ rfl rfl rfl rfl rfl (by kernel_rfl) Try.func4 (by kernel_rfl)
  (of_decide_eq_true (by kernel_rfl)) (by unfold Func.isWrapper; first | (rw [if_pos (by decide +kernel)]; kernel_rfl) | (rw [if_neg (by decide +kernel)]; exact ⟨rfl, rfl⟩))
  (fun os started H enc _ => lifted os started H enc)
theorem proved : Rows.TmplTellsSaid := over
#print axioms proved
end Go.Proofs.Ytedjodnaalconaa.tmplTells
namespace Go.Proofs.Ytedjodnaalconaa
theorem tmplTells_holds : Rows.TmplTellsSaid := tmplTells.proved
end Go.Proofs.Ytedjodnaalconaa
end
