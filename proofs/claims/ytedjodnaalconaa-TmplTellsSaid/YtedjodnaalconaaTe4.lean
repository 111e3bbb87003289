/- Part 4 of 6 of the proof that 'YtedjodnaalconaaLawTmplTells' holds: functions of plain values for the Go functions that the law reaches, what each call comes to, and the plain law; of the words that the kit's print wrote, what these use. Written together by a program of this session; no condition of its own. -/
import Derived.Test.YtedjodnaalconaaTe3
section
namespace Go.Proofs.Ytedjodnaalconaa.P
open Go.RowKit Go.Proofs.YtedjodnaalconaaW.PrintWords Go.Proofs.YtedjodnaalconaaW.PrintLast Go.Proofs.YtedjodnaalconaaW.PrintMore
attribute [local go_sem] max2_int min2_int max_two min_two max_three min_three max_four min_four
set_option linter.unusedVariables false
set_option linter.unusedSimpArgs false
def record_Check.f (k : Nat) (a0_0 : ByteArray) (a0_1 : Int) (a0_2 : Int) (a0_3 : Int) (a0_4 : ByteArray) : Option (Bool) := (name_Check.f k a0_0).bind fun t158 => (if t158 = true then ((record_in.f a0_1 65535).bind fun t159 => (if t159 = true then ((record_in.f a0_2 65535).bind fun t160 => (if t160 = true then ((record_in.f a0_3 2147483647).bind fun t161 => (if t161 = true then ((data_Check.f k a0_1 a0_4).bind fun t162 => (some t162)) else (some false))) else (some false))) else (some false))) else (some false))
theorem record_Check.mono : ∀ a0 a1 a2 a3 a4 k, LeO (record_Check.f k a0 a1 a2 a3 a4) (record_Check.f (k + 1) a0 a1 a2 a3 a4) := by
 intro a0 a1 a2 a3 a4 k
 unfold record_Check.f
 repeat' first
   | (with_reducible exact data_Check.mono _ _ _)
   | (with_reducible exact name_Check.mono _ _)
   | (with_reducible exact LeO.refl _)
   | (with_reducible exact LeO.none _)
   | (with_reducible refine LeO.ite ?_ ?_)
   | (with_reducible refine LeO.bind ?_ (fun _ => ?_))
set_option maxHeartbeats 8000000 in
set_option maxRecDepth 100000 in
theorem record_Check.calls (k : Nat) (a0_0 : ByteArray) (a0_1 : Int) (a0_2 : Int) (a0_3 : Int) (a0_4 : ByteArray) (r : Bool) (w : World) (h : record_Check.f k a0_0 a0_1 a0_2 a0_3 a0_4 = some r) :
  Calls Try.prog 71 #[.agg #[.string a0_0, .int .i64 a0_1, .int .i64 a0_2, .int .i64 a0_3, .string a0_4]] w fun e w' => e = .returned (.bool r) ∧ Below w.heap.size w w' := by
 have hu65 := Try.underlying65
 have HB := Aside0.mk (Below.refl w.heap.size w)
 have H : ((name_Check.f k a0_0).bind fun t158 => (if t158 = true then ((record_in.f a0_1 65535).bind fun t159 => (if t159 = true then ((record_in.f a0_2 65535).bind fun t160 => (if t160 = true then ((record_in.f a0_3 2147483647).bind fun t161 => (if t161 = true then ((data_Check.f k a0_1 a0_4).bind fun t162 => (some t162)) else (some false))) else (some false))) else (some false))) else (some false))) = some r := h
 clear h
 replace H := Option.bind_eq_some_iff.mp H
 obtain ⟨t158, A20, H⟩ := H
 replace H : (if t158 = true then ((record_in.f a0_1 65535).bind fun t159 => (if t159 = true then ((record_in.f a0_2 65535).bind fun t160 => (if t160 = true then ((record_in.f a0_3 2147483647).bind fun t161 => (if t161 = true then ((data_Check.f k a0_1 a0_4).bind fun t162 => (some t162)) else (some false))) else (some false))) else (some false))) else (some false)) = some r := H
 have A2 := Aside0.mk A20
 clear A20
 by_cases c3 : t158 = true
 ·subst c3
  have H1 : ((record_in.f a0_1 65535).bind fun t159 => (if t159 = true then ((record_in.f a0_2 65535).bind fun t160 => (if t160 = true then ((record_in.f a0_3 2147483647).bind fun t161 => (if t161 = true then ((data_Check.f k a0_1 a0_4).bind fun t162 => (some t162)) else (some false))) else (some false))) else (some false))) = some r := by rw [if_pos rfl] at H; exact H
  clear H
  have H := H1
  clear H1
  replace H := Option.bind_eq_some_iff.mp H
  obtain ⟨t159, A40, H⟩ := H
  replace H : (if t159 = true then ((record_in.f a0_2 65535).bind fun t160 => (if t160 = true then ((record_in.f a0_3 2147483647).bind fun t161 => (if t161 = true then ((data_Check.f k a0_1 a0_4).bind fun t162 => (some t162)) else (some false))) else (some false))) else (some false)) = some r := H
  have A4 := Aside0.mk A40
  clear A40
  by_cases c5 : t159 = true
  ·subst c5
   have H1 : ((record_in.f a0_2 65535).bind fun t160 => (if t160 = true then ((record_in.f a0_3 2147483647).bind fun t161 => (if t161 = true then ((data_Check.f k a0_1 a0_4).bind fun t162 => (some t162)) else (some false))) else (some false))) = some r := by rw [if_pos rfl] at H; exact H
   clear H
   have H := H1
   clear H1
   replace H := Option.bind_eq_some_iff.mp H
   obtain ⟨t160, A60, H⟩ := H
   replace H : (if t160 = true then ((record_in.f a0_3 2147483647).bind fun t161 => (if t161 = true then ((data_Check.f k a0_1 a0_4).bind fun t162 => (some t162)) else (some false))) else (some false)) = some r := H
   have A6 := Aside0.mk A60
   clear A60
   by_cases c7 : t160 = true
   ·subst c7
    have H1 : ((record_in.f a0_3 2147483647).bind fun t161 => (if t161 = true then ((data_Check.f k a0_1 a0_4).bind fun t162 => (some t162)) else (some false))) = some r := by rw [if_pos rfl] at H; exact H
    clear H
    have H := H1
    clear H1
    replace H := Option.bind_eq_some_iff.mp H
    obtain ⟨t161, A80, H⟩ := H
    replace H : (if t161 = true then ((data_Check.f k a0_1 a0_4).bind fun t162 => (some t162)) else (some false)) = some r := H
    have A8 := Aside0.mk A80
    clear A80
    by_cases c9 : t161 = true
    ·subst c9
     have H1 : ((data_Check.f k a0_1 a0_4).bind fun t162 => (some t162)) = some r := by rw [if_pos rfl] at H; exact H
     clear H
     have H := H1
     clear H1
     replace H := Option.bind_eq_some_iff.mp H
     obtain ⟨t162, A100, H⟩ := H
     replace H : (some t162) = some r := H
     have A10 := Aside0.mk A100
     clear A100
     obtain rfl := Option.some.inj H
     go_enter Try.func71, Try.ntmps71
     go_wp2_with (first | ((with_reducible refine gate_dst (N := 1) rfl ?_); refine box_event ?hg (N := 1) ?hd (cs := #[.string a0_0, .int .i64 a0_1, .int .i64 a0_2, .int .i64 a0_3, .string a0_4]) (t := 65) ?hr ?_; (case hd => rfl); (case hg => rfl); (case hr => first | (go_simp; done) | (go_simp; rfl)); intro gb157 hg w11 hbox hb; have n0_ := Aside0.mk (below_step (by repeat (first | (with_reducible first | exact HB.out | apply below_alloc | apply pw_below_drewN | apply below_drew1) | exact HB.out)) hb); have n1_ := Aside0.mk (hbox); have n2_ := Aside0.mk ((by rw [hg]; exact (below_size (by repeat (first | (with_reducible first | exact HB.out | apply below_alloc | apply pw_below_drewN | apply below_drew1) | exact HB.out))) : w.heap.size ≤ gb157)); have n3_ := Aside0.mk ((by rw [hg]; exact (below_size (by repeat (first | (with_reducible first | exact HB.out | apply below_alloc | apply pw_below_drewN | apply below_drew1) | exact HB.out))) : w.heap.size ≤ gb157)); clear HB; have HB := n0_; have BK157 := n1_; have GW157 := n2_; have GE157 := n3_; clear n0_ n1_ n2_ n3_; clear hb hbox hg; have hcz12_0 : w11.cell? ⟨gb157, 0, none⟩ = some (.string a0_0) := (blk_cell BK157.out 0).trans rfl; have hcz12_1 : w11.cell? ⟨gb157, 1, none⟩ = some (.int .i64 a0_1) := (blk_cell BK157.out 1).trans rfl; have hcz12_2 : w11.cell? ⟨gb157, 2, none⟩ = some (.int .i64 a0_2) := (blk_cell BK157.out 2).trans rfl; have hcz12_3 : w11.cell? ⟨gb157, 3, none⟩ = some (.int .i64 a0_3) := (blk_cell BK157.out 3).trans rfl; have hcz12_4 : w11.cell? ⟨gb157, 4, none⟩ = some (.string a0_4) := (blk_cell BK157.out 4).trans rfl; have hfz12_0 := blk_frozen BK157.out 0; have hfz12_1 := blk_frozen BK157.out 1; have hfz12_2 := blk_frozen BK157.out 2; have hfz12_3 := blk_frozen BK157.out 3; have hfz12_4 := blk_frozen BK157.out 4) | ((with_reducible refine gate_callee (f := 46) rfl ?_); refine goesL_ (some 5) rfl rfl Try.func46 (by kernel_rfl) rfl #[.string a0_0] rfl (by (try simp only [List.map_toArray, List.map_cons, List.map_nil]); first | done | rfl | (simp only [List.length_drop, List.length_take]; rfl)) ?_; (with_reducible refine (name_Check.calls k a0_0 true _ A2.out).mono ?_); rintro e w13 ⟨rfl, hb⟩; refine ⟨_, rfl, ?_⟩; have n0_ := Aside0.mk (blk_below (g := gb157) (o := .cells #[.string a0_0, .int .i64 a0_1, .int .i64 a0_2, .int .i64 a0_3, .string a0_4] 65 (0, 0)) (by (with_reducible repeat (first | refine blk_drewN ?_ _ | refine blk_drew ?_ | refine blk_alloc ?_ _)); exact BK157.out) hb); have n1_ := Aside0.mk (below_step (by repeat (first | (with_reducible first | exact HB.out | apply below_alloc | apply pw_below_drewN | apply below_drew1 | refine below_set ?_ GE157.out) | exact HB.out)) hb); clear BK157; clear HB; have BK157 := n0_; have HB := n1_; clear n0_ n1_; (try clear hb); (try clear hb2); (try clear hk); (try clear hi); have hcz14_0 : w13.cell? ⟨gb157, 0, none⟩ = some (.string a0_0) := (blk_cell BK157.out 0).trans rfl; have hcz14_1 : w13.cell? ⟨gb157, 1, none⟩ = some (.int .i64 a0_1) := (blk_cell BK157.out 1).trans rfl; have hcz14_2 : w13.cell? ⟨gb157, 2, none⟩ = some (.int .i64 a0_2) := (blk_cell BK157.out 2).trans rfl; have hcz14_3 : w13.cell? ⟨gb157, 3, none⟩ = some (.int .i64 a0_3) := (blk_cell BK157.out 3).trans rfl; have hcz14_4 : w13.cell? ⟨gb157, 4, none⟩ = some (.string a0_4) := (blk_cell BK157.out 4).trans rfl; have hfz14_0 := blk_frozen BK157.out 0; have hfz14_1 := blk_frozen BK157.out 1; have hfz14_2 := blk_frozen BK157.out 2; have hfz14_3 := blk_frozen BK157.out 3; have hfz14_4 := blk_frozen BK157.out 4) | (go_at_call 87; (with_reducible refine (record_in.calls a0_1 65535 true _ A4.out).mono ?_); rintro e w' ⟨rfl, ⟨nd, rfl⟩⟩) | (go_at_call 87; (with_reducible refine (record_in.calls a0_2 65535 true _ A6.out).mono ?_); rintro e w' ⟨rfl, ⟨nd, rfl⟩⟩) | (go_at_call 87; (with_reducible refine (record_in.calls a0_3 2147483647 true _ A8.out).mono ?_); rintro e w' ⟨rfl, ⟨nd, rfl⟩⟩) | (go_at_call 80; (with_reducible refine (data_Check.calls k a0_1 a0_4 t162 _ A10.out).mono ?_); rintro e w15 ⟨rfl, hb⟩; have n0_ := Aside0.mk (blk_below (g := gb157) (o := .cells #[.string a0_0, .int .i64 a0_1, .int .i64 a0_2, .int .i64 a0_3, .string a0_4] 65 (0, 0)) (by (with_reducible repeat (first | refine blk_drewN ?_ _ | refine blk_drew ?_ | refine blk_alloc ?_ _)); exact BK157.out) hb); have n1_ := Aside0.mk (below_step (by repeat (first | (with_reducible first | exact HB.out | apply below_alloc | apply pw_below_drewN | apply below_drew1 | refine below_set ?_ GE157.out) | exact HB.out)) hb); clear BK157; clear HB; have BK157 := n0_; have HB := n1_; clear n0_ n1_; (try clear hb); (try clear hb2); (try clear hk); (try clear hi)))
     go_ret
     exact ⟨by first | rfl | (simp [errW_none, errW_some] <;> rfl) | (simp [*, errW_none, errW_some] <;> rfl), by repeat (first | (with_reducible first | exact HB.out | apply below_alloc | apply pw_below_drewN | apply below_drew1 | refine below_set ?_ GE157.out) | exact HB.out)⟩
    ·replace c9 := Bool.eq_false_iff.mpr c9
     subst c9
     have H1 : (some false) = some r := by rw [if_neg (show ¬ (false = true) by decide)] at H; exact H
     clear H
     have H := H1
     clear H1
     obtain rfl := Option.some.inj H
     go_enter Try.func71, Try.ntmps71
     go_wp2_with (first | ((with_reducible refine gate_dst (N := 1) rfl ?_); refine box_event ?hg (N := 1) ?hd (cs := #[.string a0_0, .int .i64 a0_1, .int .i64 a0_2, .int .i64 a0_3, .string a0_4]) (t := 65) ?hr ?_; (case hd => rfl); (case hg => rfl); (case hr => first | (go_simp; done) | (go_simp; rfl)); intro gb157 hg w16 hbox hb; have n0_ := Aside0.mk (below_step (by repeat (first | (with_reducible first | exact HB.out | apply below_alloc | apply pw_below_drewN | apply below_drew1) | exact HB.out)) hb); have n1_ := Aside0.mk (hbox); have n2_ := Aside0.mk ((by rw [hg]; exact (below_size (by repeat (first | (with_reducible first | exact HB.out | apply below_alloc | apply pw_below_drewN | apply below_drew1) | exact HB.out))) : w.heap.size ≤ gb157)); have n3_ := Aside0.mk ((by rw [hg]; exact (below_size (by repeat (first | (with_reducible first | exact HB.out | apply below_alloc | apply pw_below_drewN | apply below_drew1) | exact HB.out))) : w.heap.size ≤ gb157)); clear HB; have HB := n0_; have BK157 := n1_; have GW157 := n2_; have GE157 := n3_; clear n0_ n1_ n2_ n3_; clear hb hbox hg; have hcz17_0 : w16.cell? ⟨gb157, 0, none⟩ = some (.string a0_0) := (blk_cell BK157.out 0).trans rfl; have hcz17_1 : w16.cell? ⟨gb157, 1, none⟩ = some (.int .i64 a0_1) := (blk_cell BK157.out 1).trans rfl; have hcz17_2 : w16.cell? ⟨gb157, 2, none⟩ = some (.int .i64 a0_2) := (blk_cell BK157.out 2).trans rfl; have hcz17_3 : w16.cell? ⟨gb157, 3, none⟩ = some (.int .i64 a0_3) := (blk_cell BK157.out 3).trans rfl; have hcz17_4 : w16.cell? ⟨gb157, 4, none⟩ = some (.string a0_4) := (blk_cell BK157.out 4).trans rfl; have hfz17_0 := blk_frozen BK157.out 0; have hfz17_1 := blk_frozen BK157.out 1; have hfz17_2 := blk_frozen BK157.out 2; have hfz17_3 := blk_frozen BK157.out 3; have hfz17_4 := blk_frozen BK157.out 4) | ((with_reducible refine gate_callee (f := 46) rfl ?_); refine goesL_ (some 5) rfl rfl Try.func46 (by kernel_rfl) rfl #[.string a0_0] rfl (by (try simp only [List.map_toArray, List.map_cons, List.map_nil]); first | done | rfl | (simp only [List.length_drop, List.length_take]; rfl)) ?_; (with_reducible refine (name_Check.calls k a0_0 true _ A2.out).mono ?_); rintro e w18 ⟨rfl, hb⟩; refine ⟨_, rfl, ?_⟩; have n0_ := Aside0.mk (blk_below (g := gb157) (o := .cells #[.string a0_0, .int .i64 a0_1, .int .i64 a0_2, .int .i64 a0_3, .string a0_4] 65 (0, 0)) (by (with_reducible repeat (first | refine blk_drewN ?_ _ | refine blk_drew ?_ | refine blk_alloc ?_ _)); exact BK157.out) hb); have n1_ := Aside0.mk (below_step (by repeat (first | (with_reducible first | exact HB.out | apply below_alloc | apply pw_below_drewN | apply below_drew1 | refine below_set ?_ GE157.out) | exact HB.out)) hb); clear BK157; clear HB; have BK157 := n0_; have HB := n1_; clear n0_ n1_; (try clear hb); (try clear hb2); (try clear hk); (try clear hi); have hcz19_0 : w18.cell? ⟨gb157, 0, none⟩ = some (.string a0_0) := (blk_cell BK157.out 0).trans rfl; have hcz19_1 : w18.cell? ⟨gb157, 1, none⟩ = some (.int .i64 a0_1) := (blk_cell BK157.out 1).trans rfl; have hcz19_2 : w18.cell? ⟨gb157, 2, none⟩ = some (.int .i64 a0_2) := (blk_cell BK157.out 2).trans rfl; have hcz19_3 : w18.cell? ⟨gb157, 3, none⟩ = some (.int .i64 a0_3) := (blk_cell BK157.out 3).trans rfl; have hcz19_4 : w18.cell? ⟨gb157, 4, none⟩ = some (.string a0_4) := (blk_cell BK157.out 4).trans rfl; have hfz19_0 := blk_frozen BK157.out 0; have hfz19_1 := blk_frozen BK157.out 1; have hfz19_2 := blk_frozen BK157.out 2; have hfz19_3 := blk_frozen BK157.out 3; have hfz19_4 := blk_frozen BK157.out 4) | (go_at_call 87; (with_reducible refine (record_in.calls a0_1 65535 true _ A4.out).mono ?_); rintro e w' ⟨rfl, ⟨nd, rfl⟩⟩) | (go_at_call 87; (with_reducible refine (record_in.calls a0_2 65535 true _ A6.out).mono ?_); rintro e w' ⟨rfl, ⟨nd, rfl⟩⟩) | (go_at_call 87; (with_reducible refine (record_in.calls a0_3 2147483647 false _ A8.out).mono ?_); rintro e w' ⟨rfl, ⟨nd, rfl⟩⟩))
     go_ret
     exact ⟨by first | rfl | (simp [errW_none, errW_some] <;> rfl) | (simp [*, errW_none, errW_some] <;> rfl), by repeat (first | (with_reducible first | exact HB.out | apply below_alloc | apply pw_below_drewN | apply below_drew1 | refine below_set ?_ GE157.out) | exact HB.out)⟩
   ·replace c7 := Bool.eq_false_iff.mpr c7
    subst c7
    have H1 : (some false) = some r := by rw [if_neg (show ¬ (false = true) by decide)] at H; exact H
    clear H
    have H := H1
    clear H1
    obtain rfl := Option.some.inj H
    go_enter Try.func71, Try.ntmps71
    go_wp2_with (first | ((with_reducible refine gate_dst (N := 1) rfl ?_); refine box_event ?hg (N := 1) ?hd (cs := #[.string a0_0, .int .i64 a0_1, .int .i64 a0_2, .int .i64 a0_3, .string a0_4]) (t := 65) ?hr ?_; (case hd => rfl); (case hg => rfl); (case hr => first | (go_simp; done) | (go_simp; rfl)); intro gb157 hg w20 hbox hb; have n0_ := Aside0.mk (below_step (by repeat (first | (with_reducible first | exact HB.out | apply below_alloc | apply pw_below_drewN | apply below_drew1) | exact HB.out)) hb); have n1_ := Aside0.mk (hbox); have n2_ := Aside0.mk ((by rw [hg]; exact (below_size (by repeat (first | (with_reducible first | exact HB.out | apply below_alloc | apply pw_below_drewN | apply below_drew1) | exact HB.out))) : w.heap.size ≤ gb157)); have n3_ := Aside0.mk ((by rw [hg]; exact (below_size (by repeat (first | (with_reducible first | exact HB.out | apply below_alloc | apply pw_below_drewN | apply below_drew1) | exact HB.out))) : w.heap.size ≤ gb157)); clear HB; have HB := n0_; have BK157 := n1_; have GW157 := n2_; have GE157 := n3_; clear n0_ n1_ n2_ n3_; clear hb hbox hg; have hcz21_0 : w20.cell? ⟨gb157, 0, none⟩ = some (.string a0_0) := (blk_cell BK157.out 0).trans rfl; have hcz21_1 : w20.cell? ⟨gb157, 1, none⟩ = some (.int .i64 a0_1) := (blk_cell BK157.out 1).trans rfl; have hcz21_2 : w20.cell? ⟨gb157, 2, none⟩ = some (.int .i64 a0_2) := (blk_cell BK157.out 2).trans rfl; have hcz21_3 : w20.cell? ⟨gb157, 3, none⟩ = some (.int .i64 a0_3) := (blk_cell BK157.out 3).trans rfl; have hcz21_4 : w20.cell? ⟨gb157, 4, none⟩ = some (.string a0_4) := (blk_cell BK157.out 4).trans rfl; have hfz21_0 := blk_frozen BK157.out 0; have hfz21_1 := blk_frozen BK157.out 1; have hfz21_2 := blk_frozen BK157.out 2; have hfz21_3 := blk_frozen BK157.out 3; have hfz21_4 := blk_frozen BK157.out 4) | ((with_reducible refine gate_callee (f := 46) rfl ?_); refine goesL_ (some 5) rfl rfl Try.func46 (by kernel_rfl) rfl #[.string a0_0] rfl (by (try simp only [List.map_toArray, List.map_cons, List.map_nil]); first | done | rfl | (simp only [List.length_drop, List.length_take]; rfl)) ?_; (with_reducible refine (name_Check.calls k a0_0 true _ A2.out).mono ?_); rintro e w22 ⟨rfl, hb⟩; refine ⟨_, rfl, ?_⟩; have n0_ := Aside0.mk (blk_below (g := gb157) (o := .cells #[.string a0_0, .int .i64 a0_1, .int .i64 a0_2, .int .i64 a0_3, .string a0_4] 65 (0, 0)) (by (with_reducible repeat (first | refine blk_drewN ?_ _ | refine blk_drew ?_ | refine blk_alloc ?_ _)); exact BK157.out) hb); have n1_ := Aside0.mk (below_step (by repeat (first | (with_reducible first | exact HB.out | apply below_alloc | apply pw_below_drewN | apply below_drew1 | refine below_set ?_ GE157.out) | exact HB.out)) hb); clear BK157; clear HB; have BK157 := n0_; have HB := n1_; clear n0_ n1_; (try clear hb); (try clear hb2); (try clear hk); (try clear hi); have hcz23_0 : w22.cell? ⟨gb157, 0, none⟩ = some (.string a0_0) := (blk_cell BK157.out 0).trans rfl; have hcz23_1 : w22.cell? ⟨gb157, 1, none⟩ = some (.int .i64 a0_1) := (blk_cell BK157.out 1).trans rfl; have hcz23_2 : w22.cell? ⟨gb157, 2, none⟩ = some (.int .i64 a0_2) := (blk_cell BK157.out 2).trans rfl; have hcz23_3 : w22.cell? ⟨gb157, 3, none⟩ = some (.int .i64 a0_3) := (blk_cell BK157.out 3).trans rfl; have hcz23_4 : w22.cell? ⟨gb157, 4, none⟩ = some (.string a0_4) := (blk_cell BK157.out 4).trans rfl; have hfz23_0 := blk_frozen BK157.out 0; have hfz23_1 := blk_frozen BK157.out 1; have hfz23_2 := blk_frozen BK157.out 2; have hfz23_3 := blk_frozen BK157.out 3; have hfz23_4 := blk_frozen BK157.out 4) | (go_at_call 87; (with_reducible refine (record_in.calls a0_1 65535 true _ A4.out).mono ?_); rintro e w' ⟨rfl, ⟨nd, rfl⟩⟩) | (go_at_call 87; (with_reducible refine (record_in.calls a0_2 65535 false _ A6.out).mono ?_); rintro e w' ⟨rfl, ⟨nd, rfl⟩⟩))
    go_ret
    exact ⟨by first | rfl | (simp [errW_none, errW_some] <;> rfl) | (simp [*, errW_none, errW_some] <;> rfl), by repeat (first | (with_reducible first | exact HB.out | apply below_alloc | apply pw_below_drewN | apply below_drew1 | refine below_set ?_ GE157.out) | exact HB.out)⟩
  ·replace c5 := Bool.eq_false_iff.mpr c5
   subst c5
   have H1 : (some false) = some r := by rw [if_neg (show ¬ (false = true) by decide)] at H; exact H
   clear H
   have H := H1
   clear H1
   obtain rfl := Option.some.inj H
   go_enter Try.func71, Try.ntmps71
   go_wp2_with (first | ((with_reducible refine gate_dst (N := 1) rfl ?_); refine box_event ?hg (N := 1) ?hd (cs := #[.string a0_0, .int .i64 a0_1, .int .i64 a0_2, .int .i64 a0_3, .string a0_4]) (t := 65) ?hr ?_; (case hd => rfl); (case hg => rfl); (case hr => first | (go_simp; done) | (go_simp; rfl)); intro gb157 hg w24 hbox hb; have n0_ := Aside0.mk (below_step (by repeat (first | (with_reducible first | exact HB.out | apply below_alloc | apply pw_below_drewN | apply below_drew1) | exact HB.out)) hb); have n1_ := Aside0.mk (hbox); have n2_ := Aside0.mk ((by rw [hg]; exact (below_size (by repeat (first | (with_reducible first | exact HB.out | apply below_alloc | apply pw_below_drewN | apply below_drew1) | exact HB.out))) : w.heap.size ≤ gb157)); have n3_ := Aside0.mk ((by rw [hg]; exact (below_size (by repeat (first | (with_reducible first | exact HB.out | apply below_alloc | apply pw_below_drewN | apply below_drew1) | exact HB.out))) : w.heap.size ≤ gb157)); clear HB; have HB := n0_; have BK157 := n1_; have GW157 := n2_; have GE157 := n3_; clear n0_ n1_ n2_ n3_; clear hb hbox hg; have hcz25_0 : w24.cell? ⟨gb157, 0, none⟩ = some (.string a0_0) := (blk_cell BK157.out 0).trans rfl; have hcz25_1 : w24.cell? ⟨gb157, 1, none⟩ = some (.int .i64 a0_1) := (blk_cell BK157.out 1).trans rfl; have hcz25_2 : w24.cell? ⟨gb157, 2, none⟩ = some (.int .i64 a0_2) := (blk_cell BK157.out 2).trans rfl; have hcz25_3 : w24.cell? ⟨gb157, 3, none⟩ = some (.int .i64 a0_3) := (blk_cell BK157.out 3).trans rfl; have hcz25_4 : w24.cell? ⟨gb157, 4, none⟩ = some (.string a0_4) := (blk_cell BK157.out 4).trans rfl; have hfz25_0 := blk_frozen BK157.out 0; have hfz25_1 := blk_frozen BK157.out 1; have hfz25_2 := blk_frozen BK157.out 2; have hfz25_3 := blk_frozen BK157.out 3; have hfz25_4 := blk_frozen BK157.out 4) | ((with_reducible refine gate_callee (f := 46) rfl ?_); refine goesL_ (some 5) rfl rfl Try.func46 (by kernel_rfl) rfl #[.string a0_0] rfl (by (try simp only [List.map_toArray, List.map_cons, List.map_nil]); first | done | rfl | (simp only [List.length_drop, List.length_take]; rfl)) ?_; (with_reducible refine (name_Check.calls k a0_0 true _ A2.out).mono ?_); rintro e w26 ⟨rfl, hb⟩; refine ⟨_, rfl, ?_⟩; have n0_ := Aside0.mk (blk_below (g := gb157) (o := .cells #[.string a0_0, .int .i64 a0_1, .int .i64 a0_2, .int .i64 a0_3, .string a0_4] 65 (0, 0)) (by (with_reducible repeat (first | refine blk_drewN ?_ _ | refine blk_drew ?_ | refine blk_alloc ?_ _)); exact BK157.out) hb); have n1_ := Aside0.mk (below_step (by repeat (first | (with_reducible first | exact HB.out | apply below_alloc | apply pw_below_drewN | apply below_drew1 | refine below_set ?_ GE157.out) | exact HB.out)) hb); clear BK157; clear HB; have BK157 := n0_; have HB := n1_; clear n0_ n1_; (try clear hb); (try clear hb2); (try clear hk); (try clear hi); have hcz27_0 : w26.cell? ⟨gb157, 0, none⟩ = some (.string a0_0) := (blk_cell BK157.out 0).trans rfl; have hcz27_1 : w26.cell? ⟨gb157, 1, none⟩ = some (.int .i64 a0_1) := (blk_cell BK157.out 1).trans rfl; have hcz27_2 : w26.cell? ⟨gb157, 2, none⟩ = some (.int .i64 a0_2) := (blk_cell BK157.out 2).trans rfl; have hcz27_3 : w26.cell? ⟨gb157, 3, none⟩ = some (.int .i64 a0_3) := (blk_cell BK157.out 3).trans rfl; have hcz27_4 : w26.cell? ⟨gb157, 4, none⟩ = some (.string a0_4) := (blk_cell BK157.out 4).trans rfl; have hfz27_0 := blk_frozen BK157.out 0; have hfz27_1 := blk_frozen BK157.out 1; have hfz27_2 := blk_frozen BK157.out 2; have hfz27_3 := blk_frozen BK157.out 3; have hfz27_4 := blk_frozen BK157.out 4) | (go_at_call 87; (with_reducible refine (record_in.calls a0_1 65535 false _ A4.out).mono ?_); rintro e w' ⟨rfl, ⟨nd, rfl⟩⟩))
   go_ret
   exact ⟨by first | rfl | (simp [errW_none, errW_some] <;> rfl) | (simp [*, errW_none, errW_some] <;> rfl), by repeat (first | (with_reducible first | exact HB.out | apply below_alloc | apply pw_below_drewN | apply below_drew1 | refine below_set ?_ GE157.out) | exact HB.out)⟩
 ·replace c3 := Bool.eq_false_iff.mpr c3
  subst c3
  have H1 : (some false) = some r := by rw [if_neg (show ¬ (false = true) by decide)] at H; exact H
  clear H
  have H := H1
  clear H1
  obtain rfl := Option.some.inj H
  go_enter Try.func71, Try.ntmps71
  go_wp2_with (first | ((with_reducible refine gate_dst (N := 1) rfl ?_); refine box_event ?hg (N := 1) ?hd (cs := #[.string a0_0, .int .i64 a0_1, .int .i64 a0_2, .int .i64 a0_3, .string a0_4]) (t := 65) ?hr ?_; (case hd => rfl); (case hg => rfl); (case hr => first | (go_simp; done) | (go_simp; rfl)); intro gb157 hg w28 hbox hb; have n0_ := Aside0.mk (below_step (by repeat (first | (with_reducible first | exact HB.out | apply below_alloc | apply pw_below_drewN | apply below_drew1) | exact HB.out)) hb); have n1_ := Aside0.mk (hbox); have n2_ := Aside0.mk ((by rw [hg]; exact (below_size (by repeat (first | (with_reducible first | exact HB.out | apply below_alloc | apply pw_below_drewN | apply below_drew1) | exact HB.out))) : w.heap.size ≤ gb157)); have n3_ := Aside0.mk ((by rw [hg]; exact (below_size (by repeat (first | (with_reducible first | exact HB.out | apply below_alloc | apply pw_below_drewN | apply below_drew1) | exact HB.out))) : w.heap.size ≤ gb157)); clear HB; have HB := n0_; have BK157 := n1_; have GW157 := n2_; have GE157 := n3_; clear n0_ n1_ n2_ n3_; clear hb hbox hg; have hcz29_0 : w28.cell? ⟨gb157, 0, none⟩ = some (.string a0_0) := (blk_cell BK157.out 0).trans rfl; have hcz29_1 : w28.cell? ⟨gb157, 1, none⟩ = some (.int .i64 a0_1) := (blk_cell BK157.out 1).trans rfl; have hcz29_2 : w28.cell? ⟨gb157, 2, none⟩ = some (.int .i64 a0_2) := (blk_cell BK157.out 2).trans rfl; have hcz29_3 : w28.cell? ⟨gb157, 3, none⟩ = some (.int .i64 a0_3) := (blk_cell BK157.out 3).trans rfl; have hcz29_4 : w28.cell? ⟨gb157, 4, none⟩ = some (.string a0_4) := (blk_cell BK157.out 4).trans rfl; have hfz29_0 := blk_frozen BK157.out 0; have hfz29_1 := blk_frozen BK157.out 1; have hfz29_2 := blk_frozen BK157.out 2; have hfz29_3 := blk_frozen BK157.out 3; have hfz29_4 := blk_frozen BK157.out 4) | ((with_reducible refine gate_callee (f := 46) rfl ?_); refine goesL_ (some 5) rfl rfl Try.func46 (by kernel_rfl) rfl #[.string a0_0] rfl (by (try simp only [List.map_toArray, List.map_cons, List.map_nil]); first | done | rfl | (simp only [List.length_drop, List.length_take]; rfl)) ?_; (with_reducible refine (name_Check.calls k a0_0 false _ A2.out).mono ?_); rintro e w30 ⟨rfl, hb⟩; refine ⟨_, rfl, ?_⟩; have n0_ := Aside0.mk (blk_below (g := gb157) (o := .cells #[.string a0_0, .int .i64 a0_1, .int .i64 a0_2, .int .i64 a0_3, .string a0_4] 65 (0, 0)) (by (with_reducible repeat (first | refine blk_drewN ?_ _ | refine blk_drew ?_ | refine blk_alloc ?_ _)); exact BK157.out) hb); have n1_ := Aside0.mk (below_step (by repeat (first | (with_reducible first | exact HB.out | apply below_alloc | apply pw_below_drewN | apply below_drew1 | refine below_set ?_ GE157.out) | exact HB.out)) hb); clear BK157; clear HB; have BK157 := n0_; have HB := n1_; clear n0_ n1_; (try clear hb); (try clear hb2); (try clear hk); (try clear hi)))
  go_ret
  exact ⟨by first | rfl | (simp [errW_none, errW_some] <;> rfl) | (simp [*, errW_none, errW_some] <;> rfl), by repeat (first | (with_reducible first | exact HB.out | apply below_alloc | apply pw_below_drewN | apply below_drew1 | refine below_set ?_ GE157.out) | exact HB.out)⟩
def record_Encode.j0 : Nat → ByteArray → Bool → ByteArray → Int → Int → Int → ByteArray → Option (ByteArray)
 | 0, _, _, _, _, _, _, _ => none
 | k + 1, x7, x19, x164000, x164001, x164002, x164003, x164004 => if x19 = true then (some (⟨#[]⟩ : ByteArray)) else ((octet_Put.f k x164001 2).bind fun t166 => (if x7.size + t166.size ≤ 9223372036854775807 then ((octet_Put.f k x164002 2).bind fun t167 => (if x7.size + t166.size + t167.size ≤ 9223372036854775807 then ((octet_Put.f k x164003 4).bind fun t168 => (if x7.size + t166.size + t167.size + t168.size ≤ 9223372036854775807 then ((octet_Put.f k (x164004.size : Int) 2).bind fun t169 => (if x7.size + t166.size + t167.size + t168.size + t169.size ≤ 9223372036854775807 then (if x7.size + t166.size + t167.size + t168.size + t169.size + x164004.size ≤ 9223372036854775807 then (some (((((x7 ++ t166) ++ t167) ++ t168) ++ t169) ++ x164004)) else (none)) else (none))) else (none))) else (none))) else (none)))
def record_Encode.f (k : Nat) (a0 : ByteArray) (a1 : Int) (a2_0 : ByteArray) (a2_1 : Int) (a2_2 : Int) (a2_3 : Int) (a2_4 : ByteArray) : Option (ByteArray) := (comp_Write.f k a0 a1 a2_0).bind fun t164 => (if t164.toList = ([] : List UInt8) then (record_Encode.j0 k t164 true a2_0 a2_1 a2_2 a2_3 a2_4) else ((record_Check.f k a2_0 a2_1 a2_2 a2_3 a2_4).bind fun t165 => (record_Encode.j0 k t164 (!t165) a2_0 a2_1 a2_2 a2_3 a2_4)))
theorem record_Encode.mono_l : ∀ k, (∀ y0 y1 y2 y3 y4 y5 y6, LeO (record_Encode.j0 k y0 y1 y2 y3 y4 y5 y6) (record_Encode.j0 (k + 1) y0 y1 y2 y3 y4 y5 y6))
 | 0 => fun _ _ _ _ _ _ _ r h => by simp [record_Encode.j0] at h
 | k + 1 => by
  have ih0 := record_Encode.mono_l k
  ·intro y0 y1 y2 y3 y4 y5 y6
   unfold record_Encode.j0
   repeat' first
   | (with_reducible exact ih0 _ _ _ _ _ _ _)
   | (with_reducible exact comp_Write.mono _ _ _ _)
   | (with_reducible exact octet_Put.mono _ _ _)
   | (with_reducible exact record_Check.mono _ _ _ _ _ _)
   | (with_reducible exact LeO.refl _)
   | (with_reducible exact LeO.none _)
   | (with_reducible refine LeO.ite ?_ ?_)
   | (with_reducible refine LeO.bind ?_ (fun _ => ?_))
theorem record_Encode.mono : ∀ a0 a1 a2 a3 a4 a5 a6 k, LeO (record_Encode.f k a0 a1 a2 a3 a4 a5 a6) (record_Encode.f (k + 1) a0 a1 a2 a3 a4 a5 a6) := by
 intro a0 a1 a2 a3 a4 a5 a6 k
 have ih0 := record_Encode.mono_l k
 unfold record_Encode.f
 repeat' first
   | (with_reducible exact ih0 _ _ _ _ _ _ _)
   | (with_reducible exact comp_Write.mono _ _ _ _)
   | (with_reducible exact octet_Put.mono _ _ _)
   | (with_reducible exact record_Check.mono _ _ _ _ _ _)
   | (with_reducible exact LeO.refl _)
   | (with_reducible exact LeO.none _)
   | (with_reducible refine LeO.ite ?_ ?_)
   | (with_reducible refine LeO.bind ?_ (fun _ => ?_))
def record_Encode.T4 : Bool × List (List Nat × List Nat) := (true, [([], []), ([], []), ([1], [1]), ([2], [2]), ([0, 3], [0, 3]), ([], []), ([5], [5]), ([6, 3], [6]), ([4, 7], [4, 7]), ([], []), ([9], [9]), ([10, 7], [10]), ([8, 11], [8, 11]), ([], []), ([13], [13]), ([14], [14]), ([15, 11], [15]), ([12, 16], [12, 16]), ([], []), ([18], [18]), ([17, 19], [17, 19]), ([20, 16, 0, 1, 2, 3, 4, 5, 6, 7, 8, 9, 10, 11, 12, 13, 14, 15, 16, 17, 18, 19, 20], [20])])
def record_Encode.B4 : List Nat := [0, 0, 2, 6, 15, 0, 32, 110, 255, 0, 512, 1774, 4095, 0, 8192, 24576, 61166, 131071, 0, 262144, 1048575, 2097151]
theorem record_Encode.tab4 : rtab .any (opsOf Try.f49 4) = record_Encode.T4 := by kernel_rfl
theorem record_Encode.bits4 : waitsOk record_Encode.T4.2 record_Encode.B4 = true := by kernel_rfl
set_option maxHeartbeats 8000000 in
set_option maxRecDepth 100000 in
theorem record_Encode.calls (k : Nat) (a0 : ByteArray) (a1 : Int) (a2_0 : ByteArray) (a2_1 : Int) (a2_2 : Int) (a2_3 : Int) (a2_4 : ByteArray) (r : ByteArray) (w : World) (h : record_Encode.f k a0 a1 a2_0 a2_1 a2_2 a2_3 a2_4 = some r) :
  Calls Try.prog 49 #[.string a0, .int .i64 a1, .agg #[.string a2_0, .int .i64 a2_1, .int .i64 a2_2, .int .i64 a2_3, .string a2_4]] w fun e w' => e = .returned (.string r) ∧ Below w.heap.size w w' := by
 have hu65 := Try.underlying65
 have HB := Aside0.mk (Below.refl w.heap.size w)
 have H : ((comp_Write.f k a0 a1 a2_0).bind fun t164 => (if t164.toList = ([] : List UInt8) then (record_Encode.j0 k t164 true a2_0 a2_1 a2_2 a2_3 a2_4) else ((record_Check.f k a2_0 a2_1 a2_2 a2_3 a2_4).bind fun t165 => (record_Encode.j0 k t164 (!t165) a2_0 a2_1 a2_2 a2_3 a2_4)))) = some r := h
 clear h
 replace H := Option.bind_eq_some_iff.mp H
 obtain ⟨t164, A40, H⟩ := H
 replace H : (if t164.toList = ([] : List UInt8) then (record_Encode.j0 k t164 true a2_0 a2_1 a2_2 a2_3 a2_4) else ((record_Check.f k a2_0 a2_1 a2_2 a2_3 a2_4).bind fun t165 => (record_Encode.j0 k t164 (!t165) a2_0 a2_1 a2_2 a2_3 a2_4))) = some r := H
 have A4 := Aside0.mk A40
 clear A40
 have HC5 := Aside0.mk H
 clear H
 go_enter Try.func49, Try.ntmps49
 go_upto_region 2 with (first | ((with_reducible refine gate_dst (N := 5) rfl ?_); refine box_event ?hg (N := 5) ?hd (cs := #[.string a2_0, .int .i64 a2_1, .int .i64 a2_2, .int .i64 a2_3, .string a2_4]) (t := 65) ?hr ?_; (case hd => rfl); (case hg => rfl); (case hr => first | (go_simp; done) | (go_simp; rfl)); intro gb163 hg w6 hbox hb; have n0_ := Aside0.mk (below_step (by repeat (first | (with_reducible first | exact HB.out | apply below_alloc | apply pw_below_drewN | apply below_drew1) | exact HB.out)) hb); have n1_ := Aside0.mk (hbox); have n2_ := Aside0.mk ((by rw [hg]; exact (below_size (by repeat (first | (with_reducible first | exact HB.out | apply below_alloc | apply pw_below_drewN | apply below_drew1) | exact HB.out))) : w.heap.size ≤ gb163)); have n3_ := Aside0.mk ((by rw [hg]; exact (below_size (by repeat (first | (with_reducible first | exact HB.out | apply below_alloc | apply pw_below_drewN | apply below_drew1) | exact HB.out))) : w.heap.size ≤ gb163)); clear HB; have HB := n0_; have BK163 := n1_; have GW163 := n2_; have GE163 := n3_; clear n0_ n1_ n2_ n3_; clear hb hbox hg; have hcz7_0 : w6.cell? ⟨gb163, 0, none⟩ = some (.string a2_0) := (blk_cell BK163.out 0).trans rfl; have hcz7_1 : w6.cell? ⟨gb163, 1, none⟩ = some (.int .i64 a2_1) := (blk_cell BK163.out 1).trans rfl; have hcz7_2 : w6.cell? ⟨gb163, 2, none⟩ = some (.int .i64 a2_2) := (blk_cell BK163.out 2).trans rfl; have hcz7_3 : w6.cell? ⟨gb163, 3, none⟩ = some (.int .i64 a2_3) := (blk_cell BK163.out 3).trans rfl; have hcz7_4 : w6.cell? ⟨gb163, 4, none⟩ = some (.string a2_4) := (blk_cell BK163.out 4).trans rfl; have hfz7_0 := blk_frozen BK163.out 0; have hfz7_1 := blk_frozen BK163.out 1; have hfz7_2 := blk_frozen BK163.out 2; have hfz7_3 := blk_frozen BK163.out 3; have hfz7_4 := blk_frozen BK163.out 4) | ((with_reducible refine gate_callee (f := 70) rfl ?_); refine goesL_ (some 12) rfl rfl Try.func70 (by kernel_rfl) rfl #[.string a0, .int .i64 a1, .string a2_0] rfl (by (try simp only [List.map_toArray, List.map_cons, List.map_nil]); first | done | rfl | (simp only [List.length_drop, List.length_take]; rfl)) ?_; (with_reducible refine (comp_Write.calls k a0 a1 a2_0 t164 _ A4.out).mono ?_); rintro e w8 ⟨rfl, hb⟩; refine ⟨_, rfl, ?_⟩; have n0_ := Aside0.mk (blk_below (g := gb163) (o := .cells #[.string a2_0, .int .i64 a2_1, .int .i64 a2_2, .int .i64 a2_3, .string a2_4] 65 (0, 0)) (by (with_reducible repeat (first | refine blk_drewN ?_ _ | refine blk_drew ?_ | refine blk_alloc ?_ _)); exact BK163.out) hb); have n1_ := Aside0.mk (below_step (by repeat (first | (with_reducible first | exact HB.out | apply below_alloc | apply pw_below_drewN | apply below_drew1 | refine below_set ?_ GE163.out) | exact HB.out)) hb); clear BK163; clear HB; have BK163 := n0_; have HB := n1_; clear n0_ n1_; (try clear hb); (try clear hb2); (try clear hk); (try clear hi)))
 (try simp only [Act.put, List.setIfInBounds_toArray, List.set_cons_zero, List.set_cons_succ])
 go_cut [19] (fun v19 wc => ∃ (kq : Nat) (x19_4 : Bool), v19 = .bool x19_4 ∧ Aside0 (record_Encode.j0 kq t164 x19_4 a2_0 a2_1 a2_2 a2_3 a2_4 = some r) ∧ Aside0 (kq ≤ k) ∧ Aside0 (wc.heap[gb163]? = some (.cells #[.string a2_0, .int .i64 a2_1, .int .i64 a2_2, .int .i64 a2_3, .string a2_4] 65 (0, 0))) ∧ Aside0 (Below w.heap.size w wc))
 case first =>
  have H := HC5.out
  clear HC5
  by_cases c9 : t164.toList = ([] : List UInt8)
  ·rw [if_pos c9] at H
   have c9b0 : (t164.toList == ([] : List UInt8)) = true := beq_iff_eq.mpr c9
   have c9b1 : (t164.toList != ([] : List UInt8)) = false := bne_eq_false_iff_eq.mpr c9
   clear c9
   (first | rw [c9b0] | (simp only [i64_w, i32_w]; rw [c9b0]) | skip)
   have H' := Aside0.mk H
   clear H
   go_wp2
   go_meet
   case rel => exact ⟨_, (true), (by first | rfl | (simp; done) | (simp [*]; done)), H', ⟨by first | omega | exact Nat.le_refl _⟩, ⟨by (with_reducible repeat (first | refine blk_drewN ?_ _ | refine blk_drew ?_ | refine blk_alloc ?_ _)); exact BK163.out⟩, ⟨by repeat (first | (with_reducible first | exact HB.out | apply below_alloc | apply pw_below_drewN | apply below_drew1 | refine below_set ?_ GE163.out) | exact HB.out)⟩⟩
  ·rw [if_neg c9] at H
   have c9b0 : (t164.toList == ([] : List UInt8)) = false := beq_eq_false_iff_ne.mpr c9
   have c9b1 : (t164.toList != ([] : List UInt8)) = true := bne_iff_ne.mpr c9
   (first | rw [c9b0] | (simp only [i64_w, i32_w]; rw [c9b0]) | skip)
   replace H := Option.bind_eq_some_iff.mp H
   obtain ⟨t165, A100, H⟩ := H
   replace H : (record_Encode.j0 k t164 (!t165) a2_0 a2_1 a2_2 a2_3 a2_4) = some r := H
   have A10 := Aside0.mk A100
   clear A100
   have H' := Aside0.mk H
   clear H
   have hcz11_0 : w8.cell? ⟨gb163, 0, none⟩ = some (.string a2_0) := (blk_cell BK163.out 0).trans rfl
   have hcz11_1 : w8.cell? ⟨gb163, 1, none⟩ = some (.int .i64 a2_1) := (blk_cell BK163.out 1).trans rfl
   have hcz11_2 : w8.cell? ⟨gb163, 2, none⟩ = some (.int .i64 a2_2) := (blk_cell BK163.out 2).trans rfl
   have hcz11_3 : w8.cell? ⟨gb163, 3, none⟩ = some (.int .i64 a2_3) := (blk_cell BK163.out 3).trans rfl
   have hcz11_4 : w8.cell? ⟨gb163, 4, none⟩ = some (.string a2_4) := (blk_cell BK163.out 4).trans rfl
   have hfz11_0 := blk_frozen BK163.out 0
   have hfz11_1 := blk_frozen BK163.out 1
   have hfz11_2 := blk_frozen BK163.out 2
   have hfz11_3 := blk_frozen BK163.out 3
   have hfz11_4 := blk_frozen BK163.out 4
   go_wp2_with (first | (go_at_call 71; (with_reducible refine (record_Check.calls k a2_0 a2_1 a2_2 a2_3 a2_4 t165 _ A10.out).mono ?_); rintro e w12 ⟨rfl, hb⟩; have n0_ := Aside0.mk (blk_below (g := gb163) (o := .cells #[.string a2_0, .int .i64 a2_1, .int .i64 a2_2, .int .i64 a2_3, .string a2_4] 65 (0, 0)) (by (with_reducible repeat (first | refine blk_drewN ?_ _ | refine blk_drew ?_ | refine blk_alloc ?_ _)); exact BK163.out) hb); have n1_ := Aside0.mk (below_step (by repeat (first | (with_reducible first | exact HB.out | apply below_alloc | apply pw_below_drewN | apply below_drew1 | refine below_set ?_ GE163.out) | exact HB.out)) hb); clear BK163; clear HB; have BK163 := n0_; have HB := n1_; clear n0_ n1_; (try clear hb); (try clear hb2); (try clear hk); (try clear hi)))
   go_meet
   case rel => exact ⟨_, (!t165), (by first | rfl | (simp; done) | (simp [*]; done)), H', ⟨by first | omega | exact Nat.le_refl _⟩, ⟨by (with_reducible repeat (first | refine blk_drewN ?_ _ | refine blk_drew ?_ | refine blk_alloc ?_ _)); exact BK163.out⟩, ⟨by repeat (first | (with_reducible first | exact HB.out | apply below_alloc | apply pw_below_drewN | apply below_drew1 | refine below_set ?_ GE163.out) | exact HB.out)⟩⟩
 case rest =>
  clear HC5
  try clear p2
  try clear c4
  try clear c7
  try clear c9
  try clear c9b0
  try clear c9b1
  try clear hcz11_0
  try clear hcz11_1
  try clear hcz11_2
  try clear hcz11_3
  try clear hcz11_4
  try clear hcz7_0
  try clear hcz7_1
  try clear hcz7_2
  try clear hcz7_3
  try clear hcz7_4
  try clear hfz11_0
  try clear hfz11_1
  try clear hfz11_2
  try clear hfz11_3
  try clear hfz11_4
  try clear hfz7_0
  try clear hfz7_1
  try clear hfz7_2
  try clear hfz7_3
  try clear hfz7_4
  obtain ⟨kq, x19_4, rfl, HA, HJ4, BK163, HB⟩ := hcut
  cases kq with
  | zero => exact absurd HA.out (by simp [record_Encode.j0])
  | succ kj4 =>
   have H := HA.out
   clear HA
   simp only [record_Encode.j0] at H
   by_cases c13 : x19_4 = true
   ·subst c13
    have H1 : (some (⟨#[]⟩ : ByteArray)) = some r := by rw [if_pos rfl] at H; exact H
    clear H
    have H := H1
    clear H1
    obtain rfl := Option.some.inj H
    go_wp2
    go_ret
    exact ⟨by first | rfl | (simp [errW_none, errW_some] <;> rfl) | (simp [*, errW_none, errW_some] <;> rfl), by repeat (first | (with_reducible first | exact HB.out | apply below_alloc | apply pw_below_drewN | apply below_drew1 | refine below_set ?_ GE163.out) | exact HB.out)⟩
   ·replace c13 := Bool.eq_false_iff.mpr c13
    subst c13
    have H1 : ((octet_Put.f kj4 a2_1 2).bind fun t166 => (if t164.size + t166.size ≤ 9223372036854775807 then ((octet_Put.f kj4 a2_2 2).bind fun t167 => (if t164.size + t166.size + t167.size ≤ 9223372036854775807 then ((octet_Put.f kj4 a2_3 4).bind fun t168 => (if t164.size + t166.size + t167.size + t168.size ≤ 9223372036854775807 then ((octet_Put.f kj4 (a2_4.size : Int) 2).bind fun t169 => (if t164.size + t166.size + t167.size + t168.size + t169.size ≤ 9223372036854775807 then (if t164.size + t166.size + t167.size + t168.size + t169.size + a2_4.size ≤ 9223372036854775807 then (some (((((t164 ++ t166) ++ t167) ++ t168) ++ t169) ++ a2_4)) else (none)) else (none))) else (none))) else (none))) else (none))) = some r := by rw [if_neg (show ¬ (false = true) by decide)] at H; exact H
    clear H
    have H := H1
    clear H1
    replace H := Option.bind_eq_some_iff.mp H
    obtain ⟨t166, A140, H⟩ := H
    replace H : (if t164.size + t166.size ≤ 9223372036854775807 then ((octet_Put.f kj4 a2_2 2).bind fun t167 => (if t164.size + t166.size + t167.size ≤ 9223372036854775807 then ((octet_Put.f kj4 a2_3 4).bind fun t168 => (if t164.size + t166.size + t167.size + t168.size ≤ 9223372036854775807 then ((octet_Put.f kj4 (a2_4.size : Int) 2).bind fun t169 => (if t164.size + t166.size + t167.size + t168.size + t169.size ≤ 9223372036854775807 then (if t164.size + t166.size + t167.size + t168.size + t169.size + a2_4.size ≤ 9223372036854775807 then (some (((((t164 ++ t166) ++ t167) ++ t168) ++ t169) ++ a2_4)) else (none)) else (none))) else (none))) else (none))) else (none)) = some r := H
    have A14 := Aside0.mk A140
    clear A140
    by_cases c15 : t164.size + t166.size ≤ 9223372036854775807
    ·rw [if_pos c15] at H
     have c15b0 := eq_true c15
     have c15b1 : decide (t164.size + t166.size ≤ 9223372036854775807) = true := decide_eq_true c15
     try have c15b2 : (9223372036854775807 < t164.size + t166.size) = False := eq_false (Nat.not_lt.2 c15)
     replace H := Option.bind_eq_some_iff.mp H
     obtain ⟨t167, A160, H⟩ := H
     replace H : (if t164.size + t166.size + t167.size ≤ 9223372036854775807 then ((octet_Put.f kj4 a2_3 4).bind fun t168 => (if t164.size + t166.size + t167.size + t168.size ≤ 9223372036854775807 then ((octet_Put.f kj4 (a2_4.size : Int) 2).bind fun t169 => (if t164.size + t166.size + t167.size + t168.size + t169.size ≤ 9223372036854775807 then (if t164.size + t166.size + t167.size + t168.size + t169.size + a2_4.size ≤ 9223372036854775807 then (some (((((t164 ++ t166) ++ t167) ++ t168) ++ t169) ++ a2_4)) else (none)) else (none))) else (none))) else (none)) = some r := H
     have A16 := Aside0.mk A160
     clear A160
     by_cases c17 : t164.size + t166.size + t167.size ≤ 9223372036854775807
     ·rw [if_pos c17] at H
      have c17b0 := eq_true c17
      have c17b1 : decide (t164.size + t166.size + t167.size ≤ 9223372036854775807) = true := decide_eq_true c17
      try have c17b2 : (9223372036854775807 < t164.size + t166.size + t167.size) = False := eq_false (Nat.not_lt.2 c17)
      replace H := Option.bind_eq_some_iff.mp H
      obtain ⟨t168, A180, H⟩ := H
      replace H : (if t164.size + t166.size + t167.size + t168.size ≤ 9223372036854775807 then ((octet_Put.f kj4 (a2_4.size : Int) 2).bind fun t169 => (if t164.size + t166.size + t167.size + t168.size + t169.size ≤ 9223372036854775807 then (if t164.size + t166.size + t167.size + t168.size + t169.size + a2_4.size ≤ 9223372036854775807 then (some (((((t164 ++ t166) ++ t167) ++ t168) ++ t169) ++ a2_4)) else (none)) else (none))) else (none)) = some r := H
      have A18 := Aside0.mk A180
      clear A180
      by_cases c19 : t164.size + t166.size + t167.size + t168.size ≤ 9223372036854775807
      ·rw [if_pos c19] at H
       have c19b0 := eq_true c19
       have c19b1 : decide (t164.size + t166.size + t167.size + t168.size ≤ 9223372036854775807) = true := decide_eq_true c19
       try have c19b2 : (9223372036854775807 < t164.size + t166.size + t167.size + t168.size) = False := eq_false (Nat.not_lt.2 c19)
       replace H := Option.bind_eq_some_iff.mp H
       obtain ⟨t169, A200, H⟩ := H
       replace H : (if t164.size + t166.size + t167.size + t168.size + t169.size ≤ 9223372036854775807 then (if t164.size + t166.size + t167.size + t168.size + t169.size + a2_4.size ≤ 9223372036854775807 then (some (((((t164 ++ t166) ++ t167) ++ t168) ++ t169) ++ a2_4)) else (none)) else (none)) = some r := H
       have A20 := Aside0.mk A200
       clear A200
       by_cases c21 : t164.size + t166.size + t167.size + t168.size + t169.size ≤ 9223372036854775807
       ·rw [if_pos c21] at H
        have c21b0 := eq_true c21
        have c21b1 : decide (t164.size + t166.size + t167.size + t168.size + t169.size ≤ 9223372036854775807) = true := decide_eq_true c21
        try have c21b2 : (9223372036854775807 < t164.size + t166.size + t167.size + t168.size + t169.size) = False := eq_false (Nat.not_lt.2 c21)
        by_cases c22 : t164.size + t166.size + t167.size + t168.size + t169.size + a2_4.size ≤ 9223372036854775807
        ·rw [if_pos c22] at H
         have c22b0 := eq_true c22
         have c22b1 : decide (t164.size + t166.size + t167.size + t168.size + t169.size + a2_4.size ≤ 9223372036854775807) = true := decide_eq_true c22
         try have c22b2 : (9223372036854775807 < t164.size + t166.size + t167.size + t168.size + t169.size + a2_4.size) = False := eq_false (Nat.not_lt.2 c22)
         obtain rfl := Option.some.inj H
         try go_wp2
         have n0_ := Aside0.mk (blk_drew BK163.out)
         have n1_ := Aside0.mk (below_drew1 HB.out)
         clear BK163
         clear HB
         have BK163 := n0_
         have HB := n1_
         clear n0_ n1_
         refine start_ (n := 22) (S := fun w' => w'.cell? ⟨gb163, 0, none⟩ = some (.string a2_0) ∧ w'.cell? ⟨gb163, 1, none⟩ = some (.int .i64 a2_1) ∧ w'.cell? ⟨gb163, 2, none⟩ = some (.int .i64 a2_2) ∧ w'.cell? ⟨gb163, 3, none⟩ = some (.int .i64 a2_3) ∧ w'.cell? ⟨gb163, 4, none⟩ = some (.string a2_4)) (ds := []) #[false, false, false, false, false, false, false, false, false, false, false, false, false, false, false, false, false, false, false, false, false, false] (by kernel_rfl) rfl rfl ⟨(blk_cell BK163.out 0).trans rfl, (blk_cell BK163.out 1).trans rfl, (blk_cell BK163.out 2).trans rfl, (blk_cell BK163.out 3).trans rfl, (blk_cell BK163.out 4).trans rfl⟩ (fun hHeld => ?_); refine with_tabW record_Encode.tab4 record_Encode.bits4 (fun HT_ HW_ => ?_)
         generalize wc.drew = w23 at BK163 HB hHeld ⊢
         refine pure_ (i := 0) (N := some 20) (v := ?_) (a' := ?_) #[true, false, false, false, false, false, false, false, false, false, false, false, false, false, false, false, false, false, false, false, false, false] rfl rfl (any_of HT_.out (by kernel_rfl)) (fun _ _ _ h => h) (Or.inl ⟨by rfl, ?_⟩) ?_ ?_
         rotate_left
         ·intro w'
          go_simp
          with_reducible rfl
         rotate_left
         ·simp only [Act.put, List.setIfInBounds_toArray, List.set_cons_zero, List.set_cons_succ, i64_w, i32_w]
          rfl
         refine pure_ (i := 1) (N := some 21) (v := ?_) (a' := ?_) #[true, true, false, false, false, false, false, false, false, false, false, false, false, false, false, false, false, false, false, false, false, false] rfl rfl (any_of HT_.out (by kernel_rfl)) (fun _ _ _ h => h) (Or.inl ⟨by rfl, ?_⟩) ?_ ?_
         rotate_left
         ·intro w'
          go_simp
          with_reducible rfl
         rotate_left
         ·simp only [Act.put, List.setIfInBounds_toArray, List.set_cons_zero, List.set_cons_succ, i64_w, i32_w]
          rfl
         refine pure_ (i := 5) (N := some 25) (v := ?_) (a' := ?_) #[true, true, false, false, false, true, false, false, false, false, false, false, false, false, false, false, false, false, false, false, false, false] rfl rfl (any_of HT_.out (by kernel_rfl)) (fun _ _ _ h => h) (Or.inl ⟨by rfl, ?_⟩) ?_ ?_
         rotate_left
         ·intro w'
          go_simp
          with_reducible rfl
         rotate_left
         ·simp only [Act.put, List.setIfInBounds_toArray, List.set_cons_zero, List.set_cons_succ, i64_w, i32_w]
          rfl
         refine pure_ (i := 9) (N := some 29) (v := ?_) (a' := ?_) #[true, true, false, false, false, true, false, false, false, true, false, false, false, false, false, false, false, false, false, false, false, false] rfl rfl (any_of HT_.out (by kernel_rfl)) (fun _ _ _ h => h) (Or.inl ⟨by rfl, ?_⟩) ?_ ?_
         rotate_left
         ·intro w'
          go_simp
          with_reducible rfl
         rotate_left
         ·simp only [Act.put, List.setIfInBounds_toArray, List.set_cons_zero, List.set_cons_succ, i64_w, i32_w]
          rfl
         refine pure_ (i := 13) (N := some 33) (v := ?_) (a' := ?_) #[true, true, false, false, false, true, false, false, false, true, false, false, false, true, false, false, false, false, false, false, false, false] rfl rfl (any_of HT_.out (by kernel_rfl)) (fun _ _ _ h => h) (Or.inl ⟨by rfl, ?_⟩) ?_ ?_
         rotate_left
         ·intro w'
          go_simp
          with_reducible rfl
         rotate_left
         ·simp only [Act.put, List.setIfInBounds_toArray, List.set_cons_zero, List.set_cons_succ, i64_w, i32_w]
          rfl
         refine pure_ (i := 18) (N := some 38) (v := ?_) (a' := ?_) #[true, true, false, false, false, true, false, false, false, true, false, false, false, true, false, false, false, false, true, false, false, false] rfl rfl (any_of HT_.out (by kernel_rfl)) (fun _ _ _ h => h) (Or.inl ⟨by rfl, ?_⟩) ?_ ?_
         rotate_left
         ·intro w'
          go_simp
          with_reducible rfl
         rotate_left
         ·simp only [Act.put, List.setIfInBounds_toArray, List.set_cons_zero, List.set_cons_succ, i64_w, i32_w]
          rfl
         refine take_ (i := 2) (N := some 22) (v := ?_) (a' := ?_) #[true, true, true, false, false, true, false, false, false, true, false, false, false, true, false, false, false, false, true, false, false, false] rfl rfl (take_ofW HT_.out HW_.out (by kernel_rfl)) (fun _ _ _ h => h) (Or.inl ⟨by rfl, ?_⟩) hHeld ?_ ?_
         rotate_left
         ·rintro w' ⟨s0, s1, s2, s3, s4⟩
          go_simp
          with_reducible rfl
         rotate_left
         ·simp only [Act.put, List.setIfInBounds_toArray, List.set_cons_zero, List.set_cons_succ, i64_w, i32_w]
          rfl
         refine take_ (i := 6) (N := some 26) (v := ?_) (a' := ?_) #[true, true, true, false, false, true, true, false, false, true, false, false, false, true, false, false, false, false, true, false, false, false] rfl rfl (take_ofW HT_.out HW_.out (by kernel_rfl)) (fun _ _ _ h => h) (Or.inl ⟨by rfl, ?_⟩) hHeld ?_ ?_
         rotate_left
         ·rintro w' ⟨s0, s1, s2, s3, s4⟩
          go_simp
          with_reducible rfl
         rotate_left
         ·simp only [Act.put, List.setIfInBounds_toArray, List.set_cons_zero, List.set_cons_succ, i64_w, i32_w]
          rfl
         refine take_ (i := 10) (N := some 30) (v := ?_) (a' := ?_) #[true, true, true, false, false, true, true, false, false, true, true, false, false, true, false, false, false, false, true, false, false, false] rfl rfl (take_ofW HT_.out HW_.out (by kernel_rfl)) (fun _ _ _ h => h) (Or.inl ⟨by rfl, ?_⟩) hHeld ?_ ?_
         rotate_left
         ·rintro w' ⟨s0, s1, s2, s3, s4⟩
          go_simp
          with_reducible rfl
         rotate_left
         ·simp only [Act.put, List.setIfInBounds_toArray, List.set_cons_zero, List.set_cons_succ, i64_w, i32_w]
          rfl
         refine take_ (i := 14) (N := some 34) (v := ?_) (a' := ?_) #[true, true, true, false, false, true, true, false, false, true, true, false, false, true, true, false, false, false, true, false, false, false] rfl rfl (take_ofW HT_.out HW_.out (by kernel_rfl)) (fun _ _ _ h => h) (Or.inl ⟨by rfl, ?_⟩) hHeld ?_ ?_
         rotate_left
         ·rintro w' ⟨s0, s1, s2, s3, s4⟩
          go_simp
          with_reducible rfl
         rotate_left
         ·simp only [Act.put, List.setIfInBounds_toArray, List.set_cons_zero, List.set_cons_succ, i64_w, i32_w]
          rfl
         refine pure_ (i := 15) (N := some 35) (v := ?_) (a' := ?_) #[true, true, true, false, false, true, true, false, false, true, true, false, false, true, true, true, false, false, true, false, false, false] rfl rfl (any_of HT_.out (by kernel_rfl)) (fun _ _ _ h => h) (Or.inl ⟨by rfl, ?_⟩) ?_ ?_
         rotate_left
         ·intro w'
          go_simp
          with_reducible rfl
         rotate_left
         ·simp only [Act.put, List.setIfInBounds_toArray, List.set_cons_zero, List.set_cons_succ, i64_w, i32_w]
          rfl
         refine take_ (i := 19) (N := some 39) (v := ?_) (a' := ?_) #[true, true, true, false, false, true, true, false, false, true, true, false, false, true, true, true, false, false, true, true, false, false] rfl rfl (take_ofW HT_.out HW_.out (by kernel_rfl)) (fun _ _ _ h => h) (Or.inl ⟨by rfl, ?_⟩) hHeld ?_ ?_
         rotate_left
         ·rintro w' ⟨s0, s1, s2, s3, s4⟩
          go_simp
          with_reducible rfl
         rotate_left
         ·simp only [Act.put, List.setIfInBounds_toArray, List.set_cons_zero, List.set_cons_succ, i64_w, i32_w]
          rfl
         refine one_ (i := 3) (N := some 23) #[true, true, true, true, false, true, true, false, false, true, true, false, false, true, true, true, false, false, true, true, false, false] rfl rfl (one_of HT_.out (by kernel_rfl)) (by decide) (fun K hK => ?_)
         refine goes_ Try.func35 (by kernel_rfl) rfl #[.int .i64 a2_1, .int .i64 2] (by rfl) rfl rfl (by (try simp only [List.map_toArray, List.map_cons, List.map_nil]); first | done | rfl | (simp only [List.length_drop, List.length_take]; rfl)) ?_
         with_reducible refine (octet_Put.calls kj4 a2_1 2 t166 _ A14.out).mono ?_
         rintro e w24 ⟨rfl, hb⟩
         refine ⟨_, rfl, ?_⟩
         have n0_ := Aside0.mk (blk_below (g := gb163) (o := .cells #[.string a2_0, .int .i64 a2_1, .int .i64 a2_2, .int .i64 a2_3, .string a2_4] 65 (0, 0)) (by (with_reducible repeat (first | refine blk_drewN ?_ _ | refine blk_drew ?_ | refine blk_alloc ?_ _)); exact BK163.out) hb)
         have n1_ := Aside0.mk (below_step (by repeat (first | (with_reducible first | exact HB.out | apply below_alloc | apply pw_below_drewN | apply below_drew1 | refine below_set ?_ GE163.out) | exact HB.out)) hb)
         clear BK163
         clear HB
         have BK163 := n0_
         have HB := n1_
         clear n0_ n1_
         (try clear hb)
         (try clear hb2)
         (try clear hk)
         (try clear hi)
         refine hK.out _ _ ⟨(blk_cell BK163.out 0).trans rfl, (blk_cell BK163.out 1).trans rfl, (blk_cell BK163.out 2).trans rfl, (blk_cell BK163.out 3).trans rfl, (blk_cell BK163.out 4).trans rfl⟩ (fun hHeld => ?_)
         clear hK K
         refine norm_ (a' := ?_) ?_ ?_
         rotate_left
         ·show Act.put _ (some 23) _ = _
          simp only [Act.put, List.setIfInBounds_toArray, List.set_cons_zero, List.set_cons_succ, i64_w, i32_w]
          rfl
         refine pure_ (i := 4) (N := some 24) (v := ?_) (a' := ?_) #[true, true, true, true, true, true, true, false, false, true, true, false, false, true, true, true, false, false, true, true, false, false] rfl rfl (any_of HT_.out (by kernel_rfl)) (fun _ _ _ h => h) (Or.inl ⟨by rfl, ?_⟩) ?_ ?_
         rotate_left
         ·intro w'
          go_simp
          with_reducible rfl
         rotate_left
         ·simp only [Act.put, List.setIfInBounds_toArray, List.set_cons_zero, List.set_cons_succ, i64_w, i32_w]
          rfl
         refine one_ (i := 7) (N := some 27) #[true, true, true, true, true, true, true, true, false, true, true, false, false, true, true, true, false, false, true, true, false, false] rfl rfl (one_of HT_.out (by kernel_rfl)) (by decide) (fun K hK => ?_)
         refine goes_ Try.func35 (by kernel_rfl) rfl #[.int .i64 a2_2, .int .i64 2] (by rfl) rfl rfl (by (try simp only [List.map_toArray, List.map_cons, List.map_nil]); first | done | rfl | (simp only [List.length_drop, List.length_take]; rfl)) ?_
         with_reducible refine (octet_Put.calls kj4 a2_2 2 t167 _ A16.out).mono ?_
         rintro e w25 ⟨rfl, hb⟩
         refine ⟨_, rfl, ?_⟩
         have n0_ := Aside0.mk (blk_below (g := gb163) (o := .cells #[.string a2_0, .int .i64 a2_1, .int .i64 a2_2, .int .i64 a2_3, .string a2_4] 65 (0, 0)) (by (with_reducible repeat (first | refine blk_drewN ?_ _ | refine blk_drew ?_ | refine blk_alloc ?_ _)); exact BK163.out) hb)
         have n1_ := Aside0.mk (below_step (by repeat (first | (with_reducible first | exact HB.out | apply below_alloc | apply pw_below_drewN | apply below_drew1 | refine below_set ?_ GE163.out) | exact HB.out)) hb)
         clear BK163
         clear HB
         have BK163 := n0_
         have HB := n1_
         clear n0_ n1_
         (try clear hb)
         (try clear hb2)
         (try clear hk)
         (try clear hi)
         refine hK.out _ _ ⟨(blk_cell BK163.out 0).trans rfl, (blk_cell BK163.out 1).trans rfl, (blk_cell BK163.out 2).trans rfl, (blk_cell BK163.out 3).trans rfl, (blk_cell BK163.out 4).trans rfl⟩ (fun hHeld => ?_)
         clear hK K
         refine norm_ (a' := ?_) ?_ ?_
         rotate_left
         ·show Act.put _ (some 27) _ = _
          simp only [Act.put, List.setIfInBounds_toArray, List.set_cons_zero, List.set_cons_succ, i64_w, i32_w]
          rfl
         refine pure_ (i := 8) (N := some 28) (v := ?_) (a' := ?_) #[true, true, true, true, true, true, true, true, true, true, true, false, false, true, true, true, false, false, true, true, false, false] rfl rfl (any_of HT_.out (by kernel_rfl)) (fun _ _ _ h => h) (Or.inl ⟨by rfl, ?_⟩) ?_ ?_
         rotate_left
         ·intro w'
          go_simp
          with_reducible rfl
         rotate_left
         ·simp only [Act.put, List.setIfInBounds_toArray, List.set_cons_zero, List.set_cons_succ, i64_w, i32_w]
          rfl
         refine one_ (i := 11) (N := some 31) #[true, true, true, true, true, true, true, true, true, true, true, true, false, true, true, true, false, false, true, true, false, false] rfl rfl (one_of HT_.out (by kernel_rfl)) (by decide) (fun K hK => ?_)
         refine goes_ Try.func35 (by kernel_rfl) rfl #[.int .i64 a2_3, .int .i64 4] (by rfl) rfl rfl (by (try simp only [List.map_toArray, List.map_cons, List.map_nil]); first | done | rfl | (simp only [List.length_drop, List.length_take]; rfl)) ?_
         with_reducible refine (octet_Put.calls kj4 a2_3 4 t168 _ A18.out).mono ?_
         rintro e w26 ⟨rfl, hb⟩
         refine ⟨_, rfl, ?_⟩
         have n0_ := Aside0.mk (blk_below (g := gb163) (o := .cells #[.string a2_0, .int .i64 a2_1, .int .i64 a2_2, .int .i64 a2_3, .string a2_4] 65 (0, 0)) (by (with_reducible repeat (first | refine blk_drewN ?_ _ | refine blk_drew ?_ | refine blk_alloc ?_ _)); exact BK163.out) hb)
         have n1_ := Aside0.mk (below_step (by repeat (first | (with_reducible first | exact HB.out | apply below_alloc | apply pw_below_drewN | apply below_drew1 | refine below_set ?_ GE163.out) | exact HB.out)) hb)
         clear BK163
         clear HB
         have BK163 := n0_
         have HB := n1_
         clear n0_ n1_
         (try clear hb)
         (try clear hb2)
         (try clear hk)
         (try clear hi)
         refine hK.out _ _ ⟨(blk_cell BK163.out 0).trans rfl, (blk_cell BK163.out 1).trans rfl, (blk_cell BK163.out 2).trans rfl, (blk_cell BK163.out 3).trans rfl, (blk_cell BK163.out 4).trans rfl⟩ (fun hHeld => ?_)
         clear hK K
         refine norm_ (a' := ?_) ?_ ?_
         rotate_left
         ·show Act.put _ (some 31) _ = _
          simp only [Act.put, List.setIfInBounds_toArray, List.set_cons_zero, List.set_cons_succ, i64_w, i32_w]
          rfl
         refine pure_ (i := 12) (N := some 32) (v := ?_) (a' := ?_) #[true, true, true, true, true, true, true, true, true, true, true, true, true, true, true, true, false, false, true, true, false, false] rfl rfl (any_of HT_.out (by kernel_rfl)) (fun _ _ _ h => h) (Or.inl ⟨by rfl, ?_⟩) ?_ ?_
         rotate_left
         ·intro w'
          go_simp
          with_reducible rfl
         rotate_left
         ·simp only [Act.put, List.setIfInBounds_toArray, List.set_cons_zero, List.set_cons_succ, i64_w, i32_w]
          rfl
         refine one_ (i := 16) (N := some 36) #[true, true, true, true, true, true, true, true, true, true, true, true, true, true, true, true, true, false, true, true, false, false] rfl rfl (one_of HT_.out (by kernel_rfl)) (by decide) (fun K hK => ?_)
         refine goes_ Try.func35 (by kernel_rfl) rfl #[.int .i64 (a2_4.size : Int), .int .i64 2] (by rfl) rfl rfl (by (try simp only [List.map_toArray, List.map_cons, List.map_nil]); first | done | rfl | (simp only [List.length_drop, List.length_take]; rfl)) ?_
         with_reducible refine (octet_Put.calls kj4 (a2_4.size : Int) 2 t169 _ A20.out).mono ?_
         rintro e w27 ⟨rfl, hb⟩
         refine ⟨_, rfl, ?_⟩
         have n0_ := Aside0.mk (blk_below (g := gb163) (o := .cells #[.string a2_0, .int .i64 a2_1, .int .i64 a2_2, .int .i64 a2_3, .string a2_4] 65 (0, 0)) (by (with_reducible repeat (first | refine blk_drewN ?_ _ | refine blk_drew ?_ | refine blk_alloc ?_ _)); exact BK163.out) hb)
         have n1_ := Aside0.mk (below_step (by repeat (first | (with_reducible first | exact HB.out | apply below_alloc | apply pw_below_drewN | apply below_drew1 | refine below_set ?_ GE163.out) | exact HB.out)) hb)
         clear BK163
         clear HB
         have BK163 := n0_
         have HB := n1_
         clear n0_ n1_
         (try clear hb)
         (try clear hb2)
         (try clear hk)
         (try clear hi)
         refine hK.out _ _ ⟨(blk_cell BK163.out 0).trans rfl, (blk_cell BK163.out 1).trans rfl, (blk_cell BK163.out 2).trans rfl, (blk_cell BK163.out 3).trans rfl, (blk_cell BK163.out 4).trans rfl⟩ (fun hHeld => ?_)
         clear hK K
         refine norm_ (a' := ?_) ?_ ?_
         rotate_left
         ·show Act.put _ (some 36) _ = _
          simp only [Act.put, List.setIfInBounds_toArray, List.set_cons_zero, List.set_cons_succ, i64_w, i32_w]
          rfl
         refine pure_ (i := 17) (N := some 37) (v := ?_) (a' := ?_) #[true, true, true, true, true, true, true, true, true, true, true, true, true, true, true, true, true, true, true, true, false, false] rfl rfl (any_of HT_.out (by kernel_rfl)) (fun _ _ _ h => h) (Or.inl ⟨by rfl, ?_⟩) ?_ ?_
         rotate_left
         ·intro w'
          go_simp
          with_reducible rfl
         rotate_left
         ·simp only [Act.put, List.setIfInBounds_toArray, List.set_cons_zero, List.set_cons_succ, i64_w, i32_w]
          rfl
         refine pure_ (i := 20) (N := some 40) (v := ?_) (a' := ?_) #[true, true, true, true, true, true, true, true, true, true, true, true, true, true, true, true, true, true, true, true, true, false] rfl rfl (any_of HT_.out (by kernel_rfl)) (fun _ _ _ h => h) (Or.inl ⟨by rfl, ?_⟩) ?_ ?_
         rotate_left
         ·intro w'
          go_simp
          with_reducible rfl
         rotate_left
         ·simp only [Act.put, List.setIfInBounds_toArray, List.set_cons_zero, List.set_cons_succ, i64_w, i32_w]
          rfl
         refine pure_ (i := 21) (N := some 6) (v := ?_) (a' := ?_) #[true, true, true, true, true, true, true, true, true, true, true, true, true, true, true, true, true, true, true, true, true, true] rfl rfl (any_of HT_.out (by kernel_rfl)) (fun _ _ _ h => h) (Or.inl ⟨by rfl, ?_⟩) ?_ ?_
         rotate_left
         ·intro w'
          go_simp
          with_reducible rfl
         rotate_left
         ·simp only [Act.put, List.setIfInBounds_toArray, List.set_cons_zero, List.set_cons_succ, i64_w, i32_w]
          rfl
         refine done_ (done_of HT_.out (by kernel_rfl)) ?_
         try go_wp2
         go_ret
         exact ⟨by first | rfl | (simp [errW_none, errW_some] <;> rfl) | (simp [*, errW_none, errW_some] <;> rfl), by repeat (first | (with_reducible first | exact HB.out | apply below_alloc | apply pw_below_drewN | apply below_drew1 | refine below_set ?_ GE163.out) | exact HB.out)⟩
        ·rw [if_neg c22] at H
         exact absurd H (by simp)
       ·rw [if_neg c21] at H
        exact absurd H (by simp)
      ·rw [if_neg c19] at H
       exact absurd H (by simp)
     ·rw [if_neg c17] at H
      exact absurd H (by simp)
    ·rw [if_neg c15] at H
     exact absurd H (by simp)
def record_TTL.f (k : Nat) (a0 : ByteArray) (a1 : Int) (a2_0 : ByteArray) (a2_1 : Int) (a2_2 : Int) (a2_3 : Int) (a2_4 : ByteArray) : Option (Int) := (record_Encode.f k a0 a1 a2_0 a2_1 a2_2 a2_3 a2_4).bind fun t171 => (if t171.toList = ([] : List UInt8) then (some (-1)) else ((comp_Write.f k a0 a1 a2_0).bind fun t172 => (some (wrap64 ((t172.size : Int) + 4)))))
theorem record_TTL.mono : ∀ a0 a1 a2 a3 a4 a5 a6 k, LeO (record_TTL.f k a0 a1 a2 a3 a4 a5 a6) (record_TTL.f (k + 1) a0 a1 a2 a3 a4 a5 a6) := by
 intro a0 a1 a2 a3 a4 a5 a6 k
 unfold record_TTL.f
 repeat' first
   | (with_reducible exact comp_Write.mono _ _ _ _)
   | (with_reducible exact record_Encode.mono _ _ _ _ _ _ _ _)
   | (with_reducible exact LeO.refl _)
   | (with_reducible exact LeO.none _)
   | (with_reducible refine LeO.ite ?_ ?_)
   | (with_reducible refine LeO.bind ?_ (fun _ => ?_))
set_option maxHeartbeats 8000000 in
set_option maxRecDepth 100000 in
theorem record_TTL.calls (k : Nat) (a0 : ByteArray) (a1 : Int) (a2_0 : ByteArray) (a2_1 : Int) (a2_2 : Int) (a2_3 : Int) (a2_4 : ByteArray) (r : Int) (w : World) (h : record_TTL.f k a0 a1 a2_0 a2_1 a2_2 a2_3 a2_4 = some r) :
  Calls Try.prog 50 #[.string a0, .int .i64 a1, .agg #[.string a2_0, .int .i64 a2_1, .int .i64 a2_2, .int .i64 a2_3, .string a2_4]] w fun e w' => e = .returned (.int .i64 r) ∧ Below w.heap.size w w' := by
 have hu65 := Try.underlying65
 have HB := Aside0.mk (Below.refl w.heap.size w)
 have H : ((record_Encode.f k a0 a1 a2_0 a2_1 a2_2 a2_3 a2_4).bind fun t171 => (if t171.toList = ([] : List UInt8) then (some (-1)) else ((comp_Write.f k a0 a1 a2_0).bind fun t172 => (some (wrap64 ((t172.size : Int) + 4)))))) = some r := h
 clear h
 replace H := Option.bind_eq_some_iff.mp H
 obtain ⟨t171, A40, H⟩ := H
 replace H : (if t171.toList = ([] : List UInt8) then (some (-1)) else ((comp_Write.f k a0 a1 a2_0).bind fun t172 => (some (wrap64 ((t172.size : Int) + 4))))) = some r := H
 have A4 := Aside0.mk A40
 clear A40
 by_cases c5 : t171.toList = ([] : List UInt8)
 ·rw [if_pos c5] at H
  have c5b0 : (t171.toList == ([] : List UInt8)) = true := beq_iff_eq.mpr c5
  have c5b1 : (t171.toList != ([] : List UInt8)) = false := bne_eq_false_iff_eq.mpr c5
  clear c5
  obtain rfl := Option.some.inj H
  go_enter Try.func50, Try.ntmps50
  go_wp2_with (first | ((with_reducible refine gate_dst (N := 5) rfl ?_); refine box_event ?hg (N := 5) ?hd (cs := #[.string a2_0, .int .i64 a2_1, .int .i64 a2_2, .int .i64 a2_3, .string a2_4]) (t := 65) ?hr ?_; (case hd => rfl); (case hg => rfl); (case hr => first | (go_simp; done) | (go_simp; rfl)); intro gb170 hg w6 hbox hb; have n0_ := Aside0.mk (below_step (by repeat (first | (with_reducible first | exact HB.out | apply below_alloc | apply pw_below_drewN | apply below_drew1) | exact HB.out)) hb); have n1_ := Aside0.mk (hbox); have n2_ := Aside0.mk ((by rw [hg]; exact (below_size (by repeat (first | (with_reducible first | exact HB.out | apply below_alloc | apply pw_below_drewN | apply below_drew1) | exact HB.out))) : w.heap.size ≤ gb170)); have n3_ := Aside0.mk ((by rw [hg]; exact (below_size (by repeat (first | (with_reducible first | exact HB.out | apply below_alloc | apply pw_below_drewN | apply below_drew1) | exact HB.out))) : w.heap.size ≤ gb170)); clear HB; have HB := n0_; have BK170 := n1_; have GW170 := n2_; have GE170 := n3_; clear n0_ n1_ n2_ n3_; clear hb hbox hg; have hcz7_0 : w6.cell? ⟨gb170, 0, none⟩ = some (.string a2_0) := (blk_cell BK170.out 0).trans rfl; have hcz7_1 : w6.cell? ⟨gb170, 1, none⟩ = some (.int .i64 a2_1) := (blk_cell BK170.out 1).trans rfl; have hcz7_2 : w6.cell? ⟨gb170, 2, none⟩ = some (.int .i64 a2_2) := (blk_cell BK170.out 2).trans rfl; have hcz7_3 : w6.cell? ⟨gb170, 3, none⟩ = some (.int .i64 a2_3) := (blk_cell BK170.out 3).trans rfl; have hcz7_4 : w6.cell? ⟨gb170, 4, none⟩ = some (.string a2_4) := (blk_cell BK170.out 4).trans rfl; have hfz7_0 := blk_frozen BK170.out 0; have hfz7_1 := blk_frozen BK170.out 1; have hfz7_2 := blk_frozen BK170.out 2; have hfz7_3 := blk_frozen BK170.out 3; have hfz7_4 := blk_frozen BK170.out 4) | ((with_reducible refine gate_callee (f := 49) rfl ?_); refine goesL_ (some 10) rfl rfl Try.func49 (by kernel_rfl) rfl #[.string a0, .int .i64 a1, .agg #[.string a2_0, .int .i64 a2_1, .int .i64 a2_2, .int .i64 a2_3, .string a2_4]] rfl (by (try simp only [List.map_toArray, List.map_cons, List.map_nil]); first | done | rfl | (simp only [List.length_drop, List.length_take]; rfl)) ?_; (with_reducible refine (record_Encode.calls k a0 a1 a2_0 a2_1 a2_2 a2_3 a2_4 t171 _ A4.out).mono ?_); rintro e w8 ⟨rfl, hb⟩; refine ⟨_, rfl, ?_⟩; have n0_ := Aside0.mk (blk_below (g := gb170) (o := .cells #[.string a2_0, .int .i64 a2_1, .int .i64 a2_2, .int .i64 a2_3, .string a2_4] 65 (0, 0)) (by (with_reducible repeat (first | refine blk_drewN ?_ _ | refine blk_drew ?_ | refine blk_alloc ?_ _)); exact BK170.out) hb); have n1_ := Aside0.mk (below_step (by repeat (first | (with_reducible first | exact HB.out | apply below_alloc | apply pw_below_drewN | apply below_drew1 | refine below_set ?_ GE170.out) | exact HB.out)) hb); clear BK170; clear HB; have BK170 := n0_; have HB := n1_; clear n0_ n1_; (try clear hb); (try clear hb2); (try clear hk); (try clear hi)))
  go_ret
  exact ⟨by first | rfl | (simp [errW_none, errW_some] <;> rfl) | (simp [*, errW_none, errW_some] <;> rfl), by repeat (first | (with_reducible first | exact HB.out | apply below_alloc | apply pw_below_drewN | apply below_drew1 | refine below_set ?_ GE170.out) | exact HB.out)⟩
 ·rw [if_neg c5] at H
  have c5b0 : (t171.toList == ([] : List UInt8)) = false := beq_eq_false_iff_ne.mpr c5
  have c5b1 : (t171.toList != ([] : List UInt8)) = true := bne_iff_ne.mpr c5
  replace H := Option.bind_eq_some_iff.mp H
  obtain ⟨t172, A90, H⟩ := H
  replace H : (some (wrap64 ((t172.size : Int) + 4))) = some r := H
  have A9 := Aside0.mk A90
  clear A90
  obtain rfl := Option.some.inj H
  go_enter Try.func50, Try.ntmps50
  go_wp2_with (first | ((with_reducible refine gate_dst (N := 5) rfl ?_); refine box_event ?hg (N := 5) ?hd (cs := #[.string a2_0, .int .i64 a2_1, .int .i64 a2_2, .int .i64 a2_3, .string a2_4]) (t := 65) ?hr ?_; (case hd => rfl); (case hg => rfl); (case hr => first | (go_simp; done) | (go_simp; rfl)); intro gb170 hg w10 hbox hb; have n0_ := Aside0.mk (below_step (by repeat (first | (with_reducible first | exact HB.out | apply below_alloc | apply pw_below_drewN | apply below_drew1) | exact HB.out)) hb); have n1_ := Aside0.mk (hbox); have n2_ := Aside0.mk ((by rw [hg]; exact (below_size (by repeat (first | (with_reducible first | exact HB.out | apply below_alloc | apply pw_below_drewN | apply below_drew1) | exact HB.out))) : w.heap.size ≤ gb170)); have n3_ := Aside0.mk ((by rw [hg]; exact (below_size (by repeat (first | (with_reducible first | exact HB.out | apply below_alloc | apply pw_below_drewN | apply below_drew1) | exact HB.out))) : w.heap.size ≤ gb170)); clear HB; have HB := n0_; have BK170 := n1_; have GW170 := n2_; have GE170 := n3_; clear n0_ n1_ n2_ n3_; clear hb hbox hg; have hcz11_0 : w10.cell? ⟨gb170, 0, none⟩ = some (.string a2_0) := (blk_cell BK170.out 0).trans rfl; have hcz11_1 : w10.cell? ⟨gb170, 1, none⟩ = some (.int .i64 a2_1) := (blk_cell BK170.out 1).trans rfl; have hcz11_2 : w10.cell? ⟨gb170, 2, none⟩ = some (.int .i64 a2_2) := (blk_cell BK170.out 2).trans rfl; have hcz11_3 : w10.cell? ⟨gb170, 3, none⟩ = some (.int .i64 a2_3) := (blk_cell BK170.out 3).trans rfl; have hcz11_4 : w10.cell? ⟨gb170, 4, none⟩ = some (.string a2_4) := (blk_cell BK170.out 4).trans rfl; have hfz11_0 := blk_frozen BK170.out 0; have hfz11_1 := blk_frozen BK170.out 1; have hfz11_2 := blk_frozen BK170.out 2; have hfz11_3 := blk_frozen BK170.out 3; have hfz11_4 := blk_frozen BK170.out 4) | ((with_reducible refine gate_callee (f := 49) rfl ?_); refine goesL_ (some 10) rfl rfl Try.func49 (by kernel_rfl) rfl #[.string a0, .int .i64 a1, .agg #[.string a2_0, .int .i64 a2_1, .int .i64 a2_2, .int .i64 a2_3, .string a2_4]] rfl (by (try simp only [List.map_toArray, List.map_cons, List.map_nil]); first | done | rfl | (simp only [List.length_drop, List.length_take]; rfl)) ?_; (with_reducible refine (record_Encode.calls k a0 a1 a2_0 a2_1 a2_2 a2_3 a2_4 t171 _ A4.out).mono ?_); rintro e w12 ⟨rfl, hb⟩; refine ⟨_, rfl, ?_⟩; have n0_ := Aside0.mk (blk_below (g := gb170) (o := .cells #[.string a2_0, .int .i64 a2_1, .int .i64 a2_2, .int .i64 a2_3, .string a2_4] 65 (0, 0)) (by (with_reducible repeat (first | refine blk_drewN ?_ _ | refine blk_drew ?_ | refine blk_alloc ?_ _)); exact BK170.out) hb); have n1_ := Aside0.mk (below_step (by repeat (first | (with_reducible first | exact HB.out | apply below_alloc | apply pw_below_drewN | apply below_drew1 | refine below_set ?_ GE170.out) | exact HB.out)) hb); clear BK170; clear HB; have BK170 := n0_; have HB := n1_; clear n0_ n1_; (try clear hb); (try clear hb2); (try clear hk); (try clear hi); have hcz13_0 : w12.cell? ⟨gb170, 0, none⟩ = some (.string a2_0) := (blk_cell BK170.out 0).trans rfl; have hcz13_1 : w12.cell? ⟨gb170, 1, none⟩ = some (.int .i64 a2_1) := (blk_cell BK170.out 1).trans rfl; have hcz13_2 : w12.cell? ⟨gb170, 2, none⟩ = some (.int .i64 a2_2) := (blk_cell BK170.out 2).trans rfl; have hcz13_3 : w12.cell? ⟨gb170, 3, none⟩ = some (.int .i64 a2_3) := (blk_cell BK170.out 3).trans rfl; have hcz13_4 : w12.cell? ⟨gb170, 4, none⟩ = some (.string a2_4) := (blk_cell BK170.out 4).trans rfl; have hfz13_0 := blk_frozen BK170.out 0; have hfz13_1 := blk_frozen BK170.out 1; have hfz13_2 := blk_frozen BK170.out 2; have hfz13_3 := blk_frozen BK170.out 3; have hfz13_4 := blk_frozen BK170.out 4) | ((with_reducible refine gate_callee (f := 70) rfl ?_); refine goesL_ (some 16) rfl rfl Try.func70 (by kernel_rfl) rfl #[.string a0, .int .i64 a1, .string a2_0] rfl (by (try simp only [List.map_toArray, List.map_cons, List.map_nil]); first | done | rfl | (simp only [List.length_drop, List.length_take]; rfl)) ?_; (with_reducible refine (comp_Write.calls k a0 a1 a2_0 t172 _ A9.out).mono ?_); rintro e w14 ⟨rfl, hb⟩; refine ⟨_, rfl, ?_⟩; have n0_ := Aside0.mk (blk_below (g := gb170) (o := .cells #[.string a2_0, .int .i64 a2_1, .int .i64 a2_2, .int .i64 a2_3, .string a2_4] 65 (0, 0)) (by (with_reducible repeat (first | refine blk_drewN ?_ _ | refine blk_drew ?_ | refine blk_alloc ?_ _)); exact BK170.out) hb); have n1_ := Aside0.mk (below_step (by repeat (first | (with_reducible first | exact HB.out | apply below_alloc | apply pw_below_drewN | apply below_drew1 | refine below_set ?_ GE170.out) | exact HB.out)) hb); clear BK170; clear HB; have BK170 := n0_; have HB := n1_; clear n0_ n1_; (try clear hb); (try clear hb2); (try clear hk); (try clear hi)))
  go_ret
  exact ⟨by first | rfl | (simp [errW_none, errW_some] <;> rfl) | (simp [*, errW_none, errW_some] <;> rfl), by repeat (first | (with_reducible first | exact HB.out | apply below_alloc | apply pw_below_drewN | apply below_drew1 | refine below_set ?_ GE170.out) | exact HB.out)⟩
def tmplLay.r0 (k : Nat) (key : ByteArray) : List S65 → ByteArray → List S71 → Option (ByteArray × List S71)
 | [], text, sp => some (text, sp)
 | r :: l, text, sp => (record_Encode.f k key 12 r.f0 r.f1 r.f2 r.f3 r.f4).bind fun s => if text.size + s.size ≤ 1000000000000 then
   (record_TTL.f k key 12 r.f0 r.f1 r.f2 r.f3 r.f4).bind fun p => if sp.length < 100000000 then tmplLay.r0 k key l (text ++ s) (sp ++ [⟨(text.size : Int), ((text ++ s).size : Int), wrap64 ((text.size : Int) + p)⟩]) else none else none
def tmplLay.f (k : Nat) (key : ByteArray) (now : Int) (n : ByteArray) (t c : Int) (ds : List ByteArray) (ttl left : Int) (soa : Bool) (text : ByteArray) (ps : List S69) : Option (Bool × ByteArray × List S69) :=
 (group_Flat.f k n t c ds ttl left 0).bind fun l => if l.length = 0 ∨ left < 1 ∨ left > 604800 then some (false, text, ps)
  else (tmplLay.r0 k key l text []).bind fun b => if ps.length < 100000000 then some (true, b.1, ps ++ [⟨b.2, wrap64 (now + left), soa⟩]) else none
section
variable {P : Program} {ops : Array Oper} {Q : Exit → Act → World → Prop} {md : Region.Mode} {S : World → Prop} {z : Nat}
def wpAnyT (P : Program) (md : Region.Mode) (ops : Array Oper) (Q : Exit → Act → World → Prop) (S : World → Prop) (z : Nat) : Nat → Array Bool → Act → World → Prop
 | 0, listed, a, w => Region.ready md ops listed = [] ∧ Q .normal a w
 | n + 1, listed, a, w =>
  (Region.ready md ops listed = [] → Q .normal a w) ∧
  ∀ i ∈ Region.ready md ops listed, wpOp P ops Q i (fun a' w' => (i ≠ z → S w') ∧ wpAnyT P md ops Q S z n (listed.setIfInBounds i true) a' w') a w
theorem wpAny_of_T : ∀ (n : Nat) (listed : Array Bool) (a : Act) (w : World), wpAnyT P md ops Q S z n listed a w → wpAny P md ops Q n listed a w
 | 0, _, _, _, h => h
 | n + 1, _, _, _, h => ⟨h.1, fun i hi => wpOp_mono (fun a' w' h' => wpAny_of_T n _ a' w' h'.2) (h.2 i hi)⟩
theorem wpAnyT_first {i : Nat} {oi : Oper} {v : Value} (hi : ops[i]? = some oi) (hiz : i ≠ z) (hwait : ∃ oz, ops[z]? = some oz ∧ ∃ e ∈ oz.after, Region.binds md e = true ∧ e.on = i)
  (hsel : ∀ (j : Nat) (o : Oper) cs b, ops[j]? = some o → o.op ≠ .select cs b)
  (hQ : ∀ c a w, Q (.panic c) (a.put oi.dst v) w → Q (.panic c) a w) :
  ∀ (n : Nat) (listed : Array Bool) (a : Act) (w : World),
   (∀ j oj, ops[j]? = some oj → j ≠ i → listed.getD j true = false → (∀ e ∈ oj.after, Region.binds md e = true → e.on ≠ i) → oi.apart ops oj = true) →
   i ∈ Region.ready md ops listed → YieldsIf P ops S oi v a → S w →
   wpAnyT P md ops Q S z n (listed.setIfInBounds i true) (a.put oi.dst v) w → wpAnyT P md ops Q S z (n + 1) listed a w := by
 intro n
 induction n with
 | zero =>
  intro listed a w _ hr hy hS H
  refine ⟨fun h => (by rw [h] at hr; cases hr), fun j hj => ?_⟩
  by_cases hji : j = i
  ·subst hji; exact hy.wpOp hi hS ⟨fun _ => hS, H⟩
  ·have := ready_mono hj hji
   rw [H.1] at this
   cases this
 | succ n ih =>
  intro listed a w hfree hr hy hS H
  refine ⟨fun h => (by rw [h] at hr; cases hr), fun j hj => ?_⟩
  by_cases hji : j = i
  ·subst hji; exact hy.wpOp hi hS ⟨fun _ => hS, H⟩
  ·have h1 := H.2 j (ready_mono hj hji)
   obtain ⟨hjun, oj, hoj, hall⟩ := mem_ready.1 hj
   have hnot : ∀ e ∈ oj.after, Region.binds md e = true → e.on ≠ i := fun e he hb heq => by
    have h1 := hall e he hb
    have h0 := (mem_ready.1 hr).1
    rw [heq] at h1
    rcases Nat.lt_or_ge i listed.size with h' | h'
    ·simp [h'] at h0 h1; rw [h0] at h1; cases h1
    ·simp [Array.getElem?_eq_none h'] at h1
   have hjz : j ≠ z := by
    rintro rfl
    obtain ⟨oz, hz, e, he, hb, heq⟩ := hwait
    rw [hoj] at hz
    injection hz with hz
    subst hz
    exact hnot e he hb heq
   have h2 := wpOp_putIf hoj (hfree j oj hoj hji hjun hnot) (fun cs b => hsel i oi cs b hi) (fun cs b => hsel j oj cs b hoj) hQ hy h1
   have hfree' : ∀ k ok, ops[k]? = some ok → k ≠ i → (listed.setIfInBounds j true).getD k true = false →
     (∀ e ∈ ok.after, Region.binds md e = true → e.on ≠ i) → oi.apart ops ok = true := fun k ok hk hki hun hno => by
    refine hfree k ok hk hki ?_ hno
    by_cases hjk : j = k
    ·subst hjk; exact hjun
    ·rw [getD_set_ne true hjk] at hun; exact hun
   refine wpOp_mono (fun a' w' h3 => ⟨fun _ => h3.2.1 hjz, ih (listed.setIfInBounds j true) a' w' hfree' (ready_mono hr (Ne.symm hji)) h3.1 (h3.2.1 hjz) ?_⟩) h2
   rw [Array.setIfInBounds_comm _ _ hji]
   exact h3.2.2
def waitsFor (md : Region.Mode) (ops : Array Oper) (z i : Nat) : Bool := (ops[z]?).any fun oz => oz.after.any fun e => Region.binds md e && (e.on == i)
theorem waitsFor_spec {i : Nat} (h : waitsFor md ops z i = true) : ∃ oz, ops[z]? = some oz ∧ ∃ e ∈ oz.after, Region.binds md e = true ∧ e.on = i := by
 unfold waitsFor at h
 cases ho : ops[z]? with
 | none => rw [ho] at h; cases h
 | some oz =>
  rw [ho] at h
  simp only [Option.any_some, Array.any_eq_true', Bool.and_eq_true, beq_iff_eq] at h
  obtain ⟨e, he, h1, h2⟩ := h
  exact ⟨oz, rfl, e, he, h1, h2⟩
theorem wpAnyT_take (i : Nat) {oi : Oper} {v : Value} {n : Nat} {listed : Array Bool} {a : Act} {w : World} (hi : ops[i]? = some oi) (hiz : decide (i ≠ z) = true) (hwait : waitsFor md ops z i = true)
  (hs : Region.noSelect ops = true) (hf : Region.free md ops listed i = true) (hr : (Region.ready md ops listed).contains i = true)
  (hQ : ∀ c a w, Q (.panic c) (a.put oi.dst v) w → Q (.panic c) a w) (hS : S w) (hw : Region.wanted oi (yielded ops a.tmps) = true) (hy : ∀ w, S w → (execOp a.eval oi).run P w = .ok (.value v) w)
  (h : wpAnyT P md ops Q S z n (listed.setIfInBounds i true) (a.put oi.dst v) w) : wpAnyT P md ops Q S z (n + 1) listed a w :=
 wpAnyT_first hi (of_decide_eq_true hiz) (waitsFor_spec hwait) (Region.noSelect_spec hs) hQ n listed a w (Region.free_spec hi hf) (by simpa using hr) (Or.inl ⟨hw, hy⟩) hS h
theorem wpAnyT_one (i : Nat) {o : Oper} {n : Nat} {listed : Array Bool} {a : Act} {w : World} (hr : Region.ready md ops listed = [i]) (ho : ops[i]? = some o) (hw : Region.wanted o (yielded ops a.tmps) = true)
  (h : ∀ K : Act → World → Prop, Aside0 (∀ a w, (i ≠ z → S w) → wpAnyT P md ops Q S z n (listed.setIfInBounds i true) a w → K a w) → Oper.wp P o a w K Q) : wpAnyT P md ops Q S z (n + 1) listed a w :=
 ⟨fun h0 => (by rw [hr] at h0; cases h0), fun j hj => by
  rw [hr] at hj
  obtain rfl : j = i := by simpa using hj
  refine wpOp_step ho (fun K hK => ?_)
  rw [if_pos hw]
  exact h K (Aside0.mk (fun a w h1 h2 => hK a w (And.intro h1 h2)))⟩
theorem wpAnyT_done {n : Nat} {listed : Array Bool} {a : Act} {w : World} (hr : Region.ready md ops listed = []) (h : Q .normal a w) : wpAnyT P md ops Q S z n listed a w :=
 match n with
 | 0 => ⟨hr, h⟩
 | _ + 1 => ⟨fun _ => h, by rw [hr]; simp⟩
theorem wp_region_T {id : Nat} {a : Act} {w : World} (S : World → Prop) (z : Nat) (hm : P.follows .mixedOrders = true) (h : wpAnyT P .any ops Q S z ops.size (Array.replicate ops.size false) a w.drew) : (Code.region id ops true).wp P Q a w :=
 wp_region_any hm (wpAny_of_T _ _ _ _ h)
end
section
variable {P : Program} {ops : Array Oper} {Q : Exit → Act → World → Prop} {md : Region.Mode} {S : World → Prop} {z : Nat}
theorem wpAnyT_if (i : Nat) {o : Oper} {n : Nat} {listed : Array Bool} {a : Act} {w : World} (hr : Region.ready md ops listed = [i]) (ho : ops[i]? = some o)
  (h : ∀ K : Act → World → Prop, Aside0 (∀ a w, (i ≠ z → S w) → wpAnyT P md ops Q S z n (listed.setIfInBounds i true) a w → K a w) → if Region.wanted o (yielded ops a.tmps) = true then Oper.wp P o a w K Q else K (a.put o.dst undef) w) : wpAnyT P md ops Q S z (n + 1) listed a w :=
 ⟨fun h0 => (by rw [hr] at h0; cases h0), fun j hj => by
  rw [hr] at hj
  obtain rfl : j = i := by simpa using hj
  exact wpOp_step ho (fun K hK => h K (Aside0.mk (fun a w h1 h2 => hK a w (And.intro h1 h2))))⟩
end
theorem tmplLay.r0_mono (k : Nat) (key : ByteArray) : ∀ l x y, LeO (tmplLay.r0 k key l x y) (tmplLay.r0 (k + 1) key l x y)
 | [], _, _ => LeO.refl _
 | r :: l, x, y => by
  unfold tmplLay.r0
  exact LeO.bind (record_Encode.mono _ _ _ _ _ _ _ _) (fun _ => LeO.ite (LeO.bind (record_TTL.mono _ _ _ _ _ _ _ _) (fun _ => LeO.ite (tmplLay.r0_mono k key l _ _) (LeO.refl _))) (LeO.refl _))
theorem tmplLay.mono (k : Nat) (key : ByteArray) (now : Int) (n : ByteArray) (t c : Int) (ds : List ByteArray) (ttl left : Int) (soa : Bool) (text : ByteArray) (ps : List S69) : LeO (tmplLay.f k key now n t c ds ttl left soa text ps) (tmplLay.f (k + 1) key now n t c ds ttl left soa text ps) := by
 unfold tmplLay.f
 exact LeO.bind (group_Flat.mono _ _ _ _ _ _ _ _) (fun _ => LeO.ite (LeO.refl _) (LeO.bind (tmplLay.r0_mono _ _ _ _ _) (fun _ => LeO.refl _)))
set_option maxHeartbeats 8000000 in
set_option maxRecDepth 100000 in
theorem tmpl_lay.calls (k gt : Nat) (key : ByteArray) (t1 t2 code : Int) (text : ByteArray) (v : Value) (ps : List S69) (now : Int) (n : ByteArray) (t c : Int) (A : Option Addr) (cA : Nat) (ds : List ByteArray) (ttl left : Int) (soa b : Bool) (text' : ByteArray) (ps' : List S69) (w0 w : World)
  (hgt : w.heap[gt]? = some (.cells #[.string key, .int .i64 t1, .int .i64 t2, .int .i64 code, .string text, v] 36 (0, 0))) (hv : Kd.R k69 69 w w0.heap.size (fun _ => True) v ps) (hB : Below w0.heap.size w0 w) (hgb : w0.heap.size ≤ gt)
  (hr : Kd.C Kd.string w A ds.length ds) (hc : ds.length ≤ cA) (h : tmplLay.f k key now n t c ds ttl left soa text ps = some (b, text', ps')) :
  Calls Try.prog 29 #[.pointer (some ⟨gt, 0, none⟩), .int .i64 now, .agg #[.string n, .int .i64 t, .int .i64 c, .slice A ds.length cA, .int .i64 ttl, .int .i64 left], .bool soa] w fun e w' =>
   e = .returned (.bool b) ∧ Below w0.heap.size w0 w' ∧ Kept w w' (fun k => k = gt ∨ some k = v.ownBlock) ∧ (b = true → ∃ v', w'.heap[gt]? = some (.cells #[.string key, .int .i64 t1, .int .i64 t2, .int .i64 code, .string text', v'] 36 (0, 0)) ∧ Kd.R k69 69 w' w0.heap.size (fun _ => True) v' ps') := by
 have hu := Try.underlying40
 have hu2 := Try.underlying27
 have hu3 := Try.underlying36
 have hu4 := Try.underlying69
 have hu5 := Try.underlying65
 have hu6 := Try.underlying23
 have hu7 := Try.underlying71
 unfold tmplLay.f at h
 replace h := Option.bind_eq_some_iff.mp h
 obtain ⟨rs, hf, h⟩ := h
 have HF := Aside0.mk hf
 have HR0 := Aside0.mk hr
 have HC0 := Aside0.mk hc
 have HGT := Aside0.mk (blk_alloc hgt (.cells #[.string n, .int .i64 t, .int .i64 c, .slice A ds.length cA, .int .i64 ttl, .int .i64 left] 40))
 have HV := Aside0.mk (Kd.R_alloc hv (.cells #[.string n, .int .i64 t, .int .i64 c, .slice A ds.length cA, .int .i64 ttl, .int .i64 left] 40))
 have HBH : Aside0 ((w.alloc (.cells #[.string n, .int .i64 t, .int .i64 c, .slice A ds.length cA, .int .i64 ttl, .int .i64 left] 40)).heap[w.heap.size]? = some (.cells #[.string n, .int .i64 t, .int .i64 c, .slice A ds.length cA, .int .i64 ttl, .int .i64 left] 40 (0, 0))) := ⟨heap_alloc_new _ _⟩
 have HW := Aside0.mk (below_alloc hB (.cells #[.string n, .int .i64 t, .int .i64 c, .slice A ds.length cA, .int .i64 ttl, .int .i64 left] 40))
 have HWW := Aside0.mk (below_alloc (Below.refl w.heap.size w) (.cells #[.string n, .int .i64 t, .int .i64 c, .slice A ds.length cA, .int .i64 ttl, .int .i64 left] 40))
 have HK := Aside0.mk (Kept.alloc (Kept.refl w (fun k => k = gt ∨ some k = v.ownBlock)) (.cells #[.string n, .int .i64 t, .int .i64 c, .slice A ds.length cA, .int .i64 ttl, .int .i64 left] 40))
 have HGB := Aside0.mk hgb
 clear hf hr hc hgt hv hB hgb
 by_cases hl : rs.length = 0 ∨ left < 1 ∨ left > 604800
 ·rw [if_pos hl] at h
  injection h with h
  injection h with h1 h2
  subst h1
  clear h2
  have hx : ∃ x1 x2 x3, ((rs.length : Int) == 0) = x1 ∧ decide (left < 1) = x2 ∧ decide (604800 < left) = x3 ∧ (x1 || x2 || x3) = true := by
   refine ⟨_, _, _, rfl, rfl, rfl, ?_⟩
   simp only [Bool.or_eq_true, beq_iff_eq, decide_eq_true_eq]
   omega
  obtain ⟨x1, x2, x3, hx1, hx2, hx3, hx⟩ := hx
  clear hl
  revert hx1 hx2 hx3 hx
  cases x1 <;> cases x2 <;> cases x3 <;> intro hx1 hx2 hx3 hx <;> first | exact absurd hx (by decide) | (exfalso; simp only [decide_eq_true_eq] at hx2 hx3; omega) | skip
  all_goals
   clear hx
   go_enter Try.func29, Try.ntmps29
   go_upto_region 1 with (first | fail)
   generalize (w.alloc (.cells #[.string n, .int .i64 t, .int .i64 c, .slice A ds.length cA, .int .i64 ttl, .int .i64 left] 40)) = w1 at HGT HV HBH HW HK HWW ⊢
   have z0 := (blk_cell HBH.out 0).trans rfl
   have f0 := blk_frozen HBH.out 0
   have z1 := (blk_cell HBH.out 1).trans rfl
   have f1 := blk_frozen HBH.out 1
   have z2 := (blk_cell HBH.out 2).trans rfl
   have f2 := blk_frozen HBH.out 2
   have z3 := (blk_cell HBH.out 3).trans rfl
   have f3 := blk_frozen HBH.out 3
   have z4 := (blk_cell HBH.out 4).trans rfl
   have f4 := blk_frozen HBH.out 4
   have z5 := (blk_cell HBH.out 5).trans rfl
   have f5 := blk_frozen HBH.out 5
   go_wp2_with fail
   go_at_call 48
   refine (group_Flat.calls _ _ _ _ _ _ _ _ _ _ _ _ (Kd.C_below HR0.out HWW.out) HC0.out HF.out).mono ?_
   rintro _ w2 ⟨vl, rfl, hol, hb2⟩
   obtain ⟨Al, cl, rfl⟩ := Kd.R_slice hol
   have HBH2 := Aside0.mk (blk_below HBH.out hb2)
   have HW2 := Aside0.mk (below_then HW.out HW.out.size hb2)
   have HK2 := Aside0.mk (Kept.below HK.out hb2)
   clear z0 z1 z2 z3 z4 z5 f0 f1 f2 f3 f4 f5 HGT HV HBH HW HWW HK hol hb2
   have z5 := (blk_cell HBH2.out 5).trans rfl
   have f5 := blk_frozen HBH2.out 5
   go_wp2_with fail
   all_goals (go_ret; exact ⟨rfl, HW2.out, HK2.out, fun h => by cases h⟩)
 ·rw [if_neg hl] at h
  have hl1 : (rs.length = 0) = False := eq_false fun h => hl (.inl h)
  have hl2 : decide (left < 1) = false := decide_eq_false fun h => hl (.inr (.inl h))
  have hl3 : decide (604800 < left) = false := decide_eq_false fun h => hl (.inr (.inr h))
  have hl4 : (decide ((rs.length : Int) = 0)) = false := decide_eq_false (by have := of_eq_false hl1; omega)
  have hl5 : ((rs.length : Int) == 0) = false := beq_eq_false_iff_ne.mpr (by have := of_eq_false hl1; omega)
  clear hl
  replace h := Option.bind_eq_some_iff.mp h
  obtain ⟨⟨tx1, sp1⟩, hr0, h⟩ := h
  have H0 := Aside0.mk hr0
  clear hr0
  by_cases hps : ps.length < 100000000
  ·rw [if_pos hps] at h
   injection h with h
   injection h with h1 h2
   injection h2 with h2 h3
   subst h1 h2 h3
   have HPS := Aside0.mk hps
   clear hps
   go_enter Try.func29, Try.ntmps29
   go_upto_region 1 with (first | fail)
   generalize (w.alloc (.cells #[.string n, .int .i64 t, .int .i64 c, .slice A ds.length cA, .int .i64 ttl, .int .i64 left] 40)) = w1 at HGT HV HBH HW HK HWW ⊢
   have z0 := (blk_cell HBH.out 0).trans rfl
   have f0 := blk_frozen HBH.out 0
   have z1 := (blk_cell HBH.out 1).trans rfl
   have f1 := blk_frozen HBH.out 1
   have z2 := (blk_cell HBH.out 2).trans rfl
   have f2 := blk_frozen HBH.out 2
   have z3 := (blk_cell HBH.out 3).trans rfl
   have f3 := blk_frozen HBH.out 3
   have z4 := (blk_cell HBH.out 4).trans rfl
   have f4 := blk_frozen HBH.out 4
   have z5 := (blk_cell HBH.out 5).trans rfl
   have f5 := blk_frozen HBH.out 5
   go_wp2_with fail
   go_at_call 48
   refine (group_Flat.calls _ _ _ _ _ _ _ _ _ _ _ _ (Kd.C_below HR0.out HWW.out) HC0.out HF.out).mono ?_
   rintro _ w2 ⟨vl, rfl, hol, hb2⟩
   obtain ⟨Al, cl, rfl⟩ := Kd.R_slice hol
   have HOL := Aside0.mk (Kd.R_lower hol HW.out.size)
   have HRL : Aside0 (rs.length ≤ 9223372036854775807) := ⟨Kd.C_max (Kd.R_reads' HOL.out).2.2⟩
   have HGT2 := Aside0.mk (blk_below HGT.out hb2)
   have HV2 := Aside0.mk (Kd.R_below HV.out hb2)
   have HBH2 := Aside0.mk (blk_below HBH.out hb2)
   have HW2 := Aside0.mk (below_then HW.out HW.out.size hb2)
   have HK2 := Aside0.mk (Kept.below HK.out hb2)
   clear z0 z1 z2 z3 z4 z5 f0 f1 f2 f3 f4 f5 HGT HV HBH HW HWW HK hol hb2
   have z5 := (blk_cell HBH2.out 5).trans rfl
   have f5 := blk_frozen HBH2.out 5
   have hl5 : ((rs.length : Int) == 0) = false := beq_eq_false_iff_ne.mpr (by have := of_eq_false hl1; omega)
   go_wp2_with fail
   have HGP : Aside0 (gt < w2.heap.size) := ⟨blk_lt HGT2.out⟩
   have HBP := Aside0.mk (heap_alloc_new w2 (.cells #[.slice none 0 0, .int .i64 (wrap64 (now + left)), .bool soa] 69))
   have HV3 := Aside0.mk (Kd.R_alloc (Kd.R_mono (Kd.R_bound HV2.out) (ok' := fun k => True ∧ k ≠ w2.heap.size) (fun k hk => ⟨trivial, Nat.ne_of_lt hk.2.2.1⟩)) (.cells #[.slice none 0 0, .int .i64 (wrap64 (now + left)), .bool soa] 69))
   have HKG : Aside0 (w.heap.size ≤ w2.heap.size) := ⟨HK2.out.1⟩
   have HWG : Aside0 (w0.heap.size ≤ w2.heap.size) := ⟨HW2.out.size⟩
   generalize hgp : w2.heap.size = gp at HGP HBP HV3 HKG HWG ⊢
   clear hgp
   go_loopg [40] rs.length (fun kq v40 W => ∃ (i : Nat) (tx : ByteArray) (sp : List S71) (vs : Value), v40 = .int .i64 i ∧ Aside0 (i + kq = rs.length) ∧ Aside0 (tmplLay.r0 k key (rs.drop i) tx sp = some (tx1, sp1)) ∧ Aside0 (W.heap[gt]? = some (.cells #[.string key, .int .i64 t1, .int .i64 t2, .int .i64 code, .string tx, v] 36 (0, 0))) ∧ Aside0 (W.heap[gp]? = some (.cells #[vs, .int .i64 (wrap64 (now + left)), .bool soa] 69 (0, 0))) ∧ Aside0 (Kd.R k71 71 W w0.heap.size (fun _ => True) vs sp) ∧ Aside0 (Kd.R k69 69 W w0.heap.size (fun k => (True ∧ k ≠ gp) ∧ some k ≠ vs.ownBlock) v ps) ∧ Aside0 (∀ k, vs.ownBlock = some k → w.heap.size ≤ k) ∧ Aside0 (Kd.R k65 65 W w0.heap.size (fun _ => True) (.slice Al rs.length cl) rs) ∧ Aside0 (Below w0.heap.size w0 W) ∧ Aside0 (Kept w W (fun k => k = gt ∨ some k = v.ownBlock)))
   case atStart => exact ⟨0, text, [], .slice none 0 0, rfl, ⟨Nat.zero_add _⟩, H0, ⟨blk_alloc HGT2.out _⟩, HBP, ⟨Kd.R_nil _ _ _ _ _⟩, ⟨Kd.R_apart_nil HV3.out⟩, ⟨fun k hk => by cases hk⟩, ⟨Kd.R_alloc HOL.out _⟩, ⟨below_alloc HW2.out _⟩, ⟨Kept.alloc HK2.out _⟩⟩
   case round =>
    clear z5 f5 HOL HGT2 HV2 HBH2 HW2 HK2 HBP HV3 H0
    obtain ⟨i, tx, sp, vs, rfl, HI, H0, HGT, HBP, HSP, HV, HVS, HOL, HW, HK⟩ := hrel
    by_cases hlt : i < rs.length
    ·obtain ⟨ad, hA, x0, x1, x2, x3, x4⟩ := at_T65 (Kd.R_reads' HOL.out).2.2 (i : Int) (by omega) (by omega)
     subst hA
     simp only [Int.toNat_natCast] at x0 x1 x2 x3 x4
     have h := H0.out
     rw [List.drop_eq_getElem_cons hlt] at h
     have hrd : rs[i] = rd_T65 rs (i : Int) := by
      unfold rd_T65
      rw [Int.toNat_natCast, List.getD_eq_getElem?_getD, List.getElem?_eq_getElem hlt]; rfl
     rw [hrd] at h
     clear hrd
     generalize rd_T65 rs (i : Int) = rr at h x0 x1 x2 x3 x4
     obtain ⟨q0, q1, q2, q3, q4⟩ := rr
     simp only at x0 x1 x2 x3 x4
     unfold tmplLay.r0 at h
     simp only at h
     replace h := Option.bind_eq_some_iff.mp h
     obtain ⟨s, hs, h⟩ := h
     have hts : tx.size + s.size ≤ 1000000000000 := by
      by_cases hts : tx.size + s.size ≤ 1000000000000
      ·exact hts
      ·rw [if_neg hts] at h; cases h
     rw [if_pos hts] at h
     replace h := Option.bind_eq_some_iff.mp h
     obtain ⟨pt, hp, h⟩ := h
     have hsl : sp.length < 100000000 := by
      by_cases hsl : sp.length < 100000000
      ·exact hsl
      ·rw [if_neg hsl] at h; cases h
     rw [if_pos hsl] at h
     have HS := Aside0.mk hs
     have HP := Aside0.mk hp
     have HN := Aside0.mk h
     have HTS := Aside0.mk hts
     have HSL := Aside0.mk hsl
     clear h hs hp hts hsl
     have hlt1 : ((i : Int) < (rs.length : Int)) = True := eq_true (by omega)
     have hi0 : (0 ≤ (i : Int)) = True := eq_true (by omega)
     have z4 := (blk_cell (blk_alloc HGT.out (.cells #[.string q0, .int .i64 q1, .int .i64 q2, .int .i64 q3, .string q4] 65)) 4).trans rfl
     go_wp2_with fail
     have HGT1 := Aside0.mk (blk_alloc HGT.out (.cells #[.string q0, .int .i64 q1, .int .i64 q2, .int .i64 q3, .string q4] 65))
     have HBP1 := Aside0.mk (blk_alloc HBP.out (.cells #[.string q0, .int .i64 q1, .int .i64 q2, .int .i64 q3, .string q4] 65))
     have HSP1 := Aside0.mk (Kd.R_alloc HSP.out (.cells #[.string q0, .int .i64 q1, .int .i64 q2, .int .i64 q3, .string q4] 65))
     have HV1 := Aside0.mk (Kd.R_alloc HV.out (.cells #[.string q0, .int .i64 q1, .int .i64 q2, .int .i64 q3, .string q4] 65))
     have HOL1 := Aside0.mk (Kd.R_alloc HOL.out (.cells #[.string q0, .int .i64 q1, .int .i64 q2, .int .i64 q3, .string q4] 65))
     have HW1 := Aside0.mk (below_alloc HW.out (.cells #[.string q0, .int .i64 q1, .int .i64 q2, .int .i64 q3, .string q4] 65))
     have HK1 := Aside0.mk (Kept.alloc HK.out (.cells #[.string q0, .int .i64 q1, .int .i64 q2, .int .i64 q3, .string q4] 65))
     obtain ⟨gr, hgr⟩ : ∃ gr, gr = wr.heap.size := ⟨_, rfl⟩
     have HBR1 := Aside0.mk (hgr ▸ heap_alloc_new wr (.cells #[.string q0, .int .i64 q1, .int .i64 q2, .int .i64 q3, .string q4] 65))
     rw [← hgr]
     have HGR : Aside0 (gt < gr ∧ gp < gr) := ⟨by rw [hgr]; exact ⟨blk_lt HGT.out, blk_lt HBP.out⟩⟩
     clear HGT HBP HSP HV HOL HW HK x0 x1 x2 x3 x4 z4 hgr
     generalize (wr.alloc (.cells #[.string q0, .int .i64 q1, .int .i64 q2, .int .i64 q3, .string q4] 65)) = W1 at HGT1 HBP1 HSP1 HV1 HOL1 HW1 HK1 HBR1 ⊢
     have hS : W1.cell? ⟨gt, 4, none⟩ = some (.string tx) ∧ W1.cell? ⟨gt, 0, none⟩ = some (.string key) ∧ W1.cell? ⟨gr, 0, none⟩ = some (.string q0) ∧ W1.cell? ⟨gr, 1, none⟩ = some (.int .i64 q1) ∧ W1.cell? ⟨gr, 2, none⟩ = some (.int .i64 q2) ∧ W1.cell? ⟨gr, 3, none⟩ = some (.int .i64 q3) ∧ W1.cell? ⟨gr, 4, none⟩ = some (.string q4) := ⟨(blk_cell HGT1.out 4).trans rfl, (blk_cell HGT1.out 0).trans rfl, (blk_cell HBR1.out 0).trans rfl, (blk_cell HBR1.out 1).trans rfl, (blk_cell HBR1.out 2).trans rfl, (blk_cell HBR1.out 3).trans rfl, (blk_cell HBR1.out 4).trans rfl⟩
     have hts2 : (9223372036854775807 < tx.size + s.size) = False := eq_false (by have := HTS.out; omega)
     refine wp_region_T (fun w' => w'.cell? ⟨gt, 4, none⟩ = some (.string tx) ∧ w'.cell? ⟨gt, 0, none⟩ = some (.string key) ∧ w'.cell? ⟨gr, 0, none⟩ = some (.string q0) ∧ w'.cell? ⟨gr, 1, none⟩ = some (.int .i64 q1) ∧ w'.cell? ⟨gr, 2, none⟩ = some (.int .i64 q2) ∧ w'.cell? ⟨gr, 3, none⟩ = some (.int .i64 q3) ∧ w'.cell? ⟨gr, 4, none⟩ = some (.string q4)) 14 (by kernel_rfl) ?_
     replace hS : W1.drew.cell? ⟨gt, 4, none⟩ = some (.string tx) ∧ W1.drew.cell? ⟨gt, 0, none⟩ = some (.string key) ∧ W1.drew.cell? ⟨gr, 0, none⟩ = some (.string q0) ∧ W1.drew.cell? ⟨gr, 1, none⟩ = some (.int .i64 q1) ∧ W1.drew.cell? ⟨gr, 2, none⟩ = some (.int .i64 q2) ∧ W1.drew.cell? ⟨gr, 3, none⟩ = some (.int .i64 q3) ∧ W1.drew.cell? ⟨gr, 4, none⟩ = some (.string q4) := hS
     (refine wpAnyT_take (v := ?v0) 0 rfl (by decide) (by kernel_rfl) (by kernel_rfl) (by kernel_rfl) (by kernel_rfl) (fun _ _ _ h => h) hS (by rfl) ?hy0 ?_; (case hy0 => ((intro w hSw; (try dsimp only at hSw); go_simp); (first | done | with_reducible rfl))); (try simp only [Act.put, List.setIfInBounds_toArray, List.set_cons_zero, List.set_cons_succ]))
     (refine wpAnyT_take (v := ?v1) 1 rfl (by decide) (by kernel_rfl) (by kernel_rfl) (by kernel_rfl) (by kernel_rfl) (fun _ _ _ h => h) hS (by rfl) ?hy1 ?_; (case hy1 => ((intro w hSw; (try dsimp only at hSw); go_simp); (first | done | with_reducible rfl))); (try simp only [Act.put, List.setIfInBounds_toArray, List.set_cons_zero, List.set_cons_succ]))
     (refine wpAnyT_take (v := ?v2) 2 rfl (by decide) (by kernel_rfl) (by kernel_rfl) (by kernel_rfl) (by kernel_rfl) (fun _ _ _ h => h) hS (by rfl) ?hy2 ?_; (case hy2 => ((intro w hSw; (try dsimp only at hSw); go_simp); (first | done | with_reducible rfl))); (try simp only [Act.put, List.setIfInBounds_toArray, List.set_cons_zero, List.set_cons_succ]))
     (refine wpAnyT_take (v := ?v3) 3 rfl (by decide) (by kernel_rfl) (by kernel_rfl) (by kernel_rfl) (by kernel_rfl) (fun _ _ _ h => h) hS (by rfl) ?hy3 ?_; (case hy3 => ((intro w hSw; (try dsimp only at hSw); go_simp); (first | done | with_reducible rfl))); (try simp only [Act.put, List.setIfInBounds_toArray, List.set_cons_zero, List.set_cons_succ]))
     (refine wpAnyT_take (v := ?v4) 4 rfl (by decide) (by kernel_rfl) (by kernel_rfl) (by kernel_rfl) (by kernel_rfl) (fun _ _ _ h => h) hS (by rfl) ?hy4 ?_; (case hy4 => ((intro w hSw; (try dsimp only at hSw); go_simp); (first | done | with_reducible rfl))); (try simp only [Act.put, List.setIfInBounds_toArray, List.set_cons_zero, List.set_cons_succ]))
     (refine wpAnyT_take (v := ?v5) 5 rfl (by decide) (by kernel_rfl) (by kernel_rfl) (by kernel_rfl) (by kernel_rfl) (fun _ _ _ h => h) hS (by rfl) ?hy5 ?_; (case hy5 => ((intro w hSw; (try dsimp only at hSw); go_simp); (first | done | with_reducible rfl))); (try simp only [Act.put, List.setIfInBounds_toArray, List.set_cons_zero, List.set_cons_succ]))
     (refine wpAnyT_take (v := ?v6) 6 rfl (by decide) (by kernel_rfl) (by kernel_rfl) (by kernel_rfl) (by kernel_rfl) (fun _ _ _ h => h) hS (by rfl) ?hy6 ?_; (case hy6 => ((intro w hSw; (try dsimp only at hSw); go_simp); (first | done | with_reducible rfl))); (try simp only [Act.put, List.setIfInBounds_toArray, List.set_cons_zero, List.set_cons_succ]))
     (refine wpAnyT_take (v := ?v7) 7 rfl (by decide) (by kernel_rfl) (by kernel_rfl) (by kernel_rfl) (by kernel_rfl) (fun _ _ _ h => h) hS (by rfl) ?hy7 ?_; (case hy7 => ((intro w hSw; (try dsimp only at hSw); go_simp); (first | done | with_reducible rfl))); (try simp only [Act.put, List.setIfInBounds_toArray, List.set_cons_zero, List.set_cons_succ]))
     (refine wpAnyT_take (v := ?v8) 8 rfl (by decide) (by kernel_rfl) (by kernel_rfl) (by kernel_rfl) (by kernel_rfl) (fun _ _ _ h => h) hS (by rfl) ?hy8 ?_; (case hy8 => ((intro w hSw; (try dsimp only at hSw); go_simp); (first | done | with_reducible rfl))); (try simp only [Act.put, List.setIfInBounds_toArray, List.set_cons_zero, List.set_cons_succ]))
     (refine wpAnyT_take (v := ?v9) 9 rfl (by decide) (by kernel_rfl) (by kernel_rfl) (by kernel_rfl) (by kernel_rfl) (fun _ _ _ h => h) hS (by rfl) ?hy9 ?_; (case hy9 => ((intro w hSw; (try dsimp only at hSw); go_simp); (first | done | with_reducible rfl))); (try simp only [Act.put, List.setIfInBounds_toArray, List.set_cons_zero, List.set_cons_succ]))
     refine wpAnyT_one 10 (by kernel_rfl) rfl (by rfl) (fun K hK => ?_)
     go_simp
     go_at_call 49
     refine (record_Encode.calls _ _ _ _ _ _ _ _ s _ HS.out).mono ?_
     rintro _ w5 ⟨rfl, hb5⟩
     have HGT5 := Aside0.mk (blk_below (blk_drew HGT1.out) hb5)
     have HBP5 := Aside0.mk (blk_below (blk_drew HBP1.out) hb5)
     have HBR5 := Aside0.mk (blk_below (blk_drew HBR1.out) hb5)
     have HSP5 := Aside0.mk (Kd.R_below (Kd.R_drew HSP1.out) hb5)
     have HV5 := Aside0.mk (Kd.R_below (Kd.R_drew HV1.out) hb5)
     have HOL5 := Aside0.mk (Kd.R_below (Kd.R_drew HOL1.out) hb5)
     have HW5 := Aside0.mk (below_then (below_drew HW1.out) (below_drew HW1.out).size hb5)
     have HK5 := Aside0.mk (Kept.below (Kept.drew HK1.out) hb5)
     have hS5 : w5.cell? ⟨gt, 4, none⟩ = some (.string tx) ∧ w5.cell? ⟨gt, 0, none⟩ = some (.string key) ∧ w5.cell? ⟨gr, 0, none⟩ = some (.string q0) ∧ w5.cell? ⟨gr, 1, none⟩ = some (.int .i64 q1) ∧ w5.cell? ⟨gr, 2, none⟩ = some (.int .i64 q2) ∧ w5.cell? ⟨gr, 3, none⟩ = some (.int .i64 q3) ∧ w5.cell? ⟨gr, 4, none⟩ = some (.string q4) := ⟨(blk_cell HGT5.out 4).trans rfl, (blk_cell HGT5.out 0).trans rfl, (blk_cell HBR5.out 0).trans rfl, (blk_cell HBR5.out 1).trans rfl, (blk_cell HBR5.out 2).trans rfl, (blk_cell HBR5.out 3).trans rfl, (blk_cell HBR5.out 4).trans rfl⟩
     have c5 := hS5.1
     have fS5 := blk_frozen HGT5.out 4
     clear hb5 hS
     refine hK.out _ _ (fun _ => hS5) ?_
     clear hK K
     (try simp only [Act.put, List.setIfInBounds_toArray, List.set_cons_zero, List.set_cons_succ])
     (refine wpAnyT_take (v := ?v11) 11 rfl (by decide) (by kernel_rfl) (by kernel_rfl) (by kernel_rfl) (by kernel_rfl) (fun _ _ _ h => h) hS5 (by rfl) ?hy11 ?_; (case hy11 => ((intro w hSw; (try dsimp only at hSw); go_simp); (first | done | with_reducible rfl))); (try simp only [Act.put, List.setIfInBounds_toArray, List.set_cons_zero, List.set_cons_succ]))
     refine wpAnyT_one 12 (by kernel_rfl) rfl (by rfl) (fun K hK => ?_)
     go_simp
     refine hK.out _ _ (fun _ => hS5) ?_
     clear hK K
     (try simp only [Act.put, List.setIfInBounds_toArray, List.set_cons_zero, List.set_cons_succ])
     (refine wpAnyT_take (v := ?v13) 13 rfl (by decide) (by kernel_rfl) (by kernel_rfl) (by kernel_rfl) (by kernel_rfl) (fun _ _ _ h => h) hS5 (by rfl) ?hy13 ?_; (case hy13 => ((intro w hSw; (try dsimp only at hSw); go_simp); (first | done | with_reducible rfl))); (try simp only [Act.put, List.setIfInBounds_toArray, List.set_cons_zero, List.set_cons_succ]))
     refine wpAnyT_one 14 (by kernel_rfl) rfl (by rfl) (fun K hK => ?_)
     go_simp
     refine hK.out _ _ (fun h => absurd rfl h) ?_
     clear hK K
     (try simp only [Act.put, List.setIfInBounds_toArray, List.set_cons_zero, List.set_cons_succ])
     refine wpAnyT_done (by kernel_rfl) ?_
     have HGT6 := Aside0.mk (blk_put HGT5.out 4 (.string (tx ++ s)) rfl)
     have HBP6 := Aside0.mk (blk_far (p := ⟨gt, 4, none⟩) HBP5.out (Nat.ne_of_gt HGP.out) (.string (tx ++ s)))
     have HBR6 := Aside0.mk (blk_far (p := ⟨gt, 4, none⟩) HBR5.out (Nat.ne_of_gt HGR.out.1) (.string (tx ++ s)))
     have HSP6 := Aside0.mk (Kd.R_set HSP5.out HGT5.out (by decide) 4 (.string (tx ++ s)))
     have HV6 := Aside0.mk (Kd.R_set HV5.out HGT5.out (by decide) 4 (.string (tx ++ s)))
     have HOL6 := Aside0.mk (Kd.R_set HOL5.out HGT5.out (by decide) 4 (.string (tx ++ s)))
     have HW6 := Aside0.mk (HW5.out.setCell (p := ⟨gt, 4, none⟩) HGB.out (.string (tx ++ s)))
     have HK6 := Aside0.mk (Kept.setCell HK5.out (p := ⟨gt, 4, none⟩) (Or.inl (Or.inl rfl)) (.string (tx ++ s)))
     generalize (w5.setCell ⟨gt, 4, none⟩ (.string (tx ++ s))) = W6 at HGT6 HBP6 HBR6 HSP6 HV6 HOL6 HW6 HK6 ⊢
     generalize tx ++ s = tx2 at HGT6 HN ⊢
     clear HGT1 HBP1 HSP1 HV1 HOL1 HW1 HK1 HBR1 HGT5 HBP5 HSP5 HV5 HOL5 HW5 HK5 HBR5 hS5 c5 fS5 hts2 HS
     go_wp2_with fail
     have hS : W6.drew.cell? ⟨gp, 0, none⟩ = some vs ∧ W6.drew.cell? ⟨gt, 4, none⟩ = some (.string tx2) ∧ W6.drew.cell? ⟨gt, 0, none⟩ = some (.string key) ∧ W6.drew.cell? ⟨gr, 0, none⟩ = some (.string q0) ∧ W6.drew.cell? ⟨gr, 1, none⟩ = some (.int .i64 q1) ∧ W6.drew.cell? ⟨gr, 2, none⟩ = some (.int .i64 q2) ∧ W6.drew.cell? ⟨gr, 3, none⟩ = some (.int .i64 q3) ∧ W6.drew.cell? ⟨gr, 4, none⟩ = some (.string q4) := ⟨(blk_cell HBP6.out 0).trans rfl, (blk_cell HGT6.out 4).trans rfl, (blk_cell HGT6.out 0).trans rfl, (blk_cell HBR6.out 0).trans rfl, (blk_cell HBR6.out 1).trans rfl, (blk_cell HBR6.out 2).trans rfl, (blk_cell HBR6.out 3).trans rfl, (blk_cell HBR6.out 4).trans rfl⟩
     refine wp_region_T (fun w' => w'.cell? ⟨gp, 0, none⟩ = some vs ∧ w'.cell? ⟨gt, 4, none⟩ = some (.string tx2) ∧ w'.cell? ⟨gt, 0, none⟩ = some (.string key) ∧ w'.cell? ⟨gr, 0, none⟩ = some (.string q0) ∧ w'.cell? ⟨gr, 1, none⟩ = some (.int .i64 q1) ∧ w'.cell? ⟨gr, 2, none⟩ = some (.int .i64 q2) ∧ w'.cell? ⟨gr, 3, none⟩ = some (.int .i64 q3) ∧ w'.cell? ⟨gr, 4, none⟩ = some (.string q4)) 21 (by kernel_rfl) ?_
     (refine wpAnyT_take (v := ?x0) 0 rfl (by decide) (by kernel_rfl) (by kernel_rfl) (by kernel_rfl) (by kernel_rfl) (fun _ _ _ h => h) hS (by rfl) ?hz0 ?_; (case hz0 => ((intro w hSw; (try dsimp only at hSw); go_simp); (first | done | with_reducible rfl))); (try simp only [Act.put, List.setIfInBounds_toArray, List.set_cons_zero, List.set_cons_succ]))
     (refine wpAnyT_take (v := ?x1) 1 rfl (by decide) (by kernel_rfl) (by kernel_rfl) (by kernel_rfl) (by kernel_rfl) (fun _ _ _ h => h) hS (by rfl) ?hz1 ?_; (case hz1 => ((intro w hSw; (try dsimp only at hSw); go_simp); (first | done | with_reducible rfl))); (try simp only [Act.put, List.setIfInBounds_toArray, List.set_cons_zero, List.set_cons_succ]))
     (refine wpAnyT_take (v := ?x2) 2 rfl (by decide) (by kernel_rfl) (by kernel_rfl) (by kernel_rfl) (by kernel_rfl) (fun _ _ _ h => h) hS (by rfl) ?hz2 ?_; (case hz2 => ((intro w hSw; (try dsimp only at hSw); go_simp); (first | done | with_reducible rfl))); (try simp only [Act.put, List.setIfInBounds_toArray, List.set_cons_zero, List.set_cons_succ]))
     (refine wpAnyT_take (v := ?x3) 3 rfl (by decide) (by kernel_rfl) (by kernel_rfl) (by kernel_rfl) (by kernel_rfl) (fun _ _ _ h => h) hS (by rfl) ?hz3 ?_; (case hz3 => ((intro w hSw; (try dsimp only at hSw); go_simp); (first | done | with_reducible rfl))); (try simp only [Act.put, List.setIfInBounds_toArray, List.set_cons_zero, List.set_cons_succ]))
     (refine wpAnyT_take (v := ?x4) 4 rfl (by decide) (by kernel_rfl) (by kernel_rfl) (by kernel_rfl) (by kernel_rfl) (fun _ _ _ h => h) hS (by rfl) ?hz4 ?_; (case hz4 => ((intro w hSw; (try dsimp only at hSw); go_simp); (first | done | with_reducible rfl))); (try simp only [Act.put, List.setIfInBounds_toArray, List.set_cons_zero, List.set_cons_succ]))
     (refine wpAnyT_take (v := ?x5) 5 rfl (by decide) (by kernel_rfl) (by kernel_rfl) (by kernel_rfl) (by kernel_rfl) (fun _ _ _ h => h) hS (by rfl) ?hz5 ?_; (case hz5 => ((intro w hSw; (try dsimp only at hSw); go_simp); (first | done | with_reducible rfl))); (try simp only [Act.put, List.setIfInBounds_toArray, List.set_cons_zero, List.set_cons_succ]))
     (refine wpAnyT_take (v := ?x6) 6 rfl (by decide) (by kernel_rfl) (by kernel_rfl) (by kernel_rfl) (by kernel_rfl) (fun _ _ _ h => h) hS (by rfl) ?hz6 ?_; (case hz6 => ((intro w hSw; (try dsimp only at hSw); go_simp); (first | done | with_reducible rfl))); (try simp only [Act.put, List.setIfInBounds_toArray, List.set_cons_zero, List.set_cons_succ]))
     (refine wpAnyT_take (v := ?x7) 7 rfl (by decide) (by kernel_rfl) (by kernel_rfl) (by kernel_rfl) (by kernel_rfl) (fun _ _ _ h => h) hS (by rfl) ?hz7 ?_; (case hz7 => ((intro w hSw; (try dsimp only at hSw); go_simp); (first | done | with_reducible rfl))); (try simp only [Act.put, List.setIfInBounds_toArray, List.set_cons_zero, List.set_cons_succ]))
     (refine wpAnyT_take (v := ?x8) 8 rfl (by decide) (by kernel_rfl) (by kernel_rfl) (by kernel_rfl) (by kernel_rfl) (fun _ _ _ h => h) hS (by rfl) ?hz8 ?_; (case hz8 => ((intro w hSw; (try dsimp only at hSw); go_simp); (first | done | with_reducible rfl))); (try simp only [Act.put, List.setIfInBounds_toArray, List.set_cons_zero, List.set_cons_succ]))
     (refine wpAnyT_take (v := ?x9) 9 rfl (by decide) (by kernel_rfl) (by kernel_rfl) (by kernel_rfl) (by kernel_rfl) (fun _ _ _ h => h) hS (by rfl) ?hz9 ?_; (case hz9 => ((intro w hSw; (try dsimp only at hSw); go_simp); (first | done | with_reducible rfl))); (try simp only [Act.put, List.setIfInBounds_toArray, List.set_cons_zero, List.set_cons_succ]))
     (refine wpAnyT_take (v := ?x10) 10 rfl (by decide) (by kernel_rfl) (by kernel_rfl) (by kernel_rfl) (by kernel_rfl) (fun _ _ _ h => h) hS (by rfl) ?hz10 ?_; (case hz10 => ((intro w hSw; (try dsimp only at hSw); go_simp); (first | done | with_reducible rfl))); (try simp only [Act.put, List.setIfInBounds_toArray, List.set_cons_zero, List.set_cons_succ]))
     (refine wpAnyT_take (v := ?x11) 11 rfl (by decide) (by kernel_rfl) (by kernel_rfl) (by kernel_rfl) (by kernel_rfl) (fun _ _ _ h => h) hS (by rfl) ?hz11 ?_; (case hz11 => ((intro w hSw; (try dsimp only at hSw); go_simp); (first | done | with_reducible rfl))); (try simp only [Act.put, List.setIfInBounds_toArray, List.set_cons_zero, List.set_cons_succ]))
     (refine wpAnyT_take (v := ?x12) 12 rfl (by decide) (by kernel_rfl) (by kernel_rfl) (by kernel_rfl) (by kernel_rfl) (fun _ _ _ h => h) hS (by rfl) ?hz12 ?_; (case hz12 => ((intro w hSw; (try dsimp only at hSw); go_simp); (first | done | with_reducible rfl))); (try simp only [Act.put, List.setIfInBounds_toArray, List.set_cons_zero, List.set_cons_succ]))
     (refine wpAnyT_take (v := ?x13) 13 rfl (by decide) (by kernel_rfl) (by kernel_rfl) (by kernel_rfl) (by kernel_rfl) (fun _ _ _ h => h) hS (by rfl) ?hz13 ?_; (case hz13 => ((intro w hSw; (try dsimp only at hSw); go_simp); (first | done | with_reducible rfl))); (try simp only [Act.put, List.setIfInBounds_toArray, List.set_cons_zero, List.set_cons_succ]))
     (refine wpAnyT_take (v := ?x14) 14 rfl (by decide) (by kernel_rfl) (by kernel_rfl) (by kernel_rfl) (by kernel_rfl) (fun _ _ _ h => h) hS (by rfl) ?hz14 ?_; (case hz14 => ((intro w hSw; (try dsimp only at hSw); go_simp); (first | done | with_reducible rfl))); (try simp only [Act.put, List.setIfInBounds_toArray, List.set_cons_zero, List.set_cons_succ]))
     refine wpAnyT_one 15 (by kernel_rfl) rfl (by rfl) (fun K hK => ?_)
     go_simp
     go_at_call 50
     refine (record_TTL.calls _ _ _ _ _ _ _ _ pt _ HP.out).mono ?_
     rintro _ w7 ⟨rfl, hb7⟩
     have HGT7 := Aside0.mk (blk_below (blk_drew HGT6.out) hb7)
     have HBP7 := Aside0.mk (blk_below (blk_drew HBP6.out) hb7)
     have HBR7 := Aside0.mk (blk_below (blk_drew HBR6.out) hb7)
     have HSP7 := Aside0.mk (Kd.R_below (Kd.R_drew HSP6.out) hb7)
     have HV7 := Aside0.mk (Kd.R_below (Kd.R_drew HV6.out) hb7)
     have HOL7 := Aside0.mk (Kd.R_below (Kd.R_drew HOL6.out) hb7)
     have HW7 := Aside0.mk (below_then (below_drew HW6.out) (below_drew HW6.out).size hb7)
     have HK7 := Aside0.mk (Kept.below (Kept.drew HK6.out) hb7)
     have hS7 : w7.cell? ⟨gp, 0, none⟩ = some vs ∧ w7.cell? ⟨gt, 4, none⟩ = some (.string tx2) ∧ w7.cell? ⟨gt, 0, none⟩ = some (.string key) ∧ w7.cell? ⟨gr, 0, none⟩ = some (.string q0) ∧ w7.cell? ⟨gr, 1, none⟩ = some (.int .i64 q1) ∧ w7.cell? ⟨gr, 2, none⟩ = some (.int .i64 q2) ∧ w7.cell? ⟨gr, 3, none⟩ = some (.int .i64 q3) ∧ w7.cell? ⟨gr, 4, none⟩ = some (.string q4) := ⟨(blk_cell HBP7.out 0).trans rfl, (blk_cell HGT7.out 4).trans rfl, (blk_cell HGT7.out 0).trans rfl, (blk_cell HBR7.out 0).trans rfl, (blk_cell HBR7.out 1).trans rfl, (blk_cell HBR7.out 2).trans rfl, (blk_cell HBR7.out 3).trans rfl, (blk_cell HBR7.out 4).trans rfl⟩
     clear hb7 hS
     refine hK.out _ _ (fun _ => hS7) ?_
     clear hK K
     (try simp only [i64_w, Act.put, List.setIfInBounds_toArray, List.set_cons_zero, List.set_cons_succ])
     (refine wpAnyT_take (v := ?x16) 16 rfl (by decide) (by kernel_rfl) (by kernel_rfl) (by kernel_rfl) (by kernel_rfl) (fun _ _ _ h => h) hS7 (by rfl) ?hz16 ?_; (case hz16 => ((intro w hSw; (try dsimp only at hSw); go_simp); (first | done | with_reducible rfl))); (try simp only [i64_w, Act.put, List.setIfInBounds_toArray, List.set_cons_zero, List.set_cons_succ]))
     (refine wpAnyT_take (v := ?x17) 17 rfl (by decide) (by kernel_rfl) (by kernel_rfl) (by kernel_rfl) (by kernel_rfl) (fun _ _ _ h => h) hS7 (by rfl) ?hz17 ?_; (case hz17 => ((intro w hSw; (try dsimp only at hSw); go_simp); (first | done | with_reducible rfl))); (try simp only [i64_w, Act.put, List.setIfInBounds_toArray, List.set_cons_zero, List.set_cons_succ]))
     refine wpAnyT_one 18 (by kernel_rfl) rfl (by rfl) (fun K hK => ?_)
     go_simp
     refine hK.out _ _ (fun _ => ⟨(blk_cell (blk_alloc HBP7.out _) 0).trans rfl, (blk_cell (blk_alloc HGT7.out _) 4).trans rfl, (blk_cell (blk_alloc HGT7.out _) 0).trans rfl, (blk_cell (blk_alloc HBR7.out _) 0).trans rfl, (blk_cell (blk_alloc HBR7.out _) 1).trans rfl, (blk_cell (blk_alloc HBR7.out _) 2).trans rfl, (blk_cell (blk_alloc HBR7.out _) 3).trans rfl, (blk_cell (blk_alloc HBR7.out _) 4).trans rfl⟩) ?_
     clear hK K
     (try simp only [i64_w, Act.put, List.setIfInBounds_toArray, List.set_cons_zero, List.set_cons_succ])
     refine wpAnyT_if (o := { dst := some 82, op := .call { callee := .builtin .append, args := #[.tmp 64, .tmp 81], argTypes := #[67, 67] }, type := 67, pos := "tmpl.go:62", after := #[{ on := 1, ground := .data }, { on := 18, ground := .data }, { on := 15, ground := .chain }], guard := none }) 19 (by kernel_rfl) rfl (fun K hK => ?_)
     refine Kd.R_append_step k71 (w0 := w0) w0.heap.size ?aW (.tmp 64) (.tmp 81) 67 71 (.agg #[(.int .i64 0), (.int .i64 0), (.int .i64 0)]) 24 rfl Try.underlying67 info71 rfl (by decide) (by omega) vs sp (⟨(tx.size : Int), (tx2.size : Int), wrap64 ((tx.size : Int) + pt)⟩ : S71) [.int .i64 (tx.size : Int), .int .i64 (tx2.size : Int), .int .i64 (wrap64 ((tx.size : Int) + pt))] (fun _ => True) (fun _ => False) rfl rfl ?aP (fun _ hk => hk.elim) ?aF ?aO ?aB ?aS ?aL ?_
     case aW => rfl
     case aP => exact k71_mkM _ _ _ _
     case aF => exact fun _ _ => trivial
     case aO => exact HSP7.out
     case aB => exact HW7.out
     case aS => exact HW7.out.size
     case aL => have := HSL.out; omega
     intro v1 w8 ho hb hg hat
     obtain ⟨A1, n1, c1, rfl⟩ : ∃ A n c, v1 = .slice A n c := by
      obtain ⟨A, c, h⟩ := Kd.R_slice ho
      exact ⟨A, _, c, h⟩
     have HGT8 := Aside0.mk (blk_over HGT7.out HSP7.out (by decide) hg)
     have HBP8 := Aside0.mk (blk_over HBP7.out HSP7.out (by decide) hg)
     have HBR8 := Aside0.mk (blk_over HBR7.out HSP7.out (by decide) hg)
     have HSP8 := Aside0.mk ho
     have HV8 := Aside0.mk (Kd.R_after HV7.out hg hat)
     have HOL8 := Aside0.mk (Kd.R_over HOL7.out HSP7.out (by decide) hg)
     have HW8 := Aside0.mk hb
     have HK8 := Aside0.mk (Kept.of_grown hg HK7.out (fun k hk => Or.inr (HVS.out k hk)))
     have HVS8 : Aside0 (∀ k, (Value.slice A1 n1 c1).ownBlock = some k → w.heap.size ≤ k) := ⟨fun k hk => by
      rcases hat with h | ⟨b, h, hb⟩
      ·exact HVS.out k (h ▸ hk)
      ·rw [h] at hk; injection hk with hk; have := HK7.out.1; omega⟩
     have hS8 : w8.cell? ⟨gp, 0, none⟩ = some vs ∧ w8.cell? ⟨gt, 4, none⟩ = some (.string tx2) ∧ w8.cell? ⟨gt, 0, none⟩ = some (.string key) ∧ w8.cell? ⟨gr, 0, none⟩ = some (.string q0) ∧ w8.cell? ⟨gr, 1, none⟩ = some (.int .i64 q1) ∧ w8.cell? ⟨gr, 2, none⟩ = some (.int .i64 q2) ∧ w8.cell? ⟨gr, 3, none⟩ = some (.int .i64 q3) ∧ w8.cell? ⟨gr, 4, none⟩ = some (.string q4) := ⟨(blk_cell HBP8.out 0).trans rfl, (blk_cell HGT8.out 4).trans rfl, (blk_cell HGT8.out 0).trans rfl, (blk_cell HBR8.out 0).trans rfl, (blk_cell HBR8.out 1).trans rfl, (blk_cell HBR8.out 2).trans rfl, (blk_cell HBR8.out 3).trans rfl, (blk_cell HBR8.out 4).trans rfl⟩
     clear ho hb hg hat hS7
     refine hK.out _ _ (fun _ => hS8) ?_
     clear hK K
     (try simp only [i64_w, Act.put, List.setIfInBounds_toArray, List.set_cons_zero, List.set_cons_succ])
     refine wpAnyT_one 20 (by kernel_rfl) rfl (by rfl) (fun K hK => ?_)
     go_simp
     refine hK.out _ _ (fun _ => hS8) ?_
     clear hK K
     (try simp only [i64_w, Act.put, List.setIfInBounds_toArray, List.set_cons_zero, List.set_cons_succ])
     have c8 := hS8.1
     have fS8 := blk_frozen HBP8.out 0
     refine wpAnyT_one 21 (by kernel_rfl) rfl (by rfl) (fun K hK => ?_)
     go_simp
     refine hK.out _ _ (fun h => absurd rfl h) ?_
     clear hK K
     (try simp only [i64_w, Act.put, List.setIfInBounds_toArray, List.set_cons_zero, List.set_cons_succ])
     refine wpAnyT_done (by kernel_rfl) ?_
     have HGT9 := Aside0.mk (blk_far (p := ⟨gp, 0, none⟩) HGT8.out (Nat.ne_of_lt HGP.out) (.slice A1 n1 c1))
     have HBP9 := Aside0.mk (blk_put HBP8.out 0 (.slice A1 n1 c1) rfl)
     have HSP9 := Aside0.mk (Kd.R_set HSP8.out HBP8.out (by decide) 0 (.slice A1 n1 c1))
     have HV9 := Aside0.mk (Kd.R_far HV8.out (p := ⟨gp, 0, none⟩) (fun _ hk => hk.1.2) (.slice A1 n1 c1))
     have HOL9 := Aside0.mk (Kd.R_set HOL8.out HBP8.out (by decide) 0 (.slice A1 n1 c1))
     have HW9 := Aside0.mk (HW8.out.setCell (p := ⟨gp, 0, none⟩) HWG.out (.slice A1 n1 c1))
     have HK9 := Aside0.mk (Kept.setCell HK8.out (p := ⟨gp, 0, none⟩) (Or.inr HKG.out) (.slice A1 n1 c1))
     generalize (w8.setCell ⟨gp, 0, none⟩ (.slice A1 n1 c1)) = W9 at HGT9 HBP9 HSP9 HV9 HOL9 HW9 HK9 ⊢
     clear HGT6 HBP6 HSP6 HV6 HOL6 HW6 HK6 HBR6 HGT7 HBP7 HSP7 HV7 HOL7 HW7 HK7 HBR7 HGT8 HBP8 HSP8 HV8 HOL8 HW8 HK8 HBR8 hS8 c8 fS8
     have hiw : wrap64 ((i : Int) + 1) = ((i + 1 : Nat) : Int) := by have := HRL.out; have := HI.out; unfold wrap64; omega
     go_wp2_with fail
     cases gk with
     | zero => exact absurd HI.out (by omega)
     | succ k1 =>
      go_roundg k1
      case measure => omega
      case rel => exact ⟨i + 1, tx2, _, .slice A1 n1 c1, congrArg (Value.int .i64) hiw, ⟨by have := HI.out; omega⟩, HN, HGT9, HBP9, HSP9, HV9, HVS8, HOL9, HW9, HK9⟩
    ·obtain rfl : i = rs.length := by have := HI.out; omega
     have hlt1 : ((rs.length : Int) < (rs.length : Int)) = False := eq_false (by omega)
     have h := H0.out
     rw [List.drop_length] at h
     unfold tmplLay.r0 at h
     injection h with h
     injection h with h1 h2
     subst h1 h2
     clear hlt H0
     go_wp2_with fail
     obtain ⟨As, ns, cs, rfl⟩ : ∃ A n c, vs = .slice A n c := by
      obtain ⟨A, c, h⟩ := Kd.R_slice HSP.out
      exact ⟨A, _, c, h⟩
     obtain ⟨Av, nv, cv, rfl⟩ : ∃ A n c, v = .slice A n c := by
      obtain ⟨A, c, h⟩ := Kd.R_slice HV.out
      exact ⟨A, _, c, h⟩
     have hS : wr.drew.cell? ⟨gt, 5, none⟩ = some (.slice Av nv cv) ∧ wr.drew.cell? ⟨gp, 0, none⟩ = some (.slice As ns cs) ∧ wr.drew.cell? ⟨gp, 1, none⟩ = some (.int .i64 (wrap64 (now + left))) ∧ wr.drew.cell? ⟨gp, 2, none⟩ = some (.bool soa) := ⟨(blk_cell HGT.out 5).trans rfl, (blk_cell HBP.out 0).trans rfl, (blk_cell HBP.out 1).trans rfl, (blk_cell HBP.out 2).trans rfl⟩
     refine wp_region_T (fun w' => w'.cell? ⟨gt, 5, none⟩ = some (.slice Av nv cv) ∧ w'.cell? ⟨gp, 0, none⟩ = some (.slice As ns cs) ∧ w'.cell? ⟨gp, 1, none⟩ = some (.int .i64 (wrap64 (now + left))) ∧ w'.cell? ⟨gp, 2, none⟩ = some (.bool soa)) 10 (by kernel_rfl) ?_
     (refine wpAnyT_take (v := ?y0) 0 rfl (by decide) (by kernel_rfl) (by kernel_rfl) (by kernel_rfl) (by kernel_rfl) (fun _ _ _ h => h) hS (by rfl) ?hm0 ?_; (case hm0 => ((intro w hSw; (try dsimp only at hSw); go_simp); (first | done | with_reducible rfl))); (try simp only [Act.put, List.setIfInBounds_toArray, List.set_cons_zero, List.set_cons_succ]))
     (refine wpAnyT_take (v := ?y1) 1 rfl (by decide) (by kernel_rfl) (by kernel_rfl) (by kernel_rfl) (by kernel_rfl) (fun _ _ _ h => h) hS (by rfl) ?hm1 ?_; (case hm1 => ((intro w hSw; (try dsimp only at hSw); go_simp); (first | done | with_reducible rfl))); (try simp only [Act.put, List.setIfInBounds_toArray, List.set_cons_zero, List.set_cons_succ]))
     (refine wpAnyT_take (v := ?y2) 2 rfl (by decide) (by kernel_rfl) (by kernel_rfl) (by kernel_rfl) (by kernel_rfl) (fun _ _ _ h => h) hS (by rfl) ?hm2 ?_; (case hm2 => ((intro w hSw; (try dsimp only at hSw); go_simp); (first | done | with_reducible rfl))); (try simp only [Act.put, List.setIfInBounds_toArray, List.set_cons_zero, List.set_cons_succ]))
     (refine wpAnyT_take (v := ?y3) 3 rfl (by decide) (by kernel_rfl) (by kernel_rfl) (by kernel_rfl) (by kernel_rfl) (fun _ _ _ h => h) hS (by rfl) ?hm3 ?_; (case hm3 => ((intro w hSw; (try dsimp only at hSw); go_simp); (first | done | with_reducible rfl))); (try simp only [Act.put, List.setIfInBounds_toArray, List.set_cons_zero, List.set_cons_succ]))
     (refine wpAnyT_take (v := ?y4) 4 rfl (by decide) (by kernel_rfl) (by kernel_rfl) (by kernel_rfl) (by kernel_rfl) (fun _ _ _ h => h) hS (by rfl) ?hm4 ?_; (case hm4 => ((intro w hSw; (try dsimp only at hSw); go_simp); (first | done | with_reducible rfl))); (try simp only [Act.put, List.setIfInBounds_toArray, List.set_cons_zero, List.set_cons_succ]))
     (refine wpAnyT_take (v := ?y5) 5 rfl (by decide) (by kernel_rfl) (by kernel_rfl) (by kernel_rfl) (by kernel_rfl) (fun _ _ _ h => h) hS (by rfl) ?hm5 ?_; (case hm5 => ((intro w hSw; (try dsimp only at hSw); go_simp); (first | done | with_reducible rfl))); (try simp only [Act.put, List.setIfInBounds_toArray, List.set_cons_zero, List.set_cons_succ]))
     refine wpAnyT_one 6 (by kernel_rfl) rfl (by rfl) (fun K hK => ?_)
     go_simp
     refine hK.out _ _ (fun _ => ⟨(blk_cell (blk_alloc (blk_drew HGT.out) _) 5).trans rfl, (blk_cell (blk_alloc (blk_drew HBP.out) _) 0).trans rfl, (blk_cell (blk_alloc (blk_drew HBP.out) _) 1).trans rfl, (blk_cell (blk_alloc (blk_drew HBP.out) _) 2).trans rfl⟩) ?_
     clear hK K
     (try simp only [i64_w, Act.put, List.setIfInBounds_toArray, List.set_cons_zero, List.set_cons_succ])
     refine wpAnyT_if (o := { dst := some 92, op := .call { callee := .builtin .append, args := #[.tmp 89, .tmp 91], argTypes := #[34, 34] }, type := 34, pos := "tmpl.go:64", after := #[{ on := 4, ground := .data }, { on := 6, ground := .data }], guard := none }) 7 (by kernel_rfl) rfl (fun K hK => ?_)
     refine Kd.R_append_step k69 (w0 := w0) (W := wr.drew) w0.heap.size ?bW (.tmp 89) (.tmp 91) 34 69 (.agg #[(.slice none 0 0), (.int .i64 0), (.bool false)]) 40 rfl Try.underlying34 info69 rfl (by decide) (by omega) (.slice Av nv cv) ps (⟨sp, wrap64 (now + left), soa⟩ : S69) [.slice As ns cs, .int .i64 (wrap64 (now + left)), .bool soa] (fun _ => True) (fun k => True ∧ some k ≠ (Value.slice Av nv cv).ownBlock) rfl rfl ?bP (fun _ hk => hk) ?bF ?bO ?bB ?bS ?bL ?_
     case bW => rfl
     case bP => exact k69_mkM _ _ _ _ (Kd.R_apart' (Kd.R_drew HSP.out) (Kd.R_typed (Kd.R_drew HV.out)) (by decide))
     case bF => exact fun _ _ => trivial
     case bO => exact Kd.R_mono (Kd.R_drew HV.out) (fun _ _ => trivial)
     case bB => exact below_drew HW.out
     case bS => exact (below_drew HW.out).size
     case bL => have := HPS.out; omega
     intro v1 w8 ho hb hg hat
     obtain ⟨A1, n1, c1, rfl⟩ : ∃ A n c, v1 = .slice A n c := by
      obtain ⟨A, c, h⟩ := Kd.R_slice ho
      exact ⟨A, _, c, h⟩
     have HGT8 := Aside0.mk (blk_over (blk_drew HGT.out) (Kd.R_drew HV.out) (by decide) hg)
     have HBP7 : Aside0 (w8.heap[gp]? = _) := ⟨blk_grown (blk_drew HBP.out) hg (Kd.R_away (Kd.R_drew HV.out) (fun _ hk => hk.1.2))⟩
     have HV8 := Aside0.mk ho
     have HW8 := Aside0.mk hb
     have HK8 := Aside0.mk (Kept.of_grown hg (Kept.drew HK.out) (fun k hk => Or.inl (Or.inr hk.symm)))
     have hS8 : w8.cell? ⟨gt, 5, none⟩ = some (.slice Av nv cv) ∧ w8.cell? ⟨gp, 0, none⟩ = some (.slice As ns cs) ∧ w8.cell? ⟨gp, 1, none⟩ = some (.int .i64 (wrap64 (now + left))) ∧ w8.cell? ⟨gp, 2, none⟩ = some (.bool soa) := ⟨(blk_cell HGT8.out 5).trans rfl, (blk_cell HBP7.out 0).trans rfl, (blk_cell HBP7.out 1).trans rfl, (blk_cell HBP7.out 2).trans rfl⟩
     clear ho hb hg hat hS
     refine hK.out _ _ (fun _ => hS8) ?_
     clear hK K
     (try simp only [i64_w, Act.put, List.setIfInBounds_toArray, List.set_cons_zero, List.set_cons_succ])
     refine wpAnyT_one 8 (by kernel_rfl) rfl (by rfl) (fun K hK => ?_)
     go_simp
     refine hK.out _ _ (fun _ => hS8) ?_
     clear hK K
     (try simp only [i64_w, Act.put, List.setIfInBounds_toArray, List.set_cons_zero, List.set_cons_succ])
     refine wpAnyT_one 9 (by kernel_rfl) rfl (by rfl) (fun K hK => ?_)
     go_simp
     refine hK.out _ _ (fun _ => hS8) ?_
     clear hK K
     (try simp only [i64_w, Act.put, List.setIfInBounds_toArray, List.set_cons_zero, List.set_cons_succ])
     have c8 := hS8.1
     have fS8 := blk_frozen HGT8.out 5
     refine wpAnyT_one 10 (by kernel_rfl) rfl (by rfl) (fun K hK => ?_)
     go_simp
     refine hK.out _ _ (fun h => absurd rfl h) ?_
     clear hK K
     (try simp only [i64_w, Act.put, List.setIfInBounds_toArray, List.set_cons_zero, List.set_cons_succ])
     refine wpAnyT_done (by kernel_rfl) ?_
     have HGT9 := Aside0.mk (blk_put HGT8.out 5 (.slice A1 n1 c1) rfl)
     have HV9 := Aside0.mk (Kd.R_set HV8.out HGT8.out (by decide) 5 (.slice A1 n1 c1))
     have HW9 := Aside0.mk (HW8.out.setCell (p := ⟨gt, 5, none⟩) HGB.out (.slice A1 n1 c1))
     have HK9 := Aside0.mk (Kept.setCell HK8.out (p := ⟨gt, 5, none⟩) (Or.inl (Or.inl rfl)) (.slice A1 n1 c1))
     go_wp2_with fail
     go_ret
     exact ⟨rfl, HW9.out, HK9.out, fun _ => ⟨_, HGT9.out, HV9.out⟩⟩
  ·rw [if_neg hps] at h
   cases h
end Go.Proofs.Ytedjodnaalconaa.P
end
section
namespace Go.Proofs.Ytedjodnaalconaa.P
open Go.RowKit Go.Proofs.YtedjodnaalconaaW.PrintWords Go.Proofs.YtedjodnaalconaaW.PrintLast Go.Proofs.YtedjodnaalconaaW.PrintMore
attribute [local go_sem] max2_int min2_int max_two min_two max_three min_three max_four min_four
set_option linter.unusedVariables false
set_option linter.unusedSimpArgs false
def tmpl_asked.f (k : Nat) (a0_0 : ByteArray) (a0_1 : Int) (a0_2 : Int) : Option (Bool) := (name_Check.f k a0_0).bind fun t1 => (if t1 = true then ((name_Low.f k a0_0).bind fun t2 => (if t2.toList = a0_0.toList then (if P.inR a0_1 65535 = true then some (P.inR a0_2 65535) else some false) else (some false))) else (some false))
theorem tmpl_asked.mono : ∀ a0 a1 a2 k, LeO (tmpl_asked.f k a0 a1 a2) (tmpl_asked.f (k + 1) a0 a1 a2) := by
 intro a0 a1 a2 k
 unfold tmpl_asked.f
 exact LeO.bind (name_Check.mono _ _) (fun _ => LeO.ite (LeO.bind (name_Low.mono _ _) (fun _ => LeO.refl _)) (LeO.refl _))
theorem tmpl_in.inR (n m : Int) : tmpl_in.f n m = some (P.inR n m) := by
 unfold tmpl_in.f P.inR
 by_cases c : n ≥ 0
 ·rw [if_pos c]; exact congrArg some (decide_eq_decide.mpr ⟨fun h => ⟨c, h⟩, fun h => h.2⟩)
 ·rw [if_neg c]; exact congrArg some (decide_eq_false fun h => c h.1).symm
set_option maxHeartbeats 4000000 in
set_option maxRecDepth 100000 in
theorem tmpl_asked.calls (k : Nat) (a0_0 : ByteArray) (a0_1 : Int) (a0_2 : Int) (r : Bool) (w : World) (h : tmpl_asked.f k a0_0 a0_1 a0_2 = some r) :
  Calls Try.prog 28 #[.agg #[.string a0_0, .int .i64 a0_1, .int .i64 a0_2]] w fun e w' => e = .returned (.bool r) ∧ Below w.heap.size w w' := by
 have hu := Try.underlying23
 unfold tmpl_asked.f at h
 replace h := Option.bind_eq_some_iff.mp h
 obtain ⟨c, hc, h⟩ := h
 have HK := Aside0.mk hc
 clear hc
 obtain ⟨lo, e, b1, b2, HL, he, h1, h2, hw⟩ : ∃ (lo : ByteArray) (e b1 b2 : Bool), Aside0 (c = true → name_Low.f k a0_0 = some lo) ∧ (lo.toList == a0_0.toList) = e ∧ P.inR a0_1 65535 = b1 ∧ P.inR a0_2 65535 = b2 ∧ ((c = false ∧ r = false) ∨ (c = true ∧ e = false ∧ r = false) ∨ (c = true ∧ e = true ∧ b1 = false ∧ r = false) ∨ (c = true ∧ e = true ∧ b1 = true ∧ r = b2)) := by
  cases c with
  | false => exact ⟨⟨#[]⟩, _, _, _, ⟨(fun h => by cases h)⟩, rfl, rfl, rfl, .inl ⟨rfl, by simpa using h.symm⟩⟩
  | true =>
   rw [if_pos rfl] at h
   replace h := Option.bind_eq_some_iff.mp h
   obtain ⟨lo, hl, h⟩ := h
   refine ⟨lo, _, _, _, ⟨fun _ => hl⟩, rfl, rfl, rfl, ?_⟩
   by_cases e : lo.toList = a0_0.toList
   ·rw [if_pos e] at h
    have e' : (lo.toList == a0_0.toList) = true := beq_iff_eq.mpr e
    cases hb : P.inR a0_1 65535 with
    | false => exact .inr (.inr (.inl ⟨rfl, e', rfl, by simpa [hb] using h.symm⟩))
    | true => exact .inr (.inr (.inr ⟨rfl, e', rfl, by simpa [hb] using h.symm⟩))
   ·rw [if_neg e] at h
    exact .inr (.inl ⟨rfl, beq_eq_false_iff_ne.mpr e, (Option.some.inj h).symm⟩)
 clear h
 rcases hw with ⟨rfl, rfl⟩ | ⟨rfl, rfl, rfl⟩ | ⟨rfl, rfl, rfl, rfl⟩ | ⟨rfl, rfl, rfl, rfl⟩
 all_goals
  first | (have HLO := Aside0.mk (HL.out rfl)) | (have HLO := trivial)
  go_enter Try.func28, Try.ntmps28
  go_wp2_with fail
  have hb := heap_alloc_new w (.cells #[.string a0_0, .int .i64 a0_1, .int .i64 a0_2] 23)
  have hW0 := below_alloc (Below.refl w.heap.size w) (.cells #[.string a0_0, .int .i64 a0_1, .int .i64 a0_2] 23)
  generalize (w.alloc (.cells #[.string a0_0, .int .i64 a0_1, .int .i64 a0_2] 23)) = w1 at hb hW0 ⊢
  have z0 := cell_regrown ((blk_cell hb 0).trans rfl)
  have z1 := cell_regrown ((blk_cell hb 1).trans rfl)
  have z2 := cell_regrown ((blk_cell hb 2).trans rfl)
  have HB := Aside0.mk hb
  clear hb
  refine wp_region_quiet_below (by kernel_rfl) (by kernel_rfl) ?_
  repeat (go_big_quiet_step (first
   | (go_at_call 46; exact Calls.regrown_of (name_Check.calls _ _ _ _ HK.out))
   | (go_at_call 47; exact Calls.regrown_of (name_Low.calls _ _ _ _ HLO.out))
   | (go_at_call 27; exact Calls.regrown_of ((tmpl_in.calls _ _ _ _ (tmpl_in.inR _ _)).mono fun _ _ ⟨he, hd⟩ => ⟨he, hd.below⟩))))
  refine wpQuiet_nil ?_
  intro w2 hw'
  have hB : Below w1.heap.size w1 w2 := by
   obtain ⟨p, rfl⟩ := hw'
   exact below_regrown _ _ _
  clear z0 z1 z2 hw'
  go_wp2
  go_ret
  exact ⟨rfl, below_then hW0 hW0.size hB⟩
def tmplLay.l0 (k : Nat) (key : ByteArray) (now : Int) : List S40 → ByteArray → List S69 → Option (Bool × ByteArray × List S69)
  | [], text, ps => some (true, text, ps)
  | h :: l, text, ps => (tmplLay.f k key now h.f0.f0.f0 h.f0.f0.f1 h.f0.f0.f2 h.f0.f1 h.f0.f2 h.f1 false text ps).bind fun b => if b.1 = true then tmplLay.l0 k key now l b.2.1 b.2.2 else some (false, text, ps)
def tmpl_Make.f (k : Nat) (a0 : Int) (a1_0 : ByteArray) (a1_1 : Int) (a1_2 : Int) (l2_0 : List (S40)) (a2_1 : Int) (a2_2 : ByteArray) (a2_3 : ByteArray) (a2_4 : Int) (a2_5 : Int) (l2_6 : List ByteArray) (a2_7 : Int) (a2_8 : Int) : Option (ByteArray × Int × Int × Int × ByteArray × (List (S69)) × Bool) :=
  if a2_1 = 0 ∨ a2_1 = 1 ∨ a2_1 = 2 then
    if a0 ≥ 0 ∧ a0 ≤ 1099511627776 then (tmpl_asked.f k a1_0 a1_1 a1_2).bind fun t => if t = true then
        (tmplLay.l0 k a1_0 a0 l2_0 ⟨#[]⟩ []).bind fun b => if b.1 = true then
          (if a2_1 = 0 then some (a1_0, a1_1, a1_2, 0, b.2.1, b.2.2, true) else (tmplLay.f k a1_0 a0 a2_3 a2_4 a2_5 l2_6 a2_7 a2_8 true b.2.1 b.2.2).bind fun d => if d.1 = true then some (a1_0, a1_1, a1_2, (if a2_1 = 2 then 3 else 0), d.2.1, d.2.2, true) else some (⟨#[]⟩, 0, 0, 0, ⟨#[]⟩, [], false))
        else some (⟨#[]⟩, 0, 0, 0, ⟨#[]⟩, [], false)
      else some (⟨#[]⟩, 0, 0, 0, ⟨#[]⟩, [], false)
    else some (⟨#[]⟩, 0, 0, 0, ⟨#[]⟩, [], false)
  else some (⟨#[]⟩, 0, 0, 0, ⟨#[]⟩, [], false)
theorem tmplLay.l0_mono (k : Nat) (key : ByteArray) (now : Int) : ∀ l x y, LeO (tmplLay.l0 k key now l x y) (tmplLay.l0 (k + 1) key now l x y)
  | [], _, _ => LeO.refl _
  | h :: l, x, y => by
    unfold tmplLay.l0
    exact LeO.bind (tmplLay.mono _ _ _ _ _ _ _ _ _ _ _ _) (fun _ => LeO.ite (tmplLay.l0_mono k key now l _ _) (LeO.refl _))
theorem tmpl_Make.mono : ∀ a0 a1 a2 a3 a4 a5 a6 a7 a8 a9 b0 b1 b2 k, LeO (tmpl_Make.f k a0 a1 a2 a3 a4 a5 a6 a7 a8 a9 b0 b1 b2) (tmpl_Make.f (k + 1) a0 a1 a2 a3 a4 a5 a6 a7 a8 a9 b0 b1 b2) := by
  intro a0 a1 a2 a3 a4 a5 a6 a7 a8 a9 b0 b1 b2 k
  unfold tmpl_Make.f
  exact LeO.ite (LeO.ite (LeO.bind (tmpl_asked.mono _ _ _ _) (fun _ => LeO.ite (LeO.bind (tmplLay.l0_mono _ _ _ _ _ _) (fun _ => LeO.ite (LeO.ite (LeO.refl _) (LeO.bind (tmplLay.mono _ _ _ _ _ _ _ _ _ _ _ _) (fun _ => LeO.refl _))) (LeO.refl _))) (LeO.refl _))) (LeO.refl _)) (LeO.refl _)
theorem lay_other {W : World} {g gt t base : Nat} {cs : Array Value} {ok : Nat → Prop} {v : Value} {ps : List S69} (hb : W.heap[g]? = some (.cells cs t (0, 0))) (hv : Kd.R k69 69 W base ok v ps) (hne : t ≠ 69) (hg : g ≠ gt) : ¬ (g = gt ∨ some g = v.ownBlock) := by
  rintro (h | h)
  · exact hg h
  · obtain ⟨cells, hc⟩ := Kd.R_typed hv g h.symm
    rw [hb] at hc
    injection hc with hc
    injection hc with _ hc
    exact hne hc
set_option maxHeartbeats 8000000 in
set_option maxRecDepth 100000 in
theorem tmpl_Make.calls (k : Nat) (a0 : Int) (a1_0 : ByteArray) (a1_1 : Int) (a1_2 : Int) (A2_0 : Option Addr) (c2_0 : Nat) (l2_0 : List (S40)) (a2_1 : Int) (a2_2 : ByteArray) (a2_3 : ByteArray) (a2_4 : Int) (a2_5 : Int) (A2_6 : Option Addr) (c2_6 : Nat) (l2_6 : List ByteArray) (a2_7 : Int) (a2_8 : Int) (r1 : ByteArray) (r2 r3 r4 : Int) (r5 : ByteArray) (r6 : List (S69)) (r7 : Bool) (w : World) (hr2_0 : Kd.C k40 w A2_0 l2_0.length l2_0) (hc2_0 : l2_0.length ≤ c2_0) (hr2_6 : Kd.C Kd.string w A2_6 l2_6.length l2_6) (hc2_6 : l2_6.length ≤ c2_6) (h : tmpl_Make.f k a0 a1_0 a1_1 a1_2 l2_0 a2_1 a2_2 a2_3 a2_4 a2_5 l2_6 a2_7 a2_8 = some (r1, r2, r3, r4, r5, r6, r7)) :
    Calls Try.prog 11 #[.int .i64 a0, .agg #[.string a1_0, .int .i64 a1_1, .int .i64 a1_2], .agg #[.slice A2_0 l2_0.length c2_0, .int .i64 a2_1, .string a2_2, .string a2_3, .int .i64 a2_4, .int .i64 a2_5, .slice A2_6 l2_6.length c2_6, .int .i64 a2_7, .int .i64 a2_8]] w fun e w' => ∃ v5_ : Value, e = .returned (.tuple #[.agg #[.string r1, .int .i64 r2, .int .i64 r3, .int .i64 r4, .string r5, v5_], .bool r7]) ∧ Kd.R k69 69 w' w.heap.size (fun _ => True) v5_ r6 ∧ Below w.heap.size w w' := by
  have hu1 := Try.underlying23
  have hu2 := Try.underlying42
  have hu3 := Try.underlying36
  have hu4 := Try.underlying40
  have hu5 := Try.underlying27
  have HR0 := Aside0.mk hr2_0
  have HC0 := Aside0.mk hc2_0
  have HR6 := Aside0.mk hr2_6
  have HC6 := Aside0.mk hc2_6
  have H := Aside0.mk h
  clear hr2_0 hc2_0 hr2_6 hc2_6 h
  go_enter Try.func11, Try.ntmps11
  go_upto_region 2 with (first | fail)
  have HQ : Aside0 (((((w.alloc (.cells #[.string a1_0, .int .i64 a1_1, .int .i64 a1_2] 23)).alloc (.cells #[.slice A2_0 l2_0.length c2_0, .int .i64 a2_1, .string a2_2, .string a2_3, .int .i64 a2_4, .int .i64 a2_5, .slice A2_6 l2_6.length c2_6, .int .i64 a2_7, .int .i64 a2_8] 42)).alloc (.cells #[.string ⟨#[]⟩, .int .i64 0, .int .i64 0, .int .i64 0, .string ⟨#[]⟩, .slice none 0 0] 36)).alloc (.cells #[.string a1_0, .int .i64 a1_1, .int .i64 a1_2, .int .i64 0, .string ⟨#[]⟩, .slice none 0 0] 36)).heap[w.heap.size]? = some (.cells #[.string a1_0, .int .i64 a1_1, .int .i64 a1_2] 23 (0, 0))) := ⟨blk_alloc (blk_alloc (blk_alloc (heap_alloc_new _ _) _) _) _⟩
  have HCC : Aside0 (((((w.alloc (.cells #[.string a1_0, .int .i64 a1_1, .int .i64 a1_2] 23)).alloc (.cells #[.slice A2_0 l2_0.length c2_0, .int .i64 a2_1, .string a2_2, .string a2_3, .int .i64 a2_4, .int .i64 a2_5, .slice A2_6 l2_6.length c2_6, .int .i64 a2_7, .int .i64 a2_8] 42)).alloc (.cells #[.string ⟨#[]⟩, .int .i64 0, .int .i64 0, .int .i64 0, .string ⟨#[]⟩, .slice none 0 0] 36)).alloc (.cells #[.string a1_0, .int .i64 a1_1, .int .i64 a1_2, .int .i64 0, .string ⟨#[]⟩, .slice none 0 0] 36)).heap[w.heap.size + 1]? = some (.cells #[.slice A2_0 l2_0.length c2_0, .int .i64 a2_1, .string a2_2, .string a2_3, .int .i64 a2_4, .int .i64 a2_5, .slice A2_6 l2_6.length c2_6, .int .i64 a2_7, .int .i64 a2_8] 42 (0, 0))) := ⟨blk_alloc (blk_alloc (by
    have := heap_alloc_new (w.alloc (.cells #[.string a1_0, .int .i64 a1_1, .int .i64 a1_2] 23)) (.cells #[.slice A2_0 l2_0.length c2_0, .int .i64 a2_1, .string a2_2, .string a2_3, .int .i64 a2_4, .int .i64 a2_5, .slice A2_6 l2_6.length c2_6, .int .i64 a2_7, .int .i64 a2_8] 42)
    simpa using this) _) _⟩
  have HRS : Aside0 (((((w.alloc (.cells #[.string a1_0, .int .i64 a1_1, .int .i64 a1_2] 23)).alloc (.cells #[.slice A2_0 l2_0.length c2_0, .int .i64 a2_1, .string a2_2, .string a2_3, .int .i64 a2_4, .int .i64 a2_5, .slice A2_6 l2_6.length c2_6, .int .i64 a2_7, .int .i64 a2_8] 42)).alloc (.cells #[.string ⟨#[]⟩, .int .i64 0, .int .i64 0, .int .i64 0, .string ⟨#[]⟩, .slice none 0 0] 36)).alloc (.cells #[.string a1_0, .int .i64 a1_1, .int .i64 a1_2, .int .i64 0, .string ⟨#[]⟩, .slice none 0 0] 36)).heap[w.heap.size + 1 + 1]? = some (.cells #[.string ⟨#[]⟩, .int .i64 0, .int .i64 0, .int .i64 0, .string ⟨#[]⟩, .slice none 0 0] 36 (0, 0))) := ⟨blk_alloc (by
    have := heap_alloc_new ((w.alloc (.cells #[.string a1_0, .int .i64 a1_1, .int .i64 a1_2] 23)).alloc (.cells #[.slice A2_0 l2_0.length c2_0, .int .i64 a2_1, .string a2_2, .string a2_3, .int .i64 a2_4, .int .i64 a2_5, .slice A2_6 l2_6.length c2_6, .int .i64 a2_7, .int .i64 a2_8] 42)) (.cells #[.string ⟨#[]⟩, .int .i64 0, .int .i64 0, .int .i64 0, .string ⟨#[]⟩, .slice none 0 0] 36)
    simpa using this) _⟩
  have HT : Aside0 (((((w.alloc (.cells #[.string a1_0, .int .i64 a1_1, .int .i64 a1_2] 23)).alloc (.cells #[.slice A2_0 l2_0.length c2_0, .int .i64 a2_1, .string a2_2, .string a2_3, .int .i64 a2_4, .int .i64 a2_5, .slice A2_6 l2_6.length c2_6, .int .i64 a2_7, .int .i64 a2_8] 42)).alloc (.cells #[.string ⟨#[]⟩, .int .i64 0, .int .i64 0, .int .i64 0, .string ⟨#[]⟩, .slice none 0 0] 36)).alloc (.cells #[.string a1_0, .int .i64 a1_1, .int .i64 a1_2, .int .i64 0, .string ⟨#[]⟩, .slice none 0 0] 36)).heap[w.heap.size + 1 + 1 + 1]? = some (.cells #[.string a1_0, .int .i64 a1_1, .int .i64 a1_2, .int .i64 0, .string ⟨#[]⟩, .slice none 0 0] 36 (0, 0))) := ⟨by
    have := heap_alloc_new (((w.alloc (.cells #[.string a1_0, .int .i64 a1_1, .int .i64 a1_2] 23)).alloc (.cells #[.slice A2_0 l2_0.length c2_0, .int .i64 a2_1, .string a2_2, .string a2_3, .int .i64 a2_4, .int .i64 a2_5, .slice A2_6 l2_6.length c2_6, .int .i64 a2_7, .int .i64 a2_8] 42)).alloc (.cells #[.string ⟨#[]⟩, .int .i64 0, .int .i64 0, .int .i64 0, .string ⟨#[]⟩, .slice none 0 0] 36)) (.cells #[.string a1_0, .int .i64 a1_1, .int .i64 a1_2, .int .i64 0, .string ⟨#[]⟩, .slice none 0 0] 36)
    simpa using this⟩
  have HW : Aside0 (Below w.heap.size w ((((w.alloc (.cells #[.string a1_0, .int .i64 a1_1, .int .i64 a1_2] 23)).alloc (.cells #[.slice A2_0 l2_0.length c2_0, .int .i64 a2_1, .string a2_2, .string a2_3, .int .i64 a2_4, .int .i64 a2_5, .slice A2_6 l2_6.length c2_6, .int .i64 a2_7, .int .i64 a2_8] 42)).alloc (.cells #[.string ⟨#[]⟩, .int .i64 0, .int .i64 0, .int .i64 0, .string ⟨#[]⟩, .slice none 0 0] 36)).alloc (.cells #[.string a1_0, .int .i64 a1_1, .int .i64 a1_2, .int .i64 0, .string ⟨#[]⟩, .slice none 0 0] 36))) := ⟨below_alloc (below_alloc (below_alloc (below_alloc (Below.refl _ _) _) _) _) _⟩
  generalize ((((w.alloc (.cells #[.string a1_0, .int .i64 a1_1, .int .i64 a1_2] 23)).alloc (.cells #[.slice A2_0 l2_0.length c2_0, .int .i64 a2_1, .string a2_2, .string a2_3, .int .i64 a2_4, .int .i64 a2_5, .slice A2_6 l2_6.length c2_6, .int .i64 a2_7, .int .i64 a2_8] 42)).alloc (.cells #[.string ⟨#[]⟩, .int .i64 0, .int .i64 0, .int .i64 0, .string ⟨#[]⟩, .slice none 0 0] 36)).alloc (.cells #[.string a1_0, .int .i64 a1_1, .int .i64 a1_2, .int .i64 0, .string ⟨#[]⟩, .slice none 0 0] 36)) = W1 at HQ HCC HRS HT HW ⊢
  have h := H.out
  unfold tmpl_Make.f at h
  by_cases hE : a2_1 = 0 ∨ a2_1 = 1 ∨ a2_1 = 2
  · rw [if_pos hE] at h
    have HN := Aside0.mk h
    clear H h
    have zc := (blk_cell HCC.out 1).trans rfl
    have zt := (blk_cell HT.out 3).trans rfl
    have ft := blk_frozen HT.out 3
    obtain ⟨cd, hcd⟩ : ∃ cd : Int, cd = (if a2_1 = 2 then 3 else 0) := ⟨_, rfl⟩
    have HCD := Aside0.mk hcd
    obtain ⟨e0, e1, e2, he0, he1, he2, he⟩ : ∃ e0 e1 e2, (a2_1 == 0) = e0 ∧ (a2_1 == 1) = e1 ∧ (a2_1 == 2) = e2 ∧ ((e0 = true ∧ e2 = false) ∨ (e0 = false ∧ e1 = true ∧ e2 = false) ∨ (e0 = false ∧ e1 = false ∧ e2 = true)) := by
      refine ⟨_, _, _, rfl, rfl, rfl, ?_⟩
      rcases hE with rfl | rfl | rfl <;> decide
    have hE2 : a2_1 = 2 ↔ e2 = true := by rw [← he2]; exact beq_iff_eq.symm
    have HE2 := Aside0.mk hE2
    have HEE := Aside0.mk hE
    clear hE hE2
    rcases he with ⟨rfl, rfl⟩ | ⟨rfl, rfl, rfl⟩ | ⟨rfl, rfl, rfl⟩
    all_goals
      go_upto_region 8 with (first | fail)
      first
        | (rw [if_neg (fun h => Bool.false_ne_true (HE2.out.1 h))] at hcd; rw [← hcd] at HT)
        | (rw [if_pos (HE2.out.2 rfl)] at hcd
           have HT2 := Aside0.mk (blk_put HT.out 3 (.int .i64 3) rfl)
           have HQ2 := Aside0.mk (blk_far (p := ⟨w.heap.size + 1 + 1 + 1, 3, none⟩) HQ.out (by show w.heap.size ≠ w.heap.size + 1 + 1 + 1; omega) (.int .i64 3))
           have HCC2 := Aside0.mk (blk_far (p := ⟨w.heap.size + 1 + 1 + 1, 3, none⟩) HCC.out (by show w.heap.size + 1 ≠ w.heap.size + 1 + 1 + 1; omega) (.int .i64 3))
           have HRS2 := Aside0.mk (blk_far (p := ⟨w.heap.size + 1 + 1 + 1, 3, none⟩) HRS.out (by show w.heap.size + 1 + 1 ≠ w.heap.size + 1 + 1 + 1; omega) (.int .i64 3))
           have HW2 := Aside0.mk (Below.setCell HW.out (p := ⟨w.heap.size + 1 + 1 + 1, 3, none⟩) (Nat.le_add_right w.heap.size 3) (.int .i64 3))
           clear HT HQ HCC HRS HW zc zt ft
           generalize (W1.setCell ⟨w.heap.size + 1 + 1 + 1, 3, none⟩ (.int .i64 3)) = W2 at HT2 HQ2 HCC2 HRS2 HW2 ⊢
           have HT := HT2
           have HQ := HQ2
           have HCC := HCC2
           have HRS := HRS2
           have HW := HW2
           clear HT2 HQ2 HCC2 HRS2 HW2
           rw [show (Array.setIfInBounds _ 3 (Value.int .i64 3) : Array Value) = #[.string a1_0, .int .i64 a1_1, .int .i64 a1_2, .int .i64 cd, .string ⟨#[]⟩, .slice none 0 0] from by rw [hcd]; rfl] at HT)
    all_goals
      have q0 := (blk_cell HQ.out 0).trans rfl
      have g0 := blk_frozen HQ.out 0
      have q1 := (blk_cell HQ.out 1).trans rfl
      have g1 := blk_frozen HQ.out 1
      have q2 := (blk_cell HQ.out 2).trans rfl
      have g2 := blk_frozen HQ.out 2
      have zr := fun j => blk_cell HRS.out j
      have fr := fun j => blk_frozen HRS.out j
      have hnow : (0 ≤ a0 ∧ a0 ≤ 1099511627776) = (P.inR a0 1099511627776 = true) := by unfold P.inR; simp only [decide_eq_true_eq]
      cases hin : P.inR a0 1099511627776 with
      | false =>
        have h := HN.out
        simp only [hnow, hin, Bool.false_eq_true, if_false, Option.some.injEq, Prod.mk.injEq] at h
        obtain ⟨rfl, rfl, rfl, rfl, rfl, rfl, rfl⟩ := h
        go_wp2_with fail
        go_at_call 27
        refine (tmpl_in.calls _ _ _ _ (tmpl_in.inR _ _)).mono ?_
        rintro _ w3 ⟨rfl, m3, rfl⟩
        go_wp2_with fail
        refine bodyPost_ret (results_ct rfl _ _ (w.heap.size + 1 + 1) 36 #[.string ⟨#[]⟩, .int .i64 0, .int .i64 0, .int .i64 0, .string ⟨#[]⟩, .slice none 0 0] (0, 0) _ rfl (blk_put (blk_put (blk_put (blk_put (blk_put (blk_put (blk_drewN HRS.out m3) 0 _ rfl) 1 _ rfl) 2 _ rfl) 3 _ rfl) 4 _ rfl) 5 _ rfl) hu3 rfl (by kernel_rfl)) rfl ⟨_, rfl, Kd.R_nil _ _ _ _ _, (Below.setCell (Below.setCell (Below.setCell (Below.setCell (Below.setCell (Below.setCell (pw_below_drewN HW.out m3) (p := ⟨w.heap.size + 1 + 1, 0, none⟩) (Nat.le_add_right w.heap.size 2) _) (p := ⟨w.heap.size + 1 + 1, 1, none⟩) (Nat.le_add_right w.heap.size 2) _) (p := ⟨w.heap.size + 1 + 1, 2, none⟩) (Nat.le_add_right w.heap.size 2) _) (p := ⟨w.heap.size + 1 + 1, 3, none⟩) (Nat.le_add_right w.heap.size 2) _) (p := ⟨w.heap.size + 1 + 1, 4, none⟩) (Nat.le_add_right w.heap.size 2) _) (p := ⟨w.heap.size + 1 + 1, 5, none⟩) (Nat.le_add_right w.heap.size 2) _)⟩
      | true =>
        have h := HN.out
        simp only [hnow, hin, if_true] at h
        replace h := Option.bind_eq_some_iff.mp h
        obtain ⟨ask, hask, h⟩ := h
        have HA := Aside0.mk hask
        clear hask HN
        cases ask with
        | false =>
          simp only [Bool.false_eq_true, if_false, Option.some.injEq, Prod.mk.injEq] at h
          obtain ⟨rfl, rfl, rfl, rfl, rfl, rfl, rfl⟩ := h
          go_wp2_with fail
          go_at_call 27
          refine (tmpl_in.calls _ _ _ _ (tmpl_in.inR _ _)).mono ?_
          rintro _ w3 ⟨rfl, m3, rfl⟩
          go_wp2_with fail
          go_at_call 28
          refine (tmpl_asked.calls _ _ _ _ _ _ HA.out).mono ?_
          rintro _ w4 ⟨rfl, hb4⟩
          have HRS4 := Aside0.mk (blk_below (blk_drewN HRS.out m3) hb4)
          have HW4 := Aside0.mk (below_then (pw_below_drewN HW.out m3) (pw_below_drewN HW.out m3).size hb4)
          have zr4 := fun j => blk_cell HRS4.out j
          have fr4 := fun j => blk_frozen HRS4.out j
          clear hb4
          go_wp2_with fail
          refine bodyPost_ret (results_ct rfl _ _ (w.heap.size + 1 + 1) 36 #[.string ⟨#[]⟩, .int .i64 0, .int .i64 0, .int .i64 0, .string ⟨#[]⟩, .slice none 0 0] (0, 0) _ rfl (blk_put (blk_put (blk_put (blk_put (blk_put (blk_put HRS4.out 0 _ rfl) 1 _ rfl) 2 _ rfl) 3 _ rfl) 4 _ rfl) 5 _ rfl) hu3 rfl (by kernel_rfl)) rfl ⟨_, rfl, Kd.R_nil _ _ _ _ _, (Below.setCell (Below.setCell (Below.setCell (Below.setCell (Below.setCell (Below.setCell HW4.out (p := ⟨w.heap.size + 1 + 1, 0, none⟩) (Nat.le_add_right w.heap.size 2) _) (p := ⟨w.heap.size + 1 + 1, 1, none⟩) (Nat.le_add_right w.heap.size 2) _) (p := ⟨w.heap.size + 1 + 1, 2, none⟩) (Nat.le_add_right w.heap.size 2) _) (p := ⟨w.heap.size + 1 + 1, 3, none⟩) (Nat.le_add_right w.heap.size 2) _) (p := ⟨w.heap.size + 1 + 1, 4, none⟩) (Nat.le_add_right w.heap.size 2) _) (p := ⟨w.heap.size + 1 + 1, 5, none⟩) (Nat.le_add_right w.heap.size 2) _)⟩
        | true =>
          rw [if_pos rfl] at h
          replace h := Option.bind_eq_some_iff.mp h
          obtain ⟨⟨ok, tx1, ps1⟩, hl0, h⟩ := h
          have H0 := Aside0.mk hl0
          have HE := Aside0.mk h
          clear hl0 h
          go_wp2_with fail
          go_at_call 27
          refine (tmpl_in.calls _ _ _ _ (tmpl_in.inR _ _)).mono ?_
          rintro _ w3 ⟨rfl, m3, rfl⟩
          go_wp2_with fail
          go_at_call 28
          refine (tmpl_asked.calls _ _ _ _ _ _ HA.out).mono ?_
          rintro _ w4 ⟨rfl, hb4⟩
          have HRS4 := Aside0.mk (blk_below (blk_drewN HRS.out m3) hb4)
          have HCC4 := Aside0.mk (blk_below (blk_drewN HCC.out m3) hb4)
          have HT4 := Aside0.mk (blk_below (blk_drewN HT.out m3) hb4)
          have HW4 := Aside0.mk (below_then (pw_below_drewN HW.out m3) (pw_below_drewN HW.out m3).size hb4)
          have zc4 := (blk_cell HCC4.out 0).trans rfl
          clear hb4
          go_wp2_with fail
          go_loopg [34] l2_0.length (fun kq v34 W => ∃ (i : Nat) (tx : ByteArray) (ps : List S69) (v : Value), v34 = .int .i64 i ∧ Aside0 (i + kq = l2_0.length) ∧ Aside0 (tmplLay.l0 k a1_0 a0 (l2_0.drop i) tx ps = some (ok, tx1, ps1)) ∧ Aside0 (W.heap[w.heap.size + 1 + 1 + 1]? = some (.cells #[.string a1_0, .int .i64 a1_1, .int .i64 a1_2, .int .i64 cd, .string tx, v] 36 (0, 0))) ∧ Aside0 (Kd.R k69 69 W w.heap.size (fun _ => True) v ps) ∧ Aside0 (W.heap[w.heap.size + 1]? = some (.cells #[.slice A2_0 l2_0.length c2_0, .int .i64 a2_1, .string a2_2, .string a2_3, .int .i64 a2_4, .int .i64 a2_5, .slice A2_6 l2_6.length c2_6, .int .i64 a2_7, .int .i64 a2_8] 42 (0, 0))) ∧ Aside0 (W.heap[w.heap.size + 1 + 1]? = some (.cells #[.string ⟨#[]⟩, .int .i64 0, .int .i64 0, .int .i64 0, .string ⟨#[]⟩, .slice none 0 0] 36 (0, 0))) ∧ Aside0 (Below w.heap.size w W))
          case atStart => exact ⟨0, ⟨#[]⟩, [], .slice none 0 0, rfl, ⟨Nat.zero_add _⟩, H0, HT4, ⟨Kd.R_nil _ _ _ _ _⟩, HCC4, HRS4, HW4⟩
          case round =>
            clear H0 HT4 HCC4 HRS4 HW4 zc4
            obtain ⟨i, tx, ps, v, rfl, HI, H0, HT, HV, HCC, HRS, HW⟩ := hrel
            by_cases hlt : i < l2_0.length
            · obtain ⟨ad, A3, c3, hA, x0, x1, x2, x3, x4, x5, x6, x7⟩ := at_T40 (Kd.C_below HR0.out HW.out) (i : Int) (by omega) (by omega)
              subst hA
              simp only [Int.toNat_natCast] at x0 x1 x2 x3 x4 x5
              have h := H0.out
              rw [List.drop_eq_getElem_cons hlt] at h
              have hrd : l2_0[i] = rd_T40 l2_0 (i : Int) := by
                unfold rd_T40
                rw [Int.toNat_natCast, List.getD_eq_getElem?_getD, List.getElem?_eq_getElem hlt]; rfl
              rw [hrd] at h
              clear hrd H0
              generalize rd_T40 l2_0 (i : Int) = rr at h x0 x1 x2 x3 x4 x5 x6 x7
              obtain ⟨⟨⟨n, t, c⟩, ds, ttl⟩, left⟩ := rr
              simp only at x0 x1 x2 x3 x4 x5 x6 x7
              unfold tmplLay.l0 at h
              simp only at h
              replace h := Option.bind_eq_some_iff.mp h
              obtain ⟨⟨b, tx2, ps2⟩, hb, h⟩ := h
              have HB := Aside0.mk hb
              have HN := Aside0.mk h
              have HX6 := Aside0.mk x6
              have HX7 := Aside0.mk (Kd.C_alloc x7 (.cells #[.string n, .int .i64 t, .int .i64 c, .slice A3 ds.length c3, .int .i64 ttl, .int .i64 left] 40))
              clear h hb x6 x7
              have hlt1 : ((i : Int) < (l2_0.length : Int)) = True := eq_true (by omega)
              have hi0 : (0 ≤ (i : Int)) = True := eq_true (by omega)
              have hlx : l2_0.length ≤ 9223372036854775807 := Kd.C_max HR0.out
              have hiw : wrap64 ((i : Int) + 1) = ((i + 1 : Nat) : Int) := by unfold wrap64; omega
              have HIW := Aside0.mk hiw
              clear hlx hiw
              go_wp2_with fail
              have HT1 := Aside0.mk (blk_alloc HT.out (.cells #[.string n, .int .i64 t, .int .i64 c, .slice A3 ds.length c3, .int .i64 ttl, .int .i64 left] 40))
              have HV1 := Aside0.mk (Kd.R_alloc HV.out (.cells #[.string n, .int .i64 t, .int .i64 c, .slice A3 ds.length c3, .int .i64 ttl, .int .i64 left] 40))
              have HCC1 := Aside0.mk (blk_alloc HCC.out (.cells #[.string n, .int .i64 t, .int .i64 c, .slice A3 ds.length c3, .int .i64 ttl, .int .i64 left] 40))
              have HRS1 := Aside0.mk (blk_alloc HRS.out (.cells #[.string n, .int .i64 t, .int .i64 c, .slice A3 ds.length c3, .int .i64 ttl, .int .i64 left] 40))
              have HW1 := Aside0.mk (below_alloc HW.out (.cells #[.string n, .int .i64 t, .int .i64 c, .slice A3 ds.length c3, .int .i64 ttl, .int .i64 left] 40))
              clear x0 x1 x2 x3 x4 x5 HT HV HCC HRS HW
              go_at_call 29
              refine (tmpl_lay.calls k (w.heap.size + 1 + 1 + 1) a1_0 a1_1 a1_2 cd tx v ps a0 n t c A3 c3 ds ttl left false b tx2 ps2 w _ HT1.out HV1.out HW1.out (by omega) HX7.out HX6.out HB.out).mono ?_
              rintro _ w5 ⟨rfl, hB5, hK5, hT5⟩
              have HCC5 := Aside0.mk (blk_kept HCC1.out hK5 (lay_other HCC1.out HV1.out (by decide) (by omega)))
              have HRS5 := Aside0.mk (blk_kept HRS1.out hK5 (lay_other HRS1.out HV1.out (by decide) (by omega)))
              have HW5 := Aside0.mk hB5
              have HT5 := Aside0.mk hT5
              clear hB5 hK5 hT5 HT1 HV1 HCC1 HRS1 HW1 HX6 HX7 HB
              have h := HN.out
              cases b with
              | false =>
                simp only [Bool.false_eq_true, if_false, Option.some.injEq, Prod.mk.injEq] at h
                obtain ⟨rfl, _, _⟩ := h
                have h := HE.out
                simp only [Bool.false_eq_true, if_false, Option.some.injEq, Prod.mk.injEq] at h
                obtain ⟨rfl, rfl, rfl, rfl, rfl, rfl, rfl⟩ := h
                have zr5 := fun j => blk_cell HRS5.out j
                have fr5 := fun j => blk_frozen HRS5.out j
                clear hlt1 hi0
                go_wp2_with fail
                refine bodyPost_ret (results_ct rfl _ _ (w.heap.size + 1 + 1) 36 #[.string ⟨#[]⟩, .int .i64 0, .int .i64 0, .int .i64 0, .string ⟨#[]⟩, .slice none 0 0] (0, 0) _ rfl (blk_put (blk_put (blk_put (blk_put (blk_put (blk_put HRS5.out 0 _ rfl) 1 _ rfl) 2 _ rfl) 3 _ rfl) 4 _ rfl) 5 _ rfl) hu3 rfl (by kernel_rfl)) rfl ⟨_, rfl, Kd.R_nil _ _ _ _ _, (Below.setCell (Below.setCell (Below.setCell (Below.setCell (Below.setCell (Below.setCell HW5.out (p := ⟨w.heap.size + 1 + 1, 0, none⟩) (Nat.le_add_right w.heap.size 2) _) (p := ⟨w.heap.size + 1 + 1, 1, none⟩) (Nat.le_add_right w.heap.size 2) _) (p := ⟨w.heap.size + 1 + 1, 2, none⟩) (Nat.le_add_right w.heap.size 2) _) (p := ⟨w.heap.size + 1 + 1, 3, none⟩) (Nat.le_add_right w.heap.size 2) _) (p := ⟨w.heap.size + 1 + 1, 4, none⟩) (Nat.le_add_right w.heap.size 2) _) (p := ⟨w.heap.size + 1 + 1, 5, none⟩) (Nat.le_add_right w.heap.size 2) _)⟩
              | true =>
                simp only [if_true] at h
                obtain ⟨v5, hT5, hV5⟩ := HT5.out rfl
                have HT5b := Aside0.mk hT5
                have HV5 := Aside0.mk hV5
                have H5 := Aside0.mk h
                clear HT5 hT5 hV5 h HN
                go_wp2_with fail
                obtain ⟨k1, rfl⟩ : ∃ k1, gk = k1 + 1 := ⟨gk - 1, by have := HI.out; omega⟩
                go_roundg k1
                case measure => omega
                case rel => exact ⟨i + 1, tx2, ps2, v5, congrArg (Value.int .i64) HIW.out, ⟨by have := HI.out; omega⟩, H5, HT5b, HV5, HCC5, HRS5, HW5⟩
            · have hil : i = l2_0.length := by have := HI.out; omega
              subst hil
              have h := H0.out
              rw [List.drop_length] at h
              unfold tmplLay.l0 at h
              simp only [Option.some.injEq, Prod.mk.injEq] at h
              obtain ⟨rfl, rfl, rfl⟩ := h
              clear H0
              have h := HE.out
              simp only [if_true] at h
              have zt := fun j => blk_cell HT.out j
              have zr := fun j => blk_cell HRS.out j
              have fr := fun j => blk_frozen HRS.out j
              have zc := fun j => blk_cell HCC.out j
              clear hlt HE
              by_cases hz : a2_1 = 0
              · try exact absurd he0 (by rw [hz]; decide)
                all_goals
                  rw [if_pos hz] at h
                  simp only [Option.some.injEq, Prod.mk.injEq] at h
                  obtain ⟨rfl, rfl, rfl, rfl, rfl, rfl, rfl⟩ := h
                  subst hcd
                  obtain ⟨Av, cv, rfl⟩ := Kd.R_slice HV.out
                  go_wp2_with fail
                  refine bodyPost_ret (results_ct rfl _ _ (w.heap.size + 1 + 1) 36 #[.string a1_0, .int .i64 a1_1, .int .i64 a1_2, .int .i64 0, .string tx, .slice Av ps.length cv] (0, 0) _ rfl (blk_put (blk_put (blk_put (blk_put (blk_put (blk_put HRS.out 0 _ rfl) 1 _ rfl) 2 _ rfl) 3 _ rfl) 4 _ rfl) 5 _ rfl) hu3 rfl (by kernel_rfl)) rfl ⟨_, rfl, (Kd.R_set (Kd.R_set (Kd.R_set (Kd.R_set (Kd.R_set (Kd.R_set HV.out HRS.out (by decide) 0 _) (blk_put HRS.out 0 _ rfl) (by decide) 1 _) (blk_put (blk_put HRS.out 0 _ rfl) 1 _ rfl) (by decide) 2 _) (blk_put (blk_put (blk_put HRS.out 0 _ rfl) 1 _ rfl) 2 _ rfl) (by decide) 3 _) (blk_put (blk_put (blk_put (blk_put HRS.out 0 _ rfl) 1 _ rfl) 2 _ rfl) 3 _ rfl) (by decide) 4 _) (blk_put (blk_put (blk_put (blk_put (blk_put HRS.out 0 _ rfl) 1 _ rfl) 2 _ rfl) 3 _ rfl) 4 _ rfl) (by decide) 5 _), (Below.setCell (Below.setCell (Below.setCell (Below.setCell (Below.setCell (Below.setCell HW.out (p := ⟨w.heap.size + 1 + 1, 0, none⟩) (Nat.le_add_right w.heap.size 2) _) (p := ⟨w.heap.size + 1 + 1, 1, none⟩) (Nat.le_add_right w.heap.size 2) _) (p := ⟨w.heap.size + 1 + 1, 2, none⟩) (Nat.le_add_right w.heap.size 2) _) (p := ⟨w.heap.size + 1 + 1, 3, none⟩) (Nat.le_add_right w.heap.size 2) _) (p := ⟨w.heap.size + 1 + 1, 4, none⟩) (Nat.le_add_right w.heap.size 2) _) (p := ⟨w.heap.size + 1 + 1, 5, none⟩) (Nat.le_add_right w.heap.size 2) _)⟩
              · try exact absurd (eq_of_beq he0) hz
                all_goals
                  rw [if_neg hz] at h
                  replace h := Option.bind_eq_some_iff.mp h
                  obtain ⟨⟨b, tx2, ps2⟩, hb, h⟩ := h
                  have HB := Aside0.mk hb
                  have HN := Aside0.mk h
                  clear hb h
                  have hz1 := eq_false hz
                  clear hz
                  go_wp2_with fail
                  clear zt zr fr zc hcd
                  go_at_call 29
                  refine (tmpl_lay.calls k (w.heap.size + 1 + 1 + 1) a1_0 a1_1 a1_2 cd tx v ps a0 a2_3 a2_4 a2_5 A2_6 c2_6 l2_6 a2_7 a2_8 true b tx2 ps2 w _ HT.out HV.out HW.out (by omega) (Kd.C_below HR6.out HW.out) HC6.out HB.out).mono ?_
                  rintro _ w5 ⟨rfl, hB5, hK5, hT5⟩
                  have HRS5 := Aside0.mk (blk_kept HRS.out hK5 (lay_other HRS.out HV.out (by decide) (by omega)))
                  have HW5 := Aside0.mk hB5
                  have HT5 := Aside0.mk hT5
                  clear hB5 hK5 hT5 HT HV HCC HRS HW HB
                  have h := HN.out
                  have zr5 := fun j => blk_cell HRS5.out j
                  have fr5 := fun j => blk_frozen HRS5.out j
                  cases b with
                  | false =>
                    simp only [Bool.false_eq_true, if_false, Option.some.injEq, Prod.mk.injEq] at h
                    obtain ⟨rfl, rfl, rfl, rfl, rfl, rfl, rfl⟩ := h
                    go_wp2_with fail
                    refine bodyPost_ret (results_ct rfl _ _ (w.heap.size + 1 + 1) 36 #[.string ⟨#[]⟩, .int .i64 0, .int .i64 0, .int .i64 0, .string ⟨#[]⟩, .slice none 0 0] (0, 0) _ rfl (blk_put (blk_put (blk_put (blk_put (blk_put (blk_put HRS5.out 0 _ rfl) 1 _ rfl) 2 _ rfl) 3 _ rfl) 4 _ rfl) 5 _ rfl) hu3 rfl (by kernel_rfl)) rfl ⟨_, rfl, Kd.R_nil _ _ _ _ _, (Below.setCell (Below.setCell (Below.setCell (Below.setCell (Below.setCell (Below.setCell HW5.out (p := ⟨w.heap.size + 1 + 1, 0, none⟩) (Nat.le_add_right w.heap.size 2) _) (p := ⟨w.heap.size + 1 + 1, 1, none⟩) (Nat.le_add_right w.heap.size 2) _) (p := ⟨w.heap.size + 1 + 1, 2, none⟩) (Nat.le_add_right w.heap.size 2) _) (p := ⟨w.heap.size + 1 + 1, 3, none⟩) (Nat.le_add_right w.heap.size 2) _) (p := ⟨w.heap.size + 1 + 1, 4, none⟩) (Nat.le_add_right w.heap.size 2) _) (p := ⟨w.heap.size + 1 + 1, 5, none⟩) (Nat.le_add_right w.heap.size 2) _)⟩
                  | true =>
                    simp only [if_true] at h
                    rw [← HCD.out] at h
                    simp only [Option.some.injEq, Prod.mk.injEq] at h
                    obtain ⟨rfl, rfl, rfl, rfl, rfl, rfl, rfl⟩ := h
                    obtain ⟨v5, hT5, hV5⟩ := HT5.out rfl
                    obtain ⟨Av, cv, rfl⟩ := Kd.R_slice hV5
                    have HV5 := Aside0.mk hV5
                    have zt5 := fun j => blk_cell hT5 j
                    clear HT5 hV5 hT5
                    go_wp2_with fail
                    refine bodyPost_ret (results_ct rfl _ _ (w.heap.size + 1 + 1) 36 #[.string a1_0, .int .i64 a1_1, .int .i64 a1_2, .int .i64 cd, .string tx2, .slice Av ps2.length cv] (0, 0) _ rfl (blk_put (blk_put (blk_put (blk_put (blk_put (blk_put HRS5.out 0 _ rfl) 1 _ rfl) 2 _ rfl) 3 _ rfl) 4 _ rfl) 5 _ rfl) hu3 rfl (by kernel_rfl)) rfl ⟨_, rfl, (Kd.R_set (Kd.R_set (Kd.R_set (Kd.R_set (Kd.R_set (Kd.R_set HV5.out HRS5.out (by decide) 0 _) (blk_put HRS5.out 0 _ rfl) (by decide) 1 _) (blk_put (blk_put HRS5.out 0 _ rfl) 1 _ rfl) (by decide) 2 _) (blk_put (blk_put (blk_put HRS5.out 0 _ rfl) 1 _ rfl) 2 _ rfl) (by decide) 3 _) (blk_put (blk_put (blk_put (blk_put HRS5.out 0 _ rfl) 1 _ rfl) 2 _ rfl) 3 _ rfl) (by decide) 4 _) (blk_put (blk_put (blk_put (blk_put (blk_put HRS5.out 0 _ rfl) 1 _ rfl) 2 _ rfl) 3 _ rfl) 4 _ rfl) (by decide) 5 _), (Below.setCell (Below.setCell (Below.setCell (Below.setCell (Below.setCell (Below.setCell HW5.out (p := ⟨w.heap.size + 1 + 1, 0, none⟩) (Nat.le_add_right w.heap.size 2) _) (p := ⟨w.heap.size + 1 + 1, 1, none⟩) (Nat.le_add_right w.heap.size 2) _) (p := ⟨w.heap.size + 1 + 1, 2, none⟩) (Nat.le_add_right w.heap.size 2) _) (p := ⟨w.heap.size + 1 + 1, 3, none⟩) (Nat.le_add_right w.heap.size 2) _) (p := ⟨w.heap.size + 1 + 1, 4, none⟩) (Nat.le_add_right w.heap.size 2) _) (p := ⟨w.heap.size + 1 + 1, 5, none⟩) (Nat.le_add_right w.heap.size 2) _)⟩
  · rw [if_neg hE] at h
    have e0 : (a2_1 == 0) = false := beq_eq_false_iff_ne.mpr fun h => hE (.inl h)
    have e1 : (a2_1 == 1) = false := beq_eq_false_iff_ne.mpr fun h => hE (.inr (.inl h))
    have e2 : (a2_1 == 2) = false := beq_eq_false_iff_ne.mpr fun h => hE (.inr (.inr h))
    simp only [Option.some.injEq, Prod.mk.injEq] at h
    obtain ⟨rfl, rfl, rfl, rfl, rfl, rfl, rfl⟩ := h
    have zc := (blk_cell HCC.out 1).trans rfl
    have zr := fun j => blk_cell HRS.out j
    have fr := fun j => blk_frozen HRS.out j
    clear hE H
    go_wp2_with fail
    refine bodyPost_ret (results_ct rfl _ _ (w.heap.size + 1 + 1) 36 #[.string ⟨#[]⟩, .int .i64 0, .int .i64 0, .int .i64 0, .string ⟨#[]⟩, .slice none 0 0] (0, 0) _ rfl (blk_put (blk_put (blk_put (blk_put (blk_put (blk_put HRS.out 0 _ rfl) 1 _ rfl) 2 _ rfl) 3 _ rfl) 4 _ rfl) 5 _ rfl) hu3 rfl (by kernel_rfl)) rfl ⟨_, rfl, Kd.R_nil _ _ _ _ _, (Below.setCell (Below.setCell (Below.setCell (Below.setCell (Below.setCell (Below.setCell HW.out (p := ⟨w.heap.size + 1 + 1, 0, none⟩) (Nat.le_add_right w.heap.size 2) _) (p := ⟨w.heap.size + 1 + 1, 1, none⟩) (Nat.le_add_right w.heap.size 2) _) (p := ⟨w.heap.size + 1 + 1, 2, none⟩) (Nat.le_add_right w.heap.size 2) _) (p := ⟨w.heap.size + 1 + 1, 3, none⟩) (Nat.le_add_right w.heap.size 2) _) (p := ⟨w.heap.size + 1 + 1, 4, none⟩) (Nat.le_add_right w.heap.size 2) _) (p := ⟨w.heap.size + 1 + 1, 5, none⟩) (Nat.le_add_right w.heap.size 2) _)⟩
def wellspringlaw17_Chain.l0 : Nat → Int → List (S29) → Int → ByteArray → ByteArray → Int → Int → List ByteArray → Int → Int → List (S40) → Int → ByteArray → ByteArray → Int → Int → List ByteArray → Int → Int → Option ((List (S40)) × Int × ByteArray × ByteArray × Int × Int × List ByteArray × Int × Int)
 | 0, _, _, _, _, _, _, _, _, _, _, _, _, _, _, _, _, _, _, _ => none
 | k + 1, x4, x174000, x174001, x174002, x174003, x174004, x174005, x174006, x174007, x174008, x176000, x176001, x176002, x176003, x176004, x176005, x176006, x176007, x176008 => if x4 < (x174000.length : Int) then (if 0 ≤ x4 then (if x176000.length < 1954687338268 then (wellspringlaw17_Chain.l0 k (wrap64 (x4 + 1)) x174000 x174001 x174002 x174003 x174004 x174005 x174006 x174007 x174008 (x176000 ++ [(⟨(⟨(⟨(rd_T29 x174000 x4).f0.f0.f0, (rd_T29 x174000 x4).f0.f0.f1, (rd_T29 x174000 x4).f0.f0.f2⟩ : S23), (rd_T29 x174000 x4).f0.f1, (rd_T29 x174000 x4).f0.f2⟩ : S27), (rd_T29 x174000 x4).f1⟩ : S40)]) x176001 x176002 x176003 x176004 x176005 x176006 x176007 x176008) else (none)) else (none)) else (some (x176000, x176001, x176002, x176003, x176004, x176005, x176006, x176007, x176008))
def wellspringlaw17_Chain.f (k : Nat) (l0_0 : List (S29)) (a0_1 : Int) (a0_2 : ByteArray) (a0_3 : ByteArray) (a0_4 : Int) (a0_5 : Int) (l0_6 : List ByteArray) (a0_7 : Int) (a0_8 : Int) : Option ((List (S40)) × Int × ByteArray × ByteArray × Int × Int × List ByteArray × Int × Int) := wellspringlaw17_Chain.l0 k 0 l0_0 a0_1 a0_2 a0_3 a0_4 a0_5 l0_6 a0_7 a0_8 ([] : List (S40)) a0_1 a0_2 a0_3 a0_4 a0_5 l0_6 a0_7 a0_8
theorem wellspringlaw17_Chain.mono_l : ∀ k, (∀ y0 y1 y2 y3 y4 y5 y6 y7 y8 y9 y10 y11 y12 y13 y14 y15 y16 y17 y18, LeO (wellspringlaw17_Chain.l0 k y0 y1 y2 y3 y4 y5 y6 y7 y8 y9 y10 y11 y12 y13 y14 y15 y16 y17 y18) (wellspringlaw17_Chain.l0 (k + 1) y0 y1 y2 y3 y4 y5 y6 y7 y8 y9 y10 y11 y12 y13 y14 y15 y16 y17 y18))
 | 0 => fun _ _ _ _ _ _ _ _ _ _ _ _ _ _ _ _ _ _ _ r h => by simp [wellspringlaw17_Chain.l0] at h
 | k + 1 => by
  have ih0 := wellspringlaw17_Chain.mono_l k
  ·intro y0 y1 y2 y3 y4 y5 y6 y7 y8 y9 y10 y11 y12 y13 y14 y15 y16 y17 y18
   unfold wellspringlaw17_Chain.l0
   repeat' first
   | (with_reducible exact ih0 _ _ _ _ _ _ _ _ _ _ _ _ _ _ _ _ _ _ _)
   | (with_reducible exact LeO.refl _)
   | (with_reducible exact LeO.none _)
   | (with_reducible refine LeO.ite ?_ ?_)
   | (with_reducible refine LeO.bind ?_ (fun _ => ?_))
theorem wellspringlaw17_Chain.mono : ∀ a0 a1 a2 a3 a4 a5 a6 a7 a8 k, LeO (wellspringlaw17_Chain.f k a0 a1 a2 a3 a4 a5 a6 a7 a8) (wellspringlaw17_Chain.f (k + 1) a0 a1 a2 a3 a4 a5 a6 a7 a8) := by
 intro a0 a1 a2 a3 a4 a5 a6 a7 a8 k
 have ih0 := wellspringlaw17_Chain.mono_l k
 unfold wellspringlaw17_Chain.f
 repeat' first
   | (with_reducible exact ih0 _ _ _ _ _ _ _ _ _ _ _ _ _ _ _ _ _ _ _)
   | (with_reducible exact LeO.refl _)
   | (with_reducible exact LeO.none _)
   | (with_reducible refine LeO.ite ?_ ?_)
   | (with_reducible refine LeO.bind ?_ (fun _ => ?_))
def wellspringlaw17_Chain.T5 : Bool × List (List Nat × List Nat) := (true, [([], []), ([0], [0]), ([], []), ([2], [2]), ([], []), ([3, 4], [3, 4]), ([5], [5]), ([6], [6]), ([1, 7], [1, 7]), ([0, 1, 2, 3, 4, 5, 6, 7, 8], []), ([9, 8, 8, 0, 1, 2, 3, 4, 5, 6, 7, 8], [8, 9])])
def wellspringlaw17_Chain.B5 : List Nat := [0, 1, 0, 4, 0, 28, 60, 124, 255, 511, 1023]
theorem wellspringlaw17_Chain.tab5 : rtab .any (opsOf Try.f12 5) = wellspringlaw17_Chain.T5 := by kernel_rfl
theorem wellspringlaw17_Chain.bits5 : waitsOk wellspringlaw17_Chain.T5.2 wellspringlaw17_Chain.B5 = true := by kernel_rfl
set_option maxHeartbeats 8000000 in
set_option maxRecDepth 100000 in
theorem wellspringlaw17_Chain.calls (k : Nat) (P0_0_ : Nat → Prop) (A0_0 : Option Addr) (c0_0 : Nat) (l0_0 : List (S29)) (a0_1 : Int) (a0_2 : ByteArray) (a0_3 : ByteArray) (a0_4 : Int) (a0_5 : Int) (P0_6_ : Nat → Prop) (A0_6 : Option Addr) (c0_6 : Nat) (l0_6 : List ByteArray) (a0_7 : Int) (a0_8 : Int) (r1 : List (S40)) (r2 : Int) (r3 : ByteArray) (r4 : ByteArray) (r5 : Int) (r6 : Int) (r7 : List ByteArray) (r8 : Int) (r9 : Int) (w : World) (hs0_0 : Kd.V k29 29 w w.heap.size (fun k_ => P0_0_ k_) (.slice A0_0 l0_0.length c0_0) l0_0) (hs0_6 : Kd.V Kd.string 9 w w.heap.size (fun k_ => P0_6_ k_) (.slice A0_6 l0_6.length c0_6) l0_6) (h : wellspringlaw17_Chain.f k l0_0 a0_1 a0_2 a0_3 a0_4 a0_5 l0_6 a0_7 a0_8 = some (r1, r2, r3, r4, r5, r6, r7, r8, r9)) :
  Calls Try.prog 12 #[.agg #[.slice A0_0 l0_0.length c0_0, .int .i64 a0_1, .string a0_2, .string a0_3, .int .i64 a0_4, .int .i64 a0_5, .slice A0_6 l0_6.length c0_6, .int .i64 a0_7, .int .i64 a0_8]] w fun e w' => ∃ v0_ v6_ : Value, e = .returned (.agg #[v0_, .int .i64 r2, .string r3, .string r4, .int .i64 r5, .int .i64 r6, v6_, .int .i64 r8, .int .i64 r9]) ∧ Kd.N k40 40 w' w.heap.size (fun k_ => ((P0_0_ k_ ∨ P0_6_ k_) ∨ w.heap.size ≤ k_)) v0_ r1 ∧ Kd.V Kd.string 9 w' w.heap.size (fun k_ => ((P0_0_ k_ ∨ P0_6_ k_) ∨ w.heap.size ≤ k_) ∧ some k_ ≠ (v0_ : Value).ownBlock) v6_ r7 ∧ Below w.heap.size w w' := by
 have hu31 := Try.underlying31
 have hu42 := Try.underlying42
 have hu29 := Try.underlying29
 have HO0_0 := Aside0.mk (show Kd.V k29 29 w w.heap.size (fun k_ => ((P0_0_ k_ ∨ P0_6_ k_) ∨ w.heap.size ≤ k_)) (.slice A0_0 l0_0.length c0_0) l0_0 from Kd.V_mono hs0_0 (fun k_ hk => .inl (.inl hk)))
 have HO0_6 := Aside0.mk (show Kd.V Kd.string 9 w w.heap.size (fun k_ => ((P0_0_ k_ ∨ P0_6_ k_) ∨ w.heap.size ≤ k_)) (.slice A0_6 l0_6.length c0_6) l0_6 from Kd.V_mono hs0_6 (fun k_ hk => .inl (.inr hk)))
 have HB := Aside0.mk (Below.refl w.heap.size w)
 have H : (wellspringlaw17_Chain.l0 k 0 l0_0 a0_1 a0_2 a0_3 a0_4 a0_5 l0_6 a0_7 a0_8 ([] : List (S40)) a0_1 a0_2 a0_3 a0_4 a0_5 l0_6 a0_7 a0_8) = some (r1, r2, r3, r4, r5, r6, r7, r8, r9) := h
 clear h
 have H' := Aside0.mk H
 clear H
 go_enter Try.func12, Try.ntmps12
 go_wp2_with (first | ((with_reducible refine gate_dst (N := 1) rfl ?_); refine box_event ?hg (N := 1) ?hd (cs := #[.slice A0_0 l0_0.length c0_0, .int .i64 a0_1, .string a0_2, .string a0_3, .int .i64 a0_4, .int .i64 a0_5, .slice A0_6 l0_6.length c0_6, .int .i64 a0_7, .int .i64 a0_8]) (t := 31) ?hr ?_; (case hd => rfl); (case hg => rfl); (case hr => first | (go_simp; done) | (go_simp; rfl)); intro gb173 hg w2 hbox hb; have n0_ := Aside0.mk (Kd.V_below (Kd.V_elderB (by (with_reducible repeat (first | apply Kd.V_alloc | apply Kd.V_drewN | apply Kd.V_drew)); exact HO0_0.out) gb173 (Nat.le_of_eq hg.symm)) hb); have n1_ := Aside0.mk (Kd.V_below (Kd.V_elderB (by (with_reducible repeat (first | apply Kd.V_alloc | apply Kd.V_drewN | apply Kd.V_drew)); exact HO0_6.out) gb173 (Nat.le_of_eq hg.symm)) hb); have n2_ := Aside0.mk (below_step (by repeat (first | (with_reducible first | exact HB.out | apply below_alloc | apply pw_below_drewN | apply below_drew1) | exact HB.out)) hb); have n3_ := Aside0.mk (hbox); have n4_ := Aside0.mk ((by rw [hg]; exact (below_size (by repeat (first | (with_reducible first | exact HB.out | apply below_alloc | apply pw_below_drewN | apply below_drew1) | exact HB.out))) : w.heap.size ≤ gb173)); have n5_ := Aside0.mk ((by rw [hg]; exact (below_size (by repeat (first | (with_reducible first | exact HB.out | apply below_alloc | apply pw_below_drewN | apply below_drew1) | exact HB.out))) : w.heap.size ≤ gb173)); clear HO0_0; clear HO0_6; clear HB; have HO0_0 := n0_; have HO0_6 := n1_; have HB := n2_; have BK173 := n3_; have GW173 := n4_; have GE173 := n5_; clear n0_ n1_ n2_ n3_ n4_ n5_; clear hb hbox hg) | ((with_reducible refine gate_dst (N := 2) rfl ?_); refine box_event ?hg (N := 2) ?hd (cs := #[.slice none 0 0, .int .i64 0, .string (⟨#[]⟩ : ByteArray), .string (⟨#[]⟩ : ByteArray), .int .i64 0, .int .i64 0, .slice none 0 0, .int .i64 0, .int .i64 0]) (t := 42) ?hr ?_; (case hd => rfl); (case hg => rfl); (case hr => first | (go_simp; done) | (go_simp; rfl)); intro gb174 hg w3 hbox hb; have n0_ := Aside0.mk (Kd.V_below (Kd.V_elderB (by (with_reducible repeat (first | apply Kd.V_alloc | apply Kd.V_drewN | apply Kd.V_drew)); exact HO0_0.out) gb174 (Nat.le_of_eq hg.symm)) hb); have n1_ := Aside0.mk (Kd.V_below (Kd.V_elderB (by (with_reducible repeat (first | apply Kd.V_alloc | apply Kd.V_drewN | apply Kd.V_drew)); exact HO0_6.out) gb174 (Nat.le_of_eq hg.symm)) hb); have n2_ := Aside0.mk (blk_below (g := gb173) (o := .cells #[.slice A0_0 l0_0.length c0_0, .int .i64 a0_1, .string a0_2, .string a0_3, .int .i64 a0_4, .int .i64 a0_5, .slice A0_6 l0_6.length c0_6, .int .i64 a0_7, .int .i64 a0_8] 31 (0, 0)) (by (with_reducible repeat (first | refine blk_drewN ?_ _ | refine blk_drew ?_ | refine blk_alloc ?_ _)); exact BK173.out) hb); have n3_ := Aside0.mk (below_step (by repeat (first | (with_reducible first | exact HB.out | apply below_alloc | apply pw_below_drewN | apply below_drew1 | refine below_set ?_ GE173.out) | exact HB.out)) hb); have n4_ := Aside0.mk (hbox); have n5_ := Aside0.mk ((by rw [hg]; exact (below_size (by repeat (first | (with_reducible first | exact HB.out | apply below_alloc | apply pw_below_drewN | apply below_drew1 | refine below_set ?_ GE173.out) | exact HB.out))) : w.heap.size ≤ gb174)); have n6_ := Aside0.mk ((by rw [hg]; exact (below_size (by repeat (first | (with_reducible first | exact HB.out | apply below_alloc | apply pw_below_drewN | apply below_drew1 | refine below_set ?_ GE173.out) | exact HB.out))) : w.heap.size ≤ gb174)); have n7_ := Aside0.mk ((by rw [hg]; exact Nat.ne_of_lt (blk_lt (g := gb173) (o := .cells #[.slice A0_0 l0_0.length c0_0, .int .i64 a0_1, .string a0_2, .string a0_3, .int .i64 a0_4, .int .i64 a0_5, .slice A0_6 l0_6.length c0_6, .int .i64 a0_7, .int .i64 a0_8] 31 (0, 0)) (by (with_reducible repeat (first | refine blk_drewN ?_ _ | refine blk_drew ?_ | refine blk_alloc ?_ _)); exact BK173.out)) : gb173 ≠ gb174)); have n8_ := Aside0.mk ((by rw [hg]; exact Nat.ne_of_gt (blk_lt (g := gb173) (o := .cells #[.slice A0_0 l0_0.length c0_0, .int .i64 a0_1, .string a0_2, .string a0_3, .int .i64 a0_4, .int .i64 a0_5, .slice A0_6 l0_6.length c0_6, .int .i64 a0_7, .int .i64 a0_8] 31 (0, 0)) (by (with_reducible repeat (first | refine blk_drewN ?_ _ | refine blk_drew ?_ | refine blk_alloc ?_ _)); exact BK173.out)) : gb174 ≠ gb173)); clear HO0_0; clear HO0_6; clear BK173; clear HB; have HO0_0 := n0_; have HO0_6 := n1_; have BK173 := n2_; have HB := n3_; have BK174 := n4_; have GW174 := n5_; have GE174 := n6_; have NB173_174 := n7_; have NB174_173 := n8_; clear n0_ n1_ n2_ n3_ n4_ n5_ n6_ n7_ n8_; clear hb hbox hg; have hnb4 := NB173_174.out; have hnc4 := NB174_173.out; have hcz5_0 : w3.cell? ⟨gb173, 0, none⟩ = some (.slice A0_0 l0_0.length c0_0) := (blk_cell BK173.out 0).trans rfl; have hcz5_1 : w3.cell? ⟨gb173, 1, none⟩ = some (.int .i64 a0_1) := (blk_cell BK173.out 1).trans rfl; have hcz5_2 : w3.cell? ⟨gb173, 2, none⟩ = some (.string a0_2) := (blk_cell BK173.out 2).trans rfl; have hcz5_3 : w3.cell? ⟨gb173, 3, none⟩ = some (.string a0_3) := (blk_cell BK173.out 3).trans rfl; have hcz5_4 : w3.cell? ⟨gb173, 4, none⟩ = some (.int .i64 a0_4) := (blk_cell BK173.out 4).trans rfl; have hcz5_5 : w3.cell? ⟨gb173, 5, none⟩ = some (.int .i64 a0_5) := (blk_cell BK173.out 5).trans rfl; have hcz5_6 : w3.cell? ⟨gb173, 6, none⟩ = some (.slice A0_6 l0_6.length c0_6) := (blk_cell BK173.out 6).trans rfl; have hcz5_7 : w3.cell? ⟨gb173, 7, none⟩ = some (.int .i64 a0_7) := (blk_cell BK173.out 7).trans rfl; have hcz5_8 : w3.cell? ⟨gb173, 8, none⟩ = some (.int .i64 a0_8) := (blk_cell BK173.out 8).trans rfl; have hfz5_0 := blk_frozen BK173.out 0; have hfz5_1 := blk_frozen BK173.out 1; have hfz5_2 := blk_frozen BK173.out 2; have hfz5_3 := blk_frozen BK173.out 3; have hfz5_4 := blk_frozen BK173.out 4; have hfz5_5 := blk_frozen BK173.out 5; have hfz5_6 := blk_frozen BK173.out 6; have hfz5_7 := blk_frozen BK173.out 7; have hfz5_8 := blk_frozen BK173.out 8) | ((with_reducible refine gate_dst (N := 3) rfl ?_); refine box_event ?hg (N := 3) ?hd (cs := #[.slice none 0 0, .int .i64 0, .string (⟨#[]⟩ : ByteArray), .string (⟨#[]⟩ : ByteArray), .int .i64 0, .int .i64 0, .slice none 0 0, .int .i64 0, .int .i64 0]) (t := 42) ?hr ?_; (case hd => rfl); (case hg => rfl); (case hr => first | (go_simp; done) | (go_simp; rfl)); intro gb175 hg w6 hbox hb; have n0_ := Aside0.mk (Kd.V_below (Kd.V_elderB (by (with_reducible repeat (first | apply Kd.V_alloc | apply Kd.V_drewN | apply Kd.V_drew)); exact HO0_0.out) gb175 (Nat.le_of_eq hg.symm)) hb); have n1_ := Aside0.mk (Kd.V_below (Kd.V_elderB (by (with_reducible repeat (first | apply Kd.V_alloc | apply Kd.V_drewN | apply Kd.V_drew)); exact HO0_6.out) gb175 (Nat.le_of_eq hg.symm)) hb); have n2_ := Aside0.mk (blk_below (g := gb173) (o := .cells #[.slice A0_0 l0_0.length c0_0, .int .i64 a0_1, .string a0_2, .string a0_3, .int .i64 a0_4, .int .i64 a0_5, .slice A0_6 l0_6.length c0_6, .int .i64 a0_7, .int .i64 a0_8] 31 (0, 0)) (by (with_reducible repeat (first | refine blk_drewN ?_ _ | refine blk_drew ?_ | refine blk_alloc ?_ _)); exact BK173.out) hb); have n3_ := Aside0.mk (blk_below (g := gb174) (o := .cells #[.slice none 0 0, .int .i64 0, .string (⟨#[]⟩ : ByteArray), .string (⟨#[]⟩ : ByteArray), .int .i64 0, .int .i64 0, .slice none 0 0, .int .i64 0, .int .i64 0] 42 (0, 0)) (by (with_reducible repeat (first | refine blk_drewN ?_ _ | refine blk_drew ?_ | refine blk_alloc ?_ _)); exact BK174.out) hb); have n4_ := Aside0.mk (below_step (by repeat (first | (with_reducible first | exact HB.out | apply below_alloc | apply pw_below_drewN | apply below_drew1 | refine below_set ?_ GE173.out | refine below_set ?_ GE174.out) | exact HB.out)) hb); have n5_ := Aside0.mk (hbox); have n6_ := Aside0.mk ((by rw [hg]; exact (below_size (by repeat (first | (with_reducible first | exact HB.out | apply below_alloc | apply pw_below_drewN | apply below_drew1 | refine below_set ?_ GE173.out | refine below_set ?_ GE174.out) | exact HB.out))) : w.heap.size ≤ gb175)); have n7_ := Aside0.mk ((by rw [hg]; exact (below_size (by repeat (first | (with_reducible first | exact HB.out | apply below_alloc | apply pw_below_drewN | apply below_drew1 | refine below_set ?_ GE173.out | refine below_set ?_ GE174.out) | exact HB.out))) : w.heap.size ≤ gb175)); have n8_ := Aside0.mk ((by rw [hg]; exact Nat.ne_of_lt (blk_lt (g := gb173) (o := .cells #[.slice A0_0 l0_0.length c0_0, .int .i64 a0_1, .string a0_2, .string a0_3, .int .i64 a0_4, .int .i64 a0_5, .slice A0_6 l0_6.length c0_6, .int .i64 a0_7, .int .i64 a0_8] 31 (0, 0)) (by (with_reducible repeat (first | refine blk_drewN ?_ _ | refine blk_drew ?_ | refine blk_alloc ?_ _)); exact BK173.out)) : gb173 ≠ gb175)); have n9_ := Aside0.mk ((by rw [hg]; exact Nat.ne_of_gt (blk_lt (g := gb173) (o := .cells #[.slice A0_0 l0_0.length c0_0, .int .i64 a0_1, .string a0_2, .string a0_3, .int .i64 a0_4, .int .i64 a0_5, .slice A0_6 l0_6.length c0_6, .int .i64 a0_7, .int .i64 a0_8] 31 (0, 0)) (by (with_reducible repeat (first | refine blk_drewN ?_ _ | refine blk_drew ?_ | refine blk_alloc ?_ _)); exact BK173.out)) : gb175 ≠ gb173)); have n10_ := Aside0.mk ((by rw [hg]; exact Nat.ne_of_lt (blk_lt (g := gb174) (o := .cells #[.slice none 0 0, .int .i64 0, .string (⟨#[]⟩ : ByteArray), .string (⟨#[]⟩ : ByteArray), .int .i64 0, .int .i64 0, .slice none 0 0, .int .i64 0, .int .i64 0] 42 (0, 0)) (by (with_reducible repeat (first | refine blk_drewN ?_ _ | refine blk_drew ?_ | refine blk_alloc ?_ _)); exact BK174.out)) : gb174 ≠ gb175)); have n11_ := Aside0.mk ((by rw [hg]; exact Nat.ne_of_gt (blk_lt (g := gb174) (o := .cells #[.slice none 0 0, .int .i64 0, .string (⟨#[]⟩ : ByteArray), .string (⟨#[]⟩ : ByteArray), .int .i64 0, .int .i64 0, .slice none 0 0, .int .i64 0, .int .i64 0] 42 (0, 0)) (by (with_reducible repeat (first | refine blk_drewN ?_ _ | refine blk_drew ?_ | refine blk_alloc ?_ _)); exact BK174.out)) : gb175 ≠ gb174)); clear HO0_0; clear HO0_6; clear BK173; clear BK174; clear HB; have HO0_0 := n0_; have HO0_6 := n1_; have BK173 := n2_; have BK174 := n3_; have HB := n4_; have BK175 := n5_; have GW175 := n6_; have GE175 := n7_; have NB173_175 := n8_; have NB175_173 := n9_; have NB174_175 := n10_; have NB175_174 := n11_; clear n0_ n1_ n2_ n3_ n4_ n5_ n6_ n7_ n8_ n9_ n10_ n11_; clear hb hbox hg; have hnb7 := NB175_173.out; have hnc7 := NB173_175.out; have hnb8 := NB175_174.out; have hnc8 := NB174_175.out; have hcz9_0 : w6.cell? ⟨gb175, 0, none⟩ = some (.slice none 0 0) := (blk_cell BK175.out 0).trans rfl; have hcz9_1 : w6.cell? ⟨gb175, 1, none⟩ = some (.int .i64 0) := (blk_cell BK175.out 1).trans rfl; have hcz9_2 : w6.cell? ⟨gb175, 2, none⟩ = some (.string (⟨#[]⟩ : ByteArray)) := (blk_cell BK175.out 2).trans rfl; have hcz9_3 : w6.cell? ⟨gb175, 3, none⟩ = some (.string (⟨#[]⟩ : ByteArray)) := (blk_cell BK175.out 3).trans rfl; have hcz9_4 : w6.cell? ⟨gb175, 4, none⟩ = some (.int .i64 0) := (blk_cell BK175.out 4).trans rfl; have hcz9_5 : w6.cell? ⟨gb175, 5, none⟩ = some (.int .i64 0) := (blk_cell BK175.out 5).trans rfl; have hcz9_6 : w6.cell? ⟨gb175, 6, none⟩ = some (.slice none 0 0) := (blk_cell BK175.out 6).trans rfl; have hcz9_7 : w6.cell? ⟨gb175, 7, none⟩ = some (.int .i64 0) := (blk_cell BK175.out 7).trans rfl; have hcz9_8 : w6.cell? ⟨gb175, 8, none⟩ = some (.int .i64 0) := (blk_cell BK175.out 8).trans rfl; have hfz9_0 := blk_frozen BK175.out 0; have hfz9_1 := blk_frozen BK175.out 1; have hfz9_2 := blk_frozen BK175.out 2; have hfz9_3 := blk_frozen BK175.out 3; have hfz9_4 := blk_frozen BK175.out 4; have hfz9_5 := blk_frozen BK175.out 5; have hfz9_6 := blk_frozen BK175.out 6; have hfz9_7 := blk_frozen BK175.out 7; have hfz9_8 := blk_frozen BK175.out 8))
 go_loopg [4] k (fun kq v4 w' => ∃ (x4_1 : Int) (x176000_1 : List (S40)) (u176000 : Value), v4 = .int .i64 x4_1 ∧ Aside0 (wellspringlaw17_Chain.l0 kq x4_1 l0_0 a0_1 a0_2 a0_3 a0_4 a0_5 l0_6 a0_7 a0_8 x176000_1 a0_1 a0_2 a0_3 a0_4 a0_5 l0_6 a0_7 a0_8 = some (r1, r2, r3, r4, r5, r6, r7, r8, r9)) ∧ Aside0 (kq ≤ k) ∧ Aside0 (Kd.V k29 29 w' w.heap.size (fun k_ => ((P0_0_ k_ ∨ P0_6_ k_) ∨ w.heap.size ≤ k_) ∧ some k_ ≠ (u176000 : Value).ownBlock ∧ k_ ≠ gb173 ∧ k_ ≠ gb174 ∧ k_ ≠ gb175) (.slice A0_0 l0_0.length c0_0) l0_0) ∧ Aside0 (Kd.V Kd.string 9 w' w.heap.size (fun k_ => ((P0_0_ k_ ∨ P0_6_ k_) ∨ w.heap.size ≤ k_) ∧ some k_ ≠ (u176000 : Value).ownBlock ∧ k_ ≠ gb173 ∧ k_ ≠ gb174 ∧ k_ ≠ gb175) (.slice A0_6 l0_6.length c0_6) l0_6) ∧ Aside0 (Kd.N k40 40 w' w.heap.size (fun k_ => ((P0_0_ k_ ∨ P0_6_ k_) ∨ w.heap.size ≤ k_) ∧ k_ ≠ gb173 ∧ k_ ≠ gb174 ∧ k_ ≠ gb175) u176000 x176000_1) ∧ Aside0 (Kd.V Kd.string 9 w' w.heap.size (fun k_ => ((P0_0_ k_ ∨ P0_6_ k_) ∨ w.heap.size ≤ k_) ∧ some k_ ≠ (u176000 : Value).ownBlock ∧ k_ ≠ gb173 ∧ k_ ≠ gb174 ∧ k_ ≠ gb175) (.slice A0_6 l0_6.length c0_6) l0_6) ∧ Aside0 (w'.heap[gb173]? = some (.cells #[(.slice A0_0 l0_0.length c0_0), .int .i64 a0_1, .string a0_2, .string a0_3, .int .i64 a0_4, .int .i64 a0_5, (.slice A0_6 l0_6.length c0_6), .int .i64 a0_7, .int .i64 a0_8] 31 (0, 0))) ∧ Aside0 (w'.heap[gb174]? = some (.cells #[(.slice none 0 0), .int .i64 0, .string (⟨#[]⟩ : ByteArray), .string (⟨#[]⟩ : ByteArray), .int .i64 0, .int .i64 0, (.slice none 0 0), .int .i64 0, .int .i64 0] 42 (0, 0))) ∧ Aside0 (w'.heap[gb175]? = some (.cells #[u176000, .int .i64 a0_1, .string a0_2, .string a0_3, .int .i64 a0_4, .int .i64 a0_5, (.slice A0_6 l0_6.length c0_6), .int .i64 a0_7, .int .i64 a0_8] 42 (0, 0))) ∧ Aside0 (Below w.heap.size w w'))
 case atStart => exact ⟨(0), (([] : List (S40))), (.slice none 0 0), (by first | rfl | (simp; done) | (simp [*]; done)), H', ⟨Nat.le_refl _⟩, ⟨by (with_reducible repeat (first | apply Kd.V_alloc | apply Kd.V_drewN | apply Kd.V_drew)); exact Kd.V_mono (Kd.V_far (p := ⟨gb175, 8, none⟩) (Kd.V_far (p := ⟨gb175, 7, none⟩) (Kd.V_far (p := ⟨gb175, 6, none⟩) (Kd.V_far (p := ⟨gb175, 5, none⟩) (Kd.V_far (p := ⟨gb175, 4, none⟩) (Kd.V_far (p := ⟨gb175, 3, none⟩) (Kd.V_far (p := ⟨gb175, 2, none⟩) (Kd.V_far (p := ⟨gb175, 1, none⟩) (Kd.V_far (p := ⟨gb175, 0, none⟩) (Kd.V_mono HO0_0.out (fun k_ hk => (⟨hk, hk.2⟩ : _ ∧ k_ ≠ gb175))) (fun _ hk => hk.2) (.slice none 0 0)) (fun _ hk => hk.2) (.int .i64 a0_1)) (fun _ hk => hk.2) (.string a0_2)) (fun _ hk => hk.2) (.string a0_3)) (fun _ hk => hk.2) (.int .i64 a0_4)) (fun _ hk => hk.2) (.int .i64 a0_5)) (fun _ hk => hk.2) (.slice A0_6 l0_6.length c0_6)) (fun _ hk => hk.2) (.int .i64 a0_7)) (fun _ hk => hk.2) (.int .i64 a0_8)) (fun _ hk => ⟨hk.1.1.1.1, ⟨(by simp [Value.ownBlock]), ⟨hk.1.1.1.2, ⟨hk.1.1.2, hk.1.2⟩⟩⟩⟩)⟩, ⟨by (with_reducible repeat (first | apply Kd.V_alloc | apply Kd.V_drewN | apply Kd.V_drew)); exact Kd.V_mono (Kd.V_far (p := ⟨gb175, 8, none⟩) (Kd.V_far (p := ⟨gb175, 7, none⟩) (Kd.V_far (p := ⟨gb175, 6, none⟩) (Kd.V_far (p := ⟨gb175, 5, none⟩) (Kd.V_far (p := ⟨gb175, 4, none⟩) (Kd.V_far (p := ⟨gb175, 3, none⟩) (Kd.V_far (p := ⟨gb175, 2, none⟩) (Kd.V_far (p := ⟨gb175, 1, none⟩) (Kd.V_far (p := ⟨gb175, 0, none⟩) (Kd.V_mono HO0_6.out (fun k_ hk => (⟨hk, hk.2⟩ : _ ∧ k_ ≠ gb175))) (fun _ hk => hk.2) (.slice none 0 0)) (fun _ hk => hk.2) (.int .i64 a0_1)) (fun _ hk => hk.2) (.string a0_2)) (fun _ hk => hk.2) (.string a0_3)) (fun _ hk => hk.2) (.int .i64 a0_4)) (fun _ hk => hk.2) (.int .i64 a0_5)) (fun _ hk => hk.2) (.slice A0_6 l0_6.length c0_6)) (fun _ hk => hk.2) (.int .i64 a0_7)) (fun _ hk => hk.2) (.int .i64 a0_8)) (fun _ hk => ⟨hk.1.1.1.1, ⟨(by simp [Value.ownBlock]), ⟨hk.1.1.1.2, ⟨hk.1.1.2, hk.1.2⟩⟩⟩⟩)⟩, ⟨by first | exact Kd.S_nil _ _ _ _ _ | exact Kd.N_nil _ _ _ _ _ | exact Kd.V_nil _ _ _ _ _ | exact Kd.Q_nil _ _ _ _ _ | exact Kd.R_nil _ _ _ _ _⟩, ⟨by (with_reducible repeat (first | apply Kd.V_alloc | apply Kd.V_drewN | apply Kd.V_drew)); exact Kd.V_mono (Kd.V_far (p := ⟨gb175, 8, none⟩) (Kd.V_far (p := ⟨gb175, 7, none⟩) (Kd.V_far (p := ⟨gb175, 6, none⟩) (Kd.V_far (p := ⟨gb175, 5, none⟩) (Kd.V_far (p := ⟨gb175, 4, none⟩) (Kd.V_far (p := ⟨gb175, 3, none⟩) (Kd.V_far (p := ⟨gb175, 2, none⟩) (Kd.V_far (p := ⟨gb175, 1, none⟩) (Kd.V_far (p := ⟨gb175, 0, none⟩) (Kd.V_mono HO0_6.out (fun k_ hk => (⟨hk, hk.2⟩ : _ ∧ k_ ≠ gb175))) (fun _ hk => hk.2) (.slice none 0 0)) (fun _ hk => hk.2) (.int .i64 a0_1)) (fun _ hk => hk.2) (.string a0_2)) (fun _ hk => hk.2) (.string a0_3)) (fun _ hk => hk.2) (.int .i64 a0_4)) (fun _ hk => hk.2) (.int .i64 a0_5)) (fun _ hk => hk.2) (.slice A0_6 l0_6.length c0_6)) (fun _ hk => hk.2) (.int .i64 a0_7)) (fun _ hk => hk.2) (.int .i64 a0_8)) (fun _ hk => ⟨hk.1.1.1.1, ⟨(by simp [Value.ownBlock]), ⟨hk.1.1.1.2, ⟨hk.1.1.2, hk.1.2⟩⟩⟩⟩)⟩, ⟨by (with_reducible repeat (first | refine blk_drewN ?_ _ | refine blk_drew ?_ | refine blk_alloc ?_ _)); refine blk_far ?_ NB173_175.out _; (with_reducible repeat (first | refine blk_drewN ?_ _ | refine blk_drew ?_ | refine blk_alloc ?_ _)); refine blk_far ?_ NB173_175.out _; (with_reducible repeat (first | refine blk_drewN ?_ _ | refine blk_drew ?_ | refine blk_alloc ?_ _)); refine blk_far ?_ NB173_175.out _; (with_reducible repeat (first | refine blk_drewN ?_ _ | refine blk_drew ?_ | refine blk_alloc ?_ _)); refine blk_far ?_ NB173_175.out _; (with_reducible repeat (first | refine blk_drewN ?_ _ | refine blk_drew ?_ | refine blk_alloc ?_ _)); refine blk_far ?_ NB173_175.out _; (with_reducible repeat (first | refine blk_drewN ?_ _ | refine blk_drew ?_ | refine blk_alloc ?_ _)); refine blk_far ?_ NB173_175.out _; (with_reducible repeat (first | refine blk_drewN ?_ _ | refine blk_drew ?_ | refine blk_alloc ?_ _)); refine blk_far ?_ NB173_175.out _; (with_reducible repeat (first | refine blk_drewN ?_ _ | refine blk_drew ?_ | refine blk_alloc ?_ _)); refine blk_far ?_ NB173_175.out _; (with_reducible repeat (first | refine blk_drewN ?_ _ | refine blk_drew ?_ | refine blk_alloc ?_ _)); refine blk_far ?_ NB173_175.out _; (with_reducible repeat (first | refine blk_drewN ?_ _ | refine blk_drew ?_ | refine blk_alloc ?_ _)); exact BK173.out⟩, ⟨by (with_reducible repeat (first | refine blk_drewN ?_ _ | refine blk_drew ?_ | refine blk_alloc ?_ _)); refine blk_far ?_ NB174_175.out _; (with_reducible repeat (first | refine blk_drewN ?_ _ | refine blk_drew ?_ | refine blk_alloc ?_ _)); refine blk_far ?_ NB174_175.out _; (with_reducible repeat (first | refine blk_drewN ?_ _ | refine blk_drew ?_ | refine blk_alloc ?_ _)); refine blk_far ?_ NB174_175.out _; (with_reducible repeat (first | refine blk_drewN ?_ _ | refine blk_drew ?_ | refine blk_alloc ?_ _)); refine blk_far ?_ NB174_175.out _; (with_reducible repeat (first | refine blk_drewN ?_ _ | refine blk_drew ?_ | refine blk_alloc ?_ _)); refine blk_far ?_ NB174_175.out _; (with_reducible repeat (first | refine blk_drewN ?_ _ | refine blk_drew ?_ | refine blk_alloc ?_ _)); refine blk_far ?_ NB174_175.out _; (with_reducible repeat (first | refine blk_drewN ?_ _ | refine blk_drew ?_ | refine blk_alloc ?_ _)); refine blk_far ?_ NB174_175.out _; (with_reducible repeat (first | refine blk_drewN ?_ _ | refine blk_drew ?_ | refine blk_alloc ?_ _)); refine blk_far ?_ NB174_175.out _; (with_reducible repeat (first | refine blk_drewN ?_ _ | refine blk_drew ?_ | refine blk_alloc ?_ _)); refine blk_far ?_ NB174_175.out _; (with_reducible repeat (first | refine blk_drewN ?_ _ | refine blk_drew ?_ | refine blk_alloc ?_ _)); exact BK174.out⟩, ⟨by (with_reducible repeat (first | refine blk_drewN ?_ _ | refine blk_drew ?_ | refine blk_alloc ?_ _)); refine blk_put (cs := #[.slice none 0 0, .int .i64 a0_1, .string a0_2, .string a0_3, .int .i64 a0_4, .int .i64 a0_5, .slice A0_6 l0_6.length c0_6, .int .i64 a0_7, .int .i64 0]) ?_ 8 _ rfl; (with_reducible repeat (first | refine blk_drewN ?_ _ | refine blk_drew ?_ | refine blk_alloc ?_ _)); refine blk_put (cs := #[.slice none 0 0, .int .i64 a0_1, .string a0_2, .string a0_3, .int .i64 a0_4, .int .i64 a0_5, .slice A0_6 l0_6.length c0_6, .int .i64 0, .int .i64 0]) ?_ 7 _ rfl; (with_reducible repeat (first | refine blk_drewN ?_ _ | refine blk_drew ?_ | refine blk_alloc ?_ _)); refine blk_put (cs := #[.slice none 0 0, .int .i64 a0_1, .string a0_2, .string a0_3, .int .i64 a0_4, .int .i64 a0_5, .slice none 0 0, .int .i64 0, .int .i64 0]) ?_ 6 _ rfl; (with_reducible repeat (first | refine blk_drewN ?_ _ | refine blk_drew ?_ | refine blk_alloc ?_ _)); refine blk_put (cs := #[.slice none 0 0, .int .i64 a0_1, .string a0_2, .string a0_3, .int .i64 a0_4, .int .i64 0, .slice none 0 0, .int .i64 0, .int .i64 0]) ?_ 5 _ rfl; (with_reducible repeat (first | refine blk_drewN ?_ _ | refine blk_drew ?_ | refine blk_alloc ?_ _)); refine blk_put (cs := #[.slice none 0 0, .int .i64 a0_1, .string a0_2, .string a0_3, .int .i64 0, .int .i64 0, .slice none 0 0, .int .i64 0, .int .i64 0]) ?_ 4 _ rfl; (with_reducible repeat (first | refine blk_drewN ?_ _ | refine blk_drew ?_ | refine blk_alloc ?_ _)); refine blk_put (cs := #[.slice none 0 0, .int .i64 a0_1, .string a0_2, .string (⟨#[]⟩ : ByteArray), .int .i64 0, .int .i64 0, .slice none 0 0, .int .i64 0, .int .i64 0]) ?_ 3 _ rfl; (with_reducible repeat (first | refine blk_drewN ?_ _ | refine blk_drew ?_ | refine blk_alloc ?_ _)); refine blk_put (cs := #[.slice none 0 0, .int .i64 a0_1, .string (⟨#[]⟩ : ByteArray), .string (⟨#[]⟩ : ByteArray), .int .i64 0, .int .i64 0, .slice none 0 0, .int .i64 0, .int .i64 0]) ?_ 2 _ rfl; (with_reducible repeat (first | refine blk_drewN ?_ _ | refine blk_drew ?_ | refine blk_alloc ?_ _)); refine blk_put (cs := #[.slice none 0 0, .int .i64 0, .string (⟨#[]⟩ : ByteArray), .string (⟨#[]⟩ : ByteArray), .int .i64 0, .int .i64 0, .slice none 0 0, .int .i64 0, .int .i64 0]) ?_ 1 _ rfl; (with_reducible repeat (first | refine blk_drewN ?_ _ | refine blk_drew ?_ | refine blk_alloc ?_ _)); refine blk_put (cs := #[.slice none 0 0, .int .i64 0, .string (⟨#[]⟩ : ByteArray), .string (⟨#[]⟩ : ByteArray), .int .i64 0, .int .i64 0, .slice none 0 0, .int .i64 0, .int .i64 0]) ?_ 0 _ rfl; (with_reducible repeat (first | refine blk_drewN ?_ _ | refine blk_drew ?_ | refine blk_alloc ?_ _)); exact BK175.out⟩, ⟨by repeat (first | (with_reducible first | exact HB.out | apply below_alloc | apply pw_below_drewN | apply below_drew1 | refine below_set ?_ GE173.out | refine below_set ?_ GE174.out | refine below_set ?_ GE175.out) | exact HB.out)⟩⟩
 case round =>
  clear H'
  try clear c1
  try clear p2
  try clear c4
  try clear c7
  try clear c8
  try clear hcz5_0
  try clear hcz5_1
  try clear hcz5_2
  try clear hcz5_3
  try clear hcz5_4
  try clear hcz5_5
  try clear hcz5_6
  try clear hcz5_7
  try clear hcz5_8
  try clear hcz9_0
  try clear hcz9_1
  try clear hcz9_2
  try clear hcz9_3
  try clear hcz9_4
  try clear hcz9_5
  try clear hcz9_6
  try clear hcz9_7
  try clear hcz9_8
  try clear hfz5_0
  try clear hfz5_1
  try clear hfz5_2
  try clear hfz5_3
  try clear hfz5_4
  try clear hfz5_5
  try clear hfz5_6
  try clear hfz5_7
  try clear hfz5_8
  try clear hfz9_0
  try clear hfz9_1
  try clear hfz9_2
  try clear hfz9_3
  try clear hfz9_4
  try clear hfz9_5
  try clear hfz9_6
  try clear hfz9_7
  try clear hfz9_8
  obtain ⟨x4_1, x176000_1, u176000, rfl, HA, HK1, HO_174000, HO_174006, HO_176000, HO_176006, BK173, BK174, BK175, HB⟩ := hrel
  cases gk with
  | zero => exact absurd HA.out (by simp [wellspringlaw17_Chain.l0])
  | succ k1 =>
   have H := HA.out
   clear HA
   simp only [wellspringlaw17_Chain.l0] at H
   by_cases c10 : x4_1 < (l0_0.length : Int)
   ·rw [if_pos c10] at H
    have c10b0 : decide (x4_1 < (l0_0.length : Int)) = true := decide_eq_true c10
    clear c10
    by_cases c11 : 0 ≤ x4_1
    ·rw [if_pos c11] at H
     have c11b0 : decide (0 ≤ x4_1) = true := decide_eq_true c11
     clear c11
     by_cases c12 : x176000_1.length < 1954687338268
     ·rw [if_pos c12] at H
      have LMc12 := Aside0.mk c12
      clear c12
      obtain ⟨y177, hy177⟩ : ∃ y_ : List (S40), y_ = (x176000_1 ++ [(⟨(⟨(⟨(rd_T29 l0_0 x4_1).f0.f0.f0, (rd_T29 l0_0 x4_1).f0.f0.f1, (rd_T29 l0_0 x4_1).f0.f0.f2⟩ : S23), (rd_T29 l0_0 x4_1).f0.f1, (rd_T29 l0_0 x4_1).f0.f2⟩ : S27), (rd_T29 l0_0 x4_1).f1⟩ : S40)]) := ⟨_, rfl⟩
      replace H : (wellspringlaw17_Chain.l0 k1 (wrap64 (x4_1 + 1)) l0_0 a0_1 a0_2 a0_3 a0_4 a0_5 l0_6 a0_7 a0_8 y177 a0_1 a0_2 a0_3 a0_4 a0_5 l0_6 a0_7 a0_8) = some (r1, r2, r3, r4, r5, r6, r7, r8, r9) := by first | (rw [hy177]; with_reducible exact H) | (have H2_ := (Option.bind_some _ _).symm.trans H; rw [hy177]; with_reducible exact H2_) | (have H2_ := (Option.bind_some _ _).symm.trans H; with_reducible exact H2_) | with_reducible exact H | (rw [hy177]; exact H) | exact H
      have Ny177 := Aside0.mk hy177
      clear hy177
      have H' := Aside0.mk H
      clear H
      have hnb13 := NB173_174.out
      have hnc13 := NB174_173.out
      have hnb14 := NB173_175.out
      have hnc14 := NB175_173.out
      have hcz15_0 : wr.cell? ⟨gb173, 0, none⟩ = some (.slice A0_0 l0_0.length c0_0) := (blk_cell BK173.out 0).trans rfl
      have hcz15_1 : wr.cell? ⟨gb173, 1, none⟩ = some (.int .i64 a0_1) := (blk_cell BK173.out 1).trans rfl
      have hcz15_2 : wr.cell? ⟨gb173, 2, none⟩ = some (.string a0_2) := (blk_cell BK173.out 2).trans rfl
      have hcz15_3 : wr.cell? ⟨gb173, 3, none⟩ = some (.string a0_3) := (blk_cell BK173.out 3).trans rfl
      have hcz15_4 : wr.cell? ⟨gb173, 4, none⟩ = some (.int .i64 a0_4) := (blk_cell BK173.out 4).trans rfl
      have hcz15_5 : wr.cell? ⟨gb173, 5, none⟩ = some (.int .i64 a0_5) := (blk_cell BK173.out 5).trans rfl
      have hcz15_6 : wr.cell? ⟨gb173, 6, none⟩ = some (.slice A0_6 l0_6.length c0_6) := (blk_cell BK173.out 6).trans rfl
      have hcz15_7 : wr.cell? ⟨gb173, 7, none⟩ = some (.int .i64 a0_7) := (blk_cell BK173.out 7).trans rfl
      have hcz15_8 : wr.cell? ⟨gb173, 8, none⟩ = some (.int .i64 a0_8) := (blk_cell BK173.out 8).trans rfl
      have hfz15_0 := blk_frozen BK173.out 0
      have hfz15_1 := blk_frozen BK173.out 1
      have hfz15_2 := blk_frozen BK173.out 2
      have hfz15_3 := blk_frozen BK173.out 3
      have hfz15_4 := blk_frozen BK173.out 4
      have hfz15_5 := blk_frozen BK173.out 5
      have hfz15_6 := blk_frozen BK173.out 6
      have hfz15_7 := blk_frozen BK173.out 7
      have hfz15_8 := blk_frozen BK173.out 8
      try go_wp2
      have n0_ := Aside0.mk (Kd.V_drew HO_174000.out)
      have n1_ := Aside0.mk (Kd.V_drew HO_174006.out)
      have n2_ := Aside0.mk (Kd.N_drew HO_176000.out)
      have n3_ := Aside0.mk (Kd.V_drew HO_176006.out)
      have n4_ := Aside0.mk (blk_drew BK173.out)
      have n5_ := Aside0.mk (blk_drew BK174.out)
      have n6_ := Aside0.mk (blk_drew BK175.out)
      have n7_ := Aside0.mk (below_drew1 HB.out)
      clear HO_174000
      clear HO_174006
      clear HO_176000
      clear HO_176006
      clear BK173
      clear BK174
      clear BK175
      clear HB
      have HO_174000 := n0_
      have HO_174006 := n1_
      have HO_176000 := n2_
      have HO_176006 := n3_
      have BK173 := n4_
      have BK174 := n5_
      have BK175 := n6_
      have HB := n7_
      clear n0_ n1_ n2_ n3_ n4_ n5_ n6_ n7_
      have p176 : 0 ≤ (x4_1 : Int) := of_decide_eq_true (by first | (with_reducible assumption) | assumption)
      have q176 : x4_1 < (l0_0.length : Int) := of_decide_eq_true (by first | (with_reducible assumption) | assumption)
      obtain ⟨ad176, A176_3, c176_3, e176, hx176_0, hx176_1, hx176_2, hx176_3, hx176_4, hx176_5, hl176_3, hi176_3⟩ := at_T29 (Kd.V_reads' HO_174000.out).2.2 x4_1 p176 q176
      cases e176
      obtain ⟨ce176, hce176, hMe176, hcc176⟩ := Kd.V_get HO_174000.out z29 x4_1 p176 (by first | exact q176 | exact of_decide_eq_true (by first | (with_reducible assumption) | assumption) | (have e_ := (Kd.V_reads' HO_174000.out).1; omega))
      obtain ⟨ua176_3, uc176_3, rfl, ul176_3, ge176_3⟩ := k29_openF hMe176
      have hv176_3 := hcc176 3 _ rfl
      rw [add_field _ _ 3 (by omega)] at hv176_3
      replace hv176_3 := Option.some.inj (hv176_3.symm.trans hx176_3)
      injection hv176_3 with hva_ hvn_ hvc_
      rw [hva_] at ge176_3
      rw [hvc_] at ul176_3
      have HL176_3 := Aside0.mk (show Kd.V Kd.string 9 _ w.heap.size _ _ ((rd_T29 l0_0 x4_1).f0.f1) from Kd.V_mk ul176_3 ge176_3)
      clear hva_ hvn_ hvc_ ge176_3 ul176_3
      clear hcc176 hce176
      have HR176_3 := Aside0.mk hi176_3
      have HC176_3 := Aside0.mk hl176_3
      clear hi176_3 hl176_3
      replace p176 := eq_true p176
      replace q176 := eq_true q176
      refine start_ (n := 11) (S := fun w' => w'.cell? ⟨gb175, 0, none⟩ = some (u176000) ∧ w'.cell? ⟨gb175, 1, none⟩ = some (.int .i64 a0_1) ∧ w'.cell? ⟨gb175, 2, none⟩ = some (.string a0_2) ∧ w'.cell? ⟨gb175, 3, none⟩ = some (.string a0_3) ∧ w'.cell? ⟨gb175, 4, none⟩ = some (.int .i64 a0_4) ∧ w'.cell? ⟨gb175, 5, none⟩ = some (.int .i64 a0_5) ∧ w'.cell? ⟨gb175, 6, none⟩ = some (.slice A0_6 l0_6.length c0_6) ∧ w'.cell? ⟨gb175, 7, none⟩ = some (.int .i64 a0_7) ∧ w'.cell? ⟨gb175, 8, none⟩ = some (.int .i64 a0_8) ∧ w'.cell? ⟨gb173, 0, none⟩ = some (.slice (some ad176) l0_0.length c0_0) ∧ w'.cell? ⟨gb173, 1, none⟩ = some (.int .i64 a0_1) ∧ w'.cell? ⟨gb173, 2, none⟩ = some (.string a0_2) ∧ w'.cell? ⟨gb173, 3, none⟩ = some (.string a0_3) ∧ w'.cell? ⟨gb173, 4, none⟩ = some (.int .i64 a0_4) ∧ w'.cell? ⟨gb173, 5, none⟩ = some (.int .i64 a0_5) ∧ w'.cell? ⟨gb173, 6, none⟩ = some (.slice A0_6 l0_6.length c0_6) ∧ w'.cell? ⟨gb173, 7, none⟩ = some (.int .i64 a0_7) ∧ w'.cell? ⟨gb173, 8, none⟩ = some (.int .i64 a0_8) ∧ w'.cell? (ad176.add ((x4_1).toNat * 6)) = some (.string ((rd_T29 l0_0 x4_1).f0.f0.f0)) ∧ w'.cell? ⟨(ad176.add ((x4_1).toNat * 6)).block, (ad176.add ((x4_1).toNat * 6)).off + 1, none⟩ = some (.int .i64 ((rd_T29 l0_0 x4_1).f0.f0.f1)) ∧ w'.cell? ⟨(ad176.add ((x4_1).toNat * 6)).block, (ad176.add ((x4_1).toNat * 6)).off + 2, none⟩ = some (.int .i64 ((rd_T29 l0_0 x4_1).f0.f0.f2)) ∧ w'.cell? ⟨(ad176.add ((x4_1).toNat * 6)).block, (ad176.add ((x4_1).toNat * 6)).off + 3, none⟩ = some (.slice A176_3 ((rd_T29 l0_0 x4_1).f0.f1).length c176_3) ∧ w'.cell? ⟨(ad176.add ((x4_1).toNat * 6)).block, (ad176.add ((x4_1).toNat * 6)).off + 4, none⟩ = some (.int .i64 ((rd_T29 l0_0 x4_1).f0.f2)) ∧ w'.cell? ⟨(ad176.add ((x4_1).toNat * 6)).block, (ad176.add ((x4_1).toNat * 6)).off + 5, none⟩ = some (.int .i64 ((rd_T29 l0_0 x4_1).f1))) (ds := [8, 10]) #[false, false, false, false, false, false, false, false, false, false, false] (by kernel_rfl) rfl rfl ⟨(blk_cell BK175.out 0).trans rfl, (blk_cell BK175.out 1).trans rfl, (blk_cell BK175.out 2).trans rfl, (blk_cell BK175.out 3).trans rfl, (blk_cell BK175.out 4).trans rfl, (blk_cell BK175.out 5).trans rfl, (blk_cell BK175.out 6).trans rfl, (blk_cell BK175.out 7).trans rfl, (blk_cell BK175.out 8).trans rfl, (blk_cell BK173.out 0).trans rfl, (blk_cell BK173.out 1).trans rfl, (blk_cell BK173.out 2).trans rfl, (blk_cell BK173.out 3).trans rfl, (blk_cell BK173.out 4).trans rfl, (blk_cell BK173.out 5).trans rfl, (blk_cell BK173.out 6).trans rfl, (blk_cell BK173.out 7).trans rfl, (blk_cell BK173.out 8).trans rfl, hx176_0, hx176_1, hx176_2, hx176_3, hx176_4, hx176_5⟩ (fun hHeld => ?_); refine with_tabW wellspringlaw17_Chain.tab5 wellspringlaw17_Chain.bits5 (fun HT_ HW_ => ?_)
      generalize wr.drew = w16 at HO_174000 HO_174006 HO_176000 HO_176006 BK173 BK174 BK175 HB HL176_3 HR176_3 hx176_0 hx176_1 hx176_2 hx176_3 hx176_4 hx176_5 hHeld ⊢
      refine pure_ (i := 0) (N := some 19) (v := ?_) (a' := ?_) #[true, false, false, false, false, false, false, false, false, false, false] rfl rfl (any_of HT_.out (by kernel_rfl)) (fun _ _ _ h => h) (Or.inl ⟨by rfl, ?_⟩) ?_ ?_
      rotate_left
      ·intro w'
       go_simp
       with_reducible rfl
      rotate_left
      ·simp only [Act.put, List.setIfInBounds_toArray, List.set_cons_zero, List.set_cons_succ, i64_w, i32_w]
       rfl
      refine pure_ (i := 2) (N := some 21) (v := ?_) (a' := ?_) #[true, false, true, false, false, false, false, false, false, false, false] rfl rfl (any_of HT_.out (by kernel_rfl)) (fun _ _ _ h => h) (Or.inl ⟨by rfl, ?_⟩) ?_ ?_
      rotate_left
      ·intro w'
       go_simp
       with_reducible rfl
      rotate_left
      ·simp only [Act.put, List.setIfInBounds_toArray, List.set_cons_zero, List.set_cons_succ, i64_w, i32_w]
       rfl
      refine pure_ (i := 4) (N := some 23) (v := ?_) (a' := ?_) #[true, false, true, false, true, false, false, false, false, false, false] rfl rfl (any_of HT_.out (by kernel_rfl)) (fun _ _ _ h => h) (Or.inl ⟨by rfl, ?_⟩) ?_ ?_
      rotate_left
      ·intro w'
       go_simp
       with_reducible rfl
      rotate_left
      ·simp only [Act.put, List.setIfInBounds_toArray, List.set_cons_zero, List.set_cons_succ, i64_w, i32_w]
       rfl
      refine take_ (i := 1) (N := some 20) (v := ?_) (a' := ?_) #[true, true, true, false, true, false, false, false, false, false, false] rfl rfl (take_ofW HT_.out HW_.out (by kernel_rfl)) (fun _ _ _ h => h) (Or.inl ⟨by rfl, ?_⟩) hHeld ?_ ?_
      rotate_left
      ·rintro w' ⟨s0, s1, s2, s3, s4, s5, s6, s7, s8, s9, s10, s11, s12, s13, s14, s15, s16, s17, s18, s19, s20, s21, s22, s23⟩
       go_simp
       with_reducible rfl
      rotate_left
      ·simp only [Act.put, List.setIfInBounds_toArray, List.set_cons_zero, List.set_cons_succ, i64_w, i32_w]
       rfl
      refine take_ (i := 3) (N := some 22) (v := ?_) (a' := ?_) #[true, true, true, true, true, false, false, false, false, false, false] rfl rfl (take_ofW HT_.out HW_.out (by kernel_rfl)) (fun _ _ _ h => h) (Or.inl ⟨by rfl, ?_⟩) hHeld ?_ ?_
      rotate_left
      ·rintro w' ⟨s0, s1, s2, s3, s4, s5, s6, s7, s8, s9, s10, s11, s12, s13, s14, s15, s16, s17, s18, s19, s20, s21, s22, s23⟩
       go_simp
       with_reducible rfl
      rotate_left
      ·simp only [Act.put, List.setIfInBounds_toArray, List.set_cons_zero, List.set_cons_succ, i64_w, i32_w]
       rfl
      refine pure_ (i := 5) (N := some 24) (v := ?_) (a' := ?_) #[true, true, true, true, true, true, false, false, false, false, false] rfl rfl (any_of HT_.out (by kernel_rfl)) (fun _ _ _ h => h) (Or.inl ⟨by rfl, ?_⟩) ?_ ?_
      rotate_left
      ·intro w'
       go_simp
       with_reducible rfl
      rotate_left
      ·simp only [Act.put, List.setIfInBounds_toArray, List.set_cons_zero, List.set_cons_succ, i64_w, i32_w]
       rfl
      refine take_ (i := 6) (N := some 25) (v := ?_) (a' := ?_) #[true, true, true, true, true, true, true, false, false, false, false] rfl rfl (take_ofW HT_.out HW_.out (by kernel_rfl)) (fun _ _ _ h => h) (Or.inl ⟨by rfl, ?_⟩) hHeld ?_ ?_
      rotate_left
      ·rintro w' ⟨s0, s1, s2, s3, s4, s5, s6, s7, s8, s9, s10, s11, s12, s13, s14, s15, s16, s17, s18, s19, s20, s21, s22, s23⟩
       go_simp
       with_reducible rfl
      rotate_left
      ·simp only [Act.put, List.setIfInBounds_toArray, List.set_cons_zero, List.set_cons_succ, i64_w, i32_w]
       rfl
      refine one_ (i := 7) (N := some 26) #[true, true, true, true, true, true, true, true, false, false, false] rfl rfl (one_of HT_.out (by kernel_rfl)) (by decide) (fun K hK => ?_)
      refine value_ (w1 := ?_) (v := ?_) (by rfl) rfl ?_ ?_
      rotate_left 2
      ·go_simp
       constructor
       ·rfl
       ·rfl
      refine hK.out _ _ ⟨(blk_cell (blk_alloc BK175.out _) 0).trans rfl, (blk_cell (blk_alloc BK175.out _) 1).trans rfl, (blk_cell (blk_alloc BK175.out _) 2).trans rfl, (blk_cell (blk_alloc BK175.out _) 3).trans rfl, (blk_cell (blk_alloc BK175.out _) 4).trans rfl, (blk_cell (blk_alloc BK175.out _) 5).trans rfl, (blk_cell (blk_alloc BK175.out _) 6).trans rfl, (blk_cell (blk_alloc BK175.out _) 7).trans rfl, (blk_cell (blk_alloc BK175.out _) 8).trans rfl, (blk_cell (blk_alloc BK173.out _) 0).trans rfl, (blk_cell (blk_alloc BK173.out _) 1).trans rfl, (blk_cell (blk_alloc BK173.out _) 2).trans rfl, (blk_cell (blk_alloc BK173.out _) 3).trans rfl, (blk_cell (blk_alloc BK173.out _) 4).trans rfl, (blk_cell (blk_alloc BK173.out _) 5).trans rfl, (blk_cell (blk_alloc BK173.out _) 6).trans rfl, (blk_cell (blk_alloc BK173.out _) 7).trans rfl, (blk_cell (blk_alloc BK173.out _) 8).trans rfl, (World.cell?_alloc_lt _ _ _ (World.block_lt_of_cell? _ _ (hHeld.2.2.2.2.2.2.2.2.2.2.2.2.2.2.2.2.2.2.1))).trans (hHeld.2.2.2.2.2.2.2.2.2.2.2.2.2.2.2.2.2.2.1), (World.cell?_alloc_lt _ _ _ (World.block_lt_of_cell? _ _ (hHeld.2.2.2.2.2.2.2.2.2.2.2.2.2.2.2.2.2.2.2.1))).trans (hHeld.2.2.2.2.2.2.2.2.2.2.2.2.2.2.2.2.2.2.2.1), (World.cell?_alloc_lt _ _ _ (World.block_lt_of_cell? _ _ (hHeld.2.2.2.2.2.2.2.2.2.2.2.2.2.2.2.2.2.2.2.2.1))).trans (hHeld.2.2.2.2.2.2.2.2.2.2.2.2.2.2.2.2.2.2.2.2.1), (World.cell?_alloc_lt _ _ _ (World.block_lt_of_cell? _ _ (hHeld.2.2.2.2.2.2.2.2.2.2.2.2.2.2.2.2.2.2.2.2.2.1))).trans (hHeld.2.2.2.2.2.2.2.2.2.2.2.2.2.2.2.2.2.2.2.2.2.1), (World.cell?_alloc_lt _ _ _ (World.block_lt_of_cell? _ _ (hHeld.2.2.2.2.2.2.2.2.2.2.2.2.2.2.2.2.2.2.2.2.2.2.1))).trans (hHeld.2.2.2.2.2.2.2.2.2.2.2.2.2.2.2.2.2.2.2.2.2.2.1), (World.cell?_alloc_lt _ _ _ (World.block_lt_of_cell? _ _ (hHeld.2.2.2.2.2.2.2.2.2.2.2.2.2.2.2.2.2.2.2.2.2.2.2))).trans (hHeld.2.2.2.2.2.2.2.2.2.2.2.2.2.2.2.2.2.2.2.2.2.2.2)⟩ (fun hHeld => ?_)
      clear hK K
      refine norm_ (a' := ?_) ?_ ?_
      rotate_left
      ·show Act.put _ (some 26) _ = _
       simp only [Act.put, List.setIfInBounds_toArray, List.set_cons_zero, List.set_cons_succ, i64_w, i32_w]
       rfl
      refine last_ (i := 8) (N := some 27) #[true, true, true, true, true, true, true, true, true, false, false] rfl rfl (one_of HT_.out (by kernel_rfl)) (by decide) (fun K hK => ?_)
      refine Kd.N_append_step k40 (w0 := w) w.heap.size (by rfl) (.tmp 20) (.tmp 26) 39 40 (.agg #[(.string ⟨#[]⟩), (.int .i64 0), (.int .i64 0), (.slice none 0 0), (.int .i64 0), (.int .i64 0)]) 72 rfl Try.underlying39 info40 rfl (by decide) (by omega) u176000 x176000_1 (⟨(⟨(⟨(rd_T29 l0_0 x4_1).f0.f0.f0, (rd_T29 l0_0 x4_1).f0.f0.f1, (rd_T29 l0_0 x4_1).f0.f0.f2⟩ : S23), (rd_T29 l0_0 x4_1).f0.f1, (rd_T29 l0_0 x4_1).f0.f2⟩ : S27), (rd_T29 l0_0 x4_1).f1⟩ : S40) [.string ((rd_T29 l0_0 x4_1).f0.f0.f0), .int .i64 ((rd_T29 l0_0 x4_1).f0.f0.f1), .int .i64 ((rd_T29 l0_0 x4_1).f0.f0.f2), .slice A176_3 ((rd_T29 l0_0 x4_1).f0.f1).length c176_3, .int .i64 ((rd_T29 l0_0 x4_1).f0.f2), .int .i64 ((rd_T29 l0_0 x4_1).f1)] (fun k_ => ((P0_0_ k_ ∨ P0_6_ k_) ∨ w.heap.size ≤ k_) ∧ k_ ≠ gb173 ∧ k_ ≠ gb174 ∧ k_ ≠ gb175) (fun k_ => ((fun k_ => ((P0_0_ k_ ∨ P0_6_ k_) ∨ w.heap.size ≤ k_) ∧ k_ ≠ gb173 ∧ k_ ≠ gb174 ∧ k_ ≠ gb175)) k_ ∧ some k_ ≠ (u176000 : Value).ownBlock) rfl rfl ?aP (fun _ hk => hk) ?aF ?aO ?aB ?aS ?aL ?_
      (case aP => exact (k40_mkF _ _ (⟨(⟨(⟨(rd_T29 l0_0 x4_1).f0.f0.f0, (rd_T29 l0_0 x4_1).f0.f0.f1, (rd_T29 l0_0 x4_1).f0.f0.f2⟩ : S23), (rd_T29 l0_0 x4_1).f0.f1, (rd_T29 l0_0 x4_1).f0.f2⟩ : S27), (rd_T29 l0_0 x4_1).f1⟩ : S40) (Kd.V_reads' (Kd.V_mono (ok' := (fun k_ => ((fun k_ => ((P0_0_ k_ ∨ P0_6_ k_) ∨ w.heap.size ≤ k_) ∧ k_ ≠ gb173 ∧ k_ ≠ gb174 ∧ k_ ≠ gb175)) k_ ∧ some k_ ≠ (u176000 : Value).ownBlock)) (HL176_3.out) (fun k_ hk => ⟨⟨hk.1, ⟨hk.2.2.1, ⟨hk.2.2.2.1, hk.2.2.2.2⟩⟩⟩, hk.2.1⟩))).2.1 (Kd.V_F (Kd.V_mono (ok' := (fun k_ => ((fun k_ => ((P0_0_ k_ ∨ P0_6_ k_) ∨ w.heap.size ≤ k_) ∧ k_ ≠ gb173 ∧ k_ ≠ gb174 ∧ k_ ≠ gb175)) k_ ∧ some k_ ≠ (u176000 : Value).ownBlock)) (HL176_3.out) (fun k_ hk => ⟨⟨hk.1, ⟨hk.2.2.1, ⟨hk.2.2.2.1, hk.2.2.2.2⟩⟩⟩, hk.2.1⟩)))))
      (case aB => exact (by repeat (first | (with_reducible first | exact HB.out | apply below_alloc | apply pw_below_drewN | apply below_drew1 | refine below_set ?_ GE173.out | refine below_set ?_ GE174.out | refine below_set ?_ GE175.out) | exact HB.out)))
      (case aF => exact (fun k_ hk => ⟨(.inr (Nat.le_trans (below_size (by repeat (first | (with_reducible first | exact HB.out | apply below_alloc | apply pw_below_drewN | apply below_drew1 | refine below_set ?_ GE173.out | refine below_set ?_ GE174.out | refine below_set ?_ GE175.out) | exact HB.out))) hk)), Kd.freshB (g := gb173) (o := .cells #[.slice (some ad176) l0_0.length c0_0, .int .i64 a0_1, .string a0_2, .string a0_3, .int .i64 a0_4, .int .i64 a0_5, .slice A0_6 l0_6.length c0_6, .int .i64 a0_7, .int .i64 a0_8] 31 (0, 0)) (by (with_reducible repeat (first | refine blk_drewN ?_ _ | refine blk_drew ?_ | refine blk_alloc ?_ _)); exact BK173.out) k_ hk, Kd.freshB (g := gb174) (o := .cells #[.slice none 0 0, .int .i64 0, .string (⟨#[]⟩ : ByteArray), .string (⟨#[]⟩ : ByteArray), .int .i64 0, .int .i64 0, .slice none 0 0, .int .i64 0, .int .i64 0] 42 (0, 0)) (by (with_reducible repeat (first | refine blk_drewN ?_ _ | refine blk_drew ?_ | refine blk_alloc ?_ _)); exact BK174.out) k_ hk, Kd.freshB (g := gb175) (o := .cells #[u176000, .int .i64 a0_1, .string a0_2, .string a0_3, .int .i64 a0_4, .int .i64 a0_5, .slice A0_6 l0_6.length c0_6, .int .i64 a0_7, .int .i64 a0_8] 42 (0, 0)) (by (with_reducible repeat (first | refine blk_drewN ?_ _ | refine blk_drew ?_ | refine blk_alloc ?_ _)); exact BK175.out) k_ hk⟩))
      (case aO => exact (by (with_reducible repeat (first | apply Kd.N_alloc | apply Kd.N_drewN | apply Kd.N_drew)); exact HO_176000.out))
      (case aS => exact (below_size (by repeat (first | (with_reducible first | exact HB.out | apply below_alloc | apply pw_below_drewN | apply below_drew1 | refine below_set ?_ GE173.out | refine below_set ?_ GE174.out | refine below_set ?_ GE175.out) | exact HB.out))))
      (case aL => have := LMc12.out; omega)
      intro v178 w17 ho hb hg hat
      rw [← Ny177.out] at ho
      have n0_ := Aside0.mk (Kd.V_afterv (ok := (fun k_ => ((P0_0_ k_ ∨ P0_6_ k_) ∨ w.heap.size ≤ k_) ∧ k_ ≠ gb173 ∧ k_ ≠ gb174 ∧ k_ ≠ gb175)) (by (with_reducible repeat (first | apply Kd.V_alloc | apply Kd.V_drewN | apply Kd.V_drew)); exact Kd.V_mono HO_174000.out (fun _ hk => ⟨⟨hk.1, ⟨hk.2.2.1, ⟨hk.2.2.2.1, hk.2.2.2.2⟩⟩⟩, hk.2.1⟩)) hg hat)
      have n1_ := Aside0.mk (Kd.V_afterv (ok := (fun k_ => ((P0_0_ k_ ∨ P0_6_ k_) ∨ w.heap.size ≤ k_) ∧ k_ ≠ gb173 ∧ k_ ≠ gb174 ∧ k_ ≠ gb175)) (by (with_reducible repeat (first | apply Kd.V_alloc | apply Kd.V_drewN | apply Kd.V_drew)); exact Kd.V_mono HO_174006.out (fun _ hk => ⟨⟨hk.1, ⟨hk.2.2.1, ⟨hk.2.2.2.1, hk.2.2.2.2⟩⟩⟩, hk.2.1⟩)) hg hat)
      have n2_ := Aside0.mk (Kd.V_afterv (ok := (fun k_ => ((P0_0_ k_ ∨ P0_6_ k_) ∨ w.heap.size ≤ k_) ∧ k_ ≠ gb173 ∧ k_ ≠ gb174 ∧ k_ ≠ gb175)) (by (with_reducible repeat (first | apply Kd.V_alloc | apply Kd.V_drewN | apply Kd.V_drew)); exact Kd.V_mono HO_176006.out (fun _ hk => ⟨⟨hk.1, ⟨hk.2.2.1, ⟨hk.2.2.2.1, hk.2.2.2.2⟩⟩⟩, hk.2.1⟩)) hg hat)
      have n3_ := Aside0.mk (blk_grown (g := gb173) (o := .cells #[.slice (some ad176) l0_0.length c0_0, .int .i64 a0_1, .string a0_2, .string a0_3, .int .i64 a0_4, .int .i64 a0_5, .slice A0_6 l0_6.length c0_6, .int .i64 a0_7, .int .i64 a0_8] 31 (0, 0)) (by (with_reducible repeat (first | refine blk_drewN ?_ _ | refine blk_drew ?_ | refine blk_alloc ?_ _)); exact BK173.out) hg (Kd.N_ne HO_176000.out BK173.out (by decide)))
      have n4_ := Aside0.mk (blk_grown (g := gb174) (o := .cells #[.slice none 0 0, .int .i64 0, .string (⟨#[]⟩ : ByteArray), .string (⟨#[]⟩ : ByteArray), .int .i64 0, .int .i64 0, .slice none 0 0, .int .i64 0, .int .i64 0] 42 (0, 0)) (by (with_reducible repeat (first | refine blk_drewN ?_ _ | refine blk_drew ?_ | refine blk_alloc ?_ _)); exact BK174.out) hg (Kd.N_ne HO_176000.out BK174.out (by decide)))
      have n5_ := Aside0.mk (blk_grown (g := gb175) (o := .cells #[u176000, .int .i64 a0_1, .string a0_2, .string a0_3, .int .i64 a0_4, .int .i64 a0_5, .slice A0_6 l0_6.length c0_6, .int .i64 a0_7, .int .i64 a0_8] 42 (0, 0)) (by (with_reducible repeat (first | refine blk_drewN ?_ _ | refine blk_drew ?_ | refine blk_alloc ?_ _)); exact BK175.out) hg (Kd.N_ne HO_176000.out BK175.out (by decide)))
      have n6_ := Aside0.mk (Kd.V_afterv (ok := (fun k_ => ((P0_0_ k_ ∨ P0_6_ k_) ∨ w.heap.size ≤ k_) ∧ k_ ≠ gb173 ∧ k_ ≠ gb174 ∧ k_ ≠ gb175)) (by (with_reducible repeat (first | apply Kd.V_alloc | apply Kd.V_drewN | apply Kd.V_drew)); exact Kd.V_mono HL176_3.out (fun _ hk => ⟨⟨hk.1, ⟨hk.2.2.1, ⟨hk.2.2.2.1, hk.2.2.2.2⟩⟩⟩, hk.2.1⟩)) hg hat)
      have n7_ := Aside0.mk (hb)
      have n8_ := Aside0.mk (ho)
      clear HO_174000
      clear HO_174006
      clear HO_176006
      clear BK173
      clear BK174
      clear BK175
      clear HL176_3
      clear HB
      clear HO_176000
      have HO_174000 := n0_
      have HO_174006 := n1_
      have HO_176006 := n2_
      have BK173 := n3_
      have BK174 := n4_
      have BK175 := n5_
      have HL176_3 := n6_
      have HB := n7_
      have HO179 := n8_
      clear n0_ n1_ n2_ n3_ n4_ n5_ n6_ n7_ n8_
      clear ho hb hg hat
      obtain ⟨Ao18, co18, eo18⟩ := Kd.N_slice HO179.out
      (first | subst eo18 | (injection eo18 with f1_ f2_ f3_; have f4_ := f1_.symm; have f5_ := f3_.symm; clear f1_ f2_ f3_; subst f4_; subst f5_))
      refine hK.out _ _ ?_
      clear hK K
      refine norm_ (a' := ?_) ?_ ?_
      rotate_left
      ·show Act.put _ (some 27) _ = _
       simp only [Act.put, List.setIfInBounds_toArray, List.set_cons_zero, List.set_cons_succ, i64_w, i32_w]
       rfl
      refine pure_ (i := 9) (N := some 28) (v := ?_) (a' := ?_) #[true, true, true, true, true, true, true, true, true, true, false] rfl rfl (any_of HT_.out (by kernel_rfl)) (fun _ _ _ h => h) (Or.inl ⟨by rfl, ?_⟩) ?_ ?_
      rotate_left
      ·intro w'
       go_simp
       with_reducible rfl
      rotate_left
      ·simp only [Act.put, List.setIfInBounds_toArray, List.set_cons_zero, List.set_cons_succ, i64_w, i32_w]
       rfl
      refine last_ (i := 10) (N := none) #[true, true, true, true, true, true, true, true, true, true, true] rfl rfl (one_of HT_.out (by kernel_rfl)) (by decide) (fun K hK => ?_)
      have hs19 : w17.cell? ⟨gb175, 0, none⟩ = some (u176000) := (blk_cell BK175.out 0).trans rfl
      have hfs19 := blk_frozen BK175.out 0
      have hns19_0 := NB173_175.out
      have hns19_1 := NB174_175.out
      have hms19_0 := NB175_173.out
      have hms19_1 := NB175_174.out
      refine skip_ (w1 := ?_) (by rfl) rfl ?_ ?_
      rotate_left
      ·go_simp
       rfl
      refine hK.out _ _ ?_
      clear hK K
      refine done_ (done_of HT_.out (by kernel_rfl)) ?_
      try go_wp2
      go_roundg k1
      case measure => have := HK1.out; omega
      case rel => exact ⟨(wrap64 (x4_1 + 1)), (y177), (.slice Ao18 y177.length co18), (by first | rfl | (simp; done) | (simp [*]; done)), H', ⟨by have := HK1.out; omega⟩, ⟨by (with_reducible repeat (first | apply Kd.V_alloc | apply Kd.V_drewN | apply Kd.V_drew)); exact Kd.V_mono (Kd.V_far (p := ⟨gb175, 0, none⟩) (Kd.V_mono HO_174000.out (fun k_ hk => (⟨hk, hk.1.2.2.2⟩ : _ ∧ k_ ≠ gb175))) (fun _ hk => hk.2) (.slice Ao18 y177.length co18)) (fun _ hk => ⟨hk.1.1.1, ⟨hk.1.2, ⟨hk.1.1.2.1, ⟨hk.1.1.2.2.1, hk.1.1.2.2.2⟩⟩⟩⟩)⟩, ⟨by (with_reducible repeat (first | apply Kd.V_alloc | apply Kd.V_drewN | apply Kd.V_drew)); exact Kd.V_mono (Kd.V_far (p := ⟨gb175, 0, none⟩) (Kd.V_mono HO_174006.out (fun k_ hk => (⟨hk, hk.1.2.2.2⟩ : _ ∧ k_ ≠ gb175))) (fun _ hk => hk.2) (.slice Ao18 y177.length co18)) (fun _ hk => ⟨hk.1.1.1, ⟨hk.1.2, ⟨hk.1.1.2.1, ⟨hk.1.1.2.2.1, hk.1.1.2.2.2⟩⟩⟩⟩)⟩, ⟨by (with_reducible repeat (first | apply Kd.N_alloc | apply Kd.N_drewN | apply Kd.N_drew)); exact Kd.N_mono (Kd.N_far (p := ⟨gb175, 0, none⟩) (Kd.N_mono HO179.out (fun k_ hk => (⟨hk, hk.2.2.2⟩ : _ ∧ k_ ≠ gb175))) (fun _ hk => hk.2) (.slice Ao18 y177.length co18)) (fun _ hk => ⟨hk.1.1, ⟨hk.1.2.1, ⟨hk.1.2.2.1, hk.1.2.2.2⟩⟩⟩)⟩, ⟨by (with_reducible repeat (first | apply Kd.V_alloc | apply Kd.V_drewN | apply Kd.V_drew)); exact Kd.V_mono (Kd.V_far (p := ⟨gb175, 0, none⟩) (Kd.V_mono HO_176006.out (fun k_ hk => (⟨hk, hk.1.2.2.2⟩ : _ ∧ k_ ≠ gb175))) (fun _ hk => hk.2) (.slice Ao18 y177.length co18)) (fun _ hk => ⟨hk.1.1.1, ⟨hk.1.2, ⟨hk.1.1.2.1, ⟨hk.1.1.2.2.1, hk.1.1.2.2.2⟩⟩⟩⟩)⟩, ⟨by (with_reducible repeat (first | refine blk_drewN ?_ _ | refine blk_drew ?_ | refine blk_alloc ?_ _)); refine blk_far ?_ NB173_175.out _; (with_reducible repeat (first | refine blk_drewN ?_ _ | refine blk_drew ?_ | refine blk_alloc ?_ _)); exact BK173.out⟩, ⟨by (with_reducible repeat (first | refine blk_drewN ?_ _ | refine blk_drew ?_ | refine blk_alloc ?_ _)); refine blk_far ?_ NB174_175.out _; (with_reducible repeat (first | refine blk_drewN ?_ _ | refine blk_drew ?_ | refine blk_alloc ?_ _)); exact BK174.out⟩, ⟨by (with_reducible repeat (first | refine blk_drewN ?_ _ | refine blk_drew ?_ | refine blk_alloc ?_ _)); refine blk_put (cs := #[u176000, .int .i64 a0_1, .string a0_2, .string a0_3, .int .i64 a0_4, .int .i64 a0_5, .slice A0_6 l0_6.length c0_6, .int .i64 a0_7, .int .i64 a0_8]) ?_ 0 _ rfl; (with_reducible repeat (first | refine blk_drewN ?_ _ | refine blk_drew ?_ | refine blk_alloc ?_ _)); exact BK175.out⟩, ⟨by repeat (first | (with_reducible first | exact HB.out | apply below_alloc | apply pw_below_drewN | apply below_drew1 | refine below_set ?_ GE173.out | refine below_set ?_ GE174.out | refine below_set ?_ GE175.out) | exact HB.out)⟩⟩
     ·rw [if_neg c12] at H
      exact absurd H (by simp)
    ·rw [if_neg c11] at H
     exact absurd H (by simp)
   ·rw [if_neg c10] at H
    have c10b0 : decide (x4_1 < (l0_0.length : Int)) = false := decide_eq_false c10
    clear c10
    simp only [Option.some.injEq, Prod.mk.injEq] at H
    obtain ⟨rfl, rfl, rfl, rfl, rfl, rfl, rfl, rfl, rfl⟩ := H
    have hnb20 := NB173_174.out
    have hnc20 := NB174_173.out
    have hnb21 := NB173_175.out
    have hnc21 := NB175_173.out
    have hcz22_0 : wr.cell? ⟨gb173, 0, none⟩ = some (.slice A0_0 l0_0.length c0_0) := (blk_cell BK173.out 0).trans rfl
    have hcz22_1 : wr.cell? ⟨gb173, 1, none⟩ = some (.int .i64 a0_1) := (blk_cell BK173.out 1).trans rfl
    have hcz22_2 : wr.cell? ⟨gb173, 2, none⟩ = some (.string a0_2) := (blk_cell BK173.out 2).trans rfl
    have hcz22_3 : wr.cell? ⟨gb173, 3, none⟩ = some (.string a0_3) := (blk_cell BK173.out 3).trans rfl
    have hcz22_4 : wr.cell? ⟨gb173, 4, none⟩ = some (.int .i64 a0_4) := (blk_cell BK173.out 4).trans rfl
    have hcz22_5 : wr.cell? ⟨gb173, 5, none⟩ = some (.int .i64 a0_5) := (blk_cell BK173.out 5).trans rfl
    have hcz22_6 : wr.cell? ⟨gb173, 6, none⟩ = some (.slice A0_6 l0_6.length c0_6) := (blk_cell BK173.out 6).trans rfl
    have hcz22_7 : wr.cell? ⟨gb173, 7, none⟩ = some (.int .i64 a0_7) := (blk_cell BK173.out 7).trans rfl
    have hcz22_8 : wr.cell? ⟨gb173, 8, none⟩ = some (.int .i64 a0_8) := (blk_cell BK173.out 8).trans rfl
    have hfz22_0 := blk_frozen BK173.out 0
    have hfz22_1 := blk_frozen BK173.out 1
    have hfz22_2 := blk_frozen BK173.out 2
    have hfz22_3 := blk_frozen BK173.out 3
    have hfz22_4 := blk_frozen BK173.out 4
    have hfz22_5 := blk_frozen BK173.out 5
    have hfz22_6 := blk_frozen BK173.out 6
    have hfz22_7 := blk_frozen BK173.out 7
    have hfz22_8 := blk_frozen BK173.out 8
    have hnb23 := NB175_174.out
    have hnc23 := NB174_175.out
    have hcz24_0 : wr.cell? ⟨gb175, 0, none⟩ = some (u176000) := (blk_cell BK175.out 0).trans rfl
    have hcz24_1 : wr.cell? ⟨gb175, 1, none⟩ = some (.int .i64 a0_1) := (blk_cell BK175.out 1).trans rfl
    have hcz24_2 : wr.cell? ⟨gb175, 2, none⟩ = some (.string a0_2) := (blk_cell BK175.out 2).trans rfl
    have hcz24_3 : wr.cell? ⟨gb175, 3, none⟩ = some (.string a0_3) := (blk_cell BK175.out 3).trans rfl
    have hcz24_4 : wr.cell? ⟨gb175, 4, none⟩ = some (.int .i64 a0_4) := (blk_cell BK175.out 4).trans rfl
    have hcz24_5 : wr.cell? ⟨gb175, 5, none⟩ = some (.int .i64 a0_5) := (blk_cell BK175.out 5).trans rfl
    have hcz24_6 : wr.cell? ⟨gb175, 6, none⟩ = some (.slice A0_6 l0_6.length c0_6) := (blk_cell BK175.out 6).trans rfl
    have hcz24_7 : wr.cell? ⟨gb175, 7, none⟩ = some (.int .i64 a0_7) := (blk_cell BK175.out 7).trans rfl
    have hcz24_8 : wr.cell? ⟨gb175, 8, none⟩ = some (.int .i64 a0_8) := (blk_cell BK175.out 8).trans rfl
    have hfz24_0 := blk_frozen BK175.out 0
    have hfz24_1 := blk_frozen BK175.out 1
    have hfz24_2 := blk_frozen BK175.out 2
    have hfz24_3 := blk_frozen BK175.out 3
    have hfz24_4 := blk_frozen BK175.out 4
    have hfz24_5 := blk_frozen BK175.out 5
    have hfz24_6 := blk_frozen BK175.out 6
    have hfz24_7 := blk_frozen BK175.out 7
    have hfz24_8 := blk_frozen BK175.out 8
    obtain ⟨Ao25, co25, eo25⟩ := Kd.N_slice HO_176000.out
    subst eo25
    have hcz26_0 : wr.cell? ⟨gb174, 0, none⟩ = some (.slice none 0 0) := (blk_cell BK174.out 0).trans rfl
    have hcz26_1 : wr.cell? ⟨gb174, 1, none⟩ = some (.int .i64 0) := (blk_cell BK174.out 1).trans rfl
    have hcz26_2 : wr.cell? ⟨gb174, 2, none⟩ = some (.string (⟨#[]⟩ : ByteArray)) := (blk_cell BK174.out 2).trans rfl
    have hcz26_3 : wr.cell? ⟨gb174, 3, none⟩ = some (.string (⟨#[]⟩ : ByteArray)) := (blk_cell BK174.out 3).trans rfl
    have hcz26_4 : wr.cell? ⟨gb174, 4, none⟩ = some (.int .i64 0) := (blk_cell BK174.out 4).trans rfl
    have hcz26_5 : wr.cell? ⟨gb174, 5, none⟩ = some (.int .i64 0) := (blk_cell BK174.out 5).trans rfl
    have hcz26_6 : wr.cell? ⟨gb174, 6, none⟩ = some (.slice none 0 0) := (blk_cell BK174.out 6).trans rfl
    have hcz26_7 : wr.cell? ⟨gb174, 7, none⟩ = some (.int .i64 0) := (blk_cell BK174.out 7).trans rfl
    have hcz26_8 : wr.cell? ⟨gb174, 8, none⟩ = some (.int .i64 0) := (blk_cell BK174.out 8).trans rfl
    have hfz26_0 := blk_frozen BK174.out 0
    have hfz26_1 := blk_frozen BK174.out 1
    have hfz26_2 := blk_frozen BK174.out 2
    have hfz26_3 := blk_frozen BK174.out 3
    have hfz26_4 := blk_frozen BK174.out 4
    have hfz26_5 := blk_frozen BK174.out 5
    have hfz26_6 := blk_frozen BK174.out 6
    have hfz26_7 := blk_frozen BK174.out 7
    have hfz26_8 := blk_frozen BK174.out 8
    go_wp2
    refine bodyPost_ret (results_cell_row rfl _ _ gb174 42 #[.slice Ao25 x176000_1.length co25, .int .i64 a0_1, .string a0_2, .string a0_3, .int .i64 a0_4, .int .i64 a0_5, .slice A0_6 l0_6.length c0_6, .int .i64 a0_7, .int .i64 a0_8] (0, 0) _ rfl (by (with_reducible repeat (first | refine blk_drewN ?_ _ | refine blk_drew ?_ | refine blk_alloc ?_ _)); refine blk_put (cs := #[.slice Ao25 x176000_1.length co25, .int .i64 a0_1, .string a0_2, .string a0_3, .int .i64 a0_4, .int .i64 a0_5, .slice A0_6 l0_6.length c0_6, .int .i64 a0_7, .int .i64 0]) ?_ 8 _ rfl; (with_reducible repeat (first | refine blk_drewN ?_ _ | refine blk_drew ?_ | refine blk_alloc ?_ _)); refine blk_put (cs := #[.slice Ao25 x176000_1.length co25, .int .i64 a0_1, .string a0_2, .string a0_3, .int .i64 a0_4, .int .i64 a0_5, .slice A0_6 l0_6.length c0_6, .int .i64 0, .int .i64 0]) ?_ 7 _ rfl; (with_reducible repeat (first | refine blk_drewN ?_ _ | refine blk_drew ?_ | refine blk_alloc ?_ _)); refine blk_put (cs := #[.slice Ao25 x176000_1.length co25, .int .i64 a0_1, .string a0_2, .string a0_3, .int .i64 a0_4, .int .i64 a0_5, .slice none 0 0, .int .i64 0, .int .i64 0]) ?_ 6 _ rfl; (with_reducible repeat (first | refine blk_drewN ?_ _ | refine blk_drew ?_ | refine blk_alloc ?_ _)); refine blk_put (cs := #[.slice Ao25 x176000_1.length co25, .int .i64 a0_1, .string a0_2, .string a0_3, .int .i64 a0_4, .int .i64 0, .slice none 0 0, .int .i64 0, .int .i64 0]) ?_ 5 _ rfl; (with_reducible repeat (first | refine blk_drewN ?_ _ | refine blk_drew ?_ | refine blk_alloc ?_ _)); refine blk_put (cs := #[.slice Ao25 x176000_1.length co25, .int .i64 a0_1, .string a0_2, .string a0_3, .int .i64 0, .int .i64 0, .slice none 0 0, .int .i64 0, .int .i64 0]) ?_ 4 _ rfl; (with_reducible repeat (first | refine blk_drewN ?_ _ | refine blk_drew ?_ | refine blk_alloc ?_ _)); refine blk_put (cs := #[.slice Ao25 x176000_1.length co25, .int .i64 a0_1, .string a0_2, .string (⟨#[]⟩ : ByteArray), .int .i64 0, .int .i64 0, .slice none 0 0, .int .i64 0, .int .i64 0]) ?_ 3 _ rfl; (with_reducible repeat (first | refine blk_drewN ?_ _ | refine blk_drew ?_ | refine blk_alloc ?_ _)); refine blk_put (cs := #[.slice Ao25 x176000_1.length co25, .int .i64 a0_1, .string (⟨#[]⟩ : ByteArray), .string (⟨#[]⟩ : ByteArray), .int .i64 0, .int .i64 0, .slice none 0 0, .int .i64 0, .int .i64 0]) ?_ 2 _ rfl; (with_reducible repeat (first | refine blk_drewN ?_ _ | refine blk_drew ?_ | refine blk_alloc ?_ _)); refine blk_put (cs := #[.slice Ao25 x176000_1.length co25, .int .i64 0, .string (⟨#[]⟩ : ByteArray), .string (⟨#[]⟩ : ByteArray), .int .i64 0, .int .i64 0, .slice none 0 0, .int .i64 0, .int .i64 0]) ?_ 1 _ rfl; (with_reducible repeat (first | refine blk_drewN ?_ _ | refine blk_drew ?_ | refine blk_alloc ?_ _)); refine blk_put (cs := #[.slice none 0 0, .int .i64 0, .string (⟨#[]⟩ : ByteArray), .string (⟨#[]⟩ : ByteArray), .int .i64 0, .int .i64 0, .slice none 0 0, .int .i64 0, .int .i64 0]) ?_ 0 _ rfl; (with_reducible repeat (first | refine blk_drewN ?_ _ | refine blk_drew ?_ | refine blk_alloc ?_ _)); exact BK174.out) Try.underlying42 rfl (by kernel_rfl)) rfl ?_
    exact ⟨_, _, by first | rfl | (simp [errW_none, errW_some] <;> rfl) | (simp [*, errW_none, errW_some] <;> rfl), by (with_reducible repeat (first | apply Kd.N_alloc | apply Kd.N_drewN | apply Kd.N_drew)); exact Kd.N_mono (Kd.N_far (p := ⟨gb174, 8, none⟩) (Kd.N_far (p := ⟨gb174, 7, none⟩) (Kd.N_far (p := ⟨gb174, 6, none⟩) (Kd.N_far (p := ⟨gb174, 5, none⟩) (Kd.N_far (p := ⟨gb174, 4, none⟩) (Kd.N_far (p := ⟨gb174, 3, none⟩) (Kd.N_far (p := ⟨gb174, 2, none⟩) (Kd.N_far (p := ⟨gb174, 1, none⟩) (Kd.N_far (p := ⟨gb174, 0, none⟩) (Kd.N_mono HO_176000.out (fun k_ hk => (⟨hk, hk.2.2.1⟩ : _ ∧ k_ ≠ gb174))) (fun _ hk => hk.2) (.slice Ao25 x176000_1.length co25)) (fun _ hk => hk.2) (.int .i64 a0_1)) (fun _ hk => hk.2) (.string a0_2)) (fun _ hk => hk.2) (.string a0_3)) (fun _ hk => hk.2) (.int .i64 a0_4)) (fun _ hk => hk.2) (.int .i64 a0_5)) (fun _ hk => hk.2) (.slice A0_6 l0_6.length c0_6)) (fun _ hk => hk.2) (.int .i64 a0_7)) (fun _ hk => hk.2) (.int .i64 a0_8)) (fun _ hk => hk.1.1), by (with_reducible repeat (first | apply Kd.V_alloc | apply Kd.V_drewN | apply Kd.V_drew)); exact Kd.V_mono (Kd.V_far (p := ⟨gb174, 8, none⟩) (Kd.V_far (p := ⟨gb174, 7, none⟩) (Kd.V_far (p := ⟨gb174, 6, none⟩) (Kd.V_far (p := ⟨gb174, 5, none⟩) (Kd.V_far (p := ⟨gb174, 4, none⟩) (Kd.V_far (p := ⟨gb174, 3, none⟩) (Kd.V_far (p := ⟨gb174, 2, none⟩) (Kd.V_far (p := ⟨gb174, 1, none⟩) (Kd.V_far (p := ⟨gb174, 0, none⟩) (Kd.V_mono HO_176006.out (fun k_ hk => (⟨hk, hk.2.2.2.1⟩ : _ ∧ k_ ≠ gb174))) (fun _ hk => hk.2) (.slice Ao25 x176000_1.length co25)) (fun _ hk => hk.2) (.int .i64 a0_1)) (fun _ hk => hk.2) (.string a0_2)) (fun _ hk => hk.2) (.string a0_3)) (fun _ hk => hk.2) (.int .i64 a0_4)) (fun _ hk => hk.2) (.int .i64 a0_5)) (fun _ hk => hk.2) (.slice A0_6 l0_6.length c0_6)) (fun _ hk => hk.2) (.int .i64 a0_7)) (fun _ hk => hk.2) (.int .i64 a0_8)) (fun _ hk => ⟨hk.1.1, hk.1.2.1⟩), by repeat (first | (with_reducible first | exact HB.out | apply below_alloc | apply pw_below_drewN | apply below_drew1 | refine below_set ?_ GE173.out | refine below_set ?_ GE174.out | refine below_set ?_ GE175.out) | exact HB.out)⟩
end Go.Proofs.Ytedjodnaalconaa.P
end
