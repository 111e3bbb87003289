/- Part 2 of 6 of the proof that 'YtedjodnaalconaaLawTmplTells' holds: functions of plain values for the Go functions that the law reaches, what each call comes to, and the plain law; of the words that the kit's print wrote, what these use. Written together by a program of this session; no condition of its own. -/
import Derived.Test.YtedjodnaalconaaTe1
import Derived.RangeFuncNested
import Derived.RangeFuncBound
import Derived.RangeFuncCalls
import Derived.RangeFuncLeaves
import Derived.Shelf.Abstract
import Derived.Shelf.RegionOpen
import Derived.OwnWalkIn
import Derived.TacticsInMore
import Derived.LoopNIn
import Derived.LoopIn
import Derived.Stop.RegionWithIn
import Derived.Shelf.Strings.Builder1
import Derived.Shelf.Strings.Builder2
import Derived.Shelf.Strings.OnBuilder
section
namespace Go.Proofs.Ytedjodnaalconaa.P
open Go.RowKit Go.Proofs.YtedjodnaalconaaW.PrintWords Go.Proofs.YtedjodnaalconaaW.PrintLast Go.Proofs.YtedjodnaalconaaW.PrintMore
attribute [local go_sem] max2_int min2_int max_two min_two max_three min_three max_four min_four
set_option linter.unusedVariables false
set_option linter.unusedSimpArgs false
mutual
def octet_Put.j0 : Nat → Int → Int → Bool → Option (ByteArray)
 | 0, _, _, _ => none
 | k + 1, x0, x1, x20 => if x20 = true then (some (⟨#[]⟩ : ByteArray)) else (if 0 ≤ x1 then (if (x1 : Int).toNat ≤ 281474976710656 then (octet_Put.l0 k x0 x1 (List.replicate (x1 : Int).toNat 0) x1 0) else (none)) else (none))
def octet_Put.l0 : Nat → Int → Int → List Int → Int → Int → Option (ByteArray)
 | 0, _, _, _, _, _ => none
 | k + 1, x0, x1, x5, x23, x24 => if x24 < x23 then (if 0 ≤ (wrap64 (8 * x24)) then (if 0 ≤ (wrap64 ((wrap64 (x1 - 1)) - x24)) then (if (wrap64 ((wrap64 (x1 - 1)) - x24)) < (x5.length : Int) then (octet_Put.l0 k x0 x1 (x5.set ((wrap64 ((wrap64 (x1 - 1)) - x24)) : Int).toNat ((shr .i64 x0 (wrap64 (8 * x24))) % 256)) x23 (wrap64 (x24 + 1))) else (none)) else (none)) else (none)) else (some (strOfNums x5))
end
def octet_Put.f (k : Nat) (a0 : Int) (a1 : Int) : Option (ByteArray) := (octet_sized.f a1).bind fun t135 => (if t135 = true then (if a0 < 0 then (octet_Put.j0 k a0 a1 true) else (if 0 ≤ (wrap64 (8 * a1)) then (octet_Put.j0 k a0 a1 ((shr .i64 a0 (wrap64 (8 * a1))) != 0)) else (none))) else (octet_Put.j0 k a0 a1 true))
theorem octet_Put.mono_l : ∀ k, (∀ y0 y1 y2, LeO (octet_Put.j0 k y0 y1 y2) (octet_Put.j0 (k + 1) y0 y1 y2)) ∧ (∀ y0 y1 y2 y3 y4, LeO (octet_Put.l0 k y0 y1 y2 y3 y4) (octet_Put.l0 (k + 1) y0 y1 y2 y3 y4))
 | 0 => ⟨fun _ _ _ r h => by simp [octet_Put.j0] at h, fun _ _ _ _ _ r h => by simp [octet_Put.l0] at h⟩
 | k + 1 => by
  obtain ⟨ih0, ih1⟩ := octet_Put.mono_l k
  refine ⟨?_, ?_⟩
  ·intro y0 y1 y2
   unfold octet_Put.j0
   repeat' first
   | (with_reducible exact ih0 _ _ _)
   | (with_reducible exact ih1 _ _ _ _ _)
   | (with_reducible exact LeO.refl _)
   | (with_reducible exact LeO.none _)
   | (with_reducible refine LeO.ite ?_ ?_)
   | (with_reducible refine LeO.bind ?_ (fun _ => ?_))
  ·intro y0 y1 y2 y3 y4
   unfold octet_Put.l0
   repeat' first
   | (with_reducible exact ih0 _ _ _)
   | (with_reducible exact ih1 _ _ _ _ _)
   | (with_reducible exact LeO.refl _)
   | (with_reducible exact LeO.none _)
   | (with_reducible refine LeO.ite ?_ ?_)
   | (with_reducible refine LeO.bind ?_ (fun _ => ?_))
theorem octet_Put.mono : ∀ a0 a1 k, LeO (octet_Put.f k a0 a1) (octet_Put.f (k + 1) a0 a1) := by
 intro a0 a1 k
 obtain ⟨ih0, ih1⟩ := octet_Put.mono_l k
 unfold octet_Put.f
 repeat' first
   | (with_reducible exact ih0 _ _ _)
   | (with_reducible exact ih1 _ _ _ _ _)
   | (with_reducible exact LeO.refl _)
   | (with_reducible exact LeO.none _)
   | (with_reducible refine LeO.ite ?_ ?_)
   | (with_reducible refine LeO.bind ?_ (fun _ => ?_))
set_option maxHeartbeats 8000000 in
set_option maxRecDepth 100000 in
theorem octet_Put.calls (k : Nat) (a0 : Int) (a1 : Int) (r : ByteArray) (w : World) (h : octet_Put.f k a0 a1 = some r) :
  Calls Try.prog 35 #[.int .i64 a0, .int .i64 a1] w fun e w' => e = .returned (.string r) ∧ Below w.heap.size w w' := by
 have HB := Aside0.mk (Below.refl w.heap.size w)
 have H : ((octet_sized.f a1).bind fun t135 => (if t135 = true then (if a0 < 0 then (octet_Put.j0 k a0 a1 true) else (if 0 ≤ (wrap64 (8 * a1)) then (octet_Put.j0 k a0 a1 ((shr .i64 a0 (wrap64 (8 * a1))) != 0)) else (none))) else (octet_Put.j0 k a0 a1 true))) = some r := h
 clear h
 have HC3 := Aside0.mk H
 clear H
 go_enter Try.func35, Try.ntmps35
 go_upto_region 1 with (fail)
 go_cut [20] (fun v20 wc => ∃ (kq : Nat) (x20_2 : Bool), v20 = .bool x20_2 ∧ Aside0 (octet_Put.j0 kq a0 a1 x20_2 = some r) ∧ Aside0 (kq ≤ k) ∧ Aside0 (Below w.heap.size w wc))
 case first =>
  have H := HC3.out
  clear HC3
  replace H := Option.bind_eq_some_iff.mp H
  obtain ⟨t135, A40, H⟩ := H
  replace H : (if t135 = true then (if a0 < 0 then (octet_Put.j0 k a0 a1 true) else (if 0 ≤ (wrap64 (8 * a1)) then (octet_Put.j0 k a0 a1 ((shr .i64 a0 (wrap64 (8 * a1))) != 0)) else (none))) else (octet_Put.j0 k a0 a1 true)) = some r := H
  have A4 := Aside0.mk A40
  clear A40
  by_cases c5 : t135 = true
  ·subst c5
   have H1 : (if a0 < 0 then (octet_Put.j0 k a0 a1 true) else (if 0 ≤ (wrap64 (8 * a1)) then (octet_Put.j0 k a0 a1 ((shr .i64 a0 (wrap64 (8 * a1))) != 0)) else (none))) = some r := by rw [if_pos rfl] at H; exact H
   clear H
   have H := H1
   clear H1
   by_cases c6 : a0 < 0
   ·rw [if_pos c6] at H
    have c6b0 : decide (a0 < 0) = true := decide_eq_true c6
    clear c6
    (first | rw [c6b0] | (simp only [i64_w, i32_w]; rw [c6b0]) | skip)
    have H' := Aside0.mk H
    clear H
    go_wp2_with (first | ((with_reducible refine gate_callee (f := 56) rfl ?_); refine goesL_ (some 8) rfl rfl Try.func56 (by kernel_rfl) rfl #[.int .i64 a1] rfl (by (try simp only [List.map_toArray, List.map_cons, List.map_nil]); first | done | rfl | (simp only [List.length_drop, List.length_take]; rfl)) ?_; (with_reducible refine (octet_sized.calls a1 true _ A4.out).mono ?_); rintro e w' ⟨rfl, ⟨nd, rfl⟩⟩; refine ⟨_, rfl, ?_⟩))
    go_meet
    case rel => exact ⟨_, (true), (by first | rfl | (simp; done) | (simp [*]; done)), H', ⟨by first | omega | exact Nat.le_refl _⟩, ⟨by repeat (first | (with_reducible first | exact HB.out | apply below_alloc | apply pw_below_drewN | apply below_drew1) | exact HB.out)⟩⟩
   ·rw [if_neg c6] at H
    have c6b0 : decide (a0 < 0) = false := decide_eq_false c6
    clear c6
    (first | rw [c6b0] | (simp only [i64_w, i32_w]; rw [c6b0]) | skip)
    obtain ⟨ji7, hji7⟩ : ∃ j_ : Int, (wrap64 (8 * a1)) = j_ := ⟨_, rfl⟩
    replace H : (if 0 ≤ (ji7) then (octet_Put.j0 k a0 a1 ((shr .i64 a0 (ji7)) != 0)) else (none)) = some r := by first | (rw [hji7] at H; exact H) | (simp only [hji7] at H ⊢; exact H)
    (try rw [hji7] at A4)
    have hji7w : (IntKind.i64.wrap (8 * a1)) = ji7 := (i64_w _).trans hji7
    by_cases c8 : 0 ≤ (ji7)
    ·rw [if_pos c8] at H
     have c8b0 := eq_true c8
     have c8b1 : decide (0 ≤ (ji7)) = true := decide_eq_true c8
     clear c8
     obtain ⟨ji9, hji9⟩ : ∃ j_ : Int, (shr .i64 a0 (ji7)) = j_ := ⟨_, rfl⟩
     replace H : (octet_Put.j0 k a0 a1 ((ji9) != 0)) = some r := by first | (rw [hji9] at H; exact H) | (simp only [hji9] at H ⊢; exact H)
     (try rw [hji9] at A4)
     have hji9_ : (a0 / 2 ^ min (ji7).toNat 64) = ji9 := hji9
     have hji9z : (ji7) ≤ 64 → (a0 / 2 ^ (ji7).toNat) = ji9 := shr_small hji9
     have H' := Aside0.mk H
     clear H
     go_wp2_with (first | ((with_reducible refine gate_callee (f := 56) rfl ?_); refine goesL_ (some 8) rfl rfl Try.func56 (by kernel_rfl) rfl #[.int .i64 a1] rfl (by (try simp only [List.map_toArray, List.map_cons, List.map_nil]); first | done | rfl | (simp only [List.length_drop, List.length_take]; rfl)) ?_; (with_reducible refine (octet_sized.calls a1 true _ A4.out).mono ?_); rintro e w' ⟨rfl, ⟨nd, rfl⟩⟩; refine ⟨_, rfl, ?_⟩))
     go_meet
     case rel => exact ⟨_, (((ji9) != 0)), (by first | rfl | (simp; done) | (simp only [← hji9] <;> (first | rfl | simp)) | (simp [*]; done)), H', ⟨by first | omega | exact Nat.le_refl _⟩, ⟨by repeat (first | (with_reducible first | exact HB.out | apply below_alloc | apply pw_below_drewN | apply below_drew1) | exact HB.out)⟩⟩
    ·rw [if_neg c8] at H
     exact absurd H (by simp)
  ·replace c5 := Bool.eq_false_iff.mpr c5
   subst c5
   have H1 : (octet_Put.j0 k a0 a1 true) = some r := by rw [if_neg (show ¬ (false = true) by decide)] at H; exact H
   clear H
   have H := H1
   clear H1
   have H' := Aside0.mk H
   clear H
   go_wp2_with (first | ((with_reducible refine gate_callee (f := 56) rfl ?_); refine goesL_ (some 8) rfl rfl Try.func56 (by kernel_rfl) rfl #[.int .i64 a1] rfl (by (try simp only [List.map_toArray, List.map_cons, List.map_nil]); first | done | rfl | (simp only [List.length_drop, List.length_take]; rfl)) ?_; (with_reducible refine (octet_sized.calls a1 false _ A4.out).mono ?_); rintro e w' ⟨rfl, ⟨nd, rfl⟩⟩; refine ⟨_, rfl, ?_⟩))
   go_meet
   case rel => exact ⟨_, (true), (by first | rfl | (simp; done) | (simp [*]; done)), H', ⟨by first | omega | exact Nat.le_refl _⟩, ⟨by repeat (first | (with_reducible first | exact HB.out | apply below_alloc | apply pw_below_drewN | apply below_drew1) | exact HB.out)⟩⟩
 case rest =>
  clear HC3
  try clear p2
  try clear c3
  try clear c5
  try clear c6
  try clear c6b0
  try clear p6
  try clear c8
  try clear c8b0
  try clear c8b1
  obtain ⟨kq, x20_2, rfl, HA, HJ2, HB⟩ := hcut
  cases kq with
  | zero => exact absurd HA.out (by simp [octet_Put.j0])
  | succ kj2 =>
   have H := HA.out
   clear HA
   simp only [octet_Put.j0] at H
   by_cases c10 : x20_2 = true
   ·subst c10
    have H1 : (some (⟨#[]⟩ : ByteArray)) = some r := by rw [if_pos rfl] at H; exact H
    clear H
    have H := H1
    clear H1
    obtain rfl := Option.some.inj H
    go_wp2
    go_ret
    exact ⟨by first | rfl | (simp [errW_none, errW_some] <;> rfl) | (simp [*, errW_none, errW_some] <;> rfl), by repeat (first | (with_reducible first | exact HB.out | apply below_alloc | apply pw_below_drewN | apply below_drew1) | exact HB.out)⟩
   ·replace c10 := Bool.eq_false_iff.mpr c10
    subst c10
    have H1 : (if 0 ≤ a1 then (if (a1 : Int).toNat ≤ 281474976710656 then (octet_Put.l0 kj2 a0 a1 (List.replicate (a1 : Int).toNat 0) a1 0) else (none)) else (none)) = some r := by rw [if_neg (show ¬ (false = true) by decide)] at H; exact H
    clear H
    have H := H1
    clear H1
    by_cases c11 : 0 ≤ a1
    ·rw [if_pos c11] at H
     have c11b0 := eq_true c11
     have c11b1 : decide (0 ≤ a1) = true := decide_eq_true c11
     clear c11
     by_cases c12 : (a1 : Int).toNat ≤ 281474976710656
     ·rw [if_pos c12] at H
      have c12b0 := eq_true c12
      have c12b1 : decide ((a1 : Int).toNat ≤ 281474976710656) = true := decide_eq_true c12
      clear c12
      obtain ⟨y136, hy136⟩ : ∃ y_ : List Int, y_ = (List.replicate (a1 : Int).toNat 0) := ⟨_, rfl⟩
      replace H : (octet_Put.l0 kj2 a0 a1 y136 a1 0) = some r := by first | (rw [hy136]; with_reducible exact H) | (have H2_ := (Option.bind_some _ _).symm.trans H; rw [hy136]; with_reducible exact H2_) | (have H2_ := (Option.bind_some _ _).symm.trans H; with_reducible exact H2_) | with_reducible exact H | (rw [hy136]; exact H) | exact H
      have Ny136 := Aside0.mk hy136
      clear hy136
      have H' := Aside0.mk H
      clear H
      go_wp2_with (first | ((with_reducible refine gate_dst (N := 22) rfl ?_); refine Kd.R_make (Kd.int .u8) _ 5 rfl (N := 22) rfl 84 _ _ rfl a1 rfl rfl Try.underlying84 (.int .u8 0) 1 info5 rfl (by decide) (by omega) 0 (ok := fun _ => True) (okp := fun _ => True) rfl (fun _ hk => hk) trivial (of_decide_eq_true (by first | (with_reducible assumption) | assumption)) (Nat.le_trans (Nat.mul_le_mul_right _ (of_decide_eq_true (by first | (with_reducible assumption) | assumption) : a1.toNat ≤ 281474976710656)) (by omega)) (Below.refl _ _) (Nat.le_refl _) ?_; intro v137 w13 ho14 hb hg_ hnew_; clear hg_ hnew_; (first | rw [← Ny136.out] at ho14 | (simp only [Int.reduceToNat] at ho14; rw [← Ny136.out] at ho14)); have n0_ := Aside0.mk (Kd.R_lower ho14 (below_size (by repeat (first | (with_reducible first | exact HB.out | apply below_alloc | apply pw_below_drewN | apply below_drew1) | exact HB.out)))); have n1_ := Aside0.mk (below_step (by repeat (first | (with_reducible first | exact HB.out | apply below_alloc | apply pw_below_drewN | apply below_drew1) | exact HB.out)) hb); clear HB; have HO138 := n0_; have HB := n1_; clear n0_ n1_; clear hb ho14))
      go_loopg [24] kj2 (fun kq v24 w' => ∃ (x5_2 : List Int) (x24_2 : Int), v24 = .int .i64 x24_2 ∧ Aside0 (octet_Put.l0 kq a0 a1 x5_2 a1 x24_2 = some r) ∧ Aside0 (kq ≤ kj2) ∧ Aside0 (Kd.R (Kd.int .u8) 5 w' w.heap.size (fun _ => True) v137 x5_2) ∧ Aside0 (Below w.heap.size w w'))
      case atStart => exact ⟨(y136), (0), (by first | rfl | (simp; done) | (simp [*]; done)), H', ⟨Nat.le_refl _⟩, ⟨by (with_reducible repeat (first | apply Kd.R_alloc | apply Kd.R_drewN | apply Kd.R_drew)); exact HO138.out⟩, ⟨by repeat (first | (with_reducible first | exact HB.out | apply below_alloc | apply pw_below_drewN | apply below_drew1) | exact HB.out)⟩⟩
      case round =>
       clear H'
       try clear c1
       try clear p2
       try clear c3
       try clear c5
       try clear c6
       try clear c6b0
       try clear p6
       try clear c8
       try clear c8b0
       try clear c8b1
       try clear c10
       try clear c11
       try clear c11b0
       try clear c11b1
       try clear c12
       try clear c12b0
       try clear c12b1
       try clear p2
       try clear p6
       obtain ⟨x5_2, x24_2, rfl, HA, HK2, HO_5, HB⟩ := hrel
       cases gk with
       | zero => exact absurd HA.out (by simp [octet_Put.l0])
       | succ k2 =>
        have H := HA.out
        clear HA
        simp only [octet_Put.l0] at H
        by_cases c15 : x24_2 < a1
        ·rw [if_pos c15] at H
         have c15b0 : decide (x24_2 < a1) = true := decide_eq_true c15
         clear c15
         obtain ⟨ji16, hji16⟩ : ∃ j_ : Int, (wrap64 (8 * x24_2)) = j_ := ⟨_, rfl⟩
         replace H : (if 0 ≤ (ji16) then (if 0 ≤ (wrap64 ((wrap64 (a1 - 1)) - x24_2)) then (if (wrap64 ((wrap64 (a1 - 1)) - x24_2)) < (x5_2.length : Int) then (octet_Put.l0 k2 a0 a1 (x5_2.set ((wrap64 ((wrap64 (a1 - 1)) - x24_2)) : Int).toNat ((shr .i64 a0 (ji16)) % 256)) a1 (wrap64 (x24_2 + 1))) else (none)) else (none)) else (none)) = some r := by first | (rw [hji16] at H; exact H) | (simp only [hji16] at H ⊢; exact H)
         have hji16w : (IntKind.i64.wrap (8 * x24_2)) = ji16 := (i64_w _).trans hji16
         by_cases c17 : 0 ≤ (ji16)
         ·rw [if_pos c17] at H
          have c17b0 := eq_true c17
          have c17b1 : decide (0 ≤ (ji16)) = true := decide_eq_true c17
          clear c17
          obtain ⟨ji18, hji18⟩ : ∃ j_ : Int, (shr .i64 a0 (ji16)) = j_ := ⟨_, rfl⟩
          replace H : (if 0 ≤ (wrap64 ((wrap64 (a1 - 1)) - x24_2)) then (if (wrap64 ((wrap64 (a1 - 1)) - x24_2)) < (x5_2.length : Int) then (octet_Put.l0 k2 a0 a1 (x5_2.set ((wrap64 ((wrap64 (a1 - 1)) - x24_2)) : Int).toNat ((ji18) % 256)) a1 (wrap64 (x24_2 + 1))) else (none)) else (none)) = some r := by first | (rw [hji18] at H; exact H) | (simp only [hji18] at H ⊢; exact H)
          have hji18_ : (a0 / 2 ^ min (ji16).toNat 64) = ji18 := hji18
          have hji18z : (ji16) ≤ 64 → (a0 / 2 ^ (ji16).toNat) = ji18 := shr_small hji18
          obtain ⟨ji19, hji19⟩ : ∃ j_ : Int, (wrap64 ((wrap64 (a1 - 1)) - x24_2)) = j_ := ⟨_, rfl⟩
          replace H : (if 0 ≤ (ji19) then (if (ji19) < (x5_2.length : Int) then (octet_Put.l0 k2 a0 a1 (x5_2.set ((ji19) : Int).toNat ((ji18) % 256)) a1 (wrap64 (x24_2 + 1))) else (none)) else (none)) = some r := by first | (rw [hji19] at H; exact H) | (simp only [hji19] at H ⊢; exact H)
          have hji19w : (IntKind.i64.wrap ((wrap64 (a1 - 1)) - x24_2)) = ji19 := (i64_w _).trans hji19
          by_cases c20 : 0 ≤ (ji19)
          ·rw [if_pos c20] at H
           have c20b0 : decide (0 ≤ (ji19)) = true := decide_eq_true c20
           clear c20
           by_cases c21 : (ji19) < (x5_2.length : Int)
           ·rw [if_pos c21] at H
            have c21b0 : decide ((ji19) < (x5_2.length : Int)) = true := decide_eq_true c21
            clear c21
            obtain ⟨y139, hy139⟩ : ∃ y_ : List Int, y_ = (x5_2.set ((ji19) : Int).toNat ((ji18) % 256)) := ⟨_, rfl⟩
            replace H : (octet_Put.l0 k2 a0 a1 y139 a1 (wrap64 (x24_2 + 1))) = some r := by first | (rw [hy139]; with_reducible exact H) | (have H2_ := (Option.bind_some _ _).symm.trans H; rw [hy139]; with_reducible exact H2_) | (have H2_ := (Option.bind_some _ _).symm.trans H; with_reducible exact H2_) | with_reducible exact H | (rw [hy139]; exact H) | exact H
            have Ny139 := Aside0.mk hy139
            clear hy139
            have H' := Aside0.mk H
            clear H
            have p22 : 0 ≤ ((ji19) : Int) := of_decide_eq_true (by first | (with_reducible assumption) | assumption)
            have q22 : ((ji19) : Int) < ((x5_2.length : Int) : Int) := of_decide_eq_true (by first | (with_reducible assumption) | assumption)
            obtain ⟨go22, co22, eo22, gb22, gl22, cl22, HG22⟩ := Kd.R_form HO_5.out (by omega)
            (first | cases eo22 | (injection eo22 with ea_ en_ ec_; (first | subst ea_ | (injection ea_ with ea_; subst ea_)); subst ec_; clear en_))
            have GB22 := Aside0.mk gb22
            have GG22 := Aside0.mk HG22
            clear gb22 gl22 HG22
            obtain ⟨hx22_0, hf22_0⟩ := Kd.R_celln 0 HO_5.out ((ji19) : Int) p22 q22
            replace p22 := eq_true p22
            replace q22 := eq_true q22
            have HP23 := Kd.R_putg HO_5.out ((ji19) : Int) ((ji18) % 256)
            go_wp2_with (first | ((with_reducible refine gate_store (t := 5) (p := 37) rfl ?_); refine store_event (t := 5) (p := 37) (v := ?vo_w24) (w1 := (wr.setCell ⟨go22, ((ji19) : Int).toNat, none⟩ (.int .u8 ((ji18) % 256)))) ?hg ?ho ?hn ?hr ?_; (case ho => rfl); (case hg => rfl); (case hn => rfl); (case hr => first | (go_simp; done) | (go_simp; rfl)); intro w24 hw; have hg : wr.grownBy w24 (some go22) := (by rw [hw]; exact HP23.2); have hp_ : Kd.R (Kd.int .u8) 5 w24 w.heap.size (fun _ => True) (.slice (some ⟨go22, 0, none⟩) x5_2.length co22) y139 := (by rw [hw, Ny139.out]; exact HP23.1); clear HP23; have n0_ := Aside0.mk (hp_); have n1_ := Aside0.mk ((by rw [hw]; exact below_set (HB.out) GB22.out : Below w.heap.size w w24)); clear HO_5; clear HB; have HO_5 := n0_; have HB := n1_; clear n0_ n1_; clear hg hw hp_))
            go_roundg k2
            case measure => have := HJ2.out; have := HK2.out; omega
            case rel => exact ⟨(y139), (wrap64 (x24_2 + 1)), (by first | rfl | (simp; done) | (simp [*]; done)), H', ⟨by have := HJ2.out; have := HK2.out; omega⟩, ⟨by (with_reducible repeat (first | apply Kd.R_alloc | apply Kd.R_drewN | apply Kd.R_drew)); exact HO_5.out⟩, ⟨by repeat (first | (with_reducible first | exact HB.out | apply below_alloc | apply pw_below_drewN | apply below_drew1) | exact HB.out)⟩⟩
           ·rw [if_neg c21] at H
            exact absurd H (by simp)
          ·rw [if_neg c20] at H
           exact absurd H (by simp)
         ·rw [if_neg c17] at H
          exact absurd H (by simp)
        ·rw [if_neg c15] at H
         have c15b0 : decide (x24_2 < a1) = false := decide_eq_false c15
         clear c15
         obtain rfl := Option.some.inj H
         have hcv25 := own_string (P := Try.prog) Try.underlying84 Try.underlying5 Try.underlying9 (Kd.own_of_R HO_5.out)
         go_wp2
         go_ret
         exact ⟨by first | rfl | (simp [errW_none, errW_some] <;> rfl) | (simp [*, errW_none, errW_some] <;> rfl), by repeat (first | (with_reducible first | exact HB.out | apply below_alloc | apply pw_below_drewN | apply below_drew1) | exact HB.out)⟩
     ·rw [if_neg c12] at H
      exact absurd H (by simp)
    ·rw [if_neg c11] at H
     exact absurd H (by simp)
section
open Go
abbrev tB : Nat := 86
structure BAt (B b o : Nat) (cs : Array Value) (T : Nat) (v : Value) (bs : List Value) (w : World) : Prop where
 hB : B ≤ b
 blk : w.heap[b]? = some (.cells cs T (0, 0))
 c0 : cs[o]? = some (.pointer none) ∨ cs[o]? = some (.pointer (some ⟨b, o, none⟩))
 c1 : cs[o + 1]? = some v
 own : w.ownsRow B 5 1 v bs.length bs
 ne : v.ownBlock ≠ some b
 lies : liesAt Try.prog Try.prog.depth T (cs.size / Try.prog.cellsOf T) o 86 1 = true
 Tne : T ≠ 5
theorem BAt.lt {B b o : Nat} {cs : Array Value} {T : Nat} {v : Value} {bs : List Value} {w : World} (h : BAt B b o cs T v bs w) : b < w.heap.size := by
 rcases Nat.lt_or_ge b w.heap.size with h' | h'
 ·exact h'
 ·have := h.blk
  simp [Array.getElem?_eq_none h'] at this
theorem BAt.cellAt {B b o : Nat} {cs : Array Value} {T : Nat} {v : Value} {bs : List Value} {w : World} (h : BAt B b o cs T v bs w) (j : Nat) : w.cell? ⟨b, j, none⟩ = cs[j]? := Lib.cell_of_heap h.blk j
theorem BAt.oLt {B b o : Nat} {cs : Array Value} {T : Nat} {v : Value} {bs : List Value} {w : World} (h : BAt B b o cs T v bs w) : o + 1 < cs.size := by
 rcases Nat.lt_or_ge (o + 1) cs.size with h' | h'
 ·exact h'
 ·have := h.c1
  simp [Array.getElem?_eq_none h'] at this
theorem BAt.used {B b o : Nat} {cs : Array Value} {T : Nat} {v : Value} {bs : List Value} {w : World} (h : BAt B b o cs T v bs w) :
  BAt B b o (cs.setIfInBounds o (.pointer (some ⟨b, o, none⟩))) T v bs (w.setCell ⟨b, o, none⟩ (.pointer (some ⟨b, o, none⟩))) where
 hB := h.hB
 blk := by have := h.blk; simp [World.setCell, Array.getElem?_modify, this]
 c0 := .inr (by have := h.oLt; simp [Array.getElem?_setIfInBounds]; omega)
 c1 := by rw [Array.getElem?_setIfInBounds_ne (by omega)]; exact h.c1
 own := h.own.kept (row := some b) ⟨rfl, rfl, rfl, by simp [World.setCell], fun k _ hk => Below.heap_setCell _ _ _ _ (fun e => hk (by simp [e]))⟩ (.inr h.ne)
 ne := h.ne
 lies := by simpa using h.lies
 Tne := h.Tne
set_option maxHeartbeats 1000000 in
set_option maxRecDepth 100000 in
theorem bld_copyCheckK {B b o : Nat} {cs : Array Value} {T : Nat} {v : Value} {bs : List Value} (w : World) (h : BAt B b o cs T v bs w) :
  Calls Try.prog 58 #[.pointer (some ⟨b, o, none⟩)] w fun e w' => e = .returned (.tuple #[]) ∧
   BAt B b o (cs.setIfInBounds o (.pointer (some ⟨b, o, none⟩))) T v bs w' ∧ Below B w w' ∧ Kept w w' (fun k => k = b) := by
 have hc := h.cellAt o
 have hsh : w.shape? b = some (T, cs.size) := by have := h.blk; simp [World.shape?, this]
 have hlt := h.oLt
 have HU := Aside0.mk h.used
 have hlies := h.lies
 have hB := h.hB
 obtain ⟨j, hj, hjs⟩ := Option.map_eq_some_iff.1 (show (Try.prog.info? 86).map (·.size) = some 2 by kernel_rfl)
 have hfz : w.frozen? ⟨b, o, none⟩ = false := Lib.frozen_of_heap h.blk o
 have H := Aside0.mk h
 rcases h.c0 with h0 | h0
 ·rw [h0] at hc
  clear h h0
  go_enter Try.func58, Try.ntmps58
  go_wp2
  rw [Lib.run_to_unsafe w ⟨b, o, none⟩ Try.underlying83 Try.underlying114 hj (by rw [hjs]; decide) hsh (show o < cs.size by omega)]
  simp only [Result.andThen]
  rw [Oper.upon_value]
  go_wp2
  rw [run_callFunc_extern Try.func74 (by kernel_rfl) (by kernel_rfl) (by kernel_rfl) (e := Extern.AbiNoEscape.same) (by kernel_rfl)]
  rw [Lib.run_noEscape]
  simp only [Result.andThen]
  rw [Oper.upon_value]
  go_wp2
  rw [Lib.run_from_unsafe w ⟨b, o, none⟩ Try.underlying114 Try.underlying83 hj hsh hlies]
  simp only [Result.andThen]
  rw [Oper.upon_value]
  go_wp2
  go_end0
  exact ⟨rfl, HU.out, (Below.refl B w).setCell (p := ⟨b, o, none⟩) hB _, Kept.setCell (S := fun k => k = b) (Kept.refl w _) (p := ⟨b, o, none⟩) (.inl rfl) _⟩
 ·rw [h0] at hc
  have he : cs.setIfInBounds o (.pointer (some ⟨b, o, none⟩)) = cs := by
   apply Array.ext_getElem?
   intro i
   rw [Array.getElem?_setIfInBounds]
   split
   ·rename_i hi; subst hi; rw [if_pos (by omega), h0]
   ·rfl
  rw [he]
  clear h h0 he HU
  go_enter Try.func58, Try.ntmps58
  go_wp2
  rw [Lib.run_neq_ptr_same w _ Try.underlying83 hj]
  go_wp2
  go_end0
  exact ⟨rfl, H.out, Below.refl B _, Kept.refl _ _⟩
theorem bld_copyCheck {B b o : Nat} {cs : Array Value} {T : Nat} {v : Value} {bs : List Value} (w : World) (h : BAt B b o cs T v bs w) :
  Calls Try.prog 58 #[.pointer (some ⟨b, o, none⟩)] w fun e w' => e = .returned (.tuple #[]) ∧
   BAt B b o (cs.setIfInBounds o (.pointer (some ⟨b, o, none⟩))) T v bs w' ∧ Below B w w' := (bld_copyCheckK w h).mono fun _ _ ⟨h1, h2, h3, _⟩ => ⟨h1, h2, h3⟩
end
end Go.Proofs.Ytedjodnaalconaa.P
end
section
namespace Go.Proofs.Ytedjodnaalconaa.P
open Go.RowKit Go.Proofs.YtedjodnaalconaaW.PrintWords Go.Proofs.YtedjodnaalconaaW.PrintLast Go.Proofs.YtedjodnaalconaaW.PrintMore
attribute [local go_sem] max2_int min2_int max_two min_two max_three min_three max_four min_four
set_option linter.unusedVariables false
set_option linter.unusedSimpArgs false
theorem bld_cellsByte : Try.prog.cellsOf 5 = 1 := by kernel_rfl
set_option maxHeartbeats 1000000 in
set_option maxRecDepth 100000 in
theorem bld_StringK {B b o : Nat} {cs : Array Value} {T : Nat} {v : Value} (l : List UInt8) (w : World) (h : BAt B b o cs T v (Lib.byteCells l) w) (hBw : B ≤ w.heap.size) :
  Calls Try.prog 39 #[.pointer (some ⟨b, o, none⟩)] w fun e w' => e = .returned (.string ⟨l.toArray⟩) ∧ (∀ j, j < B → w'.heap[j]? = w.heap[j]?) ∧ w'.heap[b]? = w.heap[b]? ∧ Below B w w' ∧ Kept w w' (fun k => some k = v.ownBlock) := by
 have hown := h.own
 rw [Lib.byteCells_length] at hown
 have hlt := h.lt
 have hc1 := h.cellAt (o + 1)
 rw [h.c1] at hc1
 have hne := h.ne
 have hblk := Aside0.mk h.blk
 have hUS0 : ∀ (W : World) (q : Option Addr), (Builtin.unsafeString_ #[104, 3] 9 #[.pointer q, .int .i64 0]).run Try.prog W = .ok (.string .empty) W := fun W q => Lib.run_unsafeString_none W _ _ _ q
 by_cases h0 : l = []
 ·subst h0
  clear h
  rcases hown.2 with ⟨rfl, _⟩ | ⟨g, cap, cur, rfl, hbg, hg, _, _, _, _⟩
  ·have c1 : w.drew.cell? ⟨b, o + 1, none⟩ = some (.slice none 0 0) := hc1
   have hSD : (Builtin.unsafeSliceData_ #[84] 104 #[.slice none 0 0]).run Try.prog w.drew = .ok (.pointer none) w.drew := rfl
   clear hown hc1 hne
   go_enter Try.func39, Try.ntmps39
   go_wp2
   go_region
   all_goals (go_wp2; go_ret; exact ⟨rfl, fun _ _ => rfl, rfl, Below.drew (Below.refl B w), Kept.drew (Kept.refl w _)⟩)
  ·by_cases hc0 : cap = 0
   ·subst hc0
    have c1 : w.drew.cell? ⟨b, o + 1, none⟩ = some (.slice (some ⟨g, 0, none⟩) 0 0) := hc1
    have hSD : (Builtin.unsafeSliceData_ #[84] 104 #[.slice (some ⟨g, 0, none⟩) 0 0]).run Try.prog w.drew = .ok (.pointer (some ⟨w.drew.heap.size, 0, none⟩)) (w.drew.alloc (.view ⟨g, 0, none⟩ 5)) :=
     Lib.run_unsafeSliceData_zero w.drew _ _ 5 Try.underlying104 ⟨g, 0, none⟩ 0 (5, cur.size) (by have hg' : w.drew.heap[g]? = some (.cells cur 5 (0, 0)) := hg; simp [World.shape?, hg'])
    have c2 : (w.drew.alloc (.view ⟨g, 0, none⟩ 5)).cell? ⟨b, o + 1, none⟩ = some (.slice (some ⟨g, 0, none⟩) 0 0) := by
     have he : (w.drew.alloc (.view ⟨g, 0, none⟩ 5)).heap[b]? = _ := (Lib.alloc_old w.drew _ b hlt).trans hblk.out
     have he2 : w.heap[b]? = _ := hblk.out
     rw [Lib.cell_of_heap he]; rw [Lib.cell_of_heap he2] at hc1; exact hc1
    have c3 : (w.alloc (.view ⟨g, 0, none⟩ 5)).drew.cell? ⟨b, o + 1, none⟩ = some (.slice (some ⟨g, 0, none⟩) 0 0) := c2
    have hol : ∀ i, i < w.heap.size → (w.alloc (.view ⟨g, 0, none⟩ 5)).drew.heap[i]? = w.heap[i]? := fun i hi => Lib.alloc_old w _ i hi
    have HOL := Aside0.mk hol
    clear hown hne hg hol
    go_enter Try.func39, Try.ntmps39
    go_wp2
    go_region
    all_goals (go_wp2; go_ret; exact ⟨rfl, fun j hj => HOL.out j (by omega), HOL.out b hlt, (Below.drew (Below.refl B w)).alloc hBw _, Kept.alloc (Kept.drew (Kept.refl w _)) _⟩)
   ·have c1 : w.drew.cell? ⟨b, o + 1, none⟩ = some (.slice (some ⟨g, 0, none⟩) 0 cap) := hc1
    have hSD : (Builtin.unsafeSliceData_ #[84] 104 #[.slice (some ⟨g, 0, none⟩) 0 cap]).run Try.prog w.drew = .ok (.pointer (some ⟨g, 0, none⟩)) w.drew :=
     Lib.run_unsafeSliceData_row _ _ _ _ _ _ hc0
    clear hc0 hown hc1 hne hg
    go_enter Try.func39, Try.ntmps39
    go_wp2
    go_region
    all_goals (go_wp2; go_ret; exact ⟨rfl, fun _ _ => rfl, rfl, Below.drew (Below.refl B w), Kept.drew (Kept.refl w _)⟩)
 ·have hl0 : l.length ≠ 0 := by simpa using h0
  clear h
  obtain ⟨g, cap, cur, rfl, hbg, hg, hnc, hcm, hcs, htake⟩ : ∃ g cap cur, v = .slice (some ⟨g, 0, none⟩) l.length cap ∧ B ≤ g ∧ w.heap[g]? = some (.cells cur 5 (0, 0)) ∧ l.length ≤ cap ∧ cap ≤ maxLen ∧ cur.size = cap * 1 ∧ cur.toList.take (l.length * 1) = Lib.byteCells l := by
   rcases hown.2 with ⟨_, hz⟩ | ⟨g, cap, cur, hv, r⟩
   ·exact absurd hz hl0
   ·exact ⟨g, cap, cur, hv, r⟩
  have c1 : w.drew.cell? ⟨b, o + 1, none⟩ = some (.slice (some ⟨g, 0, none⟩) l.length cap) := hc1
  have hSD : (Builtin.unsafeSliceData_ #[84] 104 #[.slice (some ⟨g, 0, none⟩) l.length cap]).run Try.prog w.drew = .ok (.pointer (some ⟨g, 0, none⟩)) w.drew :=
   Lib.run_unsafeSliceData_row _ _ _ _ _ _ (by omega)
  have hUS : (Builtin.unsafeString_ #[104, 3] 9 #[.pointer (some ⟨g, 0, none⟩), .int .i64 l.length]).run Try.prog w.drew = .ok (.string ⟨l.toArray⟩) (w.drew.freeze ⟨g, 0, none⟩ l.length) := by
   refine Lib.run_unsafeString_row w.drew 104 3 9 5 Try.underlying104 bld_cellsByte g cur.size (by have hg' : w.drew.heap[g]? = some (.cells cur 5 (0, 0)) := hg; simp [World.shape?, hg']) l h0 (by omega) (by unfold maxLen at hcm; omega) ?_
   intro j x hx
   have := hown.cells (g := g) rfl j (.int .u8 x.toNat) (by simp [Lib.byteCells, hx])
   exact this
  have hol : ∀ i, i ≠ g → (w.drew.freeze ⟨g, 0, none⟩ l.length).heap[i]? = w.heap[i]? := fun i hi => by
   unfold World.freeze
   split
   ·rfl
   ·show (w.drew.heap.modify _ _)[i]? = _
    rw [Array.getElem?_modify, if_neg (Ne.symm hi)]
    rfl
  have HOL := Aside0.mk hol
  have HSZ : Aside0 (w.heap.size ≤ (w.drew.freeze ⟨g, 0, none⟩ l.length).heap.size) := ⟨by
   unfold World.freeze
   split
   ·exact Nat.le_refl _
   ·show w.heap.size ≤ (w.drew.heap.modify _ _).size
    rw [Array.size_modify]
    exact Nat.le_refl _⟩
  have hgb : b ≠ g := fun e => hne (by simp [Value.ownBlock, e])
  have HGB := Aside0.mk hgb
  clear hown hc1 hg htake hcs hol hUS0 hgb h0 hl0
  go_enter Try.func39, Try.ntmps39
  go_wp2
  go_region
  all_goals (go_wp2; go_ret; exact ⟨rfl, fun j hj => HOL.out j (by omega), HOL.out b HGB.out, Lib.below_freeze (Below.drew (Below.refl B w)) (p := ⟨g, 0, none⟩) hbg _, ⟨HSZ.out, fun i _ hi => HOL.out i (fun e => hi (by rw [e]; simp [Value.ownBlock]))⟩⟩)
theorem bld_String {B b o : Nat} {cs : Array Value} {T : Nat} {v : Value} (l : List UInt8) (w : World) (h : BAt B b o cs T v (Lib.byteCells l) w) (hBw : B ≤ w.heap.size) :
  Calls Try.prog 39 #[.pointer (some ⟨b, o, none⟩)] w fun e w' => e = .returned (.string ⟨l.toArray⟩) ∧ (∀ j, j < B → w'.heap[j]? = w.heap[j]?) ∧ w'.heap[b]? = w.heap[b]? ∧ Below B w w' :=
 (bld_StringK l w h hBw).mono fun _ _ ⟨h1, h2, h3, h4, _⟩ => ⟨h1, h2, h3, h4⟩
theorem BAt.drewN {B b o : Nat} {cs : Array Value} {T : Nat} {v : Value} {bs : List Value} {w : World} (h : BAt B b o cs T v bs w) (n : Nat) : BAt B b o cs T v bs (w.drewN n) := ⟨h.hB, h.blk, h.c0, h.c1, h.own, h.ne, h.lies, h.Tne⟩
theorem BAt.put {B b o : Nat} {cs : Array Value} {T : Nat} {v v' : Value} {bs bs' : List Value} {w w2 : World} (h : BAt B b o cs T v bs w) (hb2 : w2.heap[b]? = some (.cells cs T (0, 0))) (hown : w2.ownsRow B 5 1 v' bs'.length bs') :
  BAt B b o (cs.setIfInBounds (o + 1) v') T v' bs' (w2.setCell ⟨b, o + 1, none⟩ v') := by
 have hne := Lib.ownBlock_ne hown hb2 h.Tne
 have := h.oLt
 exact {
  hB := h.hB
  blk := by simp [World.setCell, Array.getElem?_modify, hb2]
  c0 := by rw [Array.getElem?_setIfInBounds_ne (by omega)]; exact h.c0
  c1 := by simp [Array.getElem?_setIfInBounds]; omega
  own := hown.kept (row := some b) ⟨rfl, rfl, rfl, by simp [World.setCell], fun k _ hk => Below.heap_setCell _ _ _ _ (fun e => hk (by simp [e]))⟩ (.inr hne)
  ne := hne
  lies := by simpa using h.lies
  Tne := h.Tne }
theorem bld_infoByte : (Try.prog.info? 5).map (fun i => (i.zero, i.size, i.bytes)) = some (some (.int .u8 0), 1, 1) := by kernel_rfl
theorem own_cells {w : World} {base : Nat} {e : TypeId} {size n : Nat} {v : Value} {xs : List Value} (h : w.ownsRow base e size v n xs) (k : Nat) (hk : v.ownBlock = some k) : ∃ cells, w.heap[k]? = some (.cells cells e (0, 0)) := by
 rcases h.2 with ⟨rfl, _⟩ | ⟨g, cap, cur, rfl, _, hg, _⟩
 ·simp [Value.ownBlock] at hk
 ·simp only [Value.ownBlock, Option.map_some, Option.some.injEq] at hk
  subst hk
  exact ⟨_, hg⟩
set_option maxHeartbeats 2000000 in
set_option maxRecDepth 100000 in
theorem bld_WriteStringK {B b o : Nat} {cs : Array Value} {T : Nat} {v : Value} {bs : List Value} (s : ByteArray) (w : World) (h : BAt B b o cs T v bs w) (hlen : bs.length + s.size ≤ 140737488355328) (hBw : B ≤ w.heap.size) :
  Calls Try.prog 38 #[.pointer (some ⟨b, o, none⟩), .string s] w fun e w' => e = .returned (.tuple #[.int .i64 s.size, .nilIface]) ∧
   ∃ v', BAt B b o ((cs.setIfInBounds o (.pointer (some ⟨b, o, none⟩))).setIfInBounds (o + 1) v') T v' (bs ++ Lib.strCells s) w' ∧ Below B w w' ∧ Kept w w' (fun k => k = b ∨ some k = v.ownBlock) := by
 obtain ⟨i0, hi, hz0, hz1, hz2⟩ := info_parts bld_infoByte
 have H := Aside0.mk h
 clear h
 go_enter Try.func38, Try.ntmps38
 go_wp2_with (go_at_call 58; refine (bld_copyCheckK _ H.out).mono ?_)
 rintro e w1 ⟨rfl, h1, hb1, hk1⟩
 have HK1 := Aside0.mk hk1
 clear hk1
 have hbk := h1.blk
 have c1 : w1.cell? ⟨b, o + 1, none⟩ = some v := by rw [Lib.cell_of_heap hbk]; exact h1.c1
 have hown := h1.own
 have hne := h1.ne
 have hB := h1.hB
 have hlt := h1.lt
 have H1 := Aside0.mk h1
 have HB1 := Aside0.mk hb1
 have hsz := hb1.size
 clear h1 hb1
 generalize hcs : cs.setIfInBounds o (.pointer (some ⟨b, o, none⟩)) = cs1 at *
 have Hcs := Aside0.mk hcs
 clear hcs
 go_wp2_with (at_builtin; refine Lib.wpList_append_own_string _ rfl _ _ 84 9 rfl B 5 i0 Try.underlying84 Try.underlying9 hi hz0 hz1 hz2 _ _ _ rfl hown s rfl ?c3 ?c4 ?c5 ?_)
 case c3 => unfold maxLen; omega
 case c4 => omega
 case c5 => omega
 intro v' w2 hown' hgrow _
 have hb2 : w2.heap[b]? = some (.cells cs1 T (0, 0)) := by
  rw [hgrow.block b hlt (fun e => hne e.symm)]
  exact hbk
 have d1 : w2.cell? ⟨b, o + 1, none⟩ = some v := by rw [Lib.cell_of_heap hb2]; exact H1.out.c1
 have f1 : w2.frozen? ⟨b, o + 1, none⟩ = false := Lib.frozen_of_heap hb2 _
 obtain ⟨ao, n', cap, rfl⟩ : ∃ ao n' cap, v' = .slice ao n' cap := by
  rcases hown'.2 with ⟨hv, _⟩ | ⟨g, cap, cur, hv, _⟩
  ·exact ⟨_, _, _, hv⟩
  ·exact ⟨_, _, _, hv⟩
 go_wp2
 go_ret2
 refine ⟨rfl, .slice ao n' cap, by rw [Hcs.out]; exact H1.out.put hb2 (bs' := bs ++ Lib.strCells s) (by simpa [Lib.strCells_length] using hown'), ?_, ?_⟩
 ·exact (HB1.out.grown hgrow (by omega) (fun k hk => (hown.lt k hk).1)).setCell (p := ⟨b, o + 1, none⟩) hB _
 ·exact Kept.setCell (S := fun k => k = b ∨ some k = v.ownBlock) (Kept.of_grown hgrow (HK1.out.mono (fun k hk => Or.inl hk)) (fun k hk => .inl (.inr hk.symm))) (p := ⟨b, o + 1, none⟩) (.inl (.inl rfl)) _
theorem bld_WriteString {B b o : Nat} {cs : Array Value} {T : Nat} {v : Value} {bs : List Value} (s : ByteArray) (w : World) (h : BAt B b o cs T v bs w) (hlen : bs.length + s.size ≤ 140737488355328) (hBw : B ≤ w.heap.size) :
  Calls Try.prog 38 #[.pointer (some ⟨b, o, none⟩), .string s] w fun e w' => e = .returned (.tuple #[.int .i64 s.size, .nilIface]) ∧
   ∃ v', BAt B b o ((cs.setIfInBounds o (.pointer (some ⟨b, o, none⟩))).setIfInBounds (o + 1) v') T v' (bs ++ Lib.strCells s) w' ∧ Below B w w' :=
 (bld_WriteStringK s w h hlen hBw).mono fun _ _ ⟨h1, v', h2, h3, _⟩ => ⟨h1, v', h2, h3⟩
set_option maxRecDepth 100000 in
theorem bld_Len {B b o : Nat} {cs : Array Value} {T : Nat} {v : Value} {bs : List Value} (w : World) (h : BAt B b o cs T v bs w) :
  Calls Try.prog 111 #[.pointer (some ⟨b, o, none⟩)] w fun e w' => e = .returned (.int .i64 bs.length) ∧ w = w' := by
 obtain ⟨ao, cap, rfl⟩ : ∃ ao cap, v = .slice ao bs.length cap := by
  rcases h.own.2 with ⟨hv, h0⟩ | ⟨g, cap, cur, hv, _⟩
  ·exact ⟨none, 0, by rw [hv, h0]⟩
  ·exact ⟨_, _, hv⟩
 have c1 : w.cell? ⟨b, o + 1, none⟩ = some (.slice ao bs.length cap) := by rw [h.cellAt]; exact h.c1
 clear h
 go_enter Try.func111, Try.ntmps111
 go_wp2
 go_ret
 exact ⟨rfl, rfl⟩
def turnedT {α : Type} (l : List α) (at_ : Nat) : List α := l.drop at_ ++ l.take at_
def KpP (n0 bp ba : Nat) (W W' : World) : Prop := Below n0 W W' ∧ W'.heap[bp]? = W.heap[bp]? ∧ W'.heap[ba]? = W.heap[ba]?
theorem KpP.refl (n0 bp ba : Nat) (W : World) : KpP n0 bp ba W W := ⟨Below.refl _ _, rfl, rfl⟩
theorem KpP.trans {n0 bp ba : Nat} {A B C : World} (h : KpP n0 bp ba A B) (k : KpP n0 bp ba B C) : KpP n0 bp ba A C := ⟨h.1.trans k.1, k.2.1.trans h.2.1, k.2.2.trans h.2.2⟩
theorem rd_memT (sp : List S71) (h : 0 < sp.length) (i : Int) : rd_T71 sp (i % (sp.length : Int)) ∈ sp := by
 have h1 := Int.emod_nonneg i (show (sp.length : Int) ≠ 0 by omega)
 have h2 := Int.emod_lt_of_pos i (show (0 : Int) < (sp.length : Int) by omega)
 unfold rd_T71
 rw [List.getD_eq_getElem?_getD, List.getElem?_eq_getElem (by omega)]
 exact List.getElem_mem _
abbrev InT (sp : List S71) := { s : S71 // s ∈ sp }
def uptoT (sp : List S71) (h : 0 < sp.length) (at_ k : Nat) : List (InT sp) := (List.range k).map fun (j : Nat) => ⟨rd_T71 sp (((at_ : Int) + (j : Int)) % (sp.length : Int)), rd_memT sp h _⟩
theorem uptoT_succ (sp : List S71) (h : 0 < sp.length) (at_ k : Nat) : uptoT sp h at_ (k + 1) = uptoT sp h at_ k ++ [⟨rd_T71 sp (((at_ : Int) + (k : Int)) % (sp.length : Int)), rd_memT sp h _⟩] := by simp [uptoT, List.range_succ]
theorem uptoT_length (sp : List S71) (h : 0 < sp.length) (at_ k : Nat) : (uptoT sp h at_ k).length = k := by simp [uptoT]
theorem uptoT_all (sp : List S71) (h0 : 0 < sp.length) (at_ : Nat) (h : at_ < sp.length) : (uptoT sp h0 at_ sp.length).map (·.1) = turnedT sp at_ := by
 unfold turnedT
 apply List.ext_getElem
 ·simp [uptoT]; omega
 ·intro i h1 h2
  simp only [uptoT, List.length_map, List.length_range] at h1
  have hc : ((at_ : Int) + (i : Int)) % (sp.length : Int) = (((at_ + i) % sp.length : Nat) : Int) := by rw [Int.natCast_emod, Int.natCast_add]
  simp only [uptoT, List.getElem_map, List.getElem_range, rd_T71, hc, Int.toNat_natCast, List.getD_eq_getElem?_getD]
  by_cases hi : i < sp.length - at_
  ·rw [List.getElem_append_left (by simpa using hi), Nat.mod_eq_of_lt (by omega), List.getElem?_eq_getElem (by omega), List.getElem_drop]; rfl
  ·rw [List.getElem_append_right (by simp; omega)]
   have hm : (at_ + i) % sp.length = i - (sp.length - at_) := by rw [show at_ + i = (i - (sp.length - at_)) + sp.length from by omega, Nat.add_mod_right, Nat.mod_eq_of_lt (by omega)]
   rw [hm, List.getElem?_eq_getElem (by omega), List.getElem_take]
   simp
section
attribute [local go_sem] Oper.semAt_some
open Go Go.Shelf
set_option maxHeartbeats 4000000 in
set_option maxRecDepth 100000 in
theorem piece_iter (n bp ba n0 : Nat) (A : Option Addr) (c : Nat) (sp : List S71) (u : Int) (soa : Bool) (at_ : Nat) (w : World)
  (hn0 : n0 ≤ w.heap.size) (hp : w.heap[bp]? = some (.cells #[.slice A sp.length c, .int .i64 u, .bool soa] 69 (0, 0)))
  (ha : w.heap[ba]? = some (.cells #[.int .i64 (at_ : Int)] 3 (0, 0))) (hA : ∀ W, Below n0 w W → Kd.C k71 W A sp.length sp) (h0l : 0 < sp.length) (hat : at_ < sp.length) (hlen : sp.length ≤ 1000000) :
  SeqStopsK Fence.wide (n + 1) Try.prog 57 #[.pointer (some ⟨bp, 0, none⟩), .pointer (some ⟨ba, 0, none⟩)] (fun s : InT sp => #[.agg #[.int .i64 s.1.f0, .int .i64 s.1.f1, .int .i64 s.1.f2]]) (KpP n0 bp ba) (fun ys => ys.map (·.1) = turnedT sp at_) (fun _ => True) sp.length w := fun l J Jx W hW hJ hJx hY h0 => by
 have hp1 : Aside0 (W.heap[bp]? = some (.cells #[.slice A sp.length c, .int .i64 u, .bool soa] 69 (0, 0))) := ⟨blk_below hp hW⟩
 have ha1 : Aside0 (W.heap[ba]? = some (.cells #[.int .i64 (at_ : Int)] 3 (0, 0))) := ⟨blk_below ha hW⟩
 have hA1 : Aside0 (∀ W', Below n0 W W' → Kd.C k71 W' A sp.length sp) := ⟨fun W' h => hA W' ((hW.mono hn0).trans h)⟩
 have HJ := Aside0.mk hJ
 have HJX := Aside0.mk hJx
 have HY := Aside0.mk hY
 have HAT := Aside0.mk hat
 clear hp ha hA hJ hJx hY hat
 refine callsIn_of_wp Try.func57 rfl trivial ?_ rfl
 simp only [Try.ntmps57, List.size_toArray, List.length_cons, List.length_nil, Nat.reduceAdd, Nat.reduceSub, Array.replicate_succ, Array.replicate_zero, List.push_toArray, List.append_toArray, List.nil_append, List.cons_append]
 have z0 := (blk_cell hp1.out 0).trans rfl
 have hu := Try.underlying69
 have hu2 := Try.underlying71
 gi_wp2
 gi_loopw [8] (fun i wr => ∃ k : Nat, i = .int .i64 k ∧ Aside0 (k ≤ sp.length) ∧ Aside0 (J (uptoT sp h0l at_ k) wr) ∧ Aside0 (KpP n0 bp ba W wr)) (fun i _ => sp.length - (intOf i).toNat)
 case atStart => exact ⟨0, rfl, ⟨Nat.zero_le _⟩, ⟨h0⟩, ⟨KpP.refl _ _ _ _⟩⟩
 case round =>
  clear z0
  obtain ⟨k, rfl, HK, HJS, HKP⟩ := hrel
  by_cases hlt : k < sp.length
  ·have hp2 := Aside0.mk (HKP.out.2.1.trans hp1.out)
   have ha2 := Aside0.mk (HKP.out.2.2.trans ha1.out)
   obtain ⟨fn, tmps, assign, body, hy, hR⟩ := HY.out _ ⟨rd_T71 sp (((at_ : Int) + (k : Int)) % (sp.length : Int)), rd_memT sp h0l _⟩ wr.drew (HJ.out _ wr wr.drew none HJS.out ⟨rfl, rfl, rfl, Nat.le_refl _, fun _ _ _ => rfl⟩ (fun r e => by cases e)) (by rw [uptoT_length]; exact hlt)
   (try dsimp only at hy)
   obtain ⟨ad, hAd, x0, x1, x2⟩ := at_T71 (hA1.out wr HKP.out.1) (((at_ : Int) + (k : Int)) % (sp.length : Int)) (Int.emod_nonneg _ (by omega)) (Int.emod_lt_of_pos _ (by omega))
   subst hAd
   have e0 : (((at_ : Int) + (k : Int)) % (sp.length : Int)).toNat = (at_ + k) % sp.length := by rw [← Int.natCast_add, ← Int.natCast_emod, Int.toNat_natCast]
   rw [e0] at x0 x1 x2
   clear e0
   have HS : Aside0 (J (uptoT sp h0l at_ k ++ [⟨rd_T71 sp (((at_ : Int) + (k : Int)) % (sp.length : Int)), rd_memT sp h0l _⟩]) = J (uptoT sp h0l at_ (k + 1))) := ⟨by rw [uptoT_succ]⟩
   have HSX : Aside0 (Jx (uptoT sp h0l at_ k ++ [⟨rd_T71 sp (((at_ : Int) + (k : Int)) % (sp.length : Int)), rd_memT sp h0l _⟩]) = Jx (uptoT sp h0l at_ (k + 1))) := ⟨by rw [uptoT_succ]⟩
   obtain ⟨rr, hrr⟩ : ∃ rr : InT sp, rr = ⟨rd_T71 sp (((at_ : Int) + (k : Int)) % (sp.length : Int)), rd_memT sp h0l _⟩ := ⟨_, rfl⟩
   have hr1 : rd_T71 sp (((at_ : Int) + (k : Int)) % (sp.length : Int)) = rr.1 := by rw [hrr]
   rw [hr1] at x0 x1 x2
   rw [← hrr] at hR HS HSX
   replace hy : (Instr.yield l #[.agg #[.int .i64 rr.1.f0, .int .i64 rr.1.f1, .int .i64 rr.1.f2]]).run Try.prog wr.drew = .ok (.round l fn tmps assign body) wr.drew := by rw [hrr]; exact hy
   clear hr1 hrr
   have z0 := (blk_cell hp2.out 0).trans rfl
   have z1 := (blk_cell ha2.out 0).trans rfl
   gi_wp2
   have hat := HAT.out
   have s4 : (0 ≤ ((at_ : Int) + (k : Int)) % (sp.length : Int)) = True := eq_true (Int.emod_nonneg _ (by omega))
   have s5 : (((at_ : Int) + (k : Int)) % (sp.length : Int) < (sp.length : Int)) = True := eq_true (Int.emod_lt_of_pos _ (by omega))
   have s7 : ((sp.length : Int) = 0) = False := eq_false (by omega)
   have s8 : (sp.length = 0) = False := eq_false (by omega)
   have s9 : ((sp.length : Int) == 0) = false := beq_eq_false_iff_ne.mpr (by omega)
   have s10 : (sp = []) = False := eq_false (fun h => by rw [h] at hlt; simp at hlt)
   have s1 : IntKind.i64.wrap ((at_ : Int) + (k : Int)) = (at_ : Int) + (k : Int) := by rw [i64_w]; unfold wrap64; omega
   have e1 : (((at_ : Int) + (k : Int)) % (sp.length : Int)).toNat = (at_ + k) % sp.length := by rw [← Int.natCast_add, ← Int.natCast_emod, Int.toNat_natCast]
   have s11 : Int.tmod ((at_ : Int) + (k : Int)) (sp.length : Int) = ((at_ : Int) + (k : Int)) % (sp.length : Int) := Int.tmod_eq_emod_of_nonneg (by omega)
   have hR' := hR.mono (R' := fun e W' => ∃ b : Bool, e = .returned (.bool b) ∧ Aside0 (if b = true then J (uptoT sp h0l at_ (k + 1)) W' ∧ KpP n0 bp ba wr.drew W' else Jx (uptoT sp h0l at_ (k + 1)) W')) (by
    rintro e W3 (⟨rfl, h1, h2⟩ | ⟨rfl, h1⟩)
    ·exact ⟨true, rfl, ⟨by rw [if_pos rfl]; exact ⟨HS.out ▸ h1, h2⟩⟩⟩
    ·exact ⟨false, rfl, ⟨by rw [if_neg (by decide)]; exact HSX.out ▸ h1⟩⟩)
   clear hR HS HSX
   gi_region_with (refine hR'.mono ?_; rintro e W3 ⟨b, rfl, HB⟩)
   all_goals
    clear s4 s5 s7 s8 s9 s10 s1 e1 s11 hR' hy x0 x1 x2 z0 z1 hat
    cases b with
    | true =>
     have hB := HB.out
     rw [if_pos rfl] at hB
     have HJ2 := Aside0.mk hB.1
     have HK2 := Aside0.mk ((HKP.out.trans ⟨below_drew (Below.refl _ _), rfl, rfl⟩).trans hB.2)
     clear hB HB
     gi_wp2
     go_roundw
     case rel => exact ⟨k + 1, by simp, ⟨hlt⟩, HJ2, HK2⟩
     case measure => simp [intOf]; omega
    | false =>
     have hB := HB.out
     rw [if_neg (by decide)] at hB
     have HJ2 := Aside0.mk hB
     clear hB HB
     gi_wp2
     refine bodyPost_ret (results_none rfl _ _ _) rfl ?_
     exact ⟨⟨_, rfl⟩, .inr ⟨_, trivial, HJ2.out⟩⟩
  ·have hk := HK.out
   obtain rfl : k = sp.length := by omega
   gi_wp2
   go_end0
   exact ⟨⟨_, rfl⟩, .inl ⟨_, uptoT_all sp h0l at_ HAT.out, HJS.out⟩⟩
end
set_option maxRecDepth 100000 in
theorem tmpl_from.calls (A : Option Addr) (n c : Nat) (u at_ : Int) (soa : Bool) (w : World) :
  Calls Try.prog 37 #[.agg #[.slice A n c, .int .i64 u, .bool soa], .int .i64 at_] w fun e w' => e = .returned (.func (.func 57) #[] #[.pointer (some ⟨w.heap.size, 0, none⟩), .pointer (some ⟨w.heap.size + 1, 0, none⟩)]) ∧ w' = (w.alloc (.cells #[.slice A n c, .int .i64 u, .bool soa] 69)).alloc (.cells #[.int .i64 at_] 3) := by
 have hu := Try.underlying69
 go_enter Try.func37, Try.ntmps37
 go_wp2
 go_ret
 exact ⟨rfl, rfl⟩
end Go.Proofs.Ytedjodnaalconaa.P
end
section
namespace Go.Proofs.Ytedjodnaalconaa.P
open Go.RowKit Go.Proofs.YtedjodnaalconaaW.PrintWords Go.Proofs.YtedjodnaalconaaW.PrintLast Go.Proofs.YtedjodnaalconaaW.PrintMore
attribute [local go_sem] max2_int min2_int max_two min_two max_three min_three max_four min_four
set_option linter.unusedVariables false
set_option linter.unusedSimpArgs false
def spanBytes (text left : ByteArray) (s : S71) : ByteArray := text.extract s.f0.toNat s.f2.toNat ++ left ++ text.extract (s.f2 + 4).toNat s.f1.toNat
def partBytes (text left : ByteArray) : List S71 → ByteArray
 | [] => ⟨#[]⟩
 | s :: l => spanBytes text left s ++ partBytes text left l
def spanOk (text : ByteArray) (s : S71) : Prop := 0 ≤ s.f0 ∧ s.f0 ≤ s.f2 ∧ s.f2 + 4 ≤ s.f1 ∧ s.f1 ≤ text.size
instance (text : ByteArray) (s : S71) : Decidable (spanOk text s) := by unfold spanOk; infer_instance
def partAt (turn : Int) (soa : Bool) (n : Nat) : Nat := if soa = true then 0 else (turn % (n : Int)).toNat
def tmpl_Template_Part.f (k : Nat) (a0_0 : ByteArray) (a0_1 : Int) (a0_2 : Int) (a0_3 : Int) (a0_4 : ByteArray) (l0_5 : List (S69)) (a1 : Int) (a2 : Int) (a3 : Int) : Option ByteArray :=
 if a1 < 0 ∨ a1 ≥ (l0_5.length : Int) ∨ a3 < 0 then some ⟨#[]⟩ else
 (tmpl_Template_Check.f k a0_0 a0_1 a0_2 a0_3 a0_4 l0_5).bind fun t => if t = true then
  (age_Live.f a2 (rd_T69 l0_5 a1).f1).bind fun b => if b = true then
   (age_Left.f a2 (rd_T69 l0_5 a1).f1).bind fun left => (octet_Put.f k left 4).bind fun lb =>
    if 0 < (rd_T69 l0_5 a1).f0.length ∧ (rd_T69 l0_5 a1).f0.length ≤ 100000 ∧ (∀ s ∈ (rd_T69 l0_5 a1).f0, spanOk a0_4 s) ∧ lb.size ≤ 100000000 ∧ a0_4.size ≤ 100000000 then
     some (partBytes a0_4 lb (turnedT (rd_T69 l0_5 a1).f0 (partAt a3 (rd_T69 l0_5 a1).f2 (rd_T69 l0_5 a1).f0.length))) else none
  else some ⟨#[]⟩
 else some ⟨#[]⟩
theorem tmpl_Template_Part.mono : ∀ a0 a1 a2 a3 a4 a5 a6 a7 a8 k, LeO (tmpl_Template_Part.f k a0 a1 a2 a3 a4 a5 a6 a7 a8) (tmpl_Template_Part.f (k + 1) a0 a1 a2 a3 a4 a5 a6 a7 a8) := by
 intro a0 a1 a2 a3 a4 a5 a6 a7 a8 k
 unfold tmpl_Template_Part.f
 exact LeO.ite (LeO.refl _) (LeO.bind (tmpl_Template_Check.mono _ _ _ _ _ _ _) (fun _ => LeO.ite (LeO.bind (LeO.refl _) (fun _ => LeO.ite (LeO.bind (LeO.refl _) (fun _ => LeO.bind (octet_Put.mono _ _ _) (fun _ => LeO.refl _))) (LeO.refl _))) (LeO.refl _)))
section
open Go
theorem BAt.cellsOwn {B b o : Nat} {cs : Array Value} {T : Nat} {v : Value} {bs : List Value} {w : World} (h : BAt B b o cs T v bs w) : ∀ k, v.ownBlock = some k → ∃ cells, w.heap[k]? = some (.cells cells 5 (0, 0)) := own_cells h.own
theorem BAt.grown {B b o : Nat} {cs : Array Value} {T : Nat} {v : Value} {bs : List Value} {w w' : World} {row : Option Nat} (h : BAt B b o cs T v bs w) (hg : w.grownBy w' row) (hr : ∀ r, row = some r → ∃ ob : Obj, w.heap[r]? = some ob ∧ ob.isCells = false) : BAt B b o cs T v bs w' :=
 {hB := h.hB
  blk := blk_grown h.blk hg (fun e => by obtain ⟨ob, h1, h2⟩ := hr b e.symm; rw [h.blk] at h1; cases h1; cases h2)
  c0 := h.c0
  c1 := h.c1
  own := h.own.kept hg (by
   cases hv : v.ownBlock with
   | none => exact .inl rfl
   | some k => exact .inr (fun e => by obtain ⟨cells, hc⟩ := h.cellsOwn k hv; obtain ⟨ob, h1, h2⟩ := hr k e.symm; rw [hc] at h1; cases h1; cases h2))
  ne := h.ne
  lies := h.lies
  Tne := h.Tne }
theorem BAt.keeps {B b o : Nat} {cs : Array Value} {T : Nat} {v : Value} {bs : List Value} {w w' : World} (h : BAt B b o cs T v bs w) (hk : Kept w w' (fun k => k = b ∨ some k = v.ownBlock)) {g t : Nat} {cs' : Array Value} (hc : w.heap[g]? = some (.cells cs' t (0, 0))) (hg : g ≠ b) (ht : t ≠ 5) : w'.heap[g]? = some (.cells cs' t (0, 0)) :=
 blk_kept hc hk (by
  rintro (e | e)
  ·exact hg e
  ·obtain ⟨cells, h2⟩ := h.cellsOwn g e.symm
   rw [hc] at h2
   injection h2 with h2
   injection h2 with _ h2
   exact ht h2)
theorem BAt.keepsOthers {B b o : Nat} {cs : Array Value} {T : Nat} {v : Value} {bs : List Value} {w w' : World} (h : BAt B b o cs T v bs w) (hk : Kept w w' (fun k => k = b ∨ some k = v.ownBlock)) : KeepsOthers w w' :=
 ⟨hk.1, fun k ob hc ho => blk_kept hc hk (by
  rintro (e | e)
  ·rw [e, h.blk] at hc; cases hc; cases ho
  ·obtain ⟨cells, h2⟩ := h.cellsOwn k e.symm
   rw [h2] at hc; cases hc; cases ho)⟩
theorem spanBytes_size {text lb : ByteArray} (ht : text.size ≤ 100000000) (hl : lb.size ≤ 100000000) (s : S71) : (spanBytes text lb s).size ≤ 300000000 := by
 unfold spanBytes
 rw [ByteArray.size_append, ByteArray.size_append, ByteArray.size_extract, ByteArray.size_extract]
 omega
theorem partBytes_size {text lb : ByteArray} (ht : text.size ≤ 100000000) (hl : lb.size ≤ 100000000) : ∀ l : List S71, (partBytes text lb l).size ≤ l.length * 300000000
 | [] => Nat.zero_le _
 | s :: l => by
  have h1 := spanBytes_size ht hl s
  have h2 := partBytes_size ht hl l
  rw [partBytes, ByteArray.size_append, List.length_cons]
  omega
theorem partBytes_snoc (text lb : ByteArray) (s : S71) : ∀ l : List S71, partBytes text lb (l ++ [s]) = partBytes text lb l ++ spanBytes text lb s
 | [] => by show spanBytes text lb s ++ ByteArray.empty = ByteArray.empty ++ spanBytes text lb s; rw [ByteArray.append_empty, ByteArray.empty_append]
 | x :: l => by rw [List.cons_append, partBytes, partBytes_snoc text lb s l, partBytes, ByteArray.append_assoc]
theorem partBytes_cells (text lb : ByteArray) (s : S71) (l : List S71) : ((Lib.byteCells (partBytes text lb l).data.toList ++ Lib.strCells (text.extract s.f0.toNat s.f2.toNat)) ++ Lib.strCells lb) ++ Lib.strCells (text.extract (s.f2 + 4).toNat s.f1.toNat) = Lib.byteCells (partBytes text lb (l ++ [s])).data.toList := by
 rw [partBytes_snoc, spanBytes, Lib.strCells_eq, Lib.strCells_eq, Lib.strCells_eq, ← Lib.byteCells_append, ← Lib.byteCells_append, ← Lib.byteCells_append]
 congr 1
 simp only [ByteArray.data_append, Array.toList_append, List.append_assoc]
def bodyDone {α : Type} (B : Nat) (Kp : World → World → Prop) (I : List α → World → Prop) (xs : List α) (W : World) : Exit → Act → World → Prop
 | .normal, _, W' => KeepsFrom B W W' ∧ Kp W W' ∧ I xs W'
 | _, _, _ => False
theorem wp_range_boxed {α : Type} {P : Program} {g : Operand} {px pb : Tmp} {assign body : Code} {Q : Exit → Act → World → Prop} {tm : Array Value} {w w0 : World} {n gf : Nat} {lb : Array Value}
  (hg : ({ tmps := tm, defers := [] } : Act).eval g = .func (.func gf) #[] lb) (eg : ∀ args w, (callFunc gf args).run P w = .ok (.enter gf args) w) {cells : α → Array Value} {T : TypeId} {Kp : World → World → Prop} {S Sp : List α → Prop} {N : Nat}
  (hseq : SeqStopsK Fence.wide (n + 1) P gf lb (fun x => #[.agg (cells x)]) Kp S Sp N w0) (hKt : ∀ {A B C : World}, Kp A B → Kp B C → Kp A C) (hKb : ∀ (W : World) (l : Nat) (o o' : Obj), w.heap.size ≤ l → W.heap[l]? = some o → o.isCells = false → o.isWalk = false → Kp W (W.putObj l o')) (hb0 : Below w0.heap.size w0 w)
  (I : List α → World → Prop) (hI : OwnFrom w.heap.size I) (h0 : I [] w)
  (hassign : ∀ (l : Nat) (pre : List α) (x : α) (W : World) (K : Act → World → Prop), I pre W → (∀ Bx W', w.heap.size ≤ Bx → KeepsFrom w.heap.size W W' → Kp W W' → I pre W' → W'.heap[Bx]? = some (.cells (cells x) T (0, 0)) → K { tmps := (tm.setIfInBounds px (.agg (cells x))).setIfInBounds pb (.pointer (some ⟨Bx, 0, none⟩)), defers := [] } W') → w.heap.size ≤ W.heap.size →
   assign.wpIn (Fence.wide.inRound l) n P (Exit.then K (fun _ _ _ => False)) { tmps := tm.setIfInBounds px (.agg (cells x)), defers := [] } W)
  (hsz : ∀ pre W, I pre W → w.heap.size ≤ W.heap.size)
  (hbody : ∀ (l : Nat) (pre : List α) (x : α) (Bx : Nat) (W : World), I pre W → w.heap.size ≤ Bx → W.heap[Bx]? = some (.cells (cells x) T (0, 0)) → pre.length < N →
   body.wpIn (Fence.wide.inRound l) n P (bodyDone w.heap.size Kp I (pre ++ [x]) W) { tmps := (tm.setIfInBounds px (.agg (cells x))).setIfInBounds pb (.pointer (some ⟨Bx, 0, none⟩)), defers := [] } W)
  (hdone : ∀ (D : Nat) (xs : List α) (W : World), w.heap.size ≤ D → S xs → I xs W → W.heap[D]? = some (.deferred (some [])) → Q .normal { tmps := tm, defers := [{ target := .collected D, args := #[] }] } W) :
  (Code.rangeFunc g #[px] assign body).wp P Q { tmps := tm, defers := [] } w := by
 refine wpIn_wide.1 (wpIn_rangeFunc_ownH (n := n + 2) (F := Fence.wide) rfl (by omega) hg trivial eg hseq hKt hKb hb0 (fun _ => rfl) I (fun _ _ _ => False) hI (fun _ _ _ _ _ h _ _ => h) h0
  (fun x a' W => ∃ Bx, w.heap.size ≤ Bx ∧ W.heap[Bx]? = some (.cells (cells x) T (0, 0)) ∧ a' = { tmps := (tm.setIfInBounds px (.agg (cells x))).setIfInBounds pb (.pointer (some ⟨Bx, 0, none⟩)), defers := [] })
  ?_ ?_ ?_ hdone ?_)
 ·intro x a' s W W' row hs hg hr
  obtain ⟨Bx, h1, h2, h3⟩ := hs
  exact ⟨Bx, h1, blk_grown h2 hg (fun e => by obtain ⟨_, ob, h4, h5⟩ := hr Bx e.symm; rw [h2] at h4; cases h4; cases h5), h3⟩
 ·intro l pre x W K hi hK
  have e : ((#[px] : Array Tmp).zip #[Value.agg (cells x)]).foldl (fun t (p, v) => t.setIfInBounds p v) tm = tm.setIfInBounds px (.agg (cells x)) := by simp
  have h := hassign l pre x W K hi (fun Bx W' h1 h2 h3 h4 h5 => hK _ _ h2 h3 h4 ⟨Bx, h1, h5, rfl⟩) (hsz pre W hi)
  rw [← e] at h
  exact h
 ·rintro l pre x a' W _ _ hi ⟨Bx, h1, h2, rfl⟩ hlt
  refine wpIn_mono (hbody l pre x Bx W hi h1 h2 hlt) ?_
  intro e a W' h
  cases e <;> first | exact h | exact h.elim
 ·intro D c pre W _ _ h _
  exact h.elim
def PartI (base gt gl : Nat) (tc pc ac : Array Value) (text lb : ByteArray) (w : World) (sp : List S71) (z : Nat) (pre : List (InT sp)) (W : World) : Prop :=
 W.heap[gt]? = some (.cells tc 36 (0, 0)) ∧ W.heap[gl]? = some (.cells #[.string lb] 9 (0, 0)) ∧ W.heap[gl + 1 + 1]? = some (.cells pc 69 (0, 0)) ∧ W.heap[gl + 1 + 1 + 1]? = some (.cells ac 3 (0, 0)) ∧
  (∃ v cs, BAt base (gl + 1) 0 cs 86 v (Lib.byteCells (partBytes text lb (pre.map (·.1))).data.toList) W) ∧ Below base w W ∧ z ≤ W.heap.size
theorem partI_own {base gt gl z B : Nat} {tc pc ac : Array Value} {text lb : ByteArray} {w : World} {sp : List S71} (hB : base ≤ B) : OwnFrom B (PartI base gt gl tc pc ac text lb w sp z) := by
 intro s W W' row ⟨h1, h2, h2a, h2b, ⟨v, cs, h3⟩, h4, h5⟩ hg hr
 have hr' : ∀ r, row = some r → ∃ ob : Obj, W.heap[r]? = some ob ∧ ob.isCells = false := fun r e => (hr r e).2
 have hno : ∀ {g t : Nat} {cs' : Array Value}, W.heap[g]? = some (.cells cs' t (0, 0)) → some g ≠ row := fun hc e => by obtain ⟨ob, h6, h7⟩ := hr' _ e.symm; rw [hc] at h6; cases h6; cases h7
 exact ⟨blk_grown h1 hg (hno h1), blk_grown h2 hg (hno h2), blk_grown h2a hg (hno h2a), blk_grown h2b hg (hno h2b), ⟨v, cs, h3.grown hg hr'⟩, h4.trans ((Below.refl base W).grown hg (by have := h4.size; have := h3.hB; have := blk_lt h3.blk; omega) (fun k e => Nat.le_trans hB (hr k e).1)), Nat.le_trans h5 hg.size⟩
def PB (base gt gl Bx : Nat) (tc pc ac sc : Array Value) (lb : ByteArray) (w : World) (bs : List Value) (W : World) : Prop :=
 W.heap[gt]? = some (.cells tc 36 (0, 0)) ∧ W.heap[gl]? = some (.cells #[.string lb] 9 (0, 0)) ∧ W.heap[gl + 1 + 1]? = some (.cells pc 69 (0, 0)) ∧ W.heap[gl + 1 + 1 + 1]? = some (.cells ac 3 (0, 0)) ∧ W.heap[Bx]? = some (.cells sc 71 (0, 0)) ∧
  (∃ v cs, BAt base (gl + 1) 0 cs 86 v bs W) ∧ Below base w W
theorem PB.write {base gt gl Bx : Nat} {tc pc ac sc : Array Value} {lb : ByteArray} {w : World} {bs : List Value} {W : World} (h : PB base gt gl Bx tc pc ac sc lb w bs W) (hgt : gt ≠ gl + 1) (hbx : Bx ≠ gl + 1) (s : ByteArray) (hlen : bs.length + s.size ≤ 140737488355328) (hB : base ≤ W.heap.size) :
  Calls Try.prog 38 #[.pointer (some ⟨gl + 1, 0, none⟩), .string s] W fun e W' => e = .returned (.tuple #[.int .i64 s.size, .nilIface]) ∧ PB base gt gl Bx tc pc ac sc lb w (bs ++ Lib.strCells s) W' ∧ KpP base (gl + 1 + 1) (gl + 1 + 1 + 1) W W' ∧ KeepsOthers W W' := by
 obtain ⟨h1, h2, h3, h4, h5, ⟨v, cs, h6⟩, h7⟩ := h
 refine (bld_WriteStringK s W h6 hlen hB).mono ?_
 rintro e W' ⟨he, v', hb, hl, hk⟩
 have k1 := h6.keeps hk h1 hgt (by decide)
 have k2 := h6.keeps hk h2 (by omega) (by decide)
 have k3 := h6.keeps hk h3 (by omega) (by decide)
 have k4 := h6.keeps hk h4 (by omega) (by decide)
 have k5 := h6.keeps hk h5 hbx (by decide)
 exact ⟨he, ⟨k1, k2, k3, k4, k5, ⟨v', _, hb⟩, h7.trans hl⟩, ⟨hl, k3.trans h3.symm, k4.trans h4.symm⟩, h6.keepsOthers hk⟩
end
section
open Go
attribute [local go_sem] Oper.semAt_some
set_option maxHeartbeats 8000000 in
set_option maxRecDepth 100000 in
theorem tmpl_Template_Part.calls (k : Nat) (a0_0 : ByteArray) (a0_1 : Int) (a0_2 : Int) (a0_3 : Int) (a0_4 : ByteArray) (A0_5 : Option Addr) (c0_5 : Nat) (l0_5 : List (S69)) (a1 : Int) (a2 : Int) (a3 : Int) (r : ByteArray) (w : World) (hr0_5 : Kd.C k69 w A0_5 l0_5.length l0_5) (hc0_5 : l0_5.length ≤ c0_5) (h : tmpl_Template_Part.f k a0_0 a0_1 a0_2 a0_3 a0_4 l0_5 a1 a2 a3 = some r) :
  Calls Try.prog 22 #[.agg #[.string a0_0, .int .i64 a0_1, .int .i64 a0_2, .int .i64 a0_3, .string a0_4, .slice A0_5 l0_5.length c0_5], .int .i64 a1, .int .i64 a2, .int .i64 a3] w fun e w' => e = .returned (.string r) ∧ Below w.heap.size w w' := by
 have hu1 := Try.underlying36
 have hu2 := Try.underlying69
 have hu3 := Try.underlying71
 have hu4 := Try.underlying86
 have HR0 := Aside0.mk hr0_5
 have HC0 := Aside0.mk hc0_5
 have HLM : Aside0 (l0_5.length ≤ 9223372036854775807) := ⟨Kd.C_max hr0_5⟩
 clear hr0_5 hc0_5
 unfold tmpl_Template_Part.f at h
 refine callsIn_wide.1 (callsIn_of_wp_marks (n := 5) Try.func22 rfl trivial (wpIn_wide.2 ?_) rfl)
 simp only [Try.ntmps22, List.size_toArray, List.length_cons, List.length_nil, Nat.reduceAdd, Nat.reduceSub, Array.replicate_succ, Array.replicate_zero, List.push_toArray, List.append_toArray, List.nil_append, List.cons_append]
 by_cases c1 : a1 < 0
 ·rw [if_pos (.inl c1)] at h
  injection h with h
  subst h
  have d1 : decide (a1 < 0) = true := decide_eq_true c1
  clear c1
  go_wp2_with fail
  exact ⟨_, results_tmp rfl _ _ _, rfl, below_alloc (Below.refl _ _) _⟩
 by_cases c2 : a1 ≥ (l0_5.length : Int)
 ·rw [if_pos (.inr (.inl c2))] at h
  injection h with h
  subst h
  have d1 : decide (a1 < 0) = false := decide_eq_false c1
  have d2 : decide ((l0_5.length : Int) ≤ a1) = true := decide_eq_true c2
  clear c1 c2
  go_wp2_with fail
  exact ⟨_, results_tmp rfl _ _ _, rfl, below_alloc (Below.refl _ _) _⟩
 by_cases c3 : a3 < 0
 ·rw [if_pos (.inr (.inr c3))] at h
  injection h with h
  subst h
  have d1 : decide (a1 < 0) = false := decide_eq_false c1
  have d2 : decide ((l0_5.length : Int) ≤ a1) = false := decide_eq_false c2
  have d3 : decide (a3 < 0) = true := decide_eq_true c3
  clear c1 c2 c3
  go_wp2_with fail
  exact ⟨_, results_tmp rfl _ _ _, rfl, below_alloc (Below.refl _ _) _⟩
 rw [if_neg (by rintro (h | h | h); exact c1 h; exact c2 h; exact c3 h)] at h
 replace h := Option.bind_eq_some_iff.mp h
 obtain ⟨t, ht, h⟩ := h
 have d1 : decide (a1 < 0) = false := decide_eq_false c1
 have d2 : decide ((l0_5.length : Int) ≤ a1) = false := decide_eq_false c2
 have d3 : decide (a3 < 0) = false := decide_eq_false c3
 have HT := Aside0.mk ht
 have HBT := Aside0.mk (heap_alloc_new w (.cells #[.string a0_0, .int .i64 a0_1, .int .i64 a0_2, .int .i64 a0_3, .string a0_4, .slice A0_5 l0_5.length c0_5] 36))
 have HW1 := Aside0.mk (below_alloc (Below.refl w.heap.size w) (.cells #[.string a0_0, .int .i64 a0_1, .int .i64 a0_2, .int .i64 a0_3, .string a0_4, .slice A0_5 l0_5.length c0_5] 36))
 clear ht
 have HN := Aside0.mk h
 clear h
 go_wp2_with fail
 go_at_call 18
 refine (tmpl_Template_Check.calls k _ _ _ _ _ _ _ _ t _ (Kd.C_below HR0.out HW1.out) HC0.out HT.out).mono ?_
 rintro _ w2 ⟨rfl, hb2⟩
 have HBT2 := Aside0.mk (blk_below HBT.out hb2)
 have HW2 := Aside0.mk (below_then HW1.out HW1.out.size hb2)
 clear hb2 HBT HW1 HT
 cases t with
 | false =>
  have h := HN.out
  simp only [Bool.false_eq_true, if_false, Option.some.injEq] at h
  subst h
  go_wp2_with fail
  exact ⟨_, results_tmp rfl _ _ _, rfl, HW2.out⟩
 | true =>
  have h := HN.out
  rw [if_pos rfl] at h
  clear HN d1 d2 d3
  have hx0 : (0 ≤ a1) = True := eq_true (by omega)
  have hx1 : (a1 < (l0_5.length : Int)) = True := eq_true (by omega)
  obtain ⟨ad, As, cs, hA, x0, x1, x2, x3, x4⟩ := at_T69 HR0.out a1 (by omega) (by omega)
  subst hA
  replace x0 := pw_cell_below HW2.out x0
  replace x1 := pw_cell_below HW2.out x1
  replace x2 := pw_cell_below HW2.out x2
  have HX3 := Aside0.mk x3
  have HX4 := Aside0.mk x4
  clear x3 x4
  generalize rd_T69 l0_5 a1 = pc at h x0 x1 x2 HX3 HX4
  obtain ⟨sp, u, soa⟩ := pc
  simp only at h x0 x1 x2 HX3 HX4
  replace h := Option.bind_eq_some_iff.mp h
  obtain ⟨lv, hlv, h⟩ := h
  have HLV := Aside0.mk hlv
  have HN := Aside0.mk h
  have HBT3 := Aside0.mk (blk_alloc HBT2.out (.cells #[.slice As sp.length cs, .int .i64 u, .bool soa] 69))
  have HBP3 := Aside0.mk (heap_alloc_new w2 (.cells #[.slice As sp.length cs, .int .i64 u, .bool soa] 69))
  have HW3 := Aside0.mk (below_alloc HW2.out (.cells #[.slice As sp.length cs, .int .i64 u, .bool soa] 69))
  obtain ⟨gp, hgp⟩ : ∃ gp, gp = w2.heap.size := ⟨_, rfl⟩
  rw [← hgp] at HBP3
  have b5 := (blk_cell HBT2.out 5).trans rfl
  clear hlv h
  go_wp2_with fail
  rw [← hgp]
  have HGP : Aside0 (w.heap.size < gp) := ⟨by rw [hgp]; exact blk_lt HBT2.out⟩
  clear hgp x0 x1 x2 b5 HBT2 HW2
  generalize (w2.alloc (.cells #[.slice As sp.length cs, .int .i64 u, .bool soa] 69)) = w3 at HBT3 HBP3 HW3 ⊢
  have y1 := (blk_cell HBP3.out 1).trans rfl
  go_wp2_with fail
  go_at_call 33
  refine (age_Live.calls _ _ lv _ HLV.out).mono ?_
  rintro _ w4 ⟨rfl, ⟨nd, rfl⟩⟩
  cases lv with
  | false =>
   have h := HN.out
   simp only [Bool.false_eq_true, if_false, Option.some.injEq] at h
   subst h
   go_wp2_with fail
   exact ⟨_, results_tmp rfl _ _ _, rfl, pw_below_drewN HW3.out _⟩
  | true =>
   have h := HN.out
   rw [if_pos rfl] at h
   replace h := Option.bind_eq_some_iff.mp h
   obtain ⟨left, hleft, h⟩ := h
   replace h := Option.bind_eq_some_iff.mp h
   obtain ⟨lb, hlb, h⟩ := h
   by_cases hok : 0 < sp.length ∧ sp.length ≤ 100000 ∧ (∀ s ∈ sp, spanOk a0_4 s) ∧ lb.size ≤ 100000000 ∧ a0_4.size ≤ 100000000
   ·rw [if_pos hok] at h
    injection h with h
    subst h
    obtain ⟨hk1, hk2, hk3, hk4, hk5⟩ := hok
    have HK3 := Aside0.mk hk3
    have HK4 := Aside0.mk hk4
    have HK5 := Aside0.mk hk5
    have HLEFT := Aside0.mk hleft
    have HLB := Aside0.mk hlb
    clear HN hk3 hk4 hk5 hleft hlb
    have y0 := (blk_cell HBP3.out 0).trans rfl
    have y2 := (blk_cell HBP3.out 2).trans rfl
    have s8 : (sp.length = 0) = False := eq_false (by omega)
    have s9 : ((sp.length : Int) == 0) = false := beq_eq_false_iff_ne.mpr (by omega)
    have s7 : ((sp.length : Int) = 0) = False := eq_false (by omega)
    have ha3 : 0 ≤ a3 := by omega
    obtain ⟨m, hm, hmp, hmf, hmt⟩ : ∃ m : Nat, m < sp.length ∧ partAt a3 soa sp.length = m ∧ (soa = false → a3 % (sp.length : Int) = (m : Int)) ∧ (soa = true → m = 0) := by
     cases soa with
     | true => exact ⟨0, by omega, rfl, (fun h => by cases h), fun _ => rfl⟩
     | false => exact ⟨(a3 % (sp.length : Int)).toNat, by have := Int.emod_lt_of_pos a3 (show (0 : Int) < sp.length by omega); have := Int.emod_nonneg a3 (show (sp.length : Int) ≠ 0 by omega); omega, rfl, fun _ => by have := Int.emod_nonneg a3 (show (sp.length : Int) ≠ 0 by omega); omega, (fun h => by cases h)⟩
    have HM := Aside0.mk hm
    have HMP := Aside0.mk hmp
    clear hm hmp
    cases soa with
    | false =>
     have hmq := hmf rfl; clear hmf hmt
     go_wp2_with fail
     go_at_call 36
     refine (age_Left.calls _ _ left _ HLEFT.out).mono ?_
     rintro _ w5 ⟨rfl, hb5⟩
     have HBT5 := Aside0.mk (blk_below (blk_drewN HBT3.out nd) hb5)
     have HBP5 := Aside0.mk (blk_below (blk_drewN HBP3.out nd) hb5)
     have HW5 := Aside0.mk (below_then (pw_below_drewN HW3.out nd) (pw_below_drewN HW3.out nd).size hb5)
     clear hb5 y0 y1 y2 HBT3 HBP3 HW3
     go_wp2_with fail
     go_at_call 35
     refine (octet_Put.calls k _ _ lb _ HLB.out).mono ?_
     rintro _ w6 ⟨rfl, hb6⟩
     have HBT6 := Aside0.mk (blk_below HBT5.out hb6)
     have HBP6 := Aside0.mk (blk_below HBP5.out hb6)
     have HW6 := Aside0.mk (below_then HW5.out HW5.out.size hb6)
     clear hb6 HBT5 HBP5 HW5
     have y0 := (blk_cell HBP6.out 0).trans rfl
     have y1 := (blk_cell HBP6.out 1).trans rfl
     have y2 := (blk_cell HBP6.out 2).trans rfl
     have hlp : gp < w6.heap.size := blk_lt HBP6.out
     go_wp2_with fail
     go_at_call 37
     refine (tmpl_from.calls As sp.length cs u _ _ _).mono ?_
     rintro _ w7 ⟨rfl, rfl⟩
     clear y0 y1 y2 hlp
     go_wp2_with fail
     obtain ⟨gl, hgl⟩ : ∃ gl, gl = w6.heap.size := ⟨_, rfl⟩
     rw [← hgl]
     have HL7 : Aside0 (((((w6.alloc (.cells #[.string lb] 9)).alloc (.cells #[.pointer none, .slice none 0 0] 86)).alloc (.cells #[.slice As sp.length cs, .int .i64 u, .bool false] 69)).alloc (.cells #[.int .i64 (m : Int)] 3)).heap[gl]? = some (.cells #[.string lb] 9 (0, 0))) := ⟨by rw [hgl]; exact blk_alloc (blk_alloc (blk_alloc (heap_alloc_new _ _) _) _) _⟩
     have HB7 : Aside0 (((((w6.alloc (.cells #[.string lb] 9)).alloc (.cells #[.pointer none, .slice none 0 0] 86)).alloc (.cells #[.slice As sp.length cs, .int .i64 u, .bool false] 69)).alloc (.cells #[.int .i64 (m : Int)] 3)).heap[gl + 1]? = some (.cells #[.pointer none, .slice none 0 0] 86 (0, 0))) := ⟨by
      rw [hgl]
      have := heap_alloc_new (w6.alloc (.cells #[.string lb] 9)) (.cells #[.pointer none, .slice none 0 0] 86)
      rw [World.size_alloc] at this
      exact blk_alloc (blk_alloc this _) _⟩
     have HP7 : Aside0 (((((w6.alloc (.cells #[.string lb] 9)).alloc (.cells #[.pointer none, .slice none 0 0] 86)).alloc (.cells #[.slice As sp.length cs, .int .i64 u, .bool false] 69)).alloc (.cells #[.int .i64 (m : Int)] 3)).heap[gl + 1 + 1]? = some (.cells #[.slice As sp.length cs, .int .i64 u, .bool false] 69 (0, 0))) := ⟨by
      rw [hgl]
      have := heap_alloc_new ((w6.alloc (.cells #[.string lb] 9)).alloc (.cells #[.pointer none, .slice none 0 0] 86)) (.cells #[.slice As sp.length cs, .int .i64 u, .bool false] 69)
      rw [World.size_alloc, World.size_alloc] at this
      exact blk_alloc this _⟩
     have HA7 : Aside0 (((((w6.alloc (.cells #[.string lb] 9)).alloc (.cells #[.pointer none, .slice none 0 0] 86)).alloc (.cells #[.slice As sp.length cs, .int .i64 u, .bool false] 69)).alloc (.cells #[.int .i64 (m : Int)] 3)).heap[gl + 1 + 1 + 1]? = some (.cells #[.int .i64 (m : Int)] 3 (0, 0))) := ⟨by
      rw [hgl]
      have := heap_alloc_new (((w6.alloc (.cells #[.string lb] 9)).alloc (.cells #[.pointer none, .slice none 0 0] 86)).alloc (.cells #[.slice As sp.length cs, .int .i64 u, .bool false] 69)) (.cells #[.int .i64 (m : Int)] 3)
      rw [World.size_alloc, World.size_alloc, World.size_alloc] at this
      exact this⟩
     have HBT7 := Aside0.mk (blk_alloc (blk_alloc (blk_alloc (blk_alloc HBT6.out (.cells #[.string lb] 9)) (.cells #[.pointer none, .slice none 0 0] 86)) (.cells #[.slice As sp.length cs, .int .i64 u, .bool false] 69)) (.cells #[.int .i64 (m : Int)] 3))
     have HW7 := Aside0.mk (below_alloc (below_alloc (below_alloc (below_alloc HW6.out (.cells #[.string lb] 9)) (.cells #[.pointer none, .slice none 0 0] 86)) (.cells #[.slice As sp.length cs, .int .i64 u, .bool false] 69)) (.cells #[.int .i64 (m : Int)] 3))
     have HZ7 : Aside0 (((((w6.alloc (.cells #[.string lb] 9)).alloc (.cells #[.pointer none, .slice none 0 0] 86)).alloc (.cells #[.slice As sp.length cs, .int .i64 u, .bool false] 69)).alloc (.cells #[.int .i64 (m : Int)] 3)).heap.size = gl + 4) := ⟨by rw [World.size_alloc, World.size_alloc, World.size_alloc, World.size_alloc, hgl]⟩
     have HGL : Aside0 (w.heap.size < gl) := ⟨by rw [hgl]; exact Nat.lt_of_lt_of_le (blk_lt HBT6.out) (Nat.le_refl _)⟩
     clear hgl HBT6 HBP6 HW6
     generalize ((((w6.alloc (.cells #[.string lb] 9)).alloc (.cells #[.pointer none, .slice none 0 0] 86)).alloc (.cells #[.slice As sp.length cs, .int .i64 u, .bool false] 69)).alloc (.cells #[.int .i64 (m : Int)] 3)) = W0 at HL7 HB7 HP7 HA7 HBT7 HW7 HZ7 ⊢
     have HINIT : Aside0 (PartI w.heap.size w.heap.size gl #[.string a0_0, .int .i64 a0_1, .int .i64 a0_2, .int .i64 a0_3, .string a0_4, .slice (some ad) l0_5.length c0_5] #[.slice As sp.length cs, .int .i64 u, .bool false] #[.int .i64 (m : Int)] a0_4 lb w sp W0.heap.size [] W0) := ⟨HBT7.out, HL7.out, HP7.out, HA7.out, ⟨.slice none 0 0, _, { hB := by have := HGL.out; omega, blk := HB7.out, c0 := .inl rfl, c1 := rfl, own := own_nil _ _ _ _, ne := by simp [Value.ownBlock], lies := by kernel_rfl, Tne := by decide }⟩, HW7.out, Nat.le_refl _⟩
     refine wp_range_boxed (pb := 13) (n := 3) (gf := 57) rfl (enters_of Try.func57 (by kernel_rfl) rfl) (T := 71) (cells := fun s : InT sp => #[.int .i64 s.1.f0, .int .i64 s.1.f1, .int .i64 s.1.f2])
      (piece_iter 3 (gl + 1 + 1) (gl + 1 + 1 + 1) w.heap.size As cs sp u false m W0 HW7.out.size HP7.out HA7.out (fun W hW => Kd.C_below HX4.out (HW7.out.trans hW)) hk1 HM.out (Nat.le_trans hk2 (by decide))) KpP.trans ?hKb1 (Below.refl _ _)
      (PartI w.heap.size w.heap.size gl #[.string a0_0, .int .i64 a0_1, .int .i64 a0_2, .int .i64 a0_3, .string a0_4, .slice (some ad) l0_5.length c0_5] #[.slice As sp.length cs, .int .i64 u, .bool false] #[.int .i64 (m : Int)] a0_4 lb w sp W0.heap.size) (partI_own HW7.out.size) HINIT.out ?hassign1 (fun _ _ h => h.2.2.2.2.2.2) ?hbody1 ?hdone1
     case hKb1 =>
      intro W l o o' hl hw h1 h2
      have := HZ7.out
      exact ⟨belowK_b HW7.out.size W l o o' hl hw h1 h2, World.putObj_heap_other (by omega), World.putObj_heap_other (by omega)⟩
     case hassign1 =>
      intro l pre s W K hI hK hsz
      have HI := Aside0.mk hI
      have HK' := Aside0.mk hK
      clear hI hK
      simp only [List.setIfInBounds_toArray, List.set_cons_zero, List.set_cons_succ] at HK' ⊢
      gi_wp2
      have := HZ7.out
      have := HW7.out.size
      exact HK'.out W.heap.size _ hsz ((KeepsOthers.alloc _ _).from _) ⟨(Below.refl _ _).alloc (by omega) _, Below.heap_alloc _ _ _ (by omega), Below.heap_alloc _ _ _ (by omega)⟩ ((partI_own HW7.out.size) pre W _ none HI.out (World.grownBy_alloc W _ none) (fun r e => by cases e)) (heap_alloc_new _ _)
     case hbody1 =>
      intro l pre s Bx W hI hBx hs hlen
      simp only [List.setIfInBounds_toArray, List.set_cons_zero, List.set_cons_succ]
      have HP0 : Aside0 (PB w.heap.size w.heap.size gl Bx #[.string a0_0, .int .i64 a0_1, .int .i64 a0_2, .int .i64 a0_3, .string a0_4, .slice (some ad) l0_5.length c0_5] #[.slice As sp.length cs, .int .i64 u, .bool false] #[.int .i64 (m : Int)] #[.int .i64 s.1.f0, .int .i64 s.1.f1, .int .i64 s.1.f2] lb w (Lib.byteCells (partBytes a0_4 lb (pre.map (·.1))).data.toList) W) := ⟨hI.1, hI.2.1, hI.2.2.1, hI.2.2.2.1, hs, hI.2.2.2.2.1, hI.2.2.2.2.2.1⟩
      have HZW : Aside0 (W0.heap.size ≤ W.heap.size) := ⟨hI.2.2.2.2.2.2⟩
      have HPS : Aside0 ((partBytes a0_4 lb (pre.map (·.1))).size + 300000000 ≤ 30000000000000) := ⟨by
       have h1 := partBytes_size HK5.out HK4.out (pre.map (·.1))
       rw [List.length_map] at h1
       omega⟩
      have HNE : Aside0 (w.heap.size ≠ gl + 1 ∧ Bx ≠ gl + 1) := ⟨by have := HGL.out; have := HZ7.out; omega⟩
      obtain ⟨g1, g2, g3, g4⟩ := HK3.out s.1 s.2
      have HX1 : Aside0 ((a0_4.extract s.1.f0.toNat s.1.f2.toNat).size ≤ 100000000) := ⟨by have := HK5.out; rw [ByteArray.size_extract]; omega⟩
      have HX2 : Aside0 ((a0_4.extract (s.1.f2 + 4).toNat s.1.f1.toNat).size ≤ 100000000) := ⟨by have := HK5.out; rw [ByteArray.size_extract]; omega⟩
      have HFIN := Aside0.mk (partBytes_cells a0_4 lb s.1 (pre.map (·.1)))
      have c4 := (blk_cell HP0.out.1 4).trans rfl
      have e0 := (blk_cell HP0.out.2.2.2.2.1 0).trans rfl
      have e1 := (blk_cell HP0.out.2.2.2.2.1 1).trans rfl
      have e2 := (blk_cell HP0.out.2.2.2.2.1 2).trans rfl
      have hk5 := HK5.out
      have g5 : s.1.f2 ≤ (a0_4.size : Int) := by omega
      have g6 : 0 ≤ s.1.f2 := by omega
      have g7 : s.1.f2 ≤ 100000000 := by omega
      have g8 : 0 ≤ s.1.f2 + 4 := by omega
      clear hI hs hlen
      gi_wp2
      refine ⟨trivial, ?_⟩
      gi_at_call 38
      refine (CallsIn.inRound l (callsIn_wide.2 (PB.write HP0.out HNE.out.1 HNE.out.2 _ (by rw [Lib.byteCells_length, data_length]; have := HX1.out; have := HPS.out; omega) HP0.out.2.2.2.2.2.2.size))).mono ?_
      rintro e W1 ⟨rfl, hp1, hk1, ho1⟩
      have HP1 := Aside0.mk hp1
      have HKP1 := Aside0.mk hk1
      have HO1 := Aside0.mk ho1
      clear c4 e0 e1 e2 hp1 hk1 ho1
      have cl := (blk_cell HP1.out.2.1 0).trans rfl
      gi_wp2
      refine ⟨trivial, ?_⟩
      gi_at_call 38
      refine (CallsIn.inRound l (callsIn_wide.2 (PB.write HP1.out HNE.out.1 HNE.out.2 _ (by rw [List.length_append, Lib.byteCells_length, data_length, Lib.strCells_length]; have := HX1.out; have := HPS.out; have := HK4.out; omega) HP1.out.2.2.2.2.2.2.size))).mono ?_
      rintro e W2 ⟨rfl, hp2, hk2, ho2⟩
      have HP2 := Aside0.mk hp2
      have HKP2 := Aside0.mk hk2
      have HO2 := Aside0.mk ho2
      clear cl hp2 hk2 ho2
      have c4 := (blk_cell HP2.out.1 4).trans rfl
      have e1 := (blk_cell HP2.out.2.2.2.2.1 1).trans rfl
      have e2 := (blk_cell HP2.out.2.2.2.2.1 2).trans rfl
      gi_wp2
      refine ⟨trivial, ?_⟩
      gi_at_call 38
      refine (CallsIn.inRound l (callsIn_wide.2 (PB.write HP2.out HNE.out.1 HNE.out.2 _ (by rw [List.length_append, List.length_append, Lib.byteCells_length, data_length, Lib.strCells_length, Lib.strCells_length]; have := HX1.out; have := HX2.out; have := HPS.out; have := HK4.out; omega) HP2.out.2.2.2.2.2.2.size))).mono ?_
      rintro e W3 ⟨rfl, hp3, hk3, ho3⟩
      have HP3 := Aside0.mk hp3
      have HKP3 := Aside0.mk hk3
      have HO3 := Aside0.mk ho3
      clear c4 e1 e2 hp3 hk3 ho3
      gi_wp2
      have hf := HP3.out
      refine ⟨((HO1.out.trans HO2.out).trans HO3.out).from _, (HKP1.out.trans HKP2.out).trans HKP3.out, hf.1, hf.2.1, hf.2.2.1, hf.2.2.2.1, ?_, hf.2.2.2.2.2.2, Nat.le_trans HZW.out ((HO1.out.trans HO2.out).trans HO3.out).size⟩
      obtain ⟨v, cs', hb⟩ := hf.2.2.2.2.2.1
      rw [HFIN.out] at hb
      exact ⟨v, cs', by rw [List.map_append]; exact hb⟩
     case hdone1 =>
      intro D xs W hD hS hI hK
      simp only [Exit.inBlock, Exit.then]
      obtain ⟨v, cs', hb⟩ := hI.2.2.2.2.1
      have HBA := Aside0.mk hb
      have HWF := Aside0.mk hI.2.2.2.2.2.1
      have HKD := Aside0.mk hK
      have HDL : Aside0 (w.heap.size ≤ D) := ⟨Nat.le_trans HW7.out.size hD⟩
      have HXS : Aside0 (partBytes a0_4 lb (xs.map (·.1)) = partBytes a0_4 lb (turnedT sp (partAt a3 false sp.length))) := ⟨by rw [HMP.out]; exact congrArg _ hS⟩
      clear hb hI hK hS hD
      go_at_K
      go_wp2_with fail
      go_at_call 39
      refine (bld_StringK _ W HBA.out HWF.out.size).mono ?_
      rintro _ w8 ⟨rfl, _, _, hbl, hkp⟩
      have HW8 := Aside0.mk (HWF.out.trans hbl)
      have HK8 : Aside0 (w8.heap[D]? = some (.deferred (some []))) := ⟨blk_kept HKD.out hkp (fun e => by obtain ⟨cells, h2⟩ := HBA.out.cellsOwn D e.symm; rw [HKD.out] at h2; cases h2)⟩
      clear hbl hkp
      go_wp2_with fail
      refine ⟨by simp, .inl ⟨_, _, rfl, run_takeDeferred HK8.out, ?_⟩⟩
      refine ⟨_, results_tmp rfl _ _ _, ?_, HW8.out.trans (belowK_b (w := w) (Nat.le_refl _) w8 D _ _ HDL.out HK8.out rfl rfl)⟩
      rw [← HXS.out]
      rfl
    | true =>
     obtain rfl := hmt rfl; clear hmf hmt
     go_wp2_with fail
     go_at_call 36
     refine (age_Left.calls _ _ left _ HLEFT.out).mono ?_
     rintro _ w5 ⟨rfl, hb5⟩
     have HBT5 := Aside0.mk (blk_below (blk_drewN HBT3.out nd) hb5)
     have HBP5 := Aside0.mk (blk_below (blk_drewN HBP3.out nd) hb5)
     have HW5 := Aside0.mk (below_then (pw_below_drewN HW3.out nd) (pw_below_drewN HW3.out nd).size hb5)
     clear hb5 y0 y1 y2 HBT3 HBP3 HW3
     go_wp2_with fail
     go_at_call 35
     refine (octet_Put.calls k _ _ lb _ HLB.out).mono ?_
     rintro _ w6 ⟨rfl, hb6⟩
     have HBT6 := Aside0.mk (blk_below HBT5.out hb6)
     have HBP6 := Aside0.mk (blk_below HBP5.out hb6)
     have HW6 := Aside0.mk (below_then HW5.out HW5.out.size hb6)
     clear hb6 HBT5 HBP5 HW5
     have y0 := (blk_cell HBP6.out 0).trans rfl
     have y1 := (blk_cell HBP6.out 1).trans rfl
     have y2 := (blk_cell HBP6.out 2).trans rfl
     have hlp : gp < w6.heap.size := blk_lt HBP6.out
     go_wp2_with fail
     go_at_call 37
     refine (tmpl_from.calls As sp.length cs u _ _ _).mono ?_
     rintro _ w7 ⟨rfl, rfl⟩
     clear y0 y1 y2 hlp
     go_wp2_with fail
     obtain ⟨gl, hgl⟩ : ∃ gl, gl = w6.heap.size := ⟨_, rfl⟩
     rw [← hgl]
     have HL7 : Aside0 (((((w6.alloc (.cells #[.string lb] 9)).alloc (.cells #[.pointer none, .slice none 0 0] 86)).alloc (.cells #[.slice As sp.length cs, .int .i64 u, .bool true] 69)).alloc (.cells #[.int .i64 0] 3)).heap[gl]? = some (.cells #[.string lb] 9 (0, 0))) := ⟨by rw [hgl]; exact blk_alloc (blk_alloc (blk_alloc (heap_alloc_new _ _) _) _) _⟩
     have HB7 : Aside0 (((((w6.alloc (.cells #[.string lb] 9)).alloc (.cells #[.pointer none, .slice none 0 0] 86)).alloc (.cells #[.slice As sp.length cs, .int .i64 u, .bool true] 69)).alloc (.cells #[.int .i64 0] 3)).heap[gl + 1]? = some (.cells #[.pointer none, .slice none 0 0] 86 (0, 0))) := ⟨by
      rw [hgl]
      have := heap_alloc_new (w6.alloc (.cells #[.string lb] 9)) (.cells #[.pointer none, .slice none 0 0] 86)
      rw [World.size_alloc] at this
      exact blk_alloc (blk_alloc this _) _⟩
     have HP7 : Aside0 (((((w6.alloc (.cells #[.string lb] 9)).alloc (.cells #[.pointer none, .slice none 0 0] 86)).alloc (.cells #[.slice As sp.length cs, .int .i64 u, .bool true] 69)).alloc (.cells #[.int .i64 0] 3)).heap[gl + 1 + 1]? = some (.cells #[.slice As sp.length cs, .int .i64 u, .bool true] 69 (0, 0))) := ⟨by
      rw [hgl]
      have := heap_alloc_new ((w6.alloc (.cells #[.string lb] 9)).alloc (.cells #[.pointer none, .slice none 0 0] 86)) (.cells #[.slice As sp.length cs, .int .i64 u, .bool true] 69)
      rw [World.size_alloc, World.size_alloc] at this
      exact blk_alloc this _⟩
     have HA7 : Aside0 (((((w6.alloc (.cells #[.string lb] 9)).alloc (.cells #[.pointer none, .slice none 0 0] 86)).alloc (.cells #[.slice As sp.length cs, .int .i64 u, .bool true] 69)).alloc (.cells #[.int .i64 0] 3)).heap[gl + 1 + 1 + 1]? = some (.cells #[.int .i64 0] 3 (0, 0))) := ⟨by
      rw [hgl]
      have := heap_alloc_new (((w6.alloc (.cells #[.string lb] 9)).alloc (.cells #[.pointer none, .slice none 0 0] 86)).alloc (.cells #[.slice As sp.length cs, .int .i64 u, .bool true] 69)) (.cells #[.int .i64 0] 3)
      rw [World.size_alloc, World.size_alloc, World.size_alloc] at this
      exact this⟩
     have HBT7 := Aside0.mk (blk_alloc (blk_alloc (blk_alloc (blk_alloc HBT6.out (.cells #[.string lb] 9)) (.cells #[.pointer none, .slice none 0 0] 86)) (.cells #[.slice As sp.length cs, .int .i64 u, .bool true] 69)) (.cells #[.int .i64 0] 3))
     have HW7 := Aside0.mk (below_alloc (below_alloc (below_alloc (below_alloc HW6.out (.cells #[.string lb] 9)) (.cells #[.pointer none, .slice none 0 0] 86)) (.cells #[.slice As sp.length cs, .int .i64 u, .bool true] 69)) (.cells #[.int .i64 0] 3))
     have HZ7 : Aside0 (((((w6.alloc (.cells #[.string lb] 9)).alloc (.cells #[.pointer none, .slice none 0 0] 86)).alloc (.cells #[.slice As sp.length cs, .int .i64 u, .bool true] 69)).alloc (.cells #[.int .i64 0] 3)).heap.size = gl + 4) := ⟨by rw [World.size_alloc, World.size_alloc, World.size_alloc, World.size_alloc, hgl]⟩
     have HGL : Aside0 (w.heap.size < gl) := ⟨by rw [hgl]; exact Nat.lt_of_lt_of_le (blk_lt HBT6.out) (Nat.le_refl _)⟩
     clear hgl HBT6 HBP6 HW6
     generalize ((((w6.alloc (.cells #[.string lb] 9)).alloc (.cells #[.pointer none, .slice none 0 0] 86)).alloc (.cells #[.slice As sp.length cs, .int .i64 u, .bool true] 69)).alloc (.cells #[.int .i64 0] 3)) = W0 at HL7 HB7 HP7 HA7 HBT7 HW7 HZ7 ⊢
     have HINIT : Aside0 (PartI w.heap.size w.heap.size gl #[.string a0_0, .int .i64 a0_1, .int .i64 a0_2, .int .i64 a0_3, .string a0_4, .slice (some ad) l0_5.length c0_5] #[.slice As sp.length cs, .int .i64 u, .bool true] #[.int .i64 0] a0_4 lb w sp W0.heap.size [] W0) := ⟨HBT7.out, HL7.out, HP7.out, HA7.out, ⟨.slice none 0 0, _, { hB := by have := HGL.out; omega, blk := HB7.out, c0 := .inl rfl, c1 := rfl, own := own_nil _ _ _ _, ne := by simp [Value.ownBlock], lies := by kernel_rfl, Tne := by decide }⟩, HW7.out, Nat.le_refl _⟩
     refine wp_range_boxed (pb := 13) (n := 3) (gf := 57) rfl (enters_of Try.func57 (by kernel_rfl) rfl) (T := 71) (cells := fun s : InT sp => #[.int .i64 s.1.f0, .int .i64 s.1.f1, .int .i64 s.1.f2])
      (piece_iter 3 (gl + 1 + 1) (gl + 1 + 1 + 1) w.heap.size As cs sp u true 0 W0 HW7.out.size HP7.out HA7.out (fun W hW => Kd.C_below HX4.out (HW7.out.trans hW)) hk1 HM.out (Nat.le_trans hk2 (by decide))) KpP.trans ?hKb2 (Below.refl _ _)
      (PartI w.heap.size w.heap.size gl #[.string a0_0, .int .i64 a0_1, .int .i64 a0_2, .int .i64 a0_3, .string a0_4, .slice (some ad) l0_5.length c0_5] #[.slice As sp.length cs, .int .i64 u, .bool true] #[.int .i64 0] a0_4 lb w sp W0.heap.size) (partI_own HW7.out.size) HINIT.out ?hassign2 (fun _ _ h => h.2.2.2.2.2.2) ?hbody2 ?hdone2
     case hKb2 =>
      intro W l o o' hl hw h1 h2
      have := HZ7.out
      exact ⟨belowK_b HW7.out.size W l o o' hl hw h1 h2, World.putObj_heap_other (by omega), World.putObj_heap_other (by omega)⟩
     case hassign2 =>
      intro l pre s W K hI hK hsz
      have HI := Aside0.mk hI
      have HK' := Aside0.mk hK
      clear hI hK
      simp only [List.setIfInBounds_toArray, List.set_cons_zero, List.set_cons_succ] at HK' ⊢
      gi_wp2
      have := HZ7.out
      have := HW7.out.size
      exact HK'.out W.heap.size _ hsz ((KeepsOthers.alloc _ _).from _) ⟨(Below.refl _ _).alloc (by omega) _, Below.heap_alloc _ _ _ (by omega), Below.heap_alloc _ _ _ (by omega)⟩ ((partI_own HW7.out.size) pre W _ none HI.out (World.grownBy_alloc W _ none) (fun r e => by cases e)) (heap_alloc_new _ _)
     case hbody2 =>
      intro l pre s Bx W hI hBx hs hlen
      simp only [List.setIfInBounds_toArray, List.set_cons_zero, List.set_cons_succ]
      have HP0 : Aside0 (PB w.heap.size w.heap.size gl Bx #[.string a0_0, .int .i64 a0_1, .int .i64 a0_2, .int .i64 a0_3, .string a0_4, .slice (some ad) l0_5.length c0_5] #[.slice As sp.length cs, .int .i64 u, .bool true] #[.int .i64 0] #[.int .i64 s.1.f0, .int .i64 s.1.f1, .int .i64 s.1.f2] lb w (Lib.byteCells (partBytes a0_4 lb (pre.map (·.1))).data.toList) W) := ⟨hI.1, hI.2.1, hI.2.2.1, hI.2.2.2.1, hs, hI.2.2.2.2.1, hI.2.2.2.2.2.1⟩
      have HZW : Aside0 (W0.heap.size ≤ W.heap.size) := ⟨hI.2.2.2.2.2.2⟩
      have HPS : Aside0 ((partBytes a0_4 lb (pre.map (·.1))).size + 300000000 ≤ 30000000000000) := ⟨by
       have h1 := partBytes_size HK5.out HK4.out (pre.map (·.1))
       rw [List.length_map] at h1
       omega⟩
      have HNE : Aside0 (w.heap.size ≠ gl + 1 ∧ Bx ≠ gl + 1) := ⟨by have := HGL.out; have := HZ7.out; omega⟩
      obtain ⟨g1, g2, g3, g4⟩ := HK3.out s.1 s.2
      have HX1 : Aside0 ((a0_4.extract s.1.f0.toNat s.1.f2.toNat).size ≤ 100000000) := ⟨by have := HK5.out; rw [ByteArray.size_extract]; omega⟩
      have HX2 : Aside0 ((a0_4.extract (s.1.f2 + 4).toNat s.1.f1.toNat).size ≤ 100000000) := ⟨by have := HK5.out; rw [ByteArray.size_extract]; omega⟩
      have HFIN := Aside0.mk (partBytes_cells a0_4 lb s.1 (pre.map (·.1)))
      have c4 := (blk_cell HP0.out.1 4).trans rfl
      have e0 := (blk_cell HP0.out.2.2.2.2.1 0).trans rfl
      have e1 := (blk_cell HP0.out.2.2.2.2.1 1).trans rfl
      have e2 := (blk_cell HP0.out.2.2.2.2.1 2).trans rfl
      have hk5 := HK5.out
      have g5 : s.1.f2 ≤ (a0_4.size : Int) := by omega
      have g6 : 0 ≤ s.1.f2 := by omega
      have g7 : s.1.f2 ≤ 100000000 := by omega
      have g8 : 0 ≤ s.1.f2 + 4 := by omega
      clear hI hs hlen
      gi_wp2
      refine ⟨trivial, ?_⟩
      gi_at_call 38
      refine (CallsIn.inRound l (callsIn_wide.2 (PB.write HP0.out HNE.out.1 HNE.out.2 _ (by rw [Lib.byteCells_length, data_length]; have := HX1.out; have := HPS.out; omega) HP0.out.2.2.2.2.2.2.size))).mono ?_
      rintro e W1 ⟨rfl, hp1, hk1, ho1⟩
      have HP1 := Aside0.mk hp1
      have HKP1 := Aside0.mk hk1
      have HO1 := Aside0.mk ho1
      clear c4 e0 e1 e2 hp1 hk1 ho1
      have cl := (blk_cell HP1.out.2.1 0).trans rfl
      gi_wp2
      refine ⟨trivial, ?_⟩
      gi_at_call 38
      refine (CallsIn.inRound l (callsIn_wide.2 (PB.write HP1.out HNE.out.1 HNE.out.2 _ (by rw [List.length_append, Lib.byteCells_length, data_length, Lib.strCells_length]; have := HX1.out; have := HPS.out; have := HK4.out; omega) HP1.out.2.2.2.2.2.2.size))).mono ?_
      rintro e W2 ⟨rfl, hp2, hk2, ho2⟩
      have HP2 := Aside0.mk hp2
      have HKP2 := Aside0.mk hk2
      have HO2 := Aside0.mk ho2
      clear cl hp2 hk2 ho2
      have c4 := (blk_cell HP2.out.1 4).trans rfl
      have e1 := (blk_cell HP2.out.2.2.2.2.1 1).trans rfl
      have e2 := (blk_cell HP2.out.2.2.2.2.1 2).trans rfl
      gi_wp2
      refine ⟨trivial, ?_⟩
      gi_at_call 38
      refine (CallsIn.inRound l (callsIn_wide.2 (PB.write HP2.out HNE.out.1 HNE.out.2 _ (by rw [List.length_append, List.length_append, Lib.byteCells_length, data_length, Lib.strCells_length, Lib.strCells_length]; have := HX1.out; have := HX2.out; have := HPS.out; have := HK4.out; omega) HP2.out.2.2.2.2.2.2.size))).mono ?_
      rintro e W3 ⟨rfl, hp3, hk3, ho3⟩
      have HP3 := Aside0.mk hp3
      have HKP3 := Aside0.mk hk3
      have HO3 := Aside0.mk ho3
      clear c4 e1 e2 hp3 hk3 ho3
      gi_wp2
      have hf := HP3.out
      refine ⟨((HO1.out.trans HO2.out).trans HO3.out).from _, (HKP1.out.trans HKP2.out).trans HKP3.out, hf.1, hf.2.1, hf.2.2.1, hf.2.2.2.1, ?_, hf.2.2.2.2.2.2, Nat.le_trans HZW.out ((HO1.out.trans HO2.out).trans HO3.out).size⟩
      obtain ⟨v, cs', hb⟩ := hf.2.2.2.2.2.1
      rw [HFIN.out] at hb
      exact ⟨v, cs', by rw [List.map_append]; exact hb⟩
     case hdone2 =>
      intro D xs W hD hS hI hK
      simp only [Exit.inBlock, Exit.then]
      obtain ⟨v, cs', hb⟩ := hI.2.2.2.2.1
      have HBA := Aside0.mk hb
      have HWF := Aside0.mk hI.2.2.2.2.2.1
      have HKD := Aside0.mk hK
      have HDL : Aside0 (w.heap.size ≤ D) := ⟨Nat.le_trans HW7.out.size hD⟩
      have HXS : Aside0 (partBytes a0_4 lb (xs.map (·.1)) = partBytes a0_4 lb (turnedT sp (partAt a3 true sp.length))) := ⟨by rw [HMP.out]; exact congrArg _ hS⟩
      clear hb hI hK hS hD
      go_at_K
      go_wp2_with fail
      go_at_call 39
      refine (bld_StringK _ W HBA.out HWF.out.size).mono ?_
      rintro _ w8 ⟨rfl, _, _, hbl, hkp⟩
      have HW8 := Aside0.mk (HWF.out.trans hbl)
      have HK8 : Aside0 (w8.heap[D]? = some (.deferred (some []))) := ⟨blk_kept HKD.out hkp (fun e => by obtain ⟨cells, h2⟩ := HBA.out.cellsOwn D e.symm; rw [HKD.out] at h2; cases h2)⟩
      clear hbl hkp
      go_wp2_with fail
      refine ⟨by simp, .inl ⟨_, _, rfl, run_takeDeferred HK8.out, ?_⟩⟩
      refine ⟨_, results_tmp rfl _ _ _, ?_, HW8.out.trans (belowK_b (w := w) (Nat.le_refl _) w8 D _ _ HDL.out HK8.out rfl rfl)⟩
      rw [← HXS.out]
      rfl
   ·rw [if_neg hok] at h
    cases h
end
end Go.Proofs.Ytedjodnaalconaa.P
end
section
namespace Go.Proofs.Ytedjodnaalconaa.P
open Go.RowKit Go.Proofs.YtedjodnaalconaaW.PrintWords Go.Proofs.YtedjodnaalconaaW.PrintLast Go.Proofs.YtedjodnaalconaaW.PrintMore
attribute [local go_sem] max2_int min2_int max_two min_two max_three min_three max_four min_four
set_option linter.unusedVariables false
set_option linter.unusedSimpArgs false
mutual
def wellspringlaw18_Own.l0 : Nat → Int → ByteArray → Int → Int → Int → ByteArray → List (S74) → ByteArray → Int → Int → Int → ByteArray → List (S69) → Option (ByteArray × Int × Int × Int × ByteArray × (List (S69)))
 | 0, _, _, _, _, _, _, _, _, _, _, _, _, _ => none
 | k + 1, x4, x413000, x413001, x413002, x413003, x413004, x413005, x415000, x415001, x415002, x415003, x415004, x415005 => if x4 < (x413005.length : Int) then (if 0 ≤ x4 then (wellspringlaw18_Own.l1 k x4 0 x413000 x413001 x413002 x413003 x413004 x413005 x415000 x415001 x415002 x415003 x415004 x415005 ([] : List (S71)) ((rd_T74 x413005 x4).f1) ((rd_T74 x413005 x4).f2)) else (none)) else (some (x415000, x415001, x415002, x415003, x415004, x415005))
def wellspringlaw18_Own.l1 : Nat → Int → Int → ByteArray → Int → Int → Int → ByteArray → List (S74) → ByteArray → Int → Int → Int → ByteArray → List (S69) → List (S71) → Int → Bool → Option (ByteArray × Int × Int × Int × ByteArray × (List (S69)))
 | 0, _, _, _, _, _, _, _, _, _, _, _, _, _, _, _, _, _ => none
 | k + 1, x4, x6, x413000, x413001, x413002, x413003, x413004, x413005, x415000, x415001, x415002, x415003, x415004, x415005, x418000, x418001, x418002 => if 0 ≤ x4 then (if x4 < (x413005.length : Int) then (if x6 < (((rd_T74 x413005 x4).f0).length : Int) then (if 0 ≤ x6 then (if x418000.length < 5864062014805 then (wellspringlaw18_Own.l1 k x4 (wrap64 (x6 + 1)) x413000 x413001 x413002 x413003 x413004 x413005 x415000 x415001 x415002 x415003 x415004 x415005 (x418000 ++ [(⟨(rd_T80 ((rd_T74 x413005 x4).f0) x6).f0, (rd_T80 ((rd_T74 x413005 x4).f0) x6).f1, (rd_T80 ((rd_T74 x413005 x4).f0) x6).f2⟩ : S71)]) x418001 x418002) else (none)) else (none)) else (if x415005.length < 3518437208883 then (wellspringlaw18_Own.l0 k (wrap64 (x4 + 1)) x413000 x413001 x413002 x413003 x413004 x413005 x415000 x415001 x415002 x415003 x415004 (x415005 ++ [(⟨x418000, x418001, x418002⟩ : S69)])) else (none))) else (none)) else (none)
end
def wellspringlaw18_Own.f (k : Nat) (a0_0 : ByteArray) (a0_1 : Int) (a0_2 : Int) (a0_3 : Int) (a0_4 : ByteArray) (l0_5 : List (S74)) : Option (ByteArray × Int × Int × Int × ByteArray × (List (S69))) := wellspringlaw18_Own.l0 k 0 a0_0 a0_1 a0_2 a0_3 a0_4 l0_5 a0_0 a0_1 a0_2 a0_3 a0_4 ([] : List (S69))
theorem wellspringlaw18_Own.mono_l : ∀ k, (∀ y0 y1 y2 y3 y4 y5 y6 y7 y8 y9 y10 y11 y12, LeO (wellspringlaw18_Own.l0 k y0 y1 y2 y3 y4 y5 y6 y7 y8 y9 y10 y11 y12) (wellspringlaw18_Own.l0 (k + 1) y0 y1 y2 y3 y4 y5 y6 y7 y8 y9 y10 y11 y12)) ∧ (∀ y0 y1 y2 y3 y4 y5 y6 y7 y8 y9 y10 y11 y12 y13 y14 y15 y16, LeO (wellspringlaw18_Own.l1 k y0 y1 y2 y3 y4 y5 y6 y7 y8 y9 y10 y11 y12 y13 y14 y15 y16) (wellspringlaw18_Own.l1 (k + 1) y0 y1 y2 y3 y4 y5 y6 y7 y8 y9 y10 y11 y12 y13 y14 y15 y16))
 | 0 => ⟨fun _ _ _ _ _ _ _ _ _ _ _ _ _ r h => by simp [wellspringlaw18_Own.l0] at h, fun _ _ _ _ _ _ _ _ _ _ _ _ _ _ _ _ _ r h => by simp [wellspringlaw18_Own.l1] at h⟩
 | k + 1 => by
  obtain ⟨ih0, ih1⟩ := wellspringlaw18_Own.mono_l k
  refine ⟨?_, ?_⟩
  ·intro y0 y1 y2 y3 y4 y5 y6 y7 y8 y9 y10 y11 y12
   unfold wellspringlaw18_Own.l0
   repeat' first
   | (with_reducible exact ih0 _ _ _ _ _ _ _ _ _ _ _ _ _)
   | (with_reducible exact ih1 _ _ _ _ _ _ _ _ _ _ _ _ _ _ _ _ _)
   | (with_reducible exact LeO.refl _)
   | (with_reducible exact LeO.none _)
   | (with_reducible refine LeO.ite ?_ ?_)
   | (with_reducible refine LeO.bind ?_ (fun _ => ?_))
  ·intro y0 y1 y2 y3 y4 y5 y6 y7 y8 y9 y10 y11 y12 y13 y14 y15 y16
   unfold wellspringlaw18_Own.l1
   repeat' first
   | (with_reducible exact ih0 _ _ _ _ _ _ _ _ _ _ _ _ _)
   | (with_reducible exact ih1 _ _ _ _ _ _ _ _ _ _ _ _ _ _ _ _ _)
   | (with_reducible exact LeO.refl _)
   | (with_reducible exact LeO.none _)
   | (with_reducible refine LeO.ite ?_ ?_)
   | (with_reducible refine LeO.bind ?_ (fun _ => ?_))
theorem wellspringlaw18_Own.mono : ∀ a0 a1 a2 a3 a4 a5 k, LeO (wellspringlaw18_Own.f k a0 a1 a2 a3 a4 a5) (wellspringlaw18_Own.f (k + 1) a0 a1 a2 a3 a4 a5) := by
 intro a0 a1 a2 a3 a4 a5 k
 obtain ⟨ih0, ih1⟩ := wellspringlaw18_Own.mono_l k
 unfold wellspringlaw18_Own.f
 repeat' first
   | (with_reducible exact ih0 _ _ _ _ _ _ _ _ _ _ _ _ _)
   | (with_reducible exact ih1 _ _ _ _ _ _ _ _ _ _ _ _ _ _ _ _ _)
   | (with_reducible exact LeO.refl _)
   | (with_reducible exact LeO.none _)
   | (with_reducible refine LeO.ite ?_ ?_)
   | (with_reducible refine LeO.bind ?_ (fun _ => ?_))
def wellspringlaw18_Own.T5 : Bool × List (List Nat × List Nat) := (true, [([], []), ([0], [0]), ([], []), ([1, 2], [1, 2]), ([3], [3]), ([4], [4]), ([], []), ([6], [6]), ([], []), ([7, 8], [7, 8]), ([9], [9]), ([10], [10]), ([5, 11], [5, 11]), ([], []), ([13, 12, 0, 1, 2, 3, 4, 5, 6, 7, 8, 9, 10, 11, 12, 13], [12, 13])])
def wellspringlaw18_Own.B5 : List Nat := [0, 1, 0, 7, 15, 31, 0, 64, 0, 448, 960, 1984, 4095, 0, 16383]
theorem wellspringlaw18_Own.tab5 : rtab .any (opsOf Try.f17 5) = wellspringlaw18_Own.T5 := by kernel_rfl
theorem wellspringlaw18_Own.bits5 : waitsOk wellspringlaw18_Own.T5.2 wellspringlaw18_Own.B5 = true := by kernel_rfl
def wellspringlaw18_Own.T9 : Bool × List (List Nat × List Nat) := (true, [([], []), ([0], [0]), ([], []), ([2], [2]), ([], []), ([3, 4], [3, 4]), ([5], [5]), ([6], [6]), ([], []), ([7, 8], [7, 8]), ([9], [9]), ([10], [10]), ([1, 11], [1, 11]), ([0, 1, 2, 3, 4, 5, 6, 7, 8, 9, 10, 11, 12], []), ([13, 12, 12, 0, 1, 2, 3, 4, 5, 6, 7, 8, 9, 10, 11, 12], [12, 13])])
def wellspringlaw18_Own.B9 : List Nat := [0, 1, 0, 4, 0, 28, 60, 124, 0, 508, 1020, 2044, 4095, 8191, 16383]
theorem wellspringlaw18_Own.tab9 : rtab .any (opsOf Try.f17 9) = wellspringlaw18_Own.T9 := by kernel_rfl
theorem wellspringlaw18_Own.bits9 : waitsOk wellspringlaw18_Own.T9.2 wellspringlaw18_Own.B9 = true := by kernel_rfl
set_option maxHeartbeats 8000000 in
set_option maxRecDepth 100000 in
theorem wellspringlaw18_Own.calls (k : Nat) (a0_0 : ByteArray) (a0_1 : Int) (a0_2 : Int) (a0_3 : Int) (a0_4 : ByteArray) (A0_5 : Option Addr) (c0_5 : Nat) (l0_5 : List (S74)) (r1 : ByteArray) (r2 : Int) (r3 : Int) (r4 : Int) (r5 : ByteArray) (r6 : List (S69)) (w : World) (hr0_5 : Kd.C k74 w A0_5 l0_5.length l0_5) (hc0_5 : l0_5.length ≤ c0_5) (h : wellspringlaw18_Own.f k a0_0 a0_1 a0_2 a0_3 a0_4 l0_5 = some (r1, r2, r3, r4, r5, r6)) :
  Calls Try.prog 17 #[.agg #[.string a0_0, .int .i64 a0_1, .int .i64 a0_2, .int .i64 a0_3, .string a0_4, .slice A0_5 l0_5.length c0_5]] w fun e w' => ∃ v5_ : Value, e = .returned (.agg #[.string r1, .int .i64 r2, .int .i64 r3, .int .i64 r4, .string r5, v5_]) ∧ Kd.S k69 69 w' w.heap.size (fun _ => True) v5_ r6 ∧ Below w.heap.size w w' := by
 have hu46 := Try.underlying46
 have hu36 := Try.underlying36
 have hu23 := Try.underlying23
 have hu69 := Try.underlying69
 have hu80 := Try.underlying80
 have HR0_5 := Aside0.mk hr0_5
 have HC0_5 := Aside0.mk hc0_5
 clear hr0_5 hc0_5
 have HB := Aside0.mk (Below.refl w.heap.size w)
 have H : (wellspringlaw18_Own.l0 k 0 a0_0 a0_1 a0_2 a0_3 a0_4 l0_5 a0_0 a0_1 a0_2 a0_3 a0_4 ([] : List (S69))) = some (r1, r2, r3, r4, r5, r6) := h
 clear h
 have H' := Aside0.mk H
 clear H
 go_enter Try.func17, Try.ntmps17
 go_wp2_with (first | ((with_reducible refine gate_dst (N := 1) rfl ?_); refine box_event ?hg (N := 1) ?hd (cs := #[.string a0_0, .int .i64 a0_1, .int .i64 a0_2, .int .i64 a0_3, .string a0_4, .slice A0_5 l0_5.length c0_5]) (t := 46) ?hr ?_; (case hd => rfl); (case hg => rfl); (case hr => first | (go_simp; done) | (go_simp; rfl)); intro gb412 hg w2 hbox hb; have n0_ := Aside0.mk (below_step (by repeat (first | (with_reducible first | exact HB.out | apply below_alloc | apply pw_below_drewN | apply below_drew1) | exact HB.out)) hb); have n1_ := Aside0.mk (hbox); have n2_ := Aside0.mk ((by rw [hg]; exact (below_size (by repeat (first | (with_reducible first | exact HB.out | apply below_alloc | apply pw_below_drewN | apply below_drew1) | exact HB.out))) : w.heap.size ≤ gb412)); have n3_ := Aside0.mk ((by rw [hg]; exact (below_size (by repeat (first | (with_reducible first | exact HB.out | apply below_alloc | apply pw_below_drewN | apply below_drew1) | exact HB.out))) : w.heap.size ≤ gb412)); clear HB; have HB := n0_; have BK412 := n1_; have GW412 := n2_; have GE412 := n3_; clear n0_ n1_ n2_ n3_; clear hb hbox hg) | ((with_reducible refine gate_dst (N := 2) rfl ?_); refine box_event ?hg (N := 2) ?hd (cs := #[.string (⟨#[]⟩ : ByteArray), .int .i64 0, .int .i64 0, .int .i64 0, .string (⟨#[]⟩ : ByteArray), .slice none 0 0]) (t := 36) ?hr ?_; (case hd => rfl); (case hg => rfl); (case hr => first | (go_simp; done) | (go_simp; rfl)); intro gb413 hg w3 hbox hb; have n0_ := Aside0.mk (blk_below (g := gb412) (o := .cells #[.string a0_0, .int .i64 a0_1, .int .i64 a0_2, .int .i64 a0_3, .string a0_4, .slice A0_5 l0_5.length c0_5] 46 (0, 0)) (by (with_reducible repeat (first | refine blk_drewN ?_ _ | refine blk_drew ?_ | refine blk_alloc ?_ _)); exact BK412.out) hb); have n1_ := Aside0.mk (below_step (by repeat (first | (with_reducible first | exact HB.out | apply below_alloc | apply pw_below_drewN | apply below_drew1 | refine below_set ?_ GE412.out) | exact HB.out)) hb); have n2_ := Aside0.mk (hbox); have n3_ := Aside0.mk ((by rw [hg]; exact (below_size (by repeat (first | (with_reducible first | exact HB.out | apply below_alloc | apply pw_below_drewN | apply below_drew1 | refine below_set ?_ GE412.out) | exact HB.out))) : w.heap.size ≤ gb413)); have n4_ := Aside0.mk ((by rw [hg]; exact (below_size (by repeat (first | (with_reducible first | exact HB.out | apply below_alloc | apply pw_below_drewN | apply below_drew1 | refine below_set ?_ GE412.out) | exact HB.out))) : w.heap.size ≤ gb413)); have n5_ := Aside0.mk ((by rw [hg]; exact Nat.ne_of_lt (blk_lt (g := gb412) (o := .cells #[.string a0_0, .int .i64 a0_1, .int .i64 a0_2, .int .i64 a0_3, .string a0_4, .slice A0_5 l0_5.length c0_5] 46 (0, 0)) (by (with_reducible repeat (first | refine blk_drewN ?_ _ | refine blk_drew ?_ | refine blk_alloc ?_ _)); exact BK412.out)) : gb412 ≠ gb413)); have n6_ := Aside0.mk ((by rw [hg]; exact Nat.ne_of_gt (blk_lt (g := gb412) (o := .cells #[.string a0_0, .int .i64 a0_1, .int .i64 a0_2, .int .i64 a0_3, .string a0_4, .slice A0_5 l0_5.length c0_5] 46 (0, 0)) (by (with_reducible repeat (first | refine blk_drewN ?_ _ | refine blk_drew ?_ | refine blk_alloc ?_ _)); exact BK412.out)) : gb413 ≠ gb412)); clear BK412; clear HB; have BK412 := n0_; have HB := n1_; have BK413 := n2_; have GW413 := n3_; have GE413 := n4_; have NB412_413 := n5_; have NB413_412 := n6_; clear n0_ n1_ n2_ n3_ n4_ n5_ n6_; clear hb hbox hg; have hnb4 := NB412_413.out; have hnc4 := NB413_412.out; have hcz5_0 : w3.cell? ⟨gb412, 0, none⟩ = some (.string a0_0) := (blk_cell BK412.out 0).trans rfl; have hcz5_1 : w3.cell? ⟨gb412, 1, none⟩ = some (.int .i64 a0_1) := (blk_cell BK412.out 1).trans rfl; have hcz5_2 : w3.cell? ⟨gb412, 2, none⟩ = some (.int .i64 a0_2) := (blk_cell BK412.out 2).trans rfl; have hcz5_3 : w3.cell? ⟨gb412, 3, none⟩ = some (.int .i64 a0_3) := (blk_cell BK412.out 3).trans rfl; have hcz5_4 : w3.cell? ⟨gb412, 4, none⟩ = some (.string a0_4) := (blk_cell BK412.out 4).trans rfl; have hcz5_5 : w3.cell? ⟨gb412, 5, none⟩ = some (.slice A0_5 l0_5.length c0_5) := (blk_cell BK412.out 5).trans rfl; have hfz5_0 := blk_frozen BK412.out 0; have hfz5_1 := blk_frozen BK412.out 1; have hfz5_2 := blk_frozen BK412.out 2; have hfz5_3 := blk_frozen BK412.out 3; have hfz5_4 := blk_frozen BK412.out 4; have hfz5_5 := blk_frozen BK412.out 5) | ((with_reducible refine gate_dst (N := 3) rfl ?_); refine box_event ?hg (N := 3) ?hd (cs := #[.string (⟨#[]⟩ : ByteArray), .int .i64 0, .int .i64 0, .int .i64 0, .string (⟨#[]⟩ : ByteArray), .slice none 0 0]) (t := 36) ?hr ?_; (case hd => rfl); (case hg => rfl); (case hr => first | (go_simp; done) | (go_simp; rfl)); intro gb414 hg w6 hbox hb; have n0_ := Aside0.mk (blk_below (g := gb412) (o := .cells #[.string a0_0, .int .i64 a0_1, .int .i64 a0_2, .int .i64 a0_3, .string a0_4, .slice A0_5 l0_5.length c0_5] 46 (0, 0)) (by (with_reducible repeat (first | refine blk_drewN ?_ _ | refine blk_drew ?_ | refine blk_alloc ?_ _)); exact BK412.out) hb); have n1_ := Aside0.mk (blk_below (g := gb413) (o := .cells #[.string (⟨#[]⟩ : ByteArray), .int .i64 0, .int .i64 0, .int .i64 0, .string (⟨#[]⟩ : ByteArray), .slice none 0 0] 36 (0, 0)) (by (with_reducible repeat (first | refine blk_drewN ?_ _ | refine blk_drew ?_ | refine blk_alloc ?_ _)); exact BK413.out) hb); have n2_ := Aside0.mk (below_step (by repeat (first | (with_reducible first | exact HB.out | apply below_alloc | apply pw_below_drewN | apply below_drew1 | refine below_set ?_ GE412.out | refine below_set ?_ GE413.out) | exact HB.out)) hb); have n3_ := Aside0.mk (hbox); have n4_ := Aside0.mk ((by rw [hg]; exact (below_size (by repeat (first | (with_reducible first | exact HB.out | apply below_alloc | apply pw_below_drewN | apply below_drew1 | refine below_set ?_ GE412.out | refine below_set ?_ GE413.out) | exact HB.out))) : w.heap.size ≤ gb414)); have n5_ := Aside0.mk ((by rw [hg]; exact (below_size (by repeat (first | (with_reducible first | exact HB.out | apply below_alloc | apply pw_below_drewN | apply below_drew1 | refine below_set ?_ GE412.out | refine below_set ?_ GE413.out) | exact HB.out))) : w.heap.size ≤ gb414)); have n6_ := Aside0.mk ((by rw [hg]; exact Nat.ne_of_lt (blk_lt (g := gb412) (o := .cells #[.string a0_0, .int .i64 a0_1, .int .i64 a0_2, .int .i64 a0_3, .string a0_4, .slice A0_5 l0_5.length c0_5] 46 (0, 0)) (by (with_reducible repeat (first | refine blk_drewN ?_ _ | refine blk_drew ?_ | refine blk_alloc ?_ _)); exact BK412.out)) : gb412 ≠ gb414)); have n7_ := Aside0.mk ((by rw [hg]; exact Nat.ne_of_gt (blk_lt (g := gb412) (o := .cells #[.string a0_0, .int .i64 a0_1, .int .i64 a0_2, .int .i64 a0_3, .string a0_4, .slice A0_5 l0_5.length c0_5] 46 (0, 0)) (by (with_reducible repeat (first | refine blk_drewN ?_ _ | refine blk_drew ?_ | refine blk_alloc ?_ _)); exact BK412.out)) : gb414 ≠ gb412)); have n8_ := Aside0.mk ((by rw [hg]; exact Nat.ne_of_lt (blk_lt (g := gb413) (o := .cells #[.string (⟨#[]⟩ : ByteArray), .int .i64 0, .int .i64 0, .int .i64 0, .string (⟨#[]⟩ : ByteArray), .slice none 0 0] 36 (0, 0)) (by (with_reducible repeat (first | refine blk_drewN ?_ _ | refine blk_drew ?_ | refine blk_alloc ?_ _)); exact BK413.out)) : gb413 ≠ gb414)); have n9_ := Aside0.mk ((by rw [hg]; exact Nat.ne_of_gt (blk_lt (g := gb413) (o := .cells #[.string (⟨#[]⟩ : ByteArray), .int .i64 0, .int .i64 0, .int .i64 0, .string (⟨#[]⟩ : ByteArray), .slice none 0 0] 36 (0, 0)) (by (with_reducible repeat (first | refine blk_drewN ?_ _ | refine blk_drew ?_ | refine blk_alloc ?_ _)); exact BK413.out)) : gb414 ≠ gb413)); clear BK412; clear BK413; clear HB; have BK412 := n0_; have BK413 := n1_; have HB := n2_; have BK414 := n3_; have GW414 := n4_; have GE414 := n5_; have NB412_414 := n6_; have NB414_412 := n7_; have NB413_414 := n8_; have NB414_413 := n9_; clear n0_ n1_ n2_ n3_ n4_ n5_ n6_ n7_ n8_ n9_; clear hb hbox hg; have hnb7 := NB414_412.out; have hnc7 := NB412_414.out; have hnb8 := NB414_413.out; have hnc8 := NB413_414.out; have hcz9_0 : w6.cell? ⟨gb414, 0, none⟩ = some (.string (⟨#[]⟩ : ByteArray)) := (blk_cell BK414.out 0).trans rfl; have hcz9_1 : w6.cell? ⟨gb414, 1, none⟩ = some (.int .i64 0) := (blk_cell BK414.out 1).trans rfl; have hcz9_2 : w6.cell? ⟨gb414, 2, none⟩ = some (.int .i64 0) := (blk_cell BK414.out 2).trans rfl; have hcz9_3 : w6.cell? ⟨gb414, 3, none⟩ = some (.int .i64 0) := (blk_cell BK414.out 3).trans rfl; have hcz9_4 : w6.cell? ⟨gb414, 4, none⟩ = some (.string (⟨#[]⟩ : ByteArray)) := (blk_cell BK414.out 4).trans rfl; have hcz9_5 : w6.cell? ⟨gb414, 5, none⟩ = some (.slice none 0 0) := (blk_cell BK414.out 5).trans rfl; have hfz9_0 := blk_frozen BK414.out 0; have hfz9_1 := blk_frozen BK414.out 1; have hfz9_2 := blk_frozen BK414.out 2; have hfz9_3 := blk_frozen BK414.out 3; have hfz9_4 := blk_frozen BK414.out 4; have hfz9_5 := blk_frozen BK414.out 5))
 go_loopg [4] k (fun kq v4 w' => ∃ (x4_1 : Int) (x415005_1 : List (S69)) (u415005 : Value), v4 = .int .i64 x4_1 ∧ Aside0 (wellspringlaw18_Own.l0 kq x4_1 a0_0 a0_1 a0_2 a0_3 a0_4 l0_5 a0_0 a0_1 a0_2 a0_3 a0_4 x415005_1 = some (r1, r2, r3, r4, r5, r6)) ∧ Aside0 (kq ≤ k) ∧ Aside0 (Kd.S k69 69 w' w.heap.size (fun _ => True) u415005 x415005_1) ∧ Aside0 (w'.heap[gb412]? = some (.cells #[.string a0_0, .int .i64 a0_1, .int .i64 a0_2, .int .i64 a0_3, .string a0_4, (.slice A0_5 l0_5.length c0_5)] 46 (0, 0))) ∧ Aside0 (w'.heap[gb413]? = some (.cells #[.string (⟨#[]⟩ : ByteArray), .int .i64 0, .int .i64 0, .int .i64 0, .string (⟨#[]⟩ : ByteArray), (.slice none 0 0)] 36 (0, 0))) ∧ Aside0 (w'.heap[gb414]? = some (.cells #[.string a0_0, .int .i64 a0_1, .int .i64 a0_2, .int .i64 a0_3, .string a0_4, u415005] 36 (0, 0))) ∧ Aside0 (Below w.heap.size w w'))
 case atStart => exact ⟨(0), (([] : List (S69))), (.slice none 0 0), (by first | rfl | (simp; done) | (simp [*]; done)), H', ⟨Nat.le_refl _⟩, ⟨by first | exact Kd.S_nil _ _ _ _ _ | exact Kd.N_nil _ _ _ _ _ | exact Kd.V_nil _ _ _ _ _ | exact Kd.Q_nil _ _ _ _ _ | exact Kd.R_nil _ _ _ _ _⟩, ⟨by (with_reducible repeat (first | refine blk_drewN ?_ _ | refine blk_drew ?_ | refine blk_alloc ?_ _)); refine blk_far ?_ NB412_414.out _; (with_reducible repeat (first | refine blk_drewN ?_ _ | refine blk_drew ?_ | refine blk_alloc ?_ _)); refine blk_far ?_ NB412_414.out _; (with_reducible repeat (first | refine blk_drewN ?_ _ | refine blk_drew ?_ | refine blk_alloc ?_ _)); refine blk_far ?_ NB412_414.out _; (with_reducible repeat (first | refine blk_drewN ?_ _ | refine blk_drew ?_ | refine blk_alloc ?_ _)); refine blk_far ?_ NB412_414.out _; (with_reducible repeat (first | refine blk_drewN ?_ _ | refine blk_drew ?_ | refine blk_alloc ?_ _)); refine blk_far ?_ NB412_414.out _; (with_reducible repeat (first | refine blk_drewN ?_ _ | refine blk_drew ?_ | refine blk_alloc ?_ _)); refine blk_far ?_ NB412_414.out _; (with_reducible repeat (first | refine blk_drewN ?_ _ | refine blk_drew ?_ | refine blk_alloc ?_ _)); exact BK412.out⟩, ⟨by (with_reducible repeat (first | refine blk_drewN ?_ _ | refine blk_drew ?_ | refine blk_alloc ?_ _)); refine blk_far ?_ NB413_414.out _; (with_reducible repeat (first | refine blk_drewN ?_ _ | refine blk_drew ?_ | refine blk_alloc ?_ _)); refine blk_far ?_ NB413_414.out _; (with_reducible repeat (first | refine blk_drewN ?_ _ | refine blk_drew ?_ | refine blk_alloc ?_ _)); refine blk_far ?_ NB413_414.out _; (with_reducible repeat (first | refine blk_drewN ?_ _ | refine blk_drew ?_ | refine blk_alloc ?_ _)); refine blk_far ?_ NB413_414.out _; (with_reducible repeat (first | refine blk_drewN ?_ _ | refine blk_drew ?_ | refine blk_alloc ?_ _)); refine blk_far ?_ NB413_414.out _; (with_reducible repeat (first | refine blk_drewN ?_ _ | refine blk_drew ?_ | refine blk_alloc ?_ _)); refine blk_far ?_ NB413_414.out _; (with_reducible repeat (first | refine blk_drewN ?_ _ | refine blk_drew ?_ | refine blk_alloc ?_ _)); exact BK413.out⟩, ⟨by (with_reducible repeat (first | refine blk_drewN ?_ _ | refine blk_drew ?_ | refine blk_alloc ?_ _)); refine blk_put (cs := #[.string a0_0, .int .i64 a0_1, .int .i64 a0_2, .int .i64 a0_3, .string a0_4, .slice none 0 0]) ?_ 5 _ rfl; (with_reducible repeat (first | refine blk_drewN ?_ _ | refine blk_drew ?_ | refine blk_alloc ?_ _)); refine blk_put (cs := #[.string a0_0, .int .i64 a0_1, .int .i64 a0_2, .int .i64 a0_3, .string (⟨#[]⟩ : ByteArray), .slice none 0 0]) ?_ 4 _ rfl; (with_reducible repeat (first | refine blk_drewN ?_ _ | refine blk_drew ?_ | refine blk_alloc ?_ _)); refine blk_put (cs := #[.string a0_0, .int .i64 a0_1, .int .i64 a0_2, .int .i64 0, .string (⟨#[]⟩ : ByteArray), .slice none 0 0]) ?_ 3 _ rfl; (with_reducible repeat (first | refine blk_drewN ?_ _ | refine blk_drew ?_ | refine blk_alloc ?_ _)); refine blk_put (cs := #[.string a0_0, .int .i64 a0_1, .int .i64 0, .int .i64 0, .string (⟨#[]⟩ : ByteArray), .slice none 0 0]) ?_ 2 _ rfl; (with_reducible repeat (first | refine blk_drewN ?_ _ | refine blk_drew ?_ | refine blk_alloc ?_ _)); refine blk_put (cs := #[.string a0_0, .int .i64 0, .int .i64 0, .int .i64 0, .string (⟨#[]⟩ : ByteArray), .slice none 0 0]) ?_ 1 _ rfl; (with_reducible repeat (first | refine blk_drewN ?_ _ | refine blk_drew ?_ | refine blk_alloc ?_ _)); refine blk_put (cs := #[.string (⟨#[]⟩ : ByteArray), .int .i64 0, .int .i64 0, .int .i64 0, .string (⟨#[]⟩ : ByteArray), .slice none 0 0]) ?_ 0 _ rfl; (with_reducible repeat (first | refine blk_drewN ?_ _ | refine blk_drew ?_ | refine blk_alloc ?_ _)); exact BK414.out⟩, ⟨by repeat (first | (with_reducible first | exact HB.out | apply below_alloc | apply pw_below_drewN | apply below_drew1 | refine below_set ?_ GE412.out | refine below_set ?_ GE413.out | refine below_set ?_ GE414.out) | exact HB.out)⟩⟩
 case round =>
  clear H'
  try clear c1
  try clear p2
  try clear c4
  try clear c7
  try clear c8
  try clear hcz5_0
  try clear hcz5_1
  try clear hcz5_2
  try clear hcz5_3
  try clear hcz5_4
  try clear hcz5_5
  try clear hcz9_0
  try clear hcz9_1
  try clear hcz9_2
  try clear hcz9_3
  try clear hcz9_4
  try clear hcz9_5
  try clear hfz5_0
  try clear hfz5_1
  try clear hfz5_2
  try clear hfz5_3
  try clear hfz5_4
  try clear hfz5_5
  try clear hfz9_0
  try clear hfz9_1
  try clear hfz9_2
  try clear hfz9_3
  try clear hfz9_4
  try clear hfz9_5
  obtain ⟨x4_1, x415005_1, u415005, rfl, HA, HK1, HO_415005, BK412, BK413, BK414, HB⟩ := hrel
  cases gk with
  | zero => exact absurd HA.out (by simp [wellspringlaw18_Own.l0])
  | succ k1 =>
   have H := HA.out
   clear HA
   simp only [wellspringlaw18_Own.l0] at H
   by_cases c10 : x4_1 < (l0_5.length : Int)
   ·rw [if_pos c10] at H
    have c10b0 : decide (x4_1 < (l0_5.length : Int)) = true := decide_eq_true c10
    clear c10
    by_cases c11 : 0 ≤ x4_1
    ·rw [if_pos c11] at H
     have c11b0 : decide (0 ≤ x4_1) = true := decide_eq_true c11
     clear c11
     have H' := Aside0.mk H
     clear H
     have hnb12 := NB412_413.out
     have hnc12 := NB413_412.out
     have hnb13 := NB412_414.out
     have hnc13 := NB414_412.out
     have hcz14_0 : wr.cell? ⟨gb412, 0, none⟩ = some (.string a0_0) := (blk_cell BK412.out 0).trans rfl
     have hcz14_1 : wr.cell? ⟨gb412, 1, none⟩ = some (.int .i64 a0_1) := (blk_cell BK412.out 1).trans rfl
     have hcz14_2 : wr.cell? ⟨gb412, 2, none⟩ = some (.int .i64 a0_2) := (blk_cell BK412.out 2).trans rfl
     have hcz14_3 : wr.cell? ⟨gb412, 3, none⟩ = some (.int .i64 a0_3) := (blk_cell BK412.out 3).trans rfl
     have hcz14_4 : wr.cell? ⟨gb412, 4, none⟩ = some (.string a0_4) := (blk_cell BK412.out 4).trans rfl
     have hcz14_5 : wr.cell? ⟨gb412, 5, none⟩ = some (.slice A0_5 l0_5.length c0_5) := (blk_cell BK412.out 5).trans rfl
     have hfz14_0 := blk_frozen BK412.out 0
     have hfz14_1 := blk_frozen BK412.out 1
     have hfz14_2 := blk_frozen BK412.out 2
     have hfz14_3 := blk_frozen BK412.out 3
     have hfz14_4 := blk_frozen BK412.out 4
     have hfz14_5 := blk_frozen BK412.out 5
     try go_wp2
     have n0_ := Aside0.mk (Kd.S_drew HO_415005.out)
     have n1_ := Aside0.mk (blk_drew BK412.out)
     have n2_ := Aside0.mk (blk_drew BK413.out)
     have n3_ := Aside0.mk (blk_drew BK414.out)
     have n4_ := Aside0.mk (below_drew1 HB.out)
     clear HO_415005
     clear BK412
     clear BK413
     clear BK414
     clear HB
     have HO_415005 := n0_
     have BK412 := n1_
     have BK413 := n2_
     have BK414 := n3_
     have HB := n4_
     clear n0_ n1_ n2_ n3_ n4_
     have p415 : 0 ≤ (x4_1 : Int) := of_decide_eq_true (by first | (with_reducible assumption) | assumption)
     have q415 : x4_1 < (l0_5.length : Int) := of_decide_eq_true (by first | (with_reducible assumption) | assumption)
     obtain ⟨ad415, A415_0, c415_0, e415, hx415_0, hx415_1, hx415_2, hl415_0, hi415_0⟩ := at_T74 HR0_5.out x4_1 p415 q415
     have hw415_2 := hx415_2
     have hw415_1 := hx415_1
     have hw415_0 := hx415_0
     cases e415
     replace hx415_0 := (HB.out.cell (World.block_lt_of_cell? w _ hx415_0)).trans hx415_0
     replace hx415_1 := (HB.out.cell (World.block_lt_of_cell? w _ hx415_1)).trans hx415_1
     replace hx415_2 := (HB.out.cell (World.block_lt_of_cell? w _ hx415_2)).trans hx415_2
     have HR415_0 := Aside0.mk hi415_0
     have HC415_0 := Aside0.mk hl415_0
     clear hi415_0 hl415_0
     replace p415 := eq_true p415
     replace q415 := eq_true q415
     have p416 : 0 ≤ (x4_1 : Int) := of_decide_eq_true (by first | (with_reducible assumption) | assumption)
     have q416 : x4_1 < (l0_5.length : Int) := of_decide_eq_true (by first | (with_reducible assumption) | assumption)
     obtain ⟨ad416, A416_0, c416_0, e416, hx416_0, hx416_1, hx416_2, hl416_0, hi416_0⟩ := at_T74 HR0_5.out x4_1 p416 q416
     have hw416_2 := hx416_2
     have hw416_1 := hx416_1
     have hw416_0 := hx416_0
     obtain rfl : ad415 = ad416 := (by injection e416)
     replace hx416_0 := (HB.out.cell (World.block_lt_of_cell? w _ hx416_0)).trans hx416_0
     replace hx416_1 := (HB.out.cell (World.block_lt_of_cell? w _ hx416_1)).trans hx416_1
     replace hx416_2 := (HB.out.cell (World.block_lt_of_cell? w _ hx416_2)).trans hx416_2
     have HR416_0 := Aside0.mk hi416_0
     have HC416_0 := Aside0.mk hl416_0
     clear hi416_0 hl416_0
     replace p416 := eq_true p416
     replace q416 := eq_true q416
     have ea_ := Option.some.inj (hx415_0.symm.trans hx416_0)
     injection ea_ with ea_ en_ ec_
     subst ea_
     subst ec_
     clear en_
     refine start_ (n := 15) (S := fun w' => w'.cell? ⟨gb412, 0, none⟩ = some (.string a0_0) ∧ w'.cell? ⟨gb412, 1, none⟩ = some (.int .i64 a0_1) ∧ w'.cell? ⟨gb412, 2, none⟩ = some (.int .i64 a0_2) ∧ w'.cell? ⟨gb412, 3, none⟩ = some (.int .i64 a0_3) ∧ w'.cell? ⟨gb412, 4, none⟩ = some (.string a0_4) ∧ w'.cell? ⟨gb412, 5, none⟩ = some (.slice (some ad415) l0_5.length c0_5) ∧ w'.cell? (ad415.add ((x4_1).toNat * 3)) = some (.slice A415_0 ((rd_T74 l0_5 x4_1).f0).length c415_0) ∧ w'.cell? ⟨(ad415.add ((x4_1).toNat * 3)).block, (ad415.add ((x4_1).toNat * 3)).off + 1, none⟩ = some (.int .i64 ((rd_T74 l0_5 x4_1).f1)) ∧ w'.cell? ⟨(ad415.add ((x4_1).toNat * 3)).block, (ad415.add ((x4_1).toNat * 3)).off + 2, none⟩ = some (.bool ((rd_T74 l0_5 x4_1).f2)) ∧ w'.cell? (ad415.add ((x4_1).toNat * 3)) = some (.slice A415_0 ((rd_T74 l0_5 x4_1).f0).length c415_0) ∧ w'.cell? ⟨(ad415.add ((x4_1).toNat * 3)).block, (ad415.add ((x4_1).toNat * 3)).off + 1, none⟩ = some (.int .i64 ((rd_T74 l0_5 x4_1).f1)) ∧ w'.cell? ⟨(ad415.add ((x4_1).toNat * 3)).block, (ad415.add ((x4_1).toNat * 3)).off + 2, none⟩ = some (.bool ((rd_T74 l0_5 x4_1).f2))) (ds := []) #[false, false, false, false, false, false, false, false, false, false, false, false, false, false, false] (by kernel_rfl) rfl rfl ⟨(blk_cell BK412.out 0).trans rfl, (blk_cell BK412.out 1).trans rfl, (blk_cell BK412.out 2).trans rfl, (blk_cell BK412.out 3).trans rfl, (blk_cell BK412.out 4).trans rfl, (blk_cell BK412.out 5).trans rfl, ((HB.out.cell (World.block_lt_of_cell? w _ hw415_0)).trans hw415_0), ((HB.out.cell (World.block_lt_of_cell? w _ hw415_1)).trans hw415_1), ((HB.out.cell (World.block_lt_of_cell? w _ hw415_2)).trans hw415_2), ((HB.out.cell (World.block_lt_of_cell? w _ hw416_0)).trans hw416_0), ((HB.out.cell (World.block_lt_of_cell? w _ hw416_1)).trans hw416_1), ((HB.out.cell (World.block_lt_of_cell? w _ hw416_2)).trans hw416_2)⟩ (fun hHeld => ?_); refine with_tabW wellspringlaw18_Own.tab5 wellspringlaw18_Own.bits5 (fun HT_ HW_ => ?_)
     generalize wr.drew = w15 at HO_415005 BK412 BK413 BK414 HB HR415_0 HR416_0 hx415_0 hx415_1 hx415_2 hx416_0 hx416_1 hx416_2 hHeld ⊢
     refine pure_ (i := 0) (N := some 21) (v := ?_) (a' := ?_) #[true, false, false, false, false, false, false, false, false, false, false, false, false, false, false] rfl rfl (any_of HT_.out (by kernel_rfl)) (fun _ _ _ h => h) (Or.inl ⟨by rfl, ?_⟩) ?_ ?_
     rotate_left
     ·intro w'
      go_simp
      with_reducible rfl
     rotate_left
     ·simp only [Act.put, List.setIfInBounds_toArray, List.set_cons_zero, List.set_cons_succ, i64_w, i32_w]
      rfl
     refine pure_ (i := 2) (N := some 23) (v := ?_) (a' := ?_) #[true, false, true, false, false, false, false, false, false, false, false, false, false, false, false] rfl rfl (any_of HT_.out (by kernel_rfl)) (fun _ _ _ h => h) (Or.inl ⟨by rfl, ?_⟩) ?_ ?_
     rotate_left
     ·intro w'
      go_simp
      with_reducible rfl
     rotate_left
     ·simp only [Act.put, List.setIfInBounds_toArray, List.set_cons_zero, List.set_cons_succ, i64_w, i32_w]
      rfl
     refine pure_ (i := 6) (N := some 27) (v := ?_) (a' := ?_) #[true, false, true, false, false, false, true, false, false, false, false, false, false, false, false] rfl rfl (any_of HT_.out (by kernel_rfl)) (fun _ _ _ h => h) (Or.inl ⟨by rfl, ?_⟩) ?_ ?_
     rotate_left
     ·intro w'
      go_simp
      with_reducible rfl
     rotate_left
     ·simp only [Act.put, List.setIfInBounds_toArray, List.set_cons_zero, List.set_cons_succ, i64_w, i32_w]
      rfl
     refine pure_ (i := 8) (N := some 29) (v := ?_) (a' := ?_) #[true, false, true, false, false, false, true, false, true, false, false, false, false, false, false] rfl rfl (any_of HT_.out (by kernel_rfl)) (fun _ _ _ h => h) (Or.inl ⟨by rfl, ?_⟩) ?_ ?_
     rotate_left
     ·intro w'
      go_simp
      with_reducible rfl
     rotate_left
     ·simp only [Act.put, List.setIfInBounds_toArray, List.set_cons_zero, List.set_cons_succ, i64_w, i32_w]
      rfl
     refine take_ (i := 1) (N := some 22) (v := ?_) (a' := ?_) #[true, true, true, false, false, false, true, false, true, false, false, false, false, false, false] rfl rfl (take_ofW HT_.out HW_.out (by kernel_rfl)) (fun _ _ _ h => h) (Or.inl ⟨by rfl, ?_⟩) hHeld ?_ ?_
     rotate_left
     ·rintro w' ⟨s0, s1, s2, s3, s4, s5, s6, s7, s8, s9, s10, s11⟩
      go_simp
      with_reducible rfl
     rotate_left
     ·simp only [Act.put, List.setIfInBounds_toArray, List.set_cons_zero, List.set_cons_succ, i64_w, i32_w]
      rfl
     refine pure_ (i := 3) (N := some 24) (v := ?_) (a' := ?_) #[true, true, true, true, false, false, true, false, true, false, false, false, false, false, false] rfl rfl (any_of HT_.out (by kernel_rfl)) (fun _ _ _ h => h) (Or.inl ⟨by rfl, ?_⟩) ?_ ?_
     rotate_left
     ·intro w'
      go_simp
      with_reducible rfl
     rotate_left
     ·simp only [Act.put, List.setIfInBounds_toArray, List.set_cons_zero, List.set_cons_succ, i64_w, i32_w]
      rfl
     refine pure_ (i := 4) (N := some 25) (v := ?_) (a' := ?_) #[true, true, true, true, true, false, true, false, true, false, false, false, false, false, false] rfl rfl (any_of HT_.out (by kernel_rfl)) (fun _ _ _ h => h) (Or.inl ⟨by rfl, ?_⟩) ?_ ?_
     rotate_left
     ·intro w'
      go_simp
      with_reducible rfl
     rotate_left
     ·simp only [Act.put, List.setIfInBounds_toArray, List.set_cons_zero, List.set_cons_succ, i64_w, i32_w]
      rfl
     refine take_ (i := 5) (N := some 26) (v := ?_) (a' := ?_) #[true, true, true, true, true, true, true, false, true, false, false, false, false, false, false] rfl rfl (take_ofW HT_.out HW_.out (by kernel_rfl)) (fun _ _ _ h => h) (Or.inl ⟨by rfl, ?_⟩) hHeld ?_ ?_
     rotate_left
     ·rintro w' ⟨s0, s1, s2, s3, s4, s5, s6, s7, s8, s9, s10, s11⟩
      go_simp
      with_reducible rfl
     rotate_left
     ·simp only [Act.put, List.setIfInBounds_toArray, List.set_cons_zero, List.set_cons_succ, i64_w, i32_w]
      rfl
     refine take_ (i := 7) (N := some 28) (v := ?_) (a' := ?_) #[true, true, true, true, true, true, true, true, true, false, false, false, false, false, false] rfl rfl (take_ofW HT_.out HW_.out (by kernel_rfl)) (fun _ _ _ h => h) (Or.inl ⟨by rfl, ?_⟩) hHeld ?_ ?_
     rotate_left
     ·rintro w' ⟨s0, s1, s2, s3, s4, s5, s6, s7, s8, s9, s10, s11⟩
      go_simp
      with_reducible rfl
     rotate_left
     ·simp only [Act.put, List.setIfInBounds_toArray, List.set_cons_zero, List.set_cons_succ, i64_w, i32_w]
      rfl
     refine pure_ (i := 9) (N := some 30) (v := ?_) (a' := ?_) #[true, true, true, true, true, true, true, true, true, true, false, false, false, false, false] rfl rfl (any_of HT_.out (by kernel_rfl)) (fun _ _ _ h => h) (Or.inl ⟨by rfl, ?_⟩) ?_ ?_
     rotate_left
     ·intro w'
      go_simp
      with_reducible rfl
     rotate_left
     ·simp only [Act.put, List.setIfInBounds_toArray, List.set_cons_zero, List.set_cons_succ, i64_w, i32_w]
      rfl
     refine pure_ (i := 10) (N := some 31) (v := ?_) (a' := ?_) #[true, true, true, true, true, true, true, true, true, true, true, false, false, false, false] rfl rfl (any_of HT_.out (by kernel_rfl)) (fun _ _ _ h => h) (Or.inl ⟨by rfl, ?_⟩) ?_ ?_
     rotate_left
     ·intro w'
      go_simp
      with_reducible rfl
     rotate_left
     ·simp only [Act.put, List.setIfInBounds_toArray, List.set_cons_zero, List.set_cons_succ, i64_w, i32_w]
      rfl
     refine take_ (i := 11) (N := some 32) (v := ?_) (a' := ?_) #[true, true, true, true, true, true, true, true, true, true, true, true, false, false, false] rfl rfl (take_ofW HT_.out HW_.out (by kernel_rfl)) (fun _ _ _ h => h) (Or.inl ⟨by rfl, ?_⟩) hHeld ?_ ?_
     rotate_left
     ·rintro w' ⟨s0, s1, s2, s3, s4, s5, s6, s7, s8, s9, s10, s11⟩
      go_simp
      with_reducible rfl
     rotate_left
     ·simp only [Act.put, List.setIfInBounds_toArray, List.set_cons_zero, List.set_cons_succ, i64_w, i32_w]
      rfl
     refine pure_ (i := 12) (N := some 33) (v := ?_) (a' := ?_) #[true, true, true, true, true, true, true, true, true, true, true, true, true, false, false] rfl rfl (any_of HT_.out (by kernel_rfl)) (fun _ _ _ h => h) (Or.inl ⟨by rfl, ?_⟩) ?_ ?_
     rotate_left
     ·intro w'
      go_simp
      with_reducible rfl
     rotate_left
     ·simp only [Act.put, List.setIfInBounds_toArray, List.set_cons_zero, List.set_cons_succ, i64_w, i32_w]
      rfl
     refine one_ (i := 13) (N := some 5) #[true, true, true, true, true, true, true, true, true, true, true, true, true, true, false] rfl rfl (one_of HT_.out (by kernel_rfl)) (by decide) (fun K hK => ?_)
     refine box_step ?hg (N := 5) ?hd (cs := #[.slice none 0 0, .int .i64 0, .bool false]) (t := 69) ?hr ?_; (case hd => rfl); (case hg => rfl); (case hr => first | (go_simp; done) | (go_simp; rfl))
     intro gb417 hg w16 hbox hb
     have n0_ := Aside0.mk (Kd.S_below (Kd.S_elderB (by (with_reducible repeat (first | apply Kd.S_alloc | apply Kd.S_drewN | apply Kd.S_drew)); exact HO_415005.out) gb417 (Nat.le_of_eq hg.symm)) hb)
     have n1_ := Aside0.mk (blk_below (g := gb412) (o := .cells #[.string a0_0, .int .i64 a0_1, .int .i64 a0_2, .int .i64 a0_3, .string a0_4, .slice (some ad415) l0_5.length c0_5] 46 (0, 0)) (by (with_reducible repeat (first | refine blk_drewN ?_ _ | refine blk_drew ?_ | refine blk_alloc ?_ _)); exact BK412.out) hb)
     have n2_ := Aside0.mk (blk_below (g := gb413) (o := .cells #[.string (⟨#[]⟩ : ByteArray), .int .i64 0, .int .i64 0, .int .i64 0, .string (⟨#[]⟩ : ByteArray), .slice none 0 0] 36 (0, 0)) (by (with_reducible repeat (first | refine blk_drewN ?_ _ | refine blk_drew ?_ | refine blk_alloc ?_ _)); exact BK413.out) hb)
     have n3_ := Aside0.mk (blk_below (g := gb414) (o := .cells #[.string a0_0, .int .i64 a0_1, .int .i64 a0_2, .int .i64 a0_3, .string a0_4, u415005] 36 (0, 0)) (by (with_reducible repeat (first | refine blk_drewN ?_ _ | refine blk_drew ?_ | refine blk_alloc ?_ _)); exact BK414.out) hb)
     have n4_ := Aside0.mk (below_step (by repeat (first | (with_reducible first | exact HB.out | apply below_alloc | apply pw_below_drewN | apply below_drew1 | refine below_set ?_ GE412.out | refine below_set ?_ GE413.out | refine below_set ?_ GE414.out) | exact HB.out)) hb)
     have n5_ := Aside0.mk (hbox)
     have n6_ := Aside0.mk ((by rw [hg]; exact (below_size (by repeat (first | (with_reducible first | exact HB.out | apply below_alloc | apply pw_below_drewN | apply below_drew1 | refine below_set ?_ GE412.out | refine below_set ?_ GE413.out | refine below_set ?_ GE414.out) | exact HB.out))) : w.heap.size ≤ gb417))
     have n7_ := Aside0.mk ((by rw [hg]; exact (below_size (by repeat (first | (with_reducible first | exact HB.out | apply below_alloc | apply pw_below_drewN | apply below_drew1 | refine below_set ?_ GE412.out | refine below_set ?_ GE413.out | refine below_set ?_ GE414.out) | exact HB.out))) : w.heap.size ≤ gb417))
     have n8_ := Aside0.mk ((by rw [hg]; exact Nat.ne_of_lt (blk_lt (g := gb412) (o := .cells #[.string a0_0, .int .i64 a0_1, .int .i64 a0_2, .int .i64 a0_3, .string a0_4, .slice (some ad415) l0_5.length c0_5] 46 (0, 0)) (by (with_reducible repeat (first | refine blk_drewN ?_ _ | refine blk_drew ?_ | refine blk_alloc ?_ _)); exact BK412.out)) : gb412 ≠ gb417))
     have n9_ := Aside0.mk ((by rw [hg]; exact Nat.ne_of_gt (blk_lt (g := gb412) (o := .cells #[.string a0_0, .int .i64 a0_1, .int .i64 a0_2, .int .i64 a0_3, .string a0_4, .slice (some ad415) l0_5.length c0_5] 46 (0, 0)) (by (with_reducible repeat (first | refine blk_drewN ?_ _ | refine blk_drew ?_ | refine blk_alloc ?_ _)); exact BK412.out)) : gb417 ≠ gb412))
     have n10_ := Aside0.mk ((by rw [hg]; exact Nat.ne_of_lt (blk_lt (g := gb413) (o := .cells #[.string (⟨#[]⟩ : ByteArray), .int .i64 0, .int .i64 0, .int .i64 0, .string (⟨#[]⟩ : ByteArray), .slice none 0 0] 36 (0, 0)) (by (with_reducible repeat (first | refine blk_drewN ?_ _ | refine blk_drew ?_ | refine blk_alloc ?_ _)); exact BK413.out)) : gb413 ≠ gb417))
     have n11_ := Aside0.mk ((by rw [hg]; exact Nat.ne_of_gt (blk_lt (g := gb413) (o := .cells #[.string (⟨#[]⟩ : ByteArray), .int .i64 0, .int .i64 0, .int .i64 0, .string (⟨#[]⟩ : ByteArray), .slice none 0 0] 36 (0, 0)) (by (with_reducible repeat (first | refine blk_drewN ?_ _ | refine blk_drew ?_ | refine blk_alloc ?_ _)); exact BK413.out)) : gb417 ≠ gb413))
     have n12_ := Aside0.mk ((by rw [hg]; exact Nat.ne_of_lt (blk_lt (g := gb414) (o := .cells #[.string a0_0, .int .i64 a0_1, .int .i64 a0_2, .int .i64 a0_3, .string a0_4, u415005] 36 (0, 0)) (by (with_reducible repeat (first | refine blk_drewN ?_ _ | refine blk_drew ?_ | refine blk_alloc ?_ _)); exact BK414.out)) : gb414 ≠ gb417))
     have n13_ := Aside0.mk ((by rw [hg]; exact Nat.ne_of_gt (blk_lt (g := gb414) (o := .cells #[.string a0_0, .int .i64 a0_1, .int .i64 a0_2, .int .i64 a0_3, .string a0_4, u415005] 36 (0, 0)) (by (with_reducible repeat (first | refine blk_drewN ?_ _ | refine blk_drew ?_ | refine blk_alloc ?_ _)); exact BK414.out)) : gb417 ≠ gb414))
     clear HO_415005
     clear BK412
     clear BK413
     clear BK414
     clear HB
     have HO_415005 := n0_
     have BK412 := n1_
     have BK413 := n2_
     have BK414 := n3_
     have HB := n4_
     have BK417 := n5_
     have GW417 := n6_
     have GE417 := n7_
     have NB412_417 := n8_
     have NB417_412 := n9_
     have NB413_417 := n10_
     have NB417_413 := n11_
     have NB414_417 := n12_
     have NB417_414 := n13_
     clear n0_ n1_ n2_ n3_ n4_ n5_ n6_ n7_ n8_ n9_ n10_ n11_ n12_ n13_
     clear hb hbox hg
     refine hK.out _ _ ⟨(blk_cell BK412.out 0).trans rfl, (blk_cell BK412.out 1).trans rfl, (blk_cell BK412.out 2).trans rfl, (blk_cell BK412.out 3).trans rfl, (blk_cell BK412.out 4).trans rfl, (blk_cell BK412.out 5).trans rfl, ((HB.out.cell (World.block_lt_of_cell? w _ hw415_0)).trans hw415_0), ((HB.out.cell (World.block_lt_of_cell? w _ hw415_1)).trans hw415_1), ((HB.out.cell (World.block_lt_of_cell? w _ hw415_2)).trans hw415_2), ((HB.out.cell (World.block_lt_of_cell? w _ hw416_0)).trans hw416_0), ((HB.out.cell (World.block_lt_of_cell? w _ hw416_1)).trans hw416_1), ((HB.out.cell (World.block_lt_of_cell? w _ hw416_2)).trans hw416_2)⟩ (fun hHeld => ?_)
     clear hK K
     refine norm_ (a' := ?_) ?_ ?_
     rotate_left
     ·show Act.put _ (some 5) _ = _
      simp only [Act.put, List.setIfInBounds_toArray, List.set_cons_zero, List.set_cons_succ, i64_w, i32_w]
      rfl
     refine one_ (i := 14) (N := none) #[true, true, true, true, true, true, true, true, true, true, true, true, true, true, true] rfl rfl (one_of HT_.out (by kernel_rfl)) (by decide) (fun K hK => ?_)
     have hs17 : w16.cell? ⟨gb417, 0, none⟩ = some (.slice none 0 0) := (blk_cell BK417.out 0).trans rfl
     have hfs17 := blk_frozen BK417.out 0
     have hns17_0 := NB412_417.out
     have hns17_1 := NB413_417.out
     have hns17_2 := NB414_417.out
     have hms17_0 := NB417_412.out
     have hms17_1 := NB417_413.out
     have hms17_2 := NB417_414.out
     have hs18 : w16.cell? ⟨gb417, 1, none⟩ = some (.int .i64 0) := (blk_cell BK417.out 1).trans rfl
     have hfs18 := blk_frozen BK417.out 1
     have hns18_0 := NB412_417.out
     have hns18_1 := NB413_417.out
     have hns18_2 := NB414_417.out
     have hms18_0 := NB417_412.out
     have hms18_1 := NB417_413.out
     have hms18_2 := NB417_414.out
     have hs19 : w16.cell? ⟨gb417, 2, none⟩ = some (.bool false) := (blk_cell BK417.out 2).trans rfl
     have hfs19 := blk_frozen BK417.out 2
     have hns19_0 := NB412_417.out
     have hns19_1 := NB413_417.out
     have hns19_2 := NB414_417.out
     have hms19_0 := NB417_412.out
     have hms19_1 := NB417_413.out
     have hms19_2 := NB417_414.out
     refine skip_ (w1 := ?_) (by rfl) rfl ?_ ?_
     rotate_left
     ·go_simp
      rfl
     refine hK.out _ _ ⟨((cell_far (p := ⟨gb417, _, none⟩) NB412_417.out _).trans (((cell_far (p := ⟨gb417, _, none⟩) NB412_417.out _).trans (((cell_far (p := ⟨gb417, _, none⟩) NB412_417.out _).trans (hHeld.1)))))), ((cell_far (p := ⟨gb417, _, none⟩) NB412_417.out _).trans (((cell_far (p := ⟨gb417, _, none⟩) NB412_417.out _).trans (((cell_far (p := ⟨gb417, _, none⟩) NB412_417.out _).trans (hHeld.2.1)))))), ((cell_far (p := ⟨gb417, _, none⟩) NB412_417.out _).trans (((cell_far (p := ⟨gb417, _, none⟩) NB412_417.out _).trans (((cell_far (p := ⟨gb417, _, none⟩) NB412_417.out _).trans (hHeld.2.2.1)))))), ((cell_far (p := ⟨gb417, _, none⟩) NB412_417.out _).trans (((cell_far (p := ⟨gb417, _, none⟩) NB412_417.out _).trans (((cell_far (p := ⟨gb417, _, none⟩) NB412_417.out _).trans (hHeld.2.2.2.1)))))), ((cell_far (p := ⟨gb417, _, none⟩) NB412_417.out _).trans (((cell_far (p := ⟨gb417, _, none⟩) NB412_417.out _).trans (((cell_far (p := ⟨gb417, _, none⟩) NB412_417.out _).trans (hHeld.2.2.2.2.1)))))), ((cell_far (p := ⟨gb417, _, none⟩) NB412_417.out _).trans (((cell_far (p := ⟨gb417, _, none⟩) NB412_417.out _).trans (((cell_far (p := ⟨gb417, _, none⟩) NB412_417.out _).trans (hHeld.2.2.2.2.2.1)))))), ((cell_far (p := ⟨gb417, _, none⟩) (by first | exact Nat.ne_of_lt (Nat.lt_of_lt_of_le (by have := World.block_lt_of_cell? _ _ hw415_0; first | rwa [add_block] at this | exact this) GW417.out) | (rw [add_block]; exact Nat.ne_of_lt (Nat.lt_of_lt_of_le (by have := World.block_lt_of_cell? _ _ hw415_0; first | rwa [add_block] at this | exact this) GW417.out)) | (show (Addr.add _ _).block ≠ _; rw [add_block]; exact Nat.ne_of_lt (Nat.lt_of_lt_of_le (by have := World.block_lt_of_cell? _ _ hw415_0; first | rwa [add_block] at this | exact this) GW417.out)) | (dsimp only; exact Nat.ne_of_lt (Nat.lt_of_lt_of_le (by have := World.block_lt_of_cell? _ _ hw415_0; first | rwa [add_block] at this | exact this) GW417.out))) _).trans (((cell_far (p := ⟨gb417, _, none⟩) (by first | exact Nat.ne_of_lt (Nat.lt_of_lt_of_le (by have := World.block_lt_of_cell? _ _ hw415_0; first | rwa [add_block] at this | exact this) GW417.out) | (rw [add_block]; exact Nat.ne_of_lt (Nat.lt_of_lt_of_le (by have := World.block_lt_of_cell? _ _ hw415_0; first | rwa [add_block] at this | exact this) GW417.out)) | (show (Addr.add _ _).block ≠ _; rw [add_block]; exact Nat.ne_of_lt (Nat.lt_of_lt_of_le (by have := World.block_lt_of_cell? _ _ hw415_0; first | rwa [add_block] at this | exact this) GW417.out)) | (dsimp only; exact Nat.ne_of_lt (Nat.lt_of_lt_of_le (by have := World.block_lt_of_cell? _ _ hw415_0; first | rwa [add_block] at this | exact this) GW417.out))) _).trans (((cell_far (p := ⟨gb417, _, none⟩) (by first | exact Nat.ne_of_lt (Nat.lt_of_lt_of_le (by have := World.block_lt_of_cell? _ _ hw415_0; first | rwa [add_block] at this | exact this) GW417.out) | (rw [add_block]; exact Nat.ne_of_lt (Nat.lt_of_lt_of_le (by have := World.block_lt_of_cell? _ _ hw415_0; first | rwa [add_block] at this | exact this) GW417.out)) | (show (Addr.add _ _).block ≠ _; rw [add_block]; exact Nat.ne_of_lt (Nat.lt_of_lt_of_le (by have := World.block_lt_of_cell? _ _ hw415_0; first | rwa [add_block] at this | exact this) GW417.out)) | (dsimp only; exact Nat.ne_of_lt (Nat.lt_of_lt_of_le (by have := World.block_lt_of_cell? _ _ hw415_0; first | rwa [add_block] at this | exact this) GW417.out))) _).trans (hHeld.2.2.2.2.2.2.1)))))), ((cell_far (p := ⟨gb417, _, none⟩) (by first | exact Nat.ne_of_lt (Nat.lt_of_lt_of_le (by have := World.block_lt_of_cell? _ _ hw415_1; first | rwa [add_block] at this | exact this) GW417.out) | (rw [add_block]; exact Nat.ne_of_lt (Nat.lt_of_lt_of_le (by have := World.block_lt_of_cell? _ _ hw415_1; first | rwa [add_block] at this | exact this) GW417.out)) | (show (Addr.add _ _).block ≠ _; rw [add_block]; exact Nat.ne_of_lt (Nat.lt_of_lt_of_le (by have := World.block_lt_of_cell? _ _ hw415_1; first | rwa [add_block] at this | exact this) GW417.out)) | (dsimp only; exact Nat.ne_of_lt (Nat.lt_of_lt_of_le (by have := World.block_lt_of_cell? _ _ hw415_1; first | rwa [add_block] at this | exact this) GW417.out))) _).trans (((cell_far (p := ⟨gb417, _, none⟩) (by first | exact Nat.ne_of_lt (Nat.lt_of_lt_of_le (by have := World.block_lt_of_cell? _ _ hw415_1; first | rwa [add_block] at this | exact this) GW417.out) | (rw [add_block]; exact Nat.ne_of_lt (Nat.lt_of_lt_of_le (by have := World.block_lt_of_cell? _ _ hw415_1; first | rwa [add_block] at this | exact this) GW417.out)) | (show (Addr.add _ _).block ≠ _; rw [add_block]; exact Nat.ne_of_lt (Nat.lt_of_lt_of_le (by have := World.block_lt_of_cell? _ _ hw415_1; first | rwa [add_block] at this | exact this) GW417.out)) | (dsimp only; exact Nat.ne_of_lt (Nat.lt_of_lt_of_le (by have := World.block_lt_of_cell? _ _ hw415_1; first | rwa [add_block] at this | exact this) GW417.out))) _).trans (((cell_far (p := ⟨gb417, _, none⟩) (by first | exact Nat.ne_of_lt (Nat.lt_of_lt_of_le (by have := World.block_lt_of_cell? _ _ hw415_1; first | rwa [add_block] at this | exact this) GW417.out) | (rw [add_block]; exact Nat.ne_of_lt (Nat.lt_of_lt_of_le (by have := World.block_lt_of_cell? _ _ hw415_1; first | rwa [add_block] at this | exact this) GW417.out)) | (show (Addr.add _ _).block ≠ _; rw [add_block]; exact Nat.ne_of_lt (Nat.lt_of_lt_of_le (by have := World.block_lt_of_cell? _ _ hw415_1; first | rwa [add_block] at this | exact this) GW417.out)) | (dsimp only; exact Nat.ne_of_lt (Nat.lt_of_lt_of_le (by have := World.block_lt_of_cell? _ _ hw415_1; first | rwa [add_block] at this | exact this) GW417.out))) _).trans (hHeld.2.2.2.2.2.2.2.1)))))), ((cell_far (p := ⟨gb417, _, none⟩) (by first | exact Nat.ne_of_lt (Nat.lt_of_lt_of_le (by have := World.block_lt_of_cell? _ _ hw415_2; first | rwa [add_block] at this | exact this) GW417.out) | (rw [add_block]; exact Nat.ne_of_lt (Nat.lt_of_lt_of_le (by have := World.block_lt_of_cell? _ _ hw415_2; first | rwa [add_block] at this | exact this) GW417.out)) | (show (Addr.add _ _).block ≠ _; rw [add_block]; exact Nat.ne_of_lt (Nat.lt_of_lt_of_le (by have := World.block_lt_of_cell? _ _ hw415_2; first | rwa [add_block] at this | exact this) GW417.out)) | (dsimp only; exact Nat.ne_of_lt (Nat.lt_of_lt_of_le (by have := World.block_lt_of_cell? _ _ hw415_2; first | rwa [add_block] at this | exact this) GW417.out))) _).trans (((cell_far (p := ⟨gb417, _, none⟩) (by first | exact Nat.ne_of_lt (Nat.lt_of_lt_of_le (by have := World.block_lt_of_cell? _ _ hw415_2; first | rwa [add_block] at this | exact this) GW417.out) | (rw [add_block]; exact Nat.ne_of_lt (Nat.lt_of_lt_of_le (by have := World.block_lt_of_cell? _ _ hw415_2; first | rwa [add_block] at this | exact this) GW417.out)) | (show (Addr.add _ _).block ≠ _; rw [add_block]; exact Nat.ne_of_lt (Nat.lt_of_lt_of_le (by have := World.block_lt_of_cell? _ _ hw415_2; first | rwa [add_block] at this | exact this) GW417.out)) | (dsimp only; exact Nat.ne_of_lt (Nat.lt_of_lt_of_le (by have := World.block_lt_of_cell? _ _ hw415_2; first | rwa [add_block] at this | exact this) GW417.out))) _).trans (((cell_far (p := ⟨gb417, _, none⟩) (by first | exact Nat.ne_of_lt (Nat.lt_of_lt_of_le (by have := World.block_lt_of_cell? _ _ hw415_2; first | rwa [add_block] at this | exact this) GW417.out) | (rw [add_block]; exact Nat.ne_of_lt (Nat.lt_of_lt_of_le (by have := World.block_lt_of_cell? _ _ hw415_2; first | rwa [add_block] at this | exact this) GW417.out)) | (show (Addr.add _ _).block ≠ _; rw [add_block]; exact Nat.ne_of_lt (Nat.lt_of_lt_of_le (by have := World.block_lt_of_cell? _ _ hw415_2; first | rwa [add_block] at this | exact this) GW417.out)) | (dsimp only; exact Nat.ne_of_lt (Nat.lt_of_lt_of_le (by have := World.block_lt_of_cell? _ _ hw415_2; first | rwa [add_block] at this | exact this) GW417.out))) _).trans (hHeld.2.2.2.2.2.2.2.2.1)))))), ((cell_far (p := ⟨gb417, _, none⟩) (by first | exact Nat.ne_of_lt (Nat.lt_of_lt_of_le (by have := World.block_lt_of_cell? _ _ hw416_0; first | rwa [add_block] at this | exact this) GW417.out) | (rw [add_block]; exact Nat.ne_of_lt (Nat.lt_of_lt_of_le (by have := World.block_lt_of_cell? _ _ hw416_0; first | rwa [add_block] at this | exact this) GW417.out)) | (show (Addr.add _ _).block ≠ _; rw [add_block]; exact Nat.ne_of_lt (Nat.lt_of_lt_of_le (by have := World.block_lt_of_cell? _ _ hw416_0; first | rwa [add_block] at this | exact this) GW417.out)) | (dsimp only; exact Nat.ne_of_lt (Nat.lt_of_lt_of_le (by have := World.block_lt_of_cell? _ _ hw416_0; first | rwa [add_block] at this | exact this) GW417.out))) _).trans (((cell_far (p := ⟨gb417, _, none⟩) (by first | exact Nat.ne_of_lt (Nat.lt_of_lt_of_le (by have := World.block_lt_of_cell? _ _ hw416_0; first | rwa [add_block] at this | exact this) GW417.out) | (rw [add_block]; exact Nat.ne_of_lt (Nat.lt_of_lt_of_le (by have := World.block_lt_of_cell? _ _ hw416_0; first | rwa [add_block] at this | exact this) GW417.out)) | (show (Addr.add _ _).block ≠ _; rw [add_block]; exact Nat.ne_of_lt (Nat.lt_of_lt_of_le (by have := World.block_lt_of_cell? _ _ hw416_0; first | rwa [add_block] at this | exact this) GW417.out)) | (dsimp only; exact Nat.ne_of_lt (Nat.lt_of_lt_of_le (by have := World.block_lt_of_cell? _ _ hw416_0; first | rwa [add_block] at this | exact this) GW417.out))) _).trans (((cell_far (p := ⟨gb417, _, none⟩) (by first | exact Nat.ne_of_lt (Nat.lt_of_lt_of_le (by have := World.block_lt_of_cell? _ _ hw416_0; first | rwa [add_block] at this | exact this) GW417.out) | (rw [add_block]; exact Nat.ne_of_lt (Nat.lt_of_lt_of_le (by have := World.block_lt_of_cell? _ _ hw416_0; first | rwa [add_block] at this | exact this) GW417.out)) | (show (Addr.add _ _).block ≠ _; rw [add_block]; exact Nat.ne_of_lt (Nat.lt_of_lt_of_le (by have := World.block_lt_of_cell? _ _ hw416_0; first | rwa [add_block] at this | exact this) GW417.out)) | (dsimp only; exact Nat.ne_of_lt (Nat.lt_of_lt_of_le (by have := World.block_lt_of_cell? _ _ hw416_0; first | rwa [add_block] at this | exact this) GW417.out))) _).trans (hHeld.2.2.2.2.2.2.2.2.2.1)))))), ((cell_far (p := ⟨gb417, _, none⟩) (by first | exact Nat.ne_of_lt (Nat.lt_of_lt_of_le (by have := World.block_lt_of_cell? _ _ hw416_1; first | rwa [add_block] at this | exact this) GW417.out) | (rw [add_block]; exact Nat.ne_of_lt (Nat.lt_of_lt_of_le (by have := World.block_lt_of_cell? _ _ hw416_1; first | rwa [add_block] at this | exact this) GW417.out)) | (show (Addr.add _ _).block ≠ _; rw [add_block]; exact Nat.ne_of_lt (Nat.lt_of_lt_of_le (by have := World.block_lt_of_cell? _ _ hw416_1; first | rwa [add_block] at this | exact this) GW417.out)) | (dsimp only; exact Nat.ne_of_lt (Nat.lt_of_lt_of_le (by have := World.block_lt_of_cell? _ _ hw416_1; first | rwa [add_block] at this | exact this) GW417.out))) _).trans (((cell_far (p := ⟨gb417, _, none⟩) (by first | exact Nat.ne_of_lt (Nat.lt_of_lt_of_le (by have := World.block_lt_of_cell? _ _ hw416_1; first | rwa [add_block] at this | exact this) GW417.out) | (rw [add_block]; exact Nat.ne_of_lt (Nat.lt_of_lt_of_le (by have := World.block_lt_of_cell? _ _ hw416_1; first | rwa [add_block] at this | exact this) GW417.out)) | (show (Addr.add _ _).block ≠ _; rw [add_block]; exact Nat.ne_of_lt (Nat.lt_of_lt_of_le (by have := World.block_lt_of_cell? _ _ hw416_1; first | rwa [add_block] at this | exact this) GW417.out)) | (dsimp only; exact Nat.ne_of_lt (Nat.lt_of_lt_of_le (by have := World.block_lt_of_cell? _ _ hw416_1; first | rwa [add_block] at this | exact this) GW417.out))) _).trans (((cell_far (p := ⟨gb417, _, none⟩) (by first | exact Nat.ne_of_lt (Nat.lt_of_lt_of_le (by have := World.block_lt_of_cell? _ _ hw416_1; first | rwa [add_block] at this | exact this) GW417.out) | (rw [add_block]; exact Nat.ne_of_lt (Nat.lt_of_lt_of_le (by have := World.block_lt_of_cell? _ _ hw416_1; first | rwa [add_block] at this | exact this) GW417.out)) | (show (Addr.add _ _).block ≠ _; rw [add_block]; exact Nat.ne_of_lt (Nat.lt_of_lt_of_le (by have := World.block_lt_of_cell? _ _ hw416_1; first | rwa [add_block] at this | exact this) GW417.out)) | (dsimp only; exact Nat.ne_of_lt (Nat.lt_of_lt_of_le (by have := World.block_lt_of_cell? _ _ hw416_1; first | rwa [add_block] at this | exact this) GW417.out))) _).trans (hHeld.2.2.2.2.2.2.2.2.2.2.1)))))), ((cell_far (p := ⟨gb417, _, none⟩) (by first | exact Nat.ne_of_lt (Nat.lt_of_lt_of_le (by have := World.block_lt_of_cell? _ _ hw416_2; first | rwa [add_block] at this | exact this) GW417.out) | (rw [add_block]; exact Nat.ne_of_lt (Nat.lt_of_lt_of_le (by have := World.block_lt_of_cell? _ _ hw416_2; first | rwa [add_block] at this | exact this) GW417.out)) | (show (Addr.add _ _).block ≠ _; rw [add_block]; exact Nat.ne_of_lt (Nat.lt_of_lt_of_le (by have := World.block_lt_of_cell? _ _ hw416_2; first | rwa [add_block] at this | exact this) GW417.out)) | (dsimp only; exact Nat.ne_of_lt (Nat.lt_of_lt_of_le (by have := World.block_lt_of_cell? _ _ hw416_2; first | rwa [add_block] at this | exact this) GW417.out))) _).trans (((cell_far (p := ⟨gb417, _, none⟩) (by first | exact Nat.ne_of_lt (Nat.lt_of_lt_of_le (by have := World.block_lt_of_cell? _ _ hw416_2; first | rwa [add_block] at this | exact this) GW417.out) | (rw [add_block]; exact Nat.ne_of_lt (Nat.lt_of_lt_of_le (by have := World.block_lt_of_cell? _ _ hw416_2; first | rwa [add_block] at this | exact this) GW417.out)) | (show (Addr.add _ _).block ≠ _; rw [add_block]; exact Nat.ne_of_lt (Nat.lt_of_lt_of_le (by have := World.block_lt_of_cell? _ _ hw416_2; first | rwa [add_block] at this | exact this) GW417.out)) | (dsimp only; exact Nat.ne_of_lt (Nat.lt_of_lt_of_le (by have := World.block_lt_of_cell? _ _ hw416_2; first | rwa [add_block] at this | exact this) GW417.out))) _).trans (((cell_far (p := ⟨gb417, _, none⟩) (by first | exact Nat.ne_of_lt (Nat.lt_of_lt_of_le (by have := World.block_lt_of_cell? _ _ hw416_2; first | rwa [add_block] at this | exact this) GW417.out) | (rw [add_block]; exact Nat.ne_of_lt (Nat.lt_of_lt_of_le (by have := World.block_lt_of_cell? _ _ hw416_2; first | rwa [add_block] at this | exact this) GW417.out)) | (show (Addr.add _ _).block ≠ _; rw [add_block]; exact Nat.ne_of_lt (Nat.lt_of_lt_of_le (by have := World.block_lt_of_cell? _ _ hw416_2; first | rwa [add_block] at this | exact this) GW417.out)) | (dsimp only; exact Nat.ne_of_lt (Nat.lt_of_lt_of_le (by have := World.block_lt_of_cell? _ _ hw416_2; first | rwa [add_block] at this | exact this) GW417.out))) _).trans (hHeld.2.2.2.2.2.2.2.2.2.2.2))))))⟩ (fun hHeld => ?_)
     clear hK K
     refine done_ (done_of HT_.out (by kernel_rfl)) ?_
     try go_wp2
     go_loopg [6] k1 (fun kq v6 w' => ∃ (x6_2 : Int) (x418000_2 : List (S71)) (u418000 : Value), v6 = .int .i64 x6_2 ∧ Aside0 (wellspringlaw18_Own.l1 kq x4_1 x6_2 a0_0 a0_1 a0_2 a0_3 a0_4 l0_5 a0_0 a0_1 a0_2 a0_3 a0_4 x415005_1 x418000_2 ((rd_T74 l0_5 x4_1).f1) ((rd_T74 l0_5 x4_1).f2) = some (r1, r2, r3, r4, r5, r6)) ∧ Aside0 (kq ≤ k1) ∧ Aside0 (Kd.S k69 69 w' w.heap.size (fun k_ => some k_ ≠ (u418000 : Value).ownBlock ∧ k_ ≠ gb417) u415005 x415005_1) ∧ Aside0 (Kd.R k71 71 w' w.heap.size (fun _ => True) u418000 x418000_2) ∧ Aside0 (w'.heap[gb412]? = some (.cells #[.string a0_0, .int .i64 a0_1, .int .i64 a0_2, .int .i64 a0_3, .string a0_4, (.slice (some ad415) l0_5.length c0_5)] 46 (0, 0))) ∧ Aside0 (w'.heap[gb413]? = some (.cells #[.string (⟨#[]⟩ : ByteArray), .int .i64 0, .int .i64 0, .int .i64 0, .string (⟨#[]⟩ : ByteArray), (.slice none 0 0)] 36 (0, 0))) ∧ Aside0 (w'.heap[gb414]? = some (.cells #[.string a0_0, .int .i64 a0_1, .int .i64 a0_2, .int .i64 a0_3, .string a0_4, u415005] 36 (0, 0))) ∧ Aside0 (w'.heap[gb417]? = some (.cells #[u418000, .int .i64 ((rd_T74 l0_5 x4_1).f1), .bool ((rd_T74 l0_5 x4_1).f2)] 69 (0, 0))) ∧ Aside0 (Below w.heap.size w w'))
     case atStart => exact ⟨(0), (([] : List (S71))), (.slice none 0 0), (by first | rfl | (simp; done) | (simp [*]; done)), H', ⟨Nat.le_refl _⟩, ⟨by (with_reducible repeat (first | apply Kd.S_alloc | apply Kd.S_drewN | apply Kd.S_drew)); exact Kd.S_mono (Kd.S_far (p := ⟨gb417, 2, none⟩) (Kd.S_far (p := ⟨gb417, 1, none⟩) (Kd.S_far (p := ⟨gb417, 0, none⟩) (Kd.S_mono HO_415005.out (fun k_ hk => (⟨hk, hk.2⟩ : _ ∧ k_ ≠ gb417))) (fun _ hk => hk.2) (.slice none 0 0)) (fun _ hk => hk.2) (.int .i64 ((rd_T74 l0_5 x4_1).f1))) (fun _ hk => hk.2) (.bool ((rd_T74 l0_5 x4_1).f2))) (fun _ hk => ⟨(by simp [Value.ownBlock]), hk.1.2⟩)⟩, ⟨by first | exact Kd.R_nil _ _ _ _ _ | exact Kd.N_nil _ _ _ _ _ | exact Kd.V_nil _ _ _ _ _ | exact Kd.Q_nil _ _ _ _ _ | exact Kd.S_nil _ _ _ _ _⟩, ⟨by (with_reducible repeat (first | refine blk_drewN ?_ _ | refine blk_drew ?_ | refine blk_alloc ?_ _)); refine blk_far ?_ NB412_417.out _; (with_reducible repeat (first | refine blk_drewN ?_ _ | refine blk_drew ?_ | refine blk_alloc ?_ _)); refine blk_far ?_ NB412_417.out _; (with_reducible repeat (first | refine blk_drewN ?_ _ | refine blk_drew ?_ | refine blk_alloc ?_ _)); refine blk_far ?_ NB412_417.out _; (with_reducible repeat (first | refine blk_drewN ?_ _ | refine blk_drew ?_ | refine blk_alloc ?_ _)); exact BK412.out⟩, ⟨by (with_reducible repeat (first | refine blk_drewN ?_ _ | refine blk_drew ?_ | refine blk_alloc ?_ _)); refine blk_far ?_ NB413_417.out _; (with_reducible repeat (first | refine blk_drewN ?_ _ | refine blk_drew ?_ | refine blk_alloc ?_ _)); refine blk_far ?_ NB413_417.out _; (with_reducible repeat (first | refine blk_drewN ?_ _ | refine blk_drew ?_ | refine blk_alloc ?_ _)); refine blk_far ?_ NB413_417.out _; (with_reducible repeat (first | refine blk_drewN ?_ _ | refine blk_drew ?_ | refine blk_alloc ?_ _)); exact BK413.out⟩, ⟨by (with_reducible repeat (first | refine blk_drewN ?_ _ | refine blk_drew ?_ | refine blk_alloc ?_ _)); refine blk_far ?_ NB414_417.out _; (with_reducible repeat (first | refine blk_drewN ?_ _ | refine blk_drew ?_ | refine blk_alloc ?_ _)); refine blk_far ?_ NB414_417.out _; (with_reducible repeat (first | refine blk_drewN ?_ _ | refine blk_drew ?_ | refine blk_alloc ?_ _)); refine blk_far ?_ NB414_417.out _; (with_reducible repeat (first | refine blk_drewN ?_ _ | refine blk_drew ?_ | refine blk_alloc ?_ _)); exact BK414.out⟩, ⟨by (with_reducible repeat (first | refine blk_drewN ?_ _ | refine blk_drew ?_ | refine blk_alloc ?_ _)); refine blk_put (cs := #[.slice none 0 0, .int .i64 ((rd_T74 l0_5 x4_1).f1), .bool false]) ?_ 2 _ rfl; (with_reducible repeat (first | refine blk_drewN ?_ _ | refine blk_drew ?_ | refine blk_alloc ?_ _)); refine blk_put (cs := #[.slice none 0 0, .int .i64 0, .bool false]) ?_ 1 _ rfl; (with_reducible repeat (first | refine blk_drewN ?_ _ | refine blk_drew ?_ | refine blk_alloc ?_ _)); refine blk_put (cs := #[.slice none 0 0, .int .i64 0, .bool false]) ?_ 0 _ rfl; (with_reducible repeat (first | refine blk_drewN ?_ _ | refine blk_drew ?_ | refine blk_alloc ?_ _)); exact BK417.out⟩, ⟨by repeat (first | (with_reducible first | exact HB.out | apply below_alloc | apply pw_below_drewN | apply below_drew1 | refine below_set ?_ GE412.out | refine below_set ?_ GE413.out | refine below_set ?_ GE414.out | refine below_set ?_ GE417.out) | exact HB.out)⟩⟩
     case round =>
      clear H'
      try clear c1
      try clear p2
      try clear c4
      try clear p4
      try clear q4
      try clear hx4
      try clear c7
      try clear c8
      try clear c10
      try clear c10b0
      try clear c11
      try clear c11b0
      try clear c12
      try clear c13
      try clear c17
      try clear hcz14_0
      try clear hcz14_1
      try clear hcz14_2
      try clear hcz14_3
      try clear hcz14_4
      try clear hcz14_5
      try clear hcz5_0
      try clear hcz5_1
      try clear hcz5_2
      try clear hcz5_3
      try clear hcz5_4
      try clear hcz5_5
      try clear hcz9_0
      try clear hcz9_1
      try clear hcz9_2
      try clear hcz9_3
      try clear hcz9_4
      try clear hcz9_5
      try clear hfz14_0
      try clear hfz14_1
      try clear hfz14_2
      try clear hfz14_3
      try clear hfz14_4
      try clear hfz14_5
      try clear hfz5_0
      try clear hfz5_1
      try clear hfz5_2
      try clear hfz5_3
      try clear hfz5_4
      try clear hfz5_5
      try clear hfz9_0
      try clear hfz9_1
      try clear hfz9_2
      try clear hfz9_3
      try clear hfz9_4
      try clear hfz9_5
      try clear hx415_0
      try clear hx415_1
      try clear hx415_2
      try clear hx416_0
      try clear hx416_1
      try clear hx416_2
      try clear p2
      try clear p415
      try clear p416
      try clear q415
      try clear q416
      obtain ⟨x6_2, x418000_2, u418000, rfl, HA, HK2, HO_415005, HO_418000, BK412, BK413, BK414, BK417, HB⟩ := hrel
      cases gk with
      | zero => exact absurd HA.out (by simp [wellspringlaw18_Own.l1])
      | succ k2 =>
       have H := HA.out
       clear HA
       simp only [wellspringlaw18_Own.l1] at H
       by_cases c20 : 0 ≤ x4_1
       ·rw [if_pos c20] at H
        have c20b0 : decide (0 ≤ x4_1) = true := decide_eq_true c20
        clear c20
        by_cases c21 : x4_1 < (l0_5.length : Int)
        ·rw [if_pos c21] at H
         have c21b0 : decide (x4_1 < (l0_5.length : Int)) = true := decide_eq_true c21
         clear c21
         by_cases c22 : x6_2 < (((rd_T74 l0_5 x4_1).f0).length : Int)
         ·rw [if_pos c22] at H
          have c22b0 : decide (x6_2 < (((rd_T74 l0_5 x4_1).f0).length : Int)) = true := decide_eq_true c22
          clear c22
          by_cases c23 : 0 ≤ x6_2
          ·rw [if_pos c23] at H
           have c23b0 : decide (0 ≤ x6_2) = true := decide_eq_true c23
           clear c23
           by_cases c24 : x418000_2.length < 5864062014805
           ·rw [if_pos c24] at H
            have LMc24 := Aside0.mk c24
            clear c24
            obtain ⟨y421, hy421⟩ : ∃ y_ : List (S71), y_ = (x418000_2 ++ [(⟨(rd_T80 ((rd_T74 l0_5 x4_1).f0) x6_2).f0, (rd_T80 ((rd_T74 l0_5 x4_1).f0) x6_2).f1, (rd_T80 ((rd_T74 l0_5 x4_1).f0) x6_2).f2⟩ : S71)]) := ⟨_, rfl⟩
            replace H : (wellspringlaw18_Own.l1 k2 x4_1 (wrap64 (x6_2 + 1)) a0_0 a0_1 a0_2 a0_3 a0_4 l0_5 a0_0 a0_1 a0_2 a0_3 a0_4 x415005_1 y421 ((rd_T74 l0_5 x4_1).f1) ((rd_T74 l0_5 x4_1).f2)) = some (r1, r2, r3, r4, r5, r6) := by first | (rw [hy421]; with_reducible exact H) | (have H2_ := (Option.bind_some _ _).symm.trans H; rw [hy421]; with_reducible exact H2_) | (have H2_ := (Option.bind_some _ _).symm.trans H; with_reducible exact H2_) | with_reducible exact H | (rw [hy421]; exact H) | exact H
            have Ny421 := Aside0.mk hy421
            clear hy421
            have H' := Aside0.mk H
            clear H
            have hnb25 := NB412_413.out
            have hnc25 := NB413_412.out
            have hnb26 := NB412_414.out
            have hnc26 := NB414_412.out
            have hnb27 := NB412_417.out
            have hnc27 := NB417_412.out
            have hcz28_0 : wr.cell? ⟨gb412, 0, none⟩ = some (.string a0_0) := (blk_cell BK412.out 0).trans rfl
            have hcz28_1 : wr.cell? ⟨gb412, 1, none⟩ = some (.int .i64 a0_1) := (blk_cell BK412.out 1).trans rfl
            have hcz28_2 : wr.cell? ⟨gb412, 2, none⟩ = some (.int .i64 a0_2) := (blk_cell BK412.out 2).trans rfl
            have hcz28_3 : wr.cell? ⟨gb412, 3, none⟩ = some (.int .i64 a0_3) := (blk_cell BK412.out 3).trans rfl
            have hcz28_4 : wr.cell? ⟨gb412, 4, none⟩ = some (.string a0_4) := (blk_cell BK412.out 4).trans rfl
            have hcz28_5 : wr.cell? ⟨gb412, 5, none⟩ = some (.slice (some ad415) l0_5.length c0_5) := (blk_cell BK412.out 5).trans rfl
            have hfz28_0 := blk_frozen BK412.out 0
            have hfz28_1 := blk_frozen BK412.out 1
            have hfz28_2 := blk_frozen BK412.out 2
            have hfz28_3 := blk_frozen BK412.out 3
            have hfz28_4 := blk_frozen BK412.out 4
            have hfz28_5 := blk_frozen BK412.out 5
            have p418 : 0 ≤ (x4_1 : Int) := of_decide_eq_true (by first | (with_reducible assumption) | assumption)
            have q418 : x4_1 < (l0_5.length : Int) := of_decide_eq_true (by first | (with_reducible assumption) | assumption)
            obtain ⟨ad418, A418_0, c418_0, e418, hx418_0, hx418_1, hx418_2, hl418_0, hi418_0⟩ := at_T74 HR0_5.out x4_1 p418 q418
            obtain rfl : ad415 = ad418 := (by injection e418)
            replace hx418_0 := (HB.out.cell (World.block_lt_of_cell? w _ hx418_0)).trans hx418_0
            replace hx418_1 := (HB.out.cell (World.block_lt_of_cell? w _ hx418_1)).trans hx418_1
            replace hx418_2 := (HB.out.cell (World.block_lt_of_cell? w _ hx418_2)).trans hx418_2
            have HR418_0 := Aside0.mk hi418_0
            have HC418_0 := Aside0.mk hl418_0
            clear hi418_0 hl418_0
            replace p418 := eq_true p418
            replace q418 := eq_true q418
            try go_wp2
            have n0_ := Aside0.mk (Kd.S_drew HO_415005.out)
            have n1_ := Aside0.mk (Kd.R_drew HO_418000.out)
            have n2_ := Aside0.mk (blk_drew BK412.out)
            have n3_ := Aside0.mk (blk_drew BK413.out)
            have n4_ := Aside0.mk (blk_drew BK414.out)
            have n5_ := Aside0.mk (blk_drew BK417.out)
            have n6_ := Aside0.mk (below_drew1 HB.out)
            clear HO_415005
            clear HO_418000
            clear BK412
            clear BK413
            clear BK414
            clear BK417
            clear HB
            have HO_415005 := n0_
            have HO_418000 := n1_
            have BK412 := n2_
            have BK413 := n3_
            have BK414 := n4_
            have BK417 := n5_
            have HB := n6_
            clear n0_ n1_ n2_ n3_ n4_ n5_ n6_
            have p419 : 0 ≤ (x4_1 : Int) := of_decide_eq_true (by first | (with_reducible assumption) | assumption)
            have q419 : x4_1 < (l0_5.length : Int) := of_decide_eq_true (by first | (with_reducible assumption) | assumption)
            obtain ⟨ad419, A419_0, c419_0, e419, hx419_0, hx419_1, hx419_2, hl419_0, hi419_0⟩ := at_T74 HR0_5.out x4_1 p419 q419
            have hw419_2 := hx419_2
            have hw419_1 := hx419_1
            have hw419_0 := hx419_0
            obtain rfl : ad415 = ad419 := (by injection e419)
            replace hx419_0 := (HB.out.cell (World.block_lt_of_cell? w _ hx419_0)).trans hx419_0
            replace hx419_1 := (HB.out.cell (World.block_lt_of_cell? w _ hx419_1)).trans hx419_1
            replace hx419_2 := (HB.out.cell (World.block_lt_of_cell? w _ hx419_2)).trans hx419_2
            have HR419_0 := Aside0.mk hi419_0
            have HC419_0 := Aside0.mk hl419_0
            clear hi419_0 hl419_0
            replace p419 := eq_true p419
            replace q419 := eq_true q419
            have p420 : 0 ≤ (x6_2 : Int) := of_decide_eq_true (by first | (with_reducible assumption) | assumption)
            have q420 : x6_2 < (((rd_T74 l0_5 x4_1).f0).length : Int) := of_decide_eq_true (by first | (with_reducible assumption) | assumption)
            obtain ⟨ad420, e420, hx420_0, hx420_1, hx420_2⟩ := at_T80 HR419_0.out x6_2 p420 q420
            have hw420_2 := hx420_2
            have hw420_1 := hx420_1
            have hw420_0 := hx420_0
            cases e420
            replace hx420_0 := (HB.out.cell (World.block_lt_of_cell? w _ hx420_0)).trans hx420_0
            replace hx420_1 := (HB.out.cell (World.block_lt_of_cell? w _ hx420_1)).trans hx420_1
            replace hx420_2 := (HB.out.cell (World.block_lt_of_cell? w _ hx420_2)).trans hx420_2
            replace p420 := eq_true p420
            replace q420 := eq_true q420
            refine start_ (n := 15) (S := fun w' => w'.cell? ⟨gb417, 0, none⟩ = some (u418000) ∧ w'.cell? ⟨gb417, 1, none⟩ = some (.int .i64 ((rd_T74 l0_5 x4_1).f1)) ∧ w'.cell? ⟨gb417, 2, none⟩ = some (.bool ((rd_T74 l0_5 x4_1).f2)) ∧ w'.cell? ⟨gb412, 0, none⟩ = some (.string a0_0) ∧ w'.cell? ⟨gb412, 1, none⟩ = some (.int .i64 a0_1) ∧ w'.cell? ⟨gb412, 2, none⟩ = some (.int .i64 a0_2) ∧ w'.cell? ⟨gb412, 3, none⟩ = some (.int .i64 a0_3) ∧ w'.cell? ⟨gb412, 4, none⟩ = some (.string a0_4) ∧ w'.cell? ⟨gb412, 5, none⟩ = some (.slice (some ad415) l0_5.length c0_5) ∧ w'.cell? (ad415.add ((x4_1).toNat * 3)) = some (.slice (some ad420) ((rd_T74 l0_5 x4_1).f0).length c419_0) ∧ w'.cell? ⟨(ad415.add ((x4_1).toNat * 3)).block, (ad415.add ((x4_1).toNat * 3)).off + 1, none⟩ = some (.int .i64 ((rd_T74 l0_5 x4_1).f1)) ∧ w'.cell? ⟨(ad415.add ((x4_1).toNat * 3)).block, (ad415.add ((x4_1).toNat * 3)).off + 2, none⟩ = some (.bool ((rd_T74 l0_5 x4_1).f2)) ∧ w'.cell? (ad420.add ((x6_2).toNat * 3)) = some (.int .i64 ((rd_T80 ((rd_T74 l0_5 x4_1).f0) x6_2).f0)) ∧ w'.cell? ⟨(ad420.add ((x6_2).toNat * 3)).block, (ad420.add ((x6_2).toNat * 3)).off + 1, none⟩ = some (.int .i64 ((rd_T80 ((rd_T74 l0_5 x4_1).f0) x6_2).f1)) ∧ w'.cell? ⟨(ad420.add ((x6_2).toNat * 3)).block, (ad420.add ((x6_2).toNat * 3)).off + 2, none⟩ = some (.int .i64 ((rd_T80 ((rd_T74 l0_5 x4_1).f0) x6_2).f2))) (ds := [14]) #[false, false, false, false, false, false, false, false, false, false, false, false, false, false, false] (by kernel_rfl) rfl rfl ⟨(blk_cell BK417.out 0).trans rfl, (blk_cell BK417.out 1).trans rfl, (blk_cell BK417.out 2).trans rfl, (blk_cell BK412.out 0).trans rfl, (blk_cell BK412.out 1).trans rfl, (blk_cell BK412.out 2).trans rfl, (blk_cell BK412.out 3).trans rfl, (blk_cell BK412.out 4).trans rfl, (blk_cell BK412.out 5).trans rfl, ((HB.out.cell (World.block_lt_of_cell? w _ hw419_0)).trans hw419_0), ((HB.out.cell (World.block_lt_of_cell? w _ hw419_1)).trans hw419_1), ((HB.out.cell (World.block_lt_of_cell? w _ hw419_2)).trans hw419_2), ((HB.out.cell (World.block_lt_of_cell? w _ hw420_0)).trans hw420_0), ((HB.out.cell (World.block_lt_of_cell? w _ hw420_1)).trans hw420_1), ((HB.out.cell (World.block_lt_of_cell? w _ hw420_2)).trans hw420_2)⟩ (fun hHeld => ?_); refine with_tabW wellspringlaw18_Own.tab9 wellspringlaw18_Own.bits9 (fun HT_ HW_ => ?_)
            generalize wr.drew = w29 at HO_415005 HO_418000 BK412 BK413 BK414 BK417 HB HR419_0 hx419_0 hx419_1 hx419_2 hx420_0 hx420_1 hx420_2 hHeld ⊢
            refine pure_ (i := 0) (N := some 45) (v := ?_) (a' := ?_) #[true, false, false, false, false, false, false, false, false, false, false, false, false, false, false] rfl rfl (any_of HT_.out (by kernel_rfl)) (fun _ _ _ h => h) (Or.inl ⟨by rfl, ?_⟩) ?_ ?_
            rotate_left
            ·intro w'
             go_simp
             with_reducible rfl
            rotate_left
            ·simp only [Act.put, List.setIfInBounds_toArray, List.set_cons_zero, List.set_cons_succ, i64_w, i32_w]
             rfl
            refine pure_ (i := 2) (N := some 47) (v := ?_) (a' := ?_) #[true, false, true, false, false, false, false, false, false, false, false, false, false, false, false] rfl rfl (any_of HT_.out (by kernel_rfl)) (fun _ _ _ h => h) (Or.inl ⟨by rfl, ?_⟩) ?_ ?_
            rotate_left
            ·intro w'
             go_simp
             with_reducible rfl
            rotate_left
            ·simp only [Act.put, List.setIfInBounds_toArray, List.set_cons_zero, List.set_cons_succ, i64_w, i32_w]
             rfl
            refine pure_ (i := 4) (N := some 49) (v := ?_) (a' := ?_) #[true, false, true, false, true, false, false, false, false, false, false, false, false, false, false] rfl rfl (any_of HT_.out (by kernel_rfl)) (fun _ _ _ h => h) (Or.inl ⟨by rfl, ?_⟩) ?_ ?_
            rotate_left
            ·intro w'
             go_simp
             with_reducible rfl
            rotate_left
            ·simp only [Act.put, List.setIfInBounds_toArray, List.set_cons_zero, List.set_cons_succ, i64_w, i32_w]
             rfl
            refine pure_ (i := 8) (N := some 53) (v := ?_) (a' := ?_) #[true, false, true, false, true, false, false, false, true, false, false, false, false, false, false] rfl rfl (any_of HT_.out (by kernel_rfl)) (fun _ _ _ h => h) (Or.inl ⟨by rfl, ?_⟩) ?_ ?_
            rotate_left
            ·intro w'
             go_simp
             with_reducible rfl
            rotate_left
            ·simp only [Act.put, List.setIfInBounds_toArray, List.set_cons_zero, List.set_cons_succ, i64_w, i32_w]
             rfl
            refine take_ (i := 1) (N := some 46) (v := ?_) (a' := ?_) #[true, true, true, false, true, false, false, false, true, false, false, false, false, false, false] rfl rfl (take_ofW HT_.out HW_.out (by kernel_rfl)) (fun _ _ _ h => h) (Or.inl ⟨by rfl, ?_⟩) hHeld ?_ ?_
            rotate_left
            ·rintro w' ⟨s0, s1, s2, s3, s4, s5, s6, s7, s8, s9, s10, s11, s12, s13, s14⟩
             go_simp
             with_reducible rfl
            rotate_left
            ·simp only [Act.put, List.setIfInBounds_toArray, List.set_cons_zero, List.set_cons_succ, i64_w, i32_w]
             rfl
            refine take_ (i := 3) (N := some 48) (v := ?_) (a' := ?_) #[true, true, true, true, true, false, false, false, true, false, false, false, false, false, false] rfl rfl (take_ofW HT_.out HW_.out (by kernel_rfl)) (fun _ _ _ h => h) (Or.inl ⟨by rfl, ?_⟩) hHeld ?_ ?_
            rotate_left
            ·rintro w' ⟨s0, s1, s2, s3, s4, s5, s6, s7, s8, s9, s10, s11, s12, s13, s14⟩
             go_simp
             with_reducible rfl
            rotate_left
            ·simp only [Act.put, List.setIfInBounds_toArray, List.set_cons_zero, List.set_cons_succ, i64_w, i32_w]
             rfl
            refine pure_ (i := 5) (N := some 50) (v := ?_) (a' := ?_) #[true, true, true, true, true, true, false, false, true, false, false, false, false, false, false] rfl rfl (any_of HT_.out (by kernel_rfl)) (fun _ _ _ h => h) (Or.inl ⟨by rfl, ?_⟩) ?_ ?_
            rotate_left
            ·intro w'
             go_simp
             with_reducible rfl
            rotate_left
            ·simp only [Act.put, List.setIfInBounds_toArray, List.set_cons_zero, List.set_cons_succ, i64_w, i32_w]
             rfl
            refine pure_ (i := 6) (N := some 51) (v := ?_) (a' := ?_) #[true, true, true, true, true, true, true, false, true, false, false, false, false, false, false] rfl rfl (any_of HT_.out (by kernel_rfl)) (fun _ _ _ h => h) (Or.inl ⟨by rfl, ?_⟩) ?_ ?_
            rotate_left
            ·intro w'
             go_simp
             with_reducible rfl
            rotate_left
            ·simp only [Act.put, List.setIfInBounds_toArray, List.set_cons_zero, List.set_cons_succ, i64_w, i32_w]
             rfl
            refine take_ (i := 7) (N := some 52) (v := ?_) (a' := ?_) #[true, true, true, true, true, true, true, true, true, false, false, false, false, false, false] rfl rfl (take_ofW HT_.out HW_.out (by kernel_rfl)) (fun _ _ _ h => h) (Or.inl ⟨by rfl, ?_⟩) hHeld ?_ ?_
            rotate_left
            ·rintro w' ⟨s0, s1, s2, s3, s4, s5, s6, s7, s8, s9, s10, s11, s12, s13, s14⟩
             go_simp
             with_reducible rfl
            rotate_left
            ·simp only [Act.put, List.setIfInBounds_toArray, List.set_cons_zero, List.set_cons_succ, i64_w, i32_w]
             rfl
            refine pure_ (i := 9) (N := some 54) (v := ?_) (a' := ?_) #[true, true, true, true, true, true, true, true, true, true, false, false, false, false, false] rfl rfl (any_of HT_.out (by kernel_rfl)) (fun _ _ _ h => h) (Or.inl ⟨by rfl, ?_⟩) ?_ ?_
            rotate_left
            ·intro w'
             go_simp
             with_reducible rfl
            rotate_left
            ·simp only [Act.put, List.setIfInBounds_toArray, List.set_cons_zero, List.set_cons_succ, i64_w, i32_w]
             rfl
            refine take_ (i := 10) (N := some 55) (v := ?_) (a' := ?_) #[true, true, true, true, true, true, true, true, true, true, true, false, false, false, false] rfl rfl (take_ofW HT_.out HW_.out (by kernel_rfl)) (fun _ _ _ h => h) (Or.inl ⟨by rfl, ?_⟩) hHeld ?_ ?_
            rotate_left
            ·rintro w' ⟨s0, s1, s2, s3, s4, s5, s6, s7, s8, s9, s10, s11, s12, s13, s14⟩
             go_simp
             with_reducible rfl
            rotate_left
            ·simp only [Act.put, List.setIfInBounds_toArray, List.set_cons_zero, List.set_cons_succ, i64_w, i32_w]
             rfl
            refine one_ (i := 11) (N := some 56) #[true, true, true, true, true, true, true, true, true, true, true, true, false, false, false] rfl rfl (one_of HT_.out (by kernel_rfl)) (by decide) (fun K hK => ?_)
            refine value_ (w1 := ?_) (v := ?_) (by rfl) rfl ?_ ?_
            rotate_left 2
            ·go_simp
             constructor
             ·rfl
             ·rfl
            refine hK.out _ _ ⟨(blk_cell (blk_alloc BK417.out _) 0).trans rfl, (blk_cell (blk_alloc BK417.out _) 1).trans rfl, (blk_cell (blk_alloc BK417.out _) 2).trans rfl, (blk_cell (blk_alloc BK412.out _) 0).trans rfl, (blk_cell (blk_alloc BK412.out _) 1).trans rfl, (blk_cell (blk_alloc BK412.out _) 2).trans rfl, (blk_cell (blk_alloc BK412.out _) 3).trans rfl, (blk_cell (blk_alloc BK412.out _) 4).trans rfl, (blk_cell (blk_alloc BK412.out _) 5).trans rfl, (World.cell?_alloc_lt _ _ _ (World.block_lt_of_cell? _ _ (((HB.out.cell (World.block_lt_of_cell? w _ hw419_0)).trans hw419_0)))).trans (((HB.out.cell (World.block_lt_of_cell? w _ hw419_0)).trans hw419_0)), (World.cell?_alloc_lt _ _ _ (World.block_lt_of_cell? _ _ (((HB.out.cell (World.block_lt_of_cell? w _ hw419_1)).trans hw419_1)))).trans (((HB.out.cell (World.block_lt_of_cell? w _ hw419_1)).trans hw419_1)), (World.cell?_alloc_lt _ _ _ (World.block_lt_of_cell? _ _ (((HB.out.cell (World.block_lt_of_cell? w _ hw419_2)).trans hw419_2)))).trans (((HB.out.cell (World.block_lt_of_cell? w _ hw419_2)).trans hw419_2)), (World.cell?_alloc_lt _ _ _ (World.block_lt_of_cell? _ _ (((HB.out.cell (World.block_lt_of_cell? w _ hw420_0)).trans hw420_0)))).trans (((HB.out.cell (World.block_lt_of_cell? w _ hw420_0)).trans hw420_0)), (World.cell?_alloc_lt _ _ _ (World.block_lt_of_cell? _ _ (((HB.out.cell (World.block_lt_of_cell? w _ hw420_1)).trans hw420_1)))).trans (((HB.out.cell (World.block_lt_of_cell? w _ hw420_1)).trans hw420_1)), (World.cell?_alloc_lt _ _ _ (World.block_lt_of_cell? _ _ (((HB.out.cell (World.block_lt_of_cell? w _ hw420_2)).trans hw420_2)))).trans (((HB.out.cell (World.block_lt_of_cell? w _ hw420_2)).trans hw420_2))⟩ (fun hHeld => ?_)
            clear hK K
            refine norm_ (a' := ?_) ?_ ?_
            rotate_left
            ·show Act.put _ (some 56) _ = _
             simp only [Act.put, List.setIfInBounds_toArray, List.set_cons_zero, List.set_cons_succ, i64_w, i32_w]
             rfl
            refine one_ (i := 12) (N := some 57) #[true, true, true, true, true, true, true, true, true, true, true, true, true, false, false] rfl rfl (one_of HT_.out (by kernel_rfl)) (by decide) (fun K hK => ?_)
            refine Kd.R_append_step k71 (w0 := w) w.heap.size (by rfl) (.tmp 46) (.tmp 56) 67 71 (.agg #[(.int .i64 0), (.int .i64 0), (.int .i64 0)]) 24 rfl Try.underlying67 info71 rfl (by decide) (by omega) u418000 x418000_2 (⟨(rd_T80 ((rd_T74 l0_5 x4_1).f0) x6_2).f0, (rd_T80 ((rd_T74 l0_5 x4_1).f0) x6_2).f1, (rd_T80 ((rd_T74 l0_5 x4_1).f0) x6_2).f2⟩ : S71) [.int .i64 ((rd_T80 ((rd_T74 l0_5 x4_1).f0) x6_2).f0), .int .i64 ((rd_T80 ((rd_T74 l0_5 x4_1).f0) x6_2).f1), .int .i64 ((rd_T80 ((rd_T74 l0_5 x4_1).f0) x6_2).f2)] (fun _ => True) (fun _ => False) rfl rfl ?aP (fun _ hk => hk.elim) ?aF ?aO ?aB ?aS ?aL ?_
            (case aP => exact k71_mkM _ _ _ (⟨(rd_T80 ((rd_T74 l0_5 x4_1).f0) x6_2).f0, (rd_T80 ((rd_T74 l0_5 x4_1).f0) x6_2).f1, (rd_T80 ((rd_T74 l0_5 x4_1).f0) x6_2).f2⟩ : S71))
            (case aB => exact (by repeat (first | (with_reducible first | exact HB.out | apply below_alloc | apply pw_below_drewN | apply below_drew1 | refine below_set ?_ GE412.out | refine below_set ?_ GE413.out | refine below_set ?_ GE414.out | refine below_set ?_ GE417.out) | exact HB.out)))
            (case aF => exact (fun _ _ => trivial))
            (case aO => exact (by (with_reducible repeat (first | apply Kd.R_alloc | apply Kd.R_drewN | apply Kd.R_drew)); exact HO_418000.out))
            (case aS => exact (below_size (by repeat (first | (with_reducible first | exact HB.out | apply below_alloc | apply pw_below_drewN | apply below_drew1 | refine below_set ?_ GE412.out | refine below_set ?_ GE413.out | refine below_set ?_ GE414.out | refine below_set ?_ GE417.out) | exact HB.out))))
            (case aL => have := LMc24.out; omega)
            intro v422 w30 ho hb hg hat
            rw [← Ny421.out] at ho
            have n0_ := Aside0.mk (Kd.S_after (ok := (fun k_ => k_ ≠ gb417)) (by (with_reducible repeat (first | apply Kd.S_alloc | apply Kd.S_drewN | apply Kd.S_drew)); exact Kd.S_mono HO_415005.out (fun _ hk => ⟨hk.2, hk.1⟩)) hg hat)
            have n1_ := Aside0.mk (blk_grown (g := gb412) (o := .cells #[.string a0_0, .int .i64 a0_1, .int .i64 a0_2, .int .i64 a0_3, .string a0_4, .slice (some ad415) l0_5.length c0_5] 46 (0, 0)) (by (with_reducible repeat (first | refine blk_drewN ?_ _ | refine blk_drew ?_ | refine blk_alloc ?_ _)); exact BK412.out) hg (Kd.R_ne HO_418000.out BK412.out (by decide)))
            have n2_ := Aside0.mk (blk_grown (g := gb413) (o := .cells #[.string (⟨#[]⟩ : ByteArray), .int .i64 0, .int .i64 0, .int .i64 0, .string (⟨#[]⟩ : ByteArray), .slice none 0 0] 36 (0, 0)) (by (with_reducible repeat (first | refine blk_drewN ?_ _ | refine blk_drew ?_ | refine blk_alloc ?_ _)); exact BK413.out) hg (Kd.R_ne HO_418000.out BK413.out (by decide)))
            have n3_ := Aside0.mk (blk_grown (g := gb414) (o := .cells #[.string a0_0, .int .i64 a0_1, .int .i64 a0_2, .int .i64 a0_3, .string a0_4, u415005] 36 (0, 0)) (by (with_reducible repeat (first | refine blk_drewN ?_ _ | refine blk_drew ?_ | refine blk_alloc ?_ _)); exact BK414.out) hg (Kd.R_ne HO_418000.out BK414.out (by decide)))
            have n4_ := Aside0.mk (blk_grown (g := gb417) (o := .cells #[u418000, .int .i64 ((rd_T74 l0_5 x4_1).f1), .bool ((rd_T74 l0_5 x4_1).f2)] 69 (0, 0)) (by (with_reducible repeat (first | refine blk_drewN ?_ _ | refine blk_drew ?_ | refine blk_alloc ?_ _)); exact BK417.out) hg (Kd.R_ne HO_418000.out BK417.out (by decide)))
            have n5_ := Aside0.mk (hb)
            have n6_ := Aside0.mk (ho)
            clear HO_415005
            clear BK412
            clear BK413
            clear BK414
            clear BK417
            clear HB
            clear HO_418000
            have HO_415005 := n0_
            have BK412 := n1_
            have BK413 := n2_
            have BK414 := n3_
            have BK417 := n4_
            have HB := n5_
            have HO423 := n6_
            clear n0_ n1_ n2_ n3_ n4_ n5_ n6_
            clear ho hb hg hat
            obtain ⟨Ao31, co31, eo31⟩ := Kd.R_slice HO423.out
            (first | subst eo31 | (injection eo31 with f1_ f2_ f3_; have f4_ := f1_.symm; have f5_ := f3_.symm; clear f1_ f2_ f3_; subst f4_; subst f5_))
            refine hK.out _ _ ⟨(blk_cell BK417.out 0).trans rfl, (blk_cell BK417.out 1).trans rfl, (blk_cell BK417.out 2).trans rfl, (blk_cell BK412.out 0).trans rfl, (blk_cell BK412.out 1).trans rfl, (blk_cell BK412.out 2).trans rfl, (blk_cell BK412.out 3).trans rfl, (blk_cell BK412.out 4).trans rfl, (blk_cell BK412.out 5).trans rfl, ((HB.out.cell (World.block_lt_of_cell? w _ hw419_0)).trans hw419_0), ((HB.out.cell (World.block_lt_of_cell? w _ hw419_1)).trans hw419_1), ((HB.out.cell (World.block_lt_of_cell? w _ hw419_2)).trans hw419_2), ((HB.out.cell (World.block_lt_of_cell? w _ hw420_0)).trans hw420_0), ((HB.out.cell (World.block_lt_of_cell? w _ hw420_1)).trans hw420_1), ((HB.out.cell (World.block_lt_of_cell? w _ hw420_2)).trans hw420_2)⟩ (fun hHeld => ?_)
            clear hK K
            refine norm_ (a' := ?_) ?_ ?_
            rotate_left
            ·show Act.put _ (some 57) _ = _
             simp only [Act.put, List.setIfInBounds_toArray, List.set_cons_zero, List.set_cons_succ, i64_w, i32_w]
             rfl
            refine pure_ (i := 13) (N := some 58) (v := ?_) (a' := ?_) #[true, true, true, true, true, true, true, true, true, true, true, true, true, true, false] rfl rfl (any_of HT_.out (by kernel_rfl)) (fun _ _ _ h => h) (Or.inl ⟨by rfl, ?_⟩) ?_ ?_
            rotate_left
            ·intro w'
             go_simp
             with_reducible rfl
            rotate_left
            ·simp only [Act.put, List.setIfInBounds_toArray, List.set_cons_zero, List.set_cons_succ, i64_w, i32_w]
             rfl
            refine last_ (i := 14) (N := none) #[true, true, true, true, true, true, true, true, true, true, true, true, true, true, true] rfl rfl (one_of HT_.out (by kernel_rfl)) (by decide) (fun K hK => ?_)
            have hs32 : w30.cell? ⟨gb417, 0, none⟩ = some (u418000) := (blk_cell BK417.out 0).trans rfl
            have hfs32 := blk_frozen BK417.out 0
            have hns32_0 := NB412_417.out
            have hns32_1 := NB413_417.out
            have hns32_2 := NB414_417.out
            have hms32_0 := NB417_412.out
            have hms32_1 := NB417_413.out
            have hms32_2 := NB417_414.out
            refine skip_ (w1 := ?_) (by rfl) rfl ?_ ?_
            rotate_left
            ·go_simp
             rfl
            refine hK.out _ _ ?_
            clear hK K
            refine done_ (done_of HT_.out (by kernel_rfl)) ?_
            try go_wp2
            go_roundg k2
            case measure => have := HK1.out; have := HK2.out; omega
            case rel => exact ⟨(wrap64 (x6_2 + 1)), (y421), (.slice Ao31 y421.length co31), (by first | rfl | (simp; done) | (simp [*]; done)), H', ⟨by have := HK1.out; have := HK2.out; omega⟩, ⟨by (with_reducible repeat (first | apply Kd.S_alloc | apply Kd.S_drewN | apply Kd.S_drew)); exact Kd.S_mono (Kd.S_far (p := ⟨gb417, 0, none⟩) (Kd.S_mono HO_415005.out (fun k_ hk => (⟨hk, hk.1⟩ : _ ∧ k_ ≠ gb417))) (fun _ hk => hk.2) (.slice Ao31 y421.length co31)) (fun _ hk => ⟨hk.1.2, hk.1.1⟩)⟩, ⟨by (with_reducible repeat (first | apply Kd.R_alloc | apply Kd.R_drewN | apply Kd.R_drew)); exact Kd.R_mono (Kd.R_far (p := ⟨gb417, 0, none⟩) (Kd.R_types HO423.out BK417.out (by decide)) (fun _ hk => hk.2) (.slice Ao31 y421.length co31)) (fun _ hk => trivial)⟩, ⟨by (with_reducible repeat (first | refine blk_drewN ?_ _ | refine blk_drew ?_ | refine blk_alloc ?_ _)); refine blk_far ?_ NB412_417.out _; (with_reducible repeat (first | refine blk_drewN ?_ _ | refine blk_drew ?_ | refine blk_alloc ?_ _)); exact BK412.out⟩, ⟨by (with_reducible repeat (first | refine blk_drewN ?_ _ | refine blk_drew ?_ | refine blk_alloc ?_ _)); refine blk_far ?_ NB413_417.out _; (with_reducible repeat (first | refine blk_drewN ?_ _ | refine blk_drew ?_ | refine blk_alloc ?_ _)); exact BK413.out⟩, ⟨by (with_reducible repeat (first | refine blk_drewN ?_ _ | refine blk_drew ?_ | refine blk_alloc ?_ _)); refine blk_far ?_ NB414_417.out _; (with_reducible repeat (first | refine blk_drewN ?_ _ | refine blk_drew ?_ | refine blk_alloc ?_ _)); exact BK414.out⟩, ⟨by (with_reducible repeat (first | refine blk_drewN ?_ _ | refine blk_drew ?_ | refine blk_alloc ?_ _)); refine blk_put (cs := #[u418000, .int .i64 ((rd_T74 l0_5 x4_1).f1), .bool ((rd_T74 l0_5 x4_1).f2)]) ?_ 0 _ rfl; (with_reducible repeat (first | refine blk_drewN ?_ _ | refine blk_drew ?_ | refine blk_alloc ?_ _)); exact BK417.out⟩, ⟨by repeat (first | (with_reducible first | exact HB.out | apply below_alloc | apply pw_below_drewN | apply below_drew1 | refine below_set ?_ GE412.out | refine below_set ?_ GE413.out | refine below_set ?_ GE414.out | refine below_set ?_ GE417.out) | exact HB.out)⟩⟩
           ·rw [if_neg c24] at H
            exact absurd H (by simp)
          ·rw [if_neg c23] at H
           exact absurd H (by simp)
         ·rw [if_neg c22] at H
          have c22b0 : decide (x6_2 < (((rd_T74 l0_5 x4_1).f0).length : Int)) = false := decide_eq_false c22
          clear c22
          by_cases c33 : x415005_1.length < 3518437208883
          ·rw [if_pos c33] at H
           have LMc33 := Aside0.mk c33
           clear c33
           obtain ⟨y424, hy424⟩ : ∃ y_ : List (S69), y_ = (x415005_1 ++ [(⟨x418000_2, ((rd_T74 l0_5 x4_1).f1), ((rd_T74 l0_5 x4_1).f2)⟩ : S69)]) := ⟨_, rfl⟩
           replace H : (wellspringlaw18_Own.l0 k2 (wrap64 (x4_1 + 1)) a0_0 a0_1 a0_2 a0_3 a0_4 l0_5 a0_0 a0_1 a0_2 a0_3 a0_4 y424) = some (r1, r2, r3, r4, r5, r6) := by first | (rw [hy424]; with_reducible exact H) | (have H2_ := (Option.bind_some _ _).symm.trans H; rw [hy424]; with_reducible exact H2_) | (have H2_ := (Option.bind_some _ _).symm.trans H; with_reducible exact H2_) | with_reducible exact H | (rw [hy424]; exact H) | exact H
           have Ny424 := Aside0.mk hy424
           clear hy424
           have H' := Aside0.mk H
           clear H
           have hnb34 := NB412_413.out
           have hnc34 := NB413_412.out
           have hnb35 := NB412_414.out
           have hnc35 := NB414_412.out
           have hnb36 := NB412_417.out
           have hnc36 := NB417_412.out
           have hcz37_0 : wr.cell? ⟨gb412, 0, none⟩ = some (.string a0_0) := (blk_cell BK412.out 0).trans rfl
           have hcz37_1 : wr.cell? ⟨gb412, 1, none⟩ = some (.int .i64 a0_1) := (blk_cell BK412.out 1).trans rfl
           have hcz37_2 : wr.cell? ⟨gb412, 2, none⟩ = some (.int .i64 a0_2) := (blk_cell BK412.out 2).trans rfl
           have hcz37_3 : wr.cell? ⟨gb412, 3, none⟩ = some (.int .i64 a0_3) := (blk_cell BK412.out 3).trans rfl
           have hcz37_4 : wr.cell? ⟨gb412, 4, none⟩ = some (.string a0_4) := (blk_cell BK412.out 4).trans rfl
           have hcz37_5 : wr.cell? ⟨gb412, 5, none⟩ = some (.slice (some ad415) l0_5.length c0_5) := (blk_cell BK412.out 5).trans rfl
           have hfz37_0 := blk_frozen BK412.out 0
           have hfz37_1 := blk_frozen BK412.out 1
           have hfz37_2 := blk_frozen BK412.out 2
           have hfz37_3 := blk_frozen BK412.out 3
           have hfz37_4 := blk_frozen BK412.out 4
           have hfz37_5 := blk_frozen BK412.out 5
           have p418 : 0 ≤ (x4_1 : Int) := of_decide_eq_true (by first | (with_reducible assumption) | assumption)
           have q418 : x4_1 < (l0_5.length : Int) := of_decide_eq_true (by first | (with_reducible assumption) | assumption)
           obtain ⟨ad418, A418_0, c418_0, e418, hx418_0, hx418_1, hx418_2, hl418_0, hi418_0⟩ := at_T74 HR0_5.out x4_1 p418 q418
           obtain rfl : ad415 = ad418 := (by injection e418)
           replace hx418_0 := (HB.out.cell (World.block_lt_of_cell? w _ hx418_0)).trans hx418_0
           replace hx418_1 := (HB.out.cell (World.block_lt_of_cell? w _ hx418_1)).trans hx418_1
           replace hx418_2 := (HB.out.cell (World.block_lt_of_cell? w _ hx418_2)).trans hx418_2
           have HR418_0 := Aside0.mk hi418_0
           have HC418_0 := Aside0.mk hl418_0
           clear hi418_0 hl418_0
           replace p418 := eq_true p418
           replace q418 := eq_true q418
           have hnb38 := NB414_413.out
           have hnc38 := NB413_414.out
           have hnb39 := NB414_417.out
           have hnc39 := NB417_414.out
           have hcz40_0 : wr.cell? ⟨gb414, 0, none⟩ = some (.string a0_0) := (blk_cell BK414.out 0).trans rfl
           have hcz40_1 : wr.cell? ⟨gb414, 1, none⟩ = some (.int .i64 a0_1) := (blk_cell BK414.out 1).trans rfl
           have hcz40_2 : wr.cell? ⟨gb414, 2, none⟩ = some (.int .i64 a0_2) := (blk_cell BK414.out 2).trans rfl
           have hcz40_3 : wr.cell? ⟨gb414, 3, none⟩ = some (.int .i64 a0_3) := (blk_cell BK414.out 3).trans rfl
           have hcz40_4 : wr.cell? ⟨gb414, 4, none⟩ = some (.string a0_4) := (blk_cell BK414.out 4).trans rfl
           have hcz40_5 : wr.cell? ⟨gb414, 5, none⟩ = some (u415005) := (blk_cell BK414.out 5).trans rfl
           have hfz40_0 := blk_frozen BK414.out 0
           have hfz40_1 := blk_frozen BK414.out 1
           have hfz40_2 := blk_frozen BK414.out 2
           have hfz40_3 := blk_frozen BK414.out 3
           have hfz40_4 := blk_frozen BK414.out 4
           have hfz40_5 := blk_frozen BK414.out 5
           have hnb41 := NB417_413.out
           have hnc41 := NB413_417.out
           have hcz42_0 : wr.cell? ⟨gb417, 0, none⟩ = some (u418000) := (blk_cell BK417.out 0).trans rfl
           have hcz42_1 : wr.cell? ⟨gb417, 1, none⟩ = some (.int .i64 ((rd_T74 l0_5 x4_1).f1)) := (blk_cell BK417.out 1).trans rfl
           have hcz42_2 : wr.cell? ⟨gb417, 2, none⟩ = some (.bool ((rd_T74 l0_5 x4_1).f2)) := (blk_cell BK417.out 2).trans rfl
           have hfz42_0 := blk_frozen BK417.out 0
           have hfz42_1 := blk_frozen BK417.out 1
           have hfz42_2 := blk_frozen BK417.out 2
           obtain ⟨Ao44, co44, eo44⟩ := Kd.R_slice HO_418000.out
           subst eo44
           go_wp2_with (first | ((with_reducible refine gate_builtin (b := .append) (xs := #[.tmp 60, .tmp 62]) rfl ?_); at_builtin; refine Kd.S_append k69 (w0 := w) w.heap.size rfl (.tmp 60) (.tmp 62) 34 69 (.agg #[(.slice none 0 0), (.int .i64 0), (.bool false)]) 40 rfl Try.underlying34 info69 rfl (by decide) (by omega) u415005 x415005_1 (⟨x418000_2, ((rd_T74 l0_5 x4_1).f1), ((rd_T74 l0_5 x4_1).f2)⟩ : S69) [.slice Ao44 x418000_2.length co44, .int .i64 ((rd_T74 l0_5 x4_1).f1), .bool ((rd_T74 l0_5 x4_1).f2)] (fun k_ => k_ ≠ gb417) (fun k_ => some k_ = (.slice Ao44 x418000_2.length co44 : Value).ownBlock) rfl rfl ?aP (fun k_ hk_ => ((Kd.R_mono (ok' := fun k_ => ((fun k_ => k_ ≠ gb417)) k_ ∧ some k_ ≠ (u415005 : Value).ownBlock) (Kd.R_types (Kd.R_apart' (HO_418000.out) (Kd.S_typed HO_415005.out) (by decide)) BK417.out (by decide)) (fun k_ hk => ⟨hk.2, hk.1.2⟩))).1 k_ hk_.symm) ?aF ?aO ?aB ?aS ?aL ?_; (case aP => exact k69_mkM _ _ _ (⟨x418000_2, ((rd_T74 l0_5 x4_1).f1), ((rd_T74 l0_5 x4_1).f2)⟩ : S69) (Kd.R_mono (Kd.R_tight rfl (Kd.R_mono (ok' := fun k_ => ((fun k_ => k_ ≠ gb417)) k_ ∧ some k_ ≠ (u415005 : Value).ownBlock) (Kd.R_types (Kd.R_apart' (HO_418000.out) (Kd.S_typed HO_415005.out) (by decide)) BK417.out (by decide)) (fun k_ hk => ⟨hk.2, hk.1.2⟩))) (fun _ h_ => h_))); (case aB => exact (by repeat (first | (with_reducible first | exact HB.out | apply below_alloc | apply pw_below_drewN | apply below_drew1 | refine below_set ?_ GE412.out | refine below_set ?_ GE413.out | refine below_set ?_ GE414.out | refine below_set ?_ GE417.out) | exact HB.out))); (case aF => exact (fun k_ hk => Kd.freshB (g := gb417) (o := .cells #[.slice Ao44 x418000_2.length co44, .int .i64 ((rd_T74 l0_5 x4_1).f1), .bool ((rd_T74 l0_5 x4_1).f2)] 69 (0, 0)) (by (with_reducible repeat (first | refine blk_drewN ?_ _ | refine blk_drew ?_ | refine blk_alloc ?_ _)); exact BK417.out) k_ hk)); (case aO => exact (by (with_reducible repeat (first | apply Kd.S_alloc | apply Kd.S_drewN | apply Kd.S_drew)); exact Kd.S_mono HO_415005.out (fun k_ hk => ⟨hk.2, fun e_ => hk.1 e_⟩))); (case aS => exact (below_size (by repeat (first | (with_reducible first | exact HB.out | apply below_alloc | apply pw_below_drewN | apply below_drew1 | refine below_set ?_ GE412.out | refine below_set ?_ GE413.out | refine below_set ?_ GE414.out | refine below_set ?_ GE417.out) | exact HB.out)))); (case aL => have := LMc33.out; omega); intro v425 w43 ho hb hg hat; rw [← Ny424.out] at ho; have n0_ := Aside0.mk (blk_grown (g := gb412) (o := .cells #[.string a0_0, .int .i64 a0_1, .int .i64 a0_2, .int .i64 a0_3, .string a0_4, .slice (some ad415) l0_5.length c0_5] 46 (0, 0)) (by (with_reducible repeat (first | refine blk_drewN ?_ _ | refine blk_drew ?_ | refine blk_alloc ?_ _)); exact BK412.out) hg (Kd.S_ne HO_415005.out BK412.out (by decide))); have n1_ := Aside0.mk (blk_grown (g := gb413) (o := .cells #[.string (⟨#[]⟩ : ByteArray), .int .i64 0, .int .i64 0, .int .i64 0, .string (⟨#[]⟩ : ByteArray), .slice none 0 0] 36 (0, 0)) (by (with_reducible repeat (first | refine blk_drewN ?_ _ | refine blk_drew ?_ | refine blk_alloc ?_ _)); exact BK413.out) hg (Kd.S_ne HO_415005.out BK413.out (by decide))); have n2_ := Aside0.mk (blk_grown (g := gb414) (o := .cells #[.string a0_0, .int .i64 a0_1, .int .i64 a0_2, .int .i64 a0_3, .string a0_4, u415005] 36 (0, 0)) (by (with_reducible repeat (first | refine blk_drewN ?_ _ | refine blk_drew ?_ | refine blk_alloc ?_ _)); exact BK414.out) hg (Kd.S_ne HO_415005.out BK414.out (by decide))); have n3_ := Aside0.mk (blk_grown (g := gb417) (o := .cells #[.slice Ao44 x418000_2.length co44, .int .i64 ((rd_T74 l0_5 x4_1).f1), .bool ((rd_T74 l0_5 x4_1).f2)] 69 (0, 0)) (by (with_reducible repeat (first | refine blk_drewN ?_ _ | refine blk_drew ?_ | refine blk_alloc ?_ _)); exact BK417.out) hg (Kd.S_away HO_415005.out (fun _ hk => hk.2))); have n4_ := Aside0.mk (hb); have n5_ := Aside0.mk (ho); clear BK412; clear BK413; clear BK414; clear BK417; clear HB; clear HO_415005; clear HO_418000; have BK412 := n0_; have BK413 := n1_; have BK414 := n2_; have BK417 := n3_; have HB := n4_; have HO426 := n5_; clear n0_ n1_ n2_ n3_ n4_ n5_; clear ho hb hg hat; obtain ⟨Ao45, co45, eo45⟩ := Kd.S_slice HO426.out; subst eo45; have hcz46_0 : w43.cell? ⟨gb414, 0, none⟩ = some (.string a0_0) := (blk_cell BK414.out 0).trans rfl; have hcz46_1 : w43.cell? ⟨gb414, 1, none⟩ = some (.int .i64 a0_1) := (blk_cell BK414.out 1).trans rfl; have hcz46_2 : w43.cell? ⟨gb414, 2, none⟩ = some (.int .i64 a0_2) := (blk_cell BK414.out 2).trans rfl; have hcz46_3 : w43.cell? ⟨gb414, 3, none⟩ = some (.int .i64 a0_3) := (blk_cell BK414.out 3).trans rfl; have hcz46_4 : w43.cell? ⟨gb414, 4, none⟩ = some (.string a0_4) := (blk_cell BK414.out 4).trans rfl; have hcz46_5 : w43.cell? ⟨gb414, 5, none⟩ = some (u415005) := (blk_cell BK414.out 5).trans rfl; have hfz46_0 := blk_frozen BK414.out 0; have hfz46_1 := blk_frozen BK414.out 1; have hfz46_2 := blk_frozen BK414.out 2; have hfz46_3 := blk_frozen BK414.out 3; have hfz46_4 := blk_frozen BK414.out 4; have hfz46_5 := blk_frozen BK414.out 5))
           go_roundg k2
           case measure => have := HK1.out; have := HK2.out; omega
           case rel => exact ⟨(wrap64 (x4_1 + 1)), (y424), (.slice Ao45 y424.length co45), (by first | rfl | (simp; done) | (simp [*]; done)), H', ⟨by have := HK1.out; have := HK2.out; omega⟩, ⟨by (with_reducible repeat (first | apply Kd.S_alloc | apply Kd.S_drewN | apply Kd.S_drew)); exact Kd.S_mono (Kd.S_far (p := ⟨gb414, 5, none⟩) (Kd.S_types HO426.out BK414.out (by decide)) (fun _ hk => hk.2) (.slice Ao45 y424.length co45)) (fun _ hk => trivial)⟩, ⟨by (with_reducible repeat (first | refine blk_drewN ?_ _ | refine blk_drew ?_ | refine blk_alloc ?_ _)); refine blk_far ?_ NB412_414.out _; (with_reducible repeat (first | refine blk_drewN ?_ _ | refine blk_drew ?_ | refine blk_alloc ?_ _)); exact BK412.out⟩, ⟨by (with_reducible repeat (first | refine blk_drewN ?_ _ | refine blk_drew ?_ | refine blk_alloc ?_ _)); refine blk_far ?_ NB413_414.out _; (with_reducible repeat (first | refine blk_drewN ?_ _ | refine blk_drew ?_ | refine blk_alloc ?_ _)); exact BK413.out⟩, ⟨by (with_reducible repeat (first | refine blk_drewN ?_ _ | refine blk_drew ?_ | refine blk_alloc ?_ _)); refine blk_put (cs := #[.string a0_0, .int .i64 a0_1, .int .i64 a0_2, .int .i64 a0_3, .string a0_4, u415005]) ?_ 5 _ rfl; (with_reducible repeat (first | refine blk_drewN ?_ _ | refine blk_drew ?_ | refine blk_alloc ?_ _)); exact BK414.out⟩, ⟨by repeat (first | (with_reducible first | exact HB.out | apply below_alloc | apply pw_below_drewN | apply below_drew1 | refine below_set ?_ GE412.out | refine below_set ?_ GE413.out | refine below_set ?_ GE414.out | refine below_set ?_ GE417.out) | exact HB.out)⟩⟩
          ·rw [if_neg c33] at H
           exact absurd H (by simp)
        ·rw [if_neg c21] at H
         exact absurd H (by simp)
       ·rw [if_neg c20] at H
        exact absurd H (by simp)
    ·rw [if_neg c11] at H
     exact absurd H (by simp)
   ·rw [if_neg c10] at H
    have c10b0 : decide (x4_1 < (l0_5.length : Int)) = false := decide_eq_false c10
    clear c10
    simp only [Option.some.injEq, Prod.mk.injEq] at H
    obtain ⟨rfl, rfl, rfl, rfl, rfl, rfl⟩ := H
    have hnb47 := NB412_413.out
    have hnc47 := NB413_412.out
    have hnb48 := NB412_414.out
    have hnc48 := NB414_412.out
    have hcz49_0 : wr.cell? ⟨gb412, 0, none⟩ = some (.string a0_0) := (blk_cell BK412.out 0).trans rfl
    have hcz49_1 : wr.cell? ⟨gb412, 1, none⟩ = some (.int .i64 a0_1) := (blk_cell BK412.out 1).trans rfl
    have hcz49_2 : wr.cell? ⟨gb412, 2, none⟩ = some (.int .i64 a0_2) := (blk_cell BK412.out 2).trans rfl
    have hcz49_3 : wr.cell? ⟨gb412, 3, none⟩ = some (.int .i64 a0_3) := (blk_cell BK412.out 3).trans rfl
    have hcz49_4 : wr.cell? ⟨gb412, 4, none⟩ = some (.string a0_4) := (blk_cell BK412.out 4).trans rfl
    have hcz49_5 : wr.cell? ⟨gb412, 5, none⟩ = some (.slice A0_5 l0_5.length c0_5) := (blk_cell BK412.out 5).trans rfl
    have hfz49_0 := blk_frozen BK412.out 0
    have hfz49_1 := blk_frozen BK412.out 1
    have hfz49_2 := blk_frozen BK412.out 2
    have hfz49_3 := blk_frozen BK412.out 3
    have hfz49_4 := blk_frozen BK412.out 4
    have hfz49_5 := blk_frozen BK412.out 5
    have hnb50 := NB414_413.out
    have hnc50 := NB413_414.out
    have hcz51_0 : wr.cell? ⟨gb414, 0, none⟩ = some (.string a0_0) := (blk_cell BK414.out 0).trans rfl
    have hcz51_1 : wr.cell? ⟨gb414, 1, none⟩ = some (.int .i64 a0_1) := (blk_cell BK414.out 1).trans rfl
    have hcz51_2 : wr.cell? ⟨gb414, 2, none⟩ = some (.int .i64 a0_2) := (blk_cell BK414.out 2).trans rfl
    have hcz51_3 : wr.cell? ⟨gb414, 3, none⟩ = some (.int .i64 a0_3) := (blk_cell BK414.out 3).trans rfl
    have hcz51_4 : wr.cell? ⟨gb414, 4, none⟩ = some (.string a0_4) := (blk_cell BK414.out 4).trans rfl
    have hcz51_5 : wr.cell? ⟨gb414, 5, none⟩ = some (u415005) := (blk_cell BK414.out 5).trans rfl
    have hfz51_0 := blk_frozen BK414.out 0
    have hfz51_1 := blk_frozen BK414.out 1
    have hfz51_2 := blk_frozen BK414.out 2
    have hfz51_3 := blk_frozen BK414.out 3
    have hfz51_4 := blk_frozen BK414.out 4
    have hfz51_5 := blk_frozen BK414.out 5
    have hcz52_0 : wr.cell? ⟨gb413, 0, none⟩ = some (.string (⟨#[]⟩ : ByteArray)) := (blk_cell BK413.out 0).trans rfl
    have hcz52_1 : wr.cell? ⟨gb413, 1, none⟩ = some (.int .i64 0) := (blk_cell BK413.out 1).trans rfl
    have hcz52_2 : wr.cell? ⟨gb413, 2, none⟩ = some (.int .i64 0) := (blk_cell BK413.out 2).trans rfl
    have hcz52_3 : wr.cell? ⟨gb413, 3, none⟩ = some (.int .i64 0) := (blk_cell BK413.out 3).trans rfl
    have hcz52_4 : wr.cell? ⟨gb413, 4, none⟩ = some (.string (⟨#[]⟩ : ByteArray)) := (blk_cell BK413.out 4).trans rfl
    have hcz52_5 : wr.cell? ⟨gb413, 5, none⟩ = some (.slice none 0 0) := (blk_cell BK413.out 5).trans rfl
    have hfz52_0 := blk_frozen BK413.out 0
    have hfz52_1 := blk_frozen BK413.out 1
    have hfz52_2 := blk_frozen BK413.out 2
    have hfz52_3 := blk_frozen BK413.out 3
    have hfz52_4 := blk_frozen BK413.out 4
    have hfz52_5 := blk_frozen BK413.out 5
    obtain ⟨Ao53, co53, eo53⟩ := Kd.S_slice HO_415005.out
    subst eo53
    go_wp2
    refine bodyPost_ret (results_cell_row rfl _ _ gb413 36 #[.string a0_0, .int .i64 a0_1, .int .i64 a0_2, .int .i64 a0_3, .string a0_4, .slice Ao53 x415005_1.length co53] (0, 0) _ rfl (by (with_reducible repeat (first | refine blk_drewN ?_ _ | refine blk_drew ?_ | refine blk_alloc ?_ _)); refine blk_put (cs := #[.string a0_0, .int .i64 a0_1, .int .i64 a0_2, .int .i64 a0_3, .string a0_4, .slice none 0 0]) ?_ 5 _ rfl; (with_reducible repeat (first | refine blk_drewN ?_ _ | refine blk_drew ?_ | refine blk_alloc ?_ _)); refine blk_put (cs := #[.string a0_0, .int .i64 a0_1, .int .i64 a0_2, .int .i64 a0_3, .string (⟨#[]⟩ : ByteArray), .slice none 0 0]) ?_ 4 _ rfl; (with_reducible repeat (first | refine blk_drewN ?_ _ | refine blk_drew ?_ | refine blk_alloc ?_ _)); refine blk_put (cs := #[.string a0_0, .int .i64 a0_1, .int .i64 a0_2, .int .i64 0, .string (⟨#[]⟩ : ByteArray), .slice none 0 0]) ?_ 3 _ rfl; (with_reducible repeat (first | refine blk_drewN ?_ _ | refine blk_drew ?_ | refine blk_alloc ?_ _)); refine blk_put (cs := #[.string a0_0, .int .i64 a0_1, .int .i64 0, .int .i64 0, .string (⟨#[]⟩ : ByteArray), .slice none 0 0]) ?_ 2 _ rfl; (with_reducible repeat (first | refine blk_drewN ?_ _ | refine blk_drew ?_ | refine blk_alloc ?_ _)); refine blk_put (cs := #[.string a0_0, .int .i64 0, .int .i64 0, .int .i64 0, .string (⟨#[]⟩ : ByteArray), .slice none 0 0]) ?_ 1 _ rfl; (with_reducible repeat (first | refine blk_drewN ?_ _ | refine blk_drew ?_ | refine blk_alloc ?_ _)); refine blk_put (cs := #[.string (⟨#[]⟩ : ByteArray), .int .i64 0, .int .i64 0, .int .i64 0, .string (⟨#[]⟩ : ByteArray), .slice none 0 0]) ?_ 0 _ rfl; (with_reducible repeat (first | refine blk_drewN ?_ _ | refine blk_drew ?_ | refine blk_alloc ?_ _)); exact BK413.out) Try.underlying36 rfl (by kernel_rfl)) rfl ?_
    exact ⟨_, by first | rfl | (simp [errW_none, errW_some] <;> rfl) | (simp [*, errW_none, errW_some] <;> rfl), by (with_reducible repeat (first | apply Kd.S_alloc | apply Kd.S_drewN | apply Kd.S_drew)); exact Kd.S_mono (Kd.S_far (p := ⟨gb413, 5, none⟩) (Kd.S_far (p := ⟨gb413, 4, none⟩) (Kd.S_far (p := ⟨gb413, 3, none⟩) (Kd.S_far (p := ⟨gb413, 2, none⟩) (Kd.S_far (p := ⟨gb413, 1, none⟩) (Kd.S_far (p := ⟨gb413, 0, none⟩) (Kd.S_types HO_415005.out BK413.out (by decide)) (fun _ hk => hk.2) (.string a0_0)) (fun _ hk => hk.2) (.int .i64 a0_1)) (fun _ hk => hk.2) (.int .i64 a0_2)) (fun _ hk => hk.2) (.int .i64 a0_3)) (fun _ hk => hk.2) (.string a0_4)) (fun _ hk => hk.2) (.slice Ao53 x415005_1.length co53)) (fun _ hk => trivial), by repeat (first | (with_reducible first | exact HB.out | apply below_alloc | apply pw_below_drewN | apply below_drew1 | refine below_set ?_ GE412.out | refine below_set ?_ GE413.out | refine below_set ?_ GE414.out) | exact HB.out)⟩
end Go.Proofs.Ytedjodnaalconaa.P
end
section
namespace Go.Proofs
open Go.Shelf Go.RowKit
def Try.lays156_ren : Go.Shelf.Ren := ⟨fun | 156 => 102 | 165 => 105 | 166 => 38 | 169 => 39 | 240 => 58 | 241 => 110 | 276 => 74 | 277 => 112 | n => n, fun | 31 => 25 | 9 => 9 | 3 => 3 | 4 => 4 | 0 => 0 | 20 => 20 | 72 => 86 | 76 => 92 | 70 => 83 | 37 => 84 | 75 => 91 | 127 => 104 | 164 => 114 | 5 => 5 | 80 => 94 | n => n, fun | n => n⟩
theorem Try.lays156 : Go.Proofs.Lays.n156 Try.prog Try.lays156_ren := {
 mixed := by kernel_rfl
 f156 := Try.func102.trans (congrArg some (by kernel_rfl))
 f165 := Try.func105.trans (congrArg some (by kernel_rfl))
 f166 := Try.func38.trans (congrArg some (by kernel_rfl))
 f169 := Try.func39.trans (congrArg some (by kernel_rfl))
 f240 := Try.func58.trans (congrArg some (by kernel_rfl))
 f241 := Try.func110.trans (congrArg some (by kernel_rfl))
 f276 := Try.func74.trans (congrArg some (by kernel_rfl))
 f277 := Try.func112.trans (congrArg some (by kernel_rfl))
 t0 := Try.underlying0
 a0 := Try.isAgg0
 z0 := Try.sizeOf0
 v0 := Try.zeroValue0
 t3 := Try.underlying3
 a3 := Try.isAgg3
 z3 := Try.sizeOf3
 v3 := Try.zeroValue3
 t4 := Try.underlying4
 a4 := Try.isAgg4
 z4 := Try.sizeOf4
 v4 := Try.zeroValue4
 t9 := Try.underlying9
 a9 := Try.isAgg9
 z9 := Try.sizeOf9
 v9 := Try.zeroValue9
 t20 := Try.underlying20
 a20 := Try.isAgg20
 z20 := Try.sizeOf20
 v20 := Try.zeroValue20
 t31 := Try.underlying25
 a31 := Try.isAgg25
 z31 := Try.sizeOf25
 v31 := Try.zeroValue25
 t37 := Try.underlying84
 a37 := Try.isAgg84
 z37 := Try.sizeOf84
 v37 := Try.zeroValue84
 t70 := Try.underlying83
 a70 := Try.isAgg83
 z70 := Try.sizeOf83
 v70 := Try.zeroValue83
 t72 := Try.underlying86
 a72 := Try.isAgg86
 z72 := Try.sizeOf86
 v72 := Try.zeroValue86
 t75 := Try.underlying91
 a75 := Try.isAgg91
 z75 := Try.sizeOf91
 v75 := Try.zeroValue91
 t76 := Try.underlying92
 a76 := Try.isAgg92
 z76 := Try.sizeOf92
 v76 := Try.zeroValue92
 t127 := Try.underlying104
 a127 := Try.isAgg104
 z127 := Try.sizeOf104
 v127 := Try.zeroValue104
 t164 := Try.underlying114
 a164 := Try.isAgg114
 z164 := Try.sizeOf114
 v164 := Try.zeroValue114 }
theorem Try.Builder_Extra_156 : Builder.Extra Try.prog Try.lays156_ren := {
 sizeBuilder := by kernel_rfl
 liesBuilder := by kernel_rfl
 t5 := Try.underlying5
 a5 := Try.isAgg5
 z5 := Try.sizeOf5
 v5 := Try.zeroValue5
 infoByte := by kernel_rfl
 cellsByte := by kernel_rfl
 sizeByte := by kernel_rfl
 neB5 := by decide }
theorem Try.strings_Join_none (a : Option Addr) (c : Nat) (sep : ByteArray) (w : World) :
  Calls Try.prog 102 #[.slice a 0 c, .string sep] w fun e w' => e = .returned (.string ⟨#[]⟩) ∧ w' = w := Any.strings_Join_none Try.lays156 Try.Builder_Extra_156 a c sep w
theorem Try.strings_Join (bk o c : Nat) (xs : List ByteArray) (sep : ByteArray) (w : World) (hcells : ∀ (j : Nat) x, xs[j]? = some x → w.cell? ⟨bk, o + j, none⟩ = some (.string x)) (hbk : bk < w.heap.size) (hN : xs.length ≤ 140737488355328) (hcap : xs.length ≤ c) (hlen : (Lib.join (xs.map (·.data.toList)) sep.data.toList).length ≤ 140737488355328) :
  Calls Try.prog 102 #[.slice (some ⟨bk, o, none⟩) xs.length c, .string sep] w fun e w' => e = .returned (.string ⟨(Lib.join (xs.map (·.data.toList)) sep.data.toList).toArray⟩) ∧ Below w.heap.size w w' := Any.strings_Join Try.lays156 Try.Builder_Extra_156 bk o c xs sep w hcells hbk hN hcap hlen
end Go.Proofs
end
section
namespace Go.Proofs.Ytedjodnaalconaa.P
open Go.RowKit Go.Proofs.YtedjodnaalconaaW.PrintWords Go.Proofs.YtedjodnaalconaaW.PrintLast Go.Proofs.YtedjodnaalconaaW.PrintMore
attribute [local go_sem] max2_int min2_int max_two min_two max_three min_three max_four min_four
set_option linter.unusedVariables false
set_option linter.unusedSimpArgs false
def joinB (l : List ByteArray) (sep : ByteArray) : ByteArray := ⟨(Lib.join (l.map (·.data.toList)) sep.data.toList).toArray⟩
def strings_Join.f (l0 : List ByteArray) (a1 : ByteArray) : Option ByteArray := if (Lib.join (l0.map (·.data.toList)) a1.data.toList).length ≤ 140737488355328 ∧ l0.length ≤ 1000000 then some (joinB l0 a1) else none
theorem strings_Join.calls (A0 : Option Addr) (c0 : Nat) (l0 : List ByteArray) (a1 : ByteArray) (r : ByteArray) (w : World) (hr0 : Kd.C Kd.string w A0 l0.length l0) (hc0 : l0.length ≤ c0) (h : strings_Join.f l0 a1 = some r) :
  Calls Try.prog 102 #[.slice A0 l0.length c0, .string a1] w fun e w' => e = .returned (.string r) ∧ Below w.heap.size w w' := by
 unfold strings_Join.f at h
 by_cases hl : (Lib.join (l0.map (·.data.toList)) a1.data.toList).length ≤ 140737488355328 ∧ l0.length ≤ 1000000
 ·rw [if_pos hl] at h
  obtain rfl := Option.some.inj h
  cases l0 with
  | nil =>
   refine (Try.strings_Join_none A0 c0 a1 w).mono ?_
   rintro e w' ⟨rfl, rfl⟩
   exact ⟨rfl, Below.refl _ _⟩
  | cons x l =>
   obtain ⟨ad, e, hx⟩ := Kd.at_string hr0 0 (by omega) (by simp)
   subst e
   have hb := World.block_lt_of_cell? w _ hx
   obtain ⟨bk, o, sp⟩ := ad
   obtain rfl : sp = none := by
    rcases sp with _ | sp
    ·rfl
    ·exfalso
     simp only [Addr.add, World.cell?] at hx
     revert hx
     simp
     split <;> simp
   refine (Try.strings_Join bk o c0 (x :: l) a1 w (fun j y hj => ?_) (by simpa [Addr.add] using hb) (by omega) hc0 hl.1).mono ?_
   ·obtain ⟨ad2, e2, hx2⟩ := Kd.at_string hr0 (j : Int) (by omega) (by have := (List.getElem?_eq_some_iff.1 hj).1; omega)
    obtain rfl := Option.some.inj e2
    rw [Int.toNat_natCast] at hx2
    have hv : rdOf ByteArray.empty (x :: l) (j : Int) = y := by unfold rdOf; rw [List.getD_eq_getElem?_getD, Int.toNat_natCast, hj]; rfl
    rw [hv] at hx2
    unfold Addr.add at hx2
    split at hx2
    ·rename_i hj0; subst hj0; exact hx2
    ·exact hx2
   ·rintro e w' ⟨rfl, hb2⟩
    exact ⟨rfl, hb2⟩
 ·rw [if_neg hl] at h
  exact absurd h (by simp)
def data_parts_whole.f (a0_0 : ByteArray) (a0_1 : ByteArray) (l0_2 : List ByteArray) : Option (ByteArray) := (strings_Join.f l0_2 (⟨#[]⟩ : ByteArray)).bind fun t117 => (if a0_0.size + t117.size ≤ 9223372036854775807 then (if a0_0.size + t117.size + a0_1.size ≤ 9223372036854775807 then (some ((a0_0 ++ t117) ++ a0_1)) else (none)) else (none))
def data_parts_whole.T1 : Bool × List (List Nat × List Nat) := (true, [([], []), ([0], [0]), ([], []), ([2], [2]), ([3], [3]), ([1, 4], [1, 4]), ([], []), ([6], [6]), ([5, 7], [5, 7]), ([8, 4, 0, 1, 2, 3, 4, 5, 6, 7, 8], [8])])
def data_parts_whole.B1 : List Nat := [0, 1, 0, 4, 12, 31, 0, 64, 255, 511]
theorem data_parts_whole.tab1 : rtab .any (opsOf Try.f92 1) = data_parts_whole.T1 := by kernel_rfl
theorem data_parts_whole.bits1 : waitsOk data_parts_whole.T1.2 data_parts_whole.B1 = true := by kernel_rfl
set_option maxHeartbeats 8000000 in
set_option maxRecDepth 100000 in
theorem data_parts_whole.calls (a0_0 : ByteArray) (a0_1 : ByteArray) (A0_2 : Option Addr) (c0_2 : Nat) (l0_2 : List ByteArray) (r : ByteArray) (w : World) (hr0_2 : Kd.C Kd.string w A0_2 l0_2.length l0_2) (hc0_2 : l0_2.length ≤ c0_2) (h : data_parts_whole.f a0_0 a0_1 l0_2 = some r) :
  Calls Try.prog 92 #[.agg #[.string a0_0, .string a0_1, .slice A0_2 l0_2.length c0_2]] w fun e w' => e = .returned (.string r) ∧ Below w.heap.size w w' := by
 have hu130 := Try.underlying130
 have HR0_2 := Aside0.mk hr0_2
 have HC0_2 := Aside0.mk hc0_2
 clear hr0_2 hc0_2
 have HB := Aside0.mk (Below.refl w.heap.size w)
 have H : ((strings_Join.f l0_2 (⟨#[]⟩ : ByteArray)).bind fun t117 => (if a0_0.size + t117.size ≤ 9223372036854775807 then (if a0_0.size + t117.size + a0_1.size ≤ 9223372036854775807 then (some ((a0_0 ++ t117) ++ a0_1)) else (none)) else (none))) = some r := h
 clear h
 replace H := Option.bind_eq_some_iff.mp H
 obtain ⟨t117, A20, H⟩ := H
 replace H : (if a0_0.size + t117.size ≤ 9223372036854775807 then (if a0_0.size + t117.size + a0_1.size ≤ 9223372036854775807 then (some ((a0_0 ++ t117) ++ a0_1)) else (none)) else (none)) = some r := H
 have A2 := Aside0.mk A20
 clear A20
 by_cases c3 : a0_0.size + t117.size ≤ 9223372036854775807
 ·rw [if_pos c3] at H
  have c3b0 := eq_true c3
  have c3b1 : decide (a0_0.size + t117.size ≤ 9223372036854775807) = true := decide_eq_true c3
  try have c3b2 : (9223372036854775807 < a0_0.size + t117.size) = False := eq_false (Nat.not_lt.2 c3)
  by_cases c4 : a0_0.size + t117.size + a0_1.size ≤ 9223372036854775807
  ·rw [if_pos c4] at H
   have c4b0 := eq_true c4
   have c4b1 : decide (a0_0.size + t117.size + a0_1.size ≤ 9223372036854775807) = true := decide_eq_true c4
   try have c4b2 : (9223372036854775807 < a0_0.size + t117.size + a0_1.size) = False := eq_false (Nat.not_lt.2 c4)
   obtain rfl := Option.some.inj H
   go_enter Try.func92, Try.ntmps92
   try go_wp2_with (first | ((with_reducible refine gate_dst (N := 1) rfl ?_); refine box_event ?hg (N := 1) ?hd (cs := #[.string a0_0, .string a0_1, .slice A0_2 l0_2.length c0_2]) (t := 130) ?hr ?_; (case hd => rfl); (case hg => rfl); (case hr => first | (go_simp; done) | (go_simp; rfl)); intro gb116 hg w5 hbox hb; have n0_ := Aside0.mk (below_step (by repeat (first | (with_reducible first | exact HB.out | apply below_alloc | apply pw_below_drewN | apply below_drew1) | exact HB.out)) hb); have n1_ := Aside0.mk (hbox); have n2_ := Aside0.mk ((by rw [hg]; exact (below_size (by repeat (first | (with_reducible first | exact HB.out | apply below_alloc | apply pw_below_drewN | apply below_drew1) | exact HB.out))) : w.heap.size ≤ gb116)); have n3_ := Aside0.mk ((by rw [hg]; exact (below_size (by repeat (first | (with_reducible first | exact HB.out | apply below_alloc | apply pw_below_drewN | apply below_drew1) | exact HB.out))) : w.heap.size ≤ gb116)); clear HB; have HB := n0_; have BK116 := n1_; have GW116 := n2_; have GE116 := n3_; clear n0_ n1_ n2_ n3_; clear hb hbox hg))
   have n0_ := Aside0.mk (blk_drew BK116.out)
   have n1_ := Aside0.mk (below_drew1 HB.out)
   clear BK116
   clear HB
   have BK116 := n0_
   have HB := n1_
   clear n0_ n1_
   refine start_ (n := 10) (S := fun w' => w'.cell? ⟨gb116, 0, none⟩ = some (.string a0_0) ∧ w'.cell? ⟨gb116, 1, none⟩ = some (.string a0_1) ∧ w'.cell? ⟨gb116, 2, none⟩ = some (.slice A0_2 l0_2.length c0_2)) (ds := []) #[false, false, false, false, false, false, false, false, false, false] (by kernel_rfl) rfl rfl ⟨(blk_cell BK116.out 0).trans rfl, (blk_cell BK116.out 1).trans rfl, (blk_cell BK116.out 2).trans rfl⟩ (fun hHeld => ?_); refine with_tabW data_parts_whole.tab1 data_parts_whole.bits1 (fun HT_ HW_ => ?_)
   generalize w5.drew = w6 at BK116 HB hHeld ⊢
   refine pure_ (i := 0) (N := some 3) (v := ?_) (a' := ?_) #[true, false, false, false, false, false, false, false, false, false] rfl rfl (any_of HT_.out (by kernel_rfl)) (fun _ _ _ h => h) (Or.inl ⟨by rfl, ?_⟩) ?_ ?_
   rotate_left
   ·intro w'
    go_simp
    with_reducible rfl
   rotate_left
   ·simp only [Act.put, List.setIfInBounds_toArray, List.set_cons_zero, List.set_cons_succ, i64_w, i32_w]
    rfl
   refine pure_ (i := 2) (N := some 5) (v := ?_) (a' := ?_) #[true, false, true, false, false, false, false, false, false, false] rfl rfl (any_of HT_.out (by kernel_rfl)) (fun _ _ _ h => h) (Or.inl ⟨by rfl, ?_⟩) ?_ ?_
   rotate_left
   ·intro w'
    go_simp
    with_reducible rfl
   rotate_left
   ·simp only [Act.put, List.setIfInBounds_toArray, List.set_cons_zero, List.set_cons_succ, i64_w, i32_w]
    rfl
   refine pure_ (i := 6) (N := some 9) (v := ?_) (a' := ?_) #[true, false, true, false, false, false, true, false, false, false] rfl rfl (any_of HT_.out (by kernel_rfl)) (fun _ _ _ h => h) (Or.inl ⟨by rfl, ?_⟩) ?_ ?_
   rotate_left
   ·intro w'
    go_simp
    with_reducible rfl
   rotate_left
   ·simp only [Act.put, List.setIfInBounds_toArray, List.set_cons_zero, List.set_cons_succ, i64_w, i32_w]
    rfl
   refine take_ (i := 1) (N := some 4) (v := ?_) (a' := ?_) #[true, true, true, false, false, false, true, false, false, false] rfl rfl (take_ofW HT_.out HW_.out (by kernel_rfl)) (fun _ _ _ h => h) (Or.inl ⟨by rfl, ?_⟩) hHeld ?_ ?_
   rotate_left
   ·rintro w' ⟨s0, s1, s2⟩
    go_simp
    with_reducible rfl
   rotate_left
   ·simp only [Act.put, List.setIfInBounds_toArray, List.set_cons_zero, List.set_cons_succ, i64_w, i32_w]
    rfl
   refine take_ (i := 3) (N := some 6) (v := ?_) (a' := ?_) #[true, true, true, true, false, false, true, false, false, false] rfl rfl (take_ofW HT_.out HW_.out (by kernel_rfl)) (fun _ _ _ h => h) (Or.inl ⟨by rfl, ?_⟩) hHeld ?_ ?_
   rotate_left
   ·rintro w' ⟨s0, s1, s2⟩
    go_simp
    with_reducible rfl
   rotate_left
   ·simp only [Act.put, List.setIfInBounds_toArray, List.set_cons_zero, List.set_cons_succ, i64_w, i32_w]
    rfl
   refine take_ (i := 7) (N := some 10) (v := ?_) (a' := ?_) #[true, true, true, true, false, false, true, true, false, false] rfl rfl (take_ofW HT_.out HW_.out (by kernel_rfl)) (fun _ _ _ h => h) (Or.inl ⟨by rfl, ?_⟩) hHeld ?_ ?_
   rotate_left
   ·rintro w' ⟨s0, s1, s2⟩
    go_simp
    with_reducible rfl
   rotate_left
   ·simp only [Act.put, List.setIfInBounds_toArray, List.set_cons_zero, List.set_cons_succ, i64_w, i32_w]
    rfl
   refine one_ (i := 4) (N := some 7) #[true, true, true, true, true, false, true, true, false, false] rfl rfl (one_of HT_.out (by kernel_rfl)) (by decide) (fun K hK => ?_)
   refine goes_ Try.func102 (by kernel_rfl) rfl #[.slice A0_2 l0_2.length c0_2, .string (⟨#[]⟩ : ByteArray)] (by rfl) rfl rfl (by (try simp only [List.map_toArray, List.map_cons, List.map_nil]); first | done | rfl | (simp only [List.length_drop, List.length_take]; rfl)) ?_
   with_reducible refine (strings_Join.calls _ _ l0_2 (⟨#[]⟩ : ByteArray) t117 _ ?side1 ?side2 A2.out).mono ?_
   (case side1 => repeat (first | exact (Kd.C_below HR0_2.out HB.out) | (with_reducible refine Kd.C_alloc ?_ _) | (with_reducible refine Kd.C_drewN ?_ _) | (with_reducible refine Kd.C_drew ?_)))
   (case side2 => exact HC0_2.out)
   rintro e w7 ⟨rfl, hb⟩
   refine ⟨_, rfl, ?_⟩
   have n0_ := Aside0.mk (blk_below (g := gb116) (o := .cells #[.string a0_0, .string a0_1, .slice A0_2 l0_2.length c0_2] 130 (0, 0)) (by (with_reducible repeat (first | refine blk_drewN ?_ _ | refine blk_drew ?_ | refine blk_alloc ?_ _)); exact BK116.out) hb)
   have n1_ := Aside0.mk (below_step (by repeat (first | (with_reducible first | exact HB.out | apply below_alloc | apply pw_below_drewN | apply below_drew1 | refine below_set ?_ GE116.out) | exact HB.out)) hb)
   clear BK116
   clear HB
   have BK116 := n0_
   have HB := n1_
   clear n0_ n1_
   (try clear hb)
   (try clear hb2)
   (try clear hk)
   (try clear hi)
   refine hK.out _ _ ⟨(blk_cell BK116.out 0).trans rfl, (blk_cell BK116.out 1).trans rfl, (blk_cell BK116.out 2).trans rfl⟩ (fun hHeld => ?_)
   clear hK K
   refine norm_ (a' := ?_) ?_ ?_
   rotate_left
   ·show Act.put _ (some 7) _ = _
    simp only [Act.put, List.setIfInBounds_toArray, List.set_cons_zero, List.set_cons_succ, i64_w, i32_w]
    rfl
   refine pure_ (i := 5) (N := some 8) (v := ?_) (a' := ?_) #[true, true, true, true, true, true, true, true, false, false] rfl rfl (any_of HT_.out (by kernel_rfl)) (fun _ _ _ h => h) (Or.inl ⟨by rfl, ?_⟩) ?_ ?_
   rotate_left
   ·intro w'
    go_simp
    with_reducible rfl
   rotate_left
   ·simp only [Act.put, List.setIfInBounds_toArray, List.set_cons_zero, List.set_cons_succ, i64_w, i32_w]
    rfl
   refine pure_ (i := 8) (N := some 11) (v := ?_) (a' := ?_) #[true, true, true, true, true, true, true, true, true, false] rfl rfl (any_of HT_.out (by kernel_rfl)) (fun _ _ _ h => h) (Or.inl ⟨by rfl, ?_⟩) ?_ ?_
   rotate_left
   ·intro w'
    go_simp
    with_reducible rfl
   rotate_left
   ·simp only [Act.put, List.setIfInBounds_toArray, List.set_cons_zero, List.set_cons_succ, i64_w, i32_w]
    rfl
   refine pure_ (i := 9) (N := some 2) (v := ?_) (a' := ?_) #[true, true, true, true, true, true, true, true, true, true] rfl rfl (any_of HT_.out (by kernel_rfl)) (fun _ _ _ h => h) (Or.inl ⟨by rfl, ?_⟩) ?_ ?_
   rotate_left
   ·intro w'
    go_simp
    with_reducible rfl
   rotate_left
   ·simp only [Act.put, List.setIfInBounds_toArray, List.set_cons_zero, List.set_cons_succ, i64_w, i32_w]
    rfl
   refine done_ (done_of HT_.out (by kernel_rfl)) ?_
   try go_wp2
   go_ret
   exact ⟨by first | rfl | (simp [errW_none, errW_some] <;> rfl) | (simp [*, errW_none, errW_some] <;> rfl), by repeat (first | (with_reducible first | exact HB.out | apply below_alloc | apply pw_below_drewN | apply below_drew1 | refine below_set ?_ GE116.out) | exact HB.out)⟩
  ·rw [if_neg c4] at H
   exact absurd H (by simp)
 ·rw [if_neg c3] at H
  exact absurd H (by simp)
def octet_Take.f (a0 : ByteArray) (a1 : Int) (a2 : Int) : Option (ByteArray × Bool) :=
 if a1 < 0 ∨ a2 < 0 ∨ a1 > (a0.size : Int) ∨ a2 > wrap64 ((a0.size : Int) - a1) then some ((⟨#[]⟩ : ByteArray), false)
 else some ((a0.extract a1.toNat a0.size).extract 0 a2.toNat, true)
set_option maxRecDepth 100000 in
theorem octet_Take.calls (a0 : ByteArray) (a1 : Int) (a2 : Int) (r1 : ByteArray) (r2 : Bool) (w : World) (h : octet_Take.f a0 a1 a2 = some (r1, r2)) :
  Calls Try.prog 98 #[.string a0, .int .i64 a1, .int .i64 a2] w fun e w' => e = .returned (.tuple #[.string r1, .bool r2]) ∧ Drawn0 w w' := by
 unfold octet_Take.f at h
 by_cases c1 : a1 < 0
 ·rw [if_pos (.inl c1)] at h
  simp only [Option.some.injEq, Prod.mk.injEq] at h
  obtain ⟨rfl, rfl⟩ := h
  have d1 : decide (a1 < 0) = true := decide_eq_true c1
  clear c1
  go_enter Try.func98, Try.ntmps98
  go_wp2
  go_ret2
  exact ⟨rfl, Drawn0.refl _⟩
 have d1 : decide (a1 < 0) = false := decide_eq_false c1
 by_cases c2 : a2 < 0
 ·rw [if_pos (.inr (.inl c2))] at h
  simp only [Option.some.injEq, Prod.mk.injEq] at h
  obtain ⟨rfl, rfl⟩ := h
  have d2 : decide (a2 < 0) = true := decide_eq_true c2
  clear c1 c2
  go_enter Try.func98, Try.ntmps98
  go_wp2
  go_ret2
  exact ⟨rfl, Drawn0.refl _⟩
 have d2 : decide (a2 < 0) = false := decide_eq_false c2
 by_cases c3 : a1 > (a0.size : Int)
 ·rw [if_pos (.inr (.inr (.inl c3)))] at h
  simp only [Option.some.injEq, Prod.mk.injEq] at h
  obtain ⟨rfl, rfl⟩ := h
  have d3 : decide ((a0.size : Int) < a1) = true := decide_eq_true c3
  clear c1 c2 c3
  go_enter Try.func98, Try.ntmps98
  go_wp2
  go_ret2
  exact ⟨rfl, Drawn0.refl _⟩
 have d3 : decide ((a0.size : Int) < a1) = false := decide_eq_false c3
 by_cases c4 : a2 > wrap64 ((a0.size : Int) - a1)
 ·rw [if_pos (.inr (.inr (.inr c4)))] at h
  simp only [Option.some.injEq, Prod.mk.injEq] at h
  obtain ⟨rfl, rfl⟩ := h
  have d4 : decide (wrap64 ((a0.size : Int) - a1) < a2) = true := decide_eq_true c4
  clear c1 c2 c3 c4
  go_enter Try.func98, Try.ntmps98
  go_wp2
  go_ret2
  exact ⟨rfl, Drawn0.refl _⟩
 have d4 : decide (wrap64 ((a0.size : Int) - a1) < a2) = false := decide_eq_false c4
 rw [if_neg (by omega)] at h
 simp only [Option.some.injEq, Prod.mk.injEq] at h
 obtain ⟨rfl, rfl⟩ := h
 have e1 : (0 ≤ a1) = True := eq_true (by omega)
 have e1' : decide (0 ≤ a1) = true := decide_eq_true (by omega)
 have e2 : (a1 ≤ (a0.size : Int)) = True := eq_true (by omega)
 have e2' : decide (a1 ≤ (a0.size : Int)) = true := decide_eq_true (by omega)
 have e3 : (0 ≤ a2) = True := eq_true (by omega)
 have e3' : decide (0 ≤ a2) = true := decide_eq_true (by omega)
 have hs : a2 ≤ ((a0.size - a1.toNat : Nat) : Int) := by unfold wrap64 at c4; omega
 have e4' : decide (a2 ≤ ((a0.size - a1.toNat : Nat) : Int)) = true := decide_eq_true hs
 clear c1 c2 c3 c4
 go_enter Try.func98, Try.ntmps98
 go_wp2
 go_ret2
 exact ⟨rfl, Drawn0.refl _⟩
mutual
def octet_Get.j0 : Nat → Int → ByteArray → Bool → Option (Int × Bool)
 | 0, _, _, _ => none
 | k + 1, x2, x8, x25 => if x25 = true then (some (0, false)) else (octet_Get.l0 k x8 0 x2 0)
def octet_Get.l0 : Nat → ByteArray → Int → Int → Int → Option (Int × Bool)
 | 0, _, _, _, _ => none
 | k + 1, x8, x10, x26, x27 => if x27 < x26 then (if 0 ≤ x27 then (if x27 < (x8.size : Int) then (octet_Get.l0 k x8 (Go.bits .or .i64 (wrap64 (x10 * 256)) (wrap64 (bt x8 x27))) x26 (wrap64 (x27 + 1))) else (none)) else (none)) else (some (x10, true))
end
def octet_Get.f (k : Nat) (a0 : ByteArray) (a1 : Int) (a2 : Int) : Option (Int × Bool) := (octet_Take.f a0 a1 a2).bind fun bt118 => (if bt118.2 = true then ((octet_sized.f a2).bind fun t120 => (octet_Get.j0 k a2 bt118.1 (!t120))) else (octet_Get.j0 k a2 bt118.1 true))
theorem octet_Get.mono_l : ∀ k, (∀ y0 y1 y2, LeO (octet_Get.j0 k y0 y1 y2) (octet_Get.j0 (k + 1) y0 y1 y2)) ∧ (∀ y0 y1 y2 y3, LeO (octet_Get.l0 k y0 y1 y2 y3) (octet_Get.l0 (k + 1) y0 y1 y2 y3))
 | 0 => ⟨fun _ _ _ r h => by simp [octet_Get.j0] at h, fun _ _ _ _ r h => by simp [octet_Get.l0] at h⟩
 | k + 1 => by
  obtain ⟨ih0, ih1⟩ := octet_Get.mono_l k
  refine ⟨?_, ?_⟩
  ·intro y0 y1 y2
   unfold octet_Get.j0
   repeat' first
   | (with_reducible exact ih0 _ _ _)
   | (with_reducible exact ih1 _ _ _ _)
   | (with_reducible exact LeO.refl _)
   | (with_reducible exact LeO.none _)
   | (with_reducible refine LeO.ite ?_ ?_)
   | (with_reducible refine LeO.bind ?_ (fun _ => ?_))
  ·intro y0 y1 y2 y3
   unfold octet_Get.l0
   repeat' first
   | (with_reducible exact ih0 _ _ _)
   | (with_reducible exact ih1 _ _ _ _)
   | (with_reducible exact LeO.refl _)
   | (with_reducible exact LeO.none _)
   | (with_reducible refine LeO.ite ?_ ?_)
   | (with_reducible refine LeO.bind ?_ (fun _ => ?_))
theorem octet_Get.mono : ∀ a0 a1 a2 k, LeO (octet_Get.f k a0 a1 a2) (octet_Get.f (k + 1) a0 a1 a2) := by
 intro a0 a1 a2 k
 obtain ⟨ih0, ih1⟩ := octet_Get.mono_l k
 unfold octet_Get.f
 repeat' first
   | (with_reducible exact ih0 _ _ _)
   | (with_reducible exact ih1 _ _ _ _)
   | (with_reducible exact LeO.refl _)
   | (with_reducible exact LeO.none _)
   | (with_reducible refine LeO.ite ?_ ?_)
   | (with_reducible refine LeO.bind ?_ (fun _ => ?_))
set_option maxHeartbeats 8000000 in
set_option maxRecDepth 100000 in
theorem octet_Get.calls (k : Nat) (a0 : ByteArray) (a1 : Int) (a2 : Int) (r1 : Int) (r2 : Bool) (w : World) (h : octet_Get.f k a0 a1 a2 = some (r1, r2)) :
  Calls Try.prog 106 #[.string a0, .int .i64 a1, .int .i64 a2] w fun e w' => e = .returned (.tuple #[.int .i64 r1, .bool r2]) ∧ Drawn0 w w' := by
 have H : ((octet_Take.f a0 a1 a2).bind fun bt118 => (if bt118.2 = true then ((octet_sized.f a2).bind fun t120 => (octet_Get.j0 k a2 bt118.1 (!t120))) else (octet_Get.j0 k a2 bt118.1 true))) = some (r1, r2) := h
 clear h
 replace H := Option.bind_eq_some_iff.mp H
 obtain ⟨⟨t118, t119⟩, A40, H⟩ := H
 replace H : (if t119 = true then ((octet_sized.f a2).bind fun t120 => (octet_Get.j0 k a2 t118 (!t120))) else (octet_Get.j0 k a2 t118 true)) = some (r1, r2) := H
 have A4 := Aside0.mk A40
 clear A40
 have HC5 := Aside0.mk H
 clear H
 go_enter Try.func106, Try.ntmps106
 go_upto_region 2 with (first | ((with_reducible refine gate_callee (f := 98) rfl ?_); refine goesL_ (some 16) rfl rfl Try.func98 (by kernel_rfl) rfl #[.string a0, .int .i64 a1, .int .i64 a2] rfl (by (try simp only [List.map_toArray, List.map_cons, List.map_nil]); first | done | rfl | (simp only [List.length_drop, List.length_take]; rfl)) ?_; (with_reducible refine (octet_Take.calls a0 a1 a2 t118 t119 _ A4.out).mono ?_); rintro e w' ⟨rfl, ⟨nd, rfl⟩⟩; refine ⟨_, rfl, ?_⟩))
 (try simp only [Act.put, List.setIfInBounds_toArray, List.set_cons_zero, List.set_cons_succ])
 go_cut [25] (fun v25 wc => ∃ (kq : Nat) (x25_4 : Bool), v25 = .bool x25_4 ∧ Aside0 (octet_Get.j0 kq a2 t118 x25_4 = some (r1, r2)) ∧ Aside0 (kq ≤ k) ∧ Drawn0 w wc)
 case first =>
  have H := HC5.out
  clear HC5
  by_cases c6 : t119 = true
  ·subst c6
   have H1 : ((octet_sized.f a2).bind fun t120 => (octet_Get.j0 k a2 t118 (!t120))) = some (r1, r2) := by rw [if_pos rfl] at H; exact H
   clear H
   have H := H1
   clear H1
   replace H := Option.bind_eq_some_iff.mp H
   obtain ⟨t120, A70, H⟩ := H
   replace H : (octet_Get.j0 k a2 t118 (!t120)) = some (r1, r2) := H
   have A7 := Aside0.mk A70
   clear A70
   have H' := Aside0.mk H
   clear H
   go_wp2_with (first | (go_at_call 56; (with_reducible refine (octet_sized.calls a2 t120 _ A7.out).mono ?_); rintro e w' ⟨rfl, ⟨nd, rfl⟩⟩))
   go_meet
   case rel => exact ⟨_, (!t120), (by first | rfl | (simp; done) | (simp [*]; done)), H', ⟨by first | omega | exact Nat.le_refl _⟩, by repeat (first | exact Drawn0.refl _ | apply Drawn0.step)⟩
  ·replace c6 := Bool.eq_false_iff.mpr c6
   subst c6
   have H1 : (octet_Get.j0 k a2 t118 true) = some (r1, r2) := by rw [if_neg (show ¬ (false = true) by decide)] at H; exact H
   clear H
   have H := H1
   clear H1
   have H' := Aside0.mk H
   clear H
   go_wp2
   go_meet
   case rel => exact ⟨_, (true), (by first | rfl | (simp; done) | (simp [*]; done)), H', ⟨by first | omega | exact Nat.le_refl _⟩, by repeat (first | exact Drawn0.refl _ | apply Drawn0.step)⟩
 case rest =>
  clear HC5
  try clear c1
  try clear p2
  try clear c6
  obtain ⟨kq, x25_4, rfl, HA, HJ4, ⟨mc4, rfl⟩⟩ := hcut
  cases kq with
  | zero => exact absurd HA.out (by simp [octet_Get.j0])
  | succ kj4 =>
   have H := HA.out
   clear HA
   simp only [octet_Get.j0] at H
   by_cases c8 : x25_4 = true
   ·subst c8
    have H1 : (some (0, false)) = some (r1, r2) := by rw [if_pos rfl] at H; exact H
    clear H
    have H := H1
    clear H1
    simp only [Option.some.injEq, Prod.mk.injEq] at H
    obtain ⟨rfl, rfl⟩ := H
    go_wp2
    go_ret2
    exact ⟨by first | rfl | (simp; done) | (simp [*]; done), by repeat (first | exact Drawn0.refl _ | apply Drawn0.step)⟩
   ·replace c8 := Bool.eq_false_iff.mpr c8
    subst c8
    have H1 : (octet_Get.l0 kj4 t118 0 a2 0) = some (r1, r2) := by rw [if_neg (show ¬ (false = true) by decide)] at H; exact H
    clear H
    have H := H1
    clear H1
    have H' := Aside0.mk H
    clear H
    go_wp2
    go_loopg [10, 27] kj4 (fun kq v10 v27 w' => ∃ (x10_2 : Int) (x27_2 : Int), v10 = .int .i64 x10_2 ∧ v27 = .int .i64 x27_2 ∧ Aside0 (octet_Get.l0 kq t118 x10_2 a2 x27_2 = some (r1, r2)) ∧ Aside0 (kq ≤ kj4) ∧ Drawn0 w w')
    case atStart => exact ⟨(0), (0), (by first | rfl | (simp; done) | (simp [*]; done)), (by first | rfl | (simp; done) | (simp [*]; done)), H', ⟨Nat.le_refl _⟩, by repeat (first | exact Drawn0.refl _ | apply Drawn0.step)⟩
    case round =>
     clear H'
     try clear c1
     try clear p2
     try clear c4
     try clear c6
     try clear c8
     try clear p2
     obtain ⟨x10_2, x27_2, rfl, rfl, HA, HK2, ⟨m2, rfl⟩⟩ := hrel
     cases gk with
     | zero => exact absurd HA.out (by simp [octet_Get.l0])
     | succ k2 =>
      have H := HA.out
      clear HA
      simp only [octet_Get.l0] at H
      by_cases c9 : x27_2 < a2
      ·rw [if_pos c9] at H
       have c9b0 : decide (x27_2 < a2) = true := decide_eq_true c9
       clear c9
       by_cases c10 : 0 ≤ x27_2
       ·rw [if_pos c10] at H
        have c10b0 : decide (0 ≤ x27_2) = true := decide_eq_true c10
        clear c10
        by_cases c11 : x27_2 < (t118.size : Int)
        ·rw [if_pos c11] at H
         have c11b0 : decide (x27_2 < (t118.size : Int)) = true := decide_eq_true c11
         clear c11
         have H' := Aside0.mk H
         clear H
         have p12 : 0 ≤ (x27_2 : Int) := of_decide_eq_true (by first | (with_reducible assumption) | assumption)
         have q12 : x27_2 < (t118.size : Int) := of_decide_eq_true (by first | (with_reducible assumption) | assumption)
         have hx12 := bt_at t118 x27_2
         replace p12 := eq_true p12
         replace q12 := eq_true q12
         go_wp2
         go_roundg k2
         case measure => have := HJ4.out; have := HK2.out; omega
         case rel => exact ⟨(Go.bits .or .i64 (wrap64 (x10_2 * 256)) (wrap64 (bt t118 x27_2))), (wrap64 (x27_2 + 1)), (by first | rfl | (simp; done) | (simp [*]; done)), (by first | rfl | (simp; done) | (simp [*]; done)), H', ⟨by have := HJ4.out; have := HK2.out; omega⟩, by repeat (first | exact Drawn0.refl _ | apply Drawn0.step)⟩
        ·rw [if_neg c11] at H
         exact absurd H (by simp)
       ·rw [if_neg c10] at H
        exact absurd H (by simp)
      ·rw [if_neg c9] at H
       have c9b0 : decide (x27_2 < a2) = false := decide_eq_false c9
       clear c9
       simp only [Option.some.injEq, Prod.mk.injEq] at H
       obtain ⟨rfl, rfl⟩ := H
       go_wp2
       go_ret2
       exact ⟨by first | rfl | (simp; done) | (simp [*]; done), by repeat (first | exact Drawn0.refl _ | apply Drawn0.step)⟩
structure RdLeft (B g : Nat) (cs : Array Value) (w w' : World) : Prop where
 blk : w'.heap[g]? = some (.cells cs 147 (0, 0))
 oth : ∀ j, j ≠ g → w'.heap[j]? = w.heap[j]?
 below : Below B w w'
theorem RdLeft.drewN {B g : Nat} {cs : Array Value} {w w' : World} (h : RdLeft B g cs w w') (n : Nat) : RdLeft B g cs w (w'.drewN n) :=
 ⟨h.blk, h.oth, pw_below_drewN h.below n⟩
theorem RdLeft.start {B g : Nat} {cs : Array Value} {w : World} (hb : w.heap[g]? = some (.cells cs 147 (0, 0))) : RdLeft B g cs w w := ⟨hb, fun _ _ => rfl, Below.refl B w⟩
theorem RdLeft.set {B g : Nat} {cs : Array Value} {w w' : World} (h : RdLeft B g cs w w') (hB : B ≤ g) (j : Nat) (v : Value) : RdLeft B g (cs.setIfInBounds j v) w (w'.setCell ⟨g, j, none⟩ v) :=
 ⟨by have := h.blk; simp [World.setCell, Array.getElem?_modify, this], fun i hi => by rw [← h.oth i hi]; simp [World.setCell, Array.getElem?_modify, Ne.symm hi], h.below.setCell (p := ⟨g, j, none⟩) hB _⟩
theorem RdLeft.drew {B g : Nat} {cs : Array Value} {w w' : World} (h : RdLeft B g cs w w') : RdLeft B g cs w w'.drew := ⟨h.blk, h.oth, below_drew h.below⟩
theorem RdLeft.of_eq {B g : Nat} {cs cs' : Array Value} {w w' : World} (h : RdLeft B g cs w w') (e : cs = cs') : RdLeft B g cs' w w' := e ▸ h
set_option maxHeartbeats 2000000 in
set_option maxRecDepth 100000 in
theorem rd_follow (k B g : Nat) (m : ByteArray) (at_ least next p : Int) (q v : Value) (is : Bool) (w : World) (hG : octet_Get.f k m at_ 2 = some (p, is)) (hB : B ≤ g)
  (hb : w.heap[g]? = some (.cells #[.string m, .int .i64 at_, .int .i64 least, .int .i64 next, q, v] 147 (0, 0))) :
  Calls Try.prog 108 #[.pointer (some ⟨g, 0, none⟩)] w fun e w' =>
   e = .returned (.int .i64 (if is = true then (if wrap64 (p - 49152) ≥ least then 3 else 0) else 2)) ∧
   RdLeft B g (if is = true ∧ ¬ wrap64 (p - 49152) ≥ least then #[.string m, .int .i64 (wrap64 (p - 49152)), .int .i64 (wrap64 (p - 49152)), .int .i64 (if next = -1 then wrap64 (at_ + 2) else next), q, v] else #[.string m, .int .i64 at_, .int .i64 least, .int .i64 next, q, v]) w w' := by
 have c0 : w.cell? ⟨g, 0, none⟩ = some (.string m) := (Lib.cell_of_heap hb 0).trans rfl
 have c1 : w.cell? ⟨g, 1, none⟩ = some (.int .i64 at_) := (Lib.cell_of_heap hb 1).trans rfl
 have c2 : w.cell? ⟨g, 2, none⟩ = some (.int .i64 least) := (Lib.cell_of_heap hb 2).trans rfl
 have c3 : w.cell? ⟨g, 3, none⟩ = some (.int .i64 next) := (Lib.cell_of_heap hb 3).trans rfl
 have f1 : w.frozen? ⟨g, 1, none⟩ = false := Lib.frozen_of_heap hb 1
 have f2 : w.frozen? ⟨g, 2, none⟩ = false := Lib.frozen_of_heap hb 2
 have f3 : w.frozen? ⟨g, 3, none⟩ = false := Lib.frozen_of_heap hb 3
 have HG := Aside0.mk hG
 have HS := Aside0.mk (RdLeft.start (B := B) hb)
 clear hG hb
 cases is with
 | false =>
  simp only [Bool.false_eq_true, if_false, false_and]
  go_enter Try.func108, Try.ntmps108
  go_wp2_with (fail)
  go_quiet ((go_at_call 106; refine (octet_Get.calls k m at_ 2 p false _ HG.out).mono ?_; rintro e w' ⟨rfl, ⟨nd, rfl⟩⟩; (first | exact ⟨rfl, _, World.drewN_drewN _ _ _⟩ | exact ⟨rfl, _, Eq.trans (World.drewN_drewN _ _ _) (congrArg (World.drewN _) (Nat.add_assoc _ _ _))⟩)))
  go_wp2
  go_ret
  exact ⟨rfl, HS.out.drewN _⟩
 | true =>
  by_cases hge : wrap64 (p - 49152) ≥ least
  ·simp only [if_pos hge, if_true, true_and, hge, not_true, if_false]
   have d1 : decide (least ≤ wrap64 (p - 49152)) = true := decide_eq_true hge
   clear hge
   go_enter Try.func108, Try.ntmps108
   go_wp2_with (fail)
   go_quiet ((go_at_call 106; refine (octet_Get.calls k m at_ 2 p true _ HG.out).mono ?_; rintro e w' ⟨rfl, ⟨nd, rfl⟩⟩; (first | exact ⟨rfl, _, World.drewN_drewN _ _ _⟩ | exact ⟨rfl, _, Eq.trans (World.drewN_drewN _ _ _) (congrArg (World.drewN _) (Nat.add_assoc _ _ _))⟩)))
   go_wp2
   go_ret
   exact ⟨rfl, HS.out.drewN _⟩
  ·simp only [if_neg hge, if_true, true_and, hge, not_false_iff]
   have d1 : decide (least ≤ wrap64 (p - 49152)) = false := decide_eq_false hge
   clear hge
   by_cases hn : next = -1
   ·subst hn
    simp only [if_true]
    go_enter Try.func108, Try.ntmps108
    go_wp2_with (fail)
    go_quiet ((go_at_call 106; refine (octet_Get.calls k m at_ 2 p true _ HG.out).mono ?_; rintro e w' ⟨rfl, ⟨nd, rfl⟩⟩; (first | exact ⟨rfl, _, World.drewN_drewN _ _ _⟩ | exact ⟨rfl, _, Eq.trans (World.drewN_drewN _ _ _) (congrArg (World.drewN _) (Nat.add_assoc _ _ _))⟩)))
    go_wp2
    go_ret
    exact ⟨rfl, ((((HS.out.drewN _).set hB 3 _).set hB 1 _).set hB 2 _).of_eq rfl⟩
   ·have n1 : (next == -1) = false := beq_eq_false_iff_ne.2 hn
    simp only [if_neg hn]
    clear hn
    go_enter Try.func108, Try.ntmps108
    go_wp2_with (fail)
    go_quiet ((go_at_call 106; refine (octet_Get.calls k m at_ 2 p true _ HG.out).mono ?_; rintro e w' ⟨rfl, ⟨nd, rfl⟩⟩; (first | exact ⟨rfl, _, World.drewN_drewN _ _ _⟩ | exact ⟨rfl, _, Eq.trans (World.drewN_drewN _ _ _) (congrArg (World.drewN _) (Nat.add_assoc _ _ _))⟩)))
    go_wp2
    go_ret
    exact ⟨rfl, (((HS.out.drewN _).set hB 1 _).set hB 2 _).of_eq rfl⟩
structure RdS (B g : Nat) (m : ByteArray) (at_ least next : Int) (lab : ByteArray) (w : World) : Prop where
 hB : B ≤ g
 ex : ∃ q v, (q = .pointer none ∨ q = .pointer (some ⟨g, 4, none⟩)) ∧ w.heap[g]? = some (.cells #[.string m, .int .i64 at_, .int .i64 least, .int .i64 next, q, v] 147 (0, 0)) ∧ w.ownsRow B 5 1 v lab.size (Lib.strCells lab) ∧ v.ownBlock ≠ some g
theorem rd_lies : liesAt Try.prog Try.prog.depth 147 (6 / Try.prog.cellsOf 147) 4 86 1 = true := by kernel_rfl
theorem rd_bat {B g : Nat} {m : ByteArray} {at_ least next : Int} {q v : Value} {bs : List Value} {w : World} (hB : B ≤ g) (hq : q = .pointer none ∨ q = .pointer (some ⟨g, 4, none⟩))
  (hb : w.heap[g]? = some (.cells #[.string m, .int .i64 at_, .int .i64 least, .int .i64 next, q, v] 147 (0, 0))) (ho : w.ownsRow B 5 1 v bs.length bs) (hne : v.ownBlock ≠ some g) :
  BAt B g 4 #[.string m, .int .i64 at_, .int .i64 least, .int .i64 next, q, v] 147 v bs w where
 hB := hB
 blk := hb
 c0 := by rcases hq with rfl | rfl <;> simp
 c1 := rfl
 own := ho
 ne := hne
 lies := rd_lies
 Tne := by decide
theorem RdS.drewN {B g : Nat} {m : ByteArray} {at_ least next : Int} {lab : ByteArray} {w : World} (h : RdS B g m at_ least next lab w) (n : Nat) : RdS B g m at_ least next lab (w.drewN n) := ⟨h.hB, h.ex⟩
theorem RdS.left {B g : Nat} {m : ByteArray} {at2 least2 next2 : Int} {lab : ByteArray} {w w' : World} {q v : Value} (hB : B ≤ g) (hq : q = .pointer none ∨ q = .pointer (some ⟨g, 4, none⟩)) (ho : w.ownsRow B 5 1 v lab.size (Lib.strCells lab)) (hne : v.ownBlock ≠ some g)
  (h : RdLeft B g #[.string m, .int .i64 at2, .int .i64 least2, .int .i64 next2, q, v] w w') : RdS B g m at2 least2 next2 lab w' :=
 ⟨hB, q, v, hq, h.blk, ho.kept (row := some g) ⟨h.below.os, h.below.tape, h.below.output, h.below.size, fun k _ hk => h.oth k (fun e => hk (by rw [e]))⟩ (.inr hne), hne⟩
theorem strCells_append (a b : ByteArray) : Lib.strCells (a ++ b) = Lib.strCells a ++ Lib.strCells b := by simp [Lib.strCells]
set_option maxHeartbeats 4000000 in
set_option maxRecDepth 100000 in
theorem rd_label (B g : Nat) (m : ByteArray) (at_ least next size : Int) (l lab : ByteArray) (is : Bool) (w : World) (hT : octet_Take.f m at_ (wrap64 (1 + size)) = some (l, is)) (h : RdS B g m at_ least next lab w) (hl : lab.size ≤ 1000) (hs : l.size ≤ 1000) (hBw : B ≤ w.heap.size) :
  Calls Try.prog 109 #[.pointer (some ⟨g, 0, none⟩), .int .i64 size] w fun e w' =>
   e = .returned (.int .i64 (if is = true then (if (lab.size : Int) + (l.size : Int) ≥ 255 then 3 else 0) else 2)) ∧ Below B w w' ∧
   (if is = true ∧ ¬ (lab.size : Int) + (l.size : Int) ≥ 255 then RdS B g m (wrap64 (at_ + (l.size : Int))) least next (lab ++ l) w' else RdS B g m at_ least next lab w') := by
 obtain ⟨hB, q, v, hq, hb, ho, hne⟩ := h
 have c0 : w.cell? ⟨g, 0, none⟩ = some (.string m) := (Lib.cell_of_heap hb 0).trans rfl
 have c1 : w.cell? ⟨g, 1, none⟩ = some (.int .i64 at_) := (Lib.cell_of_heap hb 1).trans rfl
 have HT := Aside0.mk hT
 have HS : Aside0 (RdS B g m at_ least next lab w) := ⟨hB, q, v, hq, hb, ho, hne⟩
 have HA := Aside0.mk (rd_bat hB hq hb (bs := Lib.strCells lab) (by rw [Lib.strCells_length]; exact ho) hne)
 have HQ := Aside0.mk hq
 clear hT hb ho hne hq
 cases is with
 | false =>
  simp only [Bool.false_eq_true, if_false, false_and]
  go_enter Try.func109, Try.ntmps109
  go_wp2_with (fail)
  go_quiet ((go_at_call 98; refine (octet_Take.calls m at_ (wrap64 (1 + size)) l false _ HT.out).mono ?_; rintro e w' ⟨rfl, ⟨nd, rfl⟩⟩; (first | exact ⟨rfl, _, World.drewN_drewN _ _ _⟩ | exact ⟨rfl, _, Eq.trans (World.drewN_drewN _ _ _) (congrArg (World.drewN _) (Nat.add_assoc _ _ _))⟩)))
  go_wp2
  go_ret
  exact ⟨rfl, pw_below_drewN (Below.refl B w) _, HS.out.drewN _⟩
 | true =>
  by_cases hge : (lab.size : Int) + (l.size : Int) ≥ 255
  ·simp only [if_pos hge, if_true, true_and, hge, not_true, if_false]
   have d1 : decide (255 ≤ (lab.size : Int) + (l.size : Int)) = true := decide_eq_true hge
   have d2 : decide (255 ≤ wrap64 ((lab.size : Int) + (l.size : Int))) = true := decide_eq_true (by unfold wrap64; omega)
   clear hge
   go_enter Try.func109, Try.ntmps109
   go_wp2_with (fail)
   go_quiet ((go_at_call 98; refine (octet_Take.calls m at_ (wrap64 (1 + size)) l true _ HT.out).mono ?_; rintro e w' ⟨rfl, ⟨nd, rfl⟩⟩; (first | exact ⟨rfl, _, World.drewN_drewN _ _ _⟩ | exact ⟨rfl, _, Eq.trans (World.drewN_drewN _ _ _) (congrArg (World.drewN _) (Nat.add_assoc _ _ _))⟩)))
   go_wp2_with fail
   refine (bld_Len _ (HA.out.drewN _)).mono ?_
   rintro e w1 ⟨rfl, rfl⟩
   rw [Lib.strCells_length]
   go_wp2
   go_ret
   exact ⟨rfl, pw_below_drewN (Below.refl B w) _, HS.out.drewN _⟩
  ·have d1 : decide (255 ≤ (lab.size : Int) + (l.size : Int)) = false := decide_eq_false hge
   simp only [if_neg hge, if_true, true_and, hge, not_false_iff]
   have d2 : decide (255 ≤ wrap64 ((lab.size : Int) + (l.size : Int))) = false := decide_eq_false (by unfold wrap64; omega)
   clear hge
   go_enter Try.func109, Try.ntmps109
   go_wp2_with (fail)
   go_quiet ((go_at_call 98; refine (octet_Take.calls m at_ (wrap64 (1 + size)) l true _ HT.out).mono ?_; rintro e w' ⟨rfl, ⟨nd, rfl⟩⟩; (first | exact ⟨rfl, _, World.drewN_drewN _ _ _⟩ | exact ⟨rfl, _, Eq.trans (World.drewN_drewN _ _ _) (congrArg (World.drewN _) (Nat.add_assoc _ _ _))⟩)))
   go_wp2_with fail
   refine (bld_Len _ (HA.out.drewN _)).mono ?_
   rintro e w1 ⟨rfl, rfl⟩
   rw [Lib.strCells_length]
   go_wp2_with fail
   refine (bld_WriteString l _ (HA.out.drewN _) (by rw [Lib.strCells_length]; omega) hBw).mono ?_
   rintro e w2 ⟨rfl, v', HA2, hb2⟩
   have c1' : w2.cell? ⟨g, 1, none⟩ = some (.int .i64 at_) := (HA2.cellAt 1).trans rfl
   have f1' : w2.frozen? ⟨g, 1, none⟩ = false := Lib.frozen_of_heap HA2.blk 1
   have H2 := Aside0.mk HA2
   have B2 := Aside0.mk hb2
   clear HA2 hb2
   go_wp2
   go_ret
   have hne2 := H2.out.ne
   have hq2 : (#[Value.string m, .int .i64 at_, .int .i64 least, .int .i64 next, q, v].setIfInBounds 4 (.pointer (some ⟨g, 4, none⟩))).setIfInBounds (4 + 1) v' = #[.string m, .int .i64 at_, .int .i64 least, .int .i64 next, .pointer (some ⟨g, 4, none⟩), v'] := rfl
   refine ⟨rfl, ((pw_below_drewN (Below.refl B w) _).trans B2.out).setCell (p := ⟨g, 1, none⟩) hB _, ?_⟩
   refine ⟨hB, .pointer (some ⟨g, 4, none⟩), v', .inr rfl, ?_, ?_, hne2⟩
   ·have hb3 := H2.out.blk
    rw [hq2] at hb3
    simp [World.setCell, Array.getElem?_modify, hb3]
   ·have ho := H2.out.own
    rw [List.length_append, Lib.strCells_length, Lib.strCells_length] at ho
    have ho2 : w2.ownsRow B 5 1 v' (lab ++ l).size (Lib.strCells (lab ++ l)) := by
     rw [strCells_append, ByteArray.size_append]; exact ho
    exact ho2.kept (row := some g) ⟨rfl, rfl, rfl, by simp [World.setCell], fun k _ hk => Below.heap_setCell _ _ _ _ (fun e => hk (by simp [e]))⟩ (.inr hne2)
set_option maxRecDepth 100000 in
theorem rd_label0 (B g : Nat) (m : ByteArray) (at_ least next size : Int) (l lab : ByteArray) (w : World) (hT : octet_Take.f m at_ (wrap64 (1 + size)) = some (l, false)) (h : RdS B g m at_ least next lab w) :
  Calls Try.prog 109 #[.pointer (some ⟨g, 0, none⟩), .int .i64 size] w fun e w' => e = .returned (.int .i64 2) ∧ Below B w w' ∧ RdS B g m at_ least next lab w' := by
 obtain ⟨hB, q, v, hq, hb, ho, hne⟩ := h
 have c0 : w.cell? ⟨g, 0, none⟩ = some (.string m) := (Lib.cell_of_heap hb 0).trans rfl
 have c1 : w.cell? ⟨g, 1, none⟩ = some (.int .i64 at_) := (Lib.cell_of_heap hb 1).trans rfl
 have HT := Aside0.mk hT
 have HS : Aside0 (RdS B g m at_ least next lab w) := ⟨hB, q, v, hq, hb, ho, hne⟩
 clear hT hb ho hne hq
 go_enter Try.func109, Try.ntmps109
 go_wp2_with (fail)
 go_quiet ((go_at_call 98; refine (octet_Take.calls m at_ (wrap64 (1 + size)) l false _ HT.out).mono ?_; rintro e w' ⟨rfl, ⟨nd, rfl⟩⟩; (first | exact ⟨rfl, _, World.drewN_drewN _ _ _⟩ | exact ⟨rfl, _, Eq.trans (World.drewN_drewN _ _ _) (congrArg (World.drewN _) (Nat.add_assoc _ _ _))⟩)))
 go_wp2
 go_ret
 exact ⟨rfl, pw_below_drewN (Below.refl B w) _, HS.out.drewN _⟩
end Go.Proofs.Ytedjodnaalconaa.P
end
section
namespace Go.Proofs.Ytedjodnaalconaa.P
open Go.RowKit Go.Proofs.YtedjodnaalconaaW.PrintWords Go.Proofs.YtedjodnaalconaaW.PrintLast Go.Proofs.YtedjodnaalconaaW.PrintMore
attribute [local go_sem] max2_int min2_int max_two min_two max_three min_three max_four min_four
set_option linter.unusedVariables false
set_option linter.unusedSimpArgs false
set_option maxHeartbeats 4000000 in
set_option maxRecDepth 100000 in
theorem rd_end (B g : Nat) (m : ByteArray) (at_ least next : Int) (lab : ByteArray) (nx : Int) (hnx : (if next = -1 then wrap64 (at_ + 1) else next) = nx) (w : World) (h : RdS B g m at_ least next lab w) (hl : lab.size ≤ 1000) (hBw : B ≤ w.heap.size) :
  Calls Try.prog 107 #[.pointer (some ⟨g, 0, none⟩)] w fun e w' =>
   e = .returned (.tuple #[.string (lab ++ ⟨#[0]⟩), .int .i64 nx, .int .i64 0]) ∧ Below B w w' := by
 subst hnx
 obtain ⟨hB, q, v, hq, hb, ho, hne⟩ := h
 have c1 : w.cell? ⟨g, 1, none⟩ = some (.int .i64 at_) := (Lib.cell_of_heap hb 1).trans rfl
 have c3 : w.cell? ⟨g, 3, none⟩ = some (.int .i64 next) := (Lib.cell_of_heap hb 3).trans rfl
 have f3 : w.frozen? ⟨g, 3, none⟩ = false := Lib.frozen_of_heap hb 3
 have HA := Aside0.mk (rd_bat hB hq hb (bs := Lib.strCells lab) (by rw [Lib.strCells_length]; exact ho) hne)
 rw [Lib.strCells_eq] at HA
 have hz : (9223372036854775807 < lab.size + 1) = False := eq_false (by omega)
 have HI := Aside0.mk (And.intro hb (And.intro ho (And.intro hne hq)))
 clear hb ho hne hq
 by_cases hn : next = -1
 ·subst hn
  simp only [if_true]
  have hW : RdLeft B g #[.string m, .int .i64 at_, .int .i64 least, .int .i64 (wrap64 (at_ + 1)), q, v] w (w.setCell ⟨g, 3, none⟩ (.int .i64 (wrap64 (at_ + 1)))) := ((RdLeft.start HI.out.1).set hB 3 _).of_eq rfl
  have c3' : (w.setCell ⟨g, 3, none⟩ (.int .i64 (wrap64 (at_ + 1)))).drew.cell? ⟨g, 3, none⟩ = some (.int .i64 (wrap64 (at_ + 1))) := (Lib.cell_of_heap hW.blk 3).trans rfl
  have HW := Aside0.mk hW
  have HA2 := Aside0.mk ((rd_bat hB HI.out.2.2.2 hW.blk (bs := Lib.strCells lab) (by rw [Lib.strCells_length]; exact HI.out.2.1.kept (row := some g) ⟨hW.below.os, hW.below.tape, hW.below.output, hW.below.size, fun k _ hk => hW.oth k (fun e => hk (by rw [e]))⟩ (.inr HI.out.2.2.1)) HI.out.2.2.1).drewN 1)
  rw [Lib.strCells_eq] at HA2
  clear hW
  go_enter Try.func107, Try.ntmps107
  go_wp2_with (fail)
  go_region_held3 (fun w' => w'.cell? ⟨g, 3, none⟩ = some (.int .i64 (wrap64 (at_ + 1)))) (first | exact c3' | assumption) (first | (go_at_call 39; refine (bld_String lab.data.toList _ HA2.out (by simpa [World.setCell] using hBw)).mono ?_; rintro e w1 ⟨rfl, ha, hb1, hb2⟩; have ck : w1.cell? ⟨g, 3, none⟩ = some (.int .i64 (wrap64 (at_ + 1))) := (World.cell?_of_block (a := ⟨g, 3, none⟩) hb1).trans c3'; have HB2 := Aside0.mk hb2; clear ha hb1 hb2))
  go_wp2
  go_ret3
  exact ⟨rfl, HW.out.below.trans ((pw_below_drewN (Below.refl B _) 1).trans HB2.out)⟩
 ·have n1 : (next == -1) = false := beq_eq_false_iff_ne.2 hn
  simp only [if_neg hn]
  clear hn
  have HA2 := Aside0.mk (HA.out.drewN 1)
  go_enter Try.func107, Try.ntmps107
  go_wp2_with (fail)
  go_region_held3 (fun w' => w'.cell? ⟨g, 3, none⟩ = some (.int .i64 next)) (first | assumption) (first | (go_at_call 39; refine (bld_String lab.data.toList _ HA2.out hBw).mono ?_; rintro e w1 ⟨rfl, ha, hb1, hb2⟩; have ck : w1.cell? ⟨g, 3, none⟩ = some (.int .i64 next) := (World.cell?_of_block (a := ⟨g, 3, none⟩) hb1).trans c3; have HB2 := Aside0.mk hb2; clear ha hb1 hb2))
  go_wp2
  go_ret3
  exact ⟨rfl, (pw_below_drewN (Below.refl B w) 1).trans HB2.out⟩
end Go.Proofs.Ytedjodnaalconaa.P
end
section
namespace Go.Proofs.Ytedjodnaalconaa.P
open Go.RowKit Go.Proofs.YtedjodnaalconaaW.PrintWords Go.Proofs.YtedjodnaalconaaW.PrintLast Go.Proofs.YtedjodnaalconaaW.PrintMore
attribute [local go_sem] max2_int min2_int max_two min_two max_three min_three max_four min_four
set_option linter.unusedVariables false
set_option linter.unusedSimpArgs false
def comp_Read.l0 : Nat → ByteArray → Int → Int → Int → ByteArray → Option (ByteArray × Int × Int)
 | 0, _, _, _, _, _ => none
 | k + 1, m, at_, least, next, lab => (octet_Get.f k m at_ 1).bind fun b =>
   if b.2 = true then
    if b.1 = 0 then some (lab ++ ⟨#[0]⟩, (if next = -1 then wrap64 (at_ + 1) else next), 0)
    else if b.1 ≥ 192 then (octet_Get.f k m at_ 2).bind fun p =>
     if p.2 = true then (if wrap64 (p.1 - 49152) ≥ least then some (⟨#[]⟩, 0, 3) else comp_Read.l0 k m (wrap64 (p.1 - 49152)) (wrap64 (p.1 - 49152)) (if next = -1 then wrap64 (at_ + 2) else next) lab) else some (⟨#[]⟩, 0, 2)
    else if b.1 > 63 then some (⟨#[]⟩, 0, 3)
    else if b.1 < 0 then none
    else (octet_Take.f m at_ (wrap64 (1 + b.1))).bind fun t =>
     if t.2 = true then (if (lab.size : Int) + (t.1.size : Int) ≥ 255 then some (⟨#[]⟩, 0, 3) else comp_Read.l0 k m (wrap64 (at_ + (t.1.size : Int))) least next (lab ++ t.1)) else some (⟨#[]⟩, 0, 2)
   else some (⟨#[]⟩, 0, 2)
def comp_Read.f (k : Nat) (a0 : ByteArray) (a1 : Int) : Option (ByteArray × Int × Int) := comp_Read.l0 k a0 a1 a1 (-1) ⟨#[]⟩
theorem comp_Read.mono_l : ∀ k m at_ least next lab, LeO (comp_Read.l0 k m at_ least next lab) (comp_Read.l0 (k + 1) m at_ least next lab)
 | 0 => fun _ _ _ _ _ r h => by simp [comp_Read.l0] at h
 | k + 1 => by
  have ih := comp_Read.mono_l k
  intro m at_ least next lab
  unfold comp_Read.l0
  repeat' first
   | exact ih _ _ _ _ _
   | exact octet_Get.mono _ _ _ _
   | (with_reducible exact LeO.none _)
   | (with_reducible exact LeO.refl _)
   | refine LeO.ite ?_ ?_
   | refine LeO.bind ?_ (fun _ => ?_)
theorem comp_Read.mono : ∀ a0 a1 k, LeO (comp_Read.f k a0 a1) (comp_Read.f (k + 1) a0 a1) := fun a0 a1 k => comp_Read.mono_l k a0 a1 a1 (-1) ⟨#[]⟩
theorem octet_Take.size {m l : ByteArray} {at_ n : Int} (h : octet_Take.f m at_ n = some (l, true)) (hn : n ≤ 1000) : l.size ≤ 1000 := by
 unfold octet_Take.f at h
 split at h
 ·simp at h
 ·rename_i hc
  simp only [Option.some.injEq, Prod.mk.injEq, and_true] at h
  subst h
  simp only [ByteArray.size_extract]
  omega
set_option maxHeartbeats 4000000 in
set_option maxRecDepth 100000 in
theorem comp_Read.calls (k : Nat) (a0 : ByteArray) (a1 : Int) (r1 : ByteArray) (r2 : Int) (r3 : Int) (w : World) (h : comp_Read.f k a0 a1 = some (r1, r2, r3)) :
  Calls Try.prog 104 #[.string a0, .int .i64 a1] w fun e w' => e = .returned (.tuple #[.string r1, .int .i64 r2, .int .i64 r3]) ∧ Below w.heap.size w w' := by
 have hu := Try.underlying147
 have hu2 := Try.underlying86
 unfold comp_Read.f at h
 have H := Aside0.mk h
 clear h
 go_enter Try.func104, Try.ntmps104
 go_wp2
 go_step3
 go_wp2
 go_step3
 go_wp2
 go_loopg [8] k (fun kq v8 W => ∃ (e at_ least next : Int) (lab : ByteArray), v8 = .int .i64 e ∧ Aside0 ((e = 0 ∧ comp_Read.l0 kq a0 at_ least next lab = some (r1, r2, r3)) ∨ (e ≠ 0 ∧ r1 = ⟨#[]⟩ ∧ r2 = 0 ∧ r3 = e)) ∧ Aside0 (kq ≤ k) ∧ Aside0 (RdS w.heap.size w.heap.size a0 at_ least next lab W) ∧ Aside0 (lab.size ≤ 254) ∧ Aside0 (Below w.heap.size w W))
 case atStart =>
  refine ⟨0, a1, a1, -1, ⟨#[]⟩, rfl, ⟨.inl ⟨rfl, H.out⟩⟩, ⟨Nat.le_refl _⟩, ⟨⟨Nat.le_refl _, .pointer none, .slice none 0 0, .inl rfl, ?_, own_nil _ _ _ _, by simp [Value.ownBlock]⟩⟩, ⟨Nat.zero_le _⟩, ⟨below_alloc (Below.refl _ _) _⟩⟩
  exact heap_alloc_new w _
 case round =>
  clear H
  obtain ⟨e, at_, least, next, lab, rfl, HA, HK, HR, HL, HB⟩ := hrel
  rcases HA.out with ⟨rfl, hA⟩ | ⟨he, rfl, rfl, rfl⟩
  ·cases gk with
   | zero => exact absurd hA (by simp [comp_Read.l0])
   | succ k1 =>
    clear HA
    simp only [comp_Read.l0] at hA
    obtain ⟨⟨b1, is⟩, hG, hA⟩ := Option.bind_eq_some_iff.mp hA
    have HG := Aside0.mk hG
    clear hG
    obtain ⟨hB, q, v, hq, hb, ho, hne⟩ := HR.out
    have c0 : wr.cell? ⟨w.heap.size, 0, none⟩ = some (.string a0) := (Lib.cell_of_heap hb 0).trans rfl
    have c1 : wr.cell? ⟨w.heap.size, 1, none⟩ = some (.int .i64 at_) := (Lib.cell_of_heap hb 1).trans rfl
    have HQ := Aside0.mk (And.intro hq (And.intro hb (And.intro ho hne)))
    clear hq hb ho hne
    have hsz := HB.out.size
    cases is with
    | false =>
     simp only [Bool.false_eq_true, if_false, Option.some.injEq, Prod.mk.injEq] at hA
     obtain ⟨rfl, rfl, rfl⟩ := hA
     go_wp2_with (fail)
     go_quiet ((go_at_call 106; refine (octet_Get.calls k1 a0 at_ 1 b1 false _ HG.out).mono ?_; rintro e w' ⟨rfl, ⟨nd, rfl⟩⟩; (first | exact ⟨rfl, _, World.drewN_drewN _ _ _⟩ | exact ⟨rfl, _, Eq.trans (World.drewN_drewN _ _ _) (congrArg (World.drewN _) (Nat.add_assoc _ _ _))⟩)))
     go_wp2
     (try rw [Exit.noGoto_ret])
     go_ret3
     exact ⟨rfl, pw_below_drewN HB.out _⟩
    | true =>
     simp only [if_true] at hA
     by_cases h0 : b1 = 0
     ·rw [if_pos h0] at hA
      subst h0
      simp only [Option.some.injEq, Prod.mk.injEq] at hA
      obtain ⟨rfl, hnx, rfl⟩ := hA
      have HN := Aside0.mk hnx
      clear hnx
      go_wp2_with (fail)
      go_quiet ((go_at_call 106; refine (octet_Get.calls k1 a0 at_ 1 _ _ _ HG.out).mono ?_; rintro e w' ⟨rfl, ⟨nd, rfl⟩⟩; (first | exact ⟨rfl, _, World.drewN_drewN _ _ _⟩ | exact ⟨rfl, _, Eq.trans (World.drewN_drewN _ _ _) (congrArg (World.drewN _) (Nat.add_assoc _ _ _))⟩)))
      go_wp2_with fail
      refine (rd_end w.heap.size w.heap.size a0 at_ least next lab _ HN.out _ (HR.out.drewN _) (by have := HL.out; omega) hsz).mono ?_
      rintro e w2 ⟨rfl, hb2⟩
      have HB2 := Aside0.mk ((pw_below_drewN HB.out _).trans hb2)
      clear hb2
      go_wp2
      (try rw [Exit.noGoto_ret])
      go_ret3
      exact ⟨rfl, HB2.out⟩
     have n0 : (b1 == 0) = false := beq_eq_false_iff_ne.2 h0
     rw [if_neg h0] at hA
     by_cases h1 : b1 ≥ 192
     ·rw [if_pos h1] at hA
      have d1 : decide (192 ≤ b1) = true := decide_eq_true h1
      obtain ⟨⟨p, is2⟩, hP, hA⟩ := Option.bind_eq_some_iff.mp hA
      have HP := Aside0.mk hP
      have HA := Aside0.mk hA
      clear hP hA h0 h1
      go_wp2_with (fail)
      go_quiet ((go_at_call 106; refine (octet_Get.calls k1 a0 at_ 1 _ _ _ HG.out).mono ?_; rintro e w' ⟨rfl, ⟨nd, rfl⟩⟩; (first | exact ⟨rfl, _, World.drewN_drewN _ _ _⟩ | exact ⟨rfl, _, Eq.trans (World.drewN_drewN _ _ _) (congrArg (World.drewN _) (Nat.add_assoc _ _ _))⟩)))
      go_wp2_with fail
      refine (rd_follow k1 w.heap.size w.heap.size a0 at_ least next p q v is2 _ HP.out (Nat.le_refl _) (by exact HQ.out.2.1)).mono ?_
      rintro e w2 ⟨rfl, hl⟩
      have HL2 := Aside0.mk hl
      clear hl
      cases is2 with
      | false =>
       have hA2 := HA.out
       simp only [Bool.false_eq_true, if_false, Option.some.injEq, Prod.mk.injEq] at hA2 ⊢
       obtain ⟨rfl, rfl, rfl⟩ := hA2
       go_wp2
       go_roundg k1
       case measure => omega
       case rel => exact ⟨2, at_, least, next, lab, rfl, ⟨by first | exact .inr ⟨by decide, rfl, rfl, rfl⟩ | simp⟩, ⟨by have := HK.out; omega⟩, ⟨RdS.left (Nat.le_refl _) HQ.out.1 (by exact HQ.out.2.2.1) HQ.out.2.2.2 HL2.out⟩, HL, ⟨(pw_below_drewN HB.out _).trans HL2.out.below⟩⟩
      | true =>
       have hA2 := HA.out
       by_cases hge : wrap64 (p - 49152) ≥ least
       ·simp only [if_true, true_and, hge, not_true, if_false, Option.some.injEq, Prod.mk.injEq] at hA2 HL2 ⊢
        obtain ⟨rfl, rfl, rfl⟩ := hA2
        clear hge HA
        go_wp2
        go_roundg k1
        case measure => omega
        case rel => exact ⟨3, at_, least, next, lab, rfl, ⟨by first | exact .inr ⟨by decide, rfl, rfl, rfl⟩ | simp⟩, ⟨by have := HK.out; omega⟩, ⟨RdS.left (Nat.le_refl _) HQ.out.1 (by exact HQ.out.2.2.1) HQ.out.2.2.2 HL2.out⟩, HL, ⟨(pw_below_drewN HB.out _).trans HL2.out.below⟩⟩
       ·simp only [if_true, true_and, hge, not_false_iff, if_false] at hA2 HL2 ⊢
        have HA3 := Aside0.mk hA2
        clear hge HA hA2
        go_wp2
        go_roundg k1
        case measure => omega
        case rel => exact ⟨0, _, _, _, lab, rfl, ⟨.inl ⟨rfl, HA3.out⟩⟩, ⟨by have := HK.out; omega⟩, ⟨RdS.left (Nat.le_refl _) HQ.out.1 (by exact HQ.out.2.2.1) HQ.out.2.2.2 HL2.out⟩, HL, ⟨(pw_below_drewN HB.out _).trans HL2.out.below⟩⟩
     rw [if_neg h1] at hA
     have d1 : decide (192 ≤ b1) = false := decide_eq_false h1
     by_cases h2 : b1 > 63
     ·rw [if_pos h2] at hA
      have d2 : decide (63 < b1) = true := decide_eq_true h2
      simp only [Option.some.injEq, Prod.mk.injEq] at hA
      obtain ⟨rfl, rfl, rfl⟩ := hA
      clear h0 h1 h2
      go_wp2_with (fail)
      go_quiet ((go_at_call 106; refine (octet_Get.calls k1 a0 at_ 1 _ _ _ HG.out).mono ?_; rintro e w' ⟨rfl, ⟨nd, rfl⟩⟩; (first | exact ⟨rfl, _, World.drewN_drewN _ _ _⟩ | exact ⟨rfl, _, Eq.trans (World.drewN_drewN _ _ _) (congrArg (World.drewN _) (Nat.add_assoc _ _ _))⟩)))
      go_wp2
      go_roundg k1
      case measure => omega
      case rel => exact ⟨3, at_, least, next, lab, rfl, ⟨by first | exact .inr ⟨by decide, rfl, rfl, rfl⟩ | simp⟩, ⟨by have := HK.out; omega⟩, ⟨HR.out.drewN _⟩, HL, ⟨pw_below_drewN HB.out _⟩⟩
     rw [if_neg h2] at hA
     have d2 : decide (63 < b1) = false := decide_eq_false h2
     by_cases h3 : b1 < 0
     ·rw [if_pos h3] at hA
      exact absurd hA (by simp)
     rw [if_neg h3] at hA
     obtain ⟨⟨l, is2⟩, hT, hA⟩ := Option.bind_eq_some_iff.mp hA
     have HT := Aside0.mk hT
     have HA := Aside0.mk hA
     have hlz : is2 = true → l.size ≤ 1000 := fun e => octet_Take.size (e ▸ hT) (by unfold wrap64; omega)
     have HLZ := Aside0.mk hlz
     clear hA hT h0 h1 h2 h3 hlz
     go_wp2_with (fail)
     go_quiet ((go_at_call 106; refine (octet_Get.calls k1 a0 at_ 1 _ _ _ HG.out).mono ?_; rintro e w' ⟨rfl, ⟨nd, rfl⟩⟩; (first | exact ⟨rfl, _, World.drewN_drewN _ _ _⟩ | exact ⟨rfl, _, Eq.trans (World.drewN_drewN _ _ _) (congrArg (World.drewN _) (Nat.add_assoc _ _ _))⟩)))
     go_wp2_with fail
     cases is2 with
     | false =>
      refine (rd_label0 w.heap.size w.heap.size a0 at_ least next b1 l lab _ HT.out (HR.out.drewN _)).mono ?_
      rintro e w2 ⟨rfl, hb2, hr2⟩
      have HB2 := Aside0.mk ((pw_below_drewN HB.out _).trans hb2)
      have HR2 := Aside0.mk hr2
      clear hb2 hr2
      have hA2 := HA.out
      simp only [Bool.false_eq_true, if_false, Option.some.injEq, Prod.mk.injEq] at hA2
      obtain ⟨rfl, rfl, rfl⟩ := hA2
      go_wp2
      go_roundg k1
      case measure => omega
      case rel => exact ⟨2, at_, least, next, lab, rfl, ⟨by first | exact .inr ⟨by decide, rfl, rfl, rfl⟩ | simp⟩, ⟨by have := HK.out; omega⟩, HR2, HL, HB2⟩
     | true =>
      refine (rd_label w.heap.size w.heap.size a0 at_ least next b1 l lab true _ HT.out (HR.out.drewN _) (by have := HL.out; omega) (HLZ.out rfl) hsz).mono ?_
      rintro e w2 ⟨rfl, hb2, hr2⟩
      have HB2 := Aside0.mk ((pw_below_drewN HB.out _).trans hb2)
      have HR2 := Aside0.mk hr2
      clear hb2 hr2
      have hA2 := HA.out
      by_cases hge : (lab.size : Int) + (l.size : Int) ≥ 255
      ·simp only [if_true, true_and, hge, not_true, if_false, Option.some.injEq, Prod.mk.injEq] at hA2 HR2 ⊢
       obtain ⟨rfl, rfl, rfl⟩ := hA2
       clear hge HA
       go_wp2
       go_roundg k1
       case measure => omega
       case rel => exact ⟨3, at_, least, next, lab, rfl, ⟨by first | exact .inr ⟨by decide, rfl, rfl, rfl⟩ | simp⟩, ⟨by have := HK.out; omega⟩, HR2, HL, HB2⟩
      ·simp only [if_true, true_and, hge, not_false_iff, if_false] at hA2 HR2 ⊢
       have HA3 := Aside0.mk hA2
       have HL3 := Aside0.mk (show (lab ++ l).size ≤ 254 by rw [ByteArray.size_append]; omega)
       clear hge HA hA2
       go_wp2
       go_roundg k1
       case measure => omega
       case rel => exact ⟨0, _, _, _, lab ++ l, rfl, ⟨by first | exact .inl ⟨rfl, HA3.out⟩ | (simp; exact HA3.out)⟩, ⟨by have := HK.out; omega⟩, HR2, HL3, HB2⟩
  ·have hb : (r3 == 0) = false := beq_eq_false_iff_ne.2 he
   clear HA he
   go_wp2
   (try rw [Exit.noGoto_ret])
   go_ret3
   exact ⟨rfl, HB.out⟩
end Go.Proofs.Ytedjodnaalconaa.P
end
