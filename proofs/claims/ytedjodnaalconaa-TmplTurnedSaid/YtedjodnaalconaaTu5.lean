/- Part 5 of 5 of the proof that 'YtedjodnaalconaaLawTmplTurned' holds: functions of plain values for the Go functions that the law reaches, what each call comes to, and the plain law; of the words that the kit's print wrote, what these use. Written together by a program of this session; no condition of its own. -/
import Derived.Test.YtedjodnaalconaaTu4
import Derived.Test.YtedjodnaalconaaRows
import Derived.ProofKit
import Derived.ShutString
import Derived.ChangeOld
import Derived.SizedLaws
section
namespace Go.Proofs.Ytedjodnaalconaa.P
open Go.RowKit Go.Proofs.YtedjodnaalconaaW.PrintWords Go.Proofs.YtedjodnaalconaaW.PrintLast Go.Proofs.YtedjodnaalconaaW.PrintMore
attribute [local go_sem] max2_int min2_int max_two min_two max_three min_three max_four min_four
set_option linter.unusedVariables false
set_option linter.unusedSimpArgs false
def wellspringlaw18_live.f : Option Bool := some true
section
variable {P : Program} {ops : Array Oper} {Q : Exit → Act → World → Prop} {md : Region.Mode} {S : World → Prop}
theorem anyH_one (i : Nat) {o : Oper} {n : Nat} {listed : Array Bool} {a : Act} {w : World} (hr : Region.ready md ops listed = [i]) (ho : ops[i]? = some o) (hw : Region.wanted o (yielded ops a.tmps) = true)
  (h : ∀ K : Act → World → Prop, Aside0 (∀ a w, S w → wpAnyH P md ops Q S n (listed.setIfInBounds i true) a w → K a w) → Oper.wp P o a w K Q) : wpAnyH P md ops Q S (n + 1) listed a w :=
 wpAnyH_all hr (by simp) (fun j hj => by
  obtain rfl : j = i := by simpa using hj
  refine wpOp_step ho (fun K hK => ?_)
  rw [if_pos hw]
  exact h K (Aside0.mk (fun a w h1 h2 => hK a w (And.intro h1 h2))))
theorem anyH_two (i j : Nat) {oi oj : Oper} {n : Nat} {listed : Array Bool} {a : Act} {w : World} (hr : Region.ready md ops listed = [i, j]) (hi : ops[i]? = some oi) (hj : ops[j]? = some oj) (hwi : Region.wanted oi (yielded ops a.tmps) = true) (hwj : Region.wanted oj (yielded ops a.tmps) = true)
  (h1 : ∀ K : Act → World → Prop, Aside0 (∀ a w, S w → wpAnyH P md ops Q S n (listed.setIfInBounds i true) a w → K a w) → Oper.wp P oi a w K Q)
  (h2 : ∀ K : Act → World → Prop, Aside0 (∀ a w, S w → wpAnyH P md ops Q S n (listed.setIfInBounds j true) a w → K a w) → Oper.wp P oj a w K Q) : wpAnyH P md ops Q S (n + 1) listed a w :=
 wpAnyH_all hr (by simp) (fun k hk => by
  have hk' : k = i ∨ k = j := by simpa using hk
  rcases hk' with rfl | rfl
  ·refine wpOp_step hi (fun K hK => ?_)
   rw [if_pos hwi]
   exact h1 K (Aside0.mk (fun a w h1 h2 => hK a w (And.intro h1 h2)))
  ·refine wpOp_step hj (fun K hK => ?_)
   rw [if_pos hwj]
   exact h2 K (Aside0.mk (fun a w h1 h2 => hK a w (And.intro h1 h2))))
theorem region_H {id : Nat} {a : Act} {w : World} (S : World → Prop) (hm : P.follows .mixedOrders = true) (h : wpAnyH P .any ops Q S ops.size (Array.replicate ops.size false) a w.drew) : (Code.region id ops true).wp P Q a w :=
 wp_region_held hm h
end
theorem row_lit {α : Type} {d : Kd α} {e base : Nat} {W : World} {xs : List α} {inner : List Value} (hrep : Reps (d.M W base (fun _ => True)) d.sz xs inner) (hbase : base ≤ W.heap.size) (hm : xs.length ≤ 9223372036854775807) :
  d.R e (W.alloc (.cells inner.toArray e)) base (fun _ => True) (.slice (some ⟨W.heap.size, 0, none⟩) xs.length xs.length) xs := by
 refine ⟨fun _ _ => trivial, inner, ?_, ?_⟩
 ·have h2 := World.ownsRow_lit (base := base) (e := e) (size := d.sz) W inner.toArray xs.length hbase (by simpa [maxLen] using hm) (by simpa using hrep.1)
  simpa using h2
 ·refine hrep.imp_ (fun p c hp => d.M_mono (fun k hk => ⟨trivial, fun he => ?_⟩) (Kd.M_below (d.M_bound hp) (below_alloc (Below.refl _ _) _)))
  have h3 : k = W.heap.size := by simpa [Value.ownBlock] using he
  have := hk.2.2.1
  omega
section
def lvN : ByteArray := ⟨#[1, 97, 0]⟩
def lvT : ByteArray := ⟨#[192, 12, 0, 1, 0, 1, 0, 0, 0, 5, 0, 4, 49, 49, 49, 49, 192, 12, 0, 1, 0, 1, 0, 0, 0, 5, 0, 4, 50, 50, 50, 50]⟩
def lvP : List S69 := [⟨[⟨0, 16, 6⟩, ⟨16, 32, 22⟩], 15, false⟩]
theorem lv0 : wellspringlaw17_Chain.f 20 [⟨⟨⟨⟨#[1, 97, 0]⟩, 1, 1⟩, [⟨#[49, 49, 49, 49]⟩, ⟨#[50, 50, 50, 50]⟩], 9⟩, 5⟩] 0 ⟨#[]⟩ ⟨#[]⟩ 0 0 [] 0 0 = some ([⟨⟨⟨⟨#[1, 97, 0]⟩, 1, 1⟩, [⟨#[49, 49, 49, 49]⟩, ⟨#[50, 50, 50, 50]⟩], 9⟩, 5⟩], 0, ⟨#[]⟩, ⟨#[]⟩, 0, 0, [], 0, 0) := by kernel_rfl
theorem lv0b : wellspringlaw17_Chain.f 20 [] 3 ⟨#[]⟩ ⟨#[]⟩ 0 0 [] 0 0 = some ([], 3, ⟨#[]⟩, ⟨#[]⟩, 0, 0, [], 0, 0) := by kernel_rfl
theorem lv1 : tmpl_Make.f 20 10 ⟨#[1, 97, 0]⟩ 1 1 [⟨⟨⟨⟨#[1, 97, 0]⟩, 1, 1⟩, [⟨#[49, 49, 49, 49]⟩, ⟨#[50, 50, 50, 50]⟩], 9⟩, 5⟩] 0 ⟨#[]⟩ ⟨#[]⟩ 0 0 [] 0 0 = some (lvN, 1, 1, 0, lvT, lvP, true) := by kernel_rfl
theorem lv2 : tmpl_Make.f 20 10 ⟨#[1, 97, 0]⟩ 1 1 [] 3 ⟨#[]⟩ ⟨#[]⟩ 0 0 [] 0 0 = some (⟨#[]⟩, 0, 0, 0, ⟨#[]⟩, [], false) := by kernel_rfl
theorem lv3 : tmpl_Template_Check.f 20 lvN 1 1 0 lvT lvP = some true := by kernel_rfl
theorem lv4 : tmpl_Template_Live.f 20 lvN 1 1 0 lvT lvP 14 = some true := by kernel_rfl
theorem lv5 : tmpl_Template_Live.f 20 lvN 1 1 0 lvT lvP 15 = some false := by kernel_rfl
theorem lv6 : tmpl_Template_Part.f 20 lvN 1 1 0 lvT lvP 0 12 1 = some ⟨#[192, 12, 0, 1, 0, 1, 0, 0, 0, 3, 0, 4, 50, 50, 50, 50, 192, 12, 0, 1, 0, 1, 0, 0, 0, 3, 0, 4, 49, 49, 49, 49]⟩ := by kernel_rfl
theorem lv7 : tmpl_Template_Part.f 20 lvN 1 1 0 lvT lvP 1 12 0 = some ⟨#[]⟩ := by kernel_rfl
theorem lv8 : tmpl_Template_Part.f 20 lvN 1 1 0 lvT lvP 0 15 0 = some ⟨#[]⟩ := by kernel_rfl
theorem lv9 : tmpl_Template_Check.f 20 ⟨#[]⟩ 0 0 0 ⟨#[]⟩ [⟨[], 0, false⟩] = some false := by kernel_rfl
set_option maxHeartbeats 8000000 in
set_option maxRecDepth 100000 in
theorem wellspringlaw18_live.calls (r : Bool) (w : World) (h : wellspringlaw18_live.f = some r) :
  Calls Try.prog 10 #[] w fun e w' => e = .returned (.bool r) ∧ Below w.heap.size w w' := by
 obtain rfl : r = true := (Option.some.inj h).symm
 clear h
 have hu1 := Try.underlying23
 have hu2 := Try.underlying27
 have hu3 := Try.underlying29
 have hu4 := Try.underlying31
 have hu5 := Try.underlying36
 have hu6 := Try.underlying69
 go_enter Try.func10, Try.ntmps10
 go_wp2_with fail
 have HS : Aside0 (Kd.string.R 9 ((w.alloc (.cells #[.string ⟨#[1, 97, 0]⟩, .int .i64 1, .int .i64 1] 23)).alloc (.cells #[.string ⟨#[49, 49, 49, 49]⟩, .string ⟨#[50, 50, 50, 50]⟩] 9)) w.heap.size (fun _ => True) (.slice (some ⟨w.heap.size + 1, 0, none⟩) 2 2) [⟨#[49, 49, 49, 49]⟩, ⟨#[50, 50, 50, 50]⟩]) := ⟨by
  have h := row_lit (d := Kd.string) (e := 9) (base := w.heap.size) (W := (w.alloc (.cells #[.string ⟨#[1, 97, 0]⟩, .int .i64 1, .int .i64 1] 23))) (xs := [⟨#[49, 49, 49, 49]⟩, ⟨#[50, 50, 50, 50]⟩]) (inner := [.string ⟨#[49, 49, 49, 49]⟩, .string ⟨#[50, 50, 50, 50]⟩]) (Reps.one rfl (Reps.one rfl (Reps.none _ _))) (by rw [World.size_alloc]; omega) (by decide)
  rw [World.size_alloc] at h
  exact h⟩
 have HH : Aside0 (k29.R 29 (((w.alloc (.cells #[.string ⟨#[1, 97, 0]⟩, .int .i64 1, .int .i64 1] 23)).alloc (.cells #[.string ⟨#[49, 49, 49, 49]⟩, .string ⟨#[50, 50, 50, 50]⟩] 9)).alloc (.cells #[.string ⟨#[1, 97, 0]⟩, .int .i64 1, .int .i64 1, .slice (some ⟨w.heap.size + 1, 0, none⟩) 2 2, .int .i64 9, .int .i64 5] 29)) w.heap.size (fun _ => True) (.slice (some ⟨w.heap.size + 1 + 1, 0, none⟩) 1 1) [(⟨⟨⟨⟨#[1, 97, 0]⟩, 1, 1⟩, [⟨#[49, 49, 49, 49]⟩, ⟨#[50, 50, 50, 50]⟩], 9⟩, 5⟩ : S29)]) := ⟨by
  have h := row_lit (d := k29) (e := 29) (base := w.heap.size) (W := ((w.alloc (.cells #[.string ⟨#[1, 97, 0]⟩, .int .i64 1, .int .i64 1] 23)).alloc (.cells #[.string ⟨#[49, 49, 49, 49]⟩, .string ⟨#[50, 50, 50, 50]⟩] 9))) (xs := [(⟨⟨⟨⟨#[1, 97, 0]⟩, 1, 1⟩, [⟨#[49, 49, 49, 49]⟩, ⟨#[50, 50, 50, 50]⟩], 9⟩, 5⟩ : S29)]) (inner := [.string ⟨#[1, 97, 0]⟩, .int .i64 1, .int .i64 1, .slice (some ⟨w.heap.size + 1, 0, none⟩) 2 2, .int .i64 9, .int .i64 5]) (Reps.c6 (k29_mkM _ _ _ _ HS.out) (Reps.none _ _)) (by rw [World.size_alloc, World.size_alloc]; omega) (by decide)
  rw [World.size_alloc, World.size_alloc] at h
  exact h⟩
 have HR := Aside0.mk (Kd.R_V (base' := ((((w.alloc (.cells #[.string ⟨#[1, 97, 0]⟩, .int .i64 1, .int .i64 1] 23)).alloc (.cells #[.string ⟨#[49, 49, 49, 49]⟩, .string ⟨#[50, 50, 50, 50]⟩] 9)).alloc (.cells #[.string ⟨#[1, 97, 0]⟩, .int .i64 1, .int .i64 1, .slice (some ⟨w.heap.size + 1, 0, none⟩) 2 2, .int .i64 9, .int .i64 5] 29)).alloc (.cells #[.slice (some ⟨w.heap.size + 1 + 1, 0, none⟩) 1 1, .int .i64 0, .string ⟨#[]⟩, .string ⟨#[]⟩, .int .i64 0, .int .i64 0, .slice none 0 0, .int .i64 0, .int .i64 0] 31)).heap.size) (Kd.R_alloc HH.out (.cells #[.slice (some ⟨w.heap.size + 1 + 1, 0, none⟩) 1 1, .int .i64 0, .string ⟨#[]⟩, .string ⟨#[]⟩, .int .i64 0, .int .i64 0, .slice none 0 0, .int .i64 0, .int .i64 0] 31)))
 have HQ : Aside0 (((((w.alloc (.cells #[.string ⟨#[1, 97, 0]⟩, .int .i64 1, .int .i64 1] 23)).alloc (.cells #[.string ⟨#[49, 49, 49, 49]⟩, .string ⟨#[50, 50, 50, 50]⟩] 9)).alloc (.cells #[.string ⟨#[1, 97, 0]⟩, .int .i64 1, .int .i64 1, .slice (some ⟨w.heap.size + 1, 0, none⟩) 2 2, .int .i64 9, .int .i64 5] 29)).alloc (.cells #[.slice (some ⟨w.heap.size + 1 + 1, 0, none⟩) 1 1, .int .i64 0, .string ⟨#[]⟩, .string ⟨#[]⟩, .int .i64 0, .int .i64 0, .slice none 0 0, .int .i64 0, .int .i64 0] 31)).heap[w.heap.size]? = some (.cells #[.string ⟨#[1, 97, 0]⟩, .int .i64 1, .int .i64 1] 23 (0, 0))) := ⟨blk_alloc (blk_alloc (blk_alloc (heap_alloc_new _ _) _) _) _⟩
 have HC : Aside0 (((((w.alloc (.cells #[.string ⟨#[1, 97, 0]⟩, .int .i64 1, .int .i64 1] 23)).alloc (.cells #[.string ⟨#[49, 49, 49, 49]⟩, .string ⟨#[50, 50, 50, 50]⟩] 9)).alloc (.cells #[.string ⟨#[1, 97, 0]⟩, .int .i64 1, .int .i64 1, .slice (some ⟨w.heap.size + 1, 0, none⟩) 2 2, .int .i64 9, .int .i64 5] 29)).alloc (.cells #[.slice (some ⟨w.heap.size + 1 + 1, 0, none⟩) 1 1, .int .i64 0, .string ⟨#[]⟩, .string ⟨#[]⟩, .int .i64 0, .int .i64 0, .slice none 0 0, .int .i64 0, .int .i64 0] 31)).heap[w.heap.size + 1 + 1 + 1]? = some (.cells #[.slice (some ⟨w.heap.size + 1 + 1, 0, none⟩) 1 1, .int .i64 0, .string ⟨#[]⟩, .string ⟨#[]⟩, .int .i64 0, .int .i64 0, .slice none 0 0, .int .i64 0, .int .i64 0] 31 (0, 0))) := ⟨by
  have h := heap_alloc_new (((w.alloc (.cells #[.string ⟨#[1, 97, 0]⟩, .int .i64 1, .int .i64 1] 23)).alloc (.cells #[.string ⟨#[49, 49, 49, 49]⟩, .string ⟨#[50, 50, 50, 50]⟩] 9)).alloc (.cells #[.string ⟨#[1, 97, 0]⟩, .int .i64 1, .int .i64 1, .slice (some ⟨w.heap.size + 1, 0, none⟩) 2 2, .int .i64 9, .int .i64 5] 29)) (.cells #[.slice (some ⟨w.heap.size + 1 + 1, 0, none⟩) 1 1, .int .i64 0, .string ⟨#[]⟩, .string ⟨#[]⟩, .int .i64 0, .int .i64 0, .slice none 0 0, .int .i64 0, .int .i64 0] 31)
  rw [World.size_alloc, World.size_alloc, World.size_alloc] at h
  exact h⟩
 have HW := Aside0.mk (below_alloc (below_alloc (below_alloc (below_alloc (Below.refl w.heap.size w) (.cells #[.string ⟨#[1, 97, 0]⟩, .int .i64 1, .int .i64 1] 23)) (.cells #[.string ⟨#[49, 49, 49, 49]⟩, .string ⟨#[50, 50, 50, 50]⟩] 9)) (.cells #[.string ⟨#[1, 97, 0]⟩, .int .i64 1, .int .i64 1, .slice (some ⟨w.heap.size + 1, 0, none⟩) 2 2, .int .i64 9, .int .i64 5] 29)) (.cells #[.slice (some ⟨w.heap.size + 1 + 1, 0, none⟩) 1 1, .int .i64 0, .string ⟨#[]⟩, .string ⟨#[]⟩, .int .i64 0, .int .i64 0, .slice none 0 0, .int .i64 0, .int .i64 0] 31))
 clear HS HH
 generalize ((((w.alloc (.cells #[.string ⟨#[1, 97, 0]⟩, .int .i64 1, .int .i64 1] 23)).alloc (.cells #[.string ⟨#[49, 49, 49, 49]⟩, .string ⟨#[50, 50, 50, 50]⟩] 9)).alloc (.cells #[.string ⟨#[1, 97, 0]⟩, .int .i64 1, .int .i64 1, .slice (some ⟨w.heap.size + 1, 0, none⟩) 2 2, .int .i64 9, .int .i64 5] 29)).alloc (.cells #[.slice (some ⟨w.heap.size + 1 + 1, 0, none⟩) 1 1, .int .i64 0, .string ⟨#[]⟩, .string ⟨#[]⟩, .int .i64 0, .int .i64 0, .slice none 0 0, .int .i64 0, .int .i64 0] 31)) = W1 at HR HQ HC HW ⊢
 go_cut [3, 4] (fun v3 v4 wc => ∃ (g : Nat) (v5 : Value), v3 = .pointer (some ⟨g, 0, none⟩) ∧ v4 = .bool true ∧ Aside0 (wc.heap[w.heap.size]? = some (.cells #[.string ⟨#[1, 97, 0]⟩, .int .i64 1, .int .i64 1] 23 (0, 0))) ∧ Aside0 (wc.heap[g]? = some (.cells #[.string lvN, .int .i64 1, .int .i64 1, .int .i64 0, .string lvT, v5] 36 (0, 0))) ∧ Aside0 (∃ A c, v5 = .slice A lvP.length c ∧ lvP.length ≤ c ∧ k69.C wc A lvP.length lvP) ∧ Aside0 (Below w.heap.size w wc))
 case first =>
  refine region_H (fun w' : World => w'.heap[w.heap.size]? = some (.cells #[.string ⟨#[1, 97, 0]⟩, .int .i64 1, .int .i64 1] 23 (0, 0)) ∧ w'.heap[w.heap.size + 1 + 1 + 1]? = some (.cells #[.slice (some ⟨w.heap.size + 1 + 1, 0, none⟩) 1 1, .int .i64 0, .string ⟨#[]⟩, .string ⟨#[]⟩, .int .i64 0, .int .i64 0, .slice none 0 0, .int .i64 0, .int .i64 0] 31 (0, 0))) (by kernel_rfl) ?_
  have HQ0 := Aside0.mk (blk_drew HQ.out)
  have HC0 := Aside0.mk (blk_drew HC.out)
  have HW0 := Aside0.mk (below_drew1 HW.out)
  have HR0 := Aside0.mk (Kd.V_drew HR.out)
  clear HQ HC HW HR
  generalize W1.drew = W2 at HQ0 HC0 HW0 HR0 ⊢
  have hS : (fun w' : World => w'.heap[w.heap.size]? = some (.cells #[.string ⟨#[1, 97, 0]⟩, .int .i64 1, .int .i64 1] 23 (0, 0)) ∧ w'.heap[w.heap.size + 1 + 1 + 1]? = some (.cells #[.slice (some ⟨w.heap.size + 1 + 1, 0, none⟩) 1 1, .int .i64 0, .string ⟨#[]⟩, .string ⟨#[]⟩, .int .i64 0, .int .i64 0, .slice none 0 0, .int .i64 0, .int .i64 0] 31 (0, 0))) W2 := ⟨HQ0.out, HC0.out⟩
  refine wpAnyH_take (i := 0) (v := ?vp0) rfl (by kernel_rfl) (by kernel_rfl) (by kernel_rfl) (fun _ _ _ h => h) (Or.inl ⟨by rfl, ?yp0⟩) hS ?_
  case yp0 => (intro w' hSw; obtain ⟨s1, s2⟩ := hSw; have z0 := (blk_cell s1 0).trans rfl; have z1 := (blk_cell s1 1).trans rfl; have z2 := (blk_cell s1 2).trans rfl; go_simp; (first | done | with_reducible rfl))
  (try simp only [Act.put, List.setIfInBounds_toArray, List.set_cons_zero, List.set_cons_succ])
  refine wpAnyH_take (i := 1) (v := ?vp1) rfl (by kernel_rfl) (by kernel_rfl) (by kernel_rfl) (fun _ _ _ h => h) (Or.inl ⟨by rfl, ?yp1⟩) hS ?_
  case yp1 => (intro w' hSw; obtain ⟨s1, s2⟩ := hSw; have z0 := (blk_cell s2 0).trans rfl; have z1 := (blk_cell s2 1).trans rfl; have z2 := (blk_cell s2 2).trans rfl; have z3 := (blk_cell s2 3).trans rfl; have z4 := (blk_cell s2 4).trans rfl; have z5 := (blk_cell s2 5).trans rfl; have z6 := (blk_cell s2 6).trans rfl; have z7 := (blk_cell s2 7).trans rfl; have z8 := (blk_cell s2 8).trans rfl; go_simp; (first | done | with_reducible rfl))
  (try simp only [Act.put, List.setIfInBounds_toArray, List.set_cons_zero, List.set_cons_succ])
  refine anyH_two 2 7 (by kernel_rfl) rfl rfl (by rfl) (by rfl) (fun K hK => ?oA) (fun K hK => ?oB)
  case oA =>
   go_simp
   go_at_call 12
   refine (wellspringlaw17_Chain.calls 20 (fun _ => True) _ _ [(⟨⟨⟨⟨#[1, 97, 0]⟩, 1, 1⟩, [⟨#[49, 49, 49, 49]⟩, ⟨#[50, 50, 50, 50]⟩], 9⟩, 5⟩ : S29)] 0 ⟨#[]⟩ ⟨#[]⟩ 0 0 (fun _ => True) _ _ [] 0 0 _ _ _ _ _ _ _ _ _ _ HR0.out (Kd.V_nil _ _ _ _ _) lv0).mono ?_
   rintro _ W3 ⟨v0, v6, rfl, ho0, ho1, hb⟩
   obtain ⟨A0, c0, rfl⟩ := Kd.N_slice ho0
   obtain ⟨A6, c6, rfl⟩ := Kd.V_slice ho1
   have HC3 := Aside0.mk (Kd.N_reads' ho0).2
   have HD3 := Aside0.mk (Kd.V_reads' ho1).2
   have HQx := Aside0.mk (blk_below HQ0.out hb)
   have HCx := Aside0.mk (blk_below HC0.out hb)
   have HWx := Aside0.mk (below_then HW0.out HW0.out.size hb)
   clear hb ho0 ho1
   refine hK.out _ _ ⟨HQx.out, HCx.out⟩ ?_
   clear hK K hS
   (try simp only [Act.put, List.setIfInBounds_toArray, List.set_cons_zero, List.set_cons_succ])
   have hS : (fun w' : World => w'.heap[w.heap.size]? = some (.cells #[.string ⟨#[1, 97, 0]⟩, .int .i64 1, .int .i64 1] 23 (0, 0)) ∧ w'.heap[w.heap.size + 1 + 1 + 1]? = some (.cells #[.slice (some ⟨w.heap.size + 1 + 1, 0, none⟩) 1 1, .int .i64 0, .string ⟨#[]⟩, .string ⟨#[]⟩, .int .i64 0, .int .i64 0, .slice none 0 0, .int .i64 0, .int .i64 0] 31 (0, 0))) W3 := ⟨HQx.out, HCx.out⟩
   refine anyH_two 3 7 (by kernel_rfl) rfl rfl (by rfl) (by rfl) (fun K hK => ?oAA) (fun K hK => ?oAB)
   case oAA =>
    go_simp
    go_at_call 11
    refine (tmpl_Make.calls 20 10 ⟨#[1, 97, 0]⟩ 1 1 _ _ [⟨⟨⟨⟨#[1, 97, 0]⟩, 1, 1⟩, [⟨#[49, 49, 49, 49]⟩, ⟨#[50, 50, 50, 50]⟩], 9⟩, 5⟩] 0 ⟨#[]⟩ ⟨#[]⟩ 0 0 _ _ [] 0 0 _ _ _ _ _ _ _ _ HC3.out.2 HC3.out.1 HD3.out.2 HD3.out.1 lv1).mono ?_
    rintro _ W5 ⟨v5, rfl, ho5, hb⟩
    obtain ⟨A5, c5, rfl⟩ := Kd.R_slice ho5
    have HR5 := Aside0.mk (Kd.R_lower ho5 HWx.out.size)
    have HQy := Aside0.mk (blk_below HQx.out hb)
    have HCy := Aside0.mk (blk_below HCx.out hb)
    have HWy := Aside0.mk (below_then HWx.out HWx.out.size hb)
    clear hb ho5
    refine hK.out _ _ ⟨HQy.out, HCy.out⟩ ?_
    clear hK K hS
    (try simp only [Act.put, List.setIfInBounds_toArray, List.set_cons_zero, List.set_cons_succ])
    have hS : (fun w' : World => w'.heap[w.heap.size]? = some (.cells #[.string ⟨#[1, 97, 0]⟩, .int .i64 1, .int .i64 1] 23 (0, 0)) ∧ w'.heap[w.heap.size + 1 + 1 + 1]? = some (.cells #[.slice (some ⟨w.heap.size + 1 + 1, 0, none⟩) 1 1, .int .i64 0, .string ⟨#[]⟩, .string ⟨#[]⟩, .int .i64 0, .int .i64 0, .slice none 0 0, .int .i64 0, .int .i64 0] 31 (0, 0))) W5 := ⟨HQy.out, HCy.out⟩
    refine wpAnyH_take (i := 4) (v := ?vqa4) rfl (by kernel_rfl) (by kernel_rfl) (by kernel_rfl) (fun _ _ _ h => h) (Or.inl ⟨by rfl, ?yqa4⟩) hS ?_
    case yqa4 => (intro w' hSw; go_simp; (first | done | with_reducible rfl))
    (try simp only [Act.put, List.setIfInBounds_toArray, List.set_cons_zero, List.set_cons_succ])
    refine wpAnyH_take (i := 5) (v := ?vqa5) rfl (by kernel_rfl) (by kernel_rfl) (by kernel_rfl) (fun _ _ _ h => h) (Or.inl ⟨by rfl, ?yqa5⟩) hS ?_
    case yqa5 => (intro w' hSw; go_simp; (first | done | with_reducible rfl))
    (try simp only [Act.put, List.setIfInBounds_toArray, List.set_cons_zero, List.set_cons_succ])
    refine wpAnyH_take (i := 6) (v := ?vqa6) rfl (by kernel_rfl) (by kernel_rfl) (by kernel_rfl) (fun _ _ _ h => h) (Or.inl ⟨by rfl, ?yqa6⟩) hS ?_
    case yqa6 => (intro w' hSw; go_simp; (first | done | with_reducible rfl))
    (try simp only [Act.put, List.setIfInBounds_toArray, List.set_cons_zero, List.set_cons_succ])
    refine anyH_one 7 (by kernel_rfl) rfl (by rfl) (fun K hK => ?_)
    go_simp
    have HGz := Aside0.mk (heap_alloc_new W5 (.cells #[.string ⟨#[]⟩, .int .i64 0, .int .i64 0, .int .i64 0, .string ⟨#[]⟩, .slice none 0 0] 36))
    have HQz := Aside0.mk (blk_alloc HQy.out (.cells #[.string ⟨#[]⟩, .int .i64 0, .int .i64 0, .int .i64 0, .string ⟨#[]⟩, .slice none 0 0] 36))
    have HCz := Aside0.mk (blk_alloc HCy.out (.cells #[.string ⟨#[]⟩, .int .i64 0, .int .i64 0, .int .i64 0, .string ⟨#[]⟩, .slice none 0 0] 36))
    have HWz := Aside0.mk (below_alloc HWy.out (.cells #[.string ⟨#[]⟩, .int .i64 0, .int .i64 0, .int .i64 0, .string ⟨#[]⟩, .slice none 0 0] 36))
    have HGB : Aside0 (w.heap.size ≤ W5.heap.size) := ⟨HWy.out.size⟩
    have HRz := Aside0.mk (Kd.R_alloc HR5.out (.cells #[.string ⟨#[]⟩, .int .i64 0, .int .i64 0, .int .i64 0, .string ⟨#[]⟩, .slice none 0 0] 36))
    refine hK.out _ _ ⟨HQz.out, HCz.out⟩ ?_
    clear hK K hS
    (try simp only [Act.put, List.setIfInBounds_toArray, List.set_cons_zero, List.set_cons_succ])
    generalize hg : W5.heap.size = g at HGz HGB ⊢
    clear hg
    generalize W5.alloc (.cells #[.string ⟨#[]⟩, .int .i64 0, .int .i64 0, .int .i64 0, .string ⟨#[]⟩, .slice none 0 0] 36) = Wz at HGz HQz HCz HWz HRz ⊢
    have hS : (fun w' : World => w'.heap[w.heap.size]? = some (.cells #[.string ⟨#[1, 97, 0]⟩, .int .i64 1, .int .i64 1] 23 (0, 0)) ∧ w'.heap[w.heap.size + 1 + 1 + 1]? = some (.cells #[.slice (some ⟨w.heap.size + 1 + 1, 0, none⟩) 1 1, .int .i64 0, .string ⟨#[]⟩, .string ⟨#[]⟩, .int .i64 0, .int .i64 0, .slice none 0 0, .int .i64 0, .int .i64 0] 31 (0, 0))) Wz := ⟨HQz.out, HCz.out⟩
    have zr := fun j => blk_cell HGz.out j
    have fr := fun j => blk_frozen HGz.out j
    have HNE := Aside0.mk (blk_ne HQz.out HGz.out (by decide))
    refine anyH_one 8 (by kernel_rfl) rfl (by rfl) (fun K hK => ?_)
    go_simp
    have HNC := Aside0.mk (blk_ne HCz.out HGz.out (by decide))
    refine hK.out _ _ ⟨(blk_far (p := ⟨g, 5, none⟩) (blk_far (p := ⟨g, 4, none⟩) (blk_far (p := ⟨g, 3, none⟩) (blk_far (p := ⟨g, 2, none⟩) (blk_far (p := ⟨g, 1, none⟩) (blk_far (p := ⟨g, 0, none⟩) HQz.out HNE.out (.string lvN)) HNE.out (.int .i64 1)) HNE.out (.int .i64 1)) HNE.out (.int .i64 0)) HNE.out (.string lvT)) HNE.out (.slice A5 lvP.length c5)), (blk_far (p := ⟨g, 5, none⟩) (blk_far (p := ⟨g, 4, none⟩) (blk_far (p := ⟨g, 3, none⟩) (blk_far (p := ⟨g, 2, none⟩) (blk_far (p := ⟨g, 1, none⟩) (blk_far (p := ⟨g, 0, none⟩) HCz.out HNC.out (.string lvN)) HNC.out (.int .i64 1)) HNC.out (.int .i64 1)) HNC.out (.int .i64 0)) HNC.out (.string lvT)) HNC.out (.slice A5 lvP.length c5))⟩ ?_
    clear hK K
    (try simp only [Act.put, List.setIfInBounds_toArray, List.set_cons_zero, List.set_cons_succ])
    refine anyH_one 9 (by kernel_rfl) rfl (by rfl) (fun K hK => ?_)
    go_simp
    refine hK.out _ _ ⟨(blk_far (p := ⟨g, 5, none⟩) (blk_far (p := ⟨g, 4, none⟩) (blk_far (p := ⟨g, 3, none⟩) (blk_far (p := ⟨g, 2, none⟩) (blk_far (p := ⟨g, 1, none⟩) (blk_far (p := ⟨g, 0, none⟩) HQz.out HNE.out (.string lvN)) HNE.out (.int .i64 1)) HNE.out (.int .i64 1)) HNE.out (.int .i64 0)) HNE.out (.string lvT)) HNE.out (.slice A5 lvP.length c5)), (blk_far (p := ⟨g, 5, none⟩) (blk_far (p := ⟨g, 4, none⟩) (blk_far (p := ⟨g, 3, none⟩) (blk_far (p := ⟨g, 2, none⟩) (blk_far (p := ⟨g, 1, none⟩) (blk_far (p := ⟨g, 0, none⟩) HCz.out HNC.out (.string lvN)) HNC.out (.int .i64 1)) HNC.out (.int .i64 1)) HNC.out (.int .i64 0)) HNC.out (.string lvT)) HNC.out (.slice A5 lvP.length c5))⟩ ?_
    clear hK K
    (try simp only [Act.put, List.setIfInBounds_toArray, List.set_cons_zero, List.set_cons_succ])
    refine wpAnyH_done (by kernel_rfl) ?_ _
    clear zr fr hS
    go_wp2_with fail
    go_meet
    case rel => exact ⟨g, _, rfl, rfl, ⟨(blk_far (p := ⟨g, 5, none⟩) (blk_far (p := ⟨g, 4, none⟩) (blk_far (p := ⟨g, 3, none⟩) (blk_far (p := ⟨g, 2, none⟩) (blk_far (p := ⟨g, 1, none⟩) (blk_far (p := ⟨g, 0, none⟩) HQz.out HNE.out (.string lvN)) HNE.out (.int .i64 1)) HNE.out (.int .i64 1)) HNE.out (.int .i64 0)) HNE.out (.string lvT)) HNE.out (.slice A5 lvP.length c5))⟩, ⟨(blk_put (blk_put (blk_put (blk_put (blk_put (blk_put HGz.out 0 (.string lvN) rfl) 1 (.int .i64 1) rfl) 2 (.int .i64 1) rfl) 3 (.int .i64 0) rfl) 4 (.string lvT) rfl) 5 (.slice A5 lvP.length c5) rfl)⟩, ⟨_, _, rfl, (Kd.R_reads' (Kd.R_set (Kd.R_set (Kd.R_set (Kd.R_set (Kd.R_set (Kd.R_set HRz.out HGz.out (by decide) 0 (.string lvN)) (blk_put HGz.out 0 (.string lvN) rfl) (by decide) 1 (.int .i64 1)) (blk_put (blk_put HGz.out 0 (.string lvN) rfl) 1 (.int .i64 1) rfl) (by decide) 2 (.int .i64 1)) (blk_put (blk_put (blk_put HGz.out 0 (.string lvN) rfl) 1 (.int .i64 1) rfl) 2 (.int .i64 1) rfl) (by decide) 3 (.int .i64 0)) (blk_put (blk_put (blk_put (blk_put HGz.out 0 (.string lvN) rfl) 1 (.int .i64 1) rfl) 2 (.int .i64 1) rfl) 3 (.int .i64 0) rfl) (by decide) 4 (.string lvT)) (blk_put (blk_put (blk_put (blk_put (blk_put HGz.out 0 (.string lvN) rfl) 1 (.int .i64 1) rfl) 2 (.int .i64 1) rfl) 3 (.int .i64 0) rfl) 4 (.string lvT) rfl) (by decide) 5 (.slice A5 lvP.length c5))).2⟩, ⟨(Below.setCell (Below.setCell (Below.setCell (Below.setCell (Below.setCell (Below.setCell HWz.out (p := ⟨g, 0, none⟩) HGB.out (.string lvN)) (p := ⟨g, 1, none⟩) HGB.out (.int .i64 1)) (p := ⟨g, 2, none⟩) HGB.out (.int .i64 1)) (p := ⟨g, 3, none⟩) HGB.out (.int .i64 0)) (p := ⟨g, 4, none⟩) HGB.out (.string lvT)) (p := ⟨g, 5, none⟩) HGB.out (.slice A5 lvP.length c5))⟩⟩
   case oAB =>
    go_simp
    have HGz := Aside0.mk (heap_alloc_new W3 (.cells #[.string ⟨#[]⟩, .int .i64 0, .int .i64 0, .int .i64 0, .string ⟨#[]⟩, .slice none 0 0] 36))
    have HQz := Aside0.mk (blk_alloc HQx.out (.cells #[.string ⟨#[]⟩, .int .i64 0, .int .i64 0, .int .i64 0, .string ⟨#[]⟩, .slice none 0 0] 36))
    have HCz := Aside0.mk (blk_alloc HCx.out (.cells #[.string ⟨#[]⟩, .int .i64 0, .int .i64 0, .int .i64 0, .string ⟨#[]⟩, .slice none 0 0] 36))
    have HWz := Aside0.mk (below_alloc HWx.out (.cells #[.string ⟨#[]⟩, .int .i64 0, .int .i64 0, .int .i64 0, .string ⟨#[]⟩, .slice none 0 0] 36))
    have HGB : Aside0 (w.heap.size ≤ W3.heap.size) := ⟨HWx.out.size⟩
    have HC3z := Aside0.mk (Kd.C_alloc HC3.out.2 (.cells #[.string ⟨#[]⟩, .int .i64 0, .int .i64 0, .int .i64 0, .string ⟨#[]⟩, .slice none 0 0] 36))
    have HD3z := Aside0.mk (Kd.C_alloc HD3.out.2 (.cells #[.string ⟨#[]⟩, .int .i64 0, .int .i64 0, .int .i64 0, .string ⟨#[]⟩, .slice none 0 0] 36))
    refine hK.out _ _ ⟨HQz.out, HCz.out⟩ ?_
    clear hK K hS
    (try simp only [Act.put, List.setIfInBounds_toArray, List.set_cons_zero, List.set_cons_succ])
    generalize hg : W3.heap.size = g at HGz HGB ⊢
    clear hg
    generalize W3.alloc (.cells #[.string ⟨#[]⟩, .int .i64 0, .int .i64 0, .int .i64 0, .string ⟨#[]⟩, .slice none 0 0] 36) = Wz at HGz HQz HCz HWz HC3z HD3z ⊢
    have hS : (fun w' : World => w'.heap[w.heap.size]? = some (.cells #[.string ⟨#[1, 97, 0]⟩, .int .i64 1, .int .i64 1] 23 (0, 0)) ∧ w'.heap[w.heap.size + 1 + 1 + 1]? = some (.cells #[.slice (some ⟨w.heap.size + 1 + 1, 0, none⟩) 1 1, .int .i64 0, .string ⟨#[]⟩, .string ⟨#[]⟩, .int .i64 0, .int .i64 0, .slice none 0 0, .int .i64 0, .int .i64 0] 31 (0, 0))) Wz := ⟨HQz.out, HCz.out⟩
    refine anyH_one 3 (by kernel_rfl) rfl (by rfl) (fun K hK => ?_)
    go_simp
    go_at_call 11
    refine (tmpl_Make.calls 20 10 ⟨#[1, 97, 0]⟩ 1 1 _ _ [⟨⟨⟨⟨#[1, 97, 0]⟩, 1, 1⟩, [⟨#[49, 49, 49, 49]⟩, ⟨#[50, 50, 50, 50]⟩], 9⟩, 5⟩] 0 ⟨#[]⟩ ⟨#[]⟩ 0 0 _ _ [] 0 0 _ _ _ _ _ _ _ _ HC3z.out HC3.out.1 HD3z.out HD3.out.1 lv1).mono ?_
    rintro _ W5 ⟨v5, rfl, ho5, hb⟩
    obtain ⟨A5, c5, rfl⟩ := Kd.R_slice ho5
    have HR5 := Aside0.mk (Kd.R_lower ho5 HWz.out.size)
    have HQw := Aside0.mk (blk_below HQz.out hb)
    have HCw := Aside0.mk (blk_below HCz.out hb)
    have HWw := Aside0.mk (below_then HWz.out HWz.out.size hb)
    have HGw := Aside0.mk (blk_below HGz.out hb)
    clear hb ho5 HQz HCz HWz HGz
    have HQz := HQw
    have HCz := HCw
    have HWz := HWw
    have HGz := HGw
    have HRz := HR5
    refine hK.out _ _ ⟨HQz.out, HCz.out⟩ ?_
    clear hK K hS
    (try simp only [Act.put, List.setIfInBounds_toArray, List.set_cons_zero, List.set_cons_succ])
    have hS : (fun w' : World => w'.heap[w.heap.size]? = some (.cells #[.string ⟨#[1, 97, 0]⟩, .int .i64 1, .int .i64 1] 23 (0, 0)) ∧ w'.heap[w.heap.size + 1 + 1 + 1]? = some (.cells #[.slice (some ⟨w.heap.size + 1 + 1, 0, none⟩) 1 1, .int .i64 0, .string ⟨#[]⟩, .string ⟨#[]⟩, .int .i64 0, .int .i64 0, .slice none 0 0, .int .i64 0, .int .i64 0] 31 (0, 0))) W5 := ⟨HQz.out, HCz.out⟩
    refine wpAnyH_take (i := 4) (v := ?vqb4) rfl (by kernel_rfl) (by kernel_rfl) (by kernel_rfl) (fun _ _ _ h => h) (Or.inl ⟨by rfl, ?yqb4⟩) hS ?_
    case yqb4 => (intro w' hSw; go_simp; (first | done | with_reducible rfl))
    (try simp only [Act.put, List.setIfInBounds_toArray, List.set_cons_zero, List.set_cons_succ])
    refine wpAnyH_take (i := 5) (v := ?vqb5) rfl (by kernel_rfl) (by kernel_rfl) (by kernel_rfl) (fun _ _ _ h => h) (Or.inl ⟨by rfl, ?yqb5⟩) hS ?_
    case yqb5 => (intro w' hSw; go_simp; (first | done | with_reducible rfl))
    (try simp only [Act.put, List.setIfInBounds_toArray, List.set_cons_zero, List.set_cons_succ])
    refine wpAnyH_take (i := 6) (v := ?vqb6) rfl (by kernel_rfl) (by kernel_rfl) (by kernel_rfl) (fun _ _ _ h => h) (Or.inl ⟨by rfl, ?yqb6⟩) hS ?_
    case yqb6 => (intro w' hSw; go_simp; (first | done | with_reducible rfl))
    (try simp only [Act.put, List.setIfInBounds_toArray, List.set_cons_zero, List.set_cons_succ])
    have zr := fun j => blk_cell HGz.out j
    have fr := fun j => blk_frozen HGz.out j
    have HNE := Aside0.mk (blk_ne HQz.out HGz.out (by decide))
    refine anyH_one 8 (by kernel_rfl) rfl (by rfl) (fun K hK => ?_)
    go_simp
    have HNC := Aside0.mk (blk_ne HCz.out HGz.out (by decide))
    refine hK.out _ _ ⟨(blk_far (p := ⟨g, 5, none⟩) (blk_far (p := ⟨g, 4, none⟩) (blk_far (p := ⟨g, 3, none⟩) (blk_far (p := ⟨g, 2, none⟩) (blk_far (p := ⟨g, 1, none⟩) (blk_far (p := ⟨g, 0, none⟩) HQz.out HNE.out (.string lvN)) HNE.out (.int .i64 1)) HNE.out (.int .i64 1)) HNE.out (.int .i64 0)) HNE.out (.string lvT)) HNE.out (.slice A5 lvP.length c5)), (blk_far (p := ⟨g, 5, none⟩) (blk_far (p := ⟨g, 4, none⟩) (blk_far (p := ⟨g, 3, none⟩) (blk_far (p := ⟨g, 2, none⟩) (blk_far (p := ⟨g, 1, none⟩) (blk_far (p := ⟨g, 0, none⟩) HCz.out HNC.out (.string lvN)) HNC.out (.int .i64 1)) HNC.out (.int .i64 1)) HNC.out (.int .i64 0)) HNC.out (.string lvT)) HNC.out (.slice A5 lvP.length c5))⟩ ?_
    clear hK K
    (try simp only [Act.put, List.setIfInBounds_toArray, List.set_cons_zero, List.set_cons_succ])
    refine anyH_one 9 (by kernel_rfl) rfl (by rfl) (fun K hK => ?_)
    go_simp
    refine hK.out _ _ ⟨(blk_far (p := ⟨g, 5, none⟩) (blk_far (p := ⟨g, 4, none⟩) (blk_far (p := ⟨g, 3, none⟩) (blk_far (p := ⟨g, 2, none⟩) (blk_far (p := ⟨g, 1, none⟩) (blk_far (p := ⟨g, 0, none⟩) HQz.out HNE.out (.string lvN)) HNE.out (.int .i64 1)) HNE.out (.int .i64 1)) HNE.out (.int .i64 0)) HNE.out (.string lvT)) HNE.out (.slice A5 lvP.length c5)), (blk_far (p := ⟨g, 5, none⟩) (blk_far (p := ⟨g, 4, none⟩) (blk_far (p := ⟨g, 3, none⟩) (blk_far (p := ⟨g, 2, none⟩) (blk_far (p := ⟨g, 1, none⟩) (blk_far (p := ⟨g, 0, none⟩) HCz.out HNC.out (.string lvN)) HNC.out (.int .i64 1)) HNC.out (.int .i64 1)) HNC.out (.int .i64 0)) HNC.out (.string lvT)) HNC.out (.slice A5 lvP.length c5))⟩ ?_
    clear hK K
    (try simp only [Act.put, List.setIfInBounds_toArray, List.set_cons_zero, List.set_cons_succ])
    refine wpAnyH_done (by kernel_rfl) ?_ _
    clear zr fr hS
    go_wp2_with fail
    go_meet
    case rel => exact ⟨g, _, rfl, rfl, ⟨(blk_far (p := ⟨g, 5, none⟩) (blk_far (p := ⟨g, 4, none⟩) (blk_far (p := ⟨g, 3, none⟩) (blk_far (p := ⟨g, 2, none⟩) (blk_far (p := ⟨g, 1, none⟩) (blk_far (p := ⟨g, 0, none⟩) HQz.out HNE.out (.string lvN)) HNE.out (.int .i64 1)) HNE.out (.int .i64 1)) HNE.out (.int .i64 0)) HNE.out (.string lvT)) HNE.out (.slice A5 lvP.length c5))⟩, ⟨(blk_put (blk_put (blk_put (blk_put (blk_put (blk_put HGz.out 0 (.string lvN) rfl) 1 (.int .i64 1) rfl) 2 (.int .i64 1) rfl) 3 (.int .i64 0) rfl) 4 (.string lvT) rfl) 5 (.slice A5 lvP.length c5) rfl)⟩, ⟨_, _, rfl, (Kd.R_reads' (Kd.R_set (Kd.R_set (Kd.R_set (Kd.R_set (Kd.R_set (Kd.R_set HRz.out HGz.out (by decide) 0 (.string lvN)) (blk_put HGz.out 0 (.string lvN) rfl) (by decide) 1 (.int .i64 1)) (blk_put (blk_put HGz.out 0 (.string lvN) rfl) 1 (.int .i64 1) rfl) (by decide) 2 (.int .i64 1)) (blk_put (blk_put (blk_put HGz.out 0 (.string lvN) rfl) 1 (.int .i64 1) rfl) 2 (.int .i64 1) rfl) (by decide) 3 (.int .i64 0)) (blk_put (blk_put (blk_put (blk_put HGz.out 0 (.string lvN) rfl) 1 (.int .i64 1) rfl) 2 (.int .i64 1) rfl) 3 (.int .i64 0) rfl) (by decide) 4 (.string lvT)) (blk_put (blk_put (blk_put (blk_put (blk_put HGz.out 0 (.string lvN) rfl) 1 (.int .i64 1) rfl) 2 (.int .i64 1) rfl) 3 (.int .i64 0) rfl) 4 (.string lvT) rfl) (by decide) 5 (.slice A5 lvP.length c5))).2⟩, ⟨(Below.setCell (Below.setCell (Below.setCell (Below.setCell (Below.setCell (Below.setCell HWz.out (p := ⟨g, 0, none⟩) HGB.out (.string lvN)) (p := ⟨g, 1, none⟩) HGB.out (.int .i64 1)) (p := ⟨g, 2, none⟩) HGB.out (.int .i64 1)) (p := ⟨g, 3, none⟩) HGB.out (.int .i64 0)) (p := ⟨g, 4, none⟩) HGB.out (.string lvT)) (p := ⟨g, 5, none⟩) HGB.out (.slice A5 lvP.length c5))⟩⟩
  case oB =>
   go_simp
   have HGz := Aside0.mk (heap_alloc_new W2 (.cells #[.string ⟨#[]⟩, .int .i64 0, .int .i64 0, .int .i64 0, .string ⟨#[]⟩, .slice none 0 0] 36))
   have HQz := Aside0.mk (blk_alloc HQ0.out (.cells #[.string ⟨#[]⟩, .int .i64 0, .int .i64 0, .int .i64 0, .string ⟨#[]⟩, .slice none 0 0] 36))
   have HCz := Aside0.mk (blk_alloc HC0.out (.cells #[.string ⟨#[]⟩, .int .i64 0, .int .i64 0, .int .i64 0, .string ⟨#[]⟩, .slice none 0 0] 36))
   have HWz := Aside0.mk (below_alloc HW0.out (.cells #[.string ⟨#[]⟩, .int .i64 0, .int .i64 0, .int .i64 0, .string ⟨#[]⟩, .slice none 0 0] 36))
   have HGB : Aside0 (w.heap.size ≤ W2.heap.size) := ⟨HW0.out.size⟩
   have HR0z := Aside0.mk (Kd.V_alloc HR0.out (.cells #[.string ⟨#[]⟩, .int .i64 0, .int .i64 0, .int .i64 0, .string ⟨#[]⟩, .slice none 0 0] 36))
   refine hK.out _ _ ⟨HQz.out, HCz.out⟩ ?_
   clear hK K hS
   (try simp only [Act.put, List.setIfInBounds_toArray, List.set_cons_zero, List.set_cons_succ])
   generalize hg : W2.heap.size = g at HGz HGB ⊢
   clear hg
   generalize W2.alloc (.cells #[.string ⟨#[]⟩, .int .i64 0, .int .i64 0, .int .i64 0, .string ⟨#[]⟩, .slice none 0 0] 36) = Wz at HGz HQz HCz HWz HR0z ⊢
   have hS : (fun w' : World => w'.heap[w.heap.size]? = some (.cells #[.string ⟨#[1, 97, 0]⟩, .int .i64 1, .int .i64 1] 23 (0, 0)) ∧ w'.heap[w.heap.size + 1 + 1 + 1]? = some (.cells #[.slice (some ⟨w.heap.size + 1 + 1, 0, none⟩) 1 1, .int .i64 0, .string ⟨#[]⟩, .string ⟨#[]⟩, .int .i64 0, .int .i64 0, .slice none 0 0, .int .i64 0, .int .i64 0] 31 (0, 0))) Wz := ⟨HQz.out, HCz.out⟩
   refine anyH_one 2 (by kernel_rfl) rfl (by rfl) (fun K hK => ?_)
   go_simp
   go_at_call 12
   refine (wellspringlaw17_Chain.calls 20 (fun _ => True) _ _ [(⟨⟨⟨⟨#[1, 97, 0]⟩, 1, 1⟩, [⟨#[49, 49, 49, 49]⟩, ⟨#[50, 50, 50, 50]⟩], 9⟩, 5⟩ : S29)] 0 ⟨#[]⟩ ⟨#[]⟩ 0 0 (fun _ => True) _ _ [] 0 0 _ _ _ _ _ _ _ _ _ _ HR0z.out (Kd.V_nil _ _ _ _ _) lv0).mono ?_
   rintro _ W3 ⟨v0, v6, rfl, ho0, ho1, hb⟩
   obtain ⟨A0, c0, rfl⟩ := Kd.N_slice ho0
   obtain ⟨A6, c6, rfl⟩ := Kd.V_slice ho1
   have HC3 := Aside0.mk (Kd.N_reads' ho0).2
   have HD3 := Aside0.mk (Kd.V_reads' ho1).2
   have HQw := Aside0.mk (blk_below HQz.out hb)
   have HCw := Aside0.mk (blk_below HCz.out hb)
   have HWw := Aside0.mk (below_then HWz.out HWz.out.size hb)
   have HGw := Aside0.mk (blk_below HGz.out hb)
   clear hb ho0 ho1 HQz HCz HWz HGz
   have HQz := HQw
   have HCz := HCw
   have HWz := HWw
   have HGz := HGw
   refine hK.out _ _ ⟨HQz.out, HCz.out⟩ ?_
   clear hK K hS
   (try simp only [Act.put, List.setIfInBounds_toArray, List.set_cons_zero, List.set_cons_succ])
   have hS : (fun w' : World => w'.heap[w.heap.size]? = some (.cells #[.string ⟨#[1, 97, 0]⟩, .int .i64 1, .int .i64 1] 23 (0, 0)) ∧ w'.heap[w.heap.size + 1 + 1 + 1]? = some (.cells #[.slice (some ⟨w.heap.size + 1 + 1, 0, none⟩) 1 1, .int .i64 0, .string ⟨#[]⟩, .string ⟨#[]⟩, .int .i64 0, .int .i64 0, .slice none 0 0, .int .i64 0, .int .i64 0] 31 (0, 0))) W3 := ⟨HQz.out, HCz.out⟩
   clear HQw HCw HWw HGw
   refine anyH_one 3 (by kernel_rfl) rfl (by rfl) (fun K hK => ?_)
   go_simp
   go_at_call 11
   refine (tmpl_Make.calls 20 10 ⟨#[1, 97, 0]⟩ 1 1 _ _ [⟨⟨⟨⟨#[1, 97, 0]⟩, 1, 1⟩, [⟨#[49, 49, 49, 49]⟩, ⟨#[50, 50, 50, 50]⟩], 9⟩, 5⟩] 0 ⟨#[]⟩ ⟨#[]⟩ 0 0 _ _ [] 0 0 _ _ _ _ _ _ _ _ HC3.out.2 HC3.out.1 HD3.out.2 HD3.out.1 lv1).mono ?_
   rintro _ W5 ⟨v5, rfl, ho5, hb⟩
   obtain ⟨A5, c5, rfl⟩ := Kd.R_slice ho5
   have HR5 := Aside0.mk (Kd.R_lower ho5 HWz.out.size)
   have HQw := Aside0.mk (blk_below HQz.out hb)
   have HCw := Aside0.mk (blk_below HCz.out hb)
   have HWw := Aside0.mk (below_then HWz.out HWz.out.size hb)
   have HGw := Aside0.mk (blk_below HGz.out hb)
   clear hb ho5 HQz HCz HWz HGz
   have HQz := HQw
   have HCz := HCw
   have HWz := HWw
   have HGz := HGw
   have HRz := HR5
   refine hK.out _ _ ⟨HQz.out, HCz.out⟩ ?_
   clear hK K hS
   (try simp only [Act.put, List.setIfInBounds_toArray, List.set_cons_zero, List.set_cons_succ])
   have hS : (fun w' : World => w'.heap[w.heap.size]? = some (.cells #[.string ⟨#[1, 97, 0]⟩, .int .i64 1, .int .i64 1] 23 (0, 0)) ∧ w'.heap[w.heap.size + 1 + 1 + 1]? = some (.cells #[.slice (some ⟨w.heap.size + 1 + 1, 0, none⟩) 1 1, .int .i64 0, .string ⟨#[]⟩, .string ⟨#[]⟩, .int .i64 0, .int .i64 0, .slice none 0 0, .int .i64 0, .int .i64 0] 31 (0, 0))) W5 := ⟨HQz.out, HCz.out⟩
   refine wpAnyH_take (i := 4) (v := ?vqc4) rfl (by kernel_rfl) (by kernel_rfl) (by kernel_rfl) (fun _ _ _ h => h) (Or.inl ⟨by rfl, ?yqc4⟩) hS ?_
   case yqc4 => (intro w' hSw; go_simp; (first | done | with_reducible rfl))
   (try simp only [Act.put, List.setIfInBounds_toArray, List.set_cons_zero, List.set_cons_succ])
   refine wpAnyH_take (i := 5) (v := ?vqc5) rfl (by kernel_rfl) (by kernel_rfl) (by kernel_rfl) (fun _ _ _ h => h) (Or.inl ⟨by rfl, ?yqc5⟩) hS ?_
   case yqc5 => (intro w' hSw; go_simp; (first | done | with_reducible rfl))
   (try simp only [Act.put, List.setIfInBounds_toArray, List.set_cons_zero, List.set_cons_succ])
   refine wpAnyH_take (i := 6) (v := ?vqc6) rfl (by kernel_rfl) (by kernel_rfl) (by kernel_rfl) (fun _ _ _ h => h) (Or.inl ⟨by rfl, ?yqc6⟩) hS ?_
   case yqc6 => (intro w' hSw; go_simp; (first | done | with_reducible rfl))
   (try simp only [Act.put, List.setIfInBounds_toArray, List.set_cons_zero, List.set_cons_succ])
   have zr := fun j => blk_cell HGz.out j
   have fr := fun j => blk_frozen HGz.out j
   have HNE := Aside0.mk (blk_ne HQz.out HGz.out (by decide))
   refine anyH_one 8 (by kernel_rfl) rfl (by rfl) (fun K hK => ?_)
   go_simp
   have HNC := Aside0.mk (blk_ne HCz.out HGz.out (by decide))
   refine hK.out _ _ ⟨(blk_far (p := ⟨g, 5, none⟩) (blk_far (p := ⟨g, 4, none⟩) (blk_far (p := ⟨g, 3, none⟩) (blk_far (p := ⟨g, 2, none⟩) (blk_far (p := ⟨g, 1, none⟩) (blk_far (p := ⟨g, 0, none⟩) HQz.out HNE.out (.string lvN)) HNE.out (.int .i64 1)) HNE.out (.int .i64 1)) HNE.out (.int .i64 0)) HNE.out (.string lvT)) HNE.out (.slice A5 lvP.length c5)), (blk_far (p := ⟨g, 5, none⟩) (blk_far (p := ⟨g, 4, none⟩) (blk_far (p := ⟨g, 3, none⟩) (blk_far (p := ⟨g, 2, none⟩) (blk_far (p := ⟨g, 1, none⟩) (blk_far (p := ⟨g, 0, none⟩) HCz.out HNC.out (.string lvN)) HNC.out (.int .i64 1)) HNC.out (.int .i64 1)) HNC.out (.int .i64 0)) HNC.out (.string lvT)) HNC.out (.slice A5 lvP.length c5))⟩ ?_
   clear hK K
   (try simp only [Act.put, List.setIfInBounds_toArray, List.set_cons_zero, List.set_cons_succ])
   refine anyH_one 9 (by kernel_rfl) rfl (by rfl) (fun K hK => ?_)
   go_simp
   refine hK.out _ _ ⟨(blk_far (p := ⟨g, 5, none⟩) (blk_far (p := ⟨g, 4, none⟩) (blk_far (p := ⟨g, 3, none⟩) (blk_far (p := ⟨g, 2, none⟩) (blk_far (p := ⟨g, 1, none⟩) (blk_far (p := ⟨g, 0, none⟩) HQz.out HNE.out (.string lvN)) HNE.out (.int .i64 1)) HNE.out (.int .i64 1)) HNE.out (.int .i64 0)) HNE.out (.string lvT)) HNE.out (.slice A5 lvP.length c5)), (blk_far (p := ⟨g, 5, none⟩) (blk_far (p := ⟨g, 4, none⟩) (blk_far (p := ⟨g, 3, none⟩) (blk_far (p := ⟨g, 2, none⟩) (blk_far (p := ⟨g, 1, none⟩) (blk_far (p := ⟨g, 0, none⟩) HCz.out HNC.out (.string lvN)) HNC.out (.int .i64 1)) HNC.out (.int .i64 1)) HNC.out (.int .i64 0)) HNC.out (.string lvT)) HNC.out (.slice A5 lvP.length c5))⟩ ?_
   clear hK K
   (try simp only [Act.put, List.setIfInBounds_toArray, List.set_cons_zero, List.set_cons_succ])
   refine wpAnyH_done (by kernel_rfl) ?_ _
   clear zr fr hS
   go_wp2_with fail
   go_meet
   case rel => exact ⟨g, _, rfl, rfl, ⟨(blk_far (p := ⟨g, 5, none⟩) (blk_far (p := ⟨g, 4, none⟩) (blk_far (p := ⟨g, 3, none⟩) (blk_far (p := ⟨g, 2, none⟩) (blk_far (p := ⟨g, 1, none⟩) (blk_far (p := ⟨g, 0, none⟩) HQz.out HNE.out (.string lvN)) HNE.out (.int .i64 1)) HNE.out (.int .i64 1)) HNE.out (.int .i64 0)) HNE.out (.string lvT)) HNE.out (.slice A5 lvP.length c5))⟩, ⟨(blk_put (blk_put (blk_put (blk_put (blk_put (blk_put HGz.out 0 (.string lvN) rfl) 1 (.int .i64 1) rfl) 2 (.int .i64 1) rfl) 3 (.int .i64 0) rfl) 4 (.string lvT) rfl) 5 (.slice A5 lvP.length c5) rfl)⟩, ⟨_, _, rfl, (Kd.R_reads' (Kd.R_set (Kd.R_set (Kd.R_set (Kd.R_set (Kd.R_set (Kd.R_set HRz.out HGz.out (by decide) 0 (.string lvN)) (blk_put HGz.out 0 (.string lvN) rfl) (by decide) 1 (.int .i64 1)) (blk_put (blk_put HGz.out 0 (.string lvN) rfl) 1 (.int .i64 1) rfl) (by decide) 2 (.int .i64 1)) (blk_put (blk_put (blk_put HGz.out 0 (.string lvN) rfl) 1 (.int .i64 1) rfl) 2 (.int .i64 1) rfl) (by decide) 3 (.int .i64 0)) (blk_put (blk_put (blk_put (blk_put HGz.out 0 (.string lvN) rfl) 1 (.int .i64 1) rfl) 2 (.int .i64 1) rfl) 3 (.int .i64 0) rfl) (by decide) 4 (.string lvT)) (blk_put (blk_put (blk_put (blk_put (blk_put HGz.out 0 (.string lvN) rfl) 1 (.int .i64 1) rfl) 2 (.int .i64 1) rfl) 3 (.int .i64 0) rfl) 4 (.string lvT) rfl) (by decide) 5 (.slice A5 lvP.length c5))).2⟩, ⟨(Below.setCell (Below.setCell (Below.setCell (Below.setCell (Below.setCell (Below.setCell HWz.out (p := ⟨g, 0, none⟩) HGB.out (.string lvN)) (p := ⟨g, 1, none⟩) HGB.out (.int .i64 1)) (p := ⟨g, 2, none⟩) HGB.out (.int .i64 1)) (p := ⟨g, 3, none⟩) HGB.out (.int .i64 0)) (p := ⟨g, 4, none⟩) HGB.out (.string lvT)) (p := ⟨g, 5, none⟩) HGB.out (.slice A5 lvP.length c5))⟩⟩
 case rest =>
  obtain ⟨g, v5, rfl, rfl, HQ, HT, ⟨⟨A5, c5, rfl, hl5, hp5⟩⟩, HW⟩ := hcut
  have HP := Aside0.mk hp5
  have HL := Aside0.mk hl5
  clear hp5 hl5
  go_wp2_with fail
  go_cut [6] (fun v6 wd => v6 = .bool false ∧ Aside0 (wd.heap[g]? = some (.cells #[.string lvN, .int .i64 1, .int .i64 1, .int .i64 0, .string lvT, .slice A5 lvP.length c5] 36 (0, 0))) ∧ Aside0 (k69.C wd A5 lvP.length lvP) ∧ Aside0 (Below w.heap.size w wd))
  case first =>
   refine region_H (fun w' : World => w'.heap[w.heap.size]? = some (.cells #[.string ⟨#[1, 97, 0]⟩, .int .i64 1, .int .i64 1] 23 (0, 0))) (by kernel_rfl) ?_
   have HQ0 := Aside0.mk (blk_drew HQ.out)
   have HW0 := Aside0.mk (below_drew (Below.refl wc.heap.size wc))
   clear HQ
   generalize wc.drew = W2 at HQ0 HW0 ⊢
   have hS : (fun w' : World => w'.heap[w.heap.size]? = some (.cells #[.string ⟨#[1, 97, 0]⟩, .int .i64 1, .int .i64 1] 23 (0, 0))) W2 := HQ0.out
   refine wpAnyH_take (i := 0) (v := ?vr0) rfl (by kernel_rfl) (by kernel_rfl) (by kernel_rfl) (fun _ _ _ h => h) (Or.inl ⟨by rfl, ?yr0⟩) hS ?_
   case yr0 => (intro w' hSw; have z0 := (blk_cell hSw 0).trans rfl; have z1 := (blk_cell hSw 1).trans rfl; have z2 := (blk_cell hSw 2).trans rfl; go_simp; (first | done | with_reducible rfl))
   (try simp only [Act.put, List.setIfInBounds_toArray, List.set_cons_zero, List.set_cons_succ])
   refine wpAnyH_take (i := 1) (v := ?vr1) rfl (by kernel_rfl) (by kernel_rfl) (by kernel_rfl) (fun _ _ _ h => h) (Or.inl ⟨by rfl, ?yr1⟩) hS ?_
   case yr1 => (intro w' hSw; go_simp; (first | done | with_reducible rfl))
   (try simp only [Act.put, List.setIfInBounds_toArray, List.set_cons_zero, List.set_cons_succ])
   refine anyH_two 2 7 (by kernel_rfl) rfl rfl (by rfl) (by rfl) (fun K hK => ?pA) (fun K hK => ?pB)
   case pA =>
    go_simp
    go_at_call 12
    refine (wellspringlaw17_Chain.calls 20 (fun _ => True) _ _ [] 3 ⟨#[]⟩ ⟨#[]⟩ 0 0 (fun _ => True) _ _ [] 0 0 _ _ _ _ _ _ _ _ _ _ (Kd.V_nil _ _ _ _ _) (Kd.V_nil _ _ _ _ _) lv0b).mono ?_
    rintro _ W3 ⟨v0, v6, rfl, ho0, ho1, hb⟩
    obtain ⟨A0, c0, rfl⟩ := Kd.N_slice ho0
    obtain ⟨A6, c6, rfl⟩ := Kd.V_slice ho1
    have HC3 := Aside0.mk (Kd.N_reads' ho0).2
    have HD3 := Aside0.mk (Kd.V_reads' ho1).2
    replace HQ0 := Aside0.mk (blk_below HQ0.out hb)
    replace HW0 := Aside0.mk (below_then HW0.out HW0.out.size hb)
    clear hb
    refine hK.out _ _ HQ0.out ?_
    clear hK K hS
    (try simp only [Act.put, List.setIfInBounds_toArray, List.set_cons_zero, List.set_cons_succ])
    have hS : (fun w' : World => w'.heap[w.heap.size]? = some (.cells #[.string ⟨#[1, 97, 0]⟩, .int .i64 1, .int .i64 1] 23 (0, 0))) W3 := HQ0.out
    clear ho0 ho1
    refine anyH_two 3 7 (by kernel_rfl) rfl rfl (by rfl) (by rfl) (fun K hK => ?pAA) (fun K hK => ?pAB)
    case pAA =>
     go_simp
     go_at_call 11
     refine (tmpl_Make.calls 20 10 ⟨#[1, 97, 0]⟩ 1 1 _ _ [] 3 ⟨#[]⟩ ⟨#[]⟩ 0 0 _ _ [] 0 0 _ _ _ _ _ _ _ _ HC3.out.2 HC3.out.1 HD3.out.2 HD3.out.1 lv2).mono ?_
     rintro _ W5 ⟨v5, rfl, ho5, hb⟩
     obtain ⟨A7, c7, rfl⟩ := Kd.R_slice ho5
     replace HQ0 := Aside0.mk (blk_below HQ0.out hb)
     replace HW0 := Aside0.mk (below_then HW0.out HW0.out.size hb)
     clear hb
     refine hK.out _ _ HQ0.out ?_
     clear hK K hS
     (try simp only [Act.put, List.setIfInBounds_toArray, List.set_cons_zero, List.set_cons_succ])
     have hS : (fun w' : World => w'.heap[w.heap.size]? = some (.cells #[.string ⟨#[1, 97, 0]⟩, .int .i64 1, .int .i64 1] 23 (0, 0))) W5 := HQ0.out
     clear ho5
     refine wpAnyH_take (i := 4) (v := ?vs4) rfl (by kernel_rfl) (by kernel_rfl) (by kernel_rfl) (fun _ _ _ h => h) (Or.inl ⟨by rfl, ?ys4⟩) hS ?_
     case ys4 => (intro w' hSw; go_simp; (first | done | with_reducible rfl))
     (try simp only [Act.put, List.setIfInBounds_toArray, List.set_cons_zero, List.set_cons_succ])
     refine wpAnyH_take (i := 5) (v := ?vs5) rfl (by kernel_rfl) (by kernel_rfl) (by kernel_rfl) (fun _ _ _ h => h) (Or.inl ⟨by rfl, ?ys5⟩) hS ?_
     case ys5 => (intro w' hSw; go_simp; (first | done | with_reducible rfl))
     (try simp only [Act.put, List.setIfInBounds_toArray, List.set_cons_zero, List.set_cons_succ])
     refine wpAnyH_take (i := 6) (v := ?vs6) rfl (by kernel_rfl) (by kernel_rfl) (by kernel_rfl) (fun _ _ _ h => h) (Or.inl ⟨by rfl, ?ys6⟩) hS ?_
     case ys6 => (intro w' hSw; go_simp; (first | done | with_reducible rfl))
     (try simp only [Act.put, List.setIfInBounds_toArray, List.set_cons_zero, List.set_cons_succ])
     refine anyH_one 7 (by kernel_rfl) rfl (by rfl) (fun K hK => ?_)
     go_simp
     have HGz := Aside0.mk (heap_alloc_new W5 (.cells #[.string ⟨#[]⟩, .int .i64 0, .int .i64 0, .int .i64 0, .string ⟨#[]⟩, .slice none 0 0] 36))
     replace HQ0 := Aside0.mk (blk_alloc HQ0.out (.cells #[.string ⟨#[]⟩, .int .i64 0, .int .i64 0, .int .i64 0, .string ⟨#[]⟩, .slice none 0 0] 36))
     have HGB : Aside0 (wc.heap.size ≤ W5.heap.size) := ⟨HW0.out.size⟩
     replace HW0 := Aside0.mk (below_alloc HW0.out (.cells #[.string ⟨#[]⟩, .int .i64 0, .int .i64 0, .int .i64 0, .string ⟨#[]⟩, .slice none 0 0] 36))
     refine hK.out _ _ HQ0.out ?_
     clear hK K hS
     (try simp only [Act.put, List.setIfInBounds_toArray, List.set_cons_zero, List.set_cons_succ])
     generalize hg : W5.heap.size = g2 at HGz HGB ⊢
     clear hg
     generalize W5.alloc (.cells #[.string ⟨#[]⟩, .int .i64 0, .int .i64 0, .int .i64 0, .string ⟨#[]⟩, .slice none 0 0] 36) = Wz at HGz HQ0 HW0  ⊢
     have hS : (fun w' : World => w'.heap[w.heap.size]? = some (.cells #[.string ⟨#[1, 97, 0]⟩, .int .i64 1, .int .i64 1] 23 (0, 0))) Wz := HQ0.out
     have zr := fun j => blk_cell HGz.out j
     have fr := fun j => blk_frozen HGz.out j
     have HNE := Aside0.mk (blk_ne HQ0.out HGz.out (by decide))
     refine anyH_one 8 (by kernel_rfl) rfl (by rfl) (fun K hK => ?_)
     go_simp
     refine hK.out _ _ (blk_far (p := ⟨g2, 5, none⟩) (blk_far (p := ⟨g2, 4, none⟩) (blk_far (p := ⟨g2, 3, none⟩) (blk_far (p := ⟨g2, 2, none⟩) (blk_far (p := ⟨g2, 1, none⟩) (blk_far (p := ⟨g2, 0, none⟩) HQ0.out HNE.out (.string ⟨#[]⟩)) HNE.out (.int .i64 0)) HNE.out (.int .i64 0)) HNE.out (.int .i64 0)) HNE.out (.string ⟨#[]⟩)) HNE.out (.slice A7 0 c7)) ?_
     clear hK K
     (try simp only [Act.put, List.setIfInBounds_toArray, List.set_cons_zero, List.set_cons_succ])
     refine anyH_one 9 (by kernel_rfl) rfl (by rfl) (fun K hK => ?_)
     go_simp
     refine hK.out _ _ (blk_far (p := ⟨g2, 5, none⟩) (blk_far (p := ⟨g2, 4, none⟩) (blk_far (p := ⟨g2, 3, none⟩) (blk_far (p := ⟨g2, 2, none⟩) (blk_far (p := ⟨g2, 1, none⟩) (blk_far (p := ⟨g2, 0, none⟩) HQ0.out HNE.out (.string ⟨#[]⟩)) HNE.out (.int .i64 0)) HNE.out (.int .i64 0)) HNE.out (.int .i64 0)) HNE.out (.string ⟨#[]⟩)) HNE.out (.slice A7 0 c7)) ?_
     clear hK K
     (try simp only [Act.put, List.setIfInBounds_toArray, List.set_cons_zero, List.set_cons_succ])
     refine wpAnyH_done (by kernel_rfl) ?_ _
     clear zr fr hS
     go_wp2_with fail
     go_meet
     have HWZ := Aside0.mk (Below.setCell (Below.setCell (Below.setCell (Below.setCell (Below.setCell (Below.setCell HW0.out (p := ⟨g2, 0, none⟩) HGB.out (.string ⟨#[]⟩)) (p := ⟨g2, 1, none⟩) HGB.out (.int .i64 0)) (p := ⟨g2, 2, none⟩) HGB.out (.int .i64 0)) (p := ⟨g2, 3, none⟩) HGB.out (.int .i64 0)) (p := ⟨g2, 4, none⟩) HGB.out (.string ⟨#[]⟩)) (p := ⟨g2, 5, none⟩) HGB.out (.slice A7 0 c7))
     case rel => exact ⟨rfl, ⟨blk_below HT.out HWZ.out⟩, ⟨Kd.C_below HP.out HWZ.out⟩, ⟨below_then HW.out HW.out.size HWZ.out⟩⟩
    case pAB =>
     go_simp
     have HGz := Aside0.mk (heap_alloc_new W3 (.cells #[.string ⟨#[]⟩, .int .i64 0, .int .i64 0, .int .i64 0, .string ⟨#[]⟩, .slice none 0 0] 36))
     replace HQ0 := Aside0.mk (blk_alloc HQ0.out (.cells #[.string ⟨#[]⟩, .int .i64 0, .int .i64 0, .int .i64 0, .string ⟨#[]⟩, .slice none 0 0] 36))
     have HGB : Aside0 (wc.heap.size ≤ W3.heap.size) := ⟨HW0.out.size⟩
     replace HW0 := Aside0.mk (below_alloc HW0.out (.cells #[.string ⟨#[]⟩, .int .i64 0, .int .i64 0, .int .i64 0, .string ⟨#[]⟩, .slice none 0 0] 36))
     have HCz := Aside0.mk (Kd.C_alloc HC3.out.2 (.cells #[.string ⟨#[]⟩, .int .i64 0, .int .i64 0, .int .i64 0, .string ⟨#[]⟩, .slice none 0 0] 36))
     have HDz := Aside0.mk (Kd.C_alloc HD3.out.2 (.cells #[.string ⟨#[]⟩, .int .i64 0, .int .i64 0, .int .i64 0, .string ⟨#[]⟩, .slice none 0 0] 36))
     refine hK.out _ _ HQ0.out ?_
     clear hK K hS
     (try simp only [Act.put, List.setIfInBounds_toArray, List.set_cons_zero, List.set_cons_succ])
     generalize hg : W3.heap.size = g2 at HGz HGB ⊢
     clear hg
     generalize W3.alloc (.cells #[.string ⟨#[]⟩, .int .i64 0, .int .i64 0, .int .i64 0, .string ⟨#[]⟩, .slice none 0 0] 36) = Wz at HGz HQ0 HW0 HCz HDz ⊢
     have hS : (fun w' : World => w'.heap[w.heap.size]? = some (.cells #[.string ⟨#[1, 97, 0]⟩, .int .i64 1, .int .i64 1] 23 (0, 0))) Wz := HQ0.out
     refine anyH_one 3 (by kernel_rfl) rfl (by rfl) (fun K hK => ?_)
     go_simp
     go_at_call 11
     refine (tmpl_Make.calls 20 10 ⟨#[1, 97, 0]⟩ 1 1 _ _ [] 3 ⟨#[]⟩ ⟨#[]⟩ 0 0 _ _ [] 0 0 _ _ _ _ _ _ _ _ HCz.out HC3.out.1 HDz.out HD3.out.1 lv2).mono ?_
     rintro _ W5 ⟨v5, rfl, ho5, hb⟩
     obtain ⟨A7, c7, rfl⟩ := Kd.R_slice ho5
     replace HQ0 := Aside0.mk (blk_below HQ0.out hb)
     replace HW0 := Aside0.mk (below_then HW0.out HW0.out.size hb)
     replace HGz := Aside0.mk (blk_below HGz.out hb)
     clear hb
     refine hK.out _ _ HQ0.out ?_
     clear hK K hS
     (try simp only [Act.put, List.setIfInBounds_toArray, List.set_cons_zero, List.set_cons_succ])
     have hS : (fun w' : World => w'.heap[w.heap.size]? = some (.cells #[.string ⟨#[1, 97, 0]⟩, .int .i64 1, .int .i64 1] 23 (0, 0))) W5 := HQ0.out
     clear ho5
     refine wpAnyH_take (i := 4) (v := ?vt4) rfl (by kernel_rfl) (by kernel_rfl) (by kernel_rfl) (fun _ _ _ h => h) (Or.inl ⟨by rfl, ?yt4⟩) hS ?_
     case yt4 => (intro w' hSw; go_simp; (first | done | with_reducible rfl))
     (try simp only [Act.put, List.setIfInBounds_toArray, List.set_cons_zero, List.set_cons_succ])
     refine wpAnyH_take (i := 5) (v := ?vt5) rfl (by kernel_rfl) (by kernel_rfl) (by kernel_rfl) (fun _ _ _ h => h) (Or.inl ⟨by rfl, ?yt5⟩) hS ?_
     case yt5 => (intro w' hSw; go_simp; (first | done | with_reducible rfl))
     (try simp only [Act.put, List.setIfInBounds_toArray, List.set_cons_zero, List.set_cons_succ])
     refine wpAnyH_take (i := 6) (v := ?vt6) rfl (by kernel_rfl) (by kernel_rfl) (by kernel_rfl) (fun _ _ _ h => h) (Or.inl ⟨by rfl, ?yt6⟩) hS ?_
     case yt6 => (intro w' hSw; go_simp; (first | done | with_reducible rfl))
     (try simp only [Act.put, List.setIfInBounds_toArray, List.set_cons_zero, List.set_cons_succ])
     have zr := fun j => blk_cell HGz.out j
     have fr := fun j => blk_frozen HGz.out j
     have HNE := Aside0.mk (blk_ne HQ0.out HGz.out (by decide))
     refine anyH_one 8 (by kernel_rfl) rfl (by rfl) (fun K hK => ?_)
     go_simp
     refine hK.out _ _ (blk_far (p := ⟨g2, 5, none⟩) (blk_far (p := ⟨g2, 4, none⟩) (blk_far (p := ⟨g2, 3, none⟩) (blk_far (p := ⟨g2, 2, none⟩) (blk_far (p := ⟨g2, 1, none⟩) (blk_far (p := ⟨g2, 0, none⟩) HQ0.out HNE.out (.string ⟨#[]⟩)) HNE.out (.int .i64 0)) HNE.out (.int .i64 0)) HNE.out (.int .i64 0)) HNE.out (.string ⟨#[]⟩)) HNE.out (.slice A7 0 c7)) ?_
     clear hK K
     (try simp only [Act.put, List.setIfInBounds_toArray, List.set_cons_zero, List.set_cons_succ])
     refine anyH_one 9 (by kernel_rfl) rfl (by rfl) (fun K hK => ?_)
     go_simp
     refine hK.out _ _ (blk_far (p := ⟨g2, 5, none⟩) (blk_far (p := ⟨g2, 4, none⟩) (blk_far (p := ⟨g2, 3, none⟩) (blk_far (p := ⟨g2, 2, none⟩) (blk_far (p := ⟨g2, 1, none⟩) (blk_far (p := ⟨g2, 0, none⟩) HQ0.out HNE.out (.string ⟨#[]⟩)) HNE.out (.int .i64 0)) HNE.out (.int .i64 0)) HNE.out (.int .i64 0)) HNE.out (.string ⟨#[]⟩)) HNE.out (.slice A7 0 c7)) ?_
     clear hK K
     (try simp only [Act.put, List.setIfInBounds_toArray, List.set_cons_zero, List.set_cons_succ])
     refine wpAnyH_done (by kernel_rfl) ?_ _
     clear zr fr hS
     go_wp2_with fail
     go_meet
     have HWZ := Aside0.mk (Below.setCell (Below.setCell (Below.setCell (Below.setCell (Below.setCell (Below.setCell HW0.out (p := ⟨g2, 0, none⟩) HGB.out (.string ⟨#[]⟩)) (p := ⟨g2, 1, none⟩) HGB.out (.int .i64 0)) (p := ⟨g2, 2, none⟩) HGB.out (.int .i64 0)) (p := ⟨g2, 3, none⟩) HGB.out (.int .i64 0)) (p := ⟨g2, 4, none⟩) HGB.out (.string ⟨#[]⟩)) (p := ⟨g2, 5, none⟩) HGB.out (.slice A7 0 c7))
     case rel => exact ⟨rfl, ⟨blk_below HT.out HWZ.out⟩, ⟨Kd.C_below HP.out HWZ.out⟩, ⟨below_then HW.out HW.out.size HWZ.out⟩⟩
   case pB =>
    go_simp
    have HGz := Aside0.mk (heap_alloc_new W2 (.cells #[.string ⟨#[]⟩, .int .i64 0, .int .i64 0, .int .i64 0, .string ⟨#[]⟩, .slice none 0 0] 36))
    replace HQ0 := Aside0.mk (blk_alloc HQ0.out (.cells #[.string ⟨#[]⟩, .int .i64 0, .int .i64 0, .int .i64 0, .string ⟨#[]⟩, .slice none 0 0] 36))
    have HGB : Aside0 (wc.heap.size ≤ W2.heap.size) := ⟨HW0.out.size⟩
    replace HW0 := Aside0.mk (below_alloc HW0.out (.cells #[.string ⟨#[]⟩, .int .i64 0, .int .i64 0, .int .i64 0, .string ⟨#[]⟩, .slice none 0 0] 36))
    refine hK.out _ _ HQ0.out ?_
    clear hK K hS
    (try simp only [Act.put, List.setIfInBounds_toArray, List.set_cons_zero, List.set_cons_succ])
    generalize hg : W2.heap.size = g2 at HGz HGB ⊢
    clear hg
    generalize W2.alloc (.cells #[.string ⟨#[]⟩, .int .i64 0, .int .i64 0, .int .i64 0, .string ⟨#[]⟩, .slice none 0 0] 36) = Wz at HGz HQ0 HW0  ⊢
    have hS : (fun w' : World => w'.heap[w.heap.size]? = some (.cells #[.string ⟨#[1, 97, 0]⟩, .int .i64 1, .int .i64 1] 23 (0, 0))) Wz := HQ0.out
    refine anyH_one 2 (by kernel_rfl) rfl (by rfl) (fun K hK => ?_)
    go_simp
    go_at_call 12
    refine (wellspringlaw17_Chain.calls 20 (fun _ => True) _ _ [] 3 ⟨#[]⟩ ⟨#[]⟩ 0 0 (fun _ => True) _ _ [] 0 0 _ _ _ _ _ _ _ _ _ _ (Kd.V_nil _ _ _ _ _) (Kd.V_nil _ _ _ _ _) lv0b).mono ?_
    rintro _ W3 ⟨v0, v6, rfl, ho0, ho1, hb⟩
    obtain ⟨A0, c0, rfl⟩ := Kd.N_slice ho0
    obtain ⟨A6, c6, rfl⟩ := Kd.V_slice ho1
    have HC3 := Aside0.mk (Kd.N_reads' ho0).2
    have HD3 := Aside0.mk (Kd.V_reads' ho1).2
    replace HQ0 := Aside0.mk (blk_below HQ0.out hb)
    replace HW0 := Aside0.mk (below_then HW0.out HW0.out.size hb)
    replace HGz := Aside0.mk (blk_below HGz.out hb)
    clear hb
    refine hK.out _ _ HQ0.out ?_
    clear hK K hS
    (try simp only [Act.put, List.setIfInBounds_toArray, List.set_cons_zero, List.set_cons_succ])
    have hS : (fun w' : World => w'.heap[w.heap.size]? = some (.cells #[.string ⟨#[1, 97, 0]⟩, .int .i64 1, .int .i64 1] 23 (0, 0))) W3 := HQ0.out
    clear ho0 ho1
    refine anyH_one 3 (by kernel_rfl) rfl (by rfl) (fun K hK => ?_)
    go_simp
    go_at_call 11
    refine (tmpl_Make.calls 20 10 ⟨#[1, 97, 0]⟩ 1 1 _ _ [] 3 ⟨#[]⟩ ⟨#[]⟩ 0 0 _ _ [] 0 0 _ _ _ _ _ _ _ _ HC3.out.2 HC3.out.1 HD3.out.2 HD3.out.1 lv2).mono ?_
    rintro _ W5 ⟨v5, rfl, ho5, hb⟩
    obtain ⟨A7, c7, rfl⟩ := Kd.R_slice ho5
    replace HQ0 := Aside0.mk (blk_below HQ0.out hb)
    replace HW0 := Aside0.mk (below_then HW0.out HW0.out.size hb)
    replace HGz := Aside0.mk (blk_below HGz.out hb)
    clear hb
    refine hK.out _ _ HQ0.out ?_
    clear hK K hS
    (try simp only [Act.put, List.setIfInBounds_toArray, List.set_cons_zero, List.set_cons_succ])
    have hS : (fun w' : World => w'.heap[w.heap.size]? = some (.cells #[.string ⟨#[1, 97, 0]⟩, .int .i64 1, .int .i64 1] 23 (0, 0))) W5 := HQ0.out
    clear ho5
    refine wpAnyH_take (i := 4) (v := ?vu4) rfl (by kernel_rfl) (by kernel_rfl) (by kernel_rfl) (fun _ _ _ h => h) (Or.inl ⟨by rfl, ?yu4⟩) hS ?_
    case yu4 => (intro w' hSw; go_simp; (first | done | with_reducible rfl))
    (try simp only [Act.put, List.setIfInBounds_toArray, List.set_cons_zero, List.set_cons_succ])
    refine wpAnyH_take (i := 5) (v := ?vu5) rfl (by kernel_rfl) (by kernel_rfl) (by kernel_rfl) (fun _ _ _ h => h) (Or.inl ⟨by rfl, ?yu5⟩) hS ?_
    case yu5 => (intro w' hSw; go_simp; (first | done | with_reducible rfl))
    (try simp only [Act.put, List.setIfInBounds_toArray, List.set_cons_zero, List.set_cons_succ])
    refine wpAnyH_take (i := 6) (v := ?vu6) rfl (by kernel_rfl) (by kernel_rfl) (by kernel_rfl) (fun _ _ _ h => h) (Or.inl ⟨by rfl, ?yu6⟩) hS ?_
    case yu6 => (intro w' hSw; go_simp; (first | done | with_reducible rfl))
    (try simp only [Act.put, List.setIfInBounds_toArray, List.set_cons_zero, List.set_cons_succ])
    have zr := fun j => blk_cell HGz.out j
    have fr := fun j => blk_frozen HGz.out j
    have HNE := Aside0.mk (blk_ne HQ0.out HGz.out (by decide))
    refine anyH_one 8 (by kernel_rfl) rfl (by rfl) (fun K hK => ?_)
    go_simp
    refine hK.out _ _ (blk_far (p := ⟨g2, 5, none⟩) (blk_far (p := ⟨g2, 4, none⟩) (blk_far (p := ⟨g2, 3, none⟩) (blk_far (p := ⟨g2, 2, none⟩) (blk_far (p := ⟨g2, 1, none⟩) (blk_far (p := ⟨g2, 0, none⟩) HQ0.out HNE.out (.string ⟨#[]⟩)) HNE.out (.int .i64 0)) HNE.out (.int .i64 0)) HNE.out (.int .i64 0)) HNE.out (.string ⟨#[]⟩)) HNE.out (.slice A7 0 c7)) ?_
    clear hK K
    (try simp only [Act.put, List.setIfInBounds_toArray, List.set_cons_zero, List.set_cons_succ])
    refine anyH_one 9 (by kernel_rfl) rfl (by rfl) (fun K hK => ?_)
    go_simp
    refine hK.out _ _ (blk_far (p := ⟨g2, 5, none⟩) (blk_far (p := ⟨g2, 4, none⟩) (blk_far (p := ⟨g2, 3, none⟩) (blk_far (p := ⟨g2, 2, none⟩) (blk_far (p := ⟨g2, 1, none⟩) (blk_far (p := ⟨g2, 0, none⟩) HQ0.out HNE.out (.string ⟨#[]⟩)) HNE.out (.int .i64 0)) HNE.out (.int .i64 0)) HNE.out (.int .i64 0)) HNE.out (.string ⟨#[]⟩)) HNE.out (.slice A7 0 c7)) ?_
    clear hK K
    (try simp only [Act.put, List.setIfInBounds_toArray, List.set_cons_zero, List.set_cons_succ])
    refine wpAnyH_done (by kernel_rfl) ?_ _
    clear zr fr hS
    go_wp2_with fail
    go_meet
    have HWZ := Aside0.mk (Below.setCell (Below.setCell (Below.setCell (Below.setCell (Below.setCell (Below.setCell HW0.out (p := ⟨g2, 0, none⟩) HGB.out (.string ⟨#[]⟩)) (p := ⟨g2, 1, none⟩) HGB.out (.int .i64 0)) (p := ⟨g2, 2, none⟩) HGB.out (.int .i64 0)) (p := ⟨g2, 3, none⟩) HGB.out (.int .i64 0)) (p := ⟨g2, 4, none⟩) HGB.out (.string ⟨#[]⟩)) (p := ⟨g2, 5, none⟩) HGB.out (.slice A7 0 c7))
    case rel => exact ⟨rfl, ⟨blk_below HT.out HWZ.out⟩, ⟨Kd.C_below HP.out HWZ.out⟩, ⟨below_then HW.out HW.out.size HWZ.out⟩⟩
  case rest =>
   obtain ⟨rfl, HT1, HP1, HW1⟩ := hcut
   clear HQ HT HP HW
   have zt := fun j => blk_cell HT1.out j
   have hz1 : ((lvT.size : Int) == 32) = true := by kernel_rfl
   have hz2 : ((lvP.length : Int) == 1) = true := by kernel_rfl
   go_wp2_with fail
   go_at_call 18
   refine (tmpl_Template_Check.calls 20 _ _ _ _ _ _ _ lvP _ _ HP1.out HL.out lv3).mono ?_
   rintro _ W11 ⟨rfl, hb⟩
   replace HT1 := Aside0.mk (blk_below HT1.out hb)
   replace HP1 := Aside0.mk (Kd.C_below HP1.out hb)
   replace HW1 := Aside0.mk (below_then HW1.out HW1.out.size hb)
   clear hb zt
   have zt := fun j => blk_cell HT1.out j
   go_wp2_with fail
   go_at_call 20
   refine (tmpl_Template_Live.calls 20 _ _ _ _ _ _ _ lvP _ _ _ HP1.out HL.out lv4).mono ?_
   rintro _ W12 ⟨rfl, hb⟩
   replace HT1 := Aside0.mk (blk_below HT1.out hb)
   replace HP1 := Aside0.mk (Kd.C_below HP1.out hb)
   replace HW1 := Aside0.mk (below_then HW1.out HW1.out.size hb)
   clear hb zt
   have zt := fun j => blk_cell HT1.out j
   go_wp2_with fail
   go_at_call 20
   refine (tmpl_Template_Live.calls 20 _ _ _ _ _ _ _ lvP _ _ _ HP1.out HL.out lv5).mono ?_
   rintro _ W13 ⟨rfl, hb⟩
   replace HT1 := Aside0.mk (blk_below HT1.out hb)
   replace HP1 := Aside0.mk (Kd.C_below HP1.out hb)
   replace HW1 := Aside0.mk (below_then HW1.out HW1.out.size hb)
   clear hb zt
   have zt := fun j => blk_cell HT1.out j
   go_wp2_with fail
   go_at_call 22
   refine (tmpl_Template_Part.calls 20 _ _ _ _ _ _ _ lvP _ _ _ _ _ HP1.out HL.out lv6).mono ?_
   rintro _ W14 ⟨rfl, hb⟩
   replace HT1 := Aside0.mk (blk_below HT1.out hb)
   replace HP1 := Aside0.mk (Kd.C_below HP1.out hb)
   replace HW1 := Aside0.mk (below_then HW1.out HW1.out.size hb)
   clear hb zt
   have zt := fun j => blk_cell HT1.out j
   go_wp2_with fail
   go_at_call 22
   refine (tmpl_Template_Part.calls 20 _ _ _ _ _ _ _ lvP _ _ _ _ _ HP1.out HL.out lv7).mono ?_
   rintro _ W15 ⟨rfl, hb⟩
   replace HT1 := Aside0.mk (blk_below HT1.out hb)
   replace HP1 := Aside0.mk (Kd.C_below HP1.out hb)
   replace HW1 := Aside0.mk (below_then HW1.out HW1.out.size hb)
   clear hb zt
   have zt := fun j => blk_cell HT1.out j
   go_wp2_with fail
   go_at_call 22
   refine (tmpl_Template_Part.calls 20 _ _ _ _ _ _ _ lvP _ _ _ _ _ HP1.out HL.out lv8).mono ?_
   rintro _ W16 ⟨rfl, hb⟩
   replace HT1 := Aside0.mk (blk_below HT1.out hb)
   replace HP1 := Aside0.mk (Kd.C_below HP1.out hb)
   replace HW1 := Aside0.mk (below_then HW1.out HW1.out.size hb)
   clear hb zt
   have zt := fun j => blk_cell HT1.out j
   go_wp2_with fail
   go_at_call 18
   have hz := row_lit (d := k69) (e := 69) (base := 0) (W := W16) (xs := [⟨[], 0, false⟩]) (inner := [.slice none 0 0, .int .i64 0, .bool false]) (Reps.c3 (k69_mkM _ _ _ (⟨[], 0, false⟩ : S69) (Kd.R_nil _ _ _ _ _)) (Reps.none _ _)) (Nat.zero_le _) (by decide)
   refine (tmpl_Template_Check.calls 20 _ _ _ _ _ _ _ [⟨[], 0, false⟩] _ _ (Kd.R_reads' hz).2.2 (Kd.R_reads' hz).2.1 lv9).mono ?_
   rintro _ W17 ⟨rfl, hb⟩
   have HW2 := Aside0.mk (below_then (below_alloc HW1.out _) (below_alloc HW1.out _).size hb)
   clear hb zt hz
   go_wp2_with fail
   go_ret
   exact ⟨rfl, HW2.out⟩
end
end Go.Proofs.Ytedjodnaalconaa.P
end
section
namespace Go.Proofs.Ytedjodnaalconaa.P
open Go.RowKit Go.Proofs.YtedjodnaalconaaW.PrintWords Go.Proofs.YtedjodnaalconaaW.PrintLast Go.Proofs.YtedjodnaalconaaW.PrintMore
attribute [local go_sem] max2_int min2_int max_two min_two max_three min_three max_four min_four
set_option linter.unusedVariables false
set_option linter.unusedSimpArgs false
def wellspringref18_Small.l0 : Nat → Int → ByteArray → Int → Int → Int → ByteArray → List (S74) → Option (Bool)
 | 0, _, _, _, _, _, _, _ => none
 | k + 1, x3, x411000, x411001, x411002, x411003, x411004, x411005 => if x3 < (x411005.length : Int) then (if 0 ≤ x3 then (if (((rd_T74 x411005 x3).f0).length : Int) > 60 then (some false) else (if (x411005.length : Int) > 20 then (some false) else (wellspringref18_Small.l0 k (wrap64 (x3 + 1)) x411000 x411001 x411002 x411003 x411004 x411005))) else (none)) else (if (x411004.size : Int) ≤ 20000 then (some (decide ((x411000.size : Int) ≤ 300))) else (some false))
def wellspringref18_Small.f (k : Nat) (a0_0 : ByteArray) (a0_1 : Int) (a0_2 : Int) (a0_3 : Int) (a0_4 : ByteArray) (l0_5 : List (S74)) : Option (Bool) := wellspringref18_Small.l0 k 0 a0_0 a0_1 a0_2 a0_3 a0_4 l0_5
theorem wellspringref18_Small.mono_l : ∀ k, (∀ y0 y1 y2 y3 y4 y5 y6, LeO (wellspringref18_Small.l0 k y0 y1 y2 y3 y4 y5 y6) (wellspringref18_Small.l0 (k + 1) y0 y1 y2 y3 y4 y5 y6))
 | 0 => fun _ _ _ _ _ _ _ r h => by simp [wellspringref18_Small.l0] at h
 | k + 1 => by
  have ih0 := wellspringref18_Small.mono_l k
  ·intro y0 y1 y2 y3 y4 y5 y6
   unfold wellspringref18_Small.l0
   repeat' first
   | (with_reducible exact ih0 _ _ _ _ _ _ _)
   | (with_reducible exact LeO.refl _)
   | (with_reducible exact LeO.none _)
   | (with_reducible refine LeO.ite ?_ ?_)
   | (with_reducible refine LeO.bind ?_ (fun _ => ?_))
   | exact ih0 _ _ _ _ _ _ _
   | exact LeO.none _
   | refine LeO.ite ?_ ?_
   | refine LeO.bind ?_ (fun _ => ?_)
theorem wellspringref18_Small.mono : ∀ a0 a1 a2 a3 a4 a5 k, LeO (wellspringref18_Small.f k a0 a1 a2 a3 a4 a5) (wellspringref18_Small.f (k + 1) a0 a1 a2 a3 a4 a5) := by
 intro a0 a1 a2 a3 a4 a5 k
 have ih0 := wellspringref18_Small.mono_l k
 unfold wellspringref18_Small.f
 repeat' first
   | (with_reducible exact ih0 _ _ _ _ _ _ _)
   | (with_reducible exact LeO.refl _)
   | (with_reducible exact LeO.none _)
   | (with_reducible refine LeO.ite ?_ ?_)
   | (with_reducible refine LeO.bind ?_ (fun _ => ?_))
   | exact ih0 _ _ _ _ _ _ _
   | exact LeO.none _
   | refine LeO.ite ?_ ?_
   | refine LeO.bind ?_ (fun _ => ?_)
set_option maxHeartbeats 8000000 in
set_option maxRecDepth 100000 in
theorem wellspringref18_Small.calls (k : Nat) (a0_0 : ByteArray) (a0_1 : Int) (a0_2 : Int) (a0_3 : Int) (a0_4 : ByteArray) (A0_5 : Option Addr) (c0_5 : Nat) (l0_5 : List (S74)) (r : Bool) (w : World) (hr0_5 : Kd.C k74 w A0_5 l0_5.length l0_5) (hc0_5 : l0_5.length ≤ c0_5) (h : wellspringref18_Small.f k a0_0 a0_1 a0_2 a0_3 a0_4 l0_5 = some r) :
  Calls Try.prog 16 #[.agg #[.string a0_0, .int .i64 a0_1, .int .i64 a0_2, .int .i64 a0_3, .string a0_4, .slice A0_5 l0_5.length c0_5]] w fun e w' => e = .returned (.bool r) ∧ Below w.heap.size w w' := by
 have hu46 := Try.underlying46
 have HR0_5 := Aside0.mk hr0_5
 have HC0_5 := Aside0.mk hc0_5
 clear hr0_5 hc0_5
 have HB := Aside0.mk (Below.refl w.heap.size w)
 have H : (wellspringref18_Small.l0 k 0 a0_0 a0_1 a0_2 a0_3 a0_4 l0_5) = some r := h
 clear h
 have H' := Aside0.mk H
 clear H
 go_enter Try.func16, Try.ntmps16
 go_wp2_with (first | ((with_reducible refine gate_dst (N := 1) rfl ?_); (try (refine gate_guard (by rfl) ?_; dsimp only)); refine box_event ?hg (N := 1) ?hd (cs := #[.string a0_0, .int .i64 a0_1, .int .i64 a0_2, .int .i64 a0_3, .string a0_4, .slice A0_5 l0_5.length c0_5]) (t := 46) ?hr ?_; (case hd => rfl); (case hg => rfl); (case hr => first | (go_simp; done) | (go_simp; rfl)); intro gb410 hg w2 hbox hb; have n0_ := Aside0.mk (below_step (by repeat (first | (with_reducible first | exact HB.out | apply below_alloc | apply pw_below_drewN | apply below_drew1) | exact HB.out)) hb); have n1_ := Aside0.mk (hbox); have n2_ := Aside0.mk ((by rw [hg]; exact (below_size (by repeat (first | (with_reducible first | exact HB.out | apply below_alloc | apply pw_below_drewN | apply below_drew1) | exact HB.out))) : w.heap.size ≤ gb410)); have n3_ := Aside0.mk ((by rw [hg]; exact (below_size (by repeat (first | (with_reducible first | exact HB.out | apply below_alloc | apply pw_below_drewN | apply below_drew1) | exact HB.out))) : w.heap.size ≤ gb410)); clear HB; have HB := n0_; have BK410 := n1_; have GW410 := n2_; have GE410 := n3_; clear n0_ n1_ n2_ n3_; clear hb hbox hg))
 go_loopg [3] k (fun kq v3 w' => ∃ (x3_1 : Int), v3 = .int .i64 x3_1 ∧ Aside0 (wellspringref18_Small.l0 kq x3_1 a0_0 a0_1 a0_2 a0_3 a0_4 l0_5 = some r) ∧ Aside0 (kq ≤ k) ∧ Aside0 (w'.heap[gb410]? = some (.cells #[.string a0_0, .int .i64 a0_1, .int .i64 a0_2, .int .i64 a0_3, .string a0_4, (.slice A0_5 l0_5.length c0_5)] 46 (0, 0))) ∧ Aside0 (Below w.heap.size w w'))
 case atStart => exact ⟨(0), (by first | rfl | (simp; done) | (simp [*]; done)), H', ⟨Nat.le_refl _⟩, ⟨by (with_reducible repeat (first | refine blk_drewN ?_ _ | refine blk_drew ?_ | refine blk_alloc ?_ _)); exact BK410.out⟩, ⟨by repeat (first | (with_reducible first | exact HB.out | apply below_alloc | apply pw_below_drewN | apply below_drew1 | refine below_set ?_ GE410.out) | exact HB.out)⟩⟩
 case round =>
  clear H'
  try clear c1
  try clear p2
  obtain ⟨x3_1, rfl, HA, HK1, BK410, HB⟩ := hrel
  cases gk with
  | zero => exact absurd HA.out (by simp [wellspringref18_Small.l0])
  | succ k1 =>
   have H := HA.out
   clear HA
   simp only [wellspringref18_Small.l0] at H
   by_cases c3 : x3_1 < (l0_5.length : Int)
   ·rw [if_pos c3] at H
    have c3b0 : decide (x3_1 < (l0_5.length : Int)) = true := decide_eq_true c3
    clear c3
    by_cases c4 : 0 ≤ x3_1
    ·rw [if_pos c4] at H
     have c4b0 : decide (0 ≤ x3_1) = true := decide_eq_true c4
     clear c4
     by_cases c5 : (((rd_T74 l0_5 x3_1).f0).length : Int) > 60
     ·rw [if_pos c5] at H
      have c5b0 : decide (60 < (((rd_T74 l0_5 x3_1).f0).length : Int)) = true := decide_eq_true c5
      have c5b1 : decide (60 < ((rd_T74 l0_5 x3_1).f0).length) = true := decide_eq_true (by omega)
      clear c5
      obtain rfl := Option.some.inj H
      have hcz6_0 : wr.cell? ⟨gb410, 0, none⟩ = some (.string a0_0) := (blk_cell BK410.out 0).trans rfl
      have hcz6_1 : wr.cell? ⟨gb410, 1, none⟩ = some (.int .i64 a0_1) := (blk_cell BK410.out 1).trans rfl
      have hcz6_2 : wr.cell? ⟨gb410, 2, none⟩ = some (.int .i64 a0_2) := (blk_cell BK410.out 2).trans rfl
      have hcz6_3 : wr.cell? ⟨gb410, 3, none⟩ = some (.int .i64 a0_3) := (blk_cell BK410.out 3).trans rfl
      have hcz6_4 : wr.cell? ⟨gb410, 4, none⟩ = some (.string a0_4) := (blk_cell BK410.out 4).trans rfl
      have hcz6_5 : wr.cell? ⟨gb410, 5, none⟩ = some (.slice A0_5 l0_5.length c0_5) := (blk_cell BK410.out 5).trans rfl
      have hfz6_0 := blk_frozen BK410.out 0
      have hfz6_1 := blk_frozen BK410.out 1
      have hfz6_2 := blk_frozen BK410.out 2
      have hfz6_3 := blk_frozen BK410.out 3
      have hfz6_4 := blk_frozen BK410.out 4
      have hfz6_5 := blk_frozen BK410.out 5
      have p411 : 0 ≤ (x3_1 : Int) := of_decide_eq_true (by first | (with_reducible assumption) | assumption)
      have q411 : x3_1 < (l0_5.length : Int) := of_decide_eq_true (by first | (with_reducible assumption) | assumption)
      obtain ⟨ad411, A411_0, c411_0, e411, hx411_0, hx411_1, hx411_2, hl411_0, hi411_0⟩ := at_T74 HR0_5.out x3_1 p411 q411
      cases e411
      replace hx411_0 := (HB.out.cell (World.block_lt_of_cell? w _ hx411_0)).trans hx411_0
      replace hx411_1 := (HB.out.cell (World.block_lt_of_cell? w _ hx411_1)).trans hx411_1
      replace hx411_2 := (HB.out.cell (World.block_lt_of_cell? w _ hx411_2)).trans hx411_2
      have HR411_0 := Aside0.mk hi411_0
      have HC411_0 := Aside0.mk hl411_0
      clear hi411_0 hl411_0
      replace p411 := eq_true p411
      replace q411 := eq_true q411
      go_wp2
      go_ret
      exact ⟨by first | rfl | (simp [errW_none, errW_some] <;> rfl) | (simp [*, errW_none, errW_some] <;> rfl), by repeat (first | (with_reducible first | exact HB.out | apply below_alloc | apply pw_below_drewN | apply below_drew1 | refine below_set ?_ GE410.out) | exact HB.out)⟩
     ·rw [if_neg c5] at H
      have c5b0 : decide (60 < (((rd_T74 l0_5 x3_1).f0).length : Int)) = false := decide_eq_false c5
      have c5b1 : decide (60 < ((rd_T74 l0_5 x3_1).f0).length) = false := decide_eq_false (by omega)
      clear c5
      by_cases c7 : (l0_5.length : Int) > 20
      ·rw [if_pos c7] at H
       have c7b0 : decide (20 < (l0_5.length : Int)) = true := decide_eq_true c7
       have c7b1 : decide (20 < l0_5.length) = true := decide_eq_true (by omega)
       clear c7
       obtain rfl := Option.some.inj H
       have hcz8_0 : wr.cell? ⟨gb410, 0, none⟩ = some (.string a0_0) := (blk_cell BK410.out 0).trans rfl
       have hcz8_1 : wr.cell? ⟨gb410, 1, none⟩ = some (.int .i64 a0_1) := (blk_cell BK410.out 1).trans rfl
       have hcz8_2 : wr.cell? ⟨gb410, 2, none⟩ = some (.int .i64 a0_2) := (blk_cell BK410.out 2).trans rfl
       have hcz8_3 : wr.cell? ⟨gb410, 3, none⟩ = some (.int .i64 a0_3) := (blk_cell BK410.out 3).trans rfl
       have hcz8_4 : wr.cell? ⟨gb410, 4, none⟩ = some (.string a0_4) := (blk_cell BK410.out 4).trans rfl
       have hcz8_5 : wr.cell? ⟨gb410, 5, none⟩ = some (.slice A0_5 l0_5.length c0_5) := (blk_cell BK410.out 5).trans rfl
       have hfz8_0 := blk_frozen BK410.out 0
       have hfz8_1 := blk_frozen BK410.out 1
       have hfz8_2 := blk_frozen BK410.out 2
       have hfz8_3 := blk_frozen BK410.out 3
       have hfz8_4 := blk_frozen BK410.out 4
       have hfz8_5 := blk_frozen BK410.out 5
       have p411 : 0 ≤ (x3_1 : Int) := of_decide_eq_true (by first | (with_reducible assumption) | assumption)
       have q411 : x3_1 < (l0_5.length : Int) := of_decide_eq_true (by first | (with_reducible assumption) | assumption)
       obtain ⟨ad411, A411_0, c411_0, e411, hx411_0, hx411_1, hx411_2, hl411_0, hi411_0⟩ := at_T74 HR0_5.out x3_1 p411 q411
       cases e411
       replace hx411_0 := (HB.out.cell (World.block_lt_of_cell? w _ hx411_0)).trans hx411_0
       replace hx411_1 := (HB.out.cell (World.block_lt_of_cell? w _ hx411_1)).trans hx411_1
       replace hx411_2 := (HB.out.cell (World.block_lt_of_cell? w _ hx411_2)).trans hx411_2
       have HR411_0 := Aside0.mk hi411_0
       have HC411_0 := Aside0.mk hl411_0
       clear hi411_0 hl411_0
       replace p411 := eq_true p411
       replace q411 := eq_true q411
       go_wp2
       go_ret
       exact ⟨by first | rfl | (simp [errW_none, errW_some] <;> rfl) | (simp [*, errW_none, errW_some] <;> rfl), by repeat (first | (with_reducible first | exact HB.out | apply below_alloc | apply pw_below_drewN | apply below_drew1 | refine below_set ?_ GE410.out) | exact HB.out)⟩
      ·rw [if_neg c7] at H
       have c7b0 : decide (20 < (l0_5.length : Int)) = false := decide_eq_false c7
       have c7b1 : decide (20 < l0_5.length) = false := decide_eq_false (by omega)
       clear c7
       have H' := Aside0.mk H
       clear H
       have hcz9_0 : wr.cell? ⟨gb410, 0, none⟩ = some (.string a0_0) := (blk_cell BK410.out 0).trans rfl
       have hcz9_1 : wr.cell? ⟨gb410, 1, none⟩ = some (.int .i64 a0_1) := (blk_cell BK410.out 1).trans rfl
       have hcz9_2 : wr.cell? ⟨gb410, 2, none⟩ = some (.int .i64 a0_2) := (blk_cell BK410.out 2).trans rfl
       have hcz9_3 : wr.cell? ⟨gb410, 3, none⟩ = some (.int .i64 a0_3) := (blk_cell BK410.out 3).trans rfl
       have hcz9_4 : wr.cell? ⟨gb410, 4, none⟩ = some (.string a0_4) := (blk_cell BK410.out 4).trans rfl
       have hcz9_5 : wr.cell? ⟨gb410, 5, none⟩ = some (.slice A0_5 l0_5.length c0_5) := (blk_cell BK410.out 5).trans rfl
       have hfz9_0 := blk_frozen BK410.out 0
       have hfz9_1 := blk_frozen BK410.out 1
       have hfz9_2 := blk_frozen BK410.out 2
       have hfz9_3 := blk_frozen BK410.out 3
       have hfz9_4 := blk_frozen BK410.out 4
       have hfz9_5 := blk_frozen BK410.out 5
       have p411 : 0 ≤ (x3_1 : Int) := of_decide_eq_true (by first | (with_reducible assumption) | assumption)
       have q411 : x3_1 < (l0_5.length : Int) := of_decide_eq_true (by first | (with_reducible assumption) | assumption)
       obtain ⟨ad411, A411_0, c411_0, e411, hx411_0, hx411_1, hx411_2, hl411_0, hi411_0⟩ := at_T74 HR0_5.out x3_1 p411 q411
       cases e411
       replace hx411_0 := (HB.out.cell (World.block_lt_of_cell? w _ hx411_0)).trans hx411_0
       replace hx411_1 := (HB.out.cell (World.block_lt_of_cell? w _ hx411_1)).trans hx411_1
       replace hx411_2 := (HB.out.cell (World.block_lt_of_cell? w _ hx411_2)).trans hx411_2
       have HR411_0 := Aside0.mk hi411_0
       have HC411_0 := Aside0.mk hl411_0
       clear hi411_0 hl411_0
       replace p411 := eq_true p411
       replace q411 := eq_true q411
       go_wp2
       go_roundg k1
       case measure => have := HK1.out; omega
       case rel => exact ⟨(wrap64 (x3_1 + 1)), (by first | rfl | (simp; done) | (simp [*]; done)), H', ⟨by have := HK1.out; omega⟩, ⟨by (with_reducible repeat (first | refine blk_drewN ?_ _ | refine blk_drew ?_ | refine blk_alloc ?_ _)); exact BK410.out⟩, ⟨by repeat (first | (with_reducible first | exact HB.out | apply below_alloc | apply pw_below_drewN | apply below_drew1 | refine below_set ?_ GE410.out) | exact HB.out)⟩⟩
    ·rw [if_neg c4] at H
     exact absurd H (by simp)
   ·rw [if_neg c3] at H
    have c3b0 : decide (x3_1 < (l0_5.length : Int)) = false := decide_eq_false c3
    clear c3
    by_cases c10 : (a0_4.size : Int) ≤ 20000
    ·rw [if_pos c10] at H
     have c10b0 : decide ((a0_4.size : Int) ≤ 20000) = true := decide_eq_true c10
     have c10b1 : decide (a0_4.size ≤ 20000) = true := decide_eq_true (by omega)
     clear c10
     obtain rfl := Option.some.inj H
     have hcz11_0 : wr.cell? ⟨gb410, 0, none⟩ = some (.string a0_0) := (blk_cell BK410.out 0).trans rfl
     have hcz11_1 : wr.cell? ⟨gb410, 1, none⟩ = some (.int .i64 a0_1) := (blk_cell BK410.out 1).trans rfl
     have hcz11_2 : wr.cell? ⟨gb410, 2, none⟩ = some (.int .i64 a0_2) := (blk_cell BK410.out 2).trans rfl
     have hcz11_3 : wr.cell? ⟨gb410, 3, none⟩ = some (.int .i64 a0_3) := (blk_cell BK410.out 3).trans rfl
     have hcz11_4 : wr.cell? ⟨gb410, 4, none⟩ = some (.string a0_4) := (blk_cell BK410.out 4).trans rfl
     have hcz11_5 : wr.cell? ⟨gb410, 5, none⟩ = some (.slice A0_5 l0_5.length c0_5) := (blk_cell BK410.out 5).trans rfl
     have hfz11_0 := blk_frozen BK410.out 0
     have hfz11_1 := blk_frozen BK410.out 1
     have hfz11_2 := blk_frozen BK410.out 2
     have hfz11_3 := blk_frozen BK410.out 3
     have hfz11_4 := blk_frozen BK410.out 4
     have hfz11_5 := blk_frozen BK410.out 5
     go_wp2
     go_ret
     exact ⟨by first | rfl | (simp [errW_none, errW_some] <;> rfl) | (simp [*, errW_none, errW_some] <;> rfl), by repeat (first | (with_reducible first | exact HB.out | apply below_alloc | apply pw_below_drewN | apply below_drew1 | refine below_set ?_ GE410.out) | exact HB.out)⟩
    ·rw [if_neg c10] at H
     have c10b0 : decide ((a0_4.size : Int) ≤ 20000) = false := decide_eq_false c10
     have c10b1 : decide (a0_4.size ≤ 20000) = false := decide_eq_false (by omega)
     clear c10
     obtain rfl := Option.some.inj H
     have hcz12_0 : wr.cell? ⟨gb410, 0, none⟩ = some (.string a0_0) := (blk_cell BK410.out 0).trans rfl
     have hcz12_1 : wr.cell? ⟨gb410, 1, none⟩ = some (.int .i64 a0_1) := (blk_cell BK410.out 1).trans rfl
     have hcz12_2 : wr.cell? ⟨gb410, 2, none⟩ = some (.int .i64 a0_2) := (blk_cell BK410.out 2).trans rfl
     have hcz12_3 : wr.cell? ⟨gb410, 3, none⟩ = some (.int .i64 a0_3) := (blk_cell BK410.out 3).trans rfl
     have hcz12_4 : wr.cell? ⟨gb410, 4, none⟩ = some (.string a0_4) := (blk_cell BK410.out 4).trans rfl
     have hcz12_5 : wr.cell? ⟨gb410, 5, none⟩ = some (.slice A0_5 l0_5.length c0_5) := (blk_cell BK410.out 5).trans rfl
     have hfz12_0 := blk_frozen BK410.out 0
     have hfz12_1 := blk_frozen BK410.out 1
     have hfz12_2 := blk_frozen BK410.out 2
     have hfz12_3 := blk_frozen BK410.out 3
     have hfz12_4 := blk_frozen BK410.out 4
     have hfz12_5 := blk_frozen BK410.out 5
     go_wp2
     go_ret
     exact ⟨by first | rfl | (simp [errW_none, errW_some] <;> rfl) | (simp [*, errW_none, errW_some] <;> rfl), by repeat (first | (with_reducible first | exact HB.out | apply below_alloc | apply pw_below_drewN | apply below_drew1 | refine below_set ?_ GE410.out) | exact HB.out)⟩
end Go.Proofs.Ytedjodnaalconaa.P
end
section
namespace Go.Proofs.Ytedjodnaalconaa.P
open Go.RowKit Go.Proofs.YtedjodnaalconaaW.PrintWords Go.Proofs.YtedjodnaalconaaW.PrintLast Go.Proofs.YtedjodnaalconaaW.PrintMore
attribute [local go_sem] max2_int min2_int max_two min_two max_three min_three max_four min_four
set_option linter.unusedVariables false
set_option linter.unusedSimpArgs false
def wellspringlaw18_TmplTurned.j0 : Nat → Int → Bool → ByteArray → Int → Int → Int → ByteArray → List (S74) → Int → Int → Option (Bool)
 | 0, _, _, _, _, _, _, _, _, _, _ => none
 | k + 1, x1, x34, x554000, x554001, x554002, x554003, x554004, x554005, x555000, x555001 => if x34 = true then ((wellspringlaw18_live.f).bind fun t556 => (some t556)) else ((wellspringlaw18_Own.f k x554000 x554001 x554002 x554003 x554004 x554005).bind fun bt557 => ((tmpl_Template_Part.f k bt557.1 bt557.2.1 bt557.2.2.1 bt557.2.2.2.1 bt557.2.2.2.2.1 bt557.2.2.2.2.2 x1 x555000 x555001).bind fun t566 => (if 0 ≤ x1 then (if x1 < (x554005.length : Int) then ((tmpl_Template_Part.f k bt557.1 bt557.2.1 bt557.2.2.1 bt557.2.2.2.1 bt557.2.2.2.2.1 bt557.2.2.2.2.2 x1 x555000 (wrap64 (x555001 + (((rd_T74 x554005 x1).f0).length : Int)))).bind fun t568 => ((tmpl_Template_Part.f k bt557.1 bt557.2.1 bt557.2.2.1 bt557.2.2.2.1 bt557.2.2.2.2.1 bt557.2.2.2.2.2 x1 x555000 0).bind fun t569 => (if t566.toList = t568.toList then (if (t566.size : Int) = (t569.size : Int) then ((wellspringlaw18_live.f).bind fun t570 => (some t570)) else (some false)) else (some false)))) else (none)) else (none))))
def wellspringlaw18_TmplTurned.f (k : Nat) (a0_0 : ByteArray) (a0_1 : Int) (a0_2 : Int) (a0_3 : Int) (a0_4 : ByteArray) (l0_5 : List (S74)) (a1 : Int) (a2_0 : Int) (a2_1 : Int) : Option (Bool) := (wellspringref18_Small.f k a0_0 a0_1 a0_2 a0_3 a0_4 l0_5).bind fun t555 => (if t555 = true then (if a1 < 0 then (wellspringlaw18_TmplTurned.j0 k a1 true a0_0 a0_1 a0_2 a0_3 a0_4 l0_5 a2_0 a2_1) else (if a1 ≥ (l0_5.length : Int) then (wellspringlaw18_TmplTurned.j0 k a1 true a0_0 a0_1 a0_2 a0_3 a0_4 l0_5 a2_0 a2_1) else (if a2_1 < 0 then (wellspringlaw18_TmplTurned.j0 k a1 true a0_0 a0_1 a0_2 a0_3 a0_4 l0_5 a2_0 a2_1) else (wellspringlaw18_TmplTurned.j0 k a1 (decide (a2_1 > 1099511627776)) a0_0 a0_1 a0_2 a0_3 a0_4 l0_5 a2_0 a2_1)))) else (wellspringlaw18_TmplTurned.j0 k a1 true a0_0 a0_1 a0_2 a0_3 a0_4 l0_5 a2_0 a2_1))
theorem wellspringlaw18_TmplTurned.mono_l : ∀ k, (∀ y0 y1 y2 y3 y4 y5 y6 y7 y8 y9, LeO (wellspringlaw18_TmplTurned.j0 k y0 y1 y2 y3 y4 y5 y6 y7 y8 y9) (wellspringlaw18_TmplTurned.j0 (k + 1) y0 y1 y2 y3 y4 y5 y6 y7 y8 y9))
 | 0 => fun _ _ _ _ _ _ _ _ _ _ r h => by simp [wellspringlaw18_TmplTurned.j0] at h
 | k + 1 => by
  have ih0 := wellspringlaw18_TmplTurned.mono_l k
  ·intro y0 y1 y2 y3 y4 y5 y6 y7 y8 y9
   unfold wellspringlaw18_TmplTurned.j0
   repeat' first
   | (with_reducible exact ih0 _ _ _ _ _ _ _ _ _ _)
   | (with_reducible exact tmpl_Template_Part.mono _ _ _ _ _ _ _ _ _ _)
   | (with_reducible exact wellspringlaw18_Own.mono _ _ _ _ _ _ _)
   | (with_reducible exact wellspringref18_Small.mono _ _ _ _ _ _ _)
   | (with_reducible exact LeO.refl _)
   | (with_reducible exact LeO.none _)
   | (with_reducible refine LeO.ite ?_ ?_)
   | (with_reducible refine LeO.bind ?_ (fun _ => ?_))
   | exact ih0 _ _ _ _ _ _ _ _ _ _
   | exact tmpl_Template_Part.mono _ _ _ _ _ _ _ _ _ _
   | exact wellspringlaw18_Own.mono _ _ _ _ _ _ _
   | exact wellspringref18_Small.mono _ _ _ _ _ _ _
   | exact LeO.none _
   | refine LeO.ite ?_ ?_
   | refine LeO.bind ?_ (fun _ => ?_)
theorem wellspringlaw18_TmplTurned.mono : ∀ a0 a1 a2 a3 a4 a5 a6 a7 a8 k, LeO (wellspringlaw18_TmplTurned.f k a0 a1 a2 a3 a4 a5 a6 a7 a8) (wellspringlaw18_TmplTurned.f (k + 1) a0 a1 a2 a3 a4 a5 a6 a7 a8) := by
 intro a0 a1 a2 a3 a4 a5 a6 a7 a8 k
 have ih0 := wellspringlaw18_TmplTurned.mono_l k
 unfold wellspringlaw18_TmplTurned.f
 repeat' first
   | (with_reducible exact ih0 _ _ _ _ _ _ _ _ _ _)
   | (with_reducible exact tmpl_Template_Part.mono _ _ _ _ _ _ _ _ _ _)
   | (with_reducible exact wellspringlaw18_Own.mono _ _ _ _ _ _ _)
   | (with_reducible exact wellspringref18_Small.mono _ _ _ _ _ _ _)
   | (with_reducible exact LeO.refl _)
   | (with_reducible exact LeO.none _)
   | (with_reducible refine LeO.ite ?_ ?_)
   | (with_reducible refine LeO.bind ?_ (fun _ => ?_))
   | exact ih0 _ _ _ _ _ _ _ _ _ _
   | exact tmpl_Template_Part.mono _ _ _ _ _ _ _ _ _ _
   | exact wellspringlaw18_Own.mono _ _ _ _ _ _ _
   | exact wellspringref18_Small.mono _ _ _ _ _ _ _
   | exact LeO.none _
   | refine LeO.ite ?_ ?_
   | refine LeO.bind ?_ (fun _ => ?_)
def wellspringlaw18_TmplTurned.T5 : Bool × List (List Nat × List Nat) := (true, [([], []), ([], []), ([], []), ([2], [2]), ([], []), ([4], [4]), ([], []), ([6], [6]), ([], []), ([7, 8], [7, 8]), ([9], [9]), ([10], [10]), ([11], [11]), ([5, 12], [5, 12]), ([0, 1, 3, 13], [0, 1, 3, 13]), ([14, 14, 0, 1, 2, 3, 4, 5, 6, 7, 8, 9, 10, 11, 12, 13, 14], [14])])
def wellspringlaw18_TmplTurned.B5 : List Nat := [0, 0, 0, 4, 0, 16, 0, 64, 0, 448, 960, 1984, 4032, 8176, 16383, 32767]
theorem wellspringlaw18_TmplTurned.tab5 : rtab .any (opsOf Try.f7 5) = wellspringlaw18_TmplTurned.T5 := by kernel_rfl
theorem wellspringlaw18_TmplTurned.bits5 : waitsOk wellspringlaw18_TmplTurned.T5.2 wellspringlaw18_TmplTurned.B5 = true := by kernel_rfl
set_option maxHeartbeats 8000000 in
set_option maxRecDepth 100000 in
theorem wellspringlaw18_TmplTurned.calls (k : Nat) (a0_0 : ByteArray) (a0_1 : Int) (a0_2 : Int) (a0_3 : Int) (a0_4 : ByteArray) (A0_5 : Option Addr) (c0_5 : Nat) (l0_5 : List (S74)) (a1 : Int) (a2_0 : Int) (a2_1 : Int) (r : Bool) (w : World) (hr0_5 : Kd.C k74 w A0_5 l0_5.length l0_5) (hc0_5 : l0_5.length ≤ c0_5) (h : wellspringlaw18_TmplTurned.f k a0_0 a0_1 a0_2 a0_3 a0_4 l0_5 a1 a2_0 a2_1 = some r) :
  Calls Try.prog 7 #[.agg #[.string a0_0, .int .i64 a0_1, .int .i64 a0_2, .int .i64 a0_3, .string a0_4, .slice A0_5 l0_5.length c0_5], .int .i64 a1, .agg #[.int .i64 a2_0, .int .i64 a2_1]] w fun e w' => e = .returned (.bool r) ∧ Below w.heap.size w w' := by
 have hu46 := Try.underlying46
 have hu52 := Try.underlying52
 have hu36 := Try.underlying36
 have HR0_5 := Aside0.mk hr0_5
 have HC0_5 := Aside0.mk hc0_5
 clear hr0_5 hc0_5
 have HB := Aside0.mk (Below.refl w.heap.size w)
 have H : ((wellspringref18_Small.f k a0_0 a0_1 a0_2 a0_3 a0_4 l0_5).bind fun t555 => (if t555 = true then (if a1 < 0 then (wellspringlaw18_TmplTurned.j0 k a1 true a0_0 a0_1 a0_2 a0_3 a0_4 l0_5 a2_0 a2_1) else (if a1 ≥ (l0_5.length : Int) then (wellspringlaw18_TmplTurned.j0 k a1 true a0_0 a0_1 a0_2 a0_3 a0_4 l0_5 a2_0 a2_1) else (if a2_1 < 0 then (wellspringlaw18_TmplTurned.j0 k a1 true a0_0 a0_1 a0_2 a0_3 a0_4 l0_5 a2_0 a2_1) else (wellspringlaw18_TmplTurned.j0 k a1 (decide (a2_1 > 1099511627776)) a0_0 a0_1 a0_2 a0_3 a0_4 l0_5 a2_0 a2_1)))) else (wellspringlaw18_TmplTurned.j0 k a1 true a0_0 a0_1 a0_2 a0_3 a0_4 l0_5 a2_0 a2_1))) = some r := h
 clear h
 have HC4 := Aside0.mk H
 clear H
 go_enter Try.func7, Try.ntmps7
 go_upto_region 1 with (first | ((with_reducible refine gate_dst (N := 3) rfl ?_); (try (refine gate_guard (by rfl) ?_; dsimp only)); refine box_event ?hg (N := 3) ?hd (cs := #[.string a0_0, .int .i64 a0_1, .int .i64 a0_2, .int .i64 a0_3, .string a0_4, .slice A0_5 l0_5.length c0_5]) (t := 46) ?hr ?_; (case hd => rfl); (case hg => rfl); (case hr => first | (go_simp; done) | (go_simp; rfl)); intro gb553 hg w5 hbox hb; have n0_ := Aside0.mk (below_step (by repeat (first | (with_reducible first | exact HB.out | apply below_alloc | apply pw_below_drewN | apply below_drew1) | exact HB.out)) hb); have n1_ := Aside0.mk (hbox); have n2_ := Aside0.mk ((by rw [hg]; exact (below_size (by repeat (first | (with_reducible first | exact HB.out | apply below_alloc | apply pw_below_drewN | apply below_drew1) | exact HB.out))) : w.heap.size ≤ gb553)); have n3_ := Aside0.mk ((by rw [hg]; exact (below_size (by repeat (first | (with_reducible first | exact HB.out | apply below_alloc | apply pw_below_drewN | apply below_drew1) | exact HB.out))) : w.heap.size ≤ gb553)); clear HB; have HB := n0_; have BK553 := n1_; have GW553 := n2_; have GE553 := n3_; clear n0_ n1_ n2_ n3_; clear hb hbox hg) | ((with_reducible refine gate_dst (N := 5) rfl ?_); (try (refine gate_guard (by rfl) ?_; dsimp only)); refine box_event ?hg (N := 5) ?hd (cs := #[.int .i64 a2_0, .int .i64 a2_1]) (t := 52) ?hr ?_; (case hd => rfl); (case hg => rfl); (case hr => first | (go_simp; done) | (go_simp; rfl)); intro gb554 hg w6 hbox hb; have n0_ := Aside0.mk (blk_below (g := gb553) (o := .cells #[.string a0_0, .int .i64 a0_1, .int .i64 a0_2, .int .i64 a0_3, .string a0_4, .slice A0_5 l0_5.length c0_5] 46 (0, 0)) (by (with_reducible repeat (first | refine blk_drewN ?_ _ | refine blk_drew ?_ | refine blk_alloc ?_ _)); exact BK553.out) hb); have n1_ := Aside0.mk (below_step (by repeat (first | (with_reducible first | exact HB.out | apply below_alloc | apply pw_below_drewN | apply below_drew1 | refine below_set ?_ GE553.out) | exact HB.out)) hb); have n2_ := Aside0.mk (hbox); have n3_ := Aside0.mk ((by rw [hg]; exact (below_size (by repeat (first | (with_reducible first | exact HB.out | apply below_alloc | apply pw_below_drewN | apply below_drew1 | refine below_set ?_ GE553.out) | exact HB.out))) : w.heap.size ≤ gb554)); have n4_ := Aside0.mk ((by rw [hg]; exact (below_size (by repeat (first | (with_reducible first | exact HB.out | apply below_alloc | apply pw_below_drewN | apply below_drew1 | refine below_set ?_ GE553.out) | exact HB.out))) : w.heap.size ≤ gb554)); have n5_ := Aside0.mk ((by rw [hg]; exact Nat.ne_of_lt (blk_lt (g := gb553) (o := .cells #[.string a0_0, .int .i64 a0_1, .int .i64 a0_2, .int .i64 a0_3, .string a0_4, .slice A0_5 l0_5.length c0_5] 46 (0, 0)) (by (with_reducible repeat (first | refine blk_drewN ?_ _ | refine blk_drew ?_ | refine blk_alloc ?_ _)); exact BK553.out)) : gb553 ≠ gb554)); have n6_ := Aside0.mk ((by rw [hg]; exact Nat.ne_of_gt (blk_lt (g := gb553) (o := .cells #[.string a0_0, .int .i64 a0_1, .int .i64 a0_2, .int .i64 a0_3, .string a0_4, .slice A0_5 l0_5.length c0_5] 46 (0, 0)) (by (with_reducible repeat (first | refine blk_drewN ?_ _ | refine blk_drew ?_ | refine blk_alloc ?_ _)); exact BK553.out)) : gb554 ≠ gb553)); clear BK553; clear HB; have BK553 := n0_; have HB := n1_; have BK554 := n2_; have GW554 := n3_; have GE554 := n4_; have NB553_554 := n5_; have NB554_553 := n6_; clear n0_ n1_ n2_ n3_ n4_ n5_ n6_; clear hb hbox hg))
 (try simp only [Act.put, List.setIfInBounds_toArray, List.set_cons_zero, List.set_cons_succ])
 go_cut [34] (fun v34 wc => ∃ (kq : Nat) (x34_3 : Bool), v34 = .bool x34_3 ∧ Aside0 (wellspringlaw18_TmplTurned.j0 kq a1 x34_3 a0_0 a0_1 a0_2 a0_3 a0_4 l0_5 a2_0 a2_1 = some r) ∧ Aside0 (kq ≤ k) ∧ Aside0 (wc.heap[gb553]? = some (.cells #[.string a0_0, .int .i64 a0_1, .int .i64 a0_2, .int .i64 a0_3, .string a0_4, (.slice A0_5 l0_5.length c0_5)] 46 (0, 0))) ∧ Aside0 (wc.heap[gb554]? = some (.cells #[.int .i64 a2_0, .int .i64 a2_1] 52 (0, 0))) ∧ Aside0 (Below w.heap.size w wc))
 case first =>
  have H := HC4.out
  clear HC4
  replace H := Option.bind_eq_some_iff.mp H
  obtain ⟨t555, A70, H⟩ := H
  replace H : (if t555 = true then (if a1 < 0 then (wellspringlaw18_TmplTurned.j0 k a1 true a0_0 a0_1 a0_2 a0_3 a0_4 l0_5 a2_0 a2_1) else (if a1 ≥ (l0_5.length : Int) then (wellspringlaw18_TmplTurned.j0 k a1 true a0_0 a0_1 a0_2 a0_3 a0_4 l0_5 a2_0 a2_1) else (if a2_1 < 0 then (wellspringlaw18_TmplTurned.j0 k a1 true a0_0 a0_1 a0_2 a0_3 a0_4 l0_5 a2_0 a2_1) else (wellspringlaw18_TmplTurned.j0 k a1 (decide (a2_1 > 1099511627776)) a0_0 a0_1 a0_2 a0_3 a0_4 l0_5 a2_0 a2_1)))) else (wellspringlaw18_TmplTurned.j0 k a1 true a0_0 a0_1 a0_2 a0_3 a0_4 l0_5 a2_0 a2_1)) = some r := H
  have A7 := Aside0.mk A70
  clear A70
  by_cases c8 : t555 = true
  ·subst c8
   have H1 : (if a1 < 0 then (wellspringlaw18_TmplTurned.j0 k a1 true a0_0 a0_1 a0_2 a0_3 a0_4 l0_5 a2_0 a2_1) else (if a1 ≥ (l0_5.length : Int) then (wellspringlaw18_TmplTurned.j0 k a1 true a0_0 a0_1 a0_2 a0_3 a0_4 l0_5 a2_0 a2_1) else (if a2_1 < 0 then (wellspringlaw18_TmplTurned.j0 k a1 true a0_0 a0_1 a0_2 a0_3 a0_4 l0_5 a2_0 a2_1) else (wellspringlaw18_TmplTurned.j0 k a1 (decide (a2_1 > 1099511627776)) a0_0 a0_1 a0_2 a0_3 a0_4 l0_5 a2_0 a2_1)))) = some r := by rw [if_pos rfl] at H; exact H
   clear H
   have H := H1
   clear H1
   by_cases c9 : a1 < 0
   ·rw [if_pos c9] at H
    have c9b0 : decide (a1 < 0) = true := decide_eq_true c9
    clear c9
    (first | rw [c9b0] | (simp only [i64_w, i32_w]; rw [c9b0]) | skip)
    have H' := Aside0.mk H
    clear H
    have hnb10 := NB553_554.out
    have hnc10 := NB554_553.out
    have hcz11_0 : w6.cell? ⟨gb553, 0, none⟩ = some (.string a0_0) := (blk_cell BK553.out 0).trans rfl
    have hcz11_1 : w6.cell? ⟨gb553, 1, none⟩ = some (.int .i64 a0_1) := (blk_cell BK553.out 1).trans rfl
    have hcz11_2 : w6.cell? ⟨gb553, 2, none⟩ = some (.int .i64 a0_2) := (blk_cell BK553.out 2).trans rfl
    have hcz11_3 : w6.cell? ⟨gb553, 3, none⟩ = some (.int .i64 a0_3) := (blk_cell BK553.out 3).trans rfl
    have hcz11_4 : w6.cell? ⟨gb553, 4, none⟩ = some (.string a0_4) := (blk_cell BK553.out 4).trans rfl
    have hcz11_5 : w6.cell? ⟨gb553, 5, none⟩ = some (.slice A0_5 l0_5.length c0_5) := (blk_cell BK553.out 5).trans rfl
    have hfz11_0 := blk_frozen BK553.out 0
    have hfz11_1 := blk_frozen BK553.out 1
    have hfz11_2 := blk_frozen BK553.out 2
    have hfz11_3 := blk_frozen BK553.out 3
    have hfz11_4 := blk_frozen BK553.out 4
    have hfz11_5 := blk_frozen BK553.out 5
    go_wp2_with (first | ((with_reducible refine gate_callee (f := 16) rfl ?_); refine goesL_ (some 12) rfl rfl Try.func16 (by kernel_rfl) rfl #[.agg #[.string a0_0, .int .i64 a0_1, .int .i64 a0_2, .int .i64 a0_3, .string a0_4, .slice A0_5 l0_5.length c0_5]] rfl (by (try simp only [List.map_toArray, List.map_cons, List.map_nil]); first | done | rfl | (simp only [List.length_drop, List.length_take]; rfl)) ?_; (with_reducible refine (wellspringref18_Small.calls k a0_0 a0_1 a0_2 a0_3 a0_4 _ _ l0_5 true _ ?side1 ?side2 A7.out).mono ?_); (case side1 => repeat (first | exact (Kd.C_below HR0_5.out HB.out) | (with_reducible refine Kd.C_alloc ?_ _) | (with_reducible refine Kd.C_drewN ?_ _) | (with_reducible refine Kd.C_drew ?_))); (case side2 => exact HC0_5.out); rintro e w12 ⟨rfl, hb⟩; refine ⟨_, rfl, ?_⟩; have n0_ := Aside0.mk (blk_below (g := gb553) (o := .cells #[.string a0_0, .int .i64 a0_1, .int .i64 a0_2, .int .i64 a0_3, .string a0_4, .slice A0_5 l0_5.length c0_5] 46 (0, 0)) (by (with_reducible repeat (first | refine blk_drewN ?_ _ | refine blk_drew ?_ | refine blk_alloc ?_ _)); exact BK553.out) hb); have n1_ := Aside0.mk (blk_below (g := gb554) (o := .cells #[.int .i64 a2_0, .int .i64 a2_1] 52 (0, 0)) (by (with_reducible repeat (first | refine blk_drewN ?_ _ | refine blk_drew ?_ | refine blk_alloc ?_ _)); exact BK554.out) hb); have n2_ := Aside0.mk (below_step (by repeat (first | (with_reducible first | exact HB.out | apply below_alloc | apply pw_below_drewN | apply below_drew1 | refine below_set ?_ GE553.out | refine below_set ?_ GE554.out) | exact HB.out)) hb); clear BK553; clear BK554; clear HB; have BK553 := n0_; have BK554 := n1_; have HB := n2_; clear n0_ n1_ n2_; (try clear hb); (try clear hb2); (try clear hk); (try clear hi)))
    go_meet
    case rel => exact ⟨_, (true), (by first | rfl | (simp; done) | (simp [*]; done)), H', ⟨by first | omega | exact Nat.le_refl _⟩, ⟨by (with_reducible repeat (first | refine blk_drewN ?_ _ | refine blk_drew ?_ | refine blk_alloc ?_ _)); exact BK553.out⟩, ⟨by (with_reducible repeat (first | refine blk_drewN ?_ _ | refine blk_drew ?_ | refine blk_alloc ?_ _)); exact BK554.out⟩, ⟨by repeat (first | (with_reducible first | exact HB.out | apply below_alloc | apply pw_below_drewN | apply below_drew1 | refine below_set ?_ GE553.out | refine below_set ?_ GE554.out) | exact HB.out)⟩⟩
   ·rw [if_neg c9] at H
    have c9b0 : decide (a1 < 0) = false := decide_eq_false c9
    clear c9
    (first | rw [c9b0] | (simp only [i64_w, i32_w]; rw [c9b0]) | skip)
    by_cases c13 : a1 ≥ (l0_5.length : Int)
    ·rw [if_pos c13] at H
     have c13b0 : decide ((l0_5.length : Int) ≤ a1) = true := decide_eq_true c13
     clear c13
     have H' := Aside0.mk H
     clear H
     have hnb14 := NB553_554.out
     have hnc14 := NB554_553.out
     have hcz15_0 : w6.cell? ⟨gb553, 0, none⟩ = some (.string a0_0) := (blk_cell BK553.out 0).trans rfl
     have hcz15_1 : w6.cell? ⟨gb553, 1, none⟩ = some (.int .i64 a0_1) := (blk_cell BK553.out 1).trans rfl
     have hcz15_2 : w6.cell? ⟨gb553, 2, none⟩ = some (.int .i64 a0_2) := (blk_cell BK553.out 2).trans rfl
     have hcz15_3 : w6.cell? ⟨gb553, 3, none⟩ = some (.int .i64 a0_3) := (blk_cell BK553.out 3).trans rfl
     have hcz15_4 : w6.cell? ⟨gb553, 4, none⟩ = some (.string a0_4) := (blk_cell BK553.out 4).trans rfl
     have hcz15_5 : w6.cell? ⟨gb553, 5, none⟩ = some (.slice A0_5 l0_5.length c0_5) := (blk_cell BK553.out 5).trans rfl
     have hfz15_0 := blk_frozen BK553.out 0
     have hfz15_1 := blk_frozen BK553.out 1
     have hfz15_2 := blk_frozen BK553.out 2
     have hfz15_3 := blk_frozen BK553.out 3
     have hfz15_4 := blk_frozen BK553.out 4
     have hfz15_5 := blk_frozen BK553.out 5
     go_wp2_with (first | ((with_reducible refine gate_callee (f := 16) rfl ?_); refine goesL_ (some 12) rfl rfl Try.func16 (by kernel_rfl) rfl #[.agg #[.string a0_0, .int .i64 a0_1, .int .i64 a0_2, .int .i64 a0_3, .string a0_4, .slice A0_5 l0_5.length c0_5]] rfl (by (try simp only [List.map_toArray, List.map_cons, List.map_nil]); first | done | rfl | (simp only [List.length_drop, List.length_take]; rfl)) ?_; (with_reducible refine (wellspringref18_Small.calls k a0_0 a0_1 a0_2 a0_3 a0_4 _ _ l0_5 true _ ?side1 ?side2 A7.out).mono ?_); (case side1 => repeat (first | exact (Kd.C_below HR0_5.out HB.out) | (with_reducible refine Kd.C_alloc ?_ _) | (with_reducible refine Kd.C_drewN ?_ _) | (with_reducible refine Kd.C_drew ?_))); (case side2 => exact HC0_5.out); rintro e w16 ⟨rfl, hb⟩; refine ⟨_, rfl, ?_⟩; have n0_ := Aside0.mk (blk_below (g := gb553) (o := .cells #[.string a0_0, .int .i64 a0_1, .int .i64 a0_2, .int .i64 a0_3, .string a0_4, .slice A0_5 l0_5.length c0_5] 46 (0, 0)) (by (with_reducible repeat (first | refine blk_drewN ?_ _ | refine blk_drew ?_ | refine blk_alloc ?_ _)); exact BK553.out) hb); have n1_ := Aside0.mk (blk_below (g := gb554) (o := .cells #[.int .i64 a2_0, .int .i64 a2_1] 52 (0, 0)) (by (with_reducible repeat (first | refine blk_drewN ?_ _ | refine blk_drew ?_ | refine blk_alloc ?_ _)); exact BK554.out) hb); have n2_ := Aside0.mk (below_step (by repeat (first | (with_reducible first | exact HB.out | apply below_alloc | apply pw_below_drewN | apply below_drew1 | refine below_set ?_ GE553.out | refine below_set ?_ GE554.out) | exact HB.out)) hb); clear BK553; clear BK554; clear HB; have BK553 := n0_; have BK554 := n1_; have HB := n2_; clear n0_ n1_ n2_; (try clear hb); (try clear hb2); (try clear hk); (try clear hi); have hcz17_0 : w16.cell? ⟨gb553, 0, none⟩ = some (.string a0_0) := (blk_cell BK553.out 0).trans rfl; have hcz17_1 : w16.cell? ⟨gb553, 1, none⟩ = some (.int .i64 a0_1) := (blk_cell BK553.out 1).trans rfl; have hcz17_2 : w16.cell? ⟨gb553, 2, none⟩ = some (.int .i64 a0_2) := (blk_cell BK553.out 2).trans rfl; have hcz17_3 : w16.cell? ⟨gb553, 3, none⟩ = some (.int .i64 a0_3) := (blk_cell BK553.out 3).trans rfl; have hcz17_4 : w16.cell? ⟨gb553, 4, none⟩ = some (.string a0_4) := (blk_cell BK553.out 4).trans rfl; have hcz17_5 : w16.cell? ⟨gb553, 5, none⟩ = some (.slice A0_5 l0_5.length c0_5) := (blk_cell BK553.out 5).trans rfl; have hfz17_0 := blk_frozen BK553.out 0; have hfz17_1 := blk_frozen BK553.out 1; have hfz17_2 := blk_frozen BK553.out 2; have hfz17_3 := blk_frozen BK553.out 3; have hfz17_4 := blk_frozen BK553.out 4; have hfz17_5 := blk_frozen BK553.out 5))
     go_meet
     case rel => exact ⟨_, (true), (by first | rfl | (simp; done) | (simp [*]; done)), H', ⟨by first | omega | exact Nat.le_refl _⟩, ⟨by (with_reducible repeat (first | refine blk_drewN ?_ _ | refine blk_drew ?_ | refine blk_alloc ?_ _)); exact BK553.out⟩, ⟨by (with_reducible repeat (first | refine blk_drewN ?_ _ | refine blk_drew ?_ | refine blk_alloc ?_ _)); exact BK554.out⟩, ⟨by repeat (first | (with_reducible first | exact HB.out | apply below_alloc | apply pw_below_drewN | apply below_drew1 | refine below_set ?_ GE553.out | refine below_set ?_ GE554.out) | exact HB.out)⟩⟩
    ·rw [if_neg c13] at H
     have c13b0 : decide ((l0_5.length : Int) ≤ a1) = false := decide_eq_false c13
     clear c13
     by_cases c18 : a2_1 < 0
     ·rw [if_pos c18] at H
      have c18b0 : decide (a2_1 < 0) = true := decide_eq_true c18
      clear c18
      have H' := Aside0.mk H
      clear H
      have hnb19 := NB553_554.out
      have hnc19 := NB554_553.out
      have hcz20_0 : w6.cell? ⟨gb553, 0, none⟩ = some (.string a0_0) := (blk_cell BK553.out 0).trans rfl
      have hcz20_1 : w6.cell? ⟨gb553, 1, none⟩ = some (.int .i64 a0_1) := (blk_cell BK553.out 1).trans rfl
      have hcz20_2 : w6.cell? ⟨gb553, 2, none⟩ = some (.int .i64 a0_2) := (blk_cell BK553.out 2).trans rfl
      have hcz20_3 : w6.cell? ⟨gb553, 3, none⟩ = some (.int .i64 a0_3) := (blk_cell BK553.out 3).trans rfl
      have hcz20_4 : w6.cell? ⟨gb553, 4, none⟩ = some (.string a0_4) := (blk_cell BK553.out 4).trans rfl
      have hcz20_5 : w6.cell? ⟨gb553, 5, none⟩ = some (.slice A0_5 l0_5.length c0_5) := (blk_cell BK553.out 5).trans rfl
      have hfz20_0 := blk_frozen BK553.out 0
      have hfz20_1 := blk_frozen BK553.out 1
      have hfz20_2 := blk_frozen BK553.out 2
      have hfz20_3 := blk_frozen BK553.out 3
      have hfz20_4 := blk_frozen BK553.out 4
      have hfz20_5 := blk_frozen BK553.out 5
      go_wp2_with (first | ((with_reducible refine gate_callee (f := 16) rfl ?_); refine goesL_ (some 12) rfl rfl Try.func16 (by kernel_rfl) rfl #[.agg #[.string a0_0, .int .i64 a0_1, .int .i64 a0_2, .int .i64 a0_3, .string a0_4, .slice A0_5 l0_5.length c0_5]] rfl (by (try simp only [List.map_toArray, List.map_cons, List.map_nil]); first | done | rfl | (simp only [List.length_drop, List.length_take]; rfl)) ?_; (with_reducible refine (wellspringref18_Small.calls k a0_0 a0_1 a0_2 a0_3 a0_4 _ _ l0_5 true _ ?side1 ?side2 A7.out).mono ?_); (case side1 => repeat (first | exact (Kd.C_below HR0_5.out HB.out) | (with_reducible refine Kd.C_alloc ?_ _) | (with_reducible refine Kd.C_drewN ?_ _) | (with_reducible refine Kd.C_drew ?_))); (case side2 => exact HC0_5.out); rintro e w21 ⟨rfl, hb⟩; refine ⟨_, rfl, ?_⟩; have n0_ := Aside0.mk (blk_below (g := gb553) (o := .cells #[.string a0_0, .int .i64 a0_1, .int .i64 a0_2, .int .i64 a0_3, .string a0_4, .slice A0_5 l0_5.length c0_5] 46 (0, 0)) (by (with_reducible repeat (first | refine blk_drewN ?_ _ | refine blk_drew ?_ | refine blk_alloc ?_ _)); exact BK553.out) hb); have n1_ := Aside0.mk (blk_below (g := gb554) (o := .cells #[.int .i64 a2_0, .int .i64 a2_1] 52 (0, 0)) (by (with_reducible repeat (first | refine blk_drewN ?_ _ | refine blk_drew ?_ | refine blk_alloc ?_ _)); exact BK554.out) hb); have n2_ := Aside0.mk (below_step (by repeat (first | (with_reducible first | exact HB.out | apply below_alloc | apply pw_below_drewN | apply below_drew1 | refine below_set ?_ GE553.out | refine below_set ?_ GE554.out) | exact HB.out)) hb); clear BK553; clear BK554; clear HB; have BK553 := n0_; have BK554 := n1_; have HB := n2_; clear n0_ n1_ n2_; (try clear hb); (try clear hb2); (try clear hk); (try clear hi); have hcz22_0 : w21.cell? ⟨gb553, 0, none⟩ = some (.string a0_0) := (blk_cell BK553.out 0).trans rfl; have hcz22_1 : w21.cell? ⟨gb553, 1, none⟩ = some (.int .i64 a0_1) := (blk_cell BK553.out 1).trans rfl; have hcz22_2 : w21.cell? ⟨gb553, 2, none⟩ = some (.int .i64 a0_2) := (blk_cell BK553.out 2).trans rfl; have hcz22_3 : w21.cell? ⟨gb553, 3, none⟩ = some (.int .i64 a0_3) := (blk_cell BK553.out 3).trans rfl; have hcz22_4 : w21.cell? ⟨gb553, 4, none⟩ = some (.string a0_4) := (blk_cell BK553.out 4).trans rfl; have hcz22_5 : w21.cell? ⟨gb553, 5, none⟩ = some (.slice A0_5 l0_5.length c0_5) := (blk_cell BK553.out 5).trans rfl; have hfz22_0 := blk_frozen BK553.out 0; have hfz22_1 := blk_frozen BK553.out 1; have hfz22_2 := blk_frozen BK553.out 2; have hfz22_3 := blk_frozen BK553.out 3; have hfz22_4 := blk_frozen BK553.out 4; have hfz22_5 := blk_frozen BK553.out 5; have hcz23_0 : w21.cell? ⟨gb554, 0, none⟩ = some (.int .i64 a2_0) := (blk_cell BK554.out 0).trans rfl; have hcz23_1 : w21.cell? ⟨gb554, 1, none⟩ = some (.int .i64 a2_1) := (blk_cell BK554.out 1).trans rfl; have hfz23_0 := blk_frozen BK554.out 0; have hfz23_1 := blk_frozen BK554.out 1))
      go_meet
      case rel => exact ⟨_, (true), (by first | rfl | (simp; done) | (simp [*]; done)), H', ⟨by first | omega | exact Nat.le_refl _⟩, ⟨by (with_reducible repeat (first | refine blk_drewN ?_ _ | refine blk_drew ?_ | refine blk_alloc ?_ _)); exact BK553.out⟩, ⟨by (with_reducible repeat (first | refine blk_drewN ?_ _ | refine blk_drew ?_ | refine blk_alloc ?_ _)); exact BK554.out⟩, ⟨by repeat (first | (with_reducible first | exact HB.out | apply below_alloc | apply pw_below_drewN | apply below_drew1 | refine below_set ?_ GE553.out | refine below_set ?_ GE554.out) | exact HB.out)⟩⟩
     ·rw [if_neg c18] at H
      have c18b0 : decide (a2_1 < 0) = false := decide_eq_false c18
      clear c18
      have H' := Aside0.mk H
      clear H
      have hnb24 := NB553_554.out
      have hnc24 := NB554_553.out
      have hcz25_0 : w6.cell? ⟨gb553, 0, none⟩ = some (.string a0_0) := (blk_cell BK553.out 0).trans rfl
      have hcz25_1 : w6.cell? ⟨gb553, 1, none⟩ = some (.int .i64 a0_1) := (blk_cell BK553.out 1).trans rfl
      have hcz25_2 : w6.cell? ⟨gb553, 2, none⟩ = some (.int .i64 a0_2) := (blk_cell BK553.out 2).trans rfl
      have hcz25_3 : w6.cell? ⟨gb553, 3, none⟩ = some (.int .i64 a0_3) := (blk_cell BK553.out 3).trans rfl
      have hcz25_4 : w6.cell? ⟨gb553, 4, none⟩ = some (.string a0_4) := (blk_cell BK553.out 4).trans rfl
      have hcz25_5 : w6.cell? ⟨gb553, 5, none⟩ = some (.slice A0_5 l0_5.length c0_5) := (blk_cell BK553.out 5).trans rfl
      have hfz25_0 := blk_frozen BK553.out 0
      have hfz25_1 := blk_frozen BK553.out 1
      have hfz25_2 := blk_frozen BK553.out 2
      have hfz25_3 := blk_frozen BK553.out 3
      have hfz25_4 := blk_frozen BK553.out 4
      have hfz25_5 := blk_frozen BK553.out 5
      go_wp2_with (first | ((with_reducible refine gate_callee (f := 16) rfl ?_); refine goesL_ (some 12) rfl rfl Try.func16 (by kernel_rfl) rfl #[.agg #[.string a0_0, .int .i64 a0_1, .int .i64 a0_2, .int .i64 a0_3, .string a0_4, .slice A0_5 l0_5.length c0_5]] rfl (by (try simp only [List.map_toArray, List.map_cons, List.map_nil]); first | done | rfl | (simp only [List.length_drop, List.length_take]; rfl)) ?_; (with_reducible refine (wellspringref18_Small.calls k a0_0 a0_1 a0_2 a0_3 a0_4 _ _ l0_5 true _ ?side1 ?side2 A7.out).mono ?_); (case side1 => repeat (first | exact (Kd.C_below HR0_5.out HB.out) | (with_reducible refine Kd.C_alloc ?_ _) | (with_reducible refine Kd.C_drewN ?_ _) | (with_reducible refine Kd.C_drew ?_))); (case side2 => exact HC0_5.out); rintro e w26 ⟨rfl, hb⟩; refine ⟨_, rfl, ?_⟩; have n0_ := Aside0.mk (blk_below (g := gb553) (o := .cells #[.string a0_0, .int .i64 a0_1, .int .i64 a0_2, .int .i64 a0_3, .string a0_4, .slice A0_5 l0_5.length c0_5] 46 (0, 0)) (by (with_reducible repeat (first | refine blk_drewN ?_ _ | refine blk_drew ?_ | refine blk_alloc ?_ _)); exact BK553.out) hb); have n1_ := Aside0.mk (blk_below (g := gb554) (o := .cells #[.int .i64 a2_0, .int .i64 a2_1] 52 (0, 0)) (by (with_reducible repeat (first | refine blk_drewN ?_ _ | refine blk_drew ?_ | refine blk_alloc ?_ _)); exact BK554.out) hb); have n2_ := Aside0.mk (below_step (by repeat (first | (with_reducible first | exact HB.out | apply below_alloc | apply pw_below_drewN | apply below_drew1 | refine below_set ?_ GE553.out | refine below_set ?_ GE554.out) | exact HB.out)) hb); clear BK553; clear BK554; clear HB; have BK553 := n0_; have BK554 := n1_; have HB := n2_; clear n0_ n1_ n2_; (try clear hb); (try clear hb2); (try clear hk); (try clear hi); have hcz27_0 : w26.cell? ⟨gb553, 0, none⟩ = some (.string a0_0) := (blk_cell BK553.out 0).trans rfl; have hcz27_1 : w26.cell? ⟨gb553, 1, none⟩ = some (.int .i64 a0_1) := (blk_cell BK553.out 1).trans rfl; have hcz27_2 : w26.cell? ⟨gb553, 2, none⟩ = some (.int .i64 a0_2) := (blk_cell BK553.out 2).trans rfl; have hcz27_3 : w26.cell? ⟨gb553, 3, none⟩ = some (.int .i64 a0_3) := (blk_cell BK553.out 3).trans rfl; have hcz27_4 : w26.cell? ⟨gb553, 4, none⟩ = some (.string a0_4) := (blk_cell BK553.out 4).trans rfl; have hcz27_5 : w26.cell? ⟨gb553, 5, none⟩ = some (.slice A0_5 l0_5.length c0_5) := (blk_cell BK553.out 5).trans rfl; have hfz27_0 := blk_frozen BK553.out 0; have hfz27_1 := blk_frozen BK553.out 1; have hfz27_2 := blk_frozen BK553.out 2; have hfz27_3 := blk_frozen BK553.out 3; have hfz27_4 := blk_frozen BK553.out 4; have hfz27_5 := blk_frozen BK553.out 5; have hcz28_0 : w26.cell? ⟨gb554, 0, none⟩ = some (.int .i64 a2_0) := (blk_cell BK554.out 0).trans rfl; have hcz28_1 : w26.cell? ⟨gb554, 1, none⟩ = some (.int .i64 a2_1) := (blk_cell BK554.out 1).trans rfl; have hfz28_0 := blk_frozen BK554.out 0; have hfz28_1 := blk_frozen BK554.out 1))
      go_meet
      case rel => exact ⟨_, (decide (a2_1 > 1099511627776)), (by first | rfl | (simp; done) | (simp [*]; done)), H', ⟨by first | omega | exact Nat.le_refl _⟩, ⟨by (with_reducible repeat (first | refine blk_drewN ?_ _ | refine blk_drew ?_ | refine blk_alloc ?_ _)); exact BK553.out⟩, ⟨by (with_reducible repeat (first | refine blk_drewN ?_ _ | refine blk_drew ?_ | refine blk_alloc ?_ _)); exact BK554.out⟩, ⟨by repeat (first | (with_reducible first | exact HB.out | apply below_alloc | apply pw_below_drewN | apply below_drew1 | refine below_set ?_ GE553.out | refine below_set ?_ GE554.out) | exact HB.out)⟩⟩
  ·replace c8 := Bool.eq_false_iff.mpr c8
   subst c8
   have H1 : (wellspringlaw18_TmplTurned.j0 k a1 true a0_0 a0_1 a0_2 a0_3 a0_4 l0_5 a2_0 a2_1) = some r := by rw [if_neg (show ¬ (false = true) by decide)] at H; exact H
   clear H
   have H := H1
   clear H1
   have H' := Aside0.mk H
   clear H
   have hnb29 := NB553_554.out
   have hnc29 := NB554_553.out
   have hcz30_0 : w6.cell? ⟨gb553, 0, none⟩ = some (.string a0_0) := (blk_cell BK553.out 0).trans rfl
   have hcz30_1 : w6.cell? ⟨gb553, 1, none⟩ = some (.int .i64 a0_1) := (blk_cell BK553.out 1).trans rfl
   have hcz30_2 : w6.cell? ⟨gb553, 2, none⟩ = some (.int .i64 a0_2) := (blk_cell BK553.out 2).trans rfl
   have hcz30_3 : w6.cell? ⟨gb553, 3, none⟩ = some (.int .i64 a0_3) := (blk_cell BK553.out 3).trans rfl
   have hcz30_4 : w6.cell? ⟨gb553, 4, none⟩ = some (.string a0_4) := (blk_cell BK553.out 4).trans rfl
   have hcz30_5 : w6.cell? ⟨gb553, 5, none⟩ = some (.slice A0_5 l0_5.length c0_5) := (blk_cell BK553.out 5).trans rfl
   have hfz30_0 := blk_frozen BK553.out 0
   have hfz30_1 := blk_frozen BK553.out 1
   have hfz30_2 := blk_frozen BK553.out 2
   have hfz30_3 := blk_frozen BK553.out 3
   have hfz30_4 := blk_frozen BK553.out 4
   have hfz30_5 := blk_frozen BK553.out 5
   go_wp2_with (first | ((with_reducible refine gate_callee (f := 16) rfl ?_); refine goesL_ (some 12) rfl rfl Try.func16 (by kernel_rfl) rfl #[.agg #[.string a0_0, .int .i64 a0_1, .int .i64 a0_2, .int .i64 a0_3, .string a0_4, .slice A0_5 l0_5.length c0_5]] rfl (by (try simp only [List.map_toArray, List.map_cons, List.map_nil]); first | done | rfl | (simp only [List.length_drop, List.length_take]; rfl)) ?_; (with_reducible refine (wellspringref18_Small.calls k a0_0 a0_1 a0_2 a0_3 a0_4 _ _ l0_5 false _ ?side1 ?side2 A7.out).mono ?_); (case side1 => repeat (first | exact (Kd.C_below HR0_5.out HB.out) | (with_reducible refine Kd.C_alloc ?_ _) | (with_reducible refine Kd.C_drewN ?_ _) | (with_reducible refine Kd.C_drew ?_))); (case side2 => exact HC0_5.out); rintro e w31 ⟨rfl, hb⟩; refine ⟨_, rfl, ?_⟩; have n0_ := Aside0.mk (blk_below (g := gb553) (o := .cells #[.string a0_0, .int .i64 a0_1, .int .i64 a0_2, .int .i64 a0_3, .string a0_4, .slice A0_5 l0_5.length c0_5] 46 (0, 0)) (by (with_reducible repeat (first | refine blk_drewN ?_ _ | refine blk_drew ?_ | refine blk_alloc ?_ _)); exact BK553.out) hb); have n1_ := Aside0.mk (blk_below (g := gb554) (o := .cells #[.int .i64 a2_0, .int .i64 a2_1] 52 (0, 0)) (by (with_reducible repeat (first | refine blk_drewN ?_ _ | refine blk_drew ?_ | refine blk_alloc ?_ _)); exact BK554.out) hb); have n2_ := Aside0.mk (below_step (by repeat (first | (with_reducible first | exact HB.out | apply below_alloc | apply pw_below_drewN | apply below_drew1 | refine below_set ?_ GE553.out | refine below_set ?_ GE554.out) | exact HB.out)) hb); clear BK553; clear BK554; clear HB; have BK553 := n0_; have BK554 := n1_; have HB := n2_; clear n0_ n1_ n2_; (try clear hb); (try clear hb2); (try clear hk); (try clear hi)))
   go_meet
   case rel => exact ⟨_, (true), (by first | rfl | (simp; done) | (simp [*]; done)), H', ⟨by first | omega | exact Nat.le_refl _⟩, ⟨by (with_reducible repeat (first | refine blk_drewN ?_ _ | refine blk_drew ?_ | refine blk_alloc ?_ _)); exact BK553.out⟩, ⟨by (with_reducible repeat (first | refine blk_drewN ?_ _ | refine blk_drew ?_ | refine blk_alloc ?_ _)); exact BK554.out⟩, ⟨by repeat (first | (with_reducible first | exact HB.out | apply below_alloc | apply pw_below_drewN | apply below_drew1 | refine below_set ?_ GE553.out | refine below_set ?_ GE554.out) | exact HB.out)⟩⟩
 case rest =>
  clear HC4
  try clear c1
  try clear c2
  try clear p2
  try clear c7
  try clear c8
  try clear c9
  try clear c9b0
  try clear c10
  try clear c13
  try clear c13b0
  try clear c14
  try clear c16
  try clear c18
  try clear c18b0
  try clear c19
  try clear c24
  try clear c29
  try clear hcz11_0
  try clear hcz11_1
  try clear hcz11_2
  try clear hcz11_3
  try clear hcz11_4
  try clear hcz11_5
  try clear hcz15_0
  try clear hcz15_1
  try clear hcz15_2
  try clear hcz15_3
  try clear hcz15_4
  try clear hcz15_5
  try clear hcz17_0
  try clear hcz17_1
  try clear hcz17_2
  try clear hcz17_3
  try clear hcz17_4
  try clear hcz17_5
  try clear hcz20_0
  try clear hcz20_1
  try clear hcz20_2
  try clear hcz20_3
  try clear hcz20_4
  try clear hcz20_5
  try clear hcz22_0
  try clear hcz22_1
  try clear hcz22_2
  try clear hcz22_3
  try clear hcz22_4
  try clear hcz22_5
  try clear hcz23_0
  try clear hcz23_1
  try clear hcz25_0
  try clear hcz25_1
  try clear hcz25_2
  try clear hcz25_3
  try clear hcz25_4
  try clear hcz25_5
  try clear hcz27_0
  try clear hcz27_1
  try clear hcz27_2
  try clear hcz27_3
  try clear hcz27_4
  try clear hcz27_5
  try clear hcz28_0
  try clear hcz28_1
  try clear hcz30_0
  try clear hcz30_1
  try clear hcz30_2
  try clear hcz30_3
  try clear hcz30_4
  try clear hcz30_5
  try clear hfz11_0
  try clear hfz11_1
  try clear hfz11_2
  try clear hfz11_3
  try clear hfz11_4
  try clear hfz11_5
  try clear hfz15_0
  try clear hfz15_1
  try clear hfz15_2
  try clear hfz15_3
  try clear hfz15_4
  try clear hfz15_5
  try clear hfz17_0
  try clear hfz17_1
  try clear hfz17_2
  try clear hfz17_3
  try clear hfz17_4
  try clear hfz17_5
  try clear hfz20_0
  try clear hfz20_1
  try clear hfz20_2
  try clear hfz20_3
  try clear hfz20_4
  try clear hfz20_5
  try clear hfz22_0
  try clear hfz22_1
  try clear hfz22_2
  try clear hfz22_3
  try clear hfz22_4
  try clear hfz22_5
  try clear hfz23_0
  try clear hfz23_1
  try clear hfz25_0
  try clear hfz25_1
  try clear hfz25_2
  try clear hfz25_3
  try clear hfz25_4
  try clear hfz25_5
  try clear hfz27_0
  try clear hfz27_1
  try clear hfz27_2
  try clear hfz27_3
  try clear hfz27_4
  try clear hfz27_5
  try clear hfz28_0
  try clear hfz28_1
  try clear hfz30_0
  try clear hfz30_1
  try clear hfz30_2
  try clear hfz30_3
  try clear hfz30_4
  try clear hfz30_5
  obtain ⟨kq, x34_3, rfl, HA, HJ3, BK553, BK554, HB⟩ := hcut
  cases kq with
  | zero => exact absurd HA.out (by simp [wellspringlaw18_TmplTurned.j0])
  | succ kj3 =>
   have H := HA.out
   clear HA
   simp only [wellspringlaw18_TmplTurned.j0] at H
   by_cases c32 : x34_3 = true
   ·subst c32
    have H1 : ((wellspringlaw18_live.f).bind fun t556 => (some t556)) = some r := by rw [if_pos rfl] at H; exact H
    clear H
    have H := H1
    clear H1
    replace H := Option.bind_eq_some_iff.mp H
    obtain ⟨t556, A330, H⟩ := H
    replace H : (some t556) = some r := H
    have A33 := Aside0.mk A330
    clear A330
    obtain rfl := Option.some.inj H
    go_wp2_with (first | ((with_reducible refine gate_callee (f := 10) rfl ?_); refine goesL_ (some 35) rfl rfl Try.func10 (by kernel_rfl) rfl #[] rfl (by (try simp only [List.map_toArray, List.map_cons, List.map_nil]); first | done | rfl | (simp only [List.length_drop, List.length_take]; rfl)) ?_; (with_reducible refine (wellspringlaw18_live.calls  t556 _ A33.out).mono ?_); rintro e w34 ⟨rfl, hb⟩; refine ⟨_, rfl, ?_⟩; have n0_ := Aside0.mk (blk_below (g := gb553) (o := .cells #[.string a0_0, .int .i64 a0_1, .int .i64 a0_2, .int .i64 a0_3, .string a0_4, .slice A0_5 l0_5.length c0_5] 46 (0, 0)) (by (with_reducible repeat (first | refine blk_drewN ?_ _ | refine blk_drew ?_ | refine blk_alloc ?_ _)); exact BK553.out) hb); have n1_ := Aside0.mk (blk_below (g := gb554) (o := .cells #[.int .i64 a2_0, .int .i64 a2_1] 52 (0, 0)) (by (with_reducible repeat (first | refine blk_drewN ?_ _ | refine blk_drew ?_ | refine blk_alloc ?_ _)); exact BK554.out) hb); have n2_ := Aside0.mk (below_step (by repeat (first | (with_reducible first | exact HB.out | apply below_alloc | apply pw_below_drewN | apply below_drew1 | refine below_set ?_ GE553.out | refine below_set ?_ GE554.out) | exact HB.out)) hb); clear BK553; clear BK554; clear HB; have BK553 := n0_; have BK554 := n1_; have HB := n2_; clear n0_ n1_ n2_; (try clear hb); (try clear hb2); (try clear hk); (try clear hi)))
    go_ret
    exact ⟨by first | rfl | (simp [errW_none, errW_some] <;> rfl) | (simp [*, errW_none, errW_some] <;> rfl), by repeat (first | (with_reducible first | exact HB.out | apply below_alloc | apply pw_below_drewN | apply below_drew1 | refine below_set ?_ GE553.out | refine below_set ?_ GE554.out) | exact HB.out)⟩
   ·replace c32 := Bool.eq_false_iff.mpr c32
    subst c32
    have H1 : ((wellspringlaw18_Own.f kj3 a0_0 a0_1 a0_2 a0_3 a0_4 l0_5).bind fun bt557 => ((tmpl_Template_Part.f kj3 bt557.1 bt557.2.1 bt557.2.2.1 bt557.2.2.2.1 bt557.2.2.2.2.1 bt557.2.2.2.2.2 a1 a2_0 a2_1).bind fun t566 => (if 0 ≤ a1 then (if a1 < (l0_5.length : Int) then ((tmpl_Template_Part.f kj3 bt557.1 bt557.2.1 bt557.2.2.1 bt557.2.2.2.1 bt557.2.2.2.2.1 bt557.2.2.2.2.2 a1 a2_0 (wrap64 (a2_1 + (((rd_T74 l0_5 a1).f0).length : Int)))).bind fun t568 => ((tmpl_Template_Part.f kj3 bt557.1 bt557.2.1 bt557.2.2.1 bt557.2.2.2.1 bt557.2.2.2.2.1 bt557.2.2.2.2.2 a1 a2_0 0).bind fun t569 => (if t566.toList = t568.toList then (if (t566.size : Int) = (t569.size : Int) then ((wellspringlaw18_live.f).bind fun t570 => (some t570)) else (some false)) else (some false)))) else (none)) else (none)))) = some r := by rw [if_neg (show ¬ (false = true) by decide)] at H; exact H
    clear H
    have H := H1
    clear H1
    replace H := Option.bind_eq_some_iff.mp H
    obtain ⟨⟨t557, t558, t559, t560, t561, t562⟩, A350, H⟩ := H
    replace H : ((tmpl_Template_Part.f kj3 t557 t558 t559 t560 t561 t562 a1 a2_0 a2_1).bind fun t566 => (if 0 ≤ a1 then (if a1 < (l0_5.length : Int) then ((tmpl_Template_Part.f kj3 t557 t558 t559 t560 t561 t562 a1 a2_0 (wrap64 (a2_1 + (((rd_T74 l0_5 a1).f0).length : Int)))).bind fun t568 => ((tmpl_Template_Part.f kj3 t557 t558 t559 t560 t561 t562 a1 a2_0 0).bind fun t569 => (if t566.toList = t568.toList then (if (t566.size : Int) = (t569.size : Int) then ((wellspringlaw18_live.f).bind fun t570 => (some t570)) else (some false)) else (some false)))) else (none)) else (none))) = some r := H
    have A35 := Aside0.mk A350
    clear A350
    replace H := Option.bind_eq_some_iff.mp H
    obtain ⟨t566, A360, H⟩ := H
    replace H : (if 0 ≤ a1 then (if a1 < (l0_5.length : Int) then ((tmpl_Template_Part.f kj3 t557 t558 t559 t560 t561 t562 a1 a2_0 (wrap64 (a2_1 + (((rd_T74 l0_5 a1).f0).length : Int)))).bind fun t568 => ((tmpl_Template_Part.f kj3 t557 t558 t559 t560 t561 t562 a1 a2_0 0).bind fun t569 => (if t566.toList = t568.toList then (if (t566.size : Int) = (t569.size : Int) then ((wellspringlaw18_live.f).bind fun t570 => (some t570)) else (some false)) else (some false)))) else (none)) else (none)) = some r := H
    have A36 := Aside0.mk A360
    clear A360
    by_cases c37 : 0 ≤ a1
    ·rw [if_pos c37] at H
     have c37b0 : decide (0 ≤ a1) = true := decide_eq_true c37
     clear c37
     by_cases c38 : a1 < (l0_5.length : Int)
     ·rw [if_pos c38] at H
      have c38b0 : decide (a1 < (l0_5.length : Int)) = true := decide_eq_true c38
      clear c38
      replace H := Option.bind_eq_some_iff.mp H
      obtain ⟨t568, A390, H⟩ := H
      replace H : ((tmpl_Template_Part.f kj3 t557 t558 t559 t560 t561 t562 a1 a2_0 0).bind fun t569 => (if t566.toList = t568.toList then (if (t566.size : Int) = (t569.size : Int) then ((wellspringlaw18_live.f).bind fun t570 => (some t570)) else (some false)) else (some false))) = some r := H
      have A39 := Aside0.mk A390
      clear A390
      replace H := Option.bind_eq_some_iff.mp H
      obtain ⟨t569, A400, H⟩ := H
      replace H : (if t566.toList = t568.toList then (if (t566.size : Int) = (t569.size : Int) then ((wellspringlaw18_live.f).bind fun t570 => (some t570)) else (some false)) else (some false)) = some r := H
      have A40 := Aside0.mk A400
      clear A400
      by_cases c41 : t566.toList = t568.toList
      ·rw [if_pos c41] at H
       have c41b0 : (t566.toList == t568.toList) = true := beq_iff_eq.mpr c41
       have c41b1 : (t566.toList != t568.toList) = false := bne_eq_false_iff_eq.mpr c41
       clear c41
       by_cases c42 : (t566.size : Int) = (t569.size : Int)
       ·rw [if_pos c42] at H
        have c42b0 : ((t566.size : Int) == (t569.size : Int)) = true := beq_iff_eq.mpr c42
        have c42b1 : ((t566.size : Int) != (t569.size : Int)) = false := bne_eq_false_iff_eq.mpr c42
        have c42b2 : (t566.size == t569.size) = true := by first | simpa using c42 | (simp at c42 ⊢; omega)
        clear c42
        replace H := Option.bind_eq_some_iff.mp H
        obtain ⟨t570, A430, H⟩ := H
        replace H : (some t570) = some r := H
        have A43 := Aside0.mk A430
        clear A430
        obtain rfl := Option.some.inj H
        have hnb44 := NB553_554.out
        have hnc44 := NB554_553.out
        have hcz45_0 : wc.cell? ⟨gb553, 0, none⟩ = some (.string a0_0) := (blk_cell BK553.out 0).trans rfl
        have hcz45_1 : wc.cell? ⟨gb553, 1, none⟩ = some (.int .i64 a0_1) := (blk_cell BK553.out 1).trans rfl
        have hcz45_2 : wc.cell? ⟨gb553, 2, none⟩ = some (.int .i64 a0_2) := (blk_cell BK553.out 2).trans rfl
        have hcz45_3 : wc.cell? ⟨gb553, 3, none⟩ = some (.int .i64 a0_3) := (blk_cell BK553.out 3).trans rfl
        have hcz45_4 : wc.cell? ⟨gb553, 4, none⟩ = some (.string a0_4) := (blk_cell BK553.out 4).trans rfl
        have hcz45_5 : wc.cell? ⟨gb553, 5, none⟩ = some (.slice A0_5 l0_5.length c0_5) := (blk_cell BK553.out 5).trans rfl
        have hfz45_0 := blk_frozen BK553.out 0
        have hfz45_1 := blk_frozen BK553.out 1
        have hfz45_2 := blk_frozen BK553.out 2
        have hfz45_3 := blk_frozen BK553.out 3
        have hfz45_4 := blk_frozen BK553.out 4
        have hfz45_5 := blk_frozen BK553.out 5
        try go_wp2_with (first | ((with_reducible refine gate_callee (f := 17) rfl ?_); refine goesL_ (some 37) rfl rfl Try.func17 (by kernel_rfl) rfl #[.agg #[.string a0_0, .int .i64 a0_1, .int .i64 a0_2, .int .i64 a0_3, .string a0_4, .slice A0_5 l0_5.length c0_5]] rfl (by (try simp only [List.map_toArray, List.map_cons, List.map_nil]); first | done | rfl | (simp only [List.length_drop, List.length_take]; rfl)) ?_; (with_reducible refine (wellspringlaw18_Own.calls kj3 a0_0 a0_1 a0_2 a0_3 a0_4 _ _ l0_5 t557 t558 t559 t560 t561 t562 _ ?side1 ?side2 A35.out).mono ?_); (case side1 => repeat (first | exact (Kd.C_below HR0_5.out HB.out) | (with_reducible refine Kd.C_alloc ?_ _) | (with_reducible refine Kd.C_drewN ?_ _) | (with_reducible refine Kd.C_drew ?_))); (case side2 => exact HC0_5.out); rintro e w46 ⟨v563, rfl, ho0, hb⟩; refine ⟨_, rfl, ?_⟩; have n0_ := Aside0.mk (Kd.S_lower ho0 (below_size (by repeat (first | (with_reducible first | exact HB.out | apply below_alloc | apply pw_below_drewN | apply below_drew1 | refine below_set ?_ GE553.out | refine below_set ?_ GE554.out) | exact HB.out)))); have n1_ := Aside0.mk (blk_below (g := gb553) (o := .cells #[.string a0_0, .int .i64 a0_1, .int .i64 a0_2, .int .i64 a0_3, .string a0_4, .slice A0_5 l0_5.length c0_5] 46 (0, 0)) (by (with_reducible repeat (first | refine blk_drewN ?_ _ | refine blk_drew ?_ | refine blk_alloc ?_ _)); exact BK553.out) hb); have n2_ := Aside0.mk (blk_below (g := gb554) (o := .cells #[.int .i64 a2_0, .int .i64 a2_1] 52 (0, 0)) (by (with_reducible repeat (first | refine blk_drewN ?_ _ | refine blk_drew ?_ | refine blk_alloc ?_ _)); exact BK554.out) hb); have n3_ := Aside0.mk (below_step (by repeat (first | (with_reducible first | exact HB.out | apply below_alloc | apply pw_below_drewN | apply below_drew1 | refine below_set ?_ GE553.out | refine below_set ?_ GE554.out) | exact HB.out)) hb); clear BK553; clear BK554; clear HB; have HO564 := n0_; have BK553 := n1_; have BK554 := n2_; have HB := n3_; clear n0_ n1_ n2_ n3_; (try clear hb); (try clear hb2); (try clear hk); (try clear hi); (try clear ho0)) | ((with_reducible refine gate_dst (N := 7) rfl ?_); (try (refine gate_guard (by rfl) ?_; dsimp only)); refine box_event ?hg (N := 7) ?hd (cs := #[.string (⟨#[]⟩ : ByteArray), .int .i64 0, .int .i64 0, .int .i64 0, .string (⟨#[]⟩ : ByteArray), .slice none 0 0]) (t := 36) ?hr ?_; (case hd => rfl); (case hg => rfl); (case hr => first | (go_simp; done) | (go_simp; rfl)); intro gb565 hg w47 hbox hb; have n0_ := Aside0.mk (Kd.S_below (by (with_reducible repeat (first | apply Kd.S_alloc | apply Kd.S_drewN | apply Kd.S_drew)); exact HO564.out) hb); have n1_ := Aside0.mk (blk_below (g := gb553) (o := .cells #[.string a0_0, .int .i64 a0_1, .int .i64 a0_2, .int .i64 a0_3, .string a0_4, .slice A0_5 l0_5.length c0_5] 46 (0, 0)) (by (with_reducible repeat (first | refine blk_drewN ?_ _ | refine blk_drew ?_ | refine blk_alloc ?_ _)); exact BK553.out) hb); have n2_ := Aside0.mk (blk_below (g := gb554) (o := .cells #[.int .i64 a2_0, .int .i64 a2_1] 52 (0, 0)) (by (with_reducible repeat (first | refine blk_drewN ?_ _ | refine blk_drew ?_ | refine blk_alloc ?_ _)); exact BK554.out) hb); have n3_ := Aside0.mk (below_step (by repeat (first | (with_reducible first | exact HB.out | apply below_alloc | apply pw_below_drewN | apply below_drew1 | refine below_set ?_ GE553.out | refine below_set ?_ GE554.out) | exact HB.out)) hb); have n4_ := Aside0.mk (hbox); have n5_ := Aside0.mk ((by rw [hg]; exact (below_size (by repeat (first | (with_reducible first | exact HB.out | apply below_alloc | apply pw_below_drewN | apply below_drew1 | refine below_set ?_ GE553.out | refine below_set ?_ GE554.out) | exact HB.out))) : w.heap.size ≤ gb565)); have n6_ := Aside0.mk ((by rw [hg]; exact (below_size (by repeat (first | (with_reducible first | exact HB.out | apply below_alloc | apply pw_below_drewN | apply below_drew1 | refine below_set ?_ GE553.out | refine below_set ?_ GE554.out) | exact HB.out))) : w.heap.size ≤ gb565)); have n7_ := Aside0.mk ((by rw [hg]; exact Nat.ne_of_lt (blk_lt (g := gb553) (o := .cells #[.string a0_0, .int .i64 a0_1, .int .i64 a0_2, .int .i64 a0_3, .string a0_4, .slice A0_5 l0_5.length c0_5] 46 (0, 0)) (by (with_reducible repeat (first | refine blk_drewN ?_ _ | refine blk_drew ?_ | refine blk_alloc ?_ _)); exact BK553.out)) : gb553 ≠ gb565)); have n8_ := Aside0.mk ((by rw [hg]; exact Nat.ne_of_gt (blk_lt (g := gb553) (o := .cells #[.string a0_0, .int .i64 a0_1, .int .i64 a0_2, .int .i64 a0_3, .string a0_4, .slice A0_5 l0_5.length c0_5] 46 (0, 0)) (by (with_reducible repeat (first | refine blk_drewN ?_ _ | refine blk_drew ?_ | refine blk_alloc ?_ _)); exact BK553.out)) : gb565 ≠ gb553)); have n9_ := Aside0.mk ((by rw [hg]; exact Nat.ne_of_lt (blk_lt (g := gb554) (o := .cells #[.int .i64 a2_0, .int .i64 a2_1] 52 (0, 0)) (by (with_reducible repeat (first | refine blk_drewN ?_ _ | refine blk_drew ?_ | refine blk_alloc ?_ _)); exact BK554.out)) : gb554 ≠ gb565)); have n10_ := Aside0.mk ((by rw [hg]; exact Nat.ne_of_gt (blk_lt (g := gb554) (o := .cells #[.int .i64 a2_0, .int .i64 a2_1] 52 (0, 0)) (by (with_reducible repeat (first | refine blk_drewN ?_ _ | refine blk_drew ?_ | refine blk_alloc ?_ _)); exact BK554.out)) : gb565 ≠ gb554)); clear HO564; clear BK553; clear BK554; clear HB; have HO564 := n0_; have BK553 := n1_; have BK554 := n2_; have HB := n3_; have BK565 := n4_; have GW565 := n5_; have GE565 := n6_; have NB553_565 := n7_; have NB565_553 := n8_; have NB554_565 := n9_; have NB565_554 := n10_; clear n0_ n1_ n2_ n3_ n4_ n5_ n6_ n7_ n8_ n9_ n10_; clear hb hbox hg; have hnb48 := NB565_553.out; have hnc48 := NB553_565.out; have hnb49 := NB565_554.out; have hnc49 := NB554_565.out; have hcz50_0 : w47.cell? ⟨gb565, 0, none⟩ = some (.string (⟨#[]⟩ : ByteArray)) := (blk_cell BK565.out 0).trans rfl; have hcz50_1 : w47.cell? ⟨gb565, 1, none⟩ = some (.int .i64 0) := (blk_cell BK565.out 1).trans rfl; have hcz50_2 : w47.cell? ⟨gb565, 2, none⟩ = some (.int .i64 0) := (blk_cell BK565.out 2).trans rfl; have hcz50_3 : w47.cell? ⟨gb565, 3, none⟩ = some (.int .i64 0) := (blk_cell BK565.out 3).trans rfl; have hcz50_4 : w47.cell? ⟨gb565, 4, none⟩ = some (.string (⟨#[]⟩ : ByteArray)) := (blk_cell BK565.out 4).trans rfl; have hcz50_5 : w47.cell? ⟨gb565, 5, none⟩ = some (.slice none 0 0) := (blk_cell BK565.out 5).trans rfl; have hfz50_0 := blk_frozen BK565.out 0; have hfz50_1 := blk_frozen BK565.out 1; have hfz50_2 := blk_frozen BK565.out 2; have hfz50_3 := blk_frozen BK565.out 3; have hfz50_4 := blk_frozen BK565.out 4; have hfz50_5 := blk_frozen BK565.out 5; obtain ⟨Ao51, co51, eo51⟩ := Kd.S_slice HO564.out; subst eo51; have hcz52_0 : w47.cell? ⟨gb554, 0, none⟩ = some (.int .i64 a2_0) := (blk_cell BK554.out 0).trans rfl; have hcz52_1 : w47.cell? ⟨gb554, 1, none⟩ = some (.int .i64 a2_1) := (blk_cell BK554.out 1).trans rfl; have hfz52_0 := blk_frozen BK554.out 0; have hfz52_1 := blk_frozen BK554.out 1) | ((with_reducible refine gate_callee (f := 22) rfl ?_); refine goesL_ (some 44) rfl rfl Try.func22 (by kernel_rfl) rfl #[.agg #[.string t557, .int .i64 t558, .int .i64 t559, .int .i64 t560, .string t561, .slice Ao51 t562.length co51], .int .i64 a1, .int .i64 a2_0, .int .i64 a2_1] rfl (by (try simp only [List.map_toArray, List.map_cons, List.map_nil]); first | done | rfl | (simp only [List.length_drop, List.length_take]; rfl)) ?_; (with_reducible refine (tmpl_Template_Part.calls kj3 t557 t558 t559 t560 t561 _ _ t562 a1 a2_0 a2_1 t566 _ ?side1 ?side2 A36.out).mono ?_); (case side1 => refine (Kd.S_reads' (e := 69) (base := w.heap.size) (ok := fun k_ => True) (n := t562.length) (c := co51) ?_).2.2; exact (by (with_reducible repeat (first | apply Kd.S_alloc | apply Kd.S_drewN | apply Kd.S_drew)); exact (Kd.S_mono (Kd.S_far (p := ⟨gb565, 5, none⟩) (Kd.S_far (p := ⟨gb565, 4, none⟩) (Kd.S_far (p := ⟨gb565, 3, none⟩) (Kd.S_far (p := ⟨gb565, 2, none⟩) (Kd.S_far (p := ⟨gb565, 1, none⟩) (Kd.S_far (p := ⟨gb565, 0, none⟩) (Kd.S_types HO564.out BK565.out (by decide)) (fun _ hk => hk.2) (.string t557)) (fun _ hk => hk.2) (.int .i64 t558)) (fun _ hk => hk.2) (.int .i64 t559)) (fun _ hk => hk.2) (.int .i64 t560)) (fun _ hk => hk.2) (.string t561)) (fun _ hk => hk.2) (.slice Ao51 t562.length co51)) (fun _ h_ => h_.1)))); (case side2 => exact (Kd.S_reads' HO564.out).2.1); rintro e w53 ⟨rfl, hb⟩; refine ⟨_, rfl, ?_⟩; have n0_ := Aside0.mk (Kd.S_below (by (with_reducible repeat (first | apply Kd.S_alloc | apply Kd.S_drewN | apply Kd.S_drew)); exact (Kd.S_mono (Kd.S_far (p := ⟨gb565, 5, none⟩) (Kd.S_far (p := ⟨gb565, 4, none⟩) (Kd.S_far (p := ⟨gb565, 3, none⟩) (Kd.S_far (p := ⟨gb565, 2, none⟩) (Kd.S_far (p := ⟨gb565, 1, none⟩) (Kd.S_far (p := ⟨gb565, 0, none⟩) (Kd.S_types HO564.out BK565.out (by decide)) (fun _ hk => hk.2) (.string t557)) (fun _ hk => hk.2) (.int .i64 t558)) (fun _ hk => hk.2) (.int .i64 t559)) (fun _ hk => hk.2) (.int .i64 t560)) (fun _ hk => hk.2) (.string t561)) (fun _ hk => hk.2) (.slice Ao51 t562.length co51)) (fun _ h_ => h_.1))) hb); have n1_ := Aside0.mk (blk_below (g := gb553) (o := .cells #[.string a0_0, .int .i64 a0_1, .int .i64 a0_2, .int .i64 a0_3, .string a0_4, .slice A0_5 l0_5.length c0_5] 46 (0, 0)) (by (with_reducible repeat (first | refine blk_drewN ?_ _ | refine blk_drew ?_ | refine blk_alloc ?_ _)); refine blk_far ?_ NB553_565.out _; (with_reducible repeat (first | refine blk_drewN ?_ _ | refine blk_drew ?_ | refine blk_alloc ?_ _)); refine blk_far ?_ NB553_565.out _; (with_reducible repeat (first | refine blk_drewN ?_ _ | refine blk_drew ?_ | refine blk_alloc ?_ _)); refine blk_far ?_ NB553_565.out _; (with_reducible repeat (first | refine blk_drewN ?_ _ | refine blk_drew ?_ | refine blk_alloc ?_ _)); refine blk_far ?_ NB553_565.out _; (with_reducible repeat (first | refine blk_drewN ?_ _ | refine blk_drew ?_ | refine blk_alloc ?_ _)); refine blk_far ?_ NB553_565.out _; (with_reducible repeat (first | refine blk_drewN ?_ _ | refine blk_drew ?_ | refine blk_alloc ?_ _)); refine blk_far ?_ NB553_565.out _; (with_reducible repeat (first | refine blk_drewN ?_ _ | refine blk_drew ?_ | refine blk_alloc ?_ _)); exact BK553.out) hb); have n2_ := Aside0.mk (blk_below (g := gb554) (o := .cells #[.int .i64 a2_0, .int .i64 a2_1] 52 (0, 0)) (by (with_reducible repeat (first | refine blk_drewN ?_ _ | refine blk_drew ?_ | refine blk_alloc ?_ _)); refine blk_far ?_ NB554_565.out _; (with_reducible repeat (first | refine blk_drewN ?_ _ | refine blk_drew ?_ | refine blk_alloc ?_ _)); refine blk_far ?_ NB554_565.out _; (with_reducible repeat (first | refine blk_drewN ?_ _ | refine blk_drew ?_ | refine blk_alloc ?_ _)); refine blk_far ?_ NB554_565.out _; (with_reducible repeat (first | refine blk_drewN ?_ _ | refine blk_drew ?_ | refine blk_alloc ?_ _)); refine blk_far ?_ NB554_565.out _; (with_reducible repeat (first | refine blk_drewN ?_ _ | refine blk_drew ?_ | refine blk_alloc ?_ _)); refine blk_far ?_ NB554_565.out _; (with_reducible repeat (first | refine blk_drewN ?_ _ | refine blk_drew ?_ | refine blk_alloc ?_ _)); refine blk_far ?_ NB554_565.out _; (with_reducible repeat (first | refine blk_drewN ?_ _ | refine blk_drew ?_ | refine blk_alloc ?_ _)); exact BK554.out) hb); have n3_ := Aside0.mk (blk_below (g := gb565) (o := .cells #[.string t557, .int .i64 t558, .int .i64 t559, .int .i64 t560, .string t561, .slice Ao51 t562.length co51] 36 (0, 0)) (by (with_reducible repeat (first | refine blk_drewN ?_ _ | refine blk_drew ?_ | refine blk_alloc ?_ _)); refine blk_put (cs := #[.string t557, .int .i64 t558, .int .i64 t559, .int .i64 t560, .string t561, .slice none 0 0]) ?_ 5 _ rfl; (with_reducible repeat (first | refine blk_drewN ?_ _ | refine blk_drew ?_ | refine blk_alloc ?_ _)); refine blk_put (cs := #[.string t557, .int .i64 t558, .int .i64 t559, .int .i64 t560, .string (⟨#[]⟩ : ByteArray), .slice none 0 0]) ?_ 4 _ rfl; (with_reducible repeat (first | refine blk_drewN ?_ _ | refine blk_drew ?_ | refine blk_alloc ?_ _)); refine blk_put (cs := #[.string t557, .int .i64 t558, .int .i64 t559, .int .i64 0, .string (⟨#[]⟩ : ByteArray), .slice none 0 0]) ?_ 3 _ rfl; (with_reducible repeat (first | refine blk_drewN ?_ _ | refine blk_drew ?_ | refine blk_alloc ?_ _)); refine blk_put (cs := #[.string t557, .int .i64 t558, .int .i64 0, .int .i64 0, .string (⟨#[]⟩ : ByteArray), .slice none 0 0]) ?_ 2 _ rfl; (with_reducible repeat (first | refine blk_drewN ?_ _ | refine blk_drew ?_ | refine blk_alloc ?_ _)); refine blk_put (cs := #[.string t557, .int .i64 0, .int .i64 0, .int .i64 0, .string (⟨#[]⟩ : ByteArray), .slice none 0 0]) ?_ 1 _ rfl; (with_reducible repeat (first | refine blk_drewN ?_ _ | refine blk_drew ?_ | refine blk_alloc ?_ _)); refine blk_put (cs := #[.string (⟨#[]⟩ : ByteArray), .int .i64 0, .int .i64 0, .int .i64 0, .string (⟨#[]⟩ : ByteArray), .slice none 0 0]) ?_ 0 _ rfl; (with_reducible repeat (first | refine blk_drewN ?_ _ | refine blk_drew ?_ | refine blk_alloc ?_ _)); exact BK565.out) hb); have n4_ := Aside0.mk (below_step (by repeat (first | (with_reducible first | exact HB.out | apply below_alloc | apply pw_below_drewN | apply below_drew1 | refine below_set ?_ GE553.out | refine below_set ?_ GE554.out | refine below_set ?_ GE565.out) | exact HB.out)) hb); clear HO564; clear BK553; clear BK554; clear BK565; clear HB; have HO564 := n0_; have BK553 := n1_; have BK554 := n2_; have BK565 := n3_; have HB := n4_; clear n0_ n1_ n2_ n3_ n4_; (try clear hb); (try clear hb2); (try clear hk); (try clear hi)))
        have n0_ := Aside0.mk (Kd.S_drew HO564.out)
        have n1_ := Aside0.mk (blk_drew BK553.out)
        have n2_ := Aside0.mk (blk_drew BK554.out)
        have n3_ := Aside0.mk (blk_drew BK565.out)
        have n4_ := Aside0.mk (below_drew1 HB.out)
        clear HO564
        clear BK553
        clear BK554
        clear BK565
        clear HB
        have HO564 := n0_
        have BK553 := n1_
        have BK554 := n2_
        have BK565 := n3_
        have HB := n4_
        clear n0_ n1_ n2_ n3_ n4_
        have p567 : 0 ≤ (a1 : Int) := of_decide_eq_true (by first | (with_reducible assumption) | assumption)
        have q567 : a1 < (l0_5.length : Int) := of_decide_eq_true (by first | (with_reducible assumption) | assumption)
        obtain ⟨ad567, A567_0, c567_0, e567, hx567_0, hx567_1, hx567_2, hl567_0, hi567_0⟩ := at_T74 HR0_5.out a1 p567 q567
        have hw567_2 := hx567_2
        have hw567_1 := hx567_1
        have hw567_0 := hx567_0
        cases e567
        replace hx567_0 := (HB.out.cell (World.block_lt_of_cell? w _ hx567_0)).trans hx567_0
        replace hx567_1 := (HB.out.cell (World.block_lt_of_cell? w _ hx567_1)).trans hx567_1
        replace hx567_2 := (HB.out.cell (World.block_lt_of_cell? w _ hx567_2)).trans hx567_2
        have HR567_0 := Aside0.mk hi567_0
        have HC567_0 := Aside0.mk hl567_0
        clear hi567_0 hl567_0
        replace p567 := eq_true p567
        replace q567 := eq_true q567
        refine start_ (n := 16) (S := fun w' => w'.cell? ⟨gb565, 0, none⟩ = some (.string t557) ∧ w'.cell? ⟨gb565, 1, none⟩ = some (.int .i64 t558) ∧ w'.cell? ⟨gb565, 2, none⟩ = some (.int .i64 t559) ∧ w'.cell? ⟨gb565, 3, none⟩ = some (.int .i64 t560) ∧ w'.cell? ⟨gb565, 4, none⟩ = some (.string t561) ∧ w'.cell? ⟨gb565, 5, none⟩ = some (.slice Ao51 t562.length co51) ∧ w'.cell? ⟨gb554, 0, none⟩ = some (.int .i64 a2_0) ∧ w'.cell? ⟨gb554, 1, none⟩ = some (.int .i64 a2_1) ∧ w'.cell? ⟨gb553, 0, none⟩ = some (.string a0_0) ∧ w'.cell? ⟨gb553, 1, none⟩ = some (.int .i64 a0_1) ∧ w'.cell? ⟨gb553, 2, none⟩ = some (.int .i64 a0_2) ∧ w'.cell? ⟨gb553, 3, none⟩ = some (.int .i64 a0_3) ∧ w'.cell? ⟨gb553, 4, none⟩ = some (.string a0_4) ∧ w'.cell? ⟨gb553, 5, none⟩ = some (.slice (some ad567) l0_5.length c0_5) ∧ w'.cell? (ad567.add ((a1).toNat * 3)) = some (.slice A567_0 ((rd_T74 l0_5 a1).f0).length c567_0) ∧ w'.cell? ⟨(ad567.add ((a1).toNat * 3)).block, (ad567.add ((a1).toNat * 3)).off + 1, none⟩ = some (.int .i64 ((rd_T74 l0_5 a1).f1)) ∧ w'.cell? ⟨(ad567.add ((a1).toNat * 3)).block, (ad567.add ((a1).toNat * 3)).off + 2, none⟩ = some (.bool ((rd_T74 l0_5 a1).f2))) (ds := []) #[false, false, false, false, false, false, false, false, false, false, false, false, false, false, false, false] (by kernel_rfl) rfl rfl ⟨(blk_cell BK565.out 0).trans rfl, (blk_cell BK565.out 1).trans rfl, (blk_cell BK565.out 2).trans rfl, (blk_cell BK565.out 3).trans rfl, (blk_cell BK565.out 4).trans rfl, (blk_cell BK565.out 5).trans rfl, (blk_cell BK554.out 0).trans rfl, (blk_cell BK554.out 1).trans rfl, (blk_cell BK553.out 0).trans rfl, (blk_cell BK553.out 1).trans rfl, (blk_cell BK553.out 2).trans rfl, (blk_cell BK553.out 3).trans rfl, (blk_cell BK553.out 4).trans rfl, (blk_cell BK553.out 5).trans rfl, ((HB.out.cell (World.block_lt_of_cell? w _ hw567_0)).trans hw567_0), ((HB.out.cell (World.block_lt_of_cell? w _ hw567_1)).trans hw567_1), ((HB.out.cell (World.block_lt_of_cell? w _ hw567_2)).trans hw567_2)⟩ (fun hHeld => ?_); refine with_tabW wellspringlaw18_TmplTurned.tab5 wellspringlaw18_TmplTurned.bits5 (fun HT_ HW_ => ?_)
        generalize w53.drew = w54 at HO564 BK553 BK554 BK565 HB HR567_0 hx567_0 hx567_1 hx567_2 hHeld ⊢
        refine pure_ (i := 1) (N := some 46) (v := ?_) (a' := ?_) #[false, true, false, false, false, false, false, false, false, false, false, false, false, false, false, false] rfl rfl (any_of HT_.out (by kernel_rfl)) (fun _ _ _ h => h) (Or.inl ⟨by rfl, ?_⟩) ?_ ?_
        rotate_left
        ·intro w'
         go_simp
         with_reducible rfl
        rotate_left
        ·simp only [Act.put, List.setIfInBounds_toArray, List.set_cons_zero, List.set_cons_succ, i64_w, i32_w]
         rfl
        refine pure_ (i := 2) (N := some 47) (v := ?_) (a' := ?_) #[false, true, true, false, false, false, false, false, false, false, false, false, false, false, false, false] rfl rfl (any_of HT_.out (by kernel_rfl)) (fun _ _ _ h => h) (Or.inl ⟨by rfl, ?_⟩) ?_ ?_
        rotate_left
        ·intro w'
         go_simp
         with_reducible rfl
        rotate_left
        ·simp only [Act.put, List.setIfInBounds_toArray, List.set_cons_zero, List.set_cons_succ, i64_w, i32_w]
         rfl
        refine pure_ (i := 4) (N := some 49) (v := ?_) (a' := ?_) #[false, true, true, false, true, false, false, false, false, false, false, false, false, false, false, false] rfl rfl (any_of HT_.out (by kernel_rfl)) (fun _ _ _ h => h) (Or.inl ⟨by rfl, ?_⟩) ?_ ?_
        rotate_left
        ·intro w'
         go_simp
         with_reducible rfl
        rotate_left
        ·simp only [Act.put, List.setIfInBounds_toArray, List.set_cons_zero, List.set_cons_succ, i64_w, i32_w]
         rfl
        refine pure_ (i := 6) (N := some 51) (v := ?_) (a' := ?_) #[false, true, true, false, true, false, true, false, false, false, false, false, false, false, false, false] rfl rfl (any_of HT_.out (by kernel_rfl)) (fun _ _ _ h => h) (Or.inl ⟨by rfl, ?_⟩) ?_ ?_
        rotate_left
        ·intro w'
         go_simp
         with_reducible rfl
        rotate_left
        ·simp only [Act.put, List.setIfInBounds_toArray, List.set_cons_zero, List.set_cons_succ, i64_w, i32_w]
         rfl
        refine pure_ (i := 8) (N := some 53) (v := ?_) (a' := ?_) #[false, true, true, false, true, false, true, false, true, false, false, false, false, false, false, false] rfl rfl (any_of HT_.out (by kernel_rfl)) (fun _ _ _ h => h) (Or.inl ⟨by rfl, ?_⟩) ?_ ?_
        rotate_left
        ·intro w'
         go_simp
         with_reducible rfl
        rotate_left
        ·simp only [Act.put, List.setIfInBounds_toArray, List.set_cons_zero, List.set_cons_succ, i64_w, i32_w]
         rfl
        refine take_ (i := 0) (N := some 45) (v := ?_) (a' := ?_) #[true, true, true, false, true, false, true, false, true, false, false, false, false, false, false, false] rfl rfl (take_ofW HT_.out HW_.out (by kernel_rfl)) (fun _ _ _ h => h) (Or.inl ⟨by rfl, ?_⟩) hHeld ?_ ?_
        rotate_left
        ·rintro w' ⟨s0, s1, s2, s3, s4, s5, s6, s7, s8, s9, s10, s11, s12, s13, s14, s15, s16⟩
         go_simp
         with_reducible rfl
        rotate_left
        ·simp only [Act.put, List.setIfInBounds_toArray, List.set_cons_zero, List.set_cons_succ, i64_w, i32_w]
         rfl
        refine take_ (i := 3) (N := some 48) (v := ?_) (a' := ?_) #[true, true, true, true, true, false, true, false, true, false, false, false, false, false, false, false] rfl rfl (take_ofW HT_.out HW_.out (by kernel_rfl)) (fun _ _ _ h => h) (Or.inl ⟨by rfl, ?_⟩) hHeld ?_ ?_
        rotate_left
        ·rintro w' ⟨s0, s1, s2, s3, s4, s5, s6, s7, s8, s9, s10, s11, s12, s13, s14, s15, s16⟩
         go_simp
         with_reducible rfl
        rotate_left
        ·simp only [Act.put, List.setIfInBounds_toArray, List.set_cons_zero, List.set_cons_succ, i64_w, i32_w]
         rfl
        refine take_ (i := 5) (N := some 50) (v := ?_) (a' := ?_) #[true, true, true, true, true, true, true, false, true, false, false, false, false, false, false, false] rfl rfl (take_ofW HT_.out HW_.out (by kernel_rfl)) (fun _ _ _ h => h) (Or.inl ⟨by rfl, ?_⟩) hHeld ?_ ?_
        rotate_left
        ·rintro w' ⟨s0, s1, s2, s3, s4, s5, s6, s7, s8, s9, s10, s11, s12, s13, s14, s15, s16⟩
         go_simp
         with_reducible rfl
        rotate_left
        ·simp only [Act.put, List.setIfInBounds_toArray, List.set_cons_zero, List.set_cons_succ, i64_w, i32_w]
         rfl
        refine take_ (i := 7) (N := some 52) (v := ?_) (a' := ?_) #[true, true, true, true, true, true, true, true, true, false, false, false, false, false, false, false] rfl rfl (take_ofW HT_.out HW_.out (by kernel_rfl)) (fun _ _ _ h => h) (Or.inl ⟨by rfl, ?_⟩) hHeld ?_ ?_
        rotate_left
        ·rintro w' ⟨s0, s1, s2, s3, s4, s5, s6, s7, s8, s9, s10, s11, s12, s13, s14, s15, s16⟩
         go_simp
         with_reducible rfl
        rotate_left
        ·simp only [Act.put, List.setIfInBounds_toArray, List.set_cons_zero, List.set_cons_succ, i64_w, i32_w]
         rfl
        refine pure_ (i := 9) (N := some 54) (v := ?_) (a' := ?_) #[true, true, true, true, true, true, true, true, true, true, false, false, false, false, false, false] rfl rfl (any_of HT_.out (by kernel_rfl)) (fun _ _ _ h => h) (Or.inl ⟨by rfl, ?_⟩) ?_ ?_
        rotate_left
        ·intro w'
         go_simp
         with_reducible rfl
        rotate_left
        ·simp only [Act.put, List.setIfInBounds_toArray, List.set_cons_zero, List.set_cons_succ, i64_w, i32_w]
         rfl
        refine pure_ (i := 10) (N := some 55) (v := ?_) (a' := ?_) #[true, true, true, true, true, true, true, true, true, true, true, false, false, false, false, false] rfl rfl (any_of HT_.out (by kernel_rfl)) (fun _ _ _ h => h) (Or.inl ⟨by rfl, ?_⟩) ?_ ?_
        rotate_left
        ·intro w'
         go_simp
         with_reducible rfl
        rotate_left
        ·simp only [Act.put, List.setIfInBounds_toArray, List.set_cons_zero, List.set_cons_succ, i64_w, i32_w]
         rfl
        refine take_ (i := 11) (N := some 56) (v := ?_) (a' := ?_) #[true, true, true, true, true, true, true, true, true, true, true, true, false, false, false, false] rfl rfl (take_ofW HT_.out HW_.out (by kernel_rfl)) (fun _ _ _ h => h) (Or.inl ⟨by rfl, ?_⟩) hHeld ?_ ?_
        rotate_left
        ·rintro w' ⟨s0, s1, s2, s3, s4, s5, s6, s7, s8, s9, s10, s11, s12, s13, s14, s15, s16⟩
         go_simp
         with_reducible rfl
        rotate_left
        ·simp only [Act.put, List.setIfInBounds_toArray, List.set_cons_zero, List.set_cons_succ, i64_w, i32_w]
         rfl
        refine pure_ (i := 12) (N := some 57) (v := ?_) (a' := ?_) #[true, true, true, true, true, true, true, true, true, true, true, true, true, false, false, false] rfl rfl (any_of HT_.out (by kernel_rfl)) (fun _ _ _ h => h) (Or.inl ⟨by rfl, ?_⟩) ?_ ?_
        rotate_left
        ·intro w'
         go_simp
         with_reducible rfl
        rotate_left
        ·simp only [Act.put, List.setIfInBounds_toArray, List.set_cons_zero, List.set_cons_succ, i64_w, i32_w]
         rfl
        refine pure_ (i := 13) (N := some 58) (v := ?_) (a' := ?_) #[true, true, true, true, true, true, true, true, true, true, true, true, true, true, false, false] rfl rfl (any_of HT_.out (by kernel_rfl)) (fun _ _ _ h => h) (Or.inl ⟨by rfl, ?_⟩) ?_ ?_
        rotate_left
        ·intro w'
         go_simp
         with_reducible rfl
        rotate_left
        ·simp only [Act.put, List.setIfInBounds_toArray, List.set_cons_zero, List.set_cons_succ, i64_w, i32_w]
         rfl
        refine one_ (i := 14) (N := some 59) #[true, true, true, true, true, true, true, true, true, true, true, true, true, true, true, false] rfl rfl (one_of HT_.out (by kernel_rfl)) (by decide) (fun K hK => ?_)
        refine goes_ Try.func22 (by kernel_rfl) rfl #[.agg #[.string t557, .int .i64 t558, .int .i64 t559, .int .i64 t560, .string t561, .slice Ao51 t562.length co51], .int .i64 a1, .int .i64 a2_0, .int .i64 (wrap64 (a2_1 + (((rd_T74 l0_5 a1).f0).length : Int)))] (by rfl) rfl rfl (by (try simp only [List.map_toArray, List.map_cons, List.map_nil]); first | done | rfl | (simp only [List.length_drop, List.length_take]; rfl)) ?_
        with_reducible refine (tmpl_Template_Part.calls kj3 t557 t558 t559 t560 t561 _ _ t562 a1 a2_0 (wrap64 (a2_1 + (((rd_T74 l0_5 a1).f0).length : Int))) t568 _ ?side1 ?side2 A39.out).mono ?_
        (case side1 => repeat (first | exact (Kd.S_reads' HO564.out).2.2 | (with_reducible refine Kd.C_alloc ?_ _) | (with_reducible refine Kd.C_drewN ?_ _) | (with_reducible refine Kd.C_drew ?_)))
        (case side2 => exact (Kd.S_reads' HO564.out).2.1)
        rintro e w55 ⟨rfl, hb⟩
        refine ⟨_, rfl, ?_⟩
        have n0_ := Aside0.mk (Kd.S_below (by (with_reducible repeat (first | apply Kd.S_alloc | apply Kd.S_drewN | apply Kd.S_drew)); exact HO564.out) hb)
        have n1_ := Aside0.mk (blk_below (g := gb553) (o := .cells #[.string a0_0, .int .i64 a0_1, .int .i64 a0_2, .int .i64 a0_3, .string a0_4, .slice (some ad567) l0_5.length c0_5] 46 (0, 0)) (by (with_reducible repeat (first | refine blk_drewN ?_ _ | refine blk_drew ?_ | refine blk_alloc ?_ _)); exact BK553.out) hb)
        have n2_ := Aside0.mk (blk_below (g := gb554) (o := .cells #[.int .i64 a2_0, .int .i64 a2_1] 52 (0, 0)) (by (with_reducible repeat (first | refine blk_drewN ?_ _ | refine blk_drew ?_ | refine blk_alloc ?_ _)); exact BK554.out) hb)
        have n3_ := Aside0.mk (blk_below (g := gb565) (o := .cells #[.string t557, .int .i64 t558, .int .i64 t559, .int .i64 t560, .string t561, .slice Ao51 t562.length co51] 36 (0, 0)) (by (with_reducible repeat (first | refine blk_drewN ?_ _ | refine blk_drew ?_ | refine blk_alloc ?_ _)); exact BK565.out) hb)
        have n4_ := Aside0.mk (below_step (by repeat (first | (with_reducible first | exact HB.out | apply below_alloc | apply pw_below_drewN | apply below_drew1 | refine below_set ?_ GE553.out | refine below_set ?_ GE554.out | refine below_set ?_ GE565.out) | exact HB.out)) hb)
        clear HO564
        clear BK553
        clear BK554
        clear BK565
        clear HB
        have HO564 := n0_
        have BK553 := n1_
        have BK554 := n2_
        have BK565 := n3_
        have HB := n4_
        clear n0_ n1_ n2_ n3_ n4_
        (try clear hb)
        (try clear hb2)
        (try clear hk)
        (try clear hi)
        refine hK.out _ _ ⟨(blk_cell BK565.out 0).trans rfl, (blk_cell BK565.out 1).trans rfl, (blk_cell BK565.out 2).trans rfl, (blk_cell BK565.out 3).trans rfl, (blk_cell BK565.out 4).trans rfl, (blk_cell BK565.out 5).trans rfl, (blk_cell BK554.out 0).trans rfl, (blk_cell BK554.out 1).trans rfl, (blk_cell BK553.out 0).trans rfl, (blk_cell BK553.out 1).trans rfl, (blk_cell BK553.out 2).trans rfl, (blk_cell BK553.out 3).trans rfl, (blk_cell BK553.out 4).trans rfl, (blk_cell BK553.out 5).trans rfl, ((HB.out.cell (World.block_lt_of_cell? w _ hw567_0)).trans hw567_0), ((HB.out.cell (World.block_lt_of_cell? w _ hw567_1)).trans hw567_1), ((HB.out.cell (World.block_lt_of_cell? w _ hw567_2)).trans hw567_2)⟩ (fun hHeld => ?_)
        clear hK K
        refine norm_ (a' := ?_) ?_ ?_
        rotate_left
        ·show Act.put _ (some 59) _ = _
         simp only [Act.put, List.setIfInBounds_toArray, List.set_cons_zero, List.set_cons_succ, i64_w, i32_w]
         rfl
        refine pure_ (i := 15) (N := some 9) (v := ?_) (a' := ?_) #[true, true, true, true, true, true, true, true, true, true, true, true, true, true, true, true] rfl rfl (any_of HT_.out (by kernel_rfl)) (fun _ _ _ h => h) (Or.inl ⟨by rfl, ?_⟩) ?_ ?_
        rotate_left
        ·intro w'
         go_simp
         with_reducible rfl
        rotate_left
        ·simp only [Act.put, List.setIfInBounds_toArray, List.set_cons_zero, List.set_cons_succ, i64_w, i32_w]
         rfl
        refine done_ (done_of HT_.out (by kernel_rfl)) ?_
        have hcz56_0 : w55.cell? ⟨gb565, 0, none⟩ = some (.string t557) := (blk_cell BK565.out 0).trans rfl
        have hcz56_1 : w55.cell? ⟨gb565, 1, none⟩ = some (.int .i64 t558) := (blk_cell BK565.out 1).trans rfl
        have hcz56_2 : w55.cell? ⟨gb565, 2, none⟩ = some (.int .i64 t559) := (blk_cell BK565.out 2).trans rfl
        have hcz56_3 : w55.cell? ⟨gb565, 3, none⟩ = some (.int .i64 t560) := (blk_cell BK565.out 3).trans rfl
        have hcz56_4 : w55.cell? ⟨gb565, 4, none⟩ = some (.string t561) := (blk_cell BK565.out 4).trans rfl
        have hcz56_5 : w55.cell? ⟨gb565, 5, none⟩ = some (.slice Ao51 t562.length co51) := (blk_cell BK565.out 5).trans rfl
        have hfz56_0 := blk_frozen BK565.out 0
        have hfz56_1 := blk_frozen BK565.out 1
        have hfz56_2 := blk_frozen BK565.out 2
        have hfz56_3 := blk_frozen BK565.out 3
        have hfz56_4 := blk_frozen BK565.out 4
        have hfz56_5 := blk_frozen BK565.out 5
        have hcz57_0 : w55.cell? ⟨gb554, 0, none⟩ = some (.int .i64 a2_0) := (blk_cell BK554.out 0).trans rfl
        have hcz57_1 : w55.cell? ⟨gb554, 1, none⟩ = some (.int .i64 a2_1) := (blk_cell BK554.out 1).trans rfl
        have hfz57_0 := blk_frozen BK554.out 0
        have hfz57_1 := blk_frozen BK554.out 1
        try go_wp2_with (first | ((with_reducible refine gate_callee (f := 22) rfl ?_); refine goesL_ (some 64) rfl rfl Try.func22 (by kernel_rfl) rfl #[.agg #[.string t557, .int .i64 t558, .int .i64 t559, .int .i64 t560, .string t561, .slice Ao51 t562.length co51], .int .i64 a1, .int .i64 a2_0, .int .i64 0] rfl (by (try simp only [List.map_toArray, List.map_cons, List.map_nil]); first | done | rfl | (simp only [List.length_drop, List.length_take]; rfl)) ?_; (with_reducible refine (tmpl_Template_Part.calls kj3 t557 t558 t559 t560 t561 _ _ t562 a1 a2_0 0 t569 _ ?side1 ?side2 A40.out).mono ?_); (case side1 => repeat (first | exact (Kd.S_reads' HO564.out).2.2 | (with_reducible refine Kd.C_alloc ?_ _) | (with_reducible refine Kd.C_drewN ?_ _) | (with_reducible refine Kd.C_drew ?_))); (case side2 => exact (Kd.S_reads' HO564.out).2.1); rintro e w58 ⟨rfl, hb⟩; refine ⟨_, rfl, ?_⟩; have n0_ := Aside0.mk (Kd.S_below (by (with_reducible repeat (first | apply Kd.S_alloc | apply Kd.S_drewN | apply Kd.S_drew)); exact HO564.out) hb); have n1_ := Aside0.mk (blk_below (g := gb553) (o := .cells #[.string a0_0, .int .i64 a0_1, .int .i64 a0_2, .int .i64 a0_3, .string a0_4, .slice (some ad567) l0_5.length c0_5] 46 (0, 0)) (by (with_reducible repeat (first | refine blk_drewN ?_ _ | refine blk_drew ?_ | refine blk_alloc ?_ _)); exact BK553.out) hb); have n2_ := Aside0.mk (blk_below (g := gb554) (o := .cells #[.int .i64 a2_0, .int .i64 a2_1] 52 (0, 0)) (by (with_reducible repeat (first | refine blk_drewN ?_ _ | refine blk_drew ?_ | refine blk_alloc ?_ _)); exact BK554.out) hb); have n3_ := Aside0.mk (blk_below (g := gb565) (o := .cells #[.string t557, .int .i64 t558, .int .i64 t559, .int .i64 t560, .string t561, .slice Ao51 t562.length co51] 36 (0, 0)) (by (with_reducible repeat (first | refine blk_drewN ?_ _ | refine blk_drew ?_ | refine blk_alloc ?_ _)); exact BK565.out) hb); have n4_ := Aside0.mk (below_step (by repeat (first | (with_reducible first | exact HB.out | apply below_alloc | apply pw_below_drewN | apply below_drew1 | refine below_set ?_ GE553.out | refine below_set ?_ GE554.out | refine below_set ?_ GE565.out) | exact HB.out)) hb); clear HO564; clear BK553; clear BK554; clear BK565; clear HB; have HO564 := n0_; have BK553 := n1_; have BK554 := n2_; have BK565 := n3_; have HB := n4_; clear n0_ n1_ n2_ n3_ n4_; (try clear hb); (try clear hb2); (try clear hk); (try clear hi)) | (go_at_call 10; (with_reducible refine (wellspringlaw18_live.calls  t570 _ A43.out).mono ?_); rintro e w59 ⟨rfl, hb⟩; have n0_ := Aside0.mk (Kd.S_below (by (with_reducible repeat (first | apply Kd.S_alloc | apply Kd.S_drewN | apply Kd.S_drew)); exact HO564.out) hb); have n1_ := Aside0.mk (blk_below (g := gb553) (o := .cells #[.string a0_0, .int .i64 a0_1, .int .i64 a0_2, .int .i64 a0_3, .string a0_4, .slice (some ad567) l0_5.length c0_5] 46 (0, 0)) (by (with_reducible repeat (first | refine blk_drewN ?_ _ | refine blk_drew ?_ | refine blk_alloc ?_ _)); exact BK553.out) hb); have n2_ := Aside0.mk (blk_below (g := gb554) (o := .cells #[.int .i64 a2_0, .int .i64 a2_1] 52 (0, 0)) (by (with_reducible repeat (first | refine blk_drewN ?_ _ | refine blk_drew ?_ | refine blk_alloc ?_ _)); exact BK554.out) hb); have n3_ := Aside0.mk (blk_below (g := gb565) (o := .cells #[.string t557, .int .i64 t558, .int .i64 t559, .int .i64 t560, .string t561, .slice Ao51 t562.length co51] 36 (0, 0)) (by (with_reducible repeat (first | refine blk_drewN ?_ _ | refine blk_drew ?_ | refine blk_alloc ?_ _)); exact BK565.out) hb); have n4_ := Aside0.mk (below_step (by repeat (first | (with_reducible first | exact HB.out | apply below_alloc | apply pw_below_drewN | apply below_drew1 | refine below_set ?_ GE553.out | refine below_set ?_ GE554.out | refine below_set ?_ GE565.out) | exact HB.out)) hb); clear HO564; clear BK553; clear BK554; clear BK565; clear HB; have HO564 := n0_; have BK553 := n1_; have BK554 := n2_; have BK565 := n3_; have HB := n4_; clear n0_ n1_ n2_ n3_ n4_; (try clear hb); (try clear hb2); (try clear hk); (try clear hi)))
        go_ret
        exact ⟨by first | rfl | (simp [errW_none, errW_some] <;> rfl) | (simp [*, errW_none, errW_some] <;> rfl), by repeat (first | (with_reducible first | exact HB.out | apply below_alloc | apply pw_below_drewN | apply below_drew1 | refine below_set ?_ GE553.out | refine below_set ?_ GE554.out | refine below_set ?_ GE565.out) | exact HB.out)⟩
       ·rw [if_neg c42] at H
        have c42b0 : ((t566.size : Int) == (t569.size : Int)) = false := beq_eq_false_iff_ne.mpr c42
        have c42b1 : ((t566.size : Int) != (t569.size : Int)) = true := bne_iff_ne.mpr c42
        have c42b2 : (t566.size == t569.size) = false := by first | simpa using c42 | (simp at c42 ⊢; omega)
        obtain rfl := Option.some.inj H
        have hnb60 := NB553_554.out
        have hnc60 := NB554_553.out
        have hcz61_0 : wc.cell? ⟨gb553, 0, none⟩ = some (.string a0_0) := (blk_cell BK553.out 0).trans rfl
        have hcz61_1 : wc.cell? ⟨gb553, 1, none⟩ = some (.int .i64 a0_1) := (blk_cell BK553.out 1).trans rfl
        have hcz61_2 : wc.cell? ⟨gb553, 2, none⟩ = some (.int .i64 a0_2) := (blk_cell BK553.out 2).trans rfl
        have hcz61_3 : wc.cell? ⟨gb553, 3, none⟩ = some (.int .i64 a0_3) := (blk_cell BK553.out 3).trans rfl
        have hcz61_4 : wc.cell? ⟨gb553, 4, none⟩ = some (.string a0_4) := (blk_cell BK553.out 4).trans rfl
        have hcz61_5 : wc.cell? ⟨gb553, 5, none⟩ = some (.slice A0_5 l0_5.length c0_5) := (blk_cell BK553.out 5).trans rfl
        have hfz61_0 := blk_frozen BK553.out 0
        have hfz61_1 := blk_frozen BK553.out 1
        have hfz61_2 := blk_frozen BK553.out 2
        have hfz61_3 := blk_frozen BK553.out 3
        have hfz61_4 := blk_frozen BK553.out 4
        have hfz61_5 := blk_frozen BK553.out 5
        try go_wp2_with (first | ((with_reducible refine gate_callee (f := 17) rfl ?_); refine goesL_ (some 37) rfl rfl Try.func17 (by kernel_rfl) rfl #[.agg #[.string a0_0, .int .i64 a0_1, .int .i64 a0_2, .int .i64 a0_3, .string a0_4, .slice A0_5 l0_5.length c0_5]] rfl (by (try simp only [List.map_toArray, List.map_cons, List.map_nil]); first | done | rfl | (simp only [List.length_drop, List.length_take]; rfl)) ?_; (with_reducible refine (wellspringlaw18_Own.calls kj3 a0_0 a0_1 a0_2 a0_3 a0_4 _ _ l0_5 t557 t558 t559 t560 t561 t562 _ ?side1 ?side2 A35.out).mono ?_); (case side1 => repeat (first | exact (Kd.C_below HR0_5.out HB.out) | (with_reducible refine Kd.C_alloc ?_ _) | (with_reducible refine Kd.C_drewN ?_ _) | (with_reducible refine Kd.C_drew ?_))); (case side2 => exact HC0_5.out); rintro e w62 ⟨v563, rfl, ho0, hb⟩; refine ⟨_, rfl, ?_⟩; have n0_ := Aside0.mk (Kd.S_lower ho0 (below_size (by repeat (first | (with_reducible first | exact HB.out | apply below_alloc | apply pw_below_drewN | apply below_drew1 | refine below_set ?_ GE553.out | refine below_set ?_ GE554.out) | exact HB.out)))); have n1_ := Aside0.mk (blk_below (g := gb553) (o := .cells #[.string a0_0, .int .i64 a0_1, .int .i64 a0_2, .int .i64 a0_3, .string a0_4, .slice A0_5 l0_5.length c0_5] 46 (0, 0)) (by (with_reducible repeat (first | refine blk_drewN ?_ _ | refine blk_drew ?_ | refine blk_alloc ?_ _)); exact BK553.out) hb); have n2_ := Aside0.mk (blk_below (g := gb554) (o := .cells #[.int .i64 a2_0, .int .i64 a2_1] 52 (0, 0)) (by (with_reducible repeat (first | refine blk_drewN ?_ _ | refine blk_drew ?_ | refine blk_alloc ?_ _)); exact BK554.out) hb); have n3_ := Aside0.mk (below_step (by repeat (first | (with_reducible first | exact HB.out | apply below_alloc | apply pw_below_drewN | apply below_drew1 | refine below_set ?_ GE553.out | refine below_set ?_ GE554.out) | exact HB.out)) hb); clear BK553; clear BK554; clear HB; have HO564 := n0_; have BK553 := n1_; have BK554 := n2_; have HB := n3_; clear n0_ n1_ n2_ n3_; (try clear hb); (try clear hb2); (try clear hk); (try clear hi); (try clear ho0)) | ((with_reducible refine gate_dst (N := 7) rfl ?_); (try (refine gate_guard (by rfl) ?_; dsimp only)); refine box_event ?hg (N := 7) ?hd (cs := #[.string (⟨#[]⟩ : ByteArray), .int .i64 0, .int .i64 0, .int .i64 0, .string (⟨#[]⟩ : ByteArray), .slice none 0 0]) (t := 36) ?hr ?_; (case hd => rfl); (case hg => rfl); (case hr => first | (go_simp; done) | (go_simp; rfl)); intro gb565 hg w63 hbox hb; have n0_ := Aside0.mk (Kd.S_below (by (with_reducible repeat (first | apply Kd.S_alloc | apply Kd.S_drewN | apply Kd.S_drew)); exact HO564.out) hb); have n1_ := Aside0.mk (blk_below (g := gb553) (o := .cells #[.string a0_0, .int .i64 a0_1, .int .i64 a0_2, .int .i64 a0_3, .string a0_4, .slice A0_5 l0_5.length c0_5] 46 (0, 0)) (by (with_reducible repeat (first | refine blk_drewN ?_ _ | refine blk_drew ?_ | refine blk_alloc ?_ _)); exact BK553.out) hb); have n2_ := Aside0.mk (blk_below (g := gb554) (o := .cells #[.int .i64 a2_0, .int .i64 a2_1] 52 (0, 0)) (by (with_reducible repeat (first | refine blk_drewN ?_ _ | refine blk_drew ?_ | refine blk_alloc ?_ _)); exact BK554.out) hb); have n3_ := Aside0.mk (below_step (by repeat (first | (with_reducible first | exact HB.out | apply below_alloc | apply pw_below_drewN | apply below_drew1 | refine below_set ?_ GE553.out | refine below_set ?_ GE554.out) | exact HB.out)) hb); have n4_ := Aside0.mk (hbox); have n5_ := Aside0.mk ((by rw [hg]; exact (below_size (by repeat (first | (with_reducible first | exact HB.out | apply below_alloc | apply pw_below_drewN | apply below_drew1 | refine below_set ?_ GE553.out | refine below_set ?_ GE554.out) | exact HB.out))) : w.heap.size ≤ gb565)); have n6_ := Aside0.mk ((by rw [hg]; exact (below_size (by repeat (first | (with_reducible first | exact HB.out | apply below_alloc | apply pw_below_drewN | apply below_drew1 | refine below_set ?_ GE553.out | refine below_set ?_ GE554.out) | exact HB.out))) : w.heap.size ≤ gb565)); have n7_ := Aside0.mk ((by rw [hg]; exact Nat.ne_of_lt (blk_lt (g := gb553) (o := .cells #[.string a0_0, .int .i64 a0_1, .int .i64 a0_2, .int .i64 a0_3, .string a0_4, .slice A0_5 l0_5.length c0_5] 46 (0, 0)) (by (with_reducible repeat (first | refine blk_drewN ?_ _ | refine blk_drew ?_ | refine blk_alloc ?_ _)); exact BK553.out)) : gb553 ≠ gb565)); have n8_ := Aside0.mk ((by rw [hg]; exact Nat.ne_of_gt (blk_lt (g := gb553) (o := .cells #[.string a0_0, .int .i64 a0_1, .int .i64 a0_2, .int .i64 a0_3, .string a0_4, .slice A0_5 l0_5.length c0_5] 46 (0, 0)) (by (with_reducible repeat (first | refine blk_drewN ?_ _ | refine blk_drew ?_ | refine blk_alloc ?_ _)); exact BK553.out)) : gb565 ≠ gb553)); have n9_ := Aside0.mk ((by rw [hg]; exact Nat.ne_of_lt (blk_lt (g := gb554) (o := .cells #[.int .i64 a2_0, .int .i64 a2_1] 52 (0, 0)) (by (with_reducible repeat (first | refine blk_drewN ?_ _ | refine blk_drew ?_ | refine blk_alloc ?_ _)); exact BK554.out)) : gb554 ≠ gb565)); have n10_ := Aside0.mk ((by rw [hg]; exact Nat.ne_of_gt (blk_lt (g := gb554) (o := .cells #[.int .i64 a2_0, .int .i64 a2_1] 52 (0, 0)) (by (with_reducible repeat (first | refine blk_drewN ?_ _ | refine blk_drew ?_ | refine blk_alloc ?_ _)); exact BK554.out)) : gb565 ≠ gb554)); clear HO564; clear BK553; clear BK554; clear HB; have HO564 := n0_; have BK553 := n1_; have BK554 := n2_; have HB := n3_; have BK565 := n4_; have GW565 := n5_; have GE565 := n6_; have NB553_565 := n7_; have NB565_553 := n8_; have NB554_565 := n9_; have NB565_554 := n10_; clear n0_ n1_ n2_ n3_ n4_ n5_ n6_ n7_ n8_ n9_ n10_; clear hb hbox hg; have hnb64 := NB565_553.out; have hnc64 := NB553_565.out; have hnb65 := NB565_554.out; have hnc65 := NB554_565.out; have hcz66_0 : w63.cell? ⟨gb565, 0, none⟩ = some (.string (⟨#[]⟩ : ByteArray)) := (blk_cell BK565.out 0).trans rfl; have hcz66_1 : w63.cell? ⟨gb565, 1, none⟩ = some (.int .i64 0) := (blk_cell BK565.out 1).trans rfl; have hcz66_2 : w63.cell? ⟨gb565, 2, none⟩ = some (.int .i64 0) := (blk_cell BK565.out 2).trans rfl; have hcz66_3 : w63.cell? ⟨gb565, 3, none⟩ = some (.int .i64 0) := (blk_cell BK565.out 3).trans rfl; have hcz66_4 : w63.cell? ⟨gb565, 4, none⟩ = some (.string (⟨#[]⟩ : ByteArray)) := (blk_cell BK565.out 4).trans rfl; have hcz66_5 : w63.cell? ⟨gb565, 5, none⟩ = some (.slice none 0 0) := (blk_cell BK565.out 5).trans rfl; have hfz66_0 := blk_frozen BK565.out 0; have hfz66_1 := blk_frozen BK565.out 1; have hfz66_2 := blk_frozen BK565.out 2; have hfz66_3 := blk_frozen BK565.out 3; have hfz66_4 := blk_frozen BK565.out 4; have hfz66_5 := blk_frozen BK565.out 5; obtain ⟨Ao67, co67, eo67⟩ := Kd.S_slice HO564.out; subst eo67; have hcz68_0 : w63.cell? ⟨gb554, 0, none⟩ = some (.int .i64 a2_0) := (blk_cell BK554.out 0).trans rfl; have hcz68_1 : w63.cell? ⟨gb554, 1, none⟩ = some (.int .i64 a2_1) := (blk_cell BK554.out 1).trans rfl; have hfz68_0 := blk_frozen BK554.out 0; have hfz68_1 := blk_frozen BK554.out 1) | ((with_reducible refine gate_callee (f := 22) rfl ?_); refine goesL_ (some 44) rfl rfl Try.func22 (by kernel_rfl) rfl #[.agg #[.string t557, .int .i64 t558, .int .i64 t559, .int .i64 t560, .string t561, .slice Ao67 t562.length co67], .int .i64 a1, .int .i64 a2_0, .int .i64 a2_1] rfl (by (try simp only [List.map_toArray, List.map_cons, List.map_nil]); first | done | rfl | (simp only [List.length_drop, List.length_take]; rfl)) ?_; (with_reducible refine (tmpl_Template_Part.calls kj3 t557 t558 t559 t560 t561 _ _ t562 a1 a2_0 a2_1 t566 _ ?side1 ?side2 A36.out).mono ?_); (case side1 => refine (Kd.S_reads' (e := 69) (base := w.heap.size) (ok := fun k_ => True) (n := t562.length) (c := co67) ?_).2.2; exact (by (with_reducible repeat (first | apply Kd.S_alloc | apply Kd.S_drewN | apply Kd.S_drew)); exact (Kd.S_mono (Kd.S_far (p := ⟨gb565, 5, none⟩) (Kd.S_far (p := ⟨gb565, 4, none⟩) (Kd.S_far (p := ⟨gb565, 3, none⟩) (Kd.S_far (p := ⟨gb565, 2, none⟩) (Kd.S_far (p := ⟨gb565, 1, none⟩) (Kd.S_far (p := ⟨gb565, 0, none⟩) (Kd.S_types HO564.out BK565.out (by decide)) (fun _ hk => hk.2) (.string t557)) (fun _ hk => hk.2) (.int .i64 t558)) (fun _ hk => hk.2) (.int .i64 t559)) (fun _ hk => hk.2) (.int .i64 t560)) (fun _ hk => hk.2) (.string t561)) (fun _ hk => hk.2) (.slice Ao67 t562.length co67)) (fun _ h_ => h_.1)))); (case side2 => exact (Kd.S_reads' HO564.out).2.1); rintro e w69 ⟨rfl, hb⟩; refine ⟨_, rfl, ?_⟩; have n0_ := Aside0.mk (Kd.S_below (by (with_reducible repeat (first | apply Kd.S_alloc | apply Kd.S_drewN | apply Kd.S_drew)); exact (Kd.S_mono (Kd.S_far (p := ⟨gb565, 5, none⟩) (Kd.S_far (p := ⟨gb565, 4, none⟩) (Kd.S_far (p := ⟨gb565, 3, none⟩) (Kd.S_far (p := ⟨gb565, 2, none⟩) (Kd.S_far (p := ⟨gb565, 1, none⟩) (Kd.S_far (p := ⟨gb565, 0, none⟩) (Kd.S_types HO564.out BK565.out (by decide)) (fun _ hk => hk.2) (.string t557)) (fun _ hk => hk.2) (.int .i64 t558)) (fun _ hk => hk.2) (.int .i64 t559)) (fun _ hk => hk.2) (.int .i64 t560)) (fun _ hk => hk.2) (.string t561)) (fun _ hk => hk.2) (.slice Ao67 t562.length co67)) (fun _ h_ => h_.1))) hb); have n1_ := Aside0.mk (blk_below (g := gb553) (o := .cells #[.string a0_0, .int .i64 a0_1, .int .i64 a0_2, .int .i64 a0_3, .string a0_4, .slice A0_5 l0_5.length c0_5] 46 (0, 0)) (by (with_reducible repeat (first | refine blk_drewN ?_ _ | refine blk_drew ?_ | refine blk_alloc ?_ _)); refine blk_far ?_ NB553_565.out _; (with_reducible repeat (first | refine blk_drewN ?_ _ | refine blk_drew ?_ | refine blk_alloc ?_ _)); refine blk_far ?_ NB553_565.out _; (with_reducible repeat (first | refine blk_drewN ?_ _ | refine blk_drew ?_ | refine blk_alloc ?_ _)); refine blk_far ?_ NB553_565.out _; (with_reducible repeat (first | refine blk_drewN ?_ _ | refine blk_drew ?_ | refine blk_alloc ?_ _)); refine blk_far ?_ NB553_565.out _; (with_reducible repeat (first | refine blk_drewN ?_ _ | refine blk_drew ?_ | refine blk_alloc ?_ _)); refine blk_far ?_ NB553_565.out _; (with_reducible repeat (first | refine blk_drewN ?_ _ | refine blk_drew ?_ | refine blk_alloc ?_ _)); refine blk_far ?_ NB553_565.out _; (with_reducible repeat (first | refine blk_drewN ?_ _ | refine blk_drew ?_ | refine blk_alloc ?_ _)); exact BK553.out) hb); have n2_ := Aside0.mk (blk_below (g := gb554) (o := .cells #[.int .i64 a2_0, .int .i64 a2_1] 52 (0, 0)) (by (with_reducible repeat (first | refine blk_drewN ?_ _ | refine blk_drew ?_ | refine blk_alloc ?_ _)); refine blk_far ?_ NB554_565.out _; (with_reducible repeat (first | refine blk_drewN ?_ _ | refine blk_drew ?_ | refine blk_alloc ?_ _)); refine blk_far ?_ NB554_565.out _; (with_reducible repeat (first | refine blk_drewN ?_ _ | refine blk_drew ?_ | refine blk_alloc ?_ _)); refine blk_far ?_ NB554_565.out _; (with_reducible repeat (first | refine blk_drewN ?_ _ | refine blk_drew ?_ | refine blk_alloc ?_ _)); refine blk_far ?_ NB554_565.out _; (with_reducible repeat (first | refine blk_drewN ?_ _ | refine blk_drew ?_ | refine blk_alloc ?_ _)); refine blk_far ?_ NB554_565.out _; (with_reducible repeat (first | refine blk_drewN ?_ _ | refine blk_drew ?_ | refine blk_alloc ?_ _)); refine blk_far ?_ NB554_565.out _; (with_reducible repeat (first | refine blk_drewN ?_ _ | refine blk_drew ?_ | refine blk_alloc ?_ _)); exact BK554.out) hb); have n3_ := Aside0.mk (blk_below (g := gb565) (o := .cells #[.string t557, .int .i64 t558, .int .i64 t559, .int .i64 t560, .string t561, .slice Ao67 t562.length co67] 36 (0, 0)) (by (with_reducible repeat (first | refine blk_drewN ?_ _ | refine blk_drew ?_ | refine blk_alloc ?_ _)); refine blk_put (cs := #[.string t557, .int .i64 t558, .int .i64 t559, .int .i64 t560, .string t561, .slice none 0 0]) ?_ 5 _ rfl; (with_reducible repeat (first | refine blk_drewN ?_ _ | refine blk_drew ?_ | refine blk_alloc ?_ _)); refine blk_put (cs := #[.string t557, .int .i64 t558, .int .i64 t559, .int .i64 t560, .string (⟨#[]⟩ : ByteArray), .slice none 0 0]) ?_ 4 _ rfl; (with_reducible repeat (first | refine blk_drewN ?_ _ | refine blk_drew ?_ | refine blk_alloc ?_ _)); refine blk_put (cs := #[.string t557, .int .i64 t558, .int .i64 t559, .int .i64 0, .string (⟨#[]⟩ : ByteArray), .slice none 0 0]) ?_ 3 _ rfl; (with_reducible repeat (first | refine blk_drewN ?_ _ | refine blk_drew ?_ | refine blk_alloc ?_ _)); refine blk_put (cs := #[.string t557, .int .i64 t558, .int .i64 0, .int .i64 0, .string (⟨#[]⟩ : ByteArray), .slice none 0 0]) ?_ 2 _ rfl; (with_reducible repeat (first | refine blk_drewN ?_ _ | refine blk_drew ?_ | refine blk_alloc ?_ _)); refine blk_put (cs := #[.string t557, .int .i64 0, .int .i64 0, .int .i64 0, .string (⟨#[]⟩ : ByteArray), .slice none 0 0]) ?_ 1 _ rfl; (with_reducible repeat (first | refine blk_drewN ?_ _ | refine blk_drew ?_ | refine blk_alloc ?_ _)); refine blk_put (cs := #[.string (⟨#[]⟩ : ByteArray), .int .i64 0, .int .i64 0, .int .i64 0, .string (⟨#[]⟩ : ByteArray), .slice none 0 0]) ?_ 0 _ rfl; (with_reducible repeat (first | refine blk_drewN ?_ _ | refine blk_drew ?_ | refine blk_alloc ?_ _)); exact BK565.out) hb); have n4_ := Aside0.mk (below_step (by repeat (first | (with_reducible first | exact HB.out | apply below_alloc | apply pw_below_drewN | apply below_drew1 | refine below_set ?_ GE553.out | refine below_set ?_ GE554.out | refine below_set ?_ GE565.out) | exact HB.out)) hb); clear HO564; clear BK553; clear BK554; clear BK565; clear HB; have HO564 := n0_; have BK553 := n1_; have BK554 := n2_; have BK565 := n3_; have HB := n4_; clear n0_ n1_ n2_ n3_ n4_; (try clear hb); (try clear hb2); (try clear hk); (try clear hi)))
        have n0_ := Aside0.mk (Kd.S_drew HO564.out)
        have n1_ := Aside0.mk (blk_drew BK553.out)
        have n2_ := Aside0.mk (blk_drew BK554.out)
        have n3_ := Aside0.mk (blk_drew BK565.out)
        have n4_ := Aside0.mk (below_drew1 HB.out)
        clear HO564
        clear BK553
        clear BK554
        clear BK565
        clear HB
        have HO564 := n0_
        have BK553 := n1_
        have BK554 := n2_
        have BK565 := n3_
        have HB := n4_
        clear n0_ n1_ n2_ n3_ n4_
        have p567 : 0 ≤ (a1 : Int) := of_decide_eq_true (by first | (with_reducible assumption) | assumption)
        have q567 : a1 < (l0_5.length : Int) := of_decide_eq_true (by first | (with_reducible assumption) | assumption)
        obtain ⟨ad567, A567_0, c567_0, e567, hx567_0, hx567_1, hx567_2, hl567_0, hi567_0⟩ := at_T74 HR0_5.out a1 p567 q567
        have hw567_2 := hx567_2
        have hw567_1 := hx567_1
        have hw567_0 := hx567_0
        cases e567
        replace hx567_0 := (HB.out.cell (World.block_lt_of_cell? w _ hx567_0)).trans hx567_0
        replace hx567_1 := (HB.out.cell (World.block_lt_of_cell? w _ hx567_1)).trans hx567_1
        replace hx567_2 := (HB.out.cell (World.block_lt_of_cell? w _ hx567_2)).trans hx567_2
        have HR567_0 := Aside0.mk hi567_0
        have HC567_0 := Aside0.mk hl567_0
        clear hi567_0 hl567_0
        replace p567 := eq_true p567
        replace q567 := eq_true q567
        refine start_ (n := 16) (S := fun w' => w'.cell? ⟨gb565, 0, none⟩ = some (.string t557) ∧ w'.cell? ⟨gb565, 1, none⟩ = some (.int .i64 t558) ∧ w'.cell? ⟨gb565, 2, none⟩ = some (.int .i64 t559) ∧ w'.cell? ⟨gb565, 3, none⟩ = some (.int .i64 t560) ∧ w'.cell? ⟨gb565, 4, none⟩ = some (.string t561) ∧ w'.cell? ⟨gb565, 5, none⟩ = some (.slice Ao67 t562.length co67) ∧ w'.cell? ⟨gb554, 0, none⟩ = some (.int .i64 a2_0) ∧ w'.cell? ⟨gb554, 1, none⟩ = some (.int .i64 a2_1) ∧ w'.cell? ⟨gb553, 0, none⟩ = some (.string a0_0) ∧ w'.cell? ⟨gb553, 1, none⟩ = some (.int .i64 a0_1) ∧ w'.cell? ⟨gb553, 2, none⟩ = some (.int .i64 a0_2) ∧ w'.cell? ⟨gb553, 3, none⟩ = some (.int .i64 a0_3) ∧ w'.cell? ⟨gb553, 4, none⟩ = some (.string a0_4) ∧ w'.cell? ⟨gb553, 5, none⟩ = some (.slice (some ad567) l0_5.length c0_5) ∧ w'.cell? (ad567.add ((a1).toNat * 3)) = some (.slice A567_0 ((rd_T74 l0_5 a1).f0).length c567_0) ∧ w'.cell? ⟨(ad567.add ((a1).toNat * 3)).block, (ad567.add ((a1).toNat * 3)).off + 1, none⟩ = some (.int .i64 ((rd_T74 l0_5 a1).f1)) ∧ w'.cell? ⟨(ad567.add ((a1).toNat * 3)).block, (ad567.add ((a1).toNat * 3)).off + 2, none⟩ = some (.bool ((rd_T74 l0_5 a1).f2))) (ds := []) #[false, false, false, false, false, false, false, false, false, false, false, false, false, false, false, false] (by kernel_rfl) rfl rfl ⟨(blk_cell BK565.out 0).trans rfl, (blk_cell BK565.out 1).trans rfl, (blk_cell BK565.out 2).trans rfl, (blk_cell BK565.out 3).trans rfl, (blk_cell BK565.out 4).trans rfl, (blk_cell BK565.out 5).trans rfl, (blk_cell BK554.out 0).trans rfl, (blk_cell BK554.out 1).trans rfl, (blk_cell BK553.out 0).trans rfl, (blk_cell BK553.out 1).trans rfl, (blk_cell BK553.out 2).trans rfl, (blk_cell BK553.out 3).trans rfl, (blk_cell BK553.out 4).trans rfl, (blk_cell BK553.out 5).trans rfl, ((HB.out.cell (World.block_lt_of_cell? w _ hw567_0)).trans hw567_0), ((HB.out.cell (World.block_lt_of_cell? w _ hw567_1)).trans hw567_1), ((HB.out.cell (World.block_lt_of_cell? w _ hw567_2)).trans hw567_2)⟩ (fun hHeld => ?_); refine with_tabW wellspringlaw18_TmplTurned.tab5 wellspringlaw18_TmplTurned.bits5 (fun HT_ HW_ => ?_)
        generalize w69.drew = w70 at HO564 BK553 BK554 BK565 HB HR567_0 hx567_0 hx567_1 hx567_2 hHeld ⊢
        refine pure_ (i := 1) (N := some 46) (v := ?_) (a' := ?_) #[false, true, false, false, false, false, false, false, false, false, false, false, false, false, false, false] rfl rfl (any_of HT_.out (by kernel_rfl)) (fun _ _ _ h => h) (Or.inl ⟨by rfl, ?_⟩) ?_ ?_
        rotate_left
        ·intro w'
         go_simp
         with_reducible rfl
        rotate_left
        ·simp only [Act.put, List.setIfInBounds_toArray, List.set_cons_zero, List.set_cons_succ, i64_w, i32_w]
         rfl
        refine pure_ (i := 2) (N := some 47) (v := ?_) (a' := ?_) #[false, true, true, false, false, false, false, false, false, false, false, false, false, false, false, false] rfl rfl (any_of HT_.out (by kernel_rfl)) (fun _ _ _ h => h) (Or.inl ⟨by rfl, ?_⟩) ?_ ?_
        rotate_left
        ·intro w'
         go_simp
         with_reducible rfl
        rotate_left
        ·simp only [Act.put, List.setIfInBounds_toArray, List.set_cons_zero, List.set_cons_succ, i64_w, i32_w]
         rfl
        refine pure_ (i := 4) (N := some 49) (v := ?_) (a' := ?_) #[false, true, true, false, true, false, false, false, false, false, false, false, false, false, false, false] rfl rfl (any_of HT_.out (by kernel_rfl)) (fun _ _ _ h => h) (Or.inl ⟨by rfl, ?_⟩) ?_ ?_
        rotate_left
        ·intro w'
         go_simp
         with_reducible rfl
        rotate_left
        ·simp only [Act.put, List.setIfInBounds_toArray, List.set_cons_zero, List.set_cons_succ, i64_w, i32_w]
         rfl
        refine pure_ (i := 6) (N := some 51) (v := ?_) (a' := ?_) #[false, true, true, false, true, false, true, false, false, false, false, false, false, false, false, false] rfl rfl (any_of HT_.out (by kernel_rfl)) (fun _ _ _ h => h) (Or.inl ⟨by rfl, ?_⟩) ?_ ?_
        rotate_left
        ·intro w'
         go_simp
         with_reducible rfl
        rotate_left
        ·simp only [Act.put, List.setIfInBounds_toArray, List.set_cons_zero, List.set_cons_succ, i64_w, i32_w]
         rfl
        refine pure_ (i := 8) (N := some 53) (v := ?_) (a' := ?_) #[false, true, true, false, true, false, true, false, true, false, false, false, false, false, false, false] rfl rfl (any_of HT_.out (by kernel_rfl)) (fun _ _ _ h => h) (Or.inl ⟨by rfl, ?_⟩) ?_ ?_
        rotate_left
        ·intro w'
         go_simp
         with_reducible rfl
        rotate_left
        ·simp only [Act.put, List.setIfInBounds_toArray, List.set_cons_zero, List.set_cons_succ, i64_w, i32_w]
         rfl
        refine take_ (i := 0) (N := some 45) (v := ?_) (a' := ?_) #[true, true, true, false, true, false, true, false, true, false, false, false, false, false, false, false] rfl rfl (take_ofW HT_.out HW_.out (by kernel_rfl)) (fun _ _ _ h => h) (Or.inl ⟨by rfl, ?_⟩) hHeld ?_ ?_
        rotate_left
        ·rintro w' ⟨s0, s1, s2, s3, s4, s5, s6, s7, s8, s9, s10, s11, s12, s13, s14, s15, s16⟩
         go_simp
         with_reducible rfl
        rotate_left
        ·simp only [Act.put, List.setIfInBounds_toArray, List.set_cons_zero, List.set_cons_succ, i64_w, i32_w]
         rfl
        refine take_ (i := 3) (N := some 48) (v := ?_) (a' := ?_) #[true, true, true, true, true, false, true, false, true, false, false, false, false, false, false, false] rfl rfl (take_ofW HT_.out HW_.out (by kernel_rfl)) (fun _ _ _ h => h) (Or.inl ⟨by rfl, ?_⟩) hHeld ?_ ?_
        rotate_left
        ·rintro w' ⟨s0, s1, s2, s3, s4, s5, s6, s7, s8, s9, s10, s11, s12, s13, s14, s15, s16⟩
         go_simp
         with_reducible rfl
        rotate_left
        ·simp only [Act.put, List.setIfInBounds_toArray, List.set_cons_zero, List.set_cons_succ, i64_w, i32_w]
         rfl
        refine take_ (i := 5) (N := some 50) (v := ?_) (a' := ?_) #[true, true, true, true, true, true, true, false, true, false, false, false, false, false, false, false] rfl rfl (take_ofW HT_.out HW_.out (by kernel_rfl)) (fun _ _ _ h => h) (Or.inl ⟨by rfl, ?_⟩) hHeld ?_ ?_
        rotate_left
        ·rintro w' ⟨s0, s1, s2, s3, s4, s5, s6, s7, s8, s9, s10, s11, s12, s13, s14, s15, s16⟩
         go_simp
         with_reducible rfl
        rotate_left
        ·simp only [Act.put, List.setIfInBounds_toArray, List.set_cons_zero, List.set_cons_succ, i64_w, i32_w]
         rfl
        refine take_ (i := 7) (N := some 52) (v := ?_) (a' := ?_) #[true, true, true, true, true, true, true, true, true, false, false, false, false, false, false, false] rfl rfl (take_ofW HT_.out HW_.out (by kernel_rfl)) (fun _ _ _ h => h) (Or.inl ⟨by rfl, ?_⟩) hHeld ?_ ?_
        rotate_left
        ·rintro w' ⟨s0, s1, s2, s3, s4, s5, s6, s7, s8, s9, s10, s11, s12, s13, s14, s15, s16⟩
         go_simp
         with_reducible rfl
        rotate_left
        ·simp only [Act.put, List.setIfInBounds_toArray, List.set_cons_zero, List.set_cons_succ, i64_w, i32_w]
         rfl
        refine pure_ (i := 9) (N := some 54) (v := ?_) (a' := ?_) #[true, true, true, true, true, true, true, true, true, true, false, false, false, false, false, false] rfl rfl (any_of HT_.out (by kernel_rfl)) (fun _ _ _ h => h) (Or.inl ⟨by rfl, ?_⟩) ?_ ?_
        rotate_left
        ·intro w'
         go_simp
         with_reducible rfl
        rotate_left
        ·simp only [Act.put, List.setIfInBounds_toArray, List.set_cons_zero, List.set_cons_succ, i64_w, i32_w]
         rfl
        refine pure_ (i := 10) (N := some 55) (v := ?_) (a' := ?_) #[true, true, true, true, true, true, true, true, true, true, true, false, false, false, false, false] rfl rfl (any_of HT_.out (by kernel_rfl)) (fun _ _ _ h => h) (Or.inl ⟨by rfl, ?_⟩) ?_ ?_
        rotate_left
        ·intro w'
         go_simp
         with_reducible rfl
        rotate_left
        ·simp only [Act.put, List.setIfInBounds_toArray, List.set_cons_zero, List.set_cons_succ, i64_w, i32_w]
         rfl
        refine take_ (i := 11) (N := some 56) (v := ?_) (a' := ?_) #[true, true, true, true, true, true, true, true, true, true, true, true, false, false, false, false] rfl rfl (take_ofW HT_.out HW_.out (by kernel_rfl)) (fun _ _ _ h => h) (Or.inl ⟨by rfl, ?_⟩) hHeld ?_ ?_
        rotate_left
        ·rintro w' ⟨s0, s1, s2, s3, s4, s5, s6, s7, s8, s9, s10, s11, s12, s13, s14, s15, s16⟩
         go_simp
         with_reducible rfl
        rotate_left
        ·simp only [Act.put, List.setIfInBounds_toArray, List.set_cons_zero, List.set_cons_succ, i64_w, i32_w]
         rfl
        refine pure_ (i := 12) (N := some 57) (v := ?_) (a' := ?_) #[true, true, true, true, true, true, true, true, true, true, true, true, true, false, false, false] rfl rfl (any_of HT_.out (by kernel_rfl)) (fun _ _ _ h => h) (Or.inl ⟨by rfl, ?_⟩) ?_ ?_
        rotate_left
        ·intro w'
         go_simp
         with_reducible rfl
        rotate_left
        ·simp only [Act.put, List.setIfInBounds_toArray, List.set_cons_zero, List.set_cons_succ, i64_w, i32_w]
         rfl
        refine pure_ (i := 13) (N := some 58) (v := ?_) (a' := ?_) #[true, true, true, true, true, true, true, true, true, true, true, true, true, true, false, false] rfl rfl (any_of HT_.out (by kernel_rfl)) (fun _ _ _ h => h) (Or.inl ⟨by rfl, ?_⟩) ?_ ?_
        rotate_left
        ·intro w'
         go_simp
         with_reducible rfl
        rotate_left
        ·simp only [Act.put, List.setIfInBounds_toArray, List.set_cons_zero, List.set_cons_succ, i64_w, i32_w]
         rfl
        refine one_ (i := 14) (N := some 59) #[true, true, true, true, true, true, true, true, true, true, true, true, true, true, true, false] rfl rfl (one_of HT_.out (by kernel_rfl)) (by decide) (fun K hK => ?_)
        refine goes_ Try.func22 (by kernel_rfl) rfl #[.agg #[.string t557, .int .i64 t558, .int .i64 t559, .int .i64 t560, .string t561, .slice Ao67 t562.length co67], .int .i64 a1, .int .i64 a2_0, .int .i64 (wrap64 (a2_1 + (((rd_T74 l0_5 a1).f0).length : Int)))] (by rfl) rfl rfl (by (try simp only [List.map_toArray, List.map_cons, List.map_nil]); first | done | rfl | (simp only [List.length_drop, List.length_take]; rfl)) ?_
        with_reducible refine (tmpl_Template_Part.calls kj3 t557 t558 t559 t560 t561 _ _ t562 a1 a2_0 (wrap64 (a2_1 + (((rd_T74 l0_5 a1).f0).length : Int))) t568 _ ?side1 ?side2 A39.out).mono ?_
        (case side1 => repeat (first | exact (Kd.S_reads' HO564.out).2.2 | (with_reducible refine Kd.C_alloc ?_ _) | (with_reducible refine Kd.C_drewN ?_ _) | (with_reducible refine Kd.C_drew ?_)))
        (case side2 => exact (Kd.S_reads' HO564.out).2.1)
        rintro e w71 ⟨rfl, hb⟩
        refine ⟨_, rfl, ?_⟩
        have n0_ := Aside0.mk (Kd.S_below (by (with_reducible repeat (first | apply Kd.S_alloc | apply Kd.S_drewN | apply Kd.S_drew)); exact HO564.out) hb)
        have n1_ := Aside0.mk (blk_below (g := gb553) (o := .cells #[.string a0_0, .int .i64 a0_1, .int .i64 a0_2, .int .i64 a0_3, .string a0_4, .slice (some ad567) l0_5.length c0_5] 46 (0, 0)) (by (with_reducible repeat (first | refine blk_drewN ?_ _ | refine blk_drew ?_ | refine blk_alloc ?_ _)); exact BK553.out) hb)
        have n2_ := Aside0.mk (blk_below (g := gb554) (o := .cells #[.int .i64 a2_0, .int .i64 a2_1] 52 (0, 0)) (by (with_reducible repeat (first | refine blk_drewN ?_ _ | refine blk_drew ?_ | refine blk_alloc ?_ _)); exact BK554.out) hb)
        have n3_ := Aside0.mk (blk_below (g := gb565) (o := .cells #[.string t557, .int .i64 t558, .int .i64 t559, .int .i64 t560, .string t561, .slice Ao67 t562.length co67] 36 (0, 0)) (by (with_reducible repeat (first | refine blk_drewN ?_ _ | refine blk_drew ?_ | refine blk_alloc ?_ _)); exact BK565.out) hb)
        have n4_ := Aside0.mk (below_step (by repeat (first | (with_reducible first | exact HB.out | apply below_alloc | apply pw_below_drewN | apply below_drew1 | refine below_set ?_ GE553.out | refine below_set ?_ GE554.out | refine below_set ?_ GE565.out) | exact HB.out)) hb)
        clear HO564
        clear BK553
        clear BK554
        clear BK565
        clear HB
        have HO564 := n0_
        have BK553 := n1_
        have BK554 := n2_
        have BK565 := n3_
        have HB := n4_
        clear n0_ n1_ n2_ n3_ n4_
        (try clear hb)
        (try clear hb2)
        (try clear hk)
        (try clear hi)
        refine hK.out _ _ ⟨(blk_cell BK565.out 0).trans rfl, (blk_cell BK565.out 1).trans rfl, (blk_cell BK565.out 2).trans rfl, (blk_cell BK565.out 3).trans rfl, (blk_cell BK565.out 4).trans rfl, (blk_cell BK565.out 5).trans rfl, (blk_cell BK554.out 0).trans rfl, (blk_cell BK554.out 1).trans rfl, (blk_cell BK553.out 0).trans rfl, (blk_cell BK553.out 1).trans rfl, (blk_cell BK553.out 2).trans rfl, (blk_cell BK553.out 3).trans rfl, (blk_cell BK553.out 4).trans rfl, (blk_cell BK553.out 5).trans rfl, ((HB.out.cell (World.block_lt_of_cell? w _ hw567_0)).trans hw567_0), ((HB.out.cell (World.block_lt_of_cell? w _ hw567_1)).trans hw567_1), ((HB.out.cell (World.block_lt_of_cell? w _ hw567_2)).trans hw567_2)⟩ (fun hHeld => ?_)
        clear hK K
        refine norm_ (a' := ?_) ?_ ?_
        rotate_left
        ·show Act.put _ (some 59) _ = _
         simp only [Act.put, List.setIfInBounds_toArray, List.set_cons_zero, List.set_cons_succ, i64_w, i32_w]
         rfl
        refine pure_ (i := 15) (N := some 9) (v := ?_) (a' := ?_) #[true, true, true, true, true, true, true, true, true, true, true, true, true, true, true, true] rfl rfl (any_of HT_.out (by kernel_rfl)) (fun _ _ _ h => h) (Or.inl ⟨by rfl, ?_⟩) ?_ ?_
        rotate_left
        ·intro w'
         go_simp
         with_reducible rfl
        rotate_left
        ·simp only [Act.put, List.setIfInBounds_toArray, List.set_cons_zero, List.set_cons_succ, i64_w, i32_w]
         rfl
        refine done_ (done_of HT_.out (by kernel_rfl)) ?_
        have hcz72_0 : w71.cell? ⟨gb565, 0, none⟩ = some (.string t557) := (blk_cell BK565.out 0).trans rfl
        have hcz72_1 : w71.cell? ⟨gb565, 1, none⟩ = some (.int .i64 t558) := (blk_cell BK565.out 1).trans rfl
        have hcz72_2 : w71.cell? ⟨gb565, 2, none⟩ = some (.int .i64 t559) := (blk_cell BK565.out 2).trans rfl
        have hcz72_3 : w71.cell? ⟨gb565, 3, none⟩ = some (.int .i64 t560) := (blk_cell BK565.out 3).trans rfl
        have hcz72_4 : w71.cell? ⟨gb565, 4, none⟩ = some (.string t561) := (blk_cell BK565.out 4).trans rfl
        have hcz72_5 : w71.cell? ⟨gb565, 5, none⟩ = some (.slice Ao67 t562.length co67) := (blk_cell BK565.out 5).trans rfl
        have hfz72_0 := blk_frozen BK565.out 0
        have hfz72_1 := blk_frozen BK565.out 1
        have hfz72_2 := blk_frozen BK565.out 2
        have hfz72_3 := blk_frozen BK565.out 3
        have hfz72_4 := blk_frozen BK565.out 4
        have hfz72_5 := blk_frozen BK565.out 5
        have hcz73_0 : w71.cell? ⟨gb554, 0, none⟩ = some (.int .i64 a2_0) := (blk_cell BK554.out 0).trans rfl
        have hcz73_1 : w71.cell? ⟨gb554, 1, none⟩ = some (.int .i64 a2_1) := (blk_cell BK554.out 1).trans rfl
        have hfz73_0 := blk_frozen BK554.out 0
        have hfz73_1 := blk_frozen BK554.out 1
        try go_wp2_with (first | ((with_reducible refine gate_callee (f := 22) rfl ?_); refine goesL_ (some 64) rfl rfl Try.func22 (by kernel_rfl) rfl #[.agg #[.string t557, .int .i64 t558, .int .i64 t559, .int .i64 t560, .string t561, .slice Ao67 t562.length co67], .int .i64 a1, .int .i64 a2_0, .int .i64 0] rfl (by (try simp only [List.map_toArray, List.map_cons, List.map_nil]); first | done | rfl | (simp only [List.length_drop, List.length_take]; rfl)) ?_; (with_reducible refine (tmpl_Template_Part.calls kj3 t557 t558 t559 t560 t561 _ _ t562 a1 a2_0 0 t569 _ ?side1 ?side2 A40.out).mono ?_); (case side1 => repeat (first | exact (Kd.S_reads' HO564.out).2.2 | (with_reducible refine Kd.C_alloc ?_ _) | (with_reducible refine Kd.C_drewN ?_ _) | (with_reducible refine Kd.C_drew ?_))); (case side2 => exact (Kd.S_reads' HO564.out).2.1); rintro e w74 ⟨rfl, hb⟩; refine ⟨_, rfl, ?_⟩; have n0_ := Aside0.mk (Kd.S_below (by (with_reducible repeat (first | apply Kd.S_alloc | apply Kd.S_drewN | apply Kd.S_drew)); exact HO564.out) hb); have n1_ := Aside0.mk (blk_below (g := gb553) (o := .cells #[.string a0_0, .int .i64 a0_1, .int .i64 a0_2, .int .i64 a0_3, .string a0_4, .slice (some ad567) l0_5.length c0_5] 46 (0, 0)) (by (with_reducible repeat (first | refine blk_drewN ?_ _ | refine blk_drew ?_ | refine blk_alloc ?_ _)); exact BK553.out) hb); have n2_ := Aside0.mk (blk_below (g := gb554) (o := .cells #[.int .i64 a2_0, .int .i64 a2_1] 52 (0, 0)) (by (with_reducible repeat (first | refine blk_drewN ?_ _ | refine blk_drew ?_ | refine blk_alloc ?_ _)); exact BK554.out) hb); have n3_ := Aside0.mk (blk_below (g := gb565) (o := .cells #[.string t557, .int .i64 t558, .int .i64 t559, .int .i64 t560, .string t561, .slice Ao67 t562.length co67] 36 (0, 0)) (by (with_reducible repeat (first | refine blk_drewN ?_ _ | refine blk_drew ?_ | refine blk_alloc ?_ _)); exact BK565.out) hb); have n4_ := Aside0.mk (below_step (by repeat (first | (with_reducible first | exact HB.out | apply below_alloc | apply pw_below_drewN | apply below_drew1 | refine below_set ?_ GE553.out | refine below_set ?_ GE554.out | refine below_set ?_ GE565.out) | exact HB.out)) hb); clear HO564; clear BK553; clear BK554; clear BK565; clear HB; have HO564 := n0_; have BK553 := n1_; have BK554 := n2_; have BK565 := n3_; have HB := n4_; clear n0_ n1_ n2_ n3_ n4_; (try clear hb); (try clear hb2); (try clear hk); (try clear hi)))
        go_ret
        exact ⟨by first | rfl | (simp [errW_none, errW_some] <;> rfl) | (simp [*, errW_none, errW_some] <;> rfl), by repeat (first | (with_reducible first | exact HB.out | apply below_alloc | apply pw_below_drewN | apply below_drew1 | refine below_set ?_ GE553.out | refine below_set ?_ GE554.out | refine below_set ?_ GE565.out) | exact HB.out)⟩
      ·rw [if_neg c41] at H
       have c41b0 : (t566.toList == t568.toList) = false := beq_eq_false_iff_ne.mpr c41
       have c41b1 : (t566.toList != t568.toList) = true := bne_iff_ne.mpr c41
       obtain rfl := Option.some.inj H
       have hnb75 := NB553_554.out
       have hnc75 := NB554_553.out
       have hcz76_0 : wc.cell? ⟨gb553, 0, none⟩ = some (.string a0_0) := (blk_cell BK553.out 0).trans rfl
       have hcz76_1 : wc.cell? ⟨gb553, 1, none⟩ = some (.int .i64 a0_1) := (blk_cell BK553.out 1).trans rfl
       have hcz76_2 : wc.cell? ⟨gb553, 2, none⟩ = some (.int .i64 a0_2) := (blk_cell BK553.out 2).trans rfl
       have hcz76_3 : wc.cell? ⟨gb553, 3, none⟩ = some (.int .i64 a0_3) := (blk_cell BK553.out 3).trans rfl
       have hcz76_4 : wc.cell? ⟨gb553, 4, none⟩ = some (.string a0_4) := (blk_cell BK553.out 4).trans rfl
       have hcz76_5 : wc.cell? ⟨gb553, 5, none⟩ = some (.slice A0_5 l0_5.length c0_5) := (blk_cell BK553.out 5).trans rfl
       have hfz76_0 := blk_frozen BK553.out 0
       have hfz76_1 := blk_frozen BK553.out 1
       have hfz76_2 := blk_frozen BK553.out 2
       have hfz76_3 := blk_frozen BK553.out 3
       have hfz76_4 := blk_frozen BK553.out 4
       have hfz76_5 := blk_frozen BK553.out 5
       try go_wp2_with (first | ((with_reducible refine gate_callee (f := 17) rfl ?_); refine goesL_ (some 37) rfl rfl Try.func17 (by kernel_rfl) rfl #[.agg #[.string a0_0, .int .i64 a0_1, .int .i64 a0_2, .int .i64 a0_3, .string a0_4, .slice A0_5 l0_5.length c0_5]] rfl (by (try simp only [List.map_toArray, List.map_cons, List.map_nil]); first | done | rfl | (simp only [List.length_drop, List.length_take]; rfl)) ?_; (with_reducible refine (wellspringlaw18_Own.calls kj3 a0_0 a0_1 a0_2 a0_3 a0_4 _ _ l0_5 t557 t558 t559 t560 t561 t562 _ ?side1 ?side2 A35.out).mono ?_); (case side1 => repeat (first | exact (Kd.C_below HR0_5.out HB.out) | (with_reducible refine Kd.C_alloc ?_ _) | (with_reducible refine Kd.C_drewN ?_ _) | (with_reducible refine Kd.C_drew ?_))); (case side2 => exact HC0_5.out); rintro e w77 ⟨v563, rfl, ho0, hb⟩; refine ⟨_, rfl, ?_⟩; have n0_ := Aside0.mk (Kd.S_lower ho0 (below_size (by repeat (first | (with_reducible first | exact HB.out | apply below_alloc | apply pw_below_drewN | apply below_drew1 | refine below_set ?_ GE553.out | refine below_set ?_ GE554.out) | exact HB.out)))); have n1_ := Aside0.mk (blk_below (g := gb553) (o := .cells #[.string a0_0, .int .i64 a0_1, .int .i64 a0_2, .int .i64 a0_3, .string a0_4, .slice A0_5 l0_5.length c0_5] 46 (0, 0)) (by (with_reducible repeat (first | refine blk_drewN ?_ _ | refine blk_drew ?_ | refine blk_alloc ?_ _)); exact BK553.out) hb); have n2_ := Aside0.mk (blk_below (g := gb554) (o := .cells #[.int .i64 a2_0, .int .i64 a2_1] 52 (0, 0)) (by (with_reducible repeat (first | refine blk_drewN ?_ _ | refine blk_drew ?_ | refine blk_alloc ?_ _)); exact BK554.out) hb); have n3_ := Aside0.mk (below_step (by repeat (first | (with_reducible first | exact HB.out | apply below_alloc | apply pw_below_drewN | apply below_drew1 | refine below_set ?_ GE553.out | refine below_set ?_ GE554.out) | exact HB.out)) hb); clear BK553; clear BK554; clear HB; have HO564 := n0_; have BK553 := n1_; have BK554 := n2_; have HB := n3_; clear n0_ n1_ n2_ n3_; (try clear hb); (try clear hb2); (try clear hk); (try clear hi); (try clear ho0)) | ((with_reducible refine gate_dst (N := 7) rfl ?_); (try (refine gate_guard (by rfl) ?_; dsimp only)); refine box_event ?hg (N := 7) ?hd (cs := #[.string (⟨#[]⟩ : ByteArray), .int .i64 0, .int .i64 0, .int .i64 0, .string (⟨#[]⟩ : ByteArray), .slice none 0 0]) (t := 36) ?hr ?_; (case hd => rfl); (case hg => rfl); (case hr => first | (go_simp; done) | (go_simp; rfl)); intro gb565 hg w78 hbox hb; have n0_ := Aside0.mk (Kd.S_below (by (with_reducible repeat (first | apply Kd.S_alloc | apply Kd.S_drewN | apply Kd.S_drew)); exact HO564.out) hb); have n1_ := Aside0.mk (blk_below (g := gb553) (o := .cells #[.string a0_0, .int .i64 a0_1, .int .i64 a0_2, .int .i64 a0_3, .string a0_4, .slice A0_5 l0_5.length c0_5] 46 (0, 0)) (by (with_reducible repeat (first | refine blk_drewN ?_ _ | refine blk_drew ?_ | refine blk_alloc ?_ _)); exact BK553.out) hb); have n2_ := Aside0.mk (blk_below (g := gb554) (o := .cells #[.int .i64 a2_0, .int .i64 a2_1] 52 (0, 0)) (by (with_reducible repeat (first | refine blk_drewN ?_ _ | refine blk_drew ?_ | refine blk_alloc ?_ _)); exact BK554.out) hb); have n3_ := Aside0.mk (below_step (by repeat (first | (with_reducible first | exact HB.out | apply below_alloc | apply pw_below_drewN | apply below_drew1 | refine below_set ?_ GE553.out | refine below_set ?_ GE554.out) | exact HB.out)) hb); have n4_ := Aside0.mk (hbox); have n5_ := Aside0.mk ((by rw [hg]; exact (below_size (by repeat (first | (with_reducible first | exact HB.out | apply below_alloc | apply pw_below_drewN | apply below_drew1 | refine below_set ?_ GE553.out | refine below_set ?_ GE554.out) | exact HB.out))) : w.heap.size ≤ gb565)); have n6_ := Aside0.mk ((by rw [hg]; exact (below_size (by repeat (first | (with_reducible first | exact HB.out | apply below_alloc | apply pw_below_drewN | apply below_drew1 | refine below_set ?_ GE553.out | refine below_set ?_ GE554.out) | exact HB.out))) : w.heap.size ≤ gb565)); have n7_ := Aside0.mk ((by rw [hg]; exact Nat.ne_of_lt (blk_lt (g := gb553) (o := .cells #[.string a0_0, .int .i64 a0_1, .int .i64 a0_2, .int .i64 a0_3, .string a0_4, .slice A0_5 l0_5.length c0_5] 46 (0, 0)) (by (with_reducible repeat (first | refine blk_drewN ?_ _ | refine blk_drew ?_ | refine blk_alloc ?_ _)); exact BK553.out)) : gb553 ≠ gb565)); have n8_ := Aside0.mk ((by rw [hg]; exact Nat.ne_of_gt (blk_lt (g := gb553) (o := .cells #[.string a0_0, .int .i64 a0_1, .int .i64 a0_2, .int .i64 a0_3, .string a0_4, .slice A0_5 l0_5.length c0_5] 46 (0, 0)) (by (with_reducible repeat (first | refine blk_drewN ?_ _ | refine blk_drew ?_ | refine blk_alloc ?_ _)); exact BK553.out)) : gb565 ≠ gb553)); have n9_ := Aside0.mk ((by rw [hg]; exact Nat.ne_of_lt (blk_lt (g := gb554) (o := .cells #[.int .i64 a2_0, .int .i64 a2_1] 52 (0, 0)) (by (with_reducible repeat (first | refine blk_drewN ?_ _ | refine blk_drew ?_ | refine blk_alloc ?_ _)); exact BK554.out)) : gb554 ≠ gb565)); have n10_ := Aside0.mk ((by rw [hg]; exact Nat.ne_of_gt (blk_lt (g := gb554) (o := .cells #[.int .i64 a2_0, .int .i64 a2_1] 52 (0, 0)) (by (with_reducible repeat (first | refine blk_drewN ?_ _ | refine blk_drew ?_ | refine blk_alloc ?_ _)); exact BK554.out)) : gb565 ≠ gb554)); clear HO564; clear BK553; clear BK554; clear HB; have HO564 := n0_; have BK553 := n1_; have BK554 := n2_; have HB := n3_; have BK565 := n4_; have GW565 := n5_; have GE565 := n6_; have NB553_565 := n7_; have NB565_553 := n8_; have NB554_565 := n9_; have NB565_554 := n10_; clear n0_ n1_ n2_ n3_ n4_ n5_ n6_ n7_ n8_ n9_ n10_; clear hb hbox hg; have hnb79 := NB565_553.out; have hnc79 := NB553_565.out; have hnb80 := NB565_554.out; have hnc80 := NB554_565.out; have hcz81_0 : w78.cell? ⟨gb565, 0, none⟩ = some (.string (⟨#[]⟩ : ByteArray)) := (blk_cell BK565.out 0).trans rfl; have hcz81_1 : w78.cell? ⟨gb565, 1, none⟩ = some (.int .i64 0) := (blk_cell BK565.out 1).trans rfl; have hcz81_2 : w78.cell? ⟨gb565, 2, none⟩ = some (.int .i64 0) := (blk_cell BK565.out 2).trans rfl; have hcz81_3 : w78.cell? ⟨gb565, 3, none⟩ = some (.int .i64 0) := (blk_cell BK565.out 3).trans rfl; have hcz81_4 : w78.cell? ⟨gb565, 4, none⟩ = some (.string (⟨#[]⟩ : ByteArray)) := (blk_cell BK565.out 4).trans rfl; have hcz81_5 : w78.cell? ⟨gb565, 5, none⟩ = some (.slice none 0 0) := (blk_cell BK565.out 5).trans rfl; have hfz81_0 := blk_frozen BK565.out 0; have hfz81_1 := blk_frozen BK565.out 1; have hfz81_2 := blk_frozen BK565.out 2; have hfz81_3 := blk_frozen BK565.out 3; have hfz81_4 := blk_frozen BK565.out 4; have hfz81_5 := blk_frozen BK565.out 5; obtain ⟨Ao82, co82, eo82⟩ := Kd.S_slice HO564.out; subst eo82; have hcz83_0 : w78.cell? ⟨gb554, 0, none⟩ = some (.int .i64 a2_0) := (blk_cell BK554.out 0).trans rfl; have hcz83_1 : w78.cell? ⟨gb554, 1, none⟩ = some (.int .i64 a2_1) := (blk_cell BK554.out 1).trans rfl; have hfz83_0 := blk_frozen BK554.out 0; have hfz83_1 := blk_frozen BK554.out 1) | ((with_reducible refine gate_callee (f := 22) rfl ?_); refine goesL_ (some 44) rfl rfl Try.func22 (by kernel_rfl) rfl #[.agg #[.string t557, .int .i64 t558, .int .i64 t559, .int .i64 t560, .string t561, .slice Ao82 t562.length co82], .int .i64 a1, .int .i64 a2_0, .int .i64 a2_1] rfl (by (try simp only [List.map_toArray, List.map_cons, List.map_nil]); first | done | rfl | (simp only [List.length_drop, List.length_take]; rfl)) ?_; (with_reducible refine (tmpl_Template_Part.calls kj3 t557 t558 t559 t560 t561 _ _ t562 a1 a2_0 a2_1 t566 _ ?side1 ?side2 A36.out).mono ?_); (case side1 => refine (Kd.S_reads' (e := 69) (base := w.heap.size) (ok := fun k_ => True) (n := t562.length) (c := co82) ?_).2.2; exact (by (with_reducible repeat (first | apply Kd.S_alloc | apply Kd.S_drewN | apply Kd.S_drew)); exact (Kd.S_mono (Kd.S_far (p := ⟨gb565, 5, none⟩) (Kd.S_far (p := ⟨gb565, 4, none⟩) (Kd.S_far (p := ⟨gb565, 3, none⟩) (Kd.S_far (p := ⟨gb565, 2, none⟩) (Kd.S_far (p := ⟨gb565, 1, none⟩) (Kd.S_far (p := ⟨gb565, 0, none⟩) (Kd.S_types HO564.out BK565.out (by decide)) (fun _ hk => hk.2) (.string t557)) (fun _ hk => hk.2) (.int .i64 t558)) (fun _ hk => hk.2) (.int .i64 t559)) (fun _ hk => hk.2) (.int .i64 t560)) (fun _ hk => hk.2) (.string t561)) (fun _ hk => hk.2) (.slice Ao82 t562.length co82)) (fun _ h_ => h_.1)))); (case side2 => exact (Kd.S_reads' HO564.out).2.1); rintro e w84 ⟨rfl, hb⟩; refine ⟨_, rfl, ?_⟩; have n0_ := Aside0.mk (Kd.S_below (by (with_reducible repeat (first | apply Kd.S_alloc | apply Kd.S_drewN | apply Kd.S_drew)); exact (Kd.S_mono (Kd.S_far (p := ⟨gb565, 5, none⟩) (Kd.S_far (p := ⟨gb565, 4, none⟩) (Kd.S_far (p := ⟨gb565, 3, none⟩) (Kd.S_far (p := ⟨gb565, 2, none⟩) (Kd.S_far (p := ⟨gb565, 1, none⟩) (Kd.S_far (p := ⟨gb565, 0, none⟩) (Kd.S_types HO564.out BK565.out (by decide)) (fun _ hk => hk.2) (.string t557)) (fun _ hk => hk.2) (.int .i64 t558)) (fun _ hk => hk.2) (.int .i64 t559)) (fun _ hk => hk.2) (.int .i64 t560)) (fun _ hk => hk.2) (.string t561)) (fun _ hk => hk.2) (.slice Ao82 t562.length co82)) (fun _ h_ => h_.1))) hb); have n1_ := Aside0.mk (blk_below (g := gb553) (o := .cells #[.string a0_0, .int .i64 a0_1, .int .i64 a0_2, .int .i64 a0_3, .string a0_4, .slice A0_5 l0_5.length c0_5] 46 (0, 0)) (by (with_reducible repeat (first | refine blk_drewN ?_ _ | refine blk_drew ?_ | refine blk_alloc ?_ _)); refine blk_far ?_ NB553_565.out _; (with_reducible repeat (first | refine blk_drewN ?_ _ | refine blk_drew ?_ | refine blk_alloc ?_ _)); refine blk_far ?_ NB553_565.out _; (with_reducible repeat (first | refine blk_drewN ?_ _ | refine blk_drew ?_ | refine blk_alloc ?_ _)); refine blk_far ?_ NB553_565.out _; (with_reducible repeat (first | refine blk_drewN ?_ _ | refine blk_drew ?_ | refine blk_alloc ?_ _)); refine blk_far ?_ NB553_565.out _; (with_reducible repeat (first | refine blk_drewN ?_ _ | refine blk_drew ?_ | refine blk_alloc ?_ _)); refine blk_far ?_ NB553_565.out _; (with_reducible repeat (first | refine blk_drewN ?_ _ | refine blk_drew ?_ | refine blk_alloc ?_ _)); refine blk_far ?_ NB553_565.out _; (with_reducible repeat (first | refine blk_drewN ?_ _ | refine blk_drew ?_ | refine blk_alloc ?_ _)); exact BK553.out) hb); have n2_ := Aside0.mk (blk_below (g := gb554) (o := .cells #[.int .i64 a2_0, .int .i64 a2_1] 52 (0, 0)) (by (with_reducible repeat (first | refine blk_drewN ?_ _ | refine blk_drew ?_ | refine blk_alloc ?_ _)); refine blk_far ?_ NB554_565.out _; (with_reducible repeat (first | refine blk_drewN ?_ _ | refine blk_drew ?_ | refine blk_alloc ?_ _)); refine blk_far ?_ NB554_565.out _; (with_reducible repeat (first | refine blk_drewN ?_ _ | refine blk_drew ?_ | refine blk_alloc ?_ _)); refine blk_far ?_ NB554_565.out _; (with_reducible repeat (first | refine blk_drewN ?_ _ | refine blk_drew ?_ | refine blk_alloc ?_ _)); refine blk_far ?_ NB554_565.out _; (with_reducible repeat (first | refine blk_drewN ?_ _ | refine blk_drew ?_ | refine blk_alloc ?_ _)); refine blk_far ?_ NB554_565.out _; (with_reducible repeat (first | refine blk_drewN ?_ _ | refine blk_drew ?_ | refine blk_alloc ?_ _)); refine blk_far ?_ NB554_565.out _; (with_reducible repeat (first | refine blk_drewN ?_ _ | refine blk_drew ?_ | refine blk_alloc ?_ _)); exact BK554.out) hb); have n3_ := Aside0.mk (blk_below (g := gb565) (o := .cells #[.string t557, .int .i64 t558, .int .i64 t559, .int .i64 t560, .string t561, .slice Ao82 t562.length co82] 36 (0, 0)) (by (with_reducible repeat (first | refine blk_drewN ?_ _ | refine blk_drew ?_ | refine blk_alloc ?_ _)); refine blk_put (cs := #[.string t557, .int .i64 t558, .int .i64 t559, .int .i64 t560, .string t561, .slice none 0 0]) ?_ 5 _ rfl; (with_reducible repeat (first | refine blk_drewN ?_ _ | refine blk_drew ?_ | refine blk_alloc ?_ _)); refine blk_put (cs := #[.string t557, .int .i64 t558, .int .i64 t559, .int .i64 t560, .string (⟨#[]⟩ : ByteArray), .slice none 0 0]) ?_ 4 _ rfl; (with_reducible repeat (first | refine blk_drewN ?_ _ | refine blk_drew ?_ | refine blk_alloc ?_ _)); refine blk_put (cs := #[.string t557, .int .i64 t558, .int .i64 t559, .int .i64 0, .string (⟨#[]⟩ : ByteArray), .slice none 0 0]) ?_ 3 _ rfl; (with_reducible repeat (first | refine blk_drewN ?_ _ | refine blk_drew ?_ | refine blk_alloc ?_ _)); refine blk_put (cs := #[.string t557, .int .i64 t558, .int .i64 0, .int .i64 0, .string (⟨#[]⟩ : ByteArray), .slice none 0 0]) ?_ 2 _ rfl; (with_reducible repeat (first | refine blk_drewN ?_ _ | refine blk_drew ?_ | refine blk_alloc ?_ _)); refine blk_put (cs := #[.string t557, .int .i64 0, .int .i64 0, .int .i64 0, .string (⟨#[]⟩ : ByteArray), .slice none 0 0]) ?_ 1 _ rfl; (with_reducible repeat (first | refine blk_drewN ?_ _ | refine blk_drew ?_ | refine blk_alloc ?_ _)); refine blk_put (cs := #[.string (⟨#[]⟩ : ByteArray), .int .i64 0, .int .i64 0, .int .i64 0, .string (⟨#[]⟩ : ByteArray), .slice none 0 0]) ?_ 0 _ rfl; (with_reducible repeat (first | refine blk_drewN ?_ _ | refine blk_drew ?_ | refine blk_alloc ?_ _)); exact BK565.out) hb); have n4_ := Aside0.mk (below_step (by repeat (first | (with_reducible first | exact HB.out | apply below_alloc | apply pw_below_drewN | apply below_drew1 | refine below_set ?_ GE553.out | refine below_set ?_ GE554.out | refine below_set ?_ GE565.out) | exact HB.out)) hb); clear HO564; clear BK553; clear BK554; clear BK565; clear HB; have HO564 := n0_; have BK553 := n1_; have BK554 := n2_; have BK565 := n3_; have HB := n4_; clear n0_ n1_ n2_ n3_ n4_; (try clear hb); (try clear hb2); (try clear hk); (try clear hi)))
       have n0_ := Aside0.mk (Kd.S_drew HO564.out)
       have n1_ := Aside0.mk (blk_drew BK553.out)
       have n2_ := Aside0.mk (blk_drew BK554.out)
       have n3_ := Aside0.mk (blk_drew BK565.out)
       have n4_ := Aside0.mk (below_drew1 HB.out)
       clear HO564
       clear BK553
       clear BK554
       clear BK565
       clear HB
       have HO564 := n0_
       have BK553 := n1_
       have BK554 := n2_
       have BK565 := n3_
       have HB := n4_
       clear n0_ n1_ n2_ n3_ n4_
       have p567 : 0 ≤ (a1 : Int) := of_decide_eq_true (by first | (with_reducible assumption) | assumption)
       have q567 : a1 < (l0_5.length : Int) := of_decide_eq_true (by first | (with_reducible assumption) | assumption)
       obtain ⟨ad567, A567_0, c567_0, e567, hx567_0, hx567_1, hx567_2, hl567_0, hi567_0⟩ := at_T74 HR0_5.out a1 p567 q567
       have hw567_2 := hx567_2
       have hw567_1 := hx567_1
       have hw567_0 := hx567_0
       cases e567
       replace hx567_0 := (HB.out.cell (World.block_lt_of_cell? w _ hx567_0)).trans hx567_0
       replace hx567_1 := (HB.out.cell (World.block_lt_of_cell? w _ hx567_1)).trans hx567_1
       replace hx567_2 := (HB.out.cell (World.block_lt_of_cell? w _ hx567_2)).trans hx567_2
       have HR567_0 := Aside0.mk hi567_0
       have HC567_0 := Aside0.mk hl567_0
       clear hi567_0 hl567_0
       replace p567 := eq_true p567
       replace q567 := eq_true q567
       refine start_ (n := 16) (S := fun w' => w'.cell? ⟨gb565, 0, none⟩ = some (.string t557) ∧ w'.cell? ⟨gb565, 1, none⟩ = some (.int .i64 t558) ∧ w'.cell? ⟨gb565, 2, none⟩ = some (.int .i64 t559) ∧ w'.cell? ⟨gb565, 3, none⟩ = some (.int .i64 t560) ∧ w'.cell? ⟨gb565, 4, none⟩ = some (.string t561) ∧ w'.cell? ⟨gb565, 5, none⟩ = some (.slice Ao82 t562.length co82) ∧ w'.cell? ⟨gb554, 0, none⟩ = some (.int .i64 a2_0) ∧ w'.cell? ⟨gb554, 1, none⟩ = some (.int .i64 a2_1) ∧ w'.cell? ⟨gb553, 0, none⟩ = some (.string a0_0) ∧ w'.cell? ⟨gb553, 1, none⟩ = some (.int .i64 a0_1) ∧ w'.cell? ⟨gb553, 2, none⟩ = some (.int .i64 a0_2) ∧ w'.cell? ⟨gb553, 3, none⟩ = some (.int .i64 a0_3) ∧ w'.cell? ⟨gb553, 4, none⟩ = some (.string a0_4) ∧ w'.cell? ⟨gb553, 5, none⟩ = some (.slice (some ad567) l0_5.length c0_5) ∧ w'.cell? (ad567.add ((a1).toNat * 3)) = some (.slice A567_0 ((rd_T74 l0_5 a1).f0).length c567_0) ∧ w'.cell? ⟨(ad567.add ((a1).toNat * 3)).block, (ad567.add ((a1).toNat * 3)).off + 1, none⟩ = some (.int .i64 ((rd_T74 l0_5 a1).f1)) ∧ w'.cell? ⟨(ad567.add ((a1).toNat * 3)).block, (ad567.add ((a1).toNat * 3)).off + 2, none⟩ = some (.bool ((rd_T74 l0_5 a1).f2))) (ds := []) #[false, false, false, false, false, false, false, false, false, false, false, false, false, false, false, false] (by kernel_rfl) rfl rfl ⟨(blk_cell BK565.out 0).trans rfl, (blk_cell BK565.out 1).trans rfl, (blk_cell BK565.out 2).trans rfl, (blk_cell BK565.out 3).trans rfl, (blk_cell BK565.out 4).trans rfl, (blk_cell BK565.out 5).trans rfl, (blk_cell BK554.out 0).trans rfl, (blk_cell BK554.out 1).trans rfl, (blk_cell BK553.out 0).trans rfl, (blk_cell BK553.out 1).trans rfl, (blk_cell BK553.out 2).trans rfl, (blk_cell BK553.out 3).trans rfl, (blk_cell BK553.out 4).trans rfl, (blk_cell BK553.out 5).trans rfl, ((HB.out.cell (World.block_lt_of_cell? w _ hw567_0)).trans hw567_0), ((HB.out.cell (World.block_lt_of_cell? w _ hw567_1)).trans hw567_1), ((HB.out.cell (World.block_lt_of_cell? w _ hw567_2)).trans hw567_2)⟩ (fun hHeld => ?_); refine with_tabW wellspringlaw18_TmplTurned.tab5 wellspringlaw18_TmplTurned.bits5 (fun HT_ HW_ => ?_)
       generalize w84.drew = w85 at HO564 BK553 BK554 BK565 HB HR567_0 hx567_0 hx567_1 hx567_2 hHeld ⊢
       refine pure_ (i := 1) (N := some 46) (v := ?_) (a' := ?_) #[false, true, false, false, false, false, false, false, false, false, false, false, false, false, false, false] rfl rfl (any_of HT_.out (by kernel_rfl)) (fun _ _ _ h => h) (Or.inl ⟨by rfl, ?_⟩) ?_ ?_
       rotate_left
       ·intro w'
        go_simp
        with_reducible rfl
       rotate_left
       ·simp only [Act.put, List.setIfInBounds_toArray, List.set_cons_zero, List.set_cons_succ, i64_w, i32_w]
        rfl
       refine pure_ (i := 2) (N := some 47) (v := ?_) (a' := ?_) #[false, true, true, false, false, false, false, false, false, false, false, false, false, false, false, false] rfl rfl (any_of HT_.out (by kernel_rfl)) (fun _ _ _ h => h) (Or.inl ⟨by rfl, ?_⟩) ?_ ?_
       rotate_left
       ·intro w'
        go_simp
        with_reducible rfl
       rotate_left
       ·simp only [Act.put, List.setIfInBounds_toArray, List.set_cons_zero, List.set_cons_succ, i64_w, i32_w]
        rfl
       refine pure_ (i := 4) (N := some 49) (v := ?_) (a' := ?_) #[false, true, true, false, true, false, false, false, false, false, false, false, false, false, false, false] rfl rfl (any_of HT_.out (by kernel_rfl)) (fun _ _ _ h => h) (Or.inl ⟨by rfl, ?_⟩) ?_ ?_
       rotate_left
       ·intro w'
        go_simp
        with_reducible rfl
       rotate_left
       ·simp only [Act.put, List.setIfInBounds_toArray, List.set_cons_zero, List.set_cons_succ, i64_w, i32_w]
        rfl
       refine pure_ (i := 6) (N := some 51) (v := ?_) (a' := ?_) #[false, true, true, false, true, false, true, false, false, false, false, false, false, false, false, false] rfl rfl (any_of HT_.out (by kernel_rfl)) (fun _ _ _ h => h) (Or.inl ⟨by rfl, ?_⟩) ?_ ?_
       rotate_left
       ·intro w'
        go_simp
        with_reducible rfl
       rotate_left
       ·simp only [Act.put, List.setIfInBounds_toArray, List.set_cons_zero, List.set_cons_succ, i64_w, i32_w]
        rfl
       refine pure_ (i := 8) (N := some 53) (v := ?_) (a' := ?_) #[false, true, true, false, true, false, true, false, true, false, false, false, false, false, false, false] rfl rfl (any_of HT_.out (by kernel_rfl)) (fun _ _ _ h => h) (Or.inl ⟨by rfl, ?_⟩) ?_ ?_
       rotate_left
       ·intro w'
        go_simp
        with_reducible rfl
       rotate_left
       ·simp only [Act.put, List.setIfInBounds_toArray, List.set_cons_zero, List.set_cons_succ, i64_w, i32_w]
        rfl
       refine take_ (i := 0) (N := some 45) (v := ?_) (a' := ?_) #[true, true, true, false, true, false, true, false, true, false, false, false, false, false, false, false] rfl rfl (take_ofW HT_.out HW_.out (by kernel_rfl)) (fun _ _ _ h => h) (Or.inl ⟨by rfl, ?_⟩) hHeld ?_ ?_
       rotate_left
       ·rintro w' ⟨s0, s1, s2, s3, s4, s5, s6, s7, s8, s9, s10, s11, s12, s13, s14, s15, s16⟩
        go_simp
        with_reducible rfl
       rotate_left
       ·simp only [Act.put, List.setIfInBounds_toArray, List.set_cons_zero, List.set_cons_succ, i64_w, i32_w]
        rfl
       refine take_ (i := 3) (N := some 48) (v := ?_) (a' := ?_) #[true, true, true, true, true, false, true, false, true, false, false, false, false, false, false, false] rfl rfl (take_ofW HT_.out HW_.out (by kernel_rfl)) (fun _ _ _ h => h) (Or.inl ⟨by rfl, ?_⟩) hHeld ?_ ?_
       rotate_left
       ·rintro w' ⟨s0, s1, s2, s3, s4, s5, s6, s7, s8, s9, s10, s11, s12, s13, s14, s15, s16⟩
        go_simp
        with_reducible rfl
       rotate_left
       ·simp only [Act.put, List.setIfInBounds_toArray, List.set_cons_zero, List.set_cons_succ, i64_w, i32_w]
        rfl
       refine take_ (i := 5) (N := some 50) (v := ?_) (a' := ?_) #[true, true, true, true, true, true, true, false, true, false, false, false, false, false, false, false] rfl rfl (take_ofW HT_.out HW_.out (by kernel_rfl)) (fun _ _ _ h => h) (Or.inl ⟨by rfl, ?_⟩) hHeld ?_ ?_
       rotate_left
       ·rintro w' ⟨s0, s1, s2, s3, s4, s5, s6, s7, s8, s9, s10, s11, s12, s13, s14, s15, s16⟩
        go_simp
        with_reducible rfl
       rotate_left
       ·simp only [Act.put, List.setIfInBounds_toArray, List.set_cons_zero, List.set_cons_succ, i64_w, i32_w]
        rfl
       refine take_ (i := 7) (N := some 52) (v := ?_) (a' := ?_) #[true, true, true, true, true, true, true, true, true, false, false, false, false, false, false, false] rfl rfl (take_ofW HT_.out HW_.out (by kernel_rfl)) (fun _ _ _ h => h) (Or.inl ⟨by rfl, ?_⟩) hHeld ?_ ?_
       rotate_left
       ·rintro w' ⟨s0, s1, s2, s3, s4, s5, s6, s7, s8, s9, s10, s11, s12, s13, s14, s15, s16⟩
        go_simp
        with_reducible rfl
       rotate_left
       ·simp only [Act.put, List.setIfInBounds_toArray, List.set_cons_zero, List.set_cons_succ, i64_w, i32_w]
        rfl
       refine pure_ (i := 9) (N := some 54) (v := ?_) (a' := ?_) #[true, true, true, true, true, true, true, true, true, true, false, false, false, false, false, false] rfl rfl (any_of HT_.out (by kernel_rfl)) (fun _ _ _ h => h) (Or.inl ⟨by rfl, ?_⟩) ?_ ?_
       rotate_left
       ·intro w'
        go_simp
        with_reducible rfl
       rotate_left
       ·simp only [Act.put, List.setIfInBounds_toArray, List.set_cons_zero, List.set_cons_succ, i64_w, i32_w]
        rfl
       refine pure_ (i := 10) (N := some 55) (v := ?_) (a' := ?_) #[true, true, true, true, true, true, true, true, true, true, true, false, false, false, false, false] rfl rfl (any_of HT_.out (by kernel_rfl)) (fun _ _ _ h => h) (Or.inl ⟨by rfl, ?_⟩) ?_ ?_
       rotate_left
       ·intro w'
        go_simp
        with_reducible rfl
       rotate_left
       ·simp only [Act.put, List.setIfInBounds_toArray, List.set_cons_zero, List.set_cons_succ, i64_w, i32_w]
        rfl
       refine take_ (i := 11) (N := some 56) (v := ?_) (a' := ?_) #[true, true, true, true, true, true, true, true, true, true, true, true, false, false, false, false] rfl rfl (take_ofW HT_.out HW_.out (by kernel_rfl)) (fun _ _ _ h => h) (Or.inl ⟨by rfl, ?_⟩) hHeld ?_ ?_
       rotate_left
       ·rintro w' ⟨s0, s1, s2, s3, s4, s5, s6, s7, s8, s9, s10, s11, s12, s13, s14, s15, s16⟩
        go_simp
        with_reducible rfl
       rotate_left
       ·simp only [Act.put, List.setIfInBounds_toArray, List.set_cons_zero, List.set_cons_succ, i64_w, i32_w]
        rfl
       refine pure_ (i := 12) (N := some 57) (v := ?_) (a' := ?_) #[true, true, true, true, true, true, true, true, true, true, true, true, true, false, false, false] rfl rfl (any_of HT_.out (by kernel_rfl)) (fun _ _ _ h => h) (Or.inl ⟨by rfl, ?_⟩) ?_ ?_
       rotate_left
       ·intro w'
        go_simp
        with_reducible rfl
       rotate_left
       ·simp only [Act.put, List.setIfInBounds_toArray, List.set_cons_zero, List.set_cons_succ, i64_w, i32_w]
        rfl
       refine pure_ (i := 13) (N := some 58) (v := ?_) (a' := ?_) #[true, true, true, true, true, true, true, true, true, true, true, true, true, true, false, false] rfl rfl (any_of HT_.out (by kernel_rfl)) (fun _ _ _ h => h) (Or.inl ⟨by rfl, ?_⟩) ?_ ?_
       rotate_left
       ·intro w'
        go_simp
        with_reducible rfl
       rotate_left
       ·simp only [Act.put, List.setIfInBounds_toArray, List.set_cons_zero, List.set_cons_succ, i64_w, i32_w]
        rfl
       refine one_ (i := 14) (N := some 59) #[true, true, true, true, true, true, true, true, true, true, true, true, true, true, true, false] rfl rfl (one_of HT_.out (by kernel_rfl)) (by decide) (fun K hK => ?_)
       refine goes_ Try.func22 (by kernel_rfl) rfl #[.agg #[.string t557, .int .i64 t558, .int .i64 t559, .int .i64 t560, .string t561, .slice Ao82 t562.length co82], .int .i64 a1, .int .i64 a2_0, .int .i64 (wrap64 (a2_1 + (((rd_T74 l0_5 a1).f0).length : Int)))] (by rfl) rfl rfl (by (try simp only [List.map_toArray, List.map_cons, List.map_nil]); first | done | rfl | (simp only [List.length_drop, List.length_take]; rfl)) ?_
       with_reducible refine (tmpl_Template_Part.calls kj3 t557 t558 t559 t560 t561 _ _ t562 a1 a2_0 (wrap64 (a2_1 + (((rd_T74 l0_5 a1).f0).length : Int))) t568 _ ?side1 ?side2 A39.out).mono ?_
       (case side1 => repeat (first | exact (Kd.S_reads' HO564.out).2.2 | (with_reducible refine Kd.C_alloc ?_ _) | (with_reducible refine Kd.C_drewN ?_ _) | (with_reducible refine Kd.C_drew ?_)))
       (case side2 => exact (Kd.S_reads' HO564.out).2.1)
       rintro e w86 ⟨rfl, hb⟩
       refine ⟨_, rfl, ?_⟩
       have n0_ := Aside0.mk (Kd.S_below (by (with_reducible repeat (first | apply Kd.S_alloc | apply Kd.S_drewN | apply Kd.S_drew)); exact HO564.out) hb)
       have n1_ := Aside0.mk (blk_below (g := gb553) (o := .cells #[.string a0_0, .int .i64 a0_1, .int .i64 a0_2, .int .i64 a0_3, .string a0_4, .slice (some ad567) l0_5.length c0_5] 46 (0, 0)) (by (with_reducible repeat (first | refine blk_drewN ?_ _ | refine blk_drew ?_ | refine blk_alloc ?_ _)); exact BK553.out) hb)
       have n2_ := Aside0.mk (blk_below (g := gb554) (o := .cells #[.int .i64 a2_0, .int .i64 a2_1] 52 (0, 0)) (by (with_reducible repeat (first | refine blk_drewN ?_ _ | refine blk_drew ?_ | refine blk_alloc ?_ _)); exact BK554.out) hb)
       have n3_ := Aside0.mk (blk_below (g := gb565) (o := .cells #[.string t557, .int .i64 t558, .int .i64 t559, .int .i64 t560, .string t561, .slice Ao82 t562.length co82] 36 (0, 0)) (by (with_reducible repeat (first | refine blk_drewN ?_ _ | refine blk_drew ?_ | refine blk_alloc ?_ _)); exact BK565.out) hb)
       have n4_ := Aside0.mk (below_step (by repeat (first | (with_reducible first | exact HB.out | apply below_alloc | apply pw_below_drewN | apply below_drew1 | refine below_set ?_ GE553.out | refine below_set ?_ GE554.out | refine below_set ?_ GE565.out) | exact HB.out)) hb)
       clear HO564
       clear BK553
       clear BK554
       clear BK565
       clear HB
       have HO564 := n0_
       have BK553 := n1_
       have BK554 := n2_
       have BK565 := n3_
       have HB := n4_
       clear n0_ n1_ n2_ n3_ n4_
       (try clear hb)
       (try clear hb2)
       (try clear hk)
       (try clear hi)
       refine hK.out _ _ ⟨(blk_cell BK565.out 0).trans rfl, (blk_cell BK565.out 1).trans rfl, (blk_cell BK565.out 2).trans rfl, (blk_cell BK565.out 3).trans rfl, (blk_cell BK565.out 4).trans rfl, (blk_cell BK565.out 5).trans rfl, (blk_cell BK554.out 0).trans rfl, (blk_cell BK554.out 1).trans rfl, (blk_cell BK553.out 0).trans rfl, (blk_cell BK553.out 1).trans rfl, (blk_cell BK553.out 2).trans rfl, (blk_cell BK553.out 3).trans rfl, (blk_cell BK553.out 4).trans rfl, (blk_cell BK553.out 5).trans rfl, ((HB.out.cell (World.block_lt_of_cell? w _ hw567_0)).trans hw567_0), ((HB.out.cell (World.block_lt_of_cell? w _ hw567_1)).trans hw567_1), ((HB.out.cell (World.block_lt_of_cell? w _ hw567_2)).trans hw567_2)⟩ (fun hHeld => ?_)
       clear hK K
       refine norm_ (a' := ?_) ?_ ?_
       rotate_left
       ·show Act.put _ (some 59) _ = _
        simp only [Act.put, List.setIfInBounds_toArray, List.set_cons_zero, List.set_cons_succ, i64_w, i32_w]
        rfl
       refine pure_ (i := 15) (N := some 9) (v := ?_) (a' := ?_) #[true, true, true, true, true, true, true, true, true, true, true, true, true, true, true, true] rfl rfl (any_of HT_.out (by kernel_rfl)) (fun _ _ _ h => h) (Or.inl ⟨by rfl, ?_⟩) ?_ ?_
       rotate_left
       ·intro w'
        go_simp
        with_reducible rfl
       rotate_left
       ·simp only [Act.put, List.setIfInBounds_toArray, List.set_cons_zero, List.set_cons_succ, i64_w, i32_w]
        rfl
       refine done_ (done_of HT_.out (by kernel_rfl)) ?_
       have hcz87_0 : w86.cell? ⟨gb565, 0, none⟩ = some (.string t557) := (blk_cell BK565.out 0).trans rfl
       have hcz87_1 : w86.cell? ⟨gb565, 1, none⟩ = some (.int .i64 t558) := (blk_cell BK565.out 1).trans rfl
       have hcz87_2 : w86.cell? ⟨gb565, 2, none⟩ = some (.int .i64 t559) := (blk_cell BK565.out 2).trans rfl
       have hcz87_3 : w86.cell? ⟨gb565, 3, none⟩ = some (.int .i64 t560) := (blk_cell BK565.out 3).trans rfl
       have hcz87_4 : w86.cell? ⟨gb565, 4, none⟩ = some (.string t561) := (blk_cell BK565.out 4).trans rfl
       have hcz87_5 : w86.cell? ⟨gb565, 5, none⟩ = some (.slice Ao82 t562.length co82) := (blk_cell BK565.out 5).trans rfl
       have hfz87_0 := blk_frozen BK565.out 0
       have hfz87_1 := blk_frozen BK565.out 1
       have hfz87_2 := blk_frozen BK565.out 2
       have hfz87_3 := blk_frozen BK565.out 3
       have hfz87_4 := blk_frozen BK565.out 4
       have hfz87_5 := blk_frozen BK565.out 5
       have hcz88_0 : w86.cell? ⟨gb554, 0, none⟩ = some (.int .i64 a2_0) := (blk_cell BK554.out 0).trans rfl
       have hcz88_1 : w86.cell? ⟨gb554, 1, none⟩ = some (.int .i64 a2_1) := (blk_cell BK554.out 1).trans rfl
       have hfz88_0 := blk_frozen BK554.out 0
       have hfz88_1 := blk_frozen BK554.out 1
       try go_wp2_with (first | ((with_reducible refine gate_callee (f := 22) rfl ?_); refine goesL_ (some 64) rfl rfl Try.func22 (by kernel_rfl) rfl #[.agg #[.string t557, .int .i64 t558, .int .i64 t559, .int .i64 t560, .string t561, .slice Ao82 t562.length co82], .int .i64 a1, .int .i64 a2_0, .int .i64 0] rfl (by (try simp only [List.map_toArray, List.map_cons, List.map_nil]); first | done | rfl | (simp only [List.length_drop, List.length_take]; rfl)) ?_; (with_reducible refine (tmpl_Template_Part.calls kj3 t557 t558 t559 t560 t561 _ _ t562 a1 a2_0 0 t569 _ ?side1 ?side2 A40.out).mono ?_); (case side1 => repeat (first | exact (Kd.S_reads' HO564.out).2.2 | (with_reducible refine Kd.C_alloc ?_ _) | (with_reducible refine Kd.C_drewN ?_ _) | (with_reducible refine Kd.C_drew ?_))); (case side2 => exact (Kd.S_reads' HO564.out).2.1); rintro e w89 ⟨rfl, hb⟩; refine ⟨_, rfl, ?_⟩; have n0_ := Aside0.mk (Kd.S_below (by (with_reducible repeat (first | apply Kd.S_alloc | apply Kd.S_drewN | apply Kd.S_drew)); exact HO564.out) hb); have n1_ := Aside0.mk (blk_below (g := gb553) (o := .cells #[.string a0_0, .int .i64 a0_1, .int .i64 a0_2, .int .i64 a0_3, .string a0_4, .slice (some ad567) l0_5.length c0_5] 46 (0, 0)) (by (with_reducible repeat (first | refine blk_drewN ?_ _ | refine blk_drew ?_ | refine blk_alloc ?_ _)); exact BK553.out) hb); have n2_ := Aside0.mk (blk_below (g := gb554) (o := .cells #[.int .i64 a2_0, .int .i64 a2_1] 52 (0, 0)) (by (with_reducible repeat (first | refine blk_drewN ?_ _ | refine blk_drew ?_ | refine blk_alloc ?_ _)); exact BK554.out) hb); have n3_ := Aside0.mk (blk_below (g := gb565) (o := .cells #[.string t557, .int .i64 t558, .int .i64 t559, .int .i64 t560, .string t561, .slice Ao82 t562.length co82] 36 (0, 0)) (by (with_reducible repeat (first | refine blk_drewN ?_ _ | refine blk_drew ?_ | refine blk_alloc ?_ _)); exact BK565.out) hb); have n4_ := Aside0.mk (below_step (by repeat (first | (with_reducible first | exact HB.out | apply below_alloc | apply pw_below_drewN | apply below_drew1 | refine below_set ?_ GE553.out | refine below_set ?_ GE554.out | refine below_set ?_ GE565.out) | exact HB.out)) hb); clear HO564; clear BK553; clear BK554; clear BK565; clear HB; have HO564 := n0_; have BK553 := n1_; have BK554 := n2_; have BK565 := n3_; have HB := n4_; clear n0_ n1_ n2_ n3_ n4_; (try clear hb); (try clear hb2); (try clear hk); (try clear hi)))
       go_ret
       exact ⟨by first | rfl | (simp [errW_none, errW_some] <;> rfl) | (simp [*, errW_none, errW_some] <;> rfl), by repeat (first | (with_reducible first | exact HB.out | apply below_alloc | apply pw_below_drewN | apply below_drew1 | refine below_set ?_ GE553.out | refine below_set ?_ GE554.out | refine below_set ?_ GE565.out) | exact HB.out)⟩
     ·rw [if_neg c38] at H
      exact absurd H (by simp)
    ·rw [if_neg c37] at H
     exact absurd H (by simp)
end Go.Proofs.Ytedjodnaalconaa.P
end
section
namespace Go.Proofs.Ytedjodnaalconaa.tmplTurned
open Go.RowKit Go.Proofs.YtedjodnaalconaaW.PrintWords Go.Proofs.Ytedjodnaalconaa.P Go.Proofs.Ytedjodnaalconaa.Opens
def Pure : Prop := ∀ (x0 : S46) (x1 : Int) (x2_0 x2_1 : Int), F46 x0 → wfI x1 → wfI x2_0 → wfI x2_1 → ∃ k, wellspringlaw18_TmplTurned.f k x0.f0.f0 x0.f0.f1 x0.f0.f2 x0.f1 x0.f2 x0.f3 x1 x2_0 x2_1 = some true
end Go.Proofs.Ytedjodnaalconaa.tmplTurned
end
section
namespace Go.Proofs.Ytedjodnaalconaa.Plain
open Go.RowKit Go.Proofs.YtedjodnaalconaaW.PrintWords Go.Proofs.YtedjodnaalconaaW.PrintLast Go.Proofs.YtedjodnaalconaaW.PrintMore Go.Proofs.Ytedjodnaalconaa.P Go.Proofs.Ytedjodnaalconaa.Opens
set_option linter.unusedVariables false
theorem live_true : Ev (fun _ => wellspringlaw18_live.f) true := Ev.now true
theorem wf_iff {n : Int} (h : wfI n) : -9223372036854775808 ≤ n ∧ n ≤ 9223372036854775807 := by
 unfold wfI Lit.wf at h
 have h0 : IntKind.i64.min = -9223372036854775808 := by decide
 simpa [h0] using h
theorem w64 {n : Int} (h1 : -9223372036854775808 ≤ n) (h2 : n ≤ 9223372036854775807) : wrap64 n = n := by unfold wrap64; omega
theorem rd74 {l : List S74} {i : Nat} (h : i < l.length) : rd_T74 l (i : Int) = l[i] := by unfold rd_T74; rw [Int.toNat_natCast, List.getD_eq_getElem?_getD, List.getElem?_eq_getElem h]; rfl
theorem rd80 {l : List S80} {i : Nat} (h : i < l.length) : rd_T80 l (i : Int) = l[i] := by unfold rd_T80; rw [Int.toNat_natCast, List.getD_eq_getElem?_getD, List.getElem?_eq_getElem h]; rfl
theorem rd69 {l : List S69} {i : Nat} (h : i < l.length) : rd_T69 l (i : Int) = l[i] := by unfold rd_T69; rw [Int.toNat_natCast, List.getD_eq_getElem?_getD, List.getElem?_eq_getElem h]; rfl
theorem rd71 {l : List S71} {i : Nat} (h : i < l.length) : rd_T71 l (i : Int) = l[i] := by unfold rd_T71; rw [Int.toNat_natCast, List.getD_eq_getElem?_getD, List.getElem?_eq_getElem h]; rfl
def SmallT (n text : ByteArray) (l : List S74) : Prop := (∀ p ∈ l, p.f0.length ≤ 60 ∧ l.length ≤ 20) ∧ text.size ≤ 20000 ∧ n.size ≤ 300
theorem small_l0 (n : ByteArray) (a b c : Int) (text : ByteArray) (l : List S74) (hl : l.length ≤ 9223372036854775807) : ∀ (d i k : Nat), i + d = l.length → d < k →
  ∃ r, wellspringref18_Small.l0 k (i : Int) n a b c text l = some r ∧ (r = true ↔ (∀ p ∈ l.drop i, p.f0.length ≤ 60 ∧ l.length ≤ 20) ∧ text.size ≤ 20000 ∧ n.size ≤ 300) := by
 intro d
 induction d with
 | zero =>
  intro i k hi hk
  obtain ⟨k, rfl⟩ : ∃ m, k = m + 1 := ⟨k - 1, by omega⟩
  obtain rfl : i = l.length := by omega
  simp only [wellspringref18_Small.l0]
  rw [if_neg (by omega), List.drop_length]
  by_cases ht : (text.size : Int) ≤ 20000
  ·rw [if_pos ht]
   refine ⟨_, rfl, ?_⟩
   simp only [decide_eq_true_eq]
   constructor
   ·intro h; exact ⟨fun _ h => (by cases h), by omega, by omega⟩
   ·intro h; have := h.2.2; omega
  ·rw [if_neg ht]
   refine ⟨_, rfl, ?_⟩
   constructor
   ·intro h; cases h
   ·intro h; have := h.2.1; omega
 | succ d ih =>
  intro i k hi hk
  obtain ⟨k, rfl⟩ : ∃ m, k = m + 1 := ⟨k - 1, by omega⟩
  have hil : i < l.length := by omega
  simp only [wellspringref18_Small.l0]
  rw [if_pos (by omega), if_pos (by omega), rd74 hil, List.drop_eq_getElem_cons hil]
  by_cases h1 : ((l[i].f0.length : Nat) : Int) > 60
  ·rw [if_pos h1]
   refine ⟨_, rfl, ?_⟩
   constructor
   ·intro h; cases h
   ·intro h; have := (h.1 l[i] (List.mem_cons_self ..)).1; omega
  ·rw [if_neg h1]
   by_cases h2 : (l.length : Int) > 20
   ·rw [if_pos h2]
    refine ⟨_, rfl, ?_⟩
    constructor
    ·intro h; cases h
    ·intro h; have := (h.1 l[i] (List.mem_cons_self ..)).2; omega
   ·rw [if_neg h2, w64 (by omega) (by omega)]
    obtain ⟨r, hr, hrt⟩ := ih (i + 1) k (by omega) (by omega)
    refine ⟨r, hr, hrt.trans ?_⟩
    constructor
    ·rintro ⟨h, ht⟩
     refine ⟨fun p hp => ?_, ht⟩
     rcases List.mem_cons.1 hp with rfl | hp
     ·exact ⟨by omega, by omega⟩
     ·exact h p hp
    ·rintro ⟨h, ht⟩
     exact ⟨fun p hp => h p (List.mem_cons_of_mem _ hp), ht⟩
theorem small_ev (n : ByteArray) (a b c : Int) (text : ByteArray) (l : List S74) (hl : l.length ≤ 9223372036854775807) : ∃ r, Ev (fun k => wellspringref18_Small.f k n a b c text l) r ∧ (r = true ↔ SmallT n text l) := by
 obtain ⟨r, hr, h⟩ := small_l0 n a b c text l hl l.length 0 (l.length + 1) (by omega) (by omega)
 exact ⟨r, Ev.of (g := fun k => wellspringref18_Small.f k n a b c text l) (wellspringref18_Small.mono n a b c text l) hr, by rw [h, List.drop_zero]; exact Iff.rfl⟩
def ownS (s : S80) : S71 := ⟨s.f0, s.f1, s.f2⟩
def ownP (p : S74) : S69 := ⟨p.f0.map ownS, p.f1, p.f2⟩
theorem own_step (n : ByteArray) (a b c : Int) (text : ByteArray) (l : List S74) (hl : l.length ≤ 1000) (hp : ∀ p ∈ l, p.f0.length ≤ 1000) : ∀ (d i : Nat), i + d = l.length →
  Ev (fun k => wellspringlaw18_Own.l0 k (i : Int) n a b c text l n a b c text ((l.take i).map ownP)) (n, a, b, c, text, l.map ownP) := by
 intro d
 induction d with
 | zero =>
  intro i hi
  obtain rfl : i = l.length := by omega
  refine Ev.step (f := fun _ => some (n, a, b, c, text, l.map ownP)) (fun k => ?_) (Ev.now _)
  simp only [wellspringlaw18_Own.l0]
  rw [if_neg (by omega), List.take_length]
 | succ d ih =>
  intro i hi
  have hil : i < l.length := by omega
  have hspans : ∀ (e j : Nat), j + e = l[i].f0.length → Ev (fun k => wellspringlaw18_Own.l1 k (i : Int) (j : Int) n a b c text l n a b c text ((l.take i).map ownP) ((l[i].f0.take j).map ownS) l[i].f1 l[i].f2) (n, a, b, c, text, l.map ownP) := by
   have hlen := hp l[i] (List.getElem_mem _)
   intro e
   induction e with
   | zero =>
    intro j hj
    obtain rfl : j = l[i].f0.length := by omega
    refine Ev.step (fun k => ?_) (ih (i + 1) (by omega))
    simp only [wellspringlaw18_Own.l1]
    rw [rd74 hil, if_pos (by omega), if_pos (by omega), if_neg (by omega), if_pos (by rw [List.length_map, List.length_take]; omega), w64 (by omega) (by omega), List.take_length]
    congr 1
    rw [List.take_succ_eq_append_getElem hil, List.map_append]
    rfl
   | succ e ihe =>
    intro j hj
    have hjl : j < l[i].f0.length := by omega
    refine Ev.step (fun k => ?_) (ihe (j + 1) (by omega))
    simp only [wellspringlaw18_Own.l1]
    rw [rd74 hil, rd80 hjl, if_pos (by omega), if_pos (by omega), if_pos (by omega), if_pos (by omega), if_pos (by rw [List.length_map, List.length_take]; omega), w64 (by omega) (by omega)]
    congr 1
    rw [List.take_succ_eq_append_getElem hjl, List.map_append]
    rfl
  refine Ev.step (fun k => ?_) (hspans l[i].f0.length 0 (by omega))
  simp only [wellspringlaw18_Own.l0]
  rw [if_pos (by omega), if_pos (by omega), rd74 hil]
  rfl
theorem own_ev (n : ByteArray) (a b c : Int) (text : ByteArray) (l : List S74) (hl : l.length ≤ 1000) (hp : ∀ p ∈ l, p.f0.length ≤ 1000) : Ev (fun k => wellspringlaw18_Own.f k n a b c text l) (n, a, b, c, text, l.map ownP) := own_step n a b c text l hl hp l.length 0 (by omega)
def SpansOk (text : ByteArray) (sp : List S71) : Prop := ∀ s ∈ sp, spanOk text s
instance (text : ByteArray) (sp : List S71) : Decidable (SpansOk text sp) := by unfold SpansOk; infer_instance
def PieceOk (text : ByteArray) (p : S69) : Prop := p.f0 ≠ [] ∧ SpansOk text p.f0
instance (text : ByteArray) (p : S69) : Decidable (PieceOk text p) := by unfold PieceOk; infer_instance
def CheckOk (text : ByteArray) (l : List S69) : Prop := ∀ p ∈ l, PieceOk text p
instance (text : ByteArray) (l : List S69) : Decidable (CheckOk text l) := by unfold CheckOk; infer_instance
theorem check_step (n : ByteArray) (a b c : Int) (text : ByteArray) (l : List S69) (ht : text.size ≤ 9223372036854775807) (hl : l.length ≤ 9223372036854775807) (hp : ∀ p ∈ l, p.f0.length ≤ 9223372036854775807) : ∀ (d i : Nat), i + d = l.length →
  Ev (fun k => tmpl_Template_Check.l0 k l (l.length : Int) (i : Int) n a b c text l) (decide (CheckOk text (l.drop i))) := by
 intro d
 induction d with
 | zero =>
  intro i hi
  obtain rfl : i = l.length := by omega
  refine Ev.step (f := fun _ => some _) (fun k => ?_) (Ev.now _)
  simp only [tmpl_Template_Check.l0]
  rw [if_neg (by omega), List.drop_length]
  exact congrArg some (decide_eq_true (fun _ h => (by cases h))).symm
 | succ d ih =>
  intro i hi
  have hil : i < l.length := by omega
  have hcons : CheckOk text (l.drop i) ↔ PieceOk text l[i] ∧ CheckOk text (l.drop (i + 1)) := by
   rw [List.drop_eq_getElem_cons hil]
   exact List.forall_mem_cons
  have hlen := hp l[i] (List.getElem_mem _)
  by_cases h0 : l[i].f0.length = 0
  ·have hne : ¬ CheckOk text (l.drop i) := fun h => (hcons.1 h).1.1 (List.length_eq_zero_iff.1 h0)
   refine Ev.step (f := fun _ => some _) (fun k => ?_) (Ev.now _)
   simp only [tmpl_Template_Check.l0]
   rw [if_pos (by omega), if_pos (by omega), if_pos (by omega), rd69 hil, if_pos (by omega)]
   exact congrArg some (decide_eq_false hne).symm
  ·have hspans : ∀ (e j : Nat), j + e = l[i].f0.length → Ev (fun k => tmpl_Template_Check.l1 k l (l.length : Int) (i : Int) l[i].f0 (l[i].f0.length : Int) (j : Int) n a b c text l) (decide (SpansOk text (l[i].f0.drop j) ∧ CheckOk text (l.drop (i + 1)))) := by
    intro e
    induction e with
    | zero =>
     intro j hj
     obtain rfl : j = l[i].f0.length := by omega
     have he : decide (SpansOk text (l[i].f0.drop l[i].f0.length) ∧ CheckOk text (l.drop (i + 1))) = decide (CheckOk text (l.drop (i + 1))) := by
      rw [List.drop_length]
      exact decide_eq_decide.2 ⟨fun h => h.2, fun h => ⟨fun _ h => (by cases h), h⟩⟩
     rw [he]
     refine Ev.step (fun k => ?_) (ih (i + 1) (by omega))
     simp only [tmpl_Template_Check.l1]
     rw [if_neg (by omega), w64 (by omega) (by omega)]
     rfl
    | succ e ihe =>
     intro j hj
     have hjl : j < l[i].f0.length := by omega
     have hc2 : SpansOk text (l[i].f0.drop j) ↔ spanOk text l[i].f0[j] ∧ SpansOk text (l[i].f0.drop (j + 1)) := by
      unfold SpansOk
      rw [List.drop_eq_getElem_cons hjl]
      exact List.forall_mem_cons
     by_cases hs : spanOk text l[i].f0[j]
     ·have he : decide (SpansOk text (l[i].f0.drop j) ∧ CheckOk text (l.drop (i + 1))) = decide (SpansOk text (l[i].f0.drop (j + 1)) ∧ CheckOk text (l.drop (i + 1))) :=
       decide_eq_decide.2 ⟨fun h => ⟨(hc2.1 h.1).2, h.2⟩, fun h => ⟨hc2.2 ⟨hs, h.1⟩, h.2⟩⟩
      rw [he]
      refine Ev.step (fun k => ?_) (ihe (j + 1) (by omega))
      obtain ⟨g1, g2, g3, g4⟩ := hs
      simp only [tmpl_Template_Check.l1]
      rw [if_pos (by omega), if_pos (by omega), if_pos (by omega), rd71 hjl, if_neg (by omega), if_neg (by omega), if_neg (by omega), if_neg (by omega), w64 (by omega) (by omega), if_neg (by omega), w64 (by omega) (by omega)]
      rfl
     ·have he : decide (SpansOk text (l[i].f0.drop j) ∧ CheckOk text (l.drop (i + 1))) = false := decide_eq_false (fun h => hs (hc2.1 h.1).1)
      rw [he]
      refine Ev.step (f := fun _ => some false) (fun k => ?_) (Ev.now _)
      simp only [tmpl_Template_Check.l1]
      rw [if_pos (by omega), if_pos (by omega), if_pos (by omega), rd71 hjl]
      by_cases q1 : l[i].f0[j].f0 < 0
      ·rw [if_pos q1]
      rw [if_neg q1]
      by_cases q2 : l[i].f0[j].f2 < l[i].f0[j].f0
      ·rw [if_pos q2]
      rw [if_neg q2]
      by_cases q3 : l[i].f0[j].f1 > (text.size : Int)
      ·rw [if_pos q3]
      rw [if_neg q3]
      by_cases q4 : l[i].f0[j].f1 < l[i].f0[j].f2
      ·rw [if_pos q4]
      rw [if_neg q4, w64 (by omega) (by omega), if_pos (by
       by_cases q5 : l[i].f0[j].f1 - l[i].f0[j].f2 < 4
       ·exact q5
       ·exact absurd ⟨by omega, by omega, by omega, by omega⟩ hs)]
   have he : decide (CheckOk text (l.drop i)) = decide (SpansOk text (l[i].f0.drop 0) ∧ CheckOk text (l.drop (i + 1))) := by
    refine decide_eq_decide.2 (hcons.trans ?_)
    rw [List.drop_zero]
    unfold PieceOk
    exact ⟨fun h => ⟨h.1.2, h.2⟩, fun h => ⟨⟨fun h2 => h0 (by rw [h2]; rfl), h.1⟩, h.2⟩⟩
   rw [he]
   refine Ev.step (fun k => ?_) (hspans l[i].f0.length 0 (by omega))
   simp only [tmpl_Template_Check.l0]
   rw [if_pos (by omega), if_pos (by omega), if_pos (by omega), rd69 hil, if_neg (by omega)]
   rfl
theorem check_ev (n : ByteArray) (a b c : Int) (text : ByteArray) (l : List S69) (ht : text.size ≤ 9223372036854775807) (hl : l.length ≤ 9223372036854775807) (hp : ∀ p ∈ l, p.f0.length ≤ 9223372036854775807) : Ev (fun k => tmpl_Template_Check.f k n a b c text l) (decide (CheckOk text l)) := check_step n a b c text l ht hl hp l.length 0 (by omega)
def LiveAt (now until_ : Int) : Prop := 0 ≤ now ∧ now ≤ 1099511627776 ∧ now < until_
instance (now until_ : Int) : Decidable (LiveAt now until_) := by unfold LiveAt; infer_instance
theorem live_now (now until_ : Int) : age_Live.f now until_ = some (decide (LiveAt now until_)) := by
 unfold age_Live.f age_within_int.f
 by_cases h1 : now ≥ 0
 ·rw [if_pos h1]
  by_cases h2 : now ≤ 1099511627776
  ·simp only [Option.bind_some, decide_eq_true h2, if_true]
   exact congrArg some (decide_eq_decide.2 ⟨fun h => ⟨h1, h2, h⟩, fun h => h.2.2⟩)
  ·simp only [Option.bind_some, decide_eq_false h2, Bool.false_eq_true, if_false]
   exact congrArg some (decide_eq_false (fun h => h2 h.2.1)).symm
 ·rw [if_neg h1]
  simp only [Option.bind_some, Bool.false_eq_true, if_false]
  exact congrArg some (decide_eq_false (fun h => h1 h.1)).symm
def leftAt (now until_ : Int) : Int := if until_ - now ≤ 604800 then until_ - now else 604800
theorem left_now {now until_ : Int} (h : LiveAt now until_) (hu : until_ ≤ 9223372036854775807) : age_Left.f now until_ = some (leftAt now until_) := by
 obtain ⟨h1, h2, h3⟩ := h
 unfold age_Left.f
 rw [live_now, decide_eq_true (show LiveAt now until_ from ⟨h1, h2, h3⟩)]
 simp only [Option.bind_some, if_true]
 rw [w64 (by omega) (by omega)]
 unfold mn leftAt
 by_cases hc : until_ - now ≤ 604800
 ·rw [if_pos hc, if_neg (by omega)]
 ·rw [if_neg hc, if_pos (by omega)]
theorem left_range {now until_ : Int} (h : LiveAt now until_) : 1 ≤ leftAt now until_ ∧ leftAt now until_ ≤ 604800 := by
 obtain ⟨h1, h2, h3⟩ := h
 unfold leftAt
 split <;> omega
def bytes4 (n : Int) : ByteArray := strOfNums [shr .i64 n 24 % 256, shr .i64 n 16 % 256, shr .i64 n 8 % 256, shr .i64 n 0 % 256]
theorem shr32 {n : Int} (h0 : 0 ≤ n) (h1 : n < 4294967296) : (shr .i64 n (wrap64 (8 * 4)) != 0) = false := by
 have h2 : shr .i64 n (wrap64 (8 * 4)) = n / 4294967296 := by kernel_rfl
 rw [h2, Int.ediv_eq_zero_of_lt h0 h1]
 rfl
theorem put4 {n : Int} (h0 : 0 ≤ n) (h1 : n < 4294967296) : Ev (fun k => octet_Put.f k n 4) (bytes4 n) := by
 refine Ev.of (g := fun k => octet_Put.f k n 4) (octet_Put.mono n 4) (k := 10) ?_
 show octet_Put.f 10 n 4 = _
 unfold octet_Put.f
 rw [shr32 h0 h1, show octet_sized.f 4 = some true from rfl]
 simp only [Option.bind_some, if_true]
 rw [if_neg (by omega), if_pos (by unfold wrap64; omega)]
 kernel_rfl
theorem bytes4_size (n : Int) : (bytes4 n).size = 4 := by kernel_rfl
def partV (text : ByteArray) (l : List S69) (i now turn : Int) : ByteArray :=
 if i < 0 ∨ i ≥ (l.length : Int) ∨ turn < 0 then ⟨#[]⟩ else if CheckOk text l then if LiveAt now (rd_T69 l i).f1 then partBytes text (bytes4 (leftAt now (rd_T69 l i).f1)) (turnedT (rd_T69 l i).f0 (P.partAt turn (rd_T69 l i).f2 (rd_T69 l i).f0.length)) else ⟨#[]⟩ else ⟨#[]⟩
theorem partV_in {text : ByteArray} {l : List S69} {i now turn : Int} (h0 : 0 ≤ i) (h1 : i < (l.length : Int)) (h2 : 0 ≤ turn) : partV text l i now turn = if CheckOk text l then if LiveAt now (rd_T69 l i).f1 then partBytes text (bytes4 (leftAt now (rd_T69 l i).f1)) (turnedT (rd_T69 l i).f0 (P.partAt turn (rd_T69 l i).f2 (rd_T69 l i).f0.length)) else ⟨#[]⟩ else ⟨#[]⟩ := by
 unfold partV
 rw [if_neg (by omega)]
theorem part_ev (n : ByteArray) (a b c : Int) (text : ByteArray) (l : List S69) (i now turn : Int) (ht : text.size ≤ 100000000) (hl : l.length ≤ 9223372036854775807) (hp : ∀ p ∈ l, p.f0.length ≤ 100000 ∧ p.f1 ≤ 9223372036854775807) :
  Ev (fun k => tmpl_Template_Part.f k n a b c text l i now turn) (partV text l i now turn) := by
 unfold partV
 by_cases h1 : i < 0 ∨ i ≥ (l.length : Int) ∨ turn < 0
 ·rw [if_pos h1]
  refine Ev.congr (f := fun _ => some _) (fun k => ?_) (Ev.now _)
  unfold tmpl_Template_Part.f
  rw [if_pos h1]
 rw [if_neg h1]
 have hmem : rd_T69 l i ∈ l := by
  have : i = ((i.toNat : Nat) : Int) := by omega
  rw [this, rd69 (show i.toNat < l.length by omega)]
  exact List.getElem_mem _
 obtain ⟨hp1, hp2⟩ := hp _ hmem
 refine Ev.congr (fun k => by unfold tmpl_Template_Part.f; rw [if_neg h1]) (Ev.bind (check_ev n a b c text l (by omega) hl (fun p hp' => Nat.le_trans (hp p hp').1 (by decide))) ?_)
 by_cases h2 : CheckOk text l
 ·rw [if_pos h2]
  simp only [decide_eq_true h2, if_true]
  by_cases h3 : LiveAt now (rd_T69 l i).f1
  ·rw [if_pos h3]
   have hlr := left_range h3
   simp only [live_now, decide_eq_true h3, Option.bind_some, if_true, left_now h3 hp2]
   refine Ev.bind (put4 (by omega) (by omega)) ?_
   have hok := h2 _ hmem
   refine Ev.congr (f := fun _ => some _) (fun k => ?_) (Ev.now _)
   rw [if_pos ⟨List.length_pos_iff.2 hok.1, hp1, hok.2, by rw [bytes4_size]; decide, ht⟩]
  ·rw [if_neg h3]
   simp only [live_now, decide_eq_false h3, Option.bind_some, Bool.false_eq_true, if_false]
   exact Ev.now _
 ·rw [if_neg h2]
  simp only [decide_eq_false h2, Bool.false_eq_true, if_false]
  exact Ev.now _
theorem partBytes_append (text lb : ByteArray) : ∀ l m : List S71, partBytes text lb (l ++ m) = partBytes text lb l ++ partBytes text lb m
 | [], m => by rw [List.nil_append]; show _ = ByteArray.empty ++ _; rw [ByteArray.empty_append]
 | s :: l, m => by rw [List.cons_append, partBytes, partBytes_append text lb l m, partBytes, ByteArray.append_assoc]
theorem partBytes_turned (text lb : ByteArray) (l : List S71) (a : Nat) : (partBytes text lb (turnedT l a)).size = (partBytes text lb l).size := by
 unfold turnedT
 rw [partBytes_append, ByteArray.size_append, Nat.add_comm, ← ByteArray.size_append, ← partBytes_append, List.take_append_drop]
end Go.Proofs.Ytedjodnaalconaa.Plain
end
section
namespace Go.Proofs.Ytedjodnaalconaa.Pure
open Go.RowKit Go.Proofs.YtedjodnaalconaaW.PrintWords Go.Proofs.YtedjodnaalconaaW.PrintLast Go.Proofs.YtedjodnaalconaaW.PrintMore Go.Proofs.Ytedjodnaalconaa.P Go.Proofs.Ytedjodnaalconaa.Opens Go.Proofs.Ytedjodnaalconaa.Plain
theorem j0_live (x1 : Int) (n : ByteArray) (a b c : Int) (text : ByteArray) (l : List S74) (u v : Int) : Ev (fun k => wellspringlaw18_TmplTurned.j0 k x1 true n a b c text l u v) true := by
 refine Ev.step (fun k => ?_) (Ev.bind (f := fun _ t => some t) live_true (Ev.now true))
 simp only [wellspringlaw18_TmplTurned.j0, if_true]
theorem partAt_again (turn : Int) (soa : Bool) (n : Nat) : P.partAt (turn + n) soa n = P.partAt turn soa n := by
 unfold P.partAt
 split
 ·rfl
 ·rw [Int.add_emod_right]
theorem TmplTurned : tmplTurned.Pure := by
 intro x i now turn hx hi hnow hturn
 obtain ⟨⟨hn, ha, hb⟩, hc, ht, hl, hp⟩ := hx
 obtain ⟨s, hs, hS⟩ := small_ev x.f0.f0 x.f0.f1 x.f0.f2 x.f1 x.f2 x.f3 hl
 refine Ev.rounds (g := fun k => wellspringlaw18_TmplTurned.f k x.f0.f0 x.f0.f1 x.f0.f2 x.f1 x.f2 x.f3 i now turn) (Ev.bind hs ?_)
 cases s with
 | false =>
  simp only [Bool.false_eq_true, if_false]
  exact j0_live ..
 | true =>
  simp only [if_true]
  obtain ⟨hsp, hst, hsn⟩ := hS.1 rfl
  by_cases h1 : i < 0
  ·simp only [if_pos h1]; exact j0_live ..
  simp only [if_neg h1]
  by_cases h2 : i ≥ (x.f3.length : Int)
  ·simp only [if_pos h2]; exact j0_live ..
  simp only [if_neg h2]
  by_cases h3 : turn < 0
  ·simp only [if_pos h3]; exact j0_live ..
  simp only [if_neg h3]
  by_cases h4 : turn > 1099511627776
  ·simp only [decide_eq_true h4]; exact j0_live ..
  simp only [decide_eq_false h4]
  obtain ⟨j, rfl⟩ : ∃ j : Nat, i = (j : Int) := ⟨i.toNat, by omega⟩
  have hil : j < x.f3.length := by omega
  have hmem : x.f3[j] ∈ x.f3 := List.getElem_mem _
  have hlen : x.f3.length ≤ 20 := (hsp _ hmem).2
  have hown := own_ev x.f0.f0 x.f0.f1 x.f0.f2 x.f1 x.f2 x.f3 (by omega) (fun p hp' => Nat.le_trans (hsp p hp').1 (by decide))
  have hlp : ∀ p ∈ x.f3.map ownP, p.f0.length ≤ 100000 ∧ p.f1 ≤ 9223372036854775807 := by
   intro p hp'
   obtain ⟨q, hq, rfl⟩ := List.mem_map.1 hp'
   refine ⟨?_, (wf_iff (hp q hq).2.1).2⟩
   show (q.f0.map ownS).length ≤ 100000
   rw [List.length_map]
   exact Nat.le_trans (hsp q hq).1 (by decide)
  have hpart := fun turn' => part_ev x.f0.f0 x.f0.f1 x.f0.f2 x.f1 x.f2 (x.f3.map ownP) (j : Int) now turn' (by omega) (by rw [List.length_map]; omega) hlp
  refine Ev.step (f := fun k => (wellspringlaw18_Own.f k x.f0.f0 x.f0.f1 x.f0.f2 x.f1 x.f2 x.f3).bind fun bt626 => ((tmpl_Template_Part.f k bt626.1 bt626.2.1 bt626.2.2.1 bt626.2.2.2.1 bt626.2.2.2.2.1 bt626.2.2.2.2.2 (j : Int) now turn).bind fun t635 => ((tmpl_Template_Part.f k bt626.1 bt626.2.1 bt626.2.2.1 bt626.2.2.2.1 bt626.2.2.2.2.1 bt626.2.2.2.2.2 (j : Int) now (turn + (x.f3[j].f0.length : Int))).bind fun t637 => ((tmpl_Template_Part.f k bt626.1 bt626.2.1 bt626.2.2.1 bt626.2.2.2.1 bt626.2.2.2.2.1 bt626.2.2.2.2.2 (j : Int) now 0).bind fun t638 => (if t635.toList = t637.toList then (if (t635.size : Int) = (t638.size : Int) then ((wellspringlaw18_live.f).bind fun t639 => (some t639)) else (some false)) else (some false)))))) (fun k => ?_) ?_
  ·have hsz := (hsp _ hmem).1
   have c1 : (0 ≤ (j : Int)) = True := eq_true (by omega)
   have c2 : ((j : Int) < (x.f3.length : Int)) = True := eq_true (by omega)
   have c3 : wrap64 (turn + (x.f3[j].f0.length : Int)) = turn + (x.f3[j].f0.length : Int) := w64 (by omega) (by omega)
   simp only [wellspringlaw18_TmplTurned.j0, Bool.false_eq_true, if_false, c1, c2, if_true, rd74 hil, c3]
  ·refine Ev.bind hown (Ev.bind (hpart turn) (Ev.bind (hpart _) (Ev.bind (hpart 0) ?_)))
   have hrd : rd_T69 (x.f3.map ownP) (j : Int) = ownP x.f3[j] := by rw [rd69 (by rw [List.length_map]; omega)]; simp
   have hsz : (ownP x.f3[j]).f0.length = x.f3[j].f0.length := by show (List.map ownS _).length = _; rw [List.length_map]
   have e1 : partV x.f2 (x.f3.map ownP) (j : Int) now (turn + (x.f3[j].f0.length : Int)) = partV x.f2 (x.f3.map ownP) (j : Int) now turn := by
    rw [partV_in (by omega) (by rw [List.length_map]; omega) (by omega), partV_in (by omega) (by rw [List.length_map]; omega) (by omega), hrd, hsz, partAt_again]
   have e2 : (partV x.f2 (x.f3.map ownP) (j : Int) now turn).size = (partV x.f2 (x.f3.map ownP) (j : Int) now 0).size := by
    rw [partV_in (by omega) (by rw [List.length_map]; omega) (by omega), partV_in (by omega) (by rw [List.length_map]; omega) (by omega)]
    split
    ·split
     ·rw [partBytes_turned, partBytes_turned]
     ·rfl
    ·rfl
   simp only [e1, if_true]
   rw [e2]
   simp only [if_true]
   exact Ev.bind (f := fun _ t => some t) live_true (Ev.now true)
end Go.Proofs.Ytedjodnaalconaa.Pure
end
section
namespace Go.Proofs.Ytedjodnaalconaa.tmplTurned
open Go.ChangeShapes Go.WideShapes Go.ChangeAt Go.RowKit Go.Proofs.YtedjodnaalconaaW.PrintWords Go.Proofs.Ytedjodnaalconaa.P Go.Proofs.Ytedjodnaalconaa.Opens
open Go.ChangeMaps (open_string shut_string)
set_option linter.unusedVariables false
theorem own : ownKnob Try.prog.godebug = none := by kernel_rfl
theorem laidOut : laidOutB Try.prog = true := by kernel_rfl
set_option maxRecDepth 100000 in
theorem lifted (os : Os) (started : os.Started) (H : Type) (enc : TypeId × Value → H) :
  ReturnsInHanded {} Try.checked os 7 .any (Rows.tmplTurnedSpec.pre6 enc Try.prog Try.f7 Rows.tmplTurnedRow.domain false) (Rows.tmplTurnedSpec.post enc Try.prog Try.f7 false true false false) := by
 refine returnsInHanded_of_change_sized (C := Try.checked) own started (by kernel_rfl) Try.func7
  (ChangeSpec.witness6 (enc := enc) (C := Try.checked) false ⟨#[], #[.agg #[.string ByteArray.empty, .int .i64 0, .int .i64 0, .int .i64 0, .string ByteArray.empty, .slice none 0 0], .int .i64 0, .agg #[.int .i64 0, .int .i64 0]], []⟩ 8 (by kernel_rfl) (by kernel_rfl) (by kernel_rfl) (by kernel_rfl)) ?_
 intro W base args ds gs before hval0 hW hcnd hsz0 _
 have hval : ∀ (j : Nat) t v, Try.f7.params[j]? = some t → args[j]? = some v → Value.okWide Try.prog W .any base t v := hval0
 have hW' := hW
 obtain ⟨p, q, hA0, hV, rfl, hfz, hnd⟩ := hW
 have hA : DataW.TrodAll enc Try.prog W 0 (fun _ => true) true Try.f7.params.toList args.toList ds p := hA0
 rw [Try.params7] at hA hval
 obtain ⟨v0, vs0, d0, ds0, p0, q0, hargs, rfl, rfl, h0, r0⟩ := trodAll_cons hA
 obtain ⟨v1, vs1, d1, ds1, p1, q1, rfl, rfl, rfl, h1, r1⟩ := trodAll_cons r0
 obtain ⟨v2, vs2, d2, ds2, p2, q2, rfl, rfl, rfl, h2, r2⟩ := trodAll_cons r1
 obtain ⟨rfl, rfl, rfl⟩ := trodAll_nil r2
 obtain rfl : args = #[v0, v1, v2] := by cases args; simp_all
 obtain ⟨rfl, rfl⟩ := trodVars_none hV
 have o0 := (hval 0 46 v0 rfl rfl)
 unfold Value.okWide at o0
 rw [Try.underlying46] at o0
 obtain ⟨b0, rfl, _⟩ := o0
 have k0 := h0
 obtain ⟨fuel0, t0⟩ := h0
 obtain ⟨x0, m0, w0⟩ := opens46 enc W fuel0 _ _ t0
 obtain ⟨A0_1, c0_1, e0, l0_1, g0_1⟩ := k46_open m0
 obtain rfl : b0 = #[.string x0.f0.f0, .int .i64 x0.f0.f1, .int .i64 x0.f0.f2, .int .i64 x0.f1, .string x0.f2, .slice A0_1 x0.f3.length c0_1] := Array.toList_inj.1 e0
 have lt0 : ∀ x ∈ p0, x.block < W.heap.size := by obtain ⟨m, hm⟩ := k0; exact DataW.trod_lt m _ _ _ hm
 obtain ⟨x1, rfl, rfl, rfl, w1⟩ := open_int Try.underlying3 (hval 1 3 v1 rfl rfl) h1
 have o2 := (hval 2 52 v2 rfl rfl)
 unfold Value.okWide at o2
 rw [Try.underlying52] at o2
 obtain ⟨b2, rfl, _⟩ := o2
 have k2 := h2
 obtain ⟨fuel2, t2⟩ := h2
 obtain ⟨x2_0, x2_1, e2, w2_0, w2_1⟩ := array_ints2 Try.underlying52 Try.underlying3 (by kernel_rfl) (by kernel_rfl) t2
 obtain rfl : b2 = #[.int .i64 x2_0, .int .i64 x2_1] := Array.toList_inj.1 e2
 have lt2 : ∀ x ∈ p2, x.block < W.heap.size := by obtain ⟨m, hm⟩ := k2; exact DataW.trod_lt m _ _ _ hm
 clear hA0 hval0 hsz0
 obtain ⟨k, hp⟩ := Pure.TmplTurned x0 x1 x2_0 x2_1 w0 w1 w2_0 w2_1
 refine (wellspringlaw18_TmplTurned.calls k _ _ _ _ _ _ _ _ _ _ _ true W g0_1 l0_1 hp).mono fun e W' ⟨he, bel⟩ => ?_
 subst he
 exact ⟨_, rfl, _, _, _, [], _, [], hW', trodAll_mk1 (shut_bool Try.underlying4 _), (trodAll_cons_mk (Below.trod laidOut (by kernel_rfl) (of_decide_eq_true (by kernel_rfl)) k0 bel lt0) (trodAll_cons_mk (shut_int Try.underlying3 w1) (trodAll_cons_mk (Below.trod laidOut (by kernel_rfl) (of_decide_eq_true (by kernel_rfl)) k2 bel lt2) trodAll_mk0))), rfl, bel.frame _, fun h => by cases h⟩
theorem over : Rows.tmplTurnedRow.holds Try.pinned (OpenSpec.ofChange Rows.tmplTurnedSpec) :=
 OpenClaim.holds_of_wide 7 Try.f7 rfl rfl rfl rfl rfl rfl rfl ⟨rfl, rfl, rfl, rfl, rfl⟩ rfl rfl rfl rfl rfl (by kernel_rfl) Try.func7 (by kernel_rfl)
  (of_decide_eq_true (by kernel_rfl)) (by unfold Func.isWrapper; first | (rw [if_pos (by decide +kernel)]; kernel_rfl) | (rw [if_neg (by decide +kernel)]; exact ⟨rfl, rfl⟩))
  (fun os started H enc _ => lifted os started H enc)
theorem proved : Rows.TmplTurnedSaid := over
#print axioms proved
end Go.Proofs.Ytedjodnaalconaa.tmplTurned
namespace Go.Proofs.Ytedjodnaalconaa
theorem tmplTurned_holds : Rows.TmplTurnedSaid := tmplTurned.proved
end Go.Proofs.Ytedjodnaalconaa
end
