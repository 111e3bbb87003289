/- Part 5 of 6 of the proof that 'YtedjodnaalconaaLawTmplTells' holds: functions of plain values for the Go functions that the law reaches, what each call comes to, and the plain law; of the words that the kit's print wrote, what these use. Written together by a program of this session; no condition of its own. -/
import Derived.Test.YtedjodnaalconaaTe4
section
namespace Go.Proofs.Ytedjodnaalconaa.P
open Go.RowKit Go.Proofs.YtedjodnaalconaaW.PrintWords Go.Proofs.YtedjodnaalconaaW.PrintLast Go.Proofs.YtedjodnaalconaaW.PrintMore
attribute [local go_sem] max2_int min2_int max_two min_two max_three min_three max_four min_four
set_option linter.unusedVariables false
set_option linter.unusedSimpArgs false
def wellspringlaw18_live.f : Option Bool := some true
section
variable {P : Program} {ops : Array Oper} {Q : Exit → Act → World → Prop} {md : Region.Mode} {S : World → Prop}
theorem anyH_one (i : Nat) {o : Oper} {n : Nat} {listed : Array Bool} {a : Act} {w : World} (hr : Region.ready md ops listed = [i]) (ho : ops[i]? = some o) (hw : Region.wanted o (yielded ops a.tmps) = true)
  (h : ∀ K : Act → World → Prop, Aside0 (∀ a w, S w → wpAnyH P md ops Q S n (listed.setIfInBounds i true) a w → K a w) → Oper.wp P o a w K Q) : wpAnyH P md ops Q S (n + 1) listed a w :=
 wpAnyH_all hr (by simp) (fun j hj => by
  obtain rfl : j = i := by simpa using hj
  refine wpOp_step ho (fun K hK => ?_)
  rw [if_pos hw]
  exact h K (Aside0.mk (fun a w h1 h2 => hK a w (And.intro h1 h2))))
theorem anyH_two (i j : Nat) {oi oj : Oper} {n : Nat} {listed : Array Bool} {a : Act} {w : World} (hr : Region.ready md ops listed = [i, j]) (hi : ops[i]? = some oi) (hj : ops[j]? = some oj) (hwi : Region.wanted oi (yielded ops a.tmps) = true) (hwj : Region.wanted oj (yielded ops a.tmps) = true)
  (h1 : ∀ K : Act → World → Prop, Aside0 (∀ a w, S w → wpAnyH P md ops Q S n (listed.setIfInBounds i true) a w → K a w) → Oper.wp P oi a w K Q)
  (h2 : ∀ K : Act → World → Prop, Aside0 (∀ a w, S w → wpAnyH P md ops Q S n (listed.setIfInBounds j true) a w → K a w) → Oper.wp P oj a w K Q) : wpAnyH P md ops Q S (n + 1) listed a w :=
 wpAnyH_all hr (by simp) (fun k hk => by
  have hk' : k = i ∨ k = j := by simpa using hk
  rcases hk' with rfl | rfl
  ·refine wpOp_step hi (fun K hK => ?_)
   rw [if_pos hwi]
   exact h1 K (Aside0.mk (fun a w h1 h2 => hK a w (And.intro h1 h2)))
  ·refine wpOp_step hj (fun K hK => ?_)
   rw [if_pos hwj]
   exact h2 K (Aside0.mk (fun a w h1 h2 => hK a w (And.intro h1 h2))))
theorem region_H {id : Nat} {a : Act} {w : World} (S : World → Prop) (hm : P.follows .mixedOrders = true) (h : wpAnyH P .any ops Q S ops.size (Array.replicate ops.size false) a w.drew) : (Code.region id ops true).wp P Q a w :=
 wp_region_held hm h
end
theorem row_lit {α : Type} {d : Kd α} {e base : Nat} {W : World} {xs : List α} {inner : List Value} (hrep : Reps (d.M W base (fun _ => True)) d.sz xs inner) (hbase : base ≤ W.heap.size) (hm : xs.length ≤ 9223372036854775807) :
  d.R e (W.alloc (.cells inner.toArray e)) base (fun _ => True) (.slice (some ⟨W.heap.size, 0, none⟩) xs.length xs.length) xs := by
 refine ⟨fun _ _ => trivial, inner, ?_, ?_⟩
 ·have h2 := World.ownsRow_lit (base := base) (e := e) (size := d.sz) W inner.toArray xs.length hbase (by simpa [maxLen] using hm) (by simpa using hrep.1)
  simpa using h2
 ·refine hrep.imp_ (fun p c hp => d.M_mono (fun k hk => ⟨trivial, fun he => ?_⟩) (Kd.M_below (d.M_bound hp) (below_alloc (Below.refl _ _) _)))
  have h3 : k = W.heap.size := by simpa [Value.ownBlock] using he
  have := hk.2.2.1
  omega
section
def lvN : ByteArray := ⟨#[1, 97, 0]⟩
def lvT : ByteArray := ⟨#[192, 12, 0, 1, 0, 1, 0, 0, 0, 5, 0, 4, 49, 49, 49, 49, 192, 12, 0, 1, 0, 1, 0, 0, 0, 5, 0, 4, 50, 50, 50, 50]⟩
def lvP : List S69 := [⟨[⟨0, 16, 6⟩, ⟨16, 32, 22⟩], 15, false⟩]
theorem lv0 : wellspringlaw17_Chain.f 20 [⟨⟨⟨⟨#[1, 97, 0]⟩, 1, 1⟩, [⟨#[49, 49, 49, 49]⟩, ⟨#[50, 50, 50, 50]⟩], 9⟩, 5⟩] 0 ⟨#[]⟩ ⟨#[]⟩ 0 0 [] 0 0 = some ([⟨⟨⟨⟨#[1, 97, 0]⟩, 1, 1⟩, [⟨#[49, 49, 49, 49]⟩, ⟨#[50, 50, 50, 50]⟩], 9⟩, 5⟩], 0, ⟨#[]⟩, ⟨#[]⟩, 0, 0, [], 0, 0) := by kernel_rfl
theorem lv0b : wellspringlaw17_Chain.f 20 [] 3 ⟨#[]⟩ ⟨#[]⟩ 0 0 [] 0 0 = some ([], 3, ⟨#[]⟩, ⟨#[]⟩, 0, 0, [], 0, 0) := by kernel_rfl
theorem lv1 : tmpl_Make.f 20 10 ⟨#[1, 97, 0]⟩ 1 1 [⟨⟨⟨⟨#[1, 97, 0]⟩, 1, 1⟩, [⟨#[49, 49, 49, 49]⟩, ⟨#[50, 50, 50, 50]⟩], 9⟩, 5⟩] 0 ⟨#[]⟩ ⟨#[]⟩ 0 0 [] 0 0 = some (lvN, 1, 1, 0, lvT, lvP, true) := by kernel_rfl
theorem lv2 : tmpl_Make.f 20 10 ⟨#[1, 97, 0]⟩ 1 1 [] 3 ⟨#[]⟩ ⟨#[]⟩ 0 0 [] 0 0 = some (⟨#[]⟩, 0, 0, 0, ⟨#[]⟩, [], false) := by kernel_rfl
theorem lv3 : tmpl_Template_Check.f 20 lvN 1 1 0 lvT lvP = some true := by kernel_rfl
theorem lv4 : tmpl_Template_Live.f 20 lvN 1 1 0 lvT lvP 14 = some true := by kernel_rfl
theorem lv5 : tmpl_Template_Live.f 20 lvN 1 1 0 lvT lvP 15 = some false := by kernel_rfl
theorem lv6 : tmpl_Template_Part.f 20 lvN 1 1 0 lvT lvP 0 12 1 = some ⟨#[192, 12, 0, 1, 0, 1, 0, 0, 0, 3, 0, 4, 50, 50, 50, 50, 192, 12, 0, 1, 0, 1, 0, 0, 0, 3, 0, 4, 49, 49, 49, 49]⟩ := by kernel_rfl
theorem lv7 : tmpl_Template_Part.f 20 lvN 1 1 0 lvT lvP 1 12 0 = some ⟨#[]⟩ := by kernel_rfl
theorem lv8 : tmpl_Template_Part.f 20 lvN 1 1 0 lvT lvP 0 15 0 = some ⟨#[]⟩ := by kernel_rfl
theorem lv9 : tmpl_Template_Check.f 20 ⟨#[]⟩ 0 0 0 ⟨#[]⟩ [⟨[], 0, false⟩] = some false := by kernel_rfl
set_option maxHeartbeats 8000000 in
set_option maxRecDepth 100000 in
theorem wellspringlaw18_live.calls (r : Bool) (w : World) (h : wellspringlaw18_live.f = some r) :
  Calls Try.prog 10 #[] w fun e w' => e = .returned (.bool r) ∧ Below w.heap.size w w' := by
 obtain rfl : r = true := (Option.some.inj h).symm
 clear h
 have hu1 := Try.underlying23
 have hu2 := Try.underlying27
 have hu3 := Try.underlying29
 have hu4 := Try.underlying31
 have hu5 := Try.underlying36
 have hu6 := Try.underlying69
 go_enter Try.func10, Try.ntmps10
 go_wp2_with fail
 have HS : Aside0 (Kd.string.R 9 ((w.alloc (.cells #[.string ⟨#[1, 97, 0]⟩, .int .i64 1, .int .i64 1] 23)).alloc (.cells #[.string ⟨#[49, 49, 49, 49]⟩, .string ⟨#[50, 50, 50, 50]⟩] 9)) w.heap.size (fun _ => True) (.slice (some ⟨w.heap.size + 1, 0, none⟩) 2 2) [⟨#[49, 49, 49, 49]⟩, ⟨#[50, 50, 50, 50]⟩]) := ⟨by
  have h := row_lit (d := Kd.string) (e := 9) (base := w.heap.size) (W := (w.alloc (.cells #[.string ⟨#[1, 97, 0]⟩, .int .i64 1, .int .i64 1] 23))) (xs := [⟨#[49, 49, 49, 49]⟩, ⟨#[50, 50, 50, 50]⟩]) (inner := [.string ⟨#[49, 49, 49, 49]⟩, .string ⟨#[50, 50, 50, 50]⟩]) (Reps.one rfl (Reps.one rfl (Reps.none _ _))) (by rw [World.size_alloc]; omega) (by decide)
  rw [World.size_alloc] at h
  exact h⟩
 have HH : Aside0 (k29.R 29 (((w.alloc (.cells #[.string ⟨#[1, 97, 0]⟩, .int .i64 1, .int .i64 1] 23)).alloc (.cells #[.string ⟨#[49, 49, 49, 49]⟩, .string ⟨#[50, 50, 50, 50]⟩] 9)).alloc (.cells #[.string ⟨#[1, 97, 0]⟩, .int .i64 1, .int .i64 1, .slice (some ⟨w.heap.size + 1, 0, none⟩) 2 2, .int .i64 9, .int .i64 5] 29)) w.heap.size (fun _ => True) (.slice (some ⟨w.heap.size + 1 + 1, 0, none⟩) 1 1) [(⟨⟨⟨⟨#[1, 97, 0]⟩, 1, 1⟩, [⟨#[49, 49, 49, 49]⟩, ⟨#[50, 50, 50, 50]⟩], 9⟩, 5⟩ : S29)]) := ⟨by
  have h := row_lit (d := k29) (e := 29) (base := w.heap.size) (W := ((w.alloc (.cells #[.string ⟨#[1, 97, 0]⟩, .int .i64 1, .int .i64 1] 23)).alloc (.cells #[.string ⟨#[49, 49, 49, 49]⟩, .string ⟨#[50, 50, 50, 50]⟩] 9))) (xs := [(⟨⟨⟨⟨#[1, 97, 0]⟩, 1, 1⟩, [⟨#[49, 49, 49, 49]⟩, ⟨#[50, 50, 50, 50]⟩], 9⟩, 5⟩ : S29)]) (inner := [.string ⟨#[1, 97, 0]⟩, .int .i64 1, .int .i64 1, .slice (some ⟨w.heap.size + 1, 0, none⟩) 2 2, .int .i64 9, .int .i64 5]) (Reps.c6 (k29_mkM _ _ _ _ HS.out) (Reps.none _ _)) (by rw [World.size_alloc, World.size_alloc]; omega) (by decide)
  rw [World.size_alloc, World.size_alloc] at h
  exact h⟩
 have HR := Aside0.mk (Kd.R_V (base' := ((((w.alloc (.cells #[.string ⟨#[1, 97, 0]⟩, .int .i64 1, .int .i64 1] 23)).alloc (.cells #[.string ⟨#[49, 49, 49, 49]⟩, .string ⟨#[50, 50, 50, 50]⟩] 9)).alloc (.cells #[.string ⟨#[1, 97, 0]⟩, .int .i64 1, .int .i64 1, .slice (some ⟨w.heap.size + 1, 0, none⟩) 2 2, .int .i64 9, .int .i64 5] 29)).alloc (.cells #[.slice (some ⟨w.heap.size + 1 + 1, 0, none⟩) 1 1, .int .i64 0, .string ⟨#[]⟩, .string ⟨#[]⟩, .int .i64 0, .int .i64 0, .slice none 0 0, .int .i64 0, .int .i64 0] 31)).heap.size) (Kd.R_alloc HH.out (.cells #[.slice (some ⟨w.heap.size + 1 + 1, 0, none⟩) 1 1, .int .i64 0, .string ⟨#[]⟩, .string ⟨#[]⟩, .int .i64 0, .int .i64 0, .slice none 0 0, .int .i64 0, .int .i64 0] 31)))
 have HQ : Aside0 (((((w.alloc (.cells #[.string ⟨#[1, 97, 0]⟩, .int .i64 1, .int .i64 1] 23)).alloc (.cells #[.string ⟨#[49, 49, 49, 49]⟩, .string ⟨#[50, 50, 50, 50]⟩] 9)).alloc (.cells #[.string ⟨#[1, 97, 0]⟩, .int .i64 1, .int .i64 1, .slice (some ⟨w.heap.size + 1, 0, none⟩) 2 2, .int .i64 9, .int .i64 5] 29)).alloc (.cells #[.slice (some ⟨w.heap.size + 1 + 1, 0, none⟩) 1 1, .int .i64 0, .string ⟨#[]⟩, .string ⟨#[]⟩, .int .i64 0, .int .i64 0, .slice none 0 0, .int .i64 0, .int .i64 0] 31)).heap[w.heap.size]? = some (.cells #[.string ⟨#[1, 97, 0]⟩, .int .i64 1, .int .i64 1] 23 (0, 0))) := ⟨blk_alloc (blk_alloc (blk_alloc (heap_alloc_new _ _) _) _) _⟩
 have HC : Aside0 (((((w.alloc (.cells #[.string ⟨#[1, 97, 0]⟩, .int .i64 1, .int .i64 1] 23)).alloc (.cells #[.string ⟨#[49, 49, 49, 49]⟩, .string ⟨#[50, 50, 50, 50]⟩] 9)).alloc (.cells #[.string ⟨#[1, 97, 0]⟩, .int .i64 1, .int .i64 1, .slice (some ⟨w.heap.size + 1, 0, none⟩) 2 2, .int .i64 9, .int .i64 5] 29)).alloc (.cells #[.slice (some ⟨w.heap.size + 1 + 1, 0, none⟩) 1 1, .int .i64 0, .string ⟨#[]⟩, .string ⟨#[]⟩, .int .i64 0, .int .i64 0, .slice none 0 0, .int .i64 0, .int .i64 0] 31)).heap[w.heap.size + 1 + 1 + 1]? = some (.cells #[.slice (some ⟨w.heap.size + 1 + 1, 0, none⟩) 1 1, .int .i64 0, .string ⟨#[]⟩, .string ⟨#[]⟩, .int .i64 0, .int .i64 0, .slice none 0 0, .int .i64 0, .int .i64 0] 31 (0, 0))) := ⟨by
  have h := heap_alloc_new (((w.alloc (.cells #[.string ⟨#[1, 97, 0]⟩, .int .i64 1, .int .i64 1] 23)).alloc (.cells #[.string ⟨#[49, 49, 49, 49]⟩, .string ⟨#[50, 50, 50, 50]⟩] 9)).alloc (.cells #[.string ⟨#[1, 97, 0]⟩, .int .i64 1, .int .i64 1, .slice (some ⟨w.heap.size + 1, 0, none⟩) 2 2, .int .i64 9, .int .i64 5] 29)) (.cells #[.slice (some ⟨w.heap.size + 1 + 1, 0, none⟩) 1 1, .int .i64 0, .string ⟨#[]⟩, .string ⟨#[]⟩, .int .i64 0, .int .i64 0, .slice none 0 0, .int .i64 0, .int .i64 0] 31)
  rw [World.size_alloc, World.size_alloc, World.size_alloc] at h
  exact h⟩
 have HW := Aside0.mk (below_alloc (below_alloc (below_alloc (below_alloc (Below.refl w.heap.size w) (.cells #[.string ⟨#[1, 97, 0]⟩, .int .i64 1, .int .i64 1] 23)) (.cells #[.string ⟨#[49, 49, 49, 49]⟩, .string ⟨#[50, 50, 50, 50]⟩] 9)) (.cells #[.string ⟨#[1, 97, 0]⟩, .int .i64 1, .int .i64 1, .slice (some ⟨w.heap.size + 1, 0, none⟩) 2 2, .int .i64 9, .int .i64 5] 29)) (.cells #[.slice (some ⟨w.heap.size + 1 + 1, 0, none⟩) 1 1, .int .i64 0, .string ⟨#[]⟩, .string ⟨#[]⟩, .int .i64 0, .int .i64 0, .slice none 0 0, .int .i64 0, .int .i64 0] 31))
 clear HS HH
 generalize ((((w.alloc (.cells #[.string ⟨#[1, 97, 0]⟩, .int .i64 1, .int .i64 1] 23)).alloc (.cells #[.string ⟨#[49, 49, 49, 49]⟩, .string ⟨#[50, 50, 50, 50]⟩] 9)).alloc (.cells #[.string ⟨#[1, 97, 0]⟩, .int .i64 1, .int .i64 1, .slice (some ⟨w.heap.size + 1, 0, none⟩) 2 2, .int .i64 9, .int .i64 5] 29)).alloc (.cells #[.slice (some ⟨w.heap.size + 1 + 1, 0, none⟩) 1 1, .int .i64 0, .string ⟨#[]⟩, .string ⟨#[]⟩, .int .i64 0, .int .i64 0, .slice none 0 0, .int .i64 0, .int .i64 0] 31)) = W1 at HR HQ HC HW ⊢
 go_cut [3, 4] (fun v3 v4 wc => ∃ (g : Nat) (v5 : Value), v3 = .pointer (some ⟨g, 0, none⟩) ∧ v4 = .bool true ∧ Aside0 (wc.heap[w.heap.size]? = some (.cells #[.string ⟨#[1, 97, 0]⟩, .int .i64 1, .int .i64 1] 23 (0, 0))) ∧ Aside0 (wc.heap[g]? = some (.cells #[.string lvN, .int .i64 1, .int .i64 1, .int .i64 0, .string lvT, v5] 36 (0, 0))) ∧ Aside0 (∃ A c, v5 = .slice A lvP.length c ∧ lvP.length ≤ c ∧ k69.C wc A lvP.length lvP) ∧ Aside0 (Below w.heap.size w wc))
 case first =>
  refine region_H (fun w' : World => w'.heap[w.heap.size]? = some (.cells #[.string ⟨#[1, 97, 0]⟩, .int .i64 1, .int .i64 1] 23 (0, 0)) ∧ w'.heap[w.heap.size + 1 + 1 + 1]? = some (.cells #[.slice (some ⟨w.heap.size + 1 + 1, 0, none⟩) 1 1, .int .i64 0, .string ⟨#[]⟩, .string ⟨#[]⟩, .int .i64 0, .int .i64 0, .slice none 0 0, .int .i64 0, .int .i64 0] 31 (0, 0))) (by kernel_rfl) ?_
  have HQ0 := Aside0.mk (blk_drew HQ.out)
  have HC0 := Aside0.mk (blk_drew HC.out)
  have HW0 := Aside0.mk (below_drew1 HW.out)
  have HR0 := Aside0.mk (Kd.V_drew HR.out)
  clear HQ HC HW HR
  generalize W1.drew = W2 at HQ0 HC0 HW0 HR0 ⊢
  have hS : (fun w' : World => w'.heap[w.heap.size]? = some (.cells #[.string ⟨#[1, 97, 0]⟩, .int .i64 1, .int .i64 1] 23 (0, 0)) ∧ w'.heap[w.heap.size + 1 + 1 + 1]? = some (.cells #[.slice (some ⟨w.heap.size + 1 + 1, 0, none⟩) 1 1, .int .i64 0, .string ⟨#[]⟩, .string ⟨#[]⟩, .int .i64 0, .int .i64 0, .slice none 0 0, .int .i64 0, .int .i64 0] 31 (0, 0))) W2 := ⟨HQ0.out, HC0.out⟩
  refine wpAnyH_take (i := 0) (v := ?vp0) rfl (by kernel_rfl) (by kernel_rfl) (by kernel_rfl) (fun _ _ _ h => h) (Or.inl ⟨by rfl, ?yp0⟩) hS ?_
  case yp0 => (intro w' hSw; obtain ⟨s1, s2⟩ := hSw; have z0 := (blk_cell s1 0).trans rfl; have z1 := (blk_cell s1 1).trans rfl; have z2 := (blk_cell s1 2).trans rfl; go_simp; (first | done | with_reducible rfl))
  (try simp only [Act.put, List.setIfInBounds_toArray, List.set_cons_zero, List.set_cons_succ])
  refine wpAnyH_take (i := 1) (v := ?vp1) rfl (by kernel_rfl) (by kernel_rfl) (by kernel_rfl) (fun _ _ _ h => h) (Or.inl ⟨by rfl, ?yp1⟩) hS ?_
  case yp1 => (intro w' hSw; obtain ⟨s1, s2⟩ := hSw; have z0 := (blk_cell s2 0).trans rfl; have z1 := (blk_cell s2 1).trans rfl; have z2 := (blk_cell s2 2).trans rfl; have z3 := (blk_cell s2 3).trans rfl; have z4 := (blk_cell s2 4).trans rfl; have z5 := (blk_cell s2 5).trans rfl; have z6 := (blk_cell s2 6).trans rfl; have z7 := (blk_cell s2 7).trans rfl; have z8 := (blk_cell s2 8).trans rfl; go_simp; (first | done | with_reducible rfl))
  (try simp only [Act.put, List.setIfInBounds_toArray, List.set_cons_zero, List.set_cons_succ])
  refine anyH_two 2 7 (by kernel_rfl) rfl rfl (by rfl) (by rfl) (fun K hK => ?oA) (fun K hK => ?oB)
  case oA =>
   go_simp
   go_at_call 12
   refine (wellspringlaw17_Chain.calls 20 (fun _ => True) _ _ [(⟨⟨⟨⟨#[1, 97, 0]⟩, 1, 1⟩, [⟨#[49, 49, 49, 49]⟩, ⟨#[50, 50, 50, 50]⟩], 9⟩, 5⟩ : S29)] 0 ⟨#[]⟩ ⟨#[]⟩ 0 0 (fun _ => True) _ _ [] 0 0 _ _ _ _ _ _ _ _ _ _ HR0.out (Kd.V_nil _ _ _ _ _) lv0).mono ?_
   rintro _ W3 ⟨v0, v6, rfl, ho0, ho1, hb⟩
   obtain ⟨A0, c0, rfl⟩ := Kd.N_slice ho0
   obtain ⟨A6, c6, rfl⟩ := Kd.V_slice ho1
   have HC3 := Aside0.mk (Kd.N_reads' ho0).2
   have HD3 := Aside0.mk (Kd.V_reads' ho1).2
   have HQx := Aside0.mk (blk_below HQ0.out hb)
   have HCx := Aside0.mk (blk_below HC0.out hb)
   have HWx := Aside0.mk (below_then HW0.out HW0.out.size hb)
   clear hb ho0 ho1
   refine hK.out _ _ ⟨HQx.out, HCx.out⟩ ?_
   clear hK K hS
   (try simp only [Act.put, List.setIfInBounds_toArray, List.set_cons_zero, List.set_cons_succ])
   have hS : (fun w' : World => w'.heap[w.heap.size]? = some (.cells #[.string ⟨#[1, 97, 0]⟩, .int .i64 1, .int .i64 1] 23 (0, 0)) ∧ w'.heap[w.heap.size + 1 + 1 + 1]? = some (.cells #[.slice (some ⟨w.heap.size + 1 + 1, 0, none⟩) 1 1, .int .i64 0, .string ⟨#[]⟩, .string ⟨#[]⟩, .int .i64 0, .int .i64 0, .slice none 0 0, .int .i64 0, .int .i64 0] 31 (0, 0))) W3 := ⟨HQx.out, HCx.out⟩
   refine anyH_two 3 7 (by kernel_rfl) rfl rfl (by rfl) (by rfl) (fun K hK => ?oAA) (fun K hK => ?oAB)
   case oAA =>
    go_simp
    go_at_call 11
    refine (tmpl_Make.calls 20 10 ⟨#[1, 97, 0]⟩ 1 1 _ _ [⟨⟨⟨⟨#[1, 97, 0]⟩, 1, 1⟩, [⟨#[49, 49, 49, 49]⟩, ⟨#[50, 50, 50, 50]⟩], 9⟩, 5⟩] 0 ⟨#[]⟩ ⟨#[]⟩ 0 0 _ _ [] 0 0 _ _ _ _ _ _ _ _ HC3.out.2 HC3.out.1 HD3.out.2 HD3.out.1 lv1).mono ?_
    rintro _ W5 ⟨v5, rfl, ho5, hb⟩
    obtain ⟨A5, c5, rfl⟩ := Kd.R_slice ho5
    have HR5 := Aside0.mk (Kd.R_lower ho5 HWx.out.size)
    have HQy := Aside0.mk (blk_below HQx.out hb)
    have HCy := Aside0.mk (blk_below HCx.out hb)
    have HWy := Aside0.mk (below_then HWx.out HWx.out.size hb)
    clear hb ho5
    refine hK.out _ _ ⟨HQy.out, HCy.out⟩ ?_
    clear hK K hS
    (try simp only [Act.put, List.setIfInBounds_toArray, List.set_cons_zero, List.set_cons_succ])
    have hS : (fun w' : World => w'.heap[w.heap.size]? = some (.cells #[.string ⟨#[1, 97, 0]⟩, .int .i64 1, .int .i64 1] 23 (0, 0)) ∧ w'.heap[w.heap.size + 1 + 1 + 1]? = some (.cells #[.slice (some ⟨w.heap.size + 1 + 1, 0, none⟩) 1 1, .int .i64 0, .string ⟨#[]⟩, .string ⟨#[]⟩, .int .i64 0, .int .i64 0, .slice none 0 0, .int .i64 0, .int .i64 0] 31 (0, 0))) W5 := ⟨HQy.out, HCy.out⟩
    refine wpAnyH_take (i := 4) (v := ?vqa4) rfl (by kernel_rfl) (by kernel_rfl) (by kernel_rfl) (fun _ _ _ h => h) (Or.inl ⟨by rfl, ?yqa4⟩) hS ?_
    case yqa4 => (intro w' hSw; go_simp; (first | done | with_reducible rfl))
    (try simp only [Act.put, List.setIfInBounds_toArray, List.set_cons_zero, List.set_cons_succ])
    refine wpAnyH_take (i := 5) (v := ?vqa5) rfl (by kernel_rfl) (by kernel_rfl) (by kernel_rfl) (fun _ _ _ h => h) (Or.inl ⟨by rfl, ?yqa5⟩) hS ?_
    case yqa5 => (intro w' hSw; go_simp; (first | done | with_reducible rfl))
    (try simp only [Act.put, List.setIfInBounds_toArray, List.set_cons_zero, List.set_cons_succ])
    refine wpAnyH_take (i := 6) (v := ?vqa6) rfl (by kernel_rfl) (by kernel_rfl) (by kernel_rfl) (fun _ _ _ h => h) (Or.inl ⟨by rfl, ?yqa6⟩) hS ?_
    case yqa6 => (intro w' hSw; go_simp; (first | done | with_reducible rfl))
    (try simp only [Act.put, List.setIfInBounds_toArray, List.set_cons_zero, List.set_cons_succ])
    refine anyH_one 7 (by kernel_rfl) rfl (by rfl) (fun K hK => ?_)
    go_simp
    have HGz := Aside0.mk (heap_alloc_new W5 (.cells #[.string ⟨#[]⟩, .int .i64 0, .int .i64 0, .int .i64 0, .string ⟨#[]⟩, .slice none 0 0] 36))
    have HQz := Aside0.mk (blk_alloc HQy.out (.cells #[.string ⟨#[]⟩, .int .i64 0, .int .i64 0, .int .i64 0, .string ⟨#[]⟩, .slice none 0 0] 36))
    have HCz := Aside0.mk (blk_alloc HCy.out (.cells #[.string ⟨#[]⟩, .int .i64 0, .int .i64 0, .int .i64 0, .string ⟨#[]⟩, .slice none 0 0] 36))
    have HWz := Aside0.mk (below_alloc HWy.out (.cells #[.string ⟨#[]⟩, .int .i64 0, .int .i64 0, .int .i64 0, .string ⟨#[]⟩, .slice none 0 0] 36))
    have HGB : Aside0 (w.heap.size ≤ W5.heap.size) := ⟨HWy.out.size⟩
    have HRz := Aside0.mk (Kd.R_alloc HR5.out (.cells #[.string ⟨#[]⟩, .int .i64 0, .int .i64 0, .int .i64 0, .string ⟨#[]⟩, .slice none 0 0] 36))
    refine hK.out _ _ ⟨HQz.out, HCz.out⟩ ?_
    clear hK K hS
    (try simp only [Act.put, List.setIfInBounds_toArray, List.set_cons_zero, List.set_cons_succ])
    generalize hg : W5.heap.size = g at HGz HGB ⊢
    clear hg
    generalize W5.alloc (.cells #[.string ⟨#[]⟩, .int .i64 0, .int .i64 0, .int .i64 0, .string ⟨#[]⟩, .slice none 0 0] 36) = Wz at HGz HQz HCz HWz HRz ⊢
    have hS : (fun w' : World => w'.heap[w.heap.size]? = some (.cells #[.string ⟨#[1, 97, 0]⟩, .int .i64 1, .int .i64 1] 23 (0, 0)) ∧ w'.heap[w.heap.size + 1 + 1 + 1]? = some (.cells #[.slice (some ⟨w.heap.size + 1 + 1, 0, none⟩) 1 1, .int .i64 0, .string ⟨#[]⟩, .string ⟨#[]⟩, .int .i64 0, .int .i64 0, .slice none 0 0, .int .i64 0, .int .i64 0] 31 (0, 0))) Wz := ⟨HQz.out, HCz.out⟩
    have zr := fun j => blk_cell HGz.out j
    have fr := fun j => blk_frozen HGz.out j
    have HNE := Aside0.mk (blk_ne HQz.out HGz.out (by decide))
    refine anyH_one 8 (by kernel_rfl) rfl (by rfl) (fun K hK => ?_)
    go_simp
    have HNC := Aside0.mk (blk_ne HCz.out HGz.out (by decide))
    refine hK.out _ _ ⟨(blk_far (p := ⟨g, 5, none⟩) (blk_far (p := ⟨g, 4, none⟩) (blk_far (p := ⟨g, 3, none⟩) (blk_far (p := ⟨g, 2, none⟩) (blk_far (p := ⟨g, 1, none⟩) (blk_far (p := ⟨g, 0, none⟩) HQz.out HNE.out (.string lvN)) HNE.out (.int .i64 1)) HNE.out (.int .i64 1)) HNE.out (.int .i64 0)) HNE.out (.string lvT)) HNE.out (.slice A5 lvP.length c5)), (blk_far (p := ⟨g, 5, none⟩) (blk_far (p := ⟨g, 4, none⟩) (blk_far (p := ⟨g, 3, none⟩) (blk_far (p := ⟨g, 2, none⟩) (blk_far (p := ⟨g, 1, none⟩) (blk_far (p := ⟨g, 0, none⟩) HCz.out HNC.out (.string lvN)) HNC.out (.int .i64 1)) HNC.out (.int .i64 1)) HNC.out (.int .i64 0)) HNC.out (.string lvT)) HNC.out (.slice A5 lvP.length c5))⟩ ?_
    clear hK K
    (try simp only [Act.put, List.setIfInBounds_toArray, List.set_cons_zero, List.set_cons_succ])
    refine anyH_one 9 (by kernel_rfl) rfl (by rfl) (fun K hK => ?_)
    go_simp
    refine hK.out _ _ ⟨(blk_far (p := ⟨g, 5, none⟩) (blk_far (p := ⟨g, 4, none⟩) (blk_far (p := ⟨g, 3, none⟩) (blk_far (p := ⟨g, 2, none⟩) (blk_far (p := ⟨g, 1, none⟩) (blk_far (p := ⟨g, 0, none⟩) HQz.out HNE.out (.string lvN)) HNE.out (.int .i64 1)) HNE.out (.int .i64 1)) HNE.out (.int .i64 0)) HNE.out (.string lvT)) HNE.out (.slice A5 lvP.length c5)), (blk_far (p := ⟨g, 5, none⟩) (blk_far (p := ⟨g, 4, none⟩) (blk_far (p := ⟨g, 3, none⟩) (blk_far (p := ⟨g, 2, none⟩) (blk_far (p := ⟨g, 1, none⟩) (blk_far (p := ⟨g, 0, none⟩) HCz.out HNC.out (.string lvN)) HNC.out (.int .i64 1)) HNC.out (.int .i64 1)) HNC.out (.int .i64 0)) HNC.out (.string lvT)) HNC.out (.slice A5 lvP.length c5))⟩ ?_
    clear hK K
    (try simp only [Act.put, List.setIfInBounds_toArray, List.set_cons_zero, List.set_cons_succ])
    refine wpAnyH_done (by kernel_rfl) ?_ _
    clear zr fr hS
    go_wp2_with fail
    go_meet
    case rel => exact ⟨g, _, rfl, rfl, ⟨(blk_far (p := ⟨g, 5, none⟩) (blk_far (p := ⟨g, 4, none⟩) (blk_far (p := ⟨g, 3, none⟩) (blk_far (p := ⟨g, 2, none⟩) (blk_far (p := ⟨g, 1, none⟩) (blk_far (p := ⟨g, 0, none⟩) HQz.out HNE.out (.string lvN)) HNE.out (.int .i64 1)) HNE.out (.int .i64 1)) HNE.out (.int .i64 0)) HNE.out (.string lvT)) HNE.out (.slice A5 lvP.length c5))⟩, ⟨(blk_put (blk_put (blk_put (blk_put (blk_put (blk_put HGz.out 0 (.string lvN) rfl) 1 (.int .i64 1) rfl) 2 (.int .i64 1) rfl) 3 (.int .i64 0) rfl) 4 (.string lvT) rfl) 5 (.slice A5 lvP.length c5) rfl)⟩, ⟨_, _, rfl, (Kd.R_reads' (Kd.R_set (Kd.R_set (Kd.R_set (Kd.R_set (Kd.R_set (Kd.R_set HRz.out HGz.out (by decide) 0 (.string lvN)) (blk_put HGz.out 0 (.string lvN) rfl) (by decide) 1 (.int .i64 1)) (blk_put (blk_put HGz.out 0 (.string lvN) rfl) 1 (.int .i64 1) rfl) (by decide) 2 (.int .i64 1)) (blk_put (blk_put (blk_put HGz.out 0 (.string lvN) rfl) 1 (.int .i64 1) rfl) 2 (.int .i64 1) rfl) (by decide) 3 (.int .i64 0)) (blk_put (blk_put (blk_put (blk_put HGz.out 0 (.string lvN) rfl) 1 (.int .i64 1) rfl) 2 (.int .i64 1) rfl) 3 (.int .i64 0) rfl) (by decide) 4 (.string lvT)) (blk_put (blk_put (blk_put (blk_put (blk_put HGz.out 0 (.string lvN) rfl) 1 (.int .i64 1) rfl) 2 (.int .i64 1) rfl) 3 (.int .i64 0) rfl) 4 (.string lvT) rfl) (by decide) 5 (.slice A5 lvP.length c5))).2⟩, ⟨(Below.setCell (Below.setCell (Below.setCell (Below.setCell (Below.setCell (Below.setCell HWz.out (p := ⟨g, 0, none⟩) HGB.out (.string lvN)) (p := ⟨g, 1, none⟩) HGB.out (.int .i64 1)) (p := ⟨g, 2, none⟩) HGB.out (.int .i64 1)) (p := ⟨g, 3, none⟩) HGB.out (.int .i64 0)) (p := ⟨g, 4, none⟩) HGB.out (.string lvT)) (p := ⟨g, 5, none⟩) HGB.out (.slice A5 lvP.length c5))⟩⟩
   case oAB =>
    go_simp
    have HGz := Aside0.mk (heap_alloc_new W3 (.cells #[.string ⟨#[]⟩, .int .i64 0, .int .i64 0, .int .i64 0, .string ⟨#[]⟩, .slice none 0 0] 36))
    have HQz := Aside0.mk (blk_alloc HQx.out (.cells #[.string ⟨#[]⟩, .int .i64 0, .int .i64 0, .int .i64 0, .string ⟨#[]⟩, .slice none 0 0] 36))
    have HCz := Aside0.mk (blk_alloc HCx.out (.cells #[.string ⟨#[]⟩, .int .i64 0, .int .i64 0, .int .i64 0, .string ⟨#[]⟩, .slice none 0 0] 36))
    have HWz := Aside0.mk (below_alloc HWx.out (.cells #[.string ⟨#[]⟩, .int .i64 0, .int .i64 0, .int .i64 0, .string ⟨#[]⟩, .slice none 0 0] 36))
    have HGB : Aside0 (w.heap.size ≤ W3.heap.size) := ⟨HWx.out.size⟩
    have HC3z := Aside0.mk (Kd.C_alloc HC3.out.2 (.cells #[.string ⟨#[]⟩, .int .i64 0, .int .i64 0, .int .i64 0, .string ⟨#[]⟩, .slice none 0 0] 36))
    have HD3z := Aside0.mk (Kd.C_alloc HD3.out.2 (.cells #[.string ⟨#[]⟩, .int .i64 0, .int .i64 0, .int .i64 0, .string ⟨#[]⟩, .slice none 0 0] 36))
    refine hK.out _ _ ⟨HQz.out, HCz.out⟩ ?_
    clear hK K hS
    (try simp only [Act.put, List.setIfInBounds_toArray, List.set_cons_zero, List.set_cons_succ])
    generalize hg : W3.heap.size = g at HGz HGB ⊢
    clear hg
    generalize W3.alloc (.cells #[.string ⟨#[]⟩, .int .i64 0, .int .i64 0, .int .i64 0, .string ⟨#[]⟩, .slice none 0 0] 36) = Wz at HGz HQz HCz HWz HC3z HD3z ⊢
    have hS : (fun w' : World => w'.heap[w.heap.size]? = some (.cells #[.string ⟨#[1, 97, 0]⟩, .int .i64 1, .int .i64 1] 23 (0, 0)) ∧ w'.heap[w.heap.size + 1 + 1 + 1]? = some (.cells #[.slice (some ⟨w.heap.size + 1 + 1, 0, none⟩) 1 1, .int .i64 0, .string ⟨#[]⟩, .string ⟨#[]⟩, .int .i64 0, .int .i64 0, .slice none 0 0, .int .i64 0, .int .i64 0] 31 (0, 0))) Wz := ⟨HQz.out, HCz.out⟩
    refine anyH_one 3 (by kernel_rfl) rfl (by rfl) (fun K hK => ?_)
    go_simp
    go_at_call 11
    refine (tmpl_Make.calls 20 10 ⟨#[1, 97, 0]⟩ 1 1 _ _ [⟨⟨⟨⟨#[1, 97, 0]⟩, 1, 1⟩, [⟨#[49, 49, 49, 49]⟩, ⟨#[50, 50, 50, 50]⟩], 9⟩, 5⟩] 0 ⟨#[]⟩ ⟨#[]⟩ 0 0 _ _ [] 0 0 _ _ _ _ _ _ _ _ HC3z.out HC3.out.1 HD3z.out HD3.out.1 lv1).mono ?_
    rintro _ W5 ⟨v5, rfl, ho5, hb⟩
    obtain ⟨A5, c5, rfl⟩ := Kd.R_slice ho5
    have HR5 := Aside0.mk (Kd.R_lower ho5 HWz.out.size)
    have HQw := Aside0.mk (blk_below HQz.out hb)
    have HCw := Aside0.mk (blk_below HCz.out hb)
    have HWw := Aside0.mk (below_then HWz.out HWz.out.size hb)
    have HGw := Aside0.mk (blk_below HGz.out hb)
    clear hb ho5 HQz HCz HWz HGz
    have HQz := HQw
    have HCz := HCw
    have HWz := HWw
    have HGz := HGw
    have HRz := HR5
    refine hK.out _ _ ⟨HQz.out, HCz.out⟩ ?_
    clear hK K hS
    (try simp only [Act.put, List.setIfInBounds_toArray, List.set_cons_zero, List.set_cons_succ])
    have hS : (fun w' : World => w'.heap[w.heap.size]? = some (.cells #[.string ⟨#[1, 97, 0]⟩, .int .i64 1, .int .i64 1] 23 (0, 0)) ∧ w'.heap[w.heap.size + 1 + 1 + 1]? = some (.cells #[.slice (some ⟨w.heap.size + 1 + 1, 0, none⟩) 1 1, .int .i64 0, .string ⟨#[]⟩, .string ⟨#[]⟩, .int .i64 0, .int .i64 0, .slice none 0 0, .int .i64 0, .int .i64 0] 31 (0, 0))) W5 := ⟨HQz.out, HCz.out⟩
    refine wpAnyH_take (i := 4) (v := ?vqb4) rfl (by kernel_rfl) (by kernel_rfl) (by kernel_rfl) (fun _ _ _ h => h) (Or.inl ⟨by rfl, ?yqb4⟩) hS ?_
    case yqb4 => (intro w' hSw; go_simp; (first | done | with_reducible rfl))
    (try simp only [Act.put, List.setIfInBounds_toArray, List.set_cons_zero, List.set_cons_succ])
    refine wpAnyH_take (i := 5) (v := ?vqb5) rfl (by kernel_rfl) (by kernel_rfl) (by kernel_rfl) (fun _ _ _ h => h) (Or.inl ⟨by rfl, ?yqb5⟩) hS ?_
    case yqb5 => (intro w' hSw; go_simp; (first | done | with_reducible rfl))
    (try simp only [Act.put, List.setIfInBounds_toArray, List.set_cons_zero, List.set_cons_succ])
    refine wpAnyH_take (i := 6) (v := ?vqb6) rfl (by kernel_rfl) (by kernel_rfl) (by kernel_rfl) (fun _ _ _ h => h) (Or.inl ⟨by rfl, ?yqb6⟩) hS ?_
    case yqb6 => (intro w' hSw; go_simp; (first | done | with_reducible rfl))
    (try simp only [Act.put, List.setIfInBounds_toArray, List.set_cons_zero, List.set_cons_succ])
    have zr := fun j => blk_cell HGz.out j
    have fr := fun j => blk_frozen HGz.out j
    have HNE := Aside0.mk (blk_ne HQz.out HGz.out (by decide))
    refine anyH_one 8 (by kernel_rfl) rfl (by rfl) (fun K hK => ?_)
    go_simp
    have HNC := Aside0.mk (blk_ne HCz.out HGz.out (by decide))
    refine hK.out _ _ ⟨(blk_far (p := ⟨g, 5, none⟩) (blk_far (p := ⟨g, 4, none⟩) (blk_far (p := ⟨g, 3, none⟩) (blk_far (p := ⟨g, 2, none⟩) (blk_far (p := ⟨g, 1, none⟩) (blk_far (p := ⟨g, 0, none⟩) HQz.out HNE.out (.string lvN)) HNE.out (.int .i64 1)) HNE.out (.int .i64 1)) HNE.out (.int .i64 0)) HNE.out (.string lvT)) HNE.out (.slice A5 lvP.length c5)), (blk_far (p := ⟨g, 5, none⟩) (blk_far (p := ⟨g, 4, none⟩) (blk_far (p := ⟨g, 3, none⟩) (blk_far (p := ⟨g, 2, none⟩) (blk_far (p := ⟨g, 1, none⟩) (blk_far (p := ⟨g, 0, none⟩) HCz.out HNC.out (.string lvN)) HNC.out (.int .i64 1)) HNC.out (.int .i64 1)) HNC.out (.int .i64 0)) HNC.out (.string lvT)) HNC.out (.slice A5 lvP.length c5))⟩ ?_
    clear hK K
    (try simp only [Act.put, List.setIfInBounds_toArray, List.set_cons_zero, List.set_cons_succ])
    refine anyH_one 9 (by kernel_rfl) rfl (by rfl) (fun K hK => ?_)
    go_simp
    refine hK.out _ _ ⟨(blk_far (p := ⟨g, 5, none⟩) (blk_far (p := ⟨g, 4, none⟩) (blk_far (p := ⟨g, 3, none⟩) (blk_far (p := ⟨g, 2, none⟩) (blk_far (p := ⟨g, 1, none⟩) (blk_far (p := ⟨g, 0, none⟩) HQz.out HNE.out (.string lvN)) HNE.out (.int .i64 1)) HNE.out (.int .i64 1)) HNE.out (.int .i64 0)) HNE.out (.string lvT)) HNE.out (.slice A5 lvP.length c5)), (blk_far (p := ⟨g, 5, none⟩) (blk_far (p := ⟨g, 4, none⟩) (blk_far (p := ⟨g, 3, none⟩) (blk_far (p := ⟨g, 2, none⟩) (blk_far (p := ⟨g, 1, none⟩) (blk_far (p := ⟨g, 0, none⟩) HCz.out HNC.out (.string lvN)) HNC.out (.int .i64 1)) HNC.out (.int .i64 1)) HNC.out (.int .i64 0)) HNC.out (.string lvT)) HNC.out (.slice A5 lvP.length c5))⟩ ?_
    clear hK K
    (try simp only [Act.put, List.setIfInBounds_toArray, List.set_cons_zero, List.set_cons_succ])
    refine wpAnyH_done (by kernel_rfl) ?_ _
    clear zr fr hS
    go_wp2_with fail
    go_meet
    case rel => exact ⟨g, _, rfl, rfl, ⟨(blk_far (p := ⟨g, 5, none⟩) (blk_far (p := ⟨g, 4, none⟩) (blk_far (p := ⟨g, 3, none⟩) (blk_far (p := ⟨g, 2, none⟩) (blk_far (p := ⟨g, 1, none⟩) (blk_far (p := ⟨g, 0, none⟩) HQz.out HNE.out (.string lvN)) HNE.out (.int .i64 1)) HNE.out (.int .i64 1)) HNE.out (.int .i64 0)) HNE.out (.string lvT)) HNE.out (.slice A5 lvP.length c5))⟩, ⟨(blk_put (blk_put (blk_put (blk_put (blk_put (blk_put HGz.out 0 (.string lvN) rfl) 1 (.int .i64 1) rfl) 2 (.int .i64 1) rfl) 3 (.int .i64 0) rfl) 4 (.string lvT) rfl) 5 (.slice A5 lvP.length c5) rfl)⟩, ⟨_, _, rfl, (Kd.R_reads' (Kd.R_set (Kd.R_set (Kd.R_set (Kd.R_set (Kd.R_set (Kd.R_set HRz.out HGz.out (by decide) 0 (.string lvN)) (blk_put HGz.out 0 (.string lvN) rfl) (by decide) 1 (.int .i64 1)) (blk_put (blk_put HGz.out 0 (.string lvN) rfl) 1 (.int .i64 1) rfl) (by decide) 2 (.int .i64 1)) (blk_put (blk_put (blk_put HGz.out 0 (.string lvN) rfl) 1 (.int .i64 1) rfl) 2 (.int .i64 1) rfl) (by decide) 3 (.int .i64 0)) (blk_put (blk_put (blk_put (blk_put HGz.out 0 (.string lvN) rfl) 1 (.int .i64 1) rfl) 2 (.int .i64 1) rfl) 3 (.int .i64 0) rfl) (by decide) 4 (.string lvT)) (blk_put (blk_put (blk_put (blk_put (blk_put HGz.out 0 (.string lvN) rfl) 1 (.int .i64 1) rfl) 2 (.int .i64 1) rfl) 3 (.int .i64 0) rfl) 4 (.string lvT) rfl) (by decide) 5 (.slice A5 lvP.length c5))).2⟩, ⟨(Below.setCell (Below.setCell (Below.setCell (Below.setCell (Below.setCell (Below.setCell HWz.out (p := ⟨g, 0, none⟩) HGB.out (.string lvN)) (p := ⟨g, 1, none⟩) HGB.out (.int .i64 1)) (p := ⟨g, 2, none⟩) HGB.out (.int .i64 1)) (p := ⟨g, 3, none⟩) HGB.out (.int .i64 0)) (p := ⟨g, 4, none⟩) HGB.out (.string lvT)) (p := ⟨g, 5, none⟩) HGB.out (.slice A5 lvP.length c5))⟩⟩
  case oB =>
   go_simp
   have HGz := Aside0.mk (heap_alloc_new W2 (.cells #[.string ⟨#[]⟩, .int .i64 0, .int .i64 0, .int .i64 0, .string ⟨#[]⟩, .slice none 0 0] 36))
   have HQz := Aside0.mk (blk_alloc HQ0.out (.cells #[.string ⟨#[]⟩, .int .i64 0, .int .i64 0, .int .i64 0, .string ⟨#[]⟩, .slice none 0 0] 36))
   have HCz := Aside0.mk (blk_alloc HC0.out (.cells #[.string ⟨#[]⟩, .int .i64 0, .int .i64 0, .int .i64 0, .string ⟨#[]⟩, .slice none 0 0] 36))
   have HWz := Aside0.mk (below_alloc HW0.out (.cells #[.string ⟨#[]⟩, .int .i64 0, .int .i64 0, .int .i64 0, .string ⟨#[]⟩, .slice none 0 0] 36))
   have HGB : Aside0 (w.heap.size ≤ W2.heap.size) := ⟨HW0.out.size⟩
   have HR0z := Aside0.mk (Kd.V_alloc HR0.out (.cells #[.string ⟨#[]⟩, .int .i64 0, .int .i64 0, .int .i64 0, .string ⟨#[]⟩, .slice none 0 0] 36))
   refine hK.out _ _ ⟨HQz.out, HCz.out⟩ ?_
   clear hK K hS
   (try simp only [Act.put, List.setIfInBounds_toArray, List.set_cons_zero, List.set_cons_succ])
   generalize hg : W2.heap.size = g at HGz HGB ⊢
   clear hg
   generalize W2.alloc (.cells #[.string ⟨#[]⟩, .int .i64 0, .int .i64 0, .int .i64 0, .string ⟨#[]⟩, .slice none 0 0] 36) = Wz at HGz HQz HCz HWz HR0z ⊢
   have hS : (fun w' : World => w'.heap[w.heap.size]? = some (.cells #[.string ⟨#[1, 97, 0]⟩, .int .i64 1, .int .i64 1] 23 (0, 0)) ∧ w'.heap[w.heap.size + 1 + 1 + 1]? = some (.cells #[.slice (some ⟨w.heap.size + 1 + 1, 0, none⟩) 1 1, .int .i64 0, .string ⟨#[]⟩, .string ⟨#[]⟩, .int .i64 0, .int .i64 0, .slice none 0 0, .int .i64 0, .int .i64 0] 31 (0, 0))) Wz := ⟨HQz.out, HCz.out⟩
   refine anyH_one 2 (by kernel_rfl) rfl (by rfl) (fun K hK => ?_)
   go_simp
   go_at_call 12
   refine (wellspringlaw17_Chain.calls 20 (fun _ => True) _ _ [(⟨⟨⟨⟨#[1, 97, 0]⟩, 1, 1⟩, [⟨#[49, 49, 49, 49]⟩, ⟨#[50, 50, 50, 50]⟩], 9⟩, 5⟩ : S29)] 0 ⟨#[]⟩ ⟨#[]⟩ 0 0 (fun _ => True) _ _ [] 0 0 _ _ _ _ _ _ _ _ _ _ HR0z.out (Kd.V_nil _ _ _ _ _) lv0).mono ?_
   rintro _ W3 ⟨v0, v6, rfl, ho0, ho1, hb⟩
   obtain ⟨A0, c0, rfl⟩ := Kd.N_slice ho0
   obtain ⟨A6, c6, rfl⟩ := Kd.V_slice ho1
   have HC3 := Aside0.mk (Kd.N_reads' ho0).2
   have HD3 := Aside0.mk (Kd.V_reads' ho1).2
   have HQw := Aside0.mk (blk_below HQz.out hb)
   have HCw := Aside0.mk (blk_below HCz.out hb)
   have HWw := Aside0.mk (below_then HWz.out HWz.out.size hb)
   have HGw := Aside0.mk (blk_below HGz.out hb)
   clear hb ho0 ho1 HQz HCz HWz HGz
   have HQz := HQw
   have HCz := HCw
   have HWz := HWw
   have HGz := HGw
   refine hK.out _ _ ⟨HQz.out, HCz.out⟩ ?_
   clear hK K hS
   (try simp only [Act.put, List.setIfInBounds_toArray, List.set_cons_zero, List.set_cons_succ])
   have hS : (fun w' : World => w'.heap[w.heap.size]? = some (.cells #[.string ⟨#[1, 97, 0]⟩, .int .i64 1, .int .i64 1] 23 (0, 0)) ∧ w'.heap[w.heap.size + 1 + 1 + 1]? = some (.cells #[.slice (some ⟨w.heap.size + 1 + 1, 0, none⟩) 1 1, .int .i64 0, .string ⟨#[]⟩, .string ⟨#[]⟩, .int .i64 0, .int .i64 0, .slice none 0 0, .int .i64 0, .int .i64 0] 31 (0, 0))) W3 := ⟨HQz.out, HCz.out⟩
   clear HQw HCw HWw HGw
   refine anyH_one 3 (by kernel_rfl) rfl (by rfl) (fun K hK => ?_)
   go_simp
   go_at_call 11
   refine (tmpl_Make.calls 20 10 ⟨#[1, 97, 0]⟩ 1 1 _ _ [⟨⟨⟨⟨#[1, 97, 0]⟩, 1, 1⟩, [⟨#[49, 49, 49, 49]⟩, ⟨#[50, 50, 50, 50]⟩], 9⟩, 5⟩] 0 ⟨#[]⟩ ⟨#[]⟩ 0 0 _ _ [] 0 0 _ _ _ _ _ _ _ _ HC3.out.2 HC3.out.1 HD3.out.2 HD3.out.1 lv1).mono ?_
   rintro _ W5 ⟨v5, rfl, ho5, hb⟩
   obtain ⟨A5, c5, rfl⟩ := Kd.R_slice ho5
   have HR5 := Aside0.mk (Kd.R_lower ho5 HWz.out.size)
   have HQw := Aside0.mk (blk_below HQz.out hb)
   have HCw := Aside0.mk (blk_below HCz.out hb)
   have HWw := Aside0.mk (below_then HWz.out HWz.out.size hb)
   have HGw := Aside0.mk (blk_below HGz.out hb)
   clear hb ho5 HQz HCz HWz HGz
   have HQz := HQw
   have HCz := HCw
   have HWz := HWw
   have HGz := HGw
   have HRz := HR5
   refine hK.out _ _ ⟨HQz.out, HCz.out⟩ ?_
   clear hK K hS
   (try simp only [Act.put, List.setIfInBounds_toArray, List.set_cons_zero, List.set_cons_succ])
   have hS : (fun w' : World => w'.heap[w.heap.size]? = some (.cells #[.string ⟨#[1, 97, 0]⟩, .int .i64 1, .int .i64 1] 23 (0, 0)) ∧ w'.heap[w.heap.size + 1 + 1 + 1]? = some (.cells #[.slice (some ⟨w.heap.size + 1 + 1, 0, none⟩) 1 1, .int .i64 0, .string ⟨#[]⟩, .string ⟨#[]⟩, .int .i64 0, .int .i64 0, .slice none 0 0, .int .i64 0, .int .i64 0] 31 (0, 0))) W5 := ⟨HQz.out, HCz.out⟩
   refine wpAnyH_take (i := 4) (v := ?vqc4) rfl (by kernel_rfl) (by kernel_rfl) (by kernel_rfl) (fun _ _ _ h => h) (Or.inl ⟨by rfl, ?yqc4⟩) hS ?_
   case yqc4 => (intro w' hSw; go_simp; (first | done | with_reducible rfl))
   (try simp only [Act.put, List.setIfInBounds_toArray, List.set_cons_zero, List.set_cons_succ])
   refine wpAnyH_take (i := 5) (v := ?vqc5) rfl (by kernel_rfl) (by kernel_rfl) (by kernel_rfl) (fun _ _ _ h => h) (Or.inl ⟨by rfl, ?yqc5⟩) hS ?_
   case yqc5 => (intro w' hSw; go_simp; (first | done | with_reducible rfl))
   (try simp only [Act.put, List.setIfInBounds_toArray, List.set_cons_zero, List.set_cons_succ])
   refine wpAnyH_take (i := 6) (v := ?vqc6) rfl (by kernel_rfl) (by kernel_rfl) (by kernel_rfl) (fun _ _ _ h => h) (Or.inl ⟨by rfl, ?yqc6⟩) hS ?_
   case yqc6 => (intro w' hSw; go_simp; (first | done | with_reducible rfl))
   (try simp only [Act.put, List.setIfInBounds_toArray, List.set_cons_zero, List.set_cons_succ])
   have zr := fun j => blk_cell HGz.out j
   have fr := fun j => blk_frozen HGz.out j
   have HNE := Aside0.mk (blk_ne HQz.out HGz.out (by decide))
   refine anyH_one 8 (by kernel_rfl) rfl (by rfl) (fun K hK => ?_)
   go_simp
   have HNC := Aside0.mk (blk_ne HCz.out HGz.out (by decide))
   refine hK.out _ _ ⟨(blk_far (p := ⟨g, 5, none⟩) (blk_far (p := ⟨g, 4, none⟩) (blk_far (p := ⟨g, 3, none⟩) (blk_far (p := ⟨g, 2, none⟩) (blk_far (p := ⟨g, 1, none⟩) (blk_far (p := ⟨g, 0, none⟩) HQz.out HNE.out (.string lvN)) HNE.out (.int .i64 1)) HNE.out (.int .i64 1)) HNE.out (.int .i64 0)) HNE.out (.string lvT)) HNE.out (.slice A5 lvP.length c5)), (blk_far (p := ⟨g, 5, none⟩) (blk_far (p := ⟨g, 4, none⟩) (blk_far (p := ⟨g, 3, none⟩) (blk_far (p := ⟨g, 2, none⟩) (blk_far (p := ⟨g, 1, none⟩) (blk_far (p := ⟨g, 0, none⟩) HCz.out HNC.out (.string lvN)) HNC.out (.int .i64 1)) HNC.out (.int .i64 1)) HNC.out (.int .i64 0)) HNC.out (.string lvT)) HNC.out (.slice A5 lvP.length c5))⟩ ?_
   clear hK K
   (try simp only [Act.put, List.setIfInBounds_toArray, List.set_cons_zero, List.set_cons_succ])
   refine anyH_one 9 (by kernel_rfl) rfl (by rfl) (fun K hK => ?_)
   go_simp
   refine hK.out _ _ ⟨(blk_far (p := ⟨g, 5, none⟩) (blk_far (p := ⟨g, 4, none⟩) (blk_far (p := ⟨g, 3, none⟩) (blk_far (p := ⟨g, 2, none⟩) (blk_far (p := ⟨g, 1, none⟩) (blk_far (p := ⟨g, 0, none⟩) HQz.out HNE.out (.string lvN)) HNE.out (.int .i64 1)) HNE.out (.int .i64 1)) HNE.out (.int .i64 0)) HNE.out (.string lvT)) HNE.out (.slice A5 lvP.length c5)), (blk_far (p := ⟨g, 5, none⟩) (blk_far (p := ⟨g, 4, none⟩) (blk_far (p := ⟨g, 3, none⟩) (blk_far (p := ⟨g, 2, none⟩) (blk_far (p := ⟨g, 1, none⟩) (blk_far (p := ⟨g, 0, none⟩) HCz.out HNC.out (.string lvN)) HNC.out (.int .i64 1)) HNC.out (.int .i64 1)) HNC.out (.int .i64 0)) HNC.out (.string lvT)) HNC.out (.slice A5 lvP.length c5))⟩ ?_
   clear hK K
   (try simp only [Act.put, List.setIfInBounds_toArray, List.set_cons_zero, List.set_cons_succ])
   refine wpAnyH_done (by kernel_rfl) ?_ _
   clear zr fr hS
   go_wp2_with fail
   go_meet
   case rel => exact ⟨g, _, rfl, rfl, ⟨(blk_far (p := ⟨g, 5, none⟩) (blk_far (p := ⟨g, 4, none⟩) (blk_far (p := ⟨g, 3, none⟩) (blk_far (p := ⟨g, 2, none⟩) (blk_far (p := ⟨g, 1, none⟩) (blk_far (p := ⟨g, 0, none⟩) HQz.out HNE.out (.string lvN)) HNE.out (.int .i64 1)) HNE.out (.int .i64 1)) HNE.out (.int .i64 0)) HNE.out (.string lvT)) HNE.out (.slice A5 lvP.length c5))⟩, ⟨(blk_put (blk_put (blk_put (blk_put (blk_put (blk_put HGz.out 0 (.string lvN) rfl) 1 (.int .i64 1) rfl) 2 (.int .i64 1) rfl) 3 (.int .i64 0) rfl) 4 (.string lvT) rfl) 5 (.slice A5 lvP.length c5) rfl)⟩, ⟨_, _, rfl, (Kd.R_reads' (Kd.R_set (Kd.R_set (Kd.R_set (Kd.R_set (Kd.R_set (Kd.R_set HRz.out HGz.out (by decide) 0 (.string lvN)) (blk_put HGz.out 0 (.string lvN) rfl) (by decide) 1 (.int .i64 1)) (blk_put (blk_put HGz.out 0 (.string lvN) rfl) 1 (.int .i64 1) rfl) (by decide) 2 (.int .i64 1)) (blk_put (blk_put (blk_put HGz.out 0 (.string lvN) rfl) 1 (.int .i64 1) rfl) 2 (.int .i64 1) rfl) (by decide) 3 (.int .i64 0)) (blk_put (blk_put (blk_put (blk_put HGz.out 0 (.string lvN) rfl) 1 (.int .i64 1) rfl) 2 (.int .i64 1) rfl) 3 (.int .i64 0) rfl) (by decide) 4 (.string lvT)) (blk_put (blk_put (blk_put (blk_put (blk_put HGz.out 0 (.string lvN) rfl) 1 (.int .i64 1) rfl) 2 (.int .i64 1) rfl) 3 (.int .i64 0) rfl) 4 (.string lvT) rfl) (by decide) 5 (.slice A5 lvP.length c5))).2⟩, ⟨(Below.setCell (Below.setCell (Below.setCell (Below.setCell (Below.setCell (Below.setCell HWz.out (p := ⟨g, 0, none⟩) HGB.out (.string lvN)) (p := ⟨g, 1, none⟩) HGB.out (.int .i64 1)) (p := ⟨g, 2, none⟩) HGB.out (.int .i64 1)) (p := ⟨g, 3, none⟩) HGB.out (.int .i64 0)) (p := ⟨g, 4, none⟩) HGB.out (.string lvT)) (p := ⟨g, 5, none⟩) HGB.out (.slice A5 lvP.length c5))⟩⟩
 case rest =>
  obtain ⟨g, v5, rfl, rfl, HQ, HT, ⟨⟨A5, c5, rfl, hl5, hp5⟩⟩, HW⟩ := hcut
  have HP := Aside0.mk hp5
  have HL := Aside0.mk hl5
  clear hp5 hl5
  go_wp2_with fail
  go_cut [6] (fun v6 wd => v6 = .bool false ∧ Aside0 (wd.heap[g]? = some (.cells #[.string lvN, .int .i64 1, .int .i64 1, .int .i64 0, .string lvT, .slice A5 lvP.length c5] 36 (0, 0))) ∧ Aside0 (k69.C wd A5 lvP.length lvP) ∧ Aside0 (Below w.heap.size w wd))
  case first =>
   refine region_H (fun w' : World => w'.heap[w.heap.size]? = some (.cells #[.string ⟨#[1, 97, 0]⟩, .int .i64 1, .int .i64 1] 23 (0, 0))) (by kernel_rfl) ?_
   have HQ0 := Aside0.mk (blk_drew HQ.out)
   have HW0 := Aside0.mk (below_drew (Below.refl wc.heap.size wc))
   clear HQ
   generalize wc.drew = W2 at HQ0 HW0 ⊢
   have hS : (fun w' : World => w'.heap[w.heap.size]? = some (.cells #[.string ⟨#[1, 97, 0]⟩, .int .i64 1, .int .i64 1] 23 (0, 0))) W2 := HQ0.out
   refine wpAnyH_take (i := 0) (v := ?vr0) rfl (by kernel_rfl) (by kernel_rfl) (by kernel_rfl) (fun _ _ _ h => h) (Or.inl ⟨by rfl, ?yr0⟩) hS ?_
   case yr0 => (intro w' hSw; have z0 := (blk_cell hSw 0).trans rfl; have z1 := (blk_cell hSw 1).trans rfl; have z2 := (blk_cell hSw 2).trans rfl; go_simp; (first | done | with_reducible rfl))
   (try simp only [Act.put, List.setIfInBounds_toArray, List.set_cons_zero, List.set_cons_succ])
   refine wpAnyH_take (i := 1) (v := ?vr1) rfl (by kernel_rfl) (by kernel_rfl) (by kernel_rfl) (fun _ _ _ h => h) (Or.inl ⟨by rfl, ?yr1⟩) hS ?_
   case yr1 => (intro w' hSw; go_simp; (first | done | with_reducible rfl))
   (try simp only [Act.put, List.setIfInBounds_toArray, List.set_cons_zero, List.set_cons_succ])
   refine anyH_two 2 7 (by kernel_rfl) rfl rfl (by rfl) (by rfl) (fun K hK => ?pA) (fun K hK => ?pB)
   case pA =>
    go_simp
    go_at_call 12
    refine (wellspringlaw17_Chain.calls 20 (fun _ => True) _ _ [] 3 ⟨#[]⟩ ⟨#[]⟩ 0 0 (fun _ => True) _ _ [] 0 0 _ _ _ _ _ _ _ _ _ _ (Kd.V_nil _ _ _ _ _) (Kd.V_nil _ _ _ _ _) lv0b).mono ?_
    rintro _ W3 ⟨v0, v6, rfl, ho0, ho1, hb⟩
    obtain ⟨A0, c0, rfl⟩ := Kd.N_slice ho0
    obtain ⟨A6, c6, rfl⟩ := Kd.V_slice ho1
    have HC3 := Aside0.mk (Kd.N_reads' ho0).2
    have HD3 := Aside0.mk (Kd.V_reads' ho1).2
    replace HQ0 := Aside0.mk (blk_below HQ0.out hb)
    replace HW0 := Aside0.mk (below_then HW0.out HW0.out.size hb)
    clear hb
    refine hK.out _ _ HQ0.out ?_
    clear hK K hS
    (try simp only [Act.put, List.setIfInBounds_toArray, List.set_cons_zero, List.set_cons_succ])
    have hS : (fun w' : World => w'.heap[w.heap.size]? = some (.cells #[.string ⟨#[1, 97, 0]⟩, .int .i64 1, .int .i64 1] 23 (0, 0))) W3 := HQ0.out
    clear ho0 ho1
    refine anyH_two 3 7 (by kernel_rfl) rfl rfl (by rfl) (by rfl) (fun K hK => ?pAA) (fun K hK => ?pAB)
    case pAA =>
     go_simp
     go_at_call 11
     refine (tmpl_Make.calls 20 10 ⟨#[1, 97, 0]⟩ 1 1 _ _ [] 3 ⟨#[]⟩ ⟨#[]⟩ 0 0 _ _ [] 0 0 _ _ _ _ _ _ _ _ HC3.out.2 HC3.out.1 HD3.out.2 HD3.out.1 lv2).mono ?_
     rintro _ W5 ⟨v5, rfl, ho5, hb⟩
     obtain ⟨A7, c7, rfl⟩ := Kd.R_slice ho5
     replace HQ0 := Aside0.mk (blk_below HQ0.out hb)
     replace HW0 := Aside0.mk (below_then HW0.out HW0.out.size hb)
     clear hb
     refine hK.out _ _ HQ0.out ?_
     clear hK K hS
     (try simp only [Act.put, List.setIfInBounds_toArray, List.set_cons_zero, List.set_cons_succ])
     have hS : (fun w' : World => w'.heap[w.heap.size]? = some (.cells #[.string ⟨#[1, 97, 0]⟩, .int .i64 1, .int .i64 1] 23 (0, 0))) W5 := HQ0.out
     clear ho5
     refine wpAnyH_take (i := 4) (v := ?vs4) rfl (by kernel_rfl) (by kernel_rfl) (by kernel_rfl) (fun _ _ _ h => h) (Or.inl ⟨by rfl, ?ys4⟩) hS ?_
     case ys4 => (intro w' hSw; go_simp; (first | done | with_reducible rfl))
     (try simp only [Act.put, List.setIfInBounds_toArray, List.set_cons_zero, List.set_cons_succ])
     refine wpAnyH_take (i := 5) (v := ?vs5) rfl (by kernel_rfl) (by kernel_rfl) (by kernel_rfl) (fun _ _ _ h => h) (Or.inl ⟨by rfl, ?ys5⟩) hS ?_
     case ys5 => (intro w' hSw; go_simp; (first | done | with_reducible rfl))
     (try simp only [Act.put, List.setIfInBounds_toArray, List.set_cons_zero, List.set_cons_succ])
     refine wpAnyH_take (i := 6) (v := ?vs6) rfl (by kernel_rfl) (by kernel_rfl) (by kernel_rfl) (fun _ _ _ h => h) (Or.inl ⟨by rfl, ?ys6⟩) hS ?_
     case ys6 => (intro w' hSw; go_simp; (first | done | with_reducible rfl))
     (try simp only [Act.put, List.setIfInBounds_toArray, List.set_cons_zero, List.set_cons_succ])
     refine anyH_one 7 (by kernel_rfl) rfl (by rfl) (fun K hK => ?_)
     go_simp
     have HGz := Aside0.mk (heap_alloc_new W5 (.cells #[.string ⟨#[]⟩, .int .i64 0, .int .i64 0, .int .i64 0, .string ⟨#[]⟩, .slice none 0 0] 36))
     replace HQ0 := Aside0.mk (blk_alloc HQ0.out (.cells #[.string ⟨#[]⟩, .int .i64 0, .int .i64 0, .int .i64 0, .string ⟨#[]⟩, .slice none 0 0] 36))
     have HGB : Aside0 (wc.heap.size ≤ W5.heap.size) := ⟨HW0.out.size⟩
     replace HW0 := Aside0.mk (below_alloc HW0.out (.cells #[.string ⟨#[]⟩, .int .i64 0, .int .i64 0, .int .i64 0, .string ⟨#[]⟩, .slice none 0 0] 36))
     refine hK.out _ _ HQ0.out ?_
     clear hK K hS
     (try simp only [Act.put, List.setIfInBounds_toArray, List.set_cons_zero, List.set_cons_succ])
     generalize hg : W5.heap.size = g2 at HGz HGB ⊢
     clear hg
     generalize W5.alloc (.cells #[.string ⟨#[]⟩, .int .i64 0, .int .i64 0, .int .i64 0, .string ⟨#[]⟩, .slice none 0 0] 36) = Wz at HGz HQ0 HW0  ⊢
     have hS : (fun w' : World => w'.heap[w.heap.size]? = some (.cells #[.string ⟨#[1, 97, 0]⟩, .int .i64 1, .int .i64 1] 23 (0, 0))) Wz := HQ0.out
     have zr := fun j => blk_cell HGz.out j
     have fr := fun j => blk_frozen HGz.out j
     have HNE := Aside0.mk (blk_ne HQ0.out HGz.out (by decide))
     refine anyH_one 8 (by kernel_rfl) rfl (by rfl) (fun K hK => ?_)
     go_simp
     refine hK.out _ _ (blk_far (p := ⟨g2, 5, none⟩) (blk_far (p := ⟨g2, 4, none⟩) (blk_far (p := ⟨g2, 3, none⟩) (blk_far (p := ⟨g2, 2, none⟩) (blk_far (p := ⟨g2, 1, none⟩) (blk_far (p := ⟨g2, 0, none⟩) HQ0.out HNE.out (.string ⟨#[]⟩)) HNE.out (.int .i64 0)) HNE.out (.int .i64 0)) HNE.out (.int .i64 0)) HNE.out (.string ⟨#[]⟩)) HNE.out (.slice A7 0 c7)) ?_
     clear hK K
     (try simp only [Act.put, List.setIfInBounds_toArray, List.set_cons_zero, List.set_cons_succ])
     refine anyH_one 9 (by kernel_rfl) rfl (by rfl) (fun K hK => ?_)
     go_simp
     refine hK.out _ _ (blk_far (p := ⟨g2, 5, none⟩) (blk_far (p := ⟨g2, 4, none⟩) (blk_far (p := ⟨g2, 3, none⟩) (blk_far (p := ⟨g2, 2, none⟩) (blk_far (p := ⟨g2, 1, none⟩) (blk_far (p := ⟨g2, 0, none⟩) HQ0.out HNE.out (.string ⟨#[]⟩)) HNE.out (.int .i64 0)) HNE.out (.int .i64 0)) HNE.out (.int .i64 0)) HNE.out (.string ⟨#[]⟩)) HNE.out (.slice A7 0 c7)) ?_
     clear hK K
     (try simp only [Act.put, List.setIfInBounds_toArray, List.set_cons_zero, List.set_cons_succ])
     refine wpAnyH_done (by kernel_rfl) ?_ _
     clear zr fr hS
     go_wp2_with fail
     go_meet
     have HWZ := Aside0.mk (Below.setCell (Below.setCell (Below.setCell (Below.setCell (Below.setCell (Below.setCell HW0.out (p := ⟨g2, 0, none⟩) HGB.out (.string ⟨#[]⟩)) (p := ⟨g2, 1, none⟩) HGB.out (.int .i64 0)) (p := ⟨g2, 2, none⟩) HGB.out (.int .i64 0)) (p := ⟨g2, 3, none⟩) HGB.out (.int .i64 0)) (p := ⟨g2, 4, none⟩) HGB.out (.string ⟨#[]⟩)) (p := ⟨g2, 5, none⟩) HGB.out (.slice A7 0 c7))
     case rel => exact ⟨rfl, ⟨blk_below HT.out HWZ.out⟩, ⟨Kd.C_below HP.out HWZ.out⟩, ⟨below_then HW.out HW.out.size HWZ.out⟩⟩
    case pAB =>
     go_simp
     have HGz := Aside0.mk (heap_alloc_new W3 (.cells #[.string ⟨#[]⟩, .int .i64 0, .int .i64 0, .int .i64 0, .string ⟨#[]⟩, .slice none 0 0] 36))
     replace HQ0 := Aside0.mk (blk_alloc HQ0.out (.cells #[.string ⟨#[]⟩, .int .i64 0, .int .i64 0, .int .i64 0, .string ⟨#[]⟩, .slice none 0 0] 36))
     have HGB : Aside0 (wc.heap.size ≤ W3.heap.size) := ⟨HW0.out.size⟩
     replace HW0 := Aside0.mk (below_alloc HW0.out (.cells #[.string ⟨#[]⟩, .int .i64 0, .int .i64 0, .int .i64 0, .string ⟨#[]⟩, .slice none 0 0] 36))
     have HCz := Aside0.mk (Kd.C_alloc HC3.out.2 (.cells #[.string ⟨#[]⟩, .int .i64 0, .int .i64 0, .int .i64 0, .string ⟨#[]⟩, .slice none 0 0] 36))
     have HDz := Aside0.mk (Kd.C_alloc HD3.out.2 (.cells #[.string ⟨#[]⟩, .int .i64 0, .int .i64 0, .int .i64 0, .string ⟨#[]⟩, .slice none 0 0] 36))
     refine hK.out _ _ HQ0.out ?_
     clear hK K hS
     (try simp only [Act.put, List.setIfInBounds_toArray, List.set_cons_zero, List.set_cons_succ])
     generalize hg : W3.heap.size = g2 at HGz HGB ⊢
     clear hg
     generalize W3.alloc (.cells #[.string ⟨#[]⟩, .int .i64 0, .int .i64 0, .int .i64 0, .string ⟨#[]⟩, .slice none 0 0] 36) = Wz at HGz HQ0 HW0 HCz HDz ⊢
     have hS : (fun w' : World => w'.heap[w.heap.size]? = some (.cells #[.string ⟨#[1, 97, 0]⟩, .int .i64 1, .int .i64 1] 23 (0, 0))) Wz := HQ0.out
     refine anyH_one 3 (by kernel_rfl) rfl (by rfl) (fun K hK => ?_)
     go_simp
     go_at_call 11
     refine (tmpl_Make.calls 20 10 ⟨#[1, 97, 0]⟩ 1 1 _ _ [] 3 ⟨#[]⟩ ⟨#[]⟩ 0 0 _ _ [] 0 0 _ _ _ _ _ _ _ _ HCz.out HC3.out.1 HDz.out HD3.out.1 lv2).mono ?_
     rintro _ W5 ⟨v5, rfl, ho5, hb⟩
     obtain ⟨A7, c7, rfl⟩ := Kd.R_slice ho5
     replace HQ0 := Aside0.mk (blk_below HQ0.out hb)
     replace HW0 := Aside0.mk (below_then HW0.out HW0.out.size hb)
     replace HGz := Aside0.mk (blk_below HGz.out hb)
     clear hb
     refine hK.out _ _ HQ0.out ?_
     clear hK K hS
     (try simp only [Act.put, List.setIfInBounds_toArray, List.set_cons_zero, List.set_cons_succ])
     have hS : (fun w' : World => w'.heap[w.heap.size]? = some (.cells #[.string ⟨#[1, 97, 0]⟩, .int .i64 1, .int .i64 1] 23 (0, 0))) W5 := HQ0.out
     clear ho5
     refine wpAnyH_take (i := 4) (v := ?vt4) rfl (by kernel_rfl) (by kernel_rfl) (by kernel_rfl) (fun _ _ _ h => h) (Or.inl ⟨by rfl, ?yt4⟩) hS ?_
     case yt4 => (intro w' hSw; go_simp; (first | done | with_reducible rfl))
     (try simp only [Act.put, List.setIfInBounds_toArray, List.set_cons_zero, List.set_cons_succ])
     refine wpAnyH_take (i := 5) (v := ?vt5) rfl (by kernel_rfl) (by kernel_rfl) (by kernel_rfl) (fun _ _ _ h => h) (Or.inl ⟨by rfl, ?yt5⟩) hS ?_
     case yt5 => (intro w' hSw; go_simp; (first | done | with_reducible rfl))
     (try simp only [Act.put, List.setIfInBounds_toArray, List.set_cons_zero, List.set_cons_succ])
     refine wpAnyH_take (i := 6) (v := ?vt6) rfl (by kernel_rfl) (by kernel_rfl) (by kernel_rfl) (fun _ _ _ h => h) (Or.inl ⟨by rfl, ?yt6⟩) hS ?_
     case yt6 => (intro w' hSw; go_simp; (first | done | with_reducible rfl))
     (try simp only [Act.put, List.setIfInBounds_toArray, List.set_cons_zero, List.set_cons_succ])
     have zr := fun j => blk_cell HGz.out j
     have fr := fun j => blk_frozen HGz.out j
     have HNE := Aside0.mk (blk_ne HQ0.out HGz.out (by decide))
     refine anyH_one 8 (by kernel_rfl) rfl (by rfl) (fun K hK => ?_)
     go_simp
     refine hK.out _ _ (blk_far (p := ⟨g2, 5, none⟩) (blk_far (p := ⟨g2, 4, none⟩) (blk_far (p := ⟨g2, 3, none⟩) (blk_far (p := ⟨g2, 2, none⟩) (blk_far (p := ⟨g2, 1, none⟩) (blk_far (p := ⟨g2, 0, none⟩) HQ0.out HNE.out (.string ⟨#[]⟩)) HNE.out (.int .i64 0)) HNE.out (.int .i64 0)) HNE.out (.int .i64 0)) HNE.out (.string ⟨#[]⟩)) HNE.out (.slice A7 0 c7)) ?_
     clear hK K
     (try simp only [Act.put, List.setIfInBounds_toArray, List.set_cons_zero, List.set_cons_succ])
     refine anyH_one 9 (by kernel_rfl) rfl (by rfl) (fun K hK => ?_)
     go_simp
     refine hK.out _ _ (blk_far (p := ⟨g2, 5, none⟩) (blk_far (p := ⟨g2, 4, none⟩) (blk_far (p := ⟨g2, 3, none⟩) (blk_far (p := ⟨g2, 2, none⟩) (blk_far (p := ⟨g2, 1, none⟩) (blk_far (p := ⟨g2, 0, none⟩) HQ0.out HNE.out (.string ⟨#[]⟩)) HNE.out (.int .i64 0)) HNE.out (.int .i64 0)) HNE.out (.int .i64 0)) HNE.out (.string ⟨#[]⟩)) HNE.out (.slice A7 0 c7)) ?_
     clear hK K
     (try simp only [Act.put, List.setIfInBounds_toArray, List.set_cons_zero, List.set_cons_succ])
     refine wpAnyH_done (by kernel_rfl) ?_ _
     clear zr fr hS
     go_wp2_with fail
     go_meet
     have HWZ := Aside0.mk (Below.setCell (Below.setCell (Below.setCell (Below.setCell (Below.setCell (Below.setCell HW0.out (p := ⟨g2, 0, none⟩) HGB.out (.string ⟨#[]⟩)) (p := ⟨g2, 1, none⟩) HGB.out (.int .i64 0)) (p := ⟨g2, 2, none⟩) HGB.out (.int .i64 0)) (p := ⟨g2, 3, none⟩) HGB.out (.int .i64 0)) (p := ⟨g2, 4, none⟩) HGB.out (.string ⟨#[]⟩)) (p := ⟨g2, 5, none⟩) HGB.out (.slice A7 0 c7))
     case rel => exact ⟨rfl, ⟨blk_below HT.out HWZ.out⟩, ⟨Kd.C_below HP.out HWZ.out⟩, ⟨below_then HW.out HW.out.size HWZ.out⟩⟩
   case pB =>
    go_simp
    have HGz := Aside0.mk (heap_alloc_new W2 (.cells #[.string ⟨#[]⟩, .int .i64 0, .int .i64 0, .int .i64 0, .string ⟨#[]⟩, .slice none 0 0] 36))
    replace HQ0 := Aside0.mk (blk_alloc HQ0.out (.cells #[.string ⟨#[]⟩, .int .i64 0, .int .i64 0, .int .i64 0, .string ⟨#[]⟩, .slice none 0 0] 36))
    have HGB : Aside0 (wc.heap.size ≤ W2.heap.size) := ⟨HW0.out.size⟩
    replace HW0 := Aside0.mk (below_alloc HW0.out (.cells #[.string ⟨#[]⟩, .int .i64 0, .int .i64 0, .int .i64 0, .string ⟨#[]⟩, .slice none 0 0] 36))
    refine hK.out _ _ HQ0.out ?_
    clear hK K hS
    (try simp only [Act.put, List.setIfInBounds_toArray, List.set_cons_zero, List.set_cons_succ])
    generalize hg : W2.heap.size = g2 at HGz HGB ⊢
    clear hg
    generalize W2.alloc (.cells #[.string ⟨#[]⟩, .int .i64 0, .int .i64 0, .int .i64 0, .string ⟨#[]⟩, .slice none 0 0] 36) = Wz at HGz HQ0 HW0  ⊢
    have hS : (fun w' : World => w'.heap[w.heap.size]? = some (.cells #[.string ⟨#[1, 97, 0]⟩, .int .i64 1, .int .i64 1] 23 (0, 0))) Wz := HQ0.out
    refine anyH_one 2 (by kernel_rfl) rfl (by rfl) (fun K hK => ?_)
    go_simp
    go_at_call 12
    refine (wellspringlaw17_Chain.calls 20 (fun _ => True) _ _ [] 3 ⟨#[]⟩ ⟨#[]⟩ 0 0 (fun _ => True) _ _ [] 0 0 _ _ _ _ _ _ _ _ _ _ (Kd.V_nil _ _ _ _ _) (Kd.V_nil _ _ _ _ _) lv0b).mono ?_
    rintro _ W3 ⟨v0, v6, rfl, ho0, ho1, hb⟩
    obtain ⟨A0, c0, rfl⟩ := Kd.N_slice ho0
    obtain ⟨A6, c6, rfl⟩ := Kd.V_slice ho1
    have HC3 := Aside0.mk (Kd.N_reads' ho0).2
    have HD3 := Aside0.mk (Kd.V_reads' ho1).2
    replace HQ0 := Aside0.mk (blk_below HQ0.out hb)
    replace HW0 := Aside0.mk (below_then HW0.out HW0.out.size hb)
    replace HGz := Aside0.mk (blk_below HGz.out hb)
    clear hb
    refine hK.out _ _ HQ0.out ?_
    clear hK K hS
    (try simp only [Act.put, List.setIfInBounds_toArray, List.set_cons_zero, List.set_cons_succ])
    have hS : (fun w' : World => w'.heap[w.heap.size]? = some (.cells #[.string ⟨#[1, 97, 0]⟩, .int .i64 1, .int .i64 1] 23 (0, 0))) W3 := HQ0.out
    clear ho0 ho1
    refine anyH_one 3 (by kernel_rfl) rfl (by rfl) (fun K hK => ?_)
    go_simp
    go_at_call 11
    refine (tmpl_Make.calls 20 10 ⟨#[1, 97, 0]⟩ 1 1 _ _ [] 3 ⟨#[]⟩ ⟨#[]⟩ 0 0 _ _ [] 0 0 _ _ _ _ _ _ _ _ HC3.out.2 HC3.out.1 HD3.out.2 HD3.out.1 lv2).mono ?_
    rintro _ W5 ⟨v5, rfl, ho5, hb⟩
    obtain ⟨A7, c7, rfl⟩ := Kd.R_slice ho5
    replace HQ0 := Aside0.mk (blk_below HQ0.out hb)
    replace HW0 := Aside0.mk (below_then HW0.out HW0.out.size hb)
    replace HGz := Aside0.mk (blk_below HGz.out hb)
    clear hb
    refine hK.out _ _ HQ0.out ?_
    clear hK K hS
    (try simp only [Act.put, List.setIfInBounds_toArray, List.set_cons_zero, List.set_cons_succ])
    have hS : (fun w' : World => w'.heap[w.heap.size]? = some (.cells #[.string ⟨#[1, 97, 0]⟩, .int .i64 1, .int .i64 1] 23 (0, 0))) W5 := HQ0.out
    clear ho5
    refine wpAnyH_take (i := 4) (v := ?vu4) rfl (by kernel_rfl) (by kernel_rfl) (by kernel_rfl) (fun _ _ _ h => h) (Or.inl ⟨by rfl, ?yu4⟩) hS ?_
    case yu4 => (intro w' hSw; go_simp; (first | done | with_reducible rfl))
    (try simp only [Act.put, List.setIfInBounds_toArray, List.set_cons_zero, List.set_cons_succ])
    refine wpAnyH_take (i := 5) (v := ?vu5) rfl (by kernel_rfl) (by kernel_rfl) (by kernel_rfl) (fun _ _ _ h => h) (Or.inl ⟨by rfl, ?yu5⟩) hS ?_
    case yu5 => (intro w' hSw; go_simp; (first | done | with_reducible rfl))
    (try simp only [Act.put, List.setIfInBounds_toArray, List.set_cons_zero, List.set_cons_succ])
    refine wpAnyH_take (i := 6) (v := ?vu6) rfl (by kernel_rfl) (by kernel_rfl) (by kernel_rfl) (fun _ _ _ h => h) (Or.inl ⟨by rfl, ?yu6⟩) hS ?_
    case yu6 => (intro w' hSw; go_simp; (first | done | with_reducible rfl))
    (try simp only [Act.put, List.setIfInBounds_toArray, List.set_cons_zero, List.set_cons_succ])
    have zr := fun j => blk_cell HGz.out j
    have fr := fun j => blk_frozen HGz.out j
    have HNE := Aside0.mk (blk_ne HQ0.out HGz.out (by decide))
    refine anyH_one 8 (by kernel_rfl) rfl (by rfl) (fun K hK => ?_)
    go_simp
    refine hK.out _ _ (blk_far (p := ⟨g2, 5, none⟩) (blk_far (p := ⟨g2, 4, none⟩) (blk_far (p := ⟨g2, 3, none⟩) (blk_far (p := ⟨g2, 2, none⟩) (blk_far (p := ⟨g2, 1, none⟩) (blk_far (p := ⟨g2, 0, none⟩) HQ0.out HNE.out (.string ⟨#[]⟩)) HNE.out (.int .i64 0)) HNE.out (.int .i64 0)) HNE.out (.int .i64 0)) HNE.out (.string ⟨#[]⟩)) HNE.out (.slice A7 0 c7)) ?_
    clear hK K
    (try simp only [Act.put, List.setIfInBounds_toArray, List.set_cons_zero, List.set_cons_succ])
    refine anyH_one 9 (by kernel_rfl) rfl (by rfl) (fun K hK => ?_)
    go_simp
    refine hK.out _ _ (blk_far (p := ⟨g2, 5, none⟩) (blk_far (p := ⟨g2, 4, none⟩) (blk_far (p := ⟨g2, 3, none⟩) (blk_far (p := ⟨g2, 2, none⟩) (blk_far (p := ⟨g2, 1, none⟩) (blk_far (p := ⟨g2, 0, none⟩) HQ0.out HNE.out (.string ⟨#[]⟩)) HNE.out (.int .i64 0)) HNE.out (.int .i64 0)) HNE.out (.int .i64 0)) HNE.out (.string ⟨#[]⟩)) HNE.out (.slice A7 0 c7)) ?_
    clear hK K
    (try simp only [Act.put, List.setIfInBounds_toArray, List.set_cons_zero, List.set_cons_succ])
    refine wpAnyH_done (by kernel_rfl) ?_ _
    clear zr fr hS
    go_wp2_with fail
    go_meet
    have HWZ := Aside0.mk (Below.setCell (Below.setCell (Below.setCell (Below.setCell (Below.setCell (Below.setCell HW0.out (p := ⟨g2, 0, none⟩) HGB.out (.string ⟨#[]⟩)) (p := ⟨g2, 1, none⟩) HGB.out (.int .i64 0)) (p := ⟨g2, 2, none⟩) HGB.out (.int .i64 0)) (p := ⟨g2, 3, none⟩) HGB.out (.int .i64 0)) (p := ⟨g2, 4, none⟩) HGB.out (.string ⟨#[]⟩)) (p := ⟨g2, 5, none⟩) HGB.out (.slice A7 0 c7))
    case rel => exact ⟨rfl, ⟨blk_below HT.out HWZ.out⟩, ⟨Kd.C_below HP.out HWZ.out⟩, ⟨below_then HW.out HW.out.size HWZ.out⟩⟩
  case rest =>
   obtain ⟨rfl, HT1, HP1, HW1⟩ := hcut
   clear HQ HT HP HW
   have zt := fun j => blk_cell HT1.out j
   have hz1 : ((lvT.size : Int) == 32) = true := by kernel_rfl
   have hz2 : ((lvP.length : Int) == 1) = true := by kernel_rfl
   go_wp2_with fail
   go_at_call 18
   refine (tmpl_Template_Check.calls 20 _ _ _ _ _ _ _ lvP _ _ HP1.out HL.out lv3).mono ?_
   rintro _ W11 ⟨rfl, hb⟩
   replace HT1 := Aside0.mk (blk_below HT1.out hb)
   replace HP1 := Aside0.mk (Kd.C_below HP1.out hb)
   replace HW1 := Aside0.mk (below_then HW1.out HW1.out.size hb)
   clear hb zt
   have zt := fun j => blk_cell HT1.out j
   go_wp2_with fail
   go_at_call 20
   refine (tmpl_Template_Live.calls 20 _ _ _ _ _ _ _ lvP _ _ _ HP1.out HL.out lv4).mono ?_
   rintro _ W12 ⟨rfl, hb⟩
   replace HT1 := Aside0.mk (blk_below HT1.out hb)
   replace HP1 := Aside0.mk (Kd.C_below HP1.out hb)
   replace HW1 := Aside0.mk (below_then HW1.out HW1.out.size hb)
   clear hb zt
   have zt := fun j => blk_cell HT1.out j
   go_wp2_with fail
   go_at_call 20
   refine (tmpl_Template_Live.calls 20 _ _ _ _ _ _ _ lvP _ _ _ HP1.out HL.out lv5).mono ?_
   rintro _ W13 ⟨rfl, hb⟩
   replace HT1 := Aside0.mk (blk_below HT1.out hb)
   replace HP1 := Aside0.mk (Kd.C_below HP1.out hb)
   replace HW1 := Aside0.mk (below_then HW1.out HW1.out.size hb)
   clear hb zt
   have zt := fun j => blk_cell HT1.out j
   go_wp2_with fail
   go_at_call 22
   refine (tmpl_Template_Part.calls 20 _ _ _ _ _ _ _ lvP _ _ _ _ _ HP1.out HL.out lv6).mono ?_
   rintro _ W14 ⟨rfl, hb⟩
   replace HT1 := Aside0.mk (blk_below HT1.out hb)
   replace HP1 := Aside0.mk (Kd.C_below HP1.out hb)
   replace HW1 := Aside0.mk (below_then HW1.out HW1.out.size hb)
   clear hb zt
   have zt := fun j => blk_cell HT1.out j
   go_wp2_with fail
   go_at_call 22
   refine (tmpl_Template_Part.calls 20 _ _ _ _ _ _ _ lvP _ _ _ _ _ HP1.out HL.out lv7).mono ?_
   rintro _ W15 ⟨rfl, hb⟩
   replace HT1 := Aside0.mk (blk_below HT1.out hb)
   replace HP1 := Aside0.mk (Kd.C_below HP1.out hb)
   replace HW1 := Aside0.mk (below_then HW1.out HW1.out.size hb)
   clear hb zt
   have zt := fun j => blk_cell HT1.out j
   go_wp2_with fail
   go_at_call 22
   refine (tmpl_Template_Part.calls 20 _ _ _ _ _ _ _ lvP _ _ _ _ _ HP1.out HL.out lv8).mono ?_
   rintro _ W16 ⟨rfl, hb⟩
   replace HT1 := Aside0.mk (blk_below HT1.out hb)
   replace HP1 := Aside0.mk (Kd.C_below HP1.out hb)
   replace HW1 := Aside0.mk (below_then HW1.out HW1.out.size hb)
   clear hb zt
   have zt := fun j => blk_cell HT1.out j
   go_wp2_with fail
   go_at_call 18
   have hz := row_lit (d := k69) (e := 69) (base := 0) (W := W16) (xs := [⟨[], 0, false⟩]) (inner := [.slice none 0 0, .int .i64 0, .bool false]) (Reps.c3 (k69_mkM _ _ _ (⟨[], 0, false⟩ : S69) (Kd.R_nil _ _ _ _ _)) (Reps.none _ _)) (Nat.zero_le _) (by decide)
   refine (tmpl_Template_Check.calls 20 _ _ _ _ _ _ _ [⟨[], 0, false⟩] _ _ (Kd.R_reads' hz).2.2 (Kd.R_reads' hz).2.1 lv9).mono ?_
   rintro _ W17 ⟨rfl, hb⟩
   have HW2 := Aside0.mk (below_then (below_alloc HW1.out _) (below_alloc HW1.out _).size hb)
   clear hb zt hz
   go_wp2_with fail
   go_ret
   exact ⟨rfl, HW2.out⟩
end
end Go.Proofs.Ytedjodnaalconaa.P
end
section
namespace Go.Proofs.Ytedjodnaalconaa.P
open Go.RowKit Go.Proofs.YtedjodnaalconaaW.PrintWords Go.Proofs.YtedjodnaalconaaW.PrintLast Go.Proofs.YtedjodnaalconaaW.PrintMore
attribute [local go_sem] max2_int min2_int max_two min_two max_three min_three max_four min_four
set_option linter.unusedVariables false
set_option linter.unusedSimpArgs false
mutual
def wellspringref18_Check.l0 : Nat → Int → ByteArray → Int → Int → Int → ByteArray → List (S74) → Option (Bool)
 | 0, _, _, _, _, _, _, _ => none
 | k + 1, x3, x428000, x428001, x428002, x428003, x428004, x428005 => if x3 < (x428005.length : Int) then (if 0 ≤ x3 then (wellspringref18_Check.l1 k x3 ((rd_T74 x428005 x3).f0) 0 x428000 x428001 x428002 x428003 x428004 x428005) else (none)) else (some true)
def wellspringref18_Check.l1 : Nat → Int → List (S80) → Int → ByteArray → Int → Int → Int → ByteArray → List (S74) → Option (Bool)
 | 0, _, _, _, _, _, _, _, _, _ => none
 | k + 1, x3, x4, x5, x428000, x428001, x428002, x428003, x428004, x428005 => if x5 < (x4.length : Int) then (if 0 ≤ x5 then (if ((rd_T80 x4 x5).f0) < 0 then (some false) else (if ((rd_T80 x4 x5).f2) < ((rd_T80 x4 x5).f0) then (some false) else (if ((rd_T80 x4 x5).f1) > (x428004.size : Int) then (some false) else (if ((rd_T80 x4 x5).f1) < ((rd_T80 x4 x5).f2) then (some false) else (if (wrap64 (((rd_T80 x4 x5).f1) - ((rd_T80 x4 x5).f2))) < 4 then (some false) else (wellspringref18_Check.l1 k x3 x4 (wrap64 (x5 + 1)) x428000 x428001 x428002 x428003 x428004 x428005)))))) else (none)) else (if (x4.length : Int) = 0 then (some false) else (wellspringref18_Check.l0 k (wrap64 (x3 + 1)) x428000 x428001 x428002 x428003 x428004 x428005))
end
def wellspringref18_Check.f (k : Nat) (a0_0 : ByteArray) (a0_1 : Int) (a0_2 : Int) (a0_3 : Int) (a0_4 : ByteArray) (l0_5 : List (S74)) : Option (Bool) := wellspringref18_Check.l0 k 0 a0_0 a0_1 a0_2 a0_3 a0_4 l0_5
theorem wellspringref18_Check.mono_l : ∀ k, (∀ y0 y1 y2 y3 y4 y5 y6, LeO (wellspringref18_Check.l0 k y0 y1 y2 y3 y4 y5 y6) (wellspringref18_Check.l0 (k + 1) y0 y1 y2 y3 y4 y5 y6)) ∧ (∀ y0 y1 y2 y3 y4 y5 y6 y7 y8, LeO (wellspringref18_Check.l1 k y0 y1 y2 y3 y4 y5 y6 y7 y8) (wellspringref18_Check.l1 (k + 1) y0 y1 y2 y3 y4 y5 y6 y7 y8))
 | 0 => ⟨fun _ _ _ _ _ _ _ r h => by simp [wellspringref18_Check.l0] at h, fun _ _ _ _ _ _ _ _ _ r h => by simp [wellspringref18_Check.l1] at h⟩
 | k + 1 => by
  obtain ⟨ih0, ih1⟩ := wellspringref18_Check.mono_l k
  refine ⟨?_, ?_⟩
  ·intro y0 y1 y2 y3 y4 y5 y6
   unfold wellspringref18_Check.l0
   repeat' first
   | (with_reducible exact ih0 _ _ _ _ _ _ _)
   | (with_reducible exact ih1 _ _ _ _ _ _ _ _ _)
   | (with_reducible exact LeO.refl _)
   | (with_reducible exact LeO.none _)
   | (with_reducible refine LeO.ite ?_ ?_)
   | (with_reducible refine LeO.bind ?_ (fun _ => ?_))
  ·intro y0 y1 y2 y3 y4 y5 y6 y7 y8
   unfold wellspringref18_Check.l1
   repeat' first
   | (with_reducible exact ih0 _ _ _ _ _ _ _)
   | (with_reducible exact ih1 _ _ _ _ _ _ _ _ _)
   | (with_reducible exact LeO.refl _)
   | (with_reducible exact LeO.none _)
   | (with_reducible refine LeO.ite ?_ ?_)
   | (with_reducible refine LeO.bind ?_ (fun _ => ?_))
theorem wellspringref18_Check.mono : ∀ a0 a1 a2 a3 a4 a5 k, LeO (wellspringref18_Check.f k a0 a1 a2 a3 a4 a5) (wellspringref18_Check.f (k + 1) a0 a1 a2 a3 a4 a5) := by
 intro a0 a1 a2 a3 a4 a5 k
 obtain ⟨ih0, ih1⟩ := wellspringref18_Check.mono_l k
 unfold wellspringref18_Check.f
 repeat' first
   | (with_reducible exact ih0 _ _ _ _ _ _ _)
   | (with_reducible exact ih1 _ _ _ _ _ _ _ _ _)
   | (with_reducible exact LeO.refl _)
   | (with_reducible exact LeO.none _)
   | (with_reducible refine LeO.ite ?_ ?_)
   | (with_reducible refine LeO.bind ?_ (fun _ => ?_))
set_option maxHeartbeats 8000000 in
set_option maxRecDepth 100000 in
theorem wellspringref18_Check.calls (k : Nat) (a0_0 : ByteArray) (a0_1 : Int) (a0_2 : Int) (a0_3 : Int) (a0_4 : ByteArray) (A0_5 : Option Addr) (c0_5 : Nat) (l0_5 : List (S74)) (r : Bool) (w : World) (hr0_5 : Kd.C k74 w A0_5 l0_5.length l0_5) (hc0_5 : l0_5.length ≤ c0_5) (h : wellspringref18_Check.f k a0_0 a0_1 a0_2 a0_3 a0_4 l0_5 = some r) :
  Calls Try.prog 19 #[.agg #[.string a0_0, .int .i64 a0_1, .int .i64 a0_2, .int .i64 a0_3, .string a0_4, .slice A0_5 l0_5.length c0_5]] w fun e w' => e = .returned (.bool r) ∧ Below w.heap.size w w' := by
 have hu46 := Try.underlying46
 have hu80 := Try.underlying80
 have HR0_5 := Aside0.mk hr0_5
 have HC0_5 := Aside0.mk hc0_5
 clear hr0_5 hc0_5
 have HB := Aside0.mk (Below.refl w.heap.size w)
 have H : (wellspringref18_Check.l0 k 0 a0_0 a0_1 a0_2 a0_3 a0_4 l0_5) = some r := h
 clear h
 have H' := Aside0.mk H
 clear H
 go_enter Try.func19, Try.ntmps19
 go_wp2_with (first | ((with_reducible refine gate_dst (N := 1) rfl ?_); (try (refine gate_guard (by rfl) ?_; dsimp only)); refine box_event ?hg (N := 1) ?hd (cs := #[.string a0_0, .int .i64 a0_1, .int .i64 a0_2, .int .i64 a0_3, .string a0_4, .slice A0_5 l0_5.length c0_5]) (t := 46) ?hr ?_; (case hd => rfl); (case hg => rfl); (case hr => first | (go_simp; done) | (go_simp; rfl)); intro gb427 hg w2 hbox hb; have n0_ := Aside0.mk (below_step (by repeat (first | (with_reducible first | exact HB.out | apply below_alloc | apply pw_below_drewN | apply below_drew1) | exact HB.out)) hb); have n1_ := Aside0.mk (hbox); have n2_ := Aside0.mk ((by rw [hg]; exact (below_size (by repeat (first | (with_reducible first | exact HB.out | apply below_alloc | apply pw_below_drewN | apply below_drew1) | exact HB.out))) : w.heap.size ≤ gb427)); have n3_ := Aside0.mk ((by rw [hg]; exact (below_size (by repeat (first | (with_reducible first | exact HB.out | apply below_alloc | apply pw_below_drewN | apply below_drew1) | exact HB.out))) : w.heap.size ≤ gb427)); clear HB; have HB := n0_; have BK427 := n1_; have GW427 := n2_; have GE427 := n3_; clear n0_ n1_ n2_ n3_; clear hb hbox hg))
 go_loopg [3] k (fun kq v3 w' => ∃ (x3_1 : Int), v3 = .int .i64 x3_1 ∧ Aside0 (wellspringref18_Check.l0 kq x3_1 a0_0 a0_1 a0_2 a0_3 a0_4 l0_5 = some r) ∧ Aside0 (kq ≤ k) ∧ Aside0 (w'.heap[gb427]? = some (.cells #[.string a0_0, .int .i64 a0_1, .int .i64 a0_2, .int .i64 a0_3, .string a0_4, (.slice A0_5 l0_5.length c0_5)] 46 (0, 0))) ∧ Aside0 (Below w.heap.size w w'))
 case atStart => exact ⟨(0), (by first | rfl | (simp; done) | (simp [*]; done)), H', ⟨Nat.le_refl _⟩, ⟨by (with_reducible repeat (first | refine blk_drewN ?_ _ | refine blk_drew ?_ | refine blk_alloc ?_ _)); exact BK427.out⟩, ⟨by repeat (first | (with_reducible first | exact HB.out | apply below_alloc | apply pw_below_drewN | apply below_drew1 | refine below_set ?_ GE427.out) | exact HB.out)⟩⟩
 case round =>
  clear H'
  try clear c1
  try clear p2
  obtain ⟨x3_1, rfl, HA, HK1, BK427, HB⟩ := hrel
  cases gk with
  | zero => exact absurd HA.out (by simp [wellspringref18_Check.l0])
  | succ k1 =>
   have H := HA.out
   clear HA
   simp only [wellspringref18_Check.l0] at H
   by_cases c3 : x3_1 < (l0_5.length : Int)
   ·rw [if_pos c3] at H
    have c3b0 : decide (x3_1 < (l0_5.length : Int)) = true := decide_eq_true c3
    clear c3
    by_cases c4 : 0 ≤ x3_1
    ·rw [if_pos c4] at H
     have c4b0 : decide (0 ≤ x3_1) = true := decide_eq_true c4
     clear c4
     have H' := Aside0.mk H
     clear H
     have hcz5_0 : wr.cell? ⟨gb427, 0, none⟩ = some (.string a0_0) := (blk_cell BK427.out 0).trans rfl
     have hcz5_1 : wr.cell? ⟨gb427, 1, none⟩ = some (.int .i64 a0_1) := (blk_cell BK427.out 1).trans rfl
     have hcz5_2 : wr.cell? ⟨gb427, 2, none⟩ = some (.int .i64 a0_2) := (blk_cell BK427.out 2).trans rfl
     have hcz5_3 : wr.cell? ⟨gb427, 3, none⟩ = some (.int .i64 a0_3) := (blk_cell BK427.out 3).trans rfl
     have hcz5_4 : wr.cell? ⟨gb427, 4, none⟩ = some (.string a0_4) := (blk_cell BK427.out 4).trans rfl
     have hcz5_5 : wr.cell? ⟨gb427, 5, none⟩ = some (.slice A0_5 l0_5.length c0_5) := (blk_cell BK427.out 5).trans rfl
     have hfz5_0 := blk_frozen BK427.out 0
     have hfz5_1 := blk_frozen BK427.out 1
     have hfz5_2 := blk_frozen BK427.out 2
     have hfz5_3 := blk_frozen BK427.out 3
     have hfz5_4 := blk_frozen BK427.out 4
     have hfz5_5 := blk_frozen BK427.out 5
     have p428 : 0 ≤ (x3_1 : Int) := of_decide_eq_true (by first | (with_reducible assumption) | assumption)
     have q428 : x3_1 < (l0_5.length : Int) := of_decide_eq_true (by first | (with_reducible assumption) | assumption)
     obtain ⟨ad428, A428_0, c428_0, e428, hx428_0, hx428_1, hx428_2, hl428_0, hi428_0⟩ := at_T74 HR0_5.out x3_1 p428 q428
     cases e428
     replace hx428_0 := (HB.out.cell (World.block_lt_of_cell? w _ hx428_0)).trans hx428_0
     replace hx428_1 := (HB.out.cell (World.block_lt_of_cell? w _ hx428_1)).trans hx428_1
     replace hx428_2 := (HB.out.cell (World.block_lt_of_cell? w _ hx428_2)).trans hx428_2
     have HR428_0 := Aside0.mk hi428_0
     have HC428_0 := Aside0.mk hl428_0
     clear hi428_0 hl428_0
     replace p428 := eq_true p428
     replace q428 := eq_true q428
     go_wp2
     go_loopg [5] k1 (fun kq v5 w' => ∃ (x5_2 : Int), v5 = .int .i64 x5_2 ∧ Aside0 (wellspringref18_Check.l1 kq x3_1 ((rd_T74 l0_5 x3_1).f0) x5_2 a0_0 a0_1 a0_2 a0_3 a0_4 l0_5 = some r) ∧ Aside0 (kq ≤ k1) ∧ Aside0 (w'.heap[gb427]? = some (.cells #[.string a0_0, .int .i64 a0_1, .int .i64 a0_2, .int .i64 a0_3, .string a0_4, (.slice (some ad428) l0_5.length c0_5)] 46 (0, 0))) ∧ Aside0 (Below w.heap.size w w'))
     case atStart => exact ⟨(0), (by first | rfl | (simp; done) | (simp [*]; done)), H', ⟨Nat.le_refl _⟩, ⟨by (with_reducible repeat (first | refine blk_drewN ?_ _ | refine blk_drew ?_ | refine blk_alloc ?_ _)); exact BK427.out⟩, ⟨by repeat (first | (with_reducible first | exact HB.out | apply below_alloc | apply pw_below_drewN | apply below_drew1 | refine below_set ?_ GE427.out) | exact HB.out)⟩⟩
     case round =>
      clear H'
      try clear c1
      try clear p2
      try clear c3
      try clear c3b0
      try clear c4
      try clear c4b0
      try clear p4
      try clear q4
      try clear hx4
      try clear hcz5_0
      try clear hcz5_1
      try clear hcz5_2
      try clear hcz5_3
      try clear hcz5_4
      try clear hcz5_5
      try clear hfz5_0
      try clear hfz5_1
      try clear hfz5_2
      try clear hfz5_3
      try clear hfz5_4
      try clear hfz5_5
      try clear hx428_0
      try clear hx428_1
      try clear hx428_2
      try clear p2
      try clear p428
      try clear q428
      obtain ⟨x5_2, rfl, HA, HK2, BK427, HB⟩ := hrel
      cases gk with
      | zero => exact absurd HA.out (by simp [wellspringref18_Check.l1])
      | succ k2 =>
       have H := HA.out
       clear HA
       simp only [wellspringref18_Check.l1] at H
       by_cases c6 : x5_2 < (((rd_T74 l0_5 x3_1).f0).length : Int)
       ·rw [if_pos c6] at H
        have c6b0 : decide (x5_2 < (((rd_T74 l0_5 x3_1).f0).length : Int)) = true := decide_eq_true c6
        clear c6
        by_cases c7 : 0 ≤ x5_2
        ·rw [if_pos c7] at H
         have c7b0 : decide (0 ≤ x5_2) = true := decide_eq_true c7
         clear c7
         by_cases c8 : ((rd_T80 ((rd_T74 l0_5 x3_1).f0) x5_2).f0) < 0
         ·rw [if_pos c8] at H
          have c8b0 : decide (((rd_T80 ((rd_T74 l0_5 x3_1).f0) x5_2).f0) < 0) = true := decide_eq_true c8
          clear c8
          obtain rfl := Option.some.inj H
          have p429 : 0 ≤ (x5_2 : Int) := of_decide_eq_true (by first | (with_reducible assumption) | assumption)
          have q429 : x5_2 < (((rd_T74 l0_5 x3_1).f0).length : Int) := of_decide_eq_true (by first | (with_reducible assumption) | assumption)
          obtain ⟨ad429, e429, hx429_0, hx429_1, hx429_2⟩ := at_T80 HR428_0.out x5_2 p429 q429
          cases e429
          replace hx429_0 := (HB.out.cell (World.block_lt_of_cell? w _ hx429_0)).trans hx429_0
          replace hx429_1 := (HB.out.cell (World.block_lt_of_cell? w _ hx429_1)).trans hx429_1
          replace hx429_2 := (HB.out.cell (World.block_lt_of_cell? w _ hx429_2)).trans hx429_2
          replace p429 := eq_true p429
          replace q429 := eq_true q429
          go_wp2_with (first | ((with_reducible refine gate_dst (N := 6) rfl ?_); (try (refine gate_guard (by rfl) ?_; dsimp only)); refine box_event ?hg (N := 6) ?hd (cs := #[.int .i64 0, .int .i64 0, .int .i64 0]) (t := 80) ?hr ?_; (case hd => rfl); (case hg => rfl); (case hr => first | (go_simp; done) | (go_simp; rfl)); intro gb430 hg w9 hbox hb; have n0_ := Aside0.mk (blk_below (g := gb427) (o := .cells #[.string a0_0, .int .i64 a0_1, .int .i64 a0_2, .int .i64 a0_3, .string a0_4, .slice (some ad428) l0_5.length c0_5] 46 (0, 0)) (by (with_reducible repeat (first | refine blk_drewN ?_ _ | refine blk_drew ?_ | refine blk_alloc ?_ _)); exact BK427.out) hb); have n1_ := Aside0.mk (below_step (by repeat (first | (with_reducible first | exact HB.out | apply below_alloc | apply pw_below_drewN | apply below_drew1 | refine below_set ?_ GE427.out) | exact HB.out)) hb); have n2_ := Aside0.mk (hbox); have n3_ := Aside0.mk ((by rw [hg]; exact (below_size (by repeat (first | (with_reducible first | exact HB.out | apply below_alloc | apply pw_below_drewN | apply below_drew1 | refine below_set ?_ GE427.out) | exact HB.out))) : w.heap.size ≤ gb430)); have n4_ := Aside0.mk ((by rw [hg]; exact (below_size (by repeat (first | (with_reducible first | exact HB.out | apply below_alloc | apply pw_below_drewN | apply below_drew1 | refine below_set ?_ GE427.out) | exact HB.out))) : w.heap.size ≤ gb430)); have n5_ := Aside0.mk ((by rw [hg]; exact Nat.ne_of_lt (blk_lt (g := gb427) (o := .cells #[.string a0_0, .int .i64 a0_1, .int .i64 a0_2, .int .i64 a0_3, .string a0_4, .slice (some ad428) l0_5.length c0_5] 46 (0, 0)) (by (with_reducible repeat (first | refine blk_drewN ?_ _ | refine blk_drew ?_ | refine blk_alloc ?_ _)); exact BK427.out)) : gb427 ≠ gb430)); have n6_ := Aside0.mk ((by rw [hg]; exact Nat.ne_of_gt (blk_lt (g := gb427) (o := .cells #[.string a0_0, .int .i64 a0_1, .int .i64 a0_2, .int .i64 a0_3, .string a0_4, .slice (some ad428) l0_5.length c0_5] 46 (0, 0)) (by (with_reducible repeat (first | refine blk_drewN ?_ _ | refine blk_drew ?_ | refine blk_alloc ?_ _)); exact BK427.out)) : gb430 ≠ gb427)); clear BK427; clear HB; have BK427 := n0_; have HB := n1_; have BK430 := n2_; have GW430 := n3_; have GE430 := n4_; have NB427_430 := n5_; have NB430_427 := n6_; clear n0_ n1_ n2_ n3_ n4_ n5_ n6_; clear hb hbox hg; have hnb10 := NB430_427.out; have hnc10 := NB427_430.out; have hcz11_0 : w9.cell? ⟨gb430, 0, none⟩ = some (.int .i64 0) := (blk_cell BK430.out 0).trans rfl; have hcz11_1 : w9.cell? ⟨gb430, 1, none⟩ = some (.int .i64 0) := (blk_cell BK430.out 1).trans rfl; have hcz11_2 : w9.cell? ⟨gb430, 2, none⟩ = some (.int .i64 0) := (blk_cell BK430.out 2).trans rfl; have hfz11_0 := blk_frozen BK430.out 0; have hfz11_1 := blk_frozen BK430.out 1; have hfz11_2 := blk_frozen BK430.out 2))
          go_ret
          exact ⟨by first | rfl | (simp [errW_none, errW_some] <;> rfl) | (simp [*, errW_none, errW_some] <;> rfl), by repeat (first | (with_reducible first | exact HB.out | apply below_alloc | apply pw_below_drewN | apply below_drew1 | refine below_set ?_ GE427.out | refine below_set ?_ GE430.out) | exact HB.out)⟩
         ·rw [if_neg c8] at H
          have c8b0 : decide (((rd_T80 ((rd_T74 l0_5 x3_1).f0) x5_2).f0) < 0) = false := decide_eq_false c8
          clear c8
          by_cases c12 : ((rd_T80 ((rd_T74 l0_5 x3_1).f0) x5_2).f2) < ((rd_T80 ((rd_T74 l0_5 x3_1).f0) x5_2).f0)
          ·rw [if_pos c12] at H
           have c12b0 : decide (((rd_T80 ((rd_T74 l0_5 x3_1).f0) x5_2).f2) < ((rd_T80 ((rd_T74 l0_5 x3_1).f0) x5_2).f0)) = true := decide_eq_true c12
           clear c12
           obtain rfl := Option.some.inj H
           have p429 : 0 ≤ (x5_2 : Int) := of_decide_eq_true (by first | (with_reducible assumption) | assumption)
           have q429 : x5_2 < (((rd_T74 l0_5 x3_1).f0).length : Int) := of_decide_eq_true (by first | (with_reducible assumption) | assumption)
           obtain ⟨ad429, e429, hx429_0, hx429_1, hx429_2⟩ := at_T80 HR428_0.out x5_2 p429 q429
           cases e429
           replace hx429_0 := (HB.out.cell (World.block_lt_of_cell? w _ hx429_0)).trans hx429_0
           replace hx429_1 := (HB.out.cell (World.block_lt_of_cell? w _ hx429_1)).trans hx429_1
           replace hx429_2 := (HB.out.cell (World.block_lt_of_cell? w _ hx429_2)).trans hx429_2
           replace p429 := eq_true p429
           replace q429 := eq_true q429
           go_wp2_with (first | ((with_reducible refine gate_dst (N := 6) rfl ?_); (try (refine gate_guard (by rfl) ?_; dsimp only)); refine box_event ?hg (N := 6) ?hd (cs := #[.int .i64 0, .int .i64 0, .int .i64 0]) (t := 80) ?hr ?_; (case hd => rfl); (case hg => rfl); (case hr => first | (go_simp; done) | (go_simp; rfl)); intro gb430 hg w13 hbox hb; have n0_ := Aside0.mk (blk_below (g := gb427) (o := .cells #[.string a0_0, .int .i64 a0_1, .int .i64 a0_2, .int .i64 a0_3, .string a0_4, .slice (some ad428) l0_5.length c0_5] 46 (0, 0)) (by (with_reducible repeat (first | refine blk_drewN ?_ _ | refine blk_drew ?_ | refine blk_alloc ?_ _)); exact BK427.out) hb); have n1_ := Aside0.mk (below_step (by repeat (first | (with_reducible first | exact HB.out | apply below_alloc | apply pw_below_drewN | apply below_drew1 | refine below_set ?_ GE427.out) | exact HB.out)) hb); have n2_ := Aside0.mk (hbox); have n3_ := Aside0.mk ((by rw [hg]; exact (below_size (by repeat (first | (with_reducible first | exact HB.out | apply below_alloc | apply pw_below_drewN | apply below_drew1 | refine below_set ?_ GE427.out) | exact HB.out))) : w.heap.size ≤ gb430)); have n4_ := Aside0.mk ((by rw [hg]; exact (below_size (by repeat (first | (with_reducible first | exact HB.out | apply below_alloc | apply pw_below_drewN | apply below_drew1 | refine below_set ?_ GE427.out) | exact HB.out))) : w.heap.size ≤ gb430)); have n5_ := Aside0.mk ((by rw [hg]; exact Nat.ne_of_lt (blk_lt (g := gb427) (o := .cells #[.string a0_0, .int .i64 a0_1, .int .i64 a0_2, .int .i64 a0_3, .string a0_4, .slice (some ad428) l0_5.length c0_5] 46 (0, 0)) (by (with_reducible repeat (first | refine blk_drewN ?_ _ | refine blk_drew ?_ | refine blk_alloc ?_ _)); exact BK427.out)) : gb427 ≠ gb430)); have n6_ := Aside0.mk ((by rw [hg]; exact Nat.ne_of_gt (blk_lt (g := gb427) (o := .cells #[.string a0_0, .int .i64 a0_1, .int .i64 a0_2, .int .i64 a0_3, .string a0_4, .slice (some ad428) l0_5.length c0_5] 46 (0, 0)) (by (with_reducible repeat (first | refine blk_drewN ?_ _ | refine blk_drew ?_ | refine blk_alloc ?_ _)); exact BK427.out)) : gb430 ≠ gb427)); clear BK427; clear HB; have BK427 := n0_; have HB := n1_; have BK430 := n2_; have GW430 := n3_; have GE430 := n4_; have NB427_430 := n5_; have NB430_427 := n6_; clear n0_ n1_ n2_ n3_ n4_ n5_ n6_; clear hb hbox hg; have hnb14 := NB430_427.out; have hnc14 := NB427_430.out; have hcz15_0 : w13.cell? ⟨gb430, 0, none⟩ = some (.int .i64 0) := (blk_cell BK430.out 0).trans rfl; have hcz15_1 : w13.cell? ⟨gb430, 1, none⟩ = some (.int .i64 0) := (blk_cell BK430.out 1).trans rfl; have hcz15_2 : w13.cell? ⟨gb430, 2, none⟩ = some (.int .i64 0) := (blk_cell BK430.out 2).trans rfl; have hfz15_0 := blk_frozen BK430.out 0; have hfz15_1 := blk_frozen BK430.out 1; have hfz15_2 := blk_frozen BK430.out 2))
           go_ret
           exact ⟨by first | rfl | (simp [errW_none, errW_some] <;> rfl) | (simp [*, errW_none, errW_some] <;> rfl), by repeat (first | (with_reducible first | exact HB.out | apply below_alloc | apply pw_below_drewN | apply below_drew1 | refine below_set ?_ GE427.out | refine below_set ?_ GE430.out) | exact HB.out)⟩
          ·rw [if_neg c12] at H
           have c12b0 : decide (((rd_T80 ((rd_T74 l0_5 x3_1).f0) x5_2).f2) < ((rd_T80 ((rd_T74 l0_5 x3_1).f0) x5_2).f0)) = false := decide_eq_false c12
           clear c12
           by_cases c16 : ((rd_T80 ((rd_T74 l0_5 x3_1).f0) x5_2).f1) > (a0_4.size : Int)
           ·rw [if_pos c16] at H
            have c16b0 : decide ((a0_4.size : Int) < ((rd_T80 ((rd_T74 l0_5 x3_1).f0) x5_2).f1)) = true := decide_eq_true c16
            clear c16
            obtain rfl := Option.some.inj H
            have p429 : 0 ≤ (x5_2 : Int) := of_decide_eq_true (by first | (with_reducible assumption) | assumption)
            have q429 : x5_2 < (((rd_T74 l0_5 x3_1).f0).length : Int) := of_decide_eq_true (by first | (with_reducible assumption) | assumption)
            obtain ⟨ad429, e429, hx429_0, hx429_1, hx429_2⟩ := at_T80 HR428_0.out x5_2 p429 q429
            cases e429
            replace hx429_0 := (HB.out.cell (World.block_lt_of_cell? w _ hx429_0)).trans hx429_0
            replace hx429_1 := (HB.out.cell (World.block_lt_of_cell? w _ hx429_1)).trans hx429_1
            replace hx429_2 := (HB.out.cell (World.block_lt_of_cell? w _ hx429_2)).trans hx429_2
            replace p429 := eq_true p429
            replace q429 := eq_true q429
            go_wp2_with (first | ((with_reducible refine gate_dst (N := 6) rfl ?_); (try (refine gate_guard (by rfl) ?_; dsimp only)); refine box_event ?hg (N := 6) ?hd (cs := #[.int .i64 0, .int .i64 0, .int .i64 0]) (t := 80) ?hr ?_; (case hd => rfl); (case hg => rfl); (case hr => first | (go_simp; done) | (go_simp; rfl)); intro gb430 hg w17 hbox hb; have n0_ := Aside0.mk (blk_below (g := gb427) (o := .cells #[.string a0_0, .int .i64 a0_1, .int .i64 a0_2, .int .i64 a0_3, .string a0_4, .slice (some ad428) l0_5.length c0_5] 46 (0, 0)) (by (with_reducible repeat (first | refine blk_drewN ?_ _ | refine blk_drew ?_ | refine blk_alloc ?_ _)); exact BK427.out) hb); have n1_ := Aside0.mk (below_step (by repeat (first | (with_reducible first | exact HB.out | apply below_alloc | apply pw_below_drewN | apply below_drew1 | refine below_set ?_ GE427.out) | exact HB.out)) hb); have n2_ := Aside0.mk (hbox); have n3_ := Aside0.mk ((by rw [hg]; exact (below_size (by repeat (first | (with_reducible first | exact HB.out | apply below_alloc | apply pw_below_drewN | apply below_drew1 | refine below_set ?_ GE427.out) | exact HB.out))) : w.heap.size ≤ gb430)); have n4_ := Aside0.mk ((by rw [hg]; exact (below_size (by repeat (first | (with_reducible first | exact HB.out | apply below_alloc | apply pw_below_drewN | apply below_drew1 | refine below_set ?_ GE427.out) | exact HB.out))) : w.heap.size ≤ gb430)); have n5_ := Aside0.mk ((by rw [hg]; exact Nat.ne_of_lt (blk_lt (g := gb427) (o := .cells #[.string a0_0, .int .i64 a0_1, .int .i64 a0_2, .int .i64 a0_3, .string a0_4, .slice (some ad428) l0_5.length c0_5] 46 (0, 0)) (by (with_reducible repeat (first | refine blk_drewN ?_ _ | refine blk_drew ?_ | refine blk_alloc ?_ _)); exact BK427.out)) : gb427 ≠ gb430)); have n6_ := Aside0.mk ((by rw [hg]; exact Nat.ne_of_gt (blk_lt (g := gb427) (o := .cells #[.string a0_0, .int .i64 a0_1, .int .i64 a0_2, .int .i64 a0_3, .string a0_4, .slice (some ad428) l0_5.length c0_5] 46 (0, 0)) (by (with_reducible repeat (first | refine blk_drewN ?_ _ | refine blk_drew ?_ | refine blk_alloc ?_ _)); exact BK427.out)) : gb430 ≠ gb427)); clear BK427; clear HB; have BK427 := n0_; have HB := n1_; have BK430 := n2_; have GW430 := n3_; have GE430 := n4_; have NB427_430 := n5_; have NB430_427 := n6_; clear n0_ n1_ n2_ n3_ n4_ n5_ n6_; clear hb hbox hg; have hnb18 := NB430_427.out; have hnc18 := NB427_430.out; have hcz19_0 : w17.cell? ⟨gb430, 0, none⟩ = some (.int .i64 0) := (blk_cell BK430.out 0).trans rfl; have hcz19_1 : w17.cell? ⟨gb430, 1, none⟩ = some (.int .i64 0) := (blk_cell BK430.out 1).trans rfl; have hcz19_2 : w17.cell? ⟨gb430, 2, none⟩ = some (.int .i64 0) := (blk_cell BK430.out 2).trans rfl; have hfz19_0 := blk_frozen BK430.out 0; have hfz19_1 := blk_frozen BK430.out 1; have hfz19_2 := blk_frozen BK430.out 2; have hcz20_0 : w17.cell? ⟨gb427, 0, none⟩ = some (.string a0_0) := (blk_cell BK427.out 0).trans rfl; have hcz20_1 : w17.cell? ⟨gb427, 1, none⟩ = some (.int .i64 a0_1) := (blk_cell BK427.out 1).trans rfl; have hcz20_2 : w17.cell? ⟨gb427, 2, none⟩ = some (.int .i64 a0_2) := (blk_cell BK427.out 2).trans rfl; have hcz20_3 : w17.cell? ⟨gb427, 3, none⟩ = some (.int .i64 a0_3) := (blk_cell BK427.out 3).trans rfl; have hcz20_4 : w17.cell? ⟨gb427, 4, none⟩ = some (.string a0_4) := (blk_cell BK427.out 4).trans rfl; have hcz20_5 : w17.cell? ⟨gb427, 5, none⟩ = some (.slice (some ad428) l0_5.length c0_5) := (blk_cell BK427.out 5).trans rfl; have hfz20_0 := blk_frozen BK427.out 0; have hfz20_1 := blk_frozen BK427.out 1; have hfz20_2 := blk_frozen BK427.out 2; have hfz20_3 := blk_frozen BK427.out 3; have hfz20_4 := blk_frozen BK427.out 4; have hfz20_5 := blk_frozen BK427.out 5))
            go_ret
            exact ⟨by first | rfl | (simp [errW_none, errW_some] <;> rfl) | (simp [*, errW_none, errW_some] <;> rfl), by repeat (first | (with_reducible first | exact HB.out | apply below_alloc | apply pw_below_drewN | apply below_drew1 | refine below_set ?_ GE427.out | refine below_set ?_ GE430.out) | exact HB.out)⟩
           ·rw [if_neg c16] at H
            have c16b0 : decide ((a0_4.size : Int) < ((rd_T80 ((rd_T74 l0_5 x3_1).f0) x5_2).f1)) = false := decide_eq_false c16
            clear c16
            by_cases c21 : ((rd_T80 ((rd_T74 l0_5 x3_1).f0) x5_2).f1) < ((rd_T80 ((rd_T74 l0_5 x3_1).f0) x5_2).f2)
            ·rw [if_pos c21] at H
             have c21b0 : decide (((rd_T80 ((rd_T74 l0_5 x3_1).f0) x5_2).f1) < ((rd_T80 ((rd_T74 l0_5 x3_1).f0) x5_2).f2)) = true := decide_eq_true c21
             clear c21
             obtain rfl := Option.some.inj H
             have p429 : 0 ≤ (x5_2 : Int) := of_decide_eq_true (by first | (with_reducible assumption) | assumption)
             have q429 : x5_2 < (((rd_T74 l0_5 x3_1).f0).length : Int) := of_decide_eq_true (by first | (with_reducible assumption) | assumption)
             obtain ⟨ad429, e429, hx429_0, hx429_1, hx429_2⟩ := at_T80 HR428_0.out x5_2 p429 q429
             cases e429
             replace hx429_0 := (HB.out.cell (World.block_lt_of_cell? w _ hx429_0)).trans hx429_0
             replace hx429_1 := (HB.out.cell (World.block_lt_of_cell? w _ hx429_1)).trans hx429_1
             replace hx429_2 := (HB.out.cell (World.block_lt_of_cell? w _ hx429_2)).trans hx429_2
             replace p429 := eq_true p429
             replace q429 := eq_true q429
             go_wp2_with (first | ((with_reducible refine gate_dst (N := 6) rfl ?_); (try (refine gate_guard (by rfl) ?_; dsimp only)); refine box_event ?hg (N := 6) ?hd (cs := #[.int .i64 0, .int .i64 0, .int .i64 0]) (t := 80) ?hr ?_; (case hd => rfl); (case hg => rfl); (case hr => first | (go_simp; done) | (go_simp; rfl)); intro gb430 hg w22 hbox hb; have n0_ := Aside0.mk (blk_below (g := gb427) (o := .cells #[.string a0_0, .int .i64 a0_1, .int .i64 a0_2, .int .i64 a0_3, .string a0_4, .slice (some ad428) l0_5.length c0_5] 46 (0, 0)) (by (with_reducible repeat (first | refine blk_drewN ?_ _ | refine blk_drew ?_ | refine blk_alloc ?_ _)); exact BK427.out) hb); have n1_ := Aside0.mk (below_step (by repeat (first | (with_reducible first | exact HB.out | apply below_alloc | apply pw_below_drewN | apply below_drew1 | refine below_set ?_ GE427.out) | exact HB.out)) hb); have n2_ := Aside0.mk (hbox); have n3_ := Aside0.mk ((by rw [hg]; exact (below_size (by repeat (first | (with_reducible first | exact HB.out | apply below_alloc | apply pw_below_drewN | apply below_drew1 | refine below_set ?_ GE427.out) | exact HB.out))) : w.heap.size ≤ gb430)); have n4_ := Aside0.mk ((by rw [hg]; exact (below_size (by repeat (first | (with_reducible first | exact HB.out | apply below_alloc | apply pw_below_drewN | apply below_drew1 | refine below_set ?_ GE427.out) | exact HB.out))) : w.heap.size ≤ gb430)); have n5_ := Aside0.mk ((by rw [hg]; exact Nat.ne_of_lt (blk_lt (g := gb427) (o := .cells #[.string a0_0, .int .i64 a0_1, .int .i64 a0_2, .int .i64 a0_3, .string a0_4, .slice (some ad428) l0_5.length c0_5] 46 (0, 0)) (by (with_reducible repeat (first | refine blk_drewN ?_ _ | refine blk_drew ?_ | refine blk_alloc ?_ _)); exact BK427.out)) : gb427 ≠ gb430)); have n6_ := Aside0.mk ((by rw [hg]; exact Nat.ne_of_gt (blk_lt (g := gb427) (o := .cells #[.string a0_0, .int .i64 a0_1, .int .i64 a0_2, .int .i64 a0_3, .string a0_4, .slice (some ad428) l0_5.length c0_5] 46 (0, 0)) (by (with_reducible repeat (first | refine blk_drewN ?_ _ | refine blk_drew ?_ | refine blk_alloc ?_ _)); exact BK427.out)) : gb430 ≠ gb427)); clear BK427; clear HB; have BK427 := n0_; have HB := n1_; have BK430 := n2_; have GW430 := n3_; have GE430 := n4_; have NB427_430 := n5_; have NB430_427 := n6_; clear n0_ n1_ n2_ n3_ n4_ n5_ n6_; clear hb hbox hg; have hnb23 := NB430_427.out; have hnc23 := NB427_430.out; have hcz24_0 : w22.cell? ⟨gb430, 0, none⟩ = some (.int .i64 0) := (blk_cell BK430.out 0).trans rfl; have hcz24_1 : w22.cell? ⟨gb430, 1, none⟩ = some (.int .i64 0) := (blk_cell BK430.out 1).trans rfl; have hcz24_2 : w22.cell? ⟨gb430, 2, none⟩ = some (.int .i64 0) := (blk_cell BK430.out 2).trans rfl; have hfz24_0 := blk_frozen BK430.out 0; have hfz24_1 := blk_frozen BK430.out 1; have hfz24_2 := blk_frozen BK430.out 2; have hcz25_0 : w22.cell? ⟨gb427, 0, none⟩ = some (.string a0_0) := (blk_cell BK427.out 0).trans rfl; have hcz25_1 : w22.cell? ⟨gb427, 1, none⟩ = some (.int .i64 a0_1) := (blk_cell BK427.out 1).trans rfl; have hcz25_2 : w22.cell? ⟨gb427, 2, none⟩ = some (.int .i64 a0_2) := (blk_cell BK427.out 2).trans rfl; have hcz25_3 : w22.cell? ⟨gb427, 3, none⟩ = some (.int .i64 a0_3) := (blk_cell BK427.out 3).trans rfl; have hcz25_4 : w22.cell? ⟨gb427, 4, none⟩ = some (.string a0_4) := (blk_cell BK427.out 4).trans rfl; have hcz25_5 : w22.cell? ⟨gb427, 5, none⟩ = some (.slice (some ad428) l0_5.length c0_5) := (blk_cell BK427.out 5).trans rfl; have hfz25_0 := blk_frozen BK427.out 0; have hfz25_1 := blk_frozen BK427.out 1; have hfz25_2 := blk_frozen BK427.out 2; have hfz25_3 := blk_frozen BK427.out 3; have hfz25_4 := blk_frozen BK427.out 4; have hfz25_5 := blk_frozen BK427.out 5))
             go_ret
             exact ⟨by first | rfl | (simp [errW_none, errW_some] <;> rfl) | (simp [*, errW_none, errW_some] <;> rfl), by repeat (first | (with_reducible first | exact HB.out | apply below_alloc | apply pw_below_drewN | apply below_drew1 | refine below_set ?_ GE427.out | refine below_set ?_ GE430.out) | exact HB.out)⟩
            ·rw [if_neg c21] at H
             have c21b0 : decide (((rd_T80 ((rd_T74 l0_5 x3_1).f0) x5_2).f1) < ((rd_T80 ((rd_T74 l0_5 x3_1).f0) x5_2).f2)) = false := decide_eq_false c21
             clear c21
             by_cases c26 : (wrap64 (((rd_T80 ((rd_T74 l0_5 x3_1).f0) x5_2).f1) - ((rd_T80 ((rd_T74 l0_5 x3_1).f0) x5_2).f2))) < 4
             ·rw [if_pos c26] at H
              have c26b0 : decide ((wrap64 (((rd_T80 ((rd_T74 l0_5 x3_1).f0) x5_2).f1) - ((rd_T80 ((rd_T74 l0_5 x3_1).f0) x5_2).f2))) < 4) = true := decide_eq_true c26
              clear c26
              obtain rfl := Option.some.inj H
              have p429 : 0 ≤ (x5_2 : Int) := of_decide_eq_true (by first | (with_reducible assumption) | assumption)
              have q429 : x5_2 < (((rd_T74 l0_5 x3_1).f0).length : Int) := of_decide_eq_true (by first | (with_reducible assumption) | assumption)
              obtain ⟨ad429, e429, hx429_0, hx429_1, hx429_2⟩ := at_T80 HR428_0.out x5_2 p429 q429
              cases e429
              replace hx429_0 := (HB.out.cell (World.block_lt_of_cell? w _ hx429_0)).trans hx429_0
              replace hx429_1 := (HB.out.cell (World.block_lt_of_cell? w _ hx429_1)).trans hx429_1
              replace hx429_2 := (HB.out.cell (World.block_lt_of_cell? w _ hx429_2)).trans hx429_2
              replace p429 := eq_true p429
              replace q429 := eq_true q429
              go_wp2_with (first | ((with_reducible refine gate_dst (N := 6) rfl ?_); (try (refine gate_guard (by rfl) ?_; dsimp only)); refine box_event ?hg (N := 6) ?hd (cs := #[.int .i64 0, .int .i64 0, .int .i64 0]) (t := 80) ?hr ?_; (case hd => rfl); (case hg => rfl); (case hr => first | (go_simp; done) | (go_simp; rfl)); intro gb430 hg w27 hbox hb; have n0_ := Aside0.mk (blk_below (g := gb427) (o := .cells #[.string a0_0, .int .i64 a0_1, .int .i64 a0_2, .int .i64 a0_3, .string a0_4, .slice (some ad428) l0_5.length c0_5] 46 (0, 0)) (by (with_reducible repeat (first | refine blk_drewN ?_ _ | refine blk_drew ?_ | refine blk_alloc ?_ _)); exact BK427.out) hb); have n1_ := Aside0.mk (below_step (by repeat (first | (with_reducible first | exact HB.out | apply below_alloc | apply pw_below_drewN | apply below_drew1 | refine below_set ?_ GE427.out) | exact HB.out)) hb); have n2_ := Aside0.mk (hbox); have n3_ := Aside0.mk ((by rw [hg]; exact (below_size (by repeat (first | (with_reducible first | exact HB.out | apply below_alloc | apply pw_below_drewN | apply below_drew1 | refine below_set ?_ GE427.out) | exact HB.out))) : w.heap.size ≤ gb430)); have n4_ := Aside0.mk ((by rw [hg]; exact (below_size (by repeat (first | (with_reducible first | exact HB.out | apply below_alloc | apply pw_below_drewN | apply below_drew1 | refine below_set ?_ GE427.out) | exact HB.out))) : w.heap.size ≤ gb430)); have n5_ := Aside0.mk ((by rw [hg]; exact Nat.ne_of_lt (blk_lt (g := gb427) (o := .cells #[.string a0_0, .int .i64 a0_1, .int .i64 a0_2, .int .i64 a0_3, .string a0_4, .slice (some ad428) l0_5.length c0_5] 46 (0, 0)) (by (with_reducible repeat (first | refine blk_drewN ?_ _ | refine blk_drew ?_ | refine blk_alloc ?_ _)); exact BK427.out)) : gb427 ≠ gb430)); have n6_ := Aside0.mk ((by rw [hg]; exact Nat.ne_of_gt (blk_lt (g := gb427) (o := .cells #[.string a0_0, .int .i64 a0_1, .int .i64 a0_2, .int .i64 a0_3, .string a0_4, .slice (some ad428) l0_5.length c0_5] 46 (0, 0)) (by (with_reducible repeat (first | refine blk_drewN ?_ _ | refine blk_drew ?_ | refine blk_alloc ?_ _)); exact BK427.out)) : gb430 ≠ gb427)); clear BK427; clear HB; have BK427 := n0_; have HB := n1_; have BK430 := n2_; have GW430 := n3_; have GE430 := n4_; have NB427_430 := n5_; have NB430_427 := n6_; clear n0_ n1_ n2_ n3_ n4_ n5_ n6_; clear hb hbox hg; have hnb28 := NB430_427.out; have hnc28 := NB427_430.out; have hcz29_0 : w27.cell? ⟨gb430, 0, none⟩ = some (.int .i64 0) := (blk_cell BK430.out 0).trans rfl; have hcz29_1 : w27.cell? ⟨gb430, 1, none⟩ = some (.int .i64 0) := (blk_cell BK430.out 1).trans rfl; have hcz29_2 : w27.cell? ⟨gb430, 2, none⟩ = some (.int .i64 0) := (blk_cell BK430.out 2).trans rfl; have hfz29_0 := blk_frozen BK430.out 0; have hfz29_1 := blk_frozen BK430.out 1; have hfz29_2 := blk_frozen BK430.out 2; have hcz30_0 : w27.cell? ⟨gb427, 0, none⟩ = some (.string a0_0) := (blk_cell BK427.out 0).trans rfl; have hcz30_1 : w27.cell? ⟨gb427, 1, none⟩ = some (.int .i64 a0_1) := (blk_cell BK427.out 1).trans rfl; have hcz30_2 : w27.cell? ⟨gb427, 2, none⟩ = some (.int .i64 a0_2) := (blk_cell BK427.out 2).trans rfl; have hcz30_3 : w27.cell? ⟨gb427, 3, none⟩ = some (.int .i64 a0_3) := (blk_cell BK427.out 3).trans rfl; have hcz30_4 : w27.cell? ⟨gb427, 4, none⟩ = some (.string a0_4) := (blk_cell BK427.out 4).trans rfl; have hcz30_5 : w27.cell? ⟨gb427, 5, none⟩ = some (.slice (some ad428) l0_5.length c0_5) := (blk_cell BK427.out 5).trans rfl; have hfz30_0 := blk_frozen BK427.out 0; have hfz30_1 := blk_frozen BK427.out 1; have hfz30_2 := blk_frozen BK427.out 2; have hfz30_3 := blk_frozen BK427.out 3; have hfz30_4 := blk_frozen BK427.out 4; have hfz30_5 := blk_frozen BK427.out 5))
              go_ret
              exact ⟨by first | rfl | (simp [errW_none, errW_some] <;> rfl) | (simp [*, errW_none, errW_some] <;> rfl), by repeat (first | (with_reducible first | exact HB.out | apply below_alloc | apply pw_below_drewN | apply below_drew1 | refine below_set ?_ GE427.out | refine below_set ?_ GE430.out) | exact HB.out)⟩
             ·rw [if_neg c26] at H
              have c26b0 : decide ((wrap64 (((rd_T80 ((rd_T74 l0_5 x3_1).f0) x5_2).f1) - ((rd_T80 ((rd_T74 l0_5 x3_1).f0) x5_2).f2))) < 4) = false := decide_eq_false c26
              clear c26
              have H' := Aside0.mk H
              clear H
              have p429 : 0 ≤ (x5_2 : Int) := of_decide_eq_true (by first | (with_reducible assumption) | assumption)
              have q429 : x5_2 < (((rd_T74 l0_5 x3_1).f0).length : Int) := of_decide_eq_true (by first | (with_reducible assumption) | assumption)
              obtain ⟨ad429, e429, hx429_0, hx429_1, hx429_2⟩ := at_T80 HR428_0.out x5_2 p429 q429
              cases e429
              replace hx429_0 := (HB.out.cell (World.block_lt_of_cell? w _ hx429_0)).trans hx429_0
              replace hx429_1 := (HB.out.cell (World.block_lt_of_cell? w _ hx429_1)).trans hx429_1
              replace hx429_2 := (HB.out.cell (World.block_lt_of_cell? w _ hx429_2)).trans hx429_2
              replace p429 := eq_true p429
              replace q429 := eq_true q429
              go_wp2_with (first | ((with_reducible refine gate_dst (N := 6) rfl ?_); (try (refine gate_guard (by rfl) ?_; dsimp only)); refine box_event ?hg (N := 6) ?hd (cs := #[.int .i64 0, .int .i64 0, .int .i64 0]) (t := 80) ?hr ?_; (case hd => rfl); (case hg => rfl); (case hr => first | (go_simp; done) | (go_simp; rfl)); intro gb430 hg w31 hbox hb; have n0_ := Aside0.mk (blk_below (g := gb427) (o := .cells #[.string a0_0, .int .i64 a0_1, .int .i64 a0_2, .int .i64 a0_3, .string a0_4, .slice (some ad428) l0_5.length c0_5] 46 (0, 0)) (by (with_reducible repeat (first | refine blk_drewN ?_ _ | refine blk_drew ?_ | refine blk_alloc ?_ _)); exact BK427.out) hb); have n1_ := Aside0.mk (below_step (by repeat (first | (with_reducible first | exact HB.out | apply below_alloc | apply pw_below_drewN | apply below_drew1 | refine below_set ?_ GE427.out) | exact HB.out)) hb); have n2_ := Aside0.mk (hbox); have n3_ := Aside0.mk ((by rw [hg]; exact (below_size (by repeat (first | (with_reducible first | exact HB.out | apply below_alloc | apply pw_below_drewN | apply below_drew1 | refine below_set ?_ GE427.out) | exact HB.out))) : w.heap.size ≤ gb430)); have n4_ := Aside0.mk ((by rw [hg]; exact (below_size (by repeat (first | (with_reducible first | exact HB.out | apply below_alloc | apply pw_below_drewN | apply below_drew1 | refine below_set ?_ GE427.out) | exact HB.out))) : w.heap.size ≤ gb430)); have n5_ := Aside0.mk ((by rw [hg]; exact Nat.ne_of_lt (blk_lt (g := gb427) (o := .cells #[.string a0_0, .int .i64 a0_1, .int .i64 a0_2, .int .i64 a0_3, .string a0_4, .slice (some ad428) l0_5.length c0_5] 46 (0, 0)) (by (with_reducible repeat (first | refine blk_drewN ?_ _ | refine blk_drew ?_ | refine blk_alloc ?_ _)); exact BK427.out)) : gb427 ≠ gb430)); have n6_ := Aside0.mk ((by rw [hg]; exact Nat.ne_of_gt (blk_lt (g := gb427) (o := .cells #[.string a0_0, .int .i64 a0_1, .int .i64 a0_2, .int .i64 a0_3, .string a0_4, .slice (some ad428) l0_5.length c0_5] 46 (0, 0)) (by (with_reducible repeat (first | refine blk_drewN ?_ _ | refine blk_drew ?_ | refine blk_alloc ?_ _)); exact BK427.out)) : gb430 ≠ gb427)); clear BK427; clear HB; have BK427 := n0_; have HB := n1_; have BK430 := n2_; have GW430 := n3_; have GE430 := n4_; have NB427_430 := n5_; have NB430_427 := n6_; clear n0_ n1_ n2_ n3_ n4_ n5_ n6_; clear hb hbox hg; have hnb32 := NB430_427.out; have hnc32 := NB427_430.out; have hcz33_0 : w31.cell? ⟨gb430, 0, none⟩ = some (.int .i64 0) := (blk_cell BK430.out 0).trans rfl; have hcz33_1 : w31.cell? ⟨gb430, 1, none⟩ = some (.int .i64 0) := (blk_cell BK430.out 1).trans rfl; have hcz33_2 : w31.cell? ⟨gb430, 2, none⟩ = some (.int .i64 0) := (blk_cell BK430.out 2).trans rfl; have hfz33_0 := blk_frozen BK430.out 0; have hfz33_1 := blk_frozen BK430.out 1; have hfz33_2 := blk_frozen BK430.out 2; have hcz34_0 : w31.cell? ⟨gb427, 0, none⟩ = some (.string a0_0) := (blk_cell BK427.out 0).trans rfl; have hcz34_1 : w31.cell? ⟨gb427, 1, none⟩ = some (.int .i64 a0_1) := (blk_cell BK427.out 1).trans rfl; have hcz34_2 : w31.cell? ⟨gb427, 2, none⟩ = some (.int .i64 a0_2) := (blk_cell BK427.out 2).trans rfl; have hcz34_3 : w31.cell? ⟨gb427, 3, none⟩ = some (.int .i64 a0_3) := (blk_cell BK427.out 3).trans rfl; have hcz34_4 : w31.cell? ⟨gb427, 4, none⟩ = some (.string a0_4) := (blk_cell BK427.out 4).trans rfl; have hcz34_5 : w31.cell? ⟨gb427, 5, none⟩ = some (.slice (some ad428) l0_5.length c0_5) := (blk_cell BK427.out 5).trans rfl; have hfz34_0 := blk_frozen BK427.out 0; have hfz34_1 := blk_frozen BK427.out 1; have hfz34_2 := blk_frozen BK427.out 2; have hfz34_3 := blk_frozen BK427.out 3; have hfz34_4 := blk_frozen BK427.out 4; have hfz34_5 := blk_frozen BK427.out 5))
              go_roundg k2
              case measure => have := HK1.out; have := HK2.out; omega
              case rel => exact ⟨(wrap64 (x5_2 + 1)), (by first | rfl | (simp; done) | (simp [*]; done)), H', ⟨by have := HK1.out; have := HK2.out; omega⟩, ⟨by (with_reducible repeat (first | refine blk_drewN ?_ _ | refine blk_drew ?_ | refine blk_alloc ?_ _)); refine blk_far ?_ NB427_430.out _; (with_reducible repeat (first | refine blk_drewN ?_ _ | refine blk_drew ?_ | refine blk_alloc ?_ _)); refine blk_far ?_ NB427_430.out _; (with_reducible repeat (first | refine blk_drewN ?_ _ | refine blk_drew ?_ | refine blk_alloc ?_ _)); refine blk_far ?_ NB427_430.out _; (with_reducible repeat (first | refine blk_drewN ?_ _ | refine blk_drew ?_ | refine blk_alloc ?_ _)); exact BK427.out⟩, ⟨by repeat (first | (with_reducible first | exact HB.out | apply below_alloc | apply pw_below_drewN | apply below_drew1 | refine below_set ?_ GE427.out | refine below_set ?_ GE430.out) | exact HB.out)⟩⟩
        ·rw [if_neg c7] at H
         exact absurd H (by simp)
       ·rw [if_neg c6] at H
        have c6b0 : decide (x5_2 < (((rd_T74 l0_5 x3_1).f0).length : Int)) = false := decide_eq_false c6
        clear c6
        by_cases c35 : (((rd_T74 l0_5 x3_1).f0).length : Int) = 0
        ·rw [if_pos c35] at H
         have c35b0 : ((((rd_T74 l0_5 x3_1).f0).length : Int) == 0) = true := beq_iff_eq.mpr c35
         have c35b1 : ((((rd_T74 l0_5 x3_1).f0).length : Int) != 0) = false := bne_eq_false_iff_eq.mpr c35
         clear c35
         obtain rfl := Option.some.inj H
         go_wp2
         go_ret
         exact ⟨by first | rfl | (simp [errW_none, errW_some] <;> rfl) | (simp [*, errW_none, errW_some] <;> rfl), by repeat (first | (with_reducible first | exact HB.out | apply below_alloc | apply pw_below_drewN | apply below_drew1 | refine below_set ?_ GE427.out) | exact HB.out)⟩
        ·rw [if_neg c35] at H
         have c35b0 : ((((rd_T74 l0_5 x3_1).f0).length : Int) == 0) = false := beq_eq_false_iff_ne.mpr c35
         have c35b1 : ((((rd_T74 l0_5 x3_1).f0).length : Int) != 0) = true := bne_iff_ne.mpr c35
         have c35b2 : ¬ (((rd_T74 l0_5 x3_1).f0) = []) := fun h_ => c35 (by rw [h_]; rfl)
         have H' := Aside0.mk H
         clear H
         go_wp2
         go_roundg k2
         case measure => have := HK1.out; have := HK2.out; omega
         case rel => exact ⟨(wrap64 (x3_1 + 1)), (by first | rfl | (simp; done) | (simp [*]; done)), H', ⟨by have := HK1.out; have := HK2.out; omega⟩, ⟨by (with_reducible repeat (first | refine blk_drewN ?_ _ | refine blk_drew ?_ | refine blk_alloc ?_ _)); exact BK427.out⟩, ⟨by repeat (first | (with_reducible first | exact HB.out | apply below_alloc | apply pw_below_drewN | apply below_drew1 | refine below_set ?_ GE427.out) | exact HB.out)⟩⟩
    ·rw [if_neg c4] at H
     exact absurd H (by simp)
   ·rw [if_neg c3] at H
    have c3b0 : decide (x3_1 < (l0_5.length : Int)) = false := decide_eq_false c3
    clear c3
    obtain rfl := Option.some.inj H
    have hcz36_0 : wr.cell? ⟨gb427, 0, none⟩ = some (.string a0_0) := (blk_cell BK427.out 0).trans rfl
    have hcz36_1 : wr.cell? ⟨gb427, 1, none⟩ = some (.int .i64 a0_1) := (blk_cell BK427.out 1).trans rfl
    have hcz36_2 : wr.cell? ⟨gb427, 2, none⟩ = some (.int .i64 a0_2) := (blk_cell BK427.out 2).trans rfl
    have hcz36_3 : wr.cell? ⟨gb427, 3, none⟩ = some (.int .i64 a0_3) := (blk_cell BK427.out 3).trans rfl
    have hcz36_4 : wr.cell? ⟨gb427, 4, none⟩ = some (.string a0_4) := (blk_cell BK427.out 4).trans rfl
    have hcz36_5 : wr.cell? ⟨gb427, 5, none⟩ = some (.slice A0_5 l0_5.length c0_5) := (blk_cell BK427.out 5).trans rfl
    have hfz36_0 := blk_frozen BK427.out 0
    have hfz36_1 := blk_frozen BK427.out 1
    have hfz36_2 := blk_frozen BK427.out 2
    have hfz36_3 := blk_frozen BK427.out 3
    have hfz36_4 := blk_frozen BK427.out 4
    have hfz36_5 := blk_frozen BK427.out 5
    go_wp2
    go_ret
    exact ⟨by first | rfl | (simp [errW_none, errW_some] <;> rfl) | (simp [*, errW_none, errW_some] <;> rfl), by repeat (first | (with_reducible first | exact HB.out | apply below_alloc | apply pw_below_drewN | apply below_drew1 | refine below_set ?_ GE427.out) | exact HB.out)⟩
def wellspringref12_Time.f (a0 : Int) : Option (Bool) := if a0 ≥ 0 then (some (decide (a0 ≤ 1099511627776))) else (some false)
set_option maxHeartbeats 8000000 in
set_option maxRecDepth 100000 in
theorem wellspringref12_Time.calls (a0 : Int) (r : Bool) (w : World) (h : wellspringref12_Time.f a0 = some r) :
  Calls Try.prog 30 #[.int .i64 a0] w fun e w' => e = .returned (.bool r) ∧ Drawn0 w w' := by
 have H : (if a0 ≥ 0 then (some (decide (a0 ≤ 1099511627776))) else (some false)) = some r := h
 clear h
 by_cases c2 : a0 ≥ 0
 ·rw [if_pos c2] at H
  have c2b0 : decide (0 ≤ a0) = true := decide_eq_true c2
  clear c2
  obtain rfl := Option.some.inj H
  go_enter Try.func30, Try.ntmps30
  go_wp2
  go_ret
  exact ⟨by first | rfl | (simp; done) | (simp [*]; done), by repeat (first | exact Drawn0.refl _ | apply Drawn0.step)⟩
 ·rw [if_neg c2] at H
  have c2b0 : decide (0 ≤ a0) = false := decide_eq_false c2
  clear c2
  obtain rfl := Option.some.inj H
  go_enter Try.func30, Try.ntmps30
  go_wp2
  go_ret
  exact ⟨by first | rfl | (simp; done) | (simp [*]; done), by repeat (first | exact Drawn0.refl _ | apply Drawn0.step)⟩
def wellspringref12_Live.f (a0 : Int) (a1 : Int) : Option (Bool) := (wellspringref12_Time.f a0).bind fun t431 => (if t431 = true then (some (decide (a1 > a0))) else (some false))
set_option maxHeartbeats 8000000 in
set_option maxRecDepth 100000 in
theorem wellspringref12_Live.calls (a0 : Int) (a1 : Int) (r : Bool) (w : World) (h : wellspringref12_Live.f a0 a1 = some r) :
  Calls Try.prog 34 #[.int .i64 a0, .int .i64 a1] w fun e w' => e = .returned (.bool r) ∧ Drawn0 w w' := by
 have H : ((wellspringref12_Time.f a0).bind fun t431 => (if t431 = true then (some (decide (a1 > a0))) else (some false))) = some r := h
 clear h
 replace H := Option.bind_eq_some_iff.mp H
 obtain ⟨t431, A30, H⟩ := H
 replace H : (if t431 = true then (some (decide (a1 > a0))) else (some false)) = some r := H
 have A3 := Aside0.mk A30
 clear A30
 by_cases c4 : t431 = true
 ·subst c4
  have H1 : (some (decide (a1 > a0))) = some r := by rw [if_pos rfl] at H; exact H
  clear H
  have H := H1
  clear H1
  obtain rfl := Option.some.inj H
  go_enter Try.func34, Try.ntmps34
  go_wp2_with (first | ((with_reducible refine gate_callee (f := 30) rfl ?_); refine goesL_ (some 6) rfl rfl Try.func30 (by kernel_rfl) rfl #[.int .i64 a0] rfl (by (try simp only [List.map_toArray, List.map_cons, List.map_nil]); first | done | rfl | (simp only [List.length_drop, List.length_take]; rfl)) ?_; (with_reducible refine (wellspringref12_Time.calls a0 true _ A3.out).mono ?_); rintro e w' ⟨rfl, ⟨nd, rfl⟩⟩; refine ⟨_, rfl, ?_⟩))
  go_ret
  exact ⟨by first | rfl | (simp; done) | (simp [*]; done), by repeat (first | exact Drawn0.refl _ | apply Drawn0.step)⟩
 ·replace c4 := Bool.eq_false_iff.mpr c4
  subst c4
  have H1 : (some false) = some r := by rw [if_neg (show ¬ (false = true) by decide)] at H; exact H
  clear H
  have H := H1
  clear H1
  obtain rfl := Option.some.inj H
  go_enter Try.func34, Try.ntmps34
  go_wp2_with (first | ((with_reducible refine gate_callee (f := 30) rfl ?_); refine goesL_ (some 6) rfl rfl Try.func30 (by kernel_rfl) rfl #[.int .i64 a0] rfl (by (try simp only [List.map_toArray, List.map_cons, List.map_nil]); first | done | rfl | (simp only [List.length_drop, List.length_take]; rfl)) ?_; (with_reducible refine (wellspringref12_Time.calls a0 false _ A3.out).mono ?_); rintro e w' ⟨rfl, ⟨nd, rfl⟩⟩; refine ⟨_, rfl, ?_⟩))
  go_ret
  exact ⟨by first | rfl | (simp; done) | (simp [*]; done), by repeat (first | exact Drawn0.refl _ | apply Drawn0.step)⟩
def wellspringref18_Live.l0 : Nat → Int → Int → ByteArray → Int → Int → Int → ByteArray → List (S74) → Option (Bool)
 | 0, _, _, _, _, _, _, _, _ => none
 | k + 1, x1, x5, x433000, x433001, x433002, x433003, x433004, x433005 => if x5 < (x433005.length : Int) then (if 0 ≤ x5 then ((wellspringref12_Live.f x1 ((rd_T74 x433005 x5).f1)).bind fun t434 => (if t434 = true then (wellspringref18_Live.l0 k x1 (wrap64 (x5 + 1)) x433000 x433001 x433002 x433003 x433004 x433005) else (some false))) else (none)) else ((wellspringref12_Time.f x1).bind fun t435 => (some t435))
def wellspringref18_Live.f (k : Nat) (a0_0 : ByteArray) (a0_1 : Int) (a0_2 : Int) (a0_3 : Int) (a0_4 : ByteArray) (l0_5 : List (S74)) (a1 : Int) : Option (Bool) := wellspringref18_Live.l0 k a1 0 a0_0 a0_1 a0_2 a0_3 a0_4 l0_5
theorem wellspringref18_Live.mono_l : ∀ k, (∀ y0 y1 y2 y3 y4 y5 y6 y7, LeO (wellspringref18_Live.l0 k y0 y1 y2 y3 y4 y5 y6 y7) (wellspringref18_Live.l0 (k + 1) y0 y1 y2 y3 y4 y5 y6 y7))
 | 0 => fun _ _ _ _ _ _ _ _ r h => by simp [wellspringref18_Live.l0] at h
 | k + 1 => by
  have ih0 := wellspringref18_Live.mono_l k
  ·intro y0 y1 y2 y3 y4 y5 y6 y7
   unfold wellspringref18_Live.l0
   repeat' first
   | (with_reducible exact ih0 _ _ _ _ _ _ _ _)
   | (with_reducible exact LeO.refl _)
   | (with_reducible exact LeO.none _)
   | (with_reducible refine LeO.ite ?_ ?_)
   | (with_reducible refine LeO.bind ?_ (fun _ => ?_))
theorem wellspringref18_Live.mono : ∀ a0 a1 a2 a3 a4 a5 a6 k, LeO (wellspringref18_Live.f k a0 a1 a2 a3 a4 a5 a6) (wellspringref18_Live.f (k + 1) a0 a1 a2 a3 a4 a5 a6) := by
 intro a0 a1 a2 a3 a4 a5 a6 k
 have ih0 := wellspringref18_Live.mono_l k
 unfold wellspringref18_Live.f
 repeat' first
   | (with_reducible exact ih0 _ _ _ _ _ _ _ _)
   | (with_reducible exact LeO.refl _)
   | (with_reducible exact LeO.none _)
   | (with_reducible refine LeO.ite ?_ ?_)
   | (with_reducible refine LeO.bind ?_ (fun _ => ?_))
set_option maxHeartbeats 8000000 in
set_option maxRecDepth 100000 in
theorem wellspringref18_Live.calls (k : Nat) (a0_0 : ByteArray) (a0_1 : Int) (a0_2 : Int) (a0_3 : Int) (a0_4 : ByteArray) (A0_5 : Option Addr) (c0_5 : Nat) (l0_5 : List (S74)) (a1 : Int) (r : Bool) (w : World) (hr0_5 : Kd.C k74 w A0_5 l0_5.length l0_5) (hc0_5 : l0_5.length ≤ c0_5) (h : wellspringref18_Live.f k a0_0 a0_1 a0_2 a0_3 a0_4 l0_5 a1 = some r) :
  Calls Try.prog 21 #[.agg #[.string a0_0, .int .i64 a0_1, .int .i64 a0_2, .int .i64 a0_3, .string a0_4, .slice A0_5 l0_5.length c0_5], .int .i64 a1] w fun e w' => e = .returned (.bool r) ∧ Below w.heap.size w w' := by
 have hu46 := Try.underlying46
 have HR0_5 := Aside0.mk hr0_5
 have HC0_5 := Aside0.mk hc0_5
 clear hr0_5 hc0_5
 have HB := Aside0.mk (Below.refl w.heap.size w)
 have H : (wellspringref18_Live.l0 k a1 0 a0_0 a0_1 a0_2 a0_3 a0_4 l0_5) = some r := h
 clear h
 have H' := Aside0.mk H
 clear H
 go_enter Try.func21, Try.ntmps21
 go_wp2_with (first | ((with_reducible refine gate_dst (N := 2) rfl ?_); refine box_event ?hg (N := 2) ?hd (cs := #[.string a0_0, .int .i64 a0_1, .int .i64 a0_2, .int .i64 a0_3, .string a0_4, .slice A0_5 l0_5.length c0_5]) (t := 46) ?hr ?_; (case hd => rfl); (case hg => rfl); (case hr => first | (go_simp; done) | (go_simp; rfl)); intro gb432 hg w3 hbox hb; have n0_ := Aside0.mk (below_step (by repeat (first | (with_reducible first | exact HB.out | apply below_alloc | apply pw_below_drewN | apply below_drew1) | exact HB.out)) hb); have n1_ := Aside0.mk (hbox); have n2_ := Aside0.mk ((by rw [hg]; exact (below_size (by repeat (first | (with_reducible first | exact HB.out | apply below_alloc | apply pw_below_drewN | apply below_drew1) | exact HB.out))) : w.heap.size ≤ gb432)); have n3_ := Aside0.mk ((by rw [hg]; exact (below_size (by repeat (first | (with_reducible first | exact HB.out | apply below_alloc | apply pw_below_drewN | apply below_drew1) | exact HB.out))) : w.heap.size ≤ gb432)); clear HB; have HB := n0_; have BK432 := n1_; have GW432 := n2_; have GE432 := n3_; clear n0_ n1_ n2_ n3_; clear hb hbox hg))
 go_loopg [5] k (fun kq v5 w' => ∃ (x5_1 : Int), v5 = .int .i64 x5_1 ∧ Aside0 (wellspringref18_Live.l0 kq a1 x5_1 a0_0 a0_1 a0_2 a0_3 a0_4 l0_5 = some r) ∧ Aside0 (kq ≤ k) ∧ Aside0 (w'.heap[gb432]? = some (.cells #[.string a0_0, .int .i64 a0_1, .int .i64 a0_2, .int .i64 a0_3, .string a0_4, (.slice A0_5 l0_5.length c0_5)] 46 (0, 0))) ∧ Aside0 (Below w.heap.size w w'))
 case atStart => exact ⟨(0), (by first | rfl | (simp; done) | (simp [*]; done)), H', ⟨Nat.le_refl _⟩, ⟨by (with_reducible repeat (first | refine blk_drewN ?_ _ | refine blk_drew ?_ | refine blk_alloc ?_ _)); exact BK432.out⟩, ⟨by repeat (first | (with_reducible first | exact HB.out | apply below_alloc | apply pw_below_drewN | apply below_drew1 | refine below_set ?_ GE432.out) | exact HB.out)⟩⟩
 case round =>
  clear H'
  try clear c2
  try clear p2
  obtain ⟨x5_1, rfl, HA, HK1, BK432, HB⟩ := hrel
  cases gk with
  | zero => exact absurd HA.out (by simp [wellspringref18_Live.l0])
  | succ k1 =>
   have H := HA.out
   clear HA
   simp only [wellspringref18_Live.l0] at H
   by_cases c4 : x5_1 < (l0_5.length : Int)
   ·rw [if_pos c4] at H
    have c4b0 : decide (x5_1 < (l0_5.length : Int)) = true := decide_eq_true c4
    clear c4
    by_cases c5 : 0 ≤ x5_1
    ·rw [if_pos c5] at H
     have c5b0 : decide (0 ≤ x5_1) = true := decide_eq_true c5
     clear c5
     replace H := Option.bind_eq_some_iff.mp H
     obtain ⟨t434, A60, H⟩ := H
     replace H : (if t434 = true then (wellspringref18_Live.l0 k1 a1 (wrap64 (x5_1 + 1)) a0_0 a0_1 a0_2 a0_3 a0_4 l0_5) else (some false)) = some r := H
     have A6 := Aside0.mk A60
     clear A60
     by_cases c7 : t434 = true
     ·subst c7
      have H1 : (wellspringref18_Live.l0 k1 a1 (wrap64 (x5_1 + 1)) a0_0 a0_1 a0_2 a0_3 a0_4 l0_5) = some r := by rw [if_pos rfl] at H; exact H
      clear H
      have H := H1
      clear H1
      have H' := Aside0.mk H
      clear H
      have hcz8_0 : wr.cell? ⟨gb432, 0, none⟩ = some (.string a0_0) := (blk_cell BK432.out 0).trans rfl
      have hcz8_1 : wr.cell? ⟨gb432, 1, none⟩ = some (.int .i64 a0_1) := (blk_cell BK432.out 1).trans rfl
      have hcz8_2 : wr.cell? ⟨gb432, 2, none⟩ = some (.int .i64 a0_2) := (blk_cell BK432.out 2).trans rfl
      have hcz8_3 : wr.cell? ⟨gb432, 3, none⟩ = some (.int .i64 a0_3) := (blk_cell BK432.out 3).trans rfl
      have hcz8_4 : wr.cell? ⟨gb432, 4, none⟩ = some (.string a0_4) := (blk_cell BK432.out 4).trans rfl
      have hcz8_5 : wr.cell? ⟨gb432, 5, none⟩ = some (.slice A0_5 l0_5.length c0_5) := (blk_cell BK432.out 5).trans rfl
      have hfz8_0 := blk_frozen BK432.out 0
      have hfz8_1 := blk_frozen BK432.out 1
      have hfz8_2 := blk_frozen BK432.out 2
      have hfz8_3 := blk_frozen BK432.out 3
      have hfz8_4 := blk_frozen BK432.out 4
      have hfz8_5 := blk_frozen BK432.out 5
      have p433 : 0 ≤ (x5_1 : Int) := of_decide_eq_true (by first | (with_reducible assumption) | assumption)
      have q433 : x5_1 < (l0_5.length : Int) := of_decide_eq_true (by first | (with_reducible assumption) | assumption)
      obtain ⟨ad433, A433_0, c433_0, e433, hx433_0, hx433_1, hx433_2, hl433_0, hi433_0⟩ := at_T74 HR0_5.out x5_1 p433 q433
      cases e433
      replace hx433_0 := (HB.out.cell (World.block_lt_of_cell? w _ hx433_0)).trans hx433_0
      replace hx433_1 := (HB.out.cell (World.block_lt_of_cell? w _ hx433_1)).trans hx433_1
      replace hx433_2 := (HB.out.cell (World.block_lt_of_cell? w _ hx433_2)).trans hx433_2
      have HR433_0 := Aside0.mk hi433_0
      have HC433_0 := Aside0.mk hl433_0
      clear hi433_0 hl433_0
      replace p433 := eq_true p433
      replace q433 := eq_true q433
      go_wp2_with (first | ((with_reducible refine gate_callee (f := 34) rfl ?_); refine goesL_ (some 20) rfl rfl Try.func34 (by kernel_rfl) rfl #[.int .i64 a1, .int .i64 ((rd_T74 l0_5 x5_1).f1)] rfl (by (try simp only [List.map_toArray, List.map_cons, List.map_nil]); first | done | rfl | (simp only [List.length_drop, List.length_take]; rfl)) ?_; (with_reducible refine (wellspringref12_Live.calls a1 ((rd_T74 l0_5 x5_1).f1) true _ A6.out).mono ?_); rintro e w' ⟨rfl, ⟨nd, rfl⟩⟩; refine ⟨_, rfl, ?_⟩))
      go_roundg k1
      case measure => have := HK1.out; omega
      case rel => exact ⟨(wrap64 (x5_1 + 1)), (by first | rfl | (simp; done) | (simp [*]; done)), H', ⟨by have := HK1.out; omega⟩, ⟨by (with_reducible repeat (first | refine blk_drewN ?_ _ | refine blk_drew ?_ | refine blk_alloc ?_ _)); exact BK432.out⟩, ⟨by repeat (first | (with_reducible first | exact HB.out | apply below_alloc | apply pw_below_drewN | apply below_drew1 | refine below_set ?_ GE432.out) | exact HB.out)⟩⟩
     ·replace c7 := Bool.eq_false_iff.mpr c7
      subst c7
      have H1 : (some false) = some r := by rw [if_neg (show ¬ (false = true) by decide)] at H; exact H
      clear H
      have H := H1
      clear H1
      obtain rfl := Option.some.inj H
      have hcz9_0 : wr.cell? ⟨gb432, 0, none⟩ = some (.string a0_0) := (blk_cell BK432.out 0).trans rfl
      have hcz9_1 : wr.cell? ⟨gb432, 1, none⟩ = some (.int .i64 a0_1) := (blk_cell BK432.out 1).trans rfl
      have hcz9_2 : wr.cell? ⟨gb432, 2, none⟩ = some (.int .i64 a0_2) := (blk_cell BK432.out 2).trans rfl
      have hcz9_3 : wr.cell? ⟨gb432, 3, none⟩ = some (.int .i64 a0_3) := (blk_cell BK432.out 3).trans rfl
      have hcz9_4 : wr.cell? ⟨gb432, 4, none⟩ = some (.string a0_4) := (blk_cell BK432.out 4).trans rfl
      have hcz9_5 : wr.cell? ⟨gb432, 5, none⟩ = some (.slice A0_5 l0_5.length c0_5) := (blk_cell BK432.out 5).trans rfl
      have hfz9_0 := blk_frozen BK432.out 0
      have hfz9_1 := blk_frozen BK432.out 1
      have hfz9_2 := blk_frozen BK432.out 2
      have hfz9_3 := blk_frozen BK432.out 3
      have hfz9_4 := blk_frozen BK432.out 4
      have hfz9_5 := blk_frozen BK432.out 5
      have p433 : 0 ≤ (x5_1 : Int) := of_decide_eq_true (by first | (with_reducible assumption) | assumption)
      have q433 : x5_1 < (l0_5.length : Int) := of_decide_eq_true (by first | (with_reducible assumption) | assumption)
      obtain ⟨ad433, A433_0, c433_0, e433, hx433_0, hx433_1, hx433_2, hl433_0, hi433_0⟩ := at_T74 HR0_5.out x5_1 p433 q433
      cases e433
      replace hx433_0 := (HB.out.cell (World.block_lt_of_cell? w _ hx433_0)).trans hx433_0
      replace hx433_1 := (HB.out.cell (World.block_lt_of_cell? w _ hx433_1)).trans hx433_1
      replace hx433_2 := (HB.out.cell (World.block_lt_of_cell? w _ hx433_2)).trans hx433_2
      have HR433_0 := Aside0.mk hi433_0
      have HC433_0 := Aside0.mk hl433_0
      clear hi433_0 hl433_0
      replace p433 := eq_true p433
      replace q433 := eq_true q433
      go_wp2_with (first | ((with_reducible refine gate_callee (f := 34) rfl ?_); refine goesL_ (some 20) rfl rfl Try.func34 (by kernel_rfl) rfl #[.int .i64 a1, .int .i64 ((rd_T74 l0_5 x5_1).f1)] rfl (by (try simp only [List.map_toArray, List.map_cons, List.map_nil]); first | done | rfl | (simp only [List.length_drop, List.length_take]; rfl)) ?_; (with_reducible refine (wellspringref12_Live.calls a1 ((rd_T74 l0_5 x5_1).f1) false _ A6.out).mono ?_); rintro e w' ⟨rfl, ⟨nd, rfl⟩⟩; refine ⟨_, rfl, ?_⟩))
      go_ret
      exact ⟨by first | rfl | (simp [errW_none, errW_some] <;> rfl) | (simp [*, errW_none, errW_some] <;> rfl), by repeat (first | (with_reducible first | exact HB.out | apply below_alloc | apply pw_below_drewN | apply below_drew1 | refine below_set ?_ GE432.out) | exact HB.out)⟩
    ·rw [if_neg c5] at H
     exact absurd H (by simp)
   ·rw [if_neg c4] at H
    have c4b0 : decide (x5_1 < (l0_5.length : Int)) = false := decide_eq_false c4
    clear c4
    replace H := Option.bind_eq_some_iff.mp H
    obtain ⟨t435, A100, H⟩ := H
    replace H : (some t435) = some r := H
    have A10 := Aside0.mk A100
    clear A100
    obtain rfl := Option.some.inj H
    have hcz11_0 : wr.cell? ⟨gb432, 0, none⟩ = some (.string a0_0) := (blk_cell BK432.out 0).trans rfl
    have hcz11_1 : wr.cell? ⟨gb432, 1, none⟩ = some (.int .i64 a0_1) := (blk_cell BK432.out 1).trans rfl
    have hcz11_2 : wr.cell? ⟨gb432, 2, none⟩ = some (.int .i64 a0_2) := (blk_cell BK432.out 2).trans rfl
    have hcz11_3 : wr.cell? ⟨gb432, 3, none⟩ = some (.int .i64 a0_3) := (blk_cell BK432.out 3).trans rfl
    have hcz11_4 : wr.cell? ⟨gb432, 4, none⟩ = some (.string a0_4) := (blk_cell BK432.out 4).trans rfl
    have hcz11_5 : wr.cell? ⟨gb432, 5, none⟩ = some (.slice A0_5 l0_5.length c0_5) := (blk_cell BK432.out 5).trans rfl
    have hfz11_0 := blk_frozen BK432.out 0
    have hfz11_1 := blk_frozen BK432.out 1
    have hfz11_2 := blk_frozen BK432.out 2
    have hfz11_3 := blk_frozen BK432.out 3
    have hfz11_4 := blk_frozen BK432.out 4
    have hfz11_5 := blk_frozen BK432.out 5
    go_wp2_with (first | ((with_reducible refine gate_callee (f := 30) rfl ?_); refine goesL_ (some 23) rfl rfl Try.func30 (by kernel_rfl) rfl #[.int .i64 a1] rfl (by (try simp only [List.map_toArray, List.map_cons, List.map_nil]); first | done | rfl | (simp only [List.length_drop, List.length_take]; rfl)) ?_; (with_reducible refine (wellspringref12_Time.calls a1 t435 _ A10.out).mono ?_); rintro e w' ⟨rfl, ⟨nd, rfl⟩⟩; refine ⟨_, rfl, ?_⟩))
    go_ret
    exact ⟨by first | rfl | (simp [errW_none, errW_some] <;> rfl) | (simp [*, errW_none, errW_some] <;> rfl), by repeat (first | (with_reducible first | exact HB.out | apply below_alloc | apply pw_below_drewN | apply below_drew1 | refine below_set ?_ GE432.out) | exact HB.out)⟩
def wellspringref01_Take.f (a0 : ByteArray) (a1 : Int) (a2 : Int) : Option (ByteArray × Bool) := if a1 < 0 then (some ((⟨#[]⟩ : ByteArray), false)) else (if a2 < 0 then (some ((⟨#[]⟩ : ByteArray), false)) else (if a1 > (a0.size : Int) then (some ((⟨#[]⟩ : ByteArray), false)) else (if a2 > (wrap64 ((a0.size : Int) - a1)) then (some ((⟨#[]⟩ : ByteArray), false)) else (if 0 ≤ a1 then (if a1 ≤ (wrap64 (a1 + a2)) then (if (wrap64 (a1 + a2)) ≤ (a0.size : Int) then (some (a0.extract (a1 : Int).toNat ((wrap64 (a1 + a2)) : Int).toNat, true)) else (none)) else (none)) else (none)))))
set_option maxHeartbeats 8000000 in
set_option maxRecDepth 100000 in
theorem wellspringref01_Take.calls (a0 : ByteArray) (a1 : Int) (a2 : Int) (r1 : ByteArray) (r2 : Bool) (w : World) (h : wellspringref01_Take.f a0 a1 a2 = some (r1, r2)) :
  Calls Try.prog 59 #[.string a0, .int .i64 a1, .int .i64 a2] w fun e w' => e = .returned (.tuple #[.string r1, .bool r2]) ∧ Drawn0 w w' := by
 have H : (if a1 < 0 then (some ((⟨#[]⟩ : ByteArray), false)) else (if a2 < 0 then (some ((⟨#[]⟩ : ByteArray), false)) else (if a1 > (a0.size : Int) then (some ((⟨#[]⟩ : ByteArray), false)) else (if a2 > (wrap64 ((a0.size : Int) - a1)) then (some ((⟨#[]⟩ : ByteArray), false)) else (if 0 ≤ a1 then (if a1 ≤ (wrap64 (a1 + a2)) then (if (wrap64 (a1 + a2)) ≤ (a0.size : Int) then (some (a0.extract (a1 : Int).toNat ((wrap64 (a1 + a2)) : Int).toNat, true)) else (none)) else (none)) else (none)))))) = some (r1, r2) := h
 clear h
 by_cases c4 : a1 < 0
 ·rw [if_pos c4] at H
  have c4b0 : decide (a1 < 0) = true := decide_eq_true c4
  clear c4
  simp only [Option.some.injEq, Prod.mk.injEq] at H
  obtain ⟨rfl, rfl⟩ := H
  go_enter Try.func59, Try.ntmps59
  go_wp2
  go_ret2
  exact ⟨by first | rfl | (simp; done) | (simp [*]; done), by repeat (first | exact Drawn0.refl _ | apply Drawn0.step)⟩
 ·rw [if_neg c4] at H
  have c4b0 : decide (a1 < 0) = false := decide_eq_false c4
  clear c4
  by_cases c5 : a2 < 0
  ·rw [if_pos c5] at H
   have c5b0 : decide (a2 < 0) = true := decide_eq_true c5
   clear c5
   simp only [Option.some.injEq, Prod.mk.injEq] at H
   obtain ⟨rfl, rfl⟩ := H
   go_enter Try.func59, Try.ntmps59
   go_wp2
   go_ret2
   exact ⟨by first | rfl | (simp; done) | (simp [*]; done), by repeat (first | exact Drawn0.refl _ | apply Drawn0.step)⟩
  ·rw [if_neg c5] at H
   have c5b0 : decide (a2 < 0) = false := decide_eq_false c5
   clear c5
   by_cases c6 : a1 > (a0.size : Int)
   ·rw [if_pos c6] at H
    have c6b0 : decide ((a0.size : Int) < a1) = true := decide_eq_true c6
    clear c6
    simp only [Option.some.injEq, Prod.mk.injEq] at H
    obtain ⟨rfl, rfl⟩ := H
    go_enter Try.func59, Try.ntmps59
    go_wp2
    go_ret2
    exact ⟨by first | rfl | (simp; done) | (simp [*]; done), by repeat (first | exact Drawn0.refl _ | apply Drawn0.step)⟩
   ·rw [if_neg c6] at H
    have c6b0 : decide ((a0.size : Int) < a1) = false := decide_eq_false c6
    clear c6
    by_cases c7 : a2 > (wrap64 ((a0.size : Int) - a1))
    ·rw [if_pos c7] at H
     have c7b0 : decide ((wrap64 ((a0.size : Int) - a1)) < a2) = true := decide_eq_true c7
     clear c7
     simp only [Option.some.injEq, Prod.mk.injEq] at H
     obtain ⟨rfl, rfl⟩ := H
     go_enter Try.func59, Try.ntmps59
     go_wp2
     go_ret2
     exact ⟨by first | rfl | (simp; done) | (simp [*]; done), by repeat (first | exact Drawn0.refl _ | apply Drawn0.step)⟩
    ·rw [if_neg c7] at H
     have c7b0 : decide ((wrap64 ((a0.size : Int) - a1)) < a2) = false := decide_eq_false c7
     clear c7
     by_cases c8 : 0 ≤ a1
     ·rw [if_pos c8] at H
      have c8b0 := eq_true c8
      have c8b1 : decide (0 ≤ a1) = true := decide_eq_true c8
      clear c8
      by_cases c9 : a1 ≤ (wrap64 (a1 + a2))
      ·rw [if_pos c9] at H
       have c9b0 := eq_true c9
       have c9b1 : decide (a1 ≤ (wrap64 (a1 + a2))) = true := decide_eq_true c9
       by_cases c10 : (wrap64 (a1 + a2)) ≤ (a0.size : Int)
       ·rw [if_pos c10] at H
        have c10b0 := eq_true c10
        have c10b1 : decide ((wrap64 (a1 + a2)) ≤ (a0.size : Int)) = true := decide_eq_true c10
        simp only [Option.some.injEq, Prod.mk.injEq] at H
        obtain ⟨rfl, rfl⟩ := H
        go_enter Try.func59, Try.ntmps59
        go_wp2
        go_ret2
        exact ⟨by first | rfl | (simp; done) | (simp [*]; done), by repeat (first | exact Drawn0.refl _ | apply Drawn0.step)⟩
       ·rw [if_neg c10] at H
        exact absurd H (by simp)
      ·rw [if_neg c9] at H
       exact absurd H (by simp)
     ·rw [if_neg c8] at H
      exact absurd H (by simp)
def wellspringref01_Lay.f (a0 : ByteArray) (a1 : Int) (a2 : ByteArray) : Option (ByteArray × Bool) := (wellspringref01_Take.f a0 a1 (a2.size : Int)).bind fun bt436 => (if bt436.2 = true then (if 0 ≤ a1 then (if a1 ≤ (a0.size : Int) then (if a1.toNat + a2.size ≤ 9223372036854775807 then (if 0 ≤ (wrap64 (a1 + (a2.size : Int))) then (if (wrap64 (a1 + (a2.size : Int))) ≤ (a0.size : Int) then (if a1.toNat + a2.size + (a0.size - (wrap64 (a1 + (a2.size : Int))).toNat) ≤ 9223372036854775807 then (some (((a0.extract 0 (a1 : Int).toNat) ++ a2) ++ (a0.extract ((wrap64 (a1 + (a2.size : Int))) : Int).toNat a0.size), true)) else (none)) else (none)) else (none)) else (none)) else (none)) else (none)) else (some ((⟨#[]⟩ : ByteArray), false)))
set_option maxHeartbeats 8000000 in
set_option maxRecDepth 100000 in
theorem wellspringref01_Lay.calls (a0 : ByteArray) (a1 : Int) (a2 : ByteArray) (r1 : ByteArray) (r2 : Bool) (w : World) (h : wellspringref01_Lay.f a0 a1 a2 = some (r1, r2)) :
  Calls Try.prog 40 #[.string a0, .int .i64 a1, .string a2] w fun e w' => e = .returned (.tuple #[.string r1, .bool r2]) ∧ Drawn0 w w' := by
 have H : ((wellspringref01_Take.f a0 a1 (a2.size : Int)).bind fun bt436 => (if bt436.2 = true then (if 0 ≤ a1 then (if a1 ≤ (a0.size : Int) then (if a1.toNat + a2.size ≤ 9223372036854775807 then (if 0 ≤ (wrap64 (a1 + (a2.size : Int))) then (if (wrap64 (a1 + (a2.size : Int))) ≤ (a0.size : Int) then (if a1.toNat + a2.size + (a0.size - (wrap64 (a1 + (a2.size : Int))).toNat) ≤ 9223372036854775807 then (some (((a0.extract 0 (a1 : Int).toNat) ++ a2) ++ (a0.extract ((wrap64 (a1 + (a2.size : Int))) : Int).toNat a0.size), true)) else (none)) else (none)) else (none)) else (none)) else (none)) else (none)) else (some ((⟨#[]⟩ : ByteArray), false)))) = some (r1, r2) := h
 clear h
 replace H := Option.bind_eq_some_iff.mp H
 obtain ⟨⟨t436, t437⟩, A40, H⟩ := H
 replace H : (if t437 = true then (if 0 ≤ a1 then (if a1 ≤ (a0.size : Int) then (if a1.toNat + a2.size ≤ 9223372036854775807 then (if 0 ≤ (wrap64 (a1 + (a2.size : Int))) then (if (wrap64 (a1 + (a2.size : Int))) ≤ (a0.size : Int) then (if a1.toNat + a2.size + (a0.size - (wrap64 (a1 + (a2.size : Int))).toNat) ≤ 9223372036854775807 then (some (((a0.extract 0 (a1 : Int).toNat) ++ a2) ++ (a0.extract ((wrap64 (a1 + (a2.size : Int))) : Int).toNat a0.size), true)) else (none)) else (none)) else (none)) else (none)) else (none)) else (none)) else (some ((⟨#[]⟩ : ByteArray), false))) = some (r1, r2) := H
 have A4 := Aside0.mk A40
 clear A40
 by_cases c5 : t437 = true
 ·subst c5
  have H1 : (if 0 ≤ a1 then (if a1 ≤ (a0.size : Int) then (if a1.toNat + a2.size ≤ 9223372036854775807 then (if 0 ≤ (wrap64 (a1 + (a2.size : Int))) then (if (wrap64 (a1 + (a2.size : Int))) ≤ (a0.size : Int) then (if a1.toNat + a2.size + (a0.size - (wrap64 (a1 + (a2.size : Int))).toNat) ≤ 9223372036854775807 then (some (((a0.extract 0 (a1 : Int).toNat) ++ a2) ++ (a0.extract ((wrap64 (a1 + (a2.size : Int))) : Int).toNat a0.size), true)) else (none)) else (none)) else (none)) else (none)) else (none)) else (none)) = some (r1, r2) := by rw [if_pos rfl] at H; exact H
  clear H
  have H := H1
  clear H1
  by_cases c6 : 0 ≤ a1
  ·rw [if_pos c6] at H
   have c6b0 := eq_true c6
   have c6b1 : decide (0 ≤ a1) = true := decide_eq_true c6
   clear c6
   by_cases c7 : a1 ≤ (a0.size : Int)
   ·rw [if_pos c7] at H
    have c7b0 := eq_true c7
    have c7b1 : decide (a1 ≤ (a0.size : Int)) = true := decide_eq_true c7
    clear c7
    by_cases c8 : a1.toNat + a2.size ≤ 9223372036854775807
    ·rw [if_pos c8] at H
     have c8b0 := eq_true c8
     have c8b1 : decide (a1.toNat + a2.size ≤ 9223372036854775807) = true := decide_eq_true c8
     try have c8b2 : (9223372036854775807 < a1.toNat + a2.size) = False := eq_false (Nat.not_lt.2 c8)
     obtain ⟨ji9, hji9⟩ : ∃ j_ : Int, (wrap64 (a1 + (a2.size : Int))) = j_ := ⟨_, rfl⟩
     replace H : (if 0 ≤ (ji9) then (if (ji9) ≤ (a0.size : Int) then (if a1.toNat + a2.size + (a0.size - (ji9).toNat) ≤ 9223372036854775807 then (some (((a0.extract 0 (a1 : Int).toNat) ++ a2) ++ (a0.extract ((ji9) : Int).toNat a0.size), true)) else (none)) else (none)) else (none)) = some (r1, r2) := by first | (rw [hji9] at H; exact H) | (simp only [hji9] at H ⊢; exact H)
     (try rw [hji9] at A4)
     have hji9w : (IntKind.i64.wrap (a1 + (a2.size : Int))) = ji9 := (i64_w _).trans hji9
     by_cases c10 : 0 ≤ (ji9)
     ·rw [if_pos c10] at H
      have c10b0 := eq_true c10
      have c10b1 : decide (0 ≤ (ji9)) = true := decide_eq_true c10
      clear c10
      by_cases c11 : (ji9) ≤ (a0.size : Int)
      ·rw [if_pos c11] at H
       have c11b0 := eq_true c11
       have c11b1 : decide ((ji9) ≤ (a0.size : Int)) = true := decide_eq_true c11
       clear c11
       by_cases c12 : a1.toNat + a2.size + (a0.size - (ji9).toNat) ≤ 9223372036854775807
       ·rw [if_pos c12] at H
        have c12b0 := eq_true c12
        have c12b1 : decide (a1.toNat + a2.size + (a0.size - (ji9).toNat) ≤ 9223372036854775807) = true := decide_eq_true c12
        try have c12b2 : (9223372036854775807 < a1.toNat + a2.size + (a0.size - (ji9).toNat)) = False := eq_false (Nat.not_lt.2 c12)
        simp only [Option.some.injEq, Prod.mk.injEq] at H
        obtain ⟨rfl, rfl⟩ := H
        go_enter Try.func40, Try.ntmps40
        go_wp2_with (first | (go_at_call 59; (with_reducible refine (wellspringref01_Take.calls a0 a1 (a2.size : Int) t436 true _ A4.out).mono ?_); rintro e w' ⟨rfl, ⟨nd, rfl⟩⟩; (try first | exact ⟨rfl, _, World.drewN_drewN _ _ _⟩ | exact ⟨rfl, _, Eq.trans (World.drewN_drewN _ _ _) (congrArg (World.drewN _) (Nat.add_assoc _ _ _))⟩)))
        repeat (go_quiet (first | (go_at_call 59; (with_reducible refine (wellspringref01_Take.calls a0 a1 (a2.size : Int) t436 true _ A4.out).mono ?_); rintro e w' ⟨rfl, ⟨nd, rfl⟩⟩; (try first | exact ⟨rfl, _, World.drewN_drewN _ _ _⟩ | exact ⟨rfl, _, Eq.trans (World.drewN_drewN _ _ _) (congrArg (World.drewN _) (Nat.add_assoc _ _ _))⟩))); try go_wp2_with (first | (go_at_call 59; (with_reducible refine (wellspringref01_Take.calls a0 a1 (a2.size : Int) t436 true _ A4.out).mono ?_); rintro e w' ⟨rfl, ⟨nd, rfl⟩⟩; (try first | exact ⟨rfl, _, World.drewN_drewN _ _ _⟩ | exact ⟨rfl, _, Eq.trans (World.drewN_drewN _ _ _) (congrArg (World.drewN _) (Nat.add_assoc _ _ _))⟩))))
        go_ret2
        exact ⟨by first | rfl | (simp; done) | (simp only [← hji9] <;> (first | rfl | simp)) | (simp [*]; done), by repeat (first | exact Drawn0.refl _ | apply Drawn0.step)⟩
       ·rw [if_neg c12] at H
        exact absurd H (by simp)
      ·rw [if_neg c11] at H
       exact absurd H (by simp)
     ·rw [if_neg c10] at H
      exact absurd H (by simp)
    ·rw [if_neg c8] at H
     exact absurd H (by simp)
   ·rw [if_neg c7] at H
    exact absurd H (by simp)
  ·rw [if_neg c6] at H
   exact absurd H (by simp)
 ·replace c5 := Bool.eq_false_iff.mpr c5
  subst c5
  have H1 : (some ((⟨#[]⟩ : ByteArray), false)) = some (r1, r2) := by rw [if_neg (show ¬ (false = true) by decide)] at H; exact H
  clear H
  have H := H1
  clear H1
  simp only [Option.some.injEq, Prod.mk.injEq] at H
  obtain ⟨rfl, rfl⟩ := H
  go_enter Try.func40, Try.ntmps40
  go_wp2_with (first | (go_at_call 59; (with_reducible refine (wellspringref01_Take.calls a0 a1 (a2.size : Int) t436 false _ A4.out).mono ?_); rintro e w' ⟨rfl, ⟨nd, rfl⟩⟩; (try first | exact ⟨rfl, _, World.drewN_drewN _ _ _⟩ | exact ⟨rfl, _, Eq.trans (World.drewN_drewN _ _ _) (congrArg (World.drewN _) (Nat.add_assoc _ _ _))⟩)))
  repeat (go_quiet (first | (go_at_call 59; (with_reducible refine (wellspringref01_Take.calls a0 a1 (a2.size : Int) t436 false _ A4.out).mono ?_); rintro e w' ⟨rfl, ⟨nd, rfl⟩⟩; (try first | exact ⟨rfl, _, World.drewN_drewN _ _ _⟩ | exact ⟨rfl, _, Eq.trans (World.drewN_drewN _ _ _) (congrArg (World.drewN _) (Nat.add_assoc _ _ _))⟩))); try go_wp2_with (first | (go_at_call 59; (with_reducible refine (wellspringref01_Take.calls a0 a1 (a2.size : Int) t436 false _ A4.out).mono ?_); rintro e w' ⟨rfl, ⟨nd, rfl⟩⟩; (try first | exact ⟨rfl, _, World.drewN_drewN _ _ _⟩ | exact ⟨rfl, _, Eq.trans (World.drewN_drewN _ _ _) (congrArg (World.drewN _) (Nat.add_assoc _ _ _))⟩))))
  go_ret2
  exact ⟨by first | rfl | (simp; done) | (simp [*]; done), by repeat (first | exact Drawn0.refl _ | apply Drawn0.step)⟩
mutual
def wellspringref01_Put.j0 : Nat → Int → Int → Bool → Option (ByteArray)
 | 0, _, _, _ => none
 | k + 1, x0, x1, x16 => if x16 = true then (some (⟨#[]⟩ : ByteArray)) else (wellspringref01_Put.l0 k x0 x1 ([] : List Int) (wrap64 (x1 - 1)))
def wellspringref01_Put.l0 : Nat → Int → Int → List Int → Int → Option (ByteArray)
 | 0, _, _, _, _ => none
 | k + 1, x0, x1, x5, x6 => if x6 ≥ 0 then (if 0 ≤ (wrap64 (8 * x6)) then (if x5.length < 140737488355328 then (wellspringref01_Put.l0 k x0 x1 (x5 ++ [(Go.bits .and .i64 (shr .i64 x0 (wrap64 (8 * x6))) 255) % 256]) (wrap64 (x6 - 1))) else (none)) else (none)) else (if 0 ≤ (wrap64 (8 * x1)) then (if (shr .i64 x0 (wrap64 (8 * x1))) > 0 then (some (⟨#[]⟩ : ByteArray)) else (some (strOfNums x5))) else (none))
end
def wellspringref01_Put.f (k : Nat) (a0 : Int) (a1 : Int) : Option (ByteArray) := if a1 < 1 then (wellspringref01_Put.j0 k a0 a1 true) else (if a1 > 4 then (wellspringref01_Put.j0 k a0 a1 true) else (wellspringref01_Put.j0 k a0 a1 (decide (a0 < 0))))
theorem wellspringref01_Put.mono_l : ∀ k, (∀ y0 y1 y2, LeO (wellspringref01_Put.j0 k y0 y1 y2) (wellspringref01_Put.j0 (k + 1) y0 y1 y2)) ∧ (∀ y0 y1 y2 y3, LeO (wellspringref01_Put.l0 k y0 y1 y2 y3) (wellspringref01_Put.l0 (k + 1) y0 y1 y2 y3))
 | 0 => ⟨fun _ _ _ r h => by simp [wellspringref01_Put.j0] at h, fun _ _ _ _ r h => by simp [wellspringref01_Put.l0] at h⟩
 | k + 1 => by
  obtain ⟨ih0, ih1⟩ := wellspringref01_Put.mono_l k
  refine ⟨?_, ?_⟩
  ·intro y0 y1 y2
   unfold wellspringref01_Put.j0
   repeat' first
   | (with_reducible exact ih0 _ _ _)
   | (with_reducible exact ih1 _ _ _ _)
   | (with_reducible exact LeO.refl _)
   | (with_reducible exact LeO.none _)
   | (with_reducible refine LeO.ite ?_ ?_)
   | (with_reducible refine LeO.bind ?_ (fun _ => ?_))
  ·intro y0 y1 y2 y3
   unfold wellspringref01_Put.l0
   repeat' first
   | (with_reducible exact ih0 _ _ _)
   | (with_reducible exact ih1 _ _ _ _)
   | (with_reducible exact LeO.refl _)
   | (with_reducible exact LeO.none _)
   | (with_reducible refine LeO.ite ?_ ?_)
   | (with_reducible refine LeO.bind ?_ (fun _ => ?_))
theorem wellspringref01_Put.mono : ∀ a0 a1 k, LeO (wellspringref01_Put.f k a0 a1) (wellspringref01_Put.f (k + 1) a0 a1) := by
 intro a0 a1 k
 obtain ⟨ih0, ih1⟩ := wellspringref01_Put.mono_l k
 unfold wellspringref01_Put.f
 repeat' first
   | (with_reducible exact ih0 _ _ _)
   | (with_reducible exact ih1 _ _ _ _)
   | (with_reducible exact LeO.refl _)
   | (with_reducible exact LeO.none _)
   | (with_reducible refine LeO.ite ?_ ?_)
   | (with_reducible refine LeO.bind ?_ (fun _ => ?_))
set_option maxHeartbeats 8000000 in
set_option maxRecDepth 100000 in
theorem wellspringref01_Put.calls (k : Nat) (a0 : Int) (a1 : Int) (r : ByteArray) (w : World) (h : wellspringref01_Put.f k a0 a1 = some r) :
  Calls Try.prog 41 #[.int .i64 a0, .int .i64 a1] w fun e w' => e = .returned (.string r) ∧ Below w.heap.size w w' := by
 have HB := Aside0.mk (Below.refl w.heap.size w)
 have H : (if a1 < 1 then (wellspringref01_Put.j0 k a0 a1 true) else (if a1 > 4 then (wellspringref01_Put.j0 k a0 a1 true) else (wellspringref01_Put.j0 k a0 a1 (decide (a0 < 0))))) = some r := h
 clear h
 have HC3 := Aside0.mk H
 clear H
 go_enter Try.func41, Try.ntmps41
 go_upto_region 1 with (fail)
 go_cut [16] (fun v16 wc => ∃ (kq : Nat) (x16_2 : Bool), v16 = .bool x16_2 ∧ Aside0 (wellspringref01_Put.j0 kq a0 a1 x16_2 = some r) ∧ Aside0 (kq ≤ k) ∧ Aside0 (Below w.heap.size w wc))
 case first =>
  have H := HC3.out
  clear HC3
  by_cases c4 : a1 < 1
  ·rw [if_pos c4] at H
   have c4b0 : decide (a1 < 1) = true := decide_eq_true c4
   clear c4
   (first | rw [c4b0] | (simp only [i64_w, i32_w]; rw [c4b0]) | skip)
   have H' := Aside0.mk H
   clear H
   go_wp2
   go_meet
   case rel => exact ⟨_, (true), (by first | rfl | (simp; done) | (simp [*]; done)), H', ⟨by first | omega | exact Nat.le_refl _⟩, ⟨by repeat (first | (with_reducible first | exact HB.out | apply below_alloc | apply pw_below_drewN | apply below_drew1) | exact HB.out)⟩⟩
  ·rw [if_neg c4] at H
   have c4b0 : decide (a1 < 1) = false := decide_eq_false c4
   clear c4
   (first | rw [c4b0] | (simp only [i64_w, i32_w]; rw [c4b0]) | skip)
   by_cases c5 : a1 > 4
   ·rw [if_pos c5] at H
    have c5b0 : decide (4 < a1) = true := decide_eq_true c5
    clear c5
    have H' := Aside0.mk H
    clear H
    go_wp2
    go_meet
    case rel => exact ⟨_, (true), (by first | rfl | (simp; done) | (simp [*]; done)), H', ⟨by first | omega | exact Nat.le_refl _⟩, ⟨by repeat (first | (with_reducible first | exact HB.out | apply below_alloc | apply pw_below_drewN | apply below_drew1) | exact HB.out)⟩⟩
   ·rw [if_neg c5] at H
    have c5b0 : decide (4 < a1) = false := decide_eq_false c5
    clear c5
    have H' := Aside0.mk H
    clear H
    go_wp2
    go_meet
    case rel => exact ⟨_, (decide (a0 < 0)), (by first | rfl | (simp; done) | (simp [*]; done)), H', ⟨by first | omega | exact Nat.le_refl _⟩, ⟨by repeat (first | (with_reducible first | exact HB.out | apply below_alloc | apply pw_below_drewN | apply below_drew1) | exact HB.out)⟩⟩
 case rest =>
  clear HC3
  try clear p2
  try clear c4
  try clear c4b0
  try clear c5
  try clear c5b0
  obtain ⟨kq, x16_2, rfl, HA, HJ2, HB⟩ := hcut
  cases kq with
  | zero => exact absurd HA.out (by simp [wellspringref01_Put.j0])
  | succ kj2 =>
   have H := HA.out
   clear HA
   simp only [wellspringref01_Put.j0] at H
   by_cases c6 : x16_2 = true
   ·subst c6
    have H1 : (some (⟨#[]⟩ : ByteArray)) = some r := by rw [if_pos rfl] at H; exact H
    clear H
    have H := H1
    clear H1
    obtain rfl := Option.some.inj H
    go_wp2
    go_ret
    exact ⟨by first | rfl | (simp [errW_none, errW_some] <;> rfl) | (simp [*, errW_none, errW_some] <;> rfl), by repeat (first | (with_reducible first | exact HB.out | apply below_alloc | apply pw_below_drewN | apply below_drew1) | exact HB.out)⟩
   ·replace c6 := Bool.eq_false_iff.mpr c6
    subst c6
    have H1 : (wellspringref01_Put.l0 kj2 a0 a1 ([] : List Int) (wrap64 (a1 - 1))) = some r := by rw [if_neg (show ¬ (false = true) by decide)] at H; exact H
    clear H
    have H := H1
    clear H1
    have H' := Aside0.mk H
    clear H
    go_wp2
    go_loopg [5, 6] kj2 (fun kq v5 v6 w' => ∃ (x5_2 : List Int) (x6_2 : Int), v6 = .int .i64 x6_2 ∧ Aside0 (wellspringref01_Put.l0 kq a0 a1 x5_2 x6_2 = some r) ∧ Aside0 (kq ≤ kj2) ∧ Aside0 (Kd.R (Kd.int .u8) 5 w' w.heap.size (fun _ => True) v5 x5_2) ∧ Aside0 (Below w.heap.size w w'))
    case atStart => exact ⟨(([] : List Int)), (wrap64 (a1 - 1)), (by first | rfl | (simp; done) | (simp [*]; done)), H', ⟨Nat.le_refl _⟩, ⟨by first | exact Kd.R_nil _ _ _ _ _ | exact Kd.N_nil _ _ _ _ _ | exact Kd.V_nil _ _ _ _ _ | exact Kd.Q_nil _ _ _ _ _ | exact Kd.S_nil _ _ _ _ _⟩, ⟨by repeat (first | (with_reducible first | exact HB.out | apply below_alloc | apply pw_below_drewN | apply below_drew1) | exact HB.out)⟩⟩
    case round =>
     clear H'
     try clear p2
     try clear c4
     try clear c4b0
     try clear c5
     try clear c5b0
     try clear c6
     try clear p6
     try clear p2
     obtain ⟨x5_2, x6_2, rfl, HA, HK2, HO_5, HB⟩ := hrel
     cases gk with
     | zero => exact absurd HA.out (by simp [wellspringref01_Put.l0])
     | succ k2 =>
      have H := HA.out
      clear HA
      simp only [wellspringref01_Put.l0] at H
      by_cases c7 : x6_2 ≥ 0
      ·rw [if_pos c7] at H
       have c7b0 : decide (0 ≤ x6_2) = true := decide_eq_true c7
       clear c7
       obtain ⟨ji8, hji8⟩ : ∃ j_ : Int, (wrap64 (8 * x6_2)) = j_ := ⟨_, rfl⟩
       replace H : (if 0 ≤ (ji8) then (if x5_2.length < 140737488355328 then (wellspringref01_Put.l0 k2 a0 a1 (x5_2 ++ [(Go.bits .and .i64 (shr .i64 a0 (ji8)) 255) % 256]) (wrap64 (x6_2 - 1))) else (none)) else (none)) = some r := by first | (rw [hji8] at H; exact H) | (simp only [hji8] at H ⊢; exact H)
       have hji8w : (IntKind.i64.wrap (8 * x6_2)) = ji8 := (i64_w _).trans hji8
       by_cases c9 : 0 ≤ (ji8)
       ·rw [if_pos c9] at H
        have c9b0 := eq_true c9
        have c9b1 : decide (0 ≤ (ji8)) = true := decide_eq_true c9
        clear c9
        obtain ⟨ji10, hji10⟩ : ∃ j_ : Int, (shr .i64 a0 (ji8)) = j_ := ⟨_, rfl⟩
        replace H : (if x5_2.length < 140737488355328 then (wellspringref01_Put.l0 k2 a0 a1 (x5_2 ++ [(Go.bits .and .i64 (ji10) 255) % 256]) (wrap64 (x6_2 - 1))) else (none)) = some r := by first | (rw [hji10] at H; exact H) | (simp only [hji10] at H ⊢; exact H)
        have hji10_ : (a0 / 2 ^ min (ji8).toNat 64) = ji10 := hji10
        have hji10z : (ji8) ≤ 64 → (a0 / 2 ^ (ji8).toNat) = ji10 := shr_small hji10
        by_cases c11 : x5_2.length < 140737488355328
        ·rw [if_pos c11] at H
         have LMc11 := Aside0.mk c11
         clear c11
         obtain ⟨y281, hy281⟩ : ∃ y_ : List Int, y_ = (x5_2 ++ [(Go.bits .and .i64 (ji10) 255) % 256]) := ⟨_, rfl⟩
         replace H : (wellspringref01_Put.l0 k2 a0 a1 y281 (wrap64 (x6_2 - 1))) = some r := by first | (rw [hy281]; with_reducible exact H) | (have H2_ := (Option.bind_some _ _).symm.trans H; rw [hy281]; with_reducible exact H2_) | (have H2_ := (Option.bind_some _ _).symm.trans H; with_reducible exact H2_) | with_reducible exact H | (rw [hy281]; exact H) | exact H
         have Ny281 := Aside0.mk hy281
         clear hy281
         have H' := Aside0.mk H
         clear H
         go_wp2_with (first | ((with_reducible refine gate_builtin (b := .append) (xs := #[.tmp 23, .tmp 30]) rfl ?_); at_builtin; refine Kd.R_append (Kd.int .u8) (w0 := w) w.heap.size rfl (.tmp 23) (.tmp 30) 84 5 (.int .u8 0) 1 rfl Try.underlying84 info5 rfl (by decide) (by omega) u5 x5_2 ((Go.bits .and .i64 (ji10) 255) % 256) [.int .u8 ((Go.bits .and .i64 (ji10) 255) % 256)] (fun _ => True) (fun _ => False) rfl rfl ?aP (fun _ hk => hk.elim) ?aF ?aO ?aB ?aS ?aL ?_; (case aP => exact rfl); (case aB => exact (by repeat (first | (with_reducible first | exact HB.out | apply below_alloc | apply pw_below_drewN | apply below_drew1) | exact HB.out))); (case aF => exact (fun _ _ => trivial)); (case aO => exact (by (with_reducible repeat (first | apply Kd.R_alloc | apply Kd.R_drewN | apply Kd.R_drew)); exact HO_5.out)); (case aS => exact (below_size (by repeat (first | (with_reducible first | exact HB.out | apply below_alloc | apply pw_below_drewN | apply below_drew1) | exact HB.out)))); (case aL => have := LMc11.out; omega); intro v282 w12 ho hb hg hat; rw [← Ny281.out] at ho; have n0_ := Aside0.mk (hb); have n1_ := Aside0.mk (ho); clear HB; clear HO_5; have HB := n0_; have HO283 := n1_; clear n0_ n1_; clear ho hb hg hat))
         go_roundg k2
         case measure => have := HJ2.out; have := HK2.out; omega
         case rel => exact ⟨(y281), (wrap64 (x6_2 - 1)), (by first | rfl | (simp; done) | (simp [*]; done)), H', ⟨by have := HJ2.out; have := HK2.out; omega⟩, ⟨by (with_reducible repeat (first | apply Kd.R_alloc | apply Kd.R_drewN | apply Kd.R_drew)); exact HO283.out⟩, ⟨by repeat (first | (with_reducible first | exact HB.out | apply below_alloc | apply pw_below_drewN | apply below_drew1) | exact HB.out)⟩⟩
        ·rw [if_neg c11] at H
         exact absurd H (by simp)
       ·rw [if_neg c9] at H
        exact absurd H (by simp)
      ·rw [if_neg c7] at H
       have c7b0 : decide (0 ≤ x6_2) = false := decide_eq_false c7
       clear c7
       obtain ⟨ji13, hji13⟩ : ∃ j_ : Int, (wrap64 (8 * a1)) = j_ := ⟨_, rfl⟩
       replace H : (if 0 ≤ (ji13) then (if (shr .i64 a0 (ji13)) > 0 then (some (⟨#[]⟩ : ByteArray)) else (some (strOfNums x5_2))) else (none)) = some r := by first | (rw [hji13] at H; exact H) | (simp only [hji13] at H ⊢; exact H)
       have hji13w : (IntKind.i64.wrap (8 * a1)) = ji13 := (i64_w _).trans hji13
       by_cases c14 : 0 ≤ (ji13)
       ·rw [if_pos c14] at H
        have c14b0 := eq_true c14
        have c14b1 : decide (0 ≤ (ji13)) = true := decide_eq_true c14
        clear c14
        obtain ⟨ji15, hji15⟩ : ∃ j_ : Int, (shr .i64 a0 (ji13)) = j_ := ⟨_, rfl⟩
        replace H : (if (ji15) > 0 then (some (⟨#[]⟩ : ByteArray)) else (some (strOfNums x5_2))) = some r := by first | (rw [hji15] at H; exact H) | (simp only [hji15] at H ⊢; exact H)
        have hji15_ : (a0 / 2 ^ min (ji13).toNat 64) = ji15 := hji15
        have hji15z : (ji13) ≤ 64 → (a0 / 2 ^ (ji13).toNat) = ji15 := shr_small hji15
        by_cases c16 : (ji15) > 0
        ·rw [if_pos c16] at H
         have c16b0 : decide (0 < (ji15)) = true := decide_eq_true c16
         clear c16
         obtain rfl := Option.some.inj H
         go_wp2
         go_ret
         exact ⟨by first | rfl | (simp [errW_none, errW_some] <;> rfl) | (simp only [← hji13, ← hji15]; first | rfl | (simp [errW_none, errW_some] <;> rfl)) | (simp [*, errW_none, errW_some] <;> rfl), by repeat (first | (with_reducible first | exact HB.out | apply below_alloc | apply pw_below_drewN | apply below_drew1) | exact HB.out)⟩
        ·rw [if_neg c16] at H
         have c16b0 : decide (0 < (ji15)) = false := decide_eq_false c16
         clear c16
         obtain rfl := Option.some.inj H
         have hcv17 := own_string (P := Try.prog) Try.underlying84 Try.underlying5 Try.underlying9 (Kd.own_of_R HO_5.out)
         go_wp2
         go_ret
         exact ⟨by first | rfl | (simp [errW_none, errW_some] <;> rfl) | (simp only [← hji13, ← hji15]; first | rfl | (simp [errW_none, errW_some] <;> rfl)) | (simp [*, errW_none, errW_some] <;> rfl), by repeat (first | (with_reducible first | exact HB.out | apply below_alloc | apply pw_below_drewN | apply below_drew1) | exact HB.out)⟩
       ·rw [if_neg c14] at H
        exact absurd H (by simp)
def wellspringref12_Left.f (a0 : Int) (a1 : Int) : Option (Int) := (wellspringref12_Live.f a0 a1).bind fun t438 => (if t438 = true then (some (mn (wrap64 (a1 - a0)) 604800)) else (some 0))
set_option maxHeartbeats 8000000 in
set_option maxRecDepth 100000 in
theorem wellspringref12_Left.calls (a0 : Int) (a1 : Int) (r : Int) (w : World) (h : wellspringref12_Left.f a0 a1 = some r) :
  Calls Try.prog 42 #[.int .i64 a0, .int .i64 a1] w fun e w' => e = .returned (.int .i64 r) ∧ Below w.heap.size w w' := by
 have HB := Aside0.mk (Below.refl w.heap.size w)
 have H : ((wellspringref12_Live.f a0 a1).bind fun t438 => (if t438 = true then (some (mn (wrap64 (a1 - a0)) 604800)) else (some 0))) = some r := h
 clear h
 replace H := Option.bind_eq_some_iff.mp H
 obtain ⟨t438, A30, H⟩ := H
 replace H : (if t438 = true then (some (mn (wrap64 (a1 - a0)) 604800)) else (some 0)) = some r := H
 have A3 := Aside0.mk A30
 clear A30
 by_cases c4 : t438 = true
 ·subst c4
  have H1 : (some (mn (wrap64 (a1 - a0)) 604800)) = some r := by rw [if_pos rfl] at H; exact H
  clear H
  have H := H1
  clear H1
  obtain ⟨ji5, hji5⟩ : ∃ j_ : Int, (mn (wrap64 (a1 - a0)) 604800) = j_ := ⟨_, rfl⟩
  replace H : (some ji5) = some r := by first | (rw [hji5] at H; exact H) | (simp only [hji5] at H ⊢; exact H)
  (try rw [hji5] at A3)
  (try (have hji5h : ji5 ≤ 604800 := by (rw [← hji5]; unfold mn; (repeat' split) <;> omega)))
  (try (have hji5g : ji5 ≤ 64 := by omega))
  have hji5_ : (if 604800 < (wrap64 (a1 - a0)) then 604800 else (wrap64 (a1 - a0))) = ji5 := hji5
  obtain rfl := Option.some.inj H
  go_enter Try.func42, Try.ntmps42
  go_wp2_with (first | ((with_reducible refine gate_callee (f := 34) rfl ?_); refine goesL_ (some 7) rfl rfl Try.func34 (by kernel_rfl) rfl #[.int .i64 a0, .int .i64 a1] rfl (by (try simp only [List.map_toArray, List.map_cons, List.map_nil]); first | done | rfl | (simp only [List.length_drop, List.length_take]; rfl)) ?_; (with_reducible refine (wellspringref12_Live.calls a0 a1 true _ A3.out).mono ?_); rintro e w' ⟨rfl, ⟨nd, rfl⟩⟩; refine ⟨_, rfl, ?_⟩))
  go_ret
  exact ⟨by first | rfl | (simp [errW_none, errW_some] <;> rfl) | (simp only [← hji5]; first | rfl | (simp [errW_none, errW_some] <;> rfl)) | (simp [*, errW_none, errW_some] <;> rfl), by repeat (first | (with_reducible first | exact HB.out | apply below_alloc | apply pw_below_drewN | apply below_drew1) | exact HB.out)⟩
 ·replace c4 := Bool.eq_false_iff.mpr c4
  subst c4
  have H1 : (some 0) = some r := by rw [if_neg (show ¬ (false = true) by decide)] at H; exact H
  clear H
  have H := H1
  clear H1
  obtain rfl := Option.some.inj H
  go_enter Try.func42, Try.ntmps42
  go_wp2_with (first | ((with_reducible refine gate_callee (f := 34) rfl ?_); refine goesL_ (some 7) rfl rfl Try.func34 (by kernel_rfl) rfl #[.int .i64 a0, .int .i64 a1] rfl (by (try simp only [List.map_toArray, List.map_cons, List.map_nil]); first | done | rfl | (simp only [List.length_drop, List.length_take]; rfl)) ?_; (with_reducible refine (wellspringref12_Live.calls a0 a1 false _ A3.out).mono ?_); rintro e w' ⟨rfl, ⟨nd, rfl⟩⟩; refine ⟨_, rfl, ?_⟩))
  go_ret
  exact ⟨by first | rfl | (simp [errW_none, errW_some] <;> rfl) | (simp [*, errW_none, errW_some] <;> rfl), by repeat (first | (with_reducible first | exact HB.out | apply below_alloc | apply pw_below_drewN | apply below_drew1) | exact HB.out)⟩
mutual
def wellspringref18_Part.j0 : Nat → Int → Int → Int → Bool → ByteArray → Int → Int → Int → ByteArray → List (S74) → Option (ByteArray)
 | 0, _, _, _, _, _, _, _, _, _, _ => none
 | k + 1, x1, x2, x3, x33, x440000, x440001, x440002, x440003, x440004, x440005 => if x33 = true then (some (⟨#[]⟩ : ByteArray)) else (if 0 ≤ x1 then (if x1 < (x440005.length : Int) then ((wellspringref12_Live.f x2 ((rd_T74 x440005 x1).f1)).bind fun t443 => (if t443 = true then (if (rd_T74 x440005 x1).f2 = true then (wellspringref18_Part.j1 k x2 0 x440000 x440001 x440002 x440003 x440004 x440005 ((rd_T74 x440005 x1).f0) ((rd_T74 x440005 x1).f1) ((rd_T74 x440005 x1).f2)) else (wellspringref18_Part.j1 k x2 x3 x440000 x440001 x440002 x440003 x440004 x440005 ((rd_T74 x440005 x1).f0) ((rd_T74 x440005 x1).f1) ((rd_T74 x440005 x1).f2))) else (some (⟨#[]⟩ : ByteArray)))) else (none)) else (none))
def wellspringref18_Part.j1 : Nat → Int → Int → ByteArray → Int → Int → Int → ByteArray → List (S74) → List (S80) → Int → Bool → Option (ByteArray)
 | 0, _, _, _, _, _, _, _, _, _, _, _ => none
 | k + 1, x2, x3, x440000, x440001, x440002, x440003, x440004, x440005, x443000, x443001, x443002 => wellspringref18_Part.l0 k x2 x3 (⟨#[]⟩ : ByteArray) (x443000.length : Int) 0 x440000 x440001 x440002 x440003 x440004 x440005 x443000 x443001 x443002
def wellspringref18_Part.l0 : Nat → Int → Int → ByteArray → Int → Int → ByteArray → Int → Int → Int → ByteArray → List (S74) → List (S80) → Int → Bool → Option (ByteArray)
 | 0, _, _, _, _, _, _, _, _, _, _, _, _, _, _ => none
 | k + 1, x2, x3, x10, x11, x12, x440000, x440001, x440002, x440003, x440004, x440005, x443000, x443001, x443002 => if x12 < x11 then (if x11 = 0 then (none) else (if 0 ≤ (Int.tmod (wrap64 ((Int.tmod x3 x11) + x12)) x11) then (if (Int.tmod (wrap64 ((Int.tmod x3 x11) + x12)) x11) < (x443000.length : Int) then (if 0 ≤ ((rd_T80 x443000 (Int.tmod (wrap64 ((Int.tmod x3 x11) + x12)) x11)).f0) then (if ((rd_T80 x443000 (Int.tmod (wrap64 ((Int.tmod x3 x11) + x12)) x11)).f0) ≤ ((rd_T80 x443000 (Int.tmod (wrap64 ((Int.tmod x3 x11) + x12)) x11)).f1) then (if ((rd_T80 x443000 (Int.tmod (wrap64 ((Int.tmod x3 x11) + x12)) x11)).f1) ≤ (x440004.size : Int) then ((wellspringref12_Left.f x2 x443001).bind fun t446 => ((wellspringref01_Put.f k t446 4).bind fun t447 => ((wellspringref01_Lay.f (x440004.extract (((rd_T80 x443000 (Int.tmod (wrap64 ((Int.tmod x3 x11) + x12)) x11)).f0) : Int).toNat (((rd_T80 x443000 (Int.tmod (wrap64 ((Int.tmod x3 x11) + x12)) x11)).f1) : Int).toNat) (wrap64 (((rd_T80 x443000 (Int.tmod (wrap64 ((Int.tmod x3 x11) + x12)) x11)).f2) - ((rd_T80 x443000 (Int.tmod (wrap64 ((Int.tmod x3 x11) + x12)) x11)).f0))) t447).bind fun bt448 => (if x10.size + bt448.1.size ≤ 9223372036854775807 then (wellspringref18_Part.l0 k x2 x3 (x10 ++ bt448.1) x11 (wrap64 (x12 + 1)) x440000 x440001 x440002 x440003 x440004 x440005 x443000 x443001 x443002) else (none))))) else (none)) else (none)) else (none)) else (none)) else (none))) else (some x10)
end
def wellspringref18_Part.f (k : Nat) (a0_0 : ByteArray) (a0_1 : Int) (a0_2 : Int) (a0_3 : Int) (a0_4 : ByteArray) (l0_5 : List (S74)) (a1 : Int) (a2 : Int) (a3 : Int) : Option (ByteArray) := (wellspringref18_Check.f k a0_0 a0_1 a0_2 a0_3 a0_4 l0_5).bind fun t440 => (if t440 = true then (if a1 < 0 then (wellspringref18_Part.j0 k a1 a2 a3 true a0_0 a0_1 a0_2 a0_3 a0_4 l0_5) else (if a1 ≥ (l0_5.length : Int) then (wellspringref18_Part.j0 k a1 a2 a3 true a0_0 a0_1 a0_2 a0_3 a0_4 l0_5) else (wellspringref18_Part.j0 k a1 a2 a3 (decide (a3 < 0)) a0_0 a0_1 a0_2 a0_3 a0_4 l0_5))) else (wellspringref18_Part.j0 k a1 a2 a3 true a0_0 a0_1 a0_2 a0_3 a0_4 l0_5))
theorem wellspringref18_Part.mono_l : ∀ k, (∀ y0 y1 y2 y3 y4 y5 y6 y7 y8 y9, LeO (wellspringref18_Part.j0 k y0 y1 y2 y3 y4 y5 y6 y7 y8 y9) (wellspringref18_Part.j0 (k + 1) y0 y1 y2 y3 y4 y5 y6 y7 y8 y9)) ∧ (∀ y0 y1 y2 y3 y4 y5 y6 y7 y8 y9 y10, LeO (wellspringref18_Part.j1 k y0 y1 y2 y3 y4 y5 y6 y7 y8 y9 y10) (wellspringref18_Part.j1 (k + 1) y0 y1 y2 y3 y4 y5 y6 y7 y8 y9 y10)) ∧ (∀ y0 y1 y2 y3 y4 y5 y6 y7 y8 y9 y10 y11 y12 y13, LeO (wellspringref18_Part.l0 k y0 y1 y2 y3 y4 y5 y6 y7 y8 y9 y10 y11 y12 y13) (wellspringref18_Part.l0 (k + 1) y0 y1 y2 y3 y4 y5 y6 y7 y8 y9 y10 y11 y12 y13))
 | 0 => ⟨fun _ _ _ _ _ _ _ _ _ _ r h => by simp [wellspringref18_Part.j0] at h, fun _ _ _ _ _ _ _ _ _ _ _ r h => by simp [wellspringref18_Part.j1] at h, fun _ _ _ _ _ _ _ _ _ _ _ _ _ _ r h => by simp [wellspringref18_Part.l0] at h⟩
 | k + 1 => by
  obtain ⟨ih0, ih1, ih2⟩ := wellspringref18_Part.mono_l k
  refine ⟨?_, ?_, ?_⟩
  ·intro y0 y1 y2 y3 y4 y5 y6 y7 y8 y9
   unfold wellspringref18_Part.j0
   repeat' first
   | (with_reducible exact ih0 _ _ _ _ _ _ _ _ _ _)
   | (with_reducible exact ih1 _ _ _ _ _ _ _ _ _ _ _)
   | (with_reducible exact ih2 _ _ _ _ _ _ _ _ _ _ _ _ _ _)
   | (with_reducible exact wellspringref01_Put.mono _ _ _)
   | (with_reducible exact wellspringref18_Check.mono _ _ _ _ _ _ _)
   | (with_reducible exact LeO.refl _)
   | (with_reducible exact LeO.none _)
   | (with_reducible refine LeO.ite ?_ ?_)
   | (with_reducible refine LeO.bind ?_ (fun _ => ?_))
  ·intro y0 y1 y2 y3 y4 y5 y6 y7 y8 y9 y10
   unfold wellspringref18_Part.j1
   repeat' first
   | (with_reducible exact ih0 _ _ _ _ _ _ _ _ _ _)
   | (with_reducible exact ih1 _ _ _ _ _ _ _ _ _ _ _)
   | (with_reducible exact ih2 _ _ _ _ _ _ _ _ _ _ _ _ _ _)
   | (with_reducible exact wellspringref01_Put.mono _ _ _)
   | (with_reducible exact wellspringref18_Check.mono _ _ _ _ _ _ _)
   | (with_reducible exact LeO.refl _)
   | (with_reducible exact LeO.none _)
   | (with_reducible refine LeO.ite ?_ ?_)
   | (with_reducible refine LeO.bind ?_ (fun _ => ?_))
  ·intro y0 y1 y2 y3 y4 y5 y6 y7 y8 y9 y10 y11 y12 y13
   unfold wellspringref18_Part.l0
   repeat' first
   | (with_reducible exact ih0 _ _ _ _ _ _ _ _ _ _)
   | (with_reducible exact ih1 _ _ _ _ _ _ _ _ _ _ _)
   | (with_reducible exact ih2 _ _ _ _ _ _ _ _ _ _ _ _ _ _)
   | (with_reducible exact wellspringref01_Put.mono _ _ _)
   | (with_reducible exact wellspringref18_Check.mono _ _ _ _ _ _ _)
   | (with_reducible exact LeO.refl _)
   | (with_reducible exact LeO.none _)
   | (with_reducible refine LeO.ite ?_ ?_)
   | (with_reducible refine LeO.bind ?_ (fun _ => ?_))
theorem wellspringref18_Part.mono : ∀ a0 a1 a2 a3 a4 a5 a6 a7 a8 k, LeO (wellspringref18_Part.f k a0 a1 a2 a3 a4 a5 a6 a7 a8) (wellspringref18_Part.f (k + 1) a0 a1 a2 a3 a4 a5 a6 a7 a8) := by
 intro a0 a1 a2 a3 a4 a5 a6 a7 a8 k
 obtain ⟨ih0, ih1, ih2⟩ := wellspringref18_Part.mono_l k
 unfold wellspringref18_Part.f
 repeat' first
   | (with_reducible exact ih0 _ _ _ _ _ _ _ _ _ _)
   | (with_reducible exact ih1 _ _ _ _ _ _ _ _ _ _ _)
   | (with_reducible exact ih2 _ _ _ _ _ _ _ _ _ _ _ _ _ _)
   | (with_reducible exact wellspringref01_Put.mono _ _ _)
   | (with_reducible exact wellspringref18_Check.mono _ _ _ _ _ _ _)
   | (with_reducible exact LeO.refl _)
   | (with_reducible exact LeO.none _)
   | (with_reducible refine LeO.ite ?_ ?_)
   | (with_reducible refine LeO.bind ?_ (fun _ => ?_))
def wellspringref18_Part.T13 : Bool × List (List Nat × List Nat) := (true, [([], []), ([0], [0]), ([], []), ([], []), ([2, 3], [2, 3]), ([], []), ([4, 5], [4, 5]), ([], []), ([6, 7], [6, 7]), ([1, 8], [1, 8]), ([9], [9]), ([], []), ([11, 10, 0, 1, 2, 3, 4, 5, 6, 7, 8, 9, 10, 11], [10, 11])])
def wellspringref18_Part.B13 : List Nat := [0, 1, 0, 0, 12, 0, 60, 0, 252, 511, 1023, 0, 4095]
theorem wellspringref18_Part.tab13 : rtab .any (opsOf Try.f23 13) = wellspringref18_Part.T13 := by kernel_rfl
theorem wellspringref18_Part.bits13 : waitsOk wellspringref18_Part.T13.2 wellspringref18_Part.B13 = true := by kernel_rfl
def wellspringref18_Part.T14 : Bool × List (List Nat × List Nat) := (true, [([], []), ([0], [0]), ([], []), ([2], [2]), ([], []), ([4], [4]), ([1, 3, 5], [1, 3, 5]), ([], []), ([7], [7]), ([], []), ([9], [9]), ([8, 10], [8, 10]), ([], []), ([], []), ([13], [13]), ([12, 14], [12, 14]), ([15, 15], [15]), ([6, 11, 16, 16], [6, 11, 16]), ([17], [17]), ([18], [18]), ([18], [18]), ([19, 17, 0, 1, 2, 3, 4, 5, 6, 7, 8, 9, 10, 11, 12, 13, 14, 15, 16, 17, 18, 19], [19]), ([20, 21, 0, 1, 2, 3, 4, 5, 6, 7, 8, 9, 10, 11, 12, 13, 14, 15, 16, 17, 18, 19, 20, 21], [20])])
def wellspringref18_Part.B14 : List Nat := [0, 1, 0, 4, 0, 16, 63, 0, 128, 0, 512, 1920, 0, 0, 8192, 28672, 61440, 131071, 262143, 524287, 524287, 1048575, 4194303]
theorem wellspringref18_Part.tab14 : rtab .any (opsOf Try.f23 14) = wellspringref18_Part.T14 := by kernel_rfl
theorem wellspringref18_Part.bits14 : waitsOk wellspringref18_Part.T14.2 wellspringref18_Part.B14 = true := by kernel_rfl
set_option maxHeartbeats 8000000 in
set_option maxRecDepth 100000 in
theorem wellspringref18_Part.calls (k : Nat) (a0_0 : ByteArray) (a0_1 : Int) (a0_2 : Int) (a0_3 : Int) (a0_4 : ByteArray) (A0_5 : Option Addr) (c0_5 : Nat) (l0_5 : List (S74)) (a1 : Int) (a2 : Int) (a3 : Int) (r : ByteArray) (w : World) (hr0_5 : Kd.C k74 w A0_5 l0_5.length l0_5) (hc0_5 : l0_5.length ≤ c0_5) (h : wellspringref18_Part.f k a0_0 a0_1 a0_2 a0_3 a0_4 l0_5 a1 a2 a3 = some r) :
  Calls Try.prog 23 #[.agg #[.string a0_0, .int .i64 a0_1, .int .i64 a0_2, .int .i64 a0_3, .string a0_4, .slice A0_5 l0_5.length c0_5], .int .i64 a1, .int .i64 a2, .int .i64 a3] w fun e w' => e = .returned (.string r) ∧ Below w.heap.size w w' := by
 have hu46 := Try.underlying46
 have hu74 := Try.underlying74
 have hu80 := Try.underlying80
 have HR0_5 := Aside0.mk hr0_5
 have HC0_5 := Aside0.mk hc0_5
 clear hr0_5 hc0_5
 have HB := Aside0.mk (Below.refl w.heap.size w)
 have H : ((wellspringref18_Check.f k a0_0 a0_1 a0_2 a0_3 a0_4 l0_5).bind fun t440 => (if t440 = true then (if a1 < 0 then (wellspringref18_Part.j0 k a1 a2 a3 true a0_0 a0_1 a0_2 a0_3 a0_4 l0_5) else (if a1 ≥ (l0_5.length : Int) then (wellspringref18_Part.j0 k a1 a2 a3 true a0_0 a0_1 a0_2 a0_3 a0_4 l0_5) else (wellspringref18_Part.j0 k a1 a2 a3 (decide (a3 < 0)) a0_0 a0_1 a0_2 a0_3 a0_4 l0_5))) else (wellspringref18_Part.j0 k a1 a2 a3 true a0_0 a0_1 a0_2 a0_3 a0_4 l0_5))) = some r := h
 clear h
 have HC5 := Aside0.mk H
 clear H
 go_enter Try.func23, Try.ntmps23
 go_upto_region 1 with (first | ((with_reducible refine gate_dst (N := 4) rfl ?_); (try (refine gate_guard (by rfl) ?_; dsimp only)); refine box_event ?hg (N := 4) ?hd (cs := #[.string a0_0, .int .i64 a0_1, .int .i64 a0_2, .int .i64 a0_3, .string a0_4, .slice A0_5 l0_5.length c0_5]) (t := 46) ?hr ?_; (case hd => rfl); (case hg => rfl); (case hr => first | (go_simp; done) | (go_simp; rfl)); intro gb439 hg w6 hbox hb; have n0_ := Aside0.mk (below_step (by repeat (first | (with_reducible first | exact HB.out | apply below_alloc | apply pw_below_drewN | apply below_drew1) | exact HB.out)) hb); have n1_ := Aside0.mk (hbox); have n2_ := Aside0.mk ((by rw [hg]; exact (below_size (by repeat (first | (with_reducible first | exact HB.out | apply below_alloc | apply pw_below_drewN | apply below_drew1) | exact HB.out))) : w.heap.size ≤ gb439)); have n3_ := Aside0.mk ((by rw [hg]; exact (below_size (by repeat (first | (with_reducible first | exact HB.out | apply below_alloc | apply pw_below_drewN | apply below_drew1) | exact HB.out))) : w.heap.size ≤ gb439)); clear HB; have HB := n0_; have BK439 := n1_; have GW439 := n2_; have GE439 := n3_; clear n0_ n1_ n2_ n3_; clear hb hbox hg))
 (try simp only [Act.put, List.setIfInBounds_toArray, List.set_cons_zero, List.set_cons_succ])
 go_cut [33] (fun v33 wc => ∃ (kq : Nat) (x33_4 : Bool), v33 = .bool x33_4 ∧ Aside0 (wellspringref18_Part.j0 kq a1 a2 a3 x33_4 a0_0 a0_1 a0_2 a0_3 a0_4 l0_5 = some r) ∧ Aside0 (kq ≤ k) ∧ Aside0 (wc.heap[gb439]? = some (.cells #[.string a0_0, .int .i64 a0_1, .int .i64 a0_2, .int .i64 a0_3, .string a0_4, (.slice A0_5 l0_5.length c0_5)] 46 (0, 0))) ∧ Aside0 (Below w.heap.size w wc))
 case first =>
  have H := HC5.out
  clear HC5
  replace H := Option.bind_eq_some_iff.mp H
  obtain ⟨t440, A70, H⟩ := H
  replace H : (if t440 = true then (if a1 < 0 then (wellspringref18_Part.j0 k a1 a2 a3 true a0_0 a0_1 a0_2 a0_3 a0_4 l0_5) else (if a1 ≥ (l0_5.length : Int) then (wellspringref18_Part.j0 k a1 a2 a3 true a0_0 a0_1 a0_2 a0_3 a0_4 l0_5) else (wellspringref18_Part.j0 k a1 a2 a3 (decide (a3 < 0)) a0_0 a0_1 a0_2 a0_3 a0_4 l0_5))) else (wellspringref18_Part.j0 k a1 a2 a3 true a0_0 a0_1 a0_2 a0_3 a0_4 l0_5)) = some r := H
  have A7 := Aside0.mk A70
  clear A70
  by_cases c8 : t440 = true
  ·subst c8
   have H1 : (if a1 < 0 then (wellspringref18_Part.j0 k a1 a2 a3 true a0_0 a0_1 a0_2 a0_3 a0_4 l0_5) else (if a1 ≥ (l0_5.length : Int) then (wellspringref18_Part.j0 k a1 a2 a3 true a0_0 a0_1 a0_2 a0_3 a0_4 l0_5) else (wellspringref18_Part.j0 k a1 a2 a3 (decide (a3 < 0)) a0_0 a0_1 a0_2 a0_3 a0_4 l0_5))) = some r := by rw [if_pos rfl] at H; exact H
   clear H
   have H := H1
   clear H1
   by_cases c9 : a1 < 0
   ·rw [if_pos c9] at H
    have c9b0 : decide (a1 < 0) = true := decide_eq_true c9
    clear c9
    (first | rw [c9b0] | (simp only [i64_w, i32_w]; rw [c9b0]) | skip)
    have H' := Aside0.mk H
    clear H
    have hcz10_0 : w6.cell? ⟨gb439, 0, none⟩ = some (.string a0_0) := (blk_cell BK439.out 0).trans rfl
    have hcz10_1 : w6.cell? ⟨gb439, 1, none⟩ = some (.int .i64 a0_1) := (blk_cell BK439.out 1).trans rfl
    have hcz10_2 : w6.cell? ⟨gb439, 2, none⟩ = some (.int .i64 a0_2) := (blk_cell BK439.out 2).trans rfl
    have hcz10_3 : w6.cell? ⟨gb439, 3, none⟩ = some (.int .i64 a0_3) := (blk_cell BK439.out 3).trans rfl
    have hcz10_4 : w6.cell? ⟨gb439, 4, none⟩ = some (.string a0_4) := (blk_cell BK439.out 4).trans rfl
    have hcz10_5 : w6.cell? ⟨gb439, 5, none⟩ = some (.slice A0_5 l0_5.length c0_5) := (blk_cell BK439.out 5).trans rfl
    have hfz10_0 := blk_frozen BK439.out 0
    have hfz10_1 := blk_frozen BK439.out 1
    have hfz10_2 := blk_frozen BK439.out 2
    have hfz10_3 := blk_frozen BK439.out 3
    have hfz10_4 := blk_frozen BK439.out 4
    have hfz10_5 := blk_frozen BK439.out 5
    go_wp2_with (first | ((with_reducible refine gate_callee (f := 19) rfl ?_); refine goesL_ (some 17) rfl rfl Try.func19 (by kernel_rfl) rfl #[.agg #[.string a0_0, .int .i64 a0_1, .int .i64 a0_2, .int .i64 a0_3, .string a0_4, .slice A0_5 l0_5.length c0_5]] rfl (by (try simp only [List.map_toArray, List.map_cons, List.map_nil]); first | done | rfl | (simp only [List.length_drop, List.length_take]; rfl)) ?_; (with_reducible refine (wellspringref18_Check.calls k a0_0 a0_1 a0_2 a0_3 a0_4 _ _ l0_5 true _ ?side1 ?side2 A7.out).mono ?_); (case side1 => repeat (first | exact (Kd.C_below HR0_5.out HB.out) | (with_reducible refine Kd.C_alloc ?_ _) | (with_reducible refine Kd.C_drewN ?_ _) | (with_reducible refine Kd.C_drew ?_))); (case side2 => exact HC0_5.out); rintro e w11 ⟨rfl, hb⟩; refine ⟨_, rfl, ?_⟩; have n0_ := Aside0.mk (blk_below (g := gb439) (o := .cells #[.string a0_0, .int .i64 a0_1, .int .i64 a0_2, .int .i64 a0_3, .string a0_4, .slice A0_5 l0_5.length c0_5] 46 (0, 0)) (by (with_reducible repeat (first | refine blk_drewN ?_ _ | refine blk_drew ?_ | refine blk_alloc ?_ _)); exact BK439.out) hb); have n1_ := Aside0.mk (below_step (by repeat (first | (with_reducible first | exact HB.out | apply below_alloc | apply pw_below_drewN | apply below_drew1 | refine below_set ?_ GE439.out) | exact HB.out)) hb); clear BK439; clear HB; have BK439 := n0_; have HB := n1_; clear n0_ n1_; (try clear hb); (try clear hb2); (try clear hk); (try clear hi)))
    go_meet
    case rel => (try rw [← Nbq31.out]); exact ⟨_, (true), (by first | rfl | (simp; done) | (simp [*]; done)), H', ⟨by first | omega | exact Nat.le_refl _⟩, ⟨by (with_reducible repeat (first | refine blk_drewN ?_ _ | refine blk_drew ?_ | refine blk_alloc ?_ _)); exact BK439.out⟩, ⟨by repeat (first | (with_reducible first | exact HB.out | apply below_alloc | apply pw_below_drewN | apply below_drew1 | refine below_set ?_ GE439.out) | exact HB.out)⟩⟩
   ·rw [if_neg c9] at H
    have c9b0 : decide (a1 < 0) = false := decide_eq_false c9
    clear c9
    (first | rw [c9b0] | (simp only [i64_w, i32_w]; rw [c9b0]) | skip)
    by_cases c12 : a1 ≥ (l0_5.length : Int)
    ·rw [if_pos c12] at H
     have c12b0 : decide ((l0_5.length : Int) ≤ a1) = true := decide_eq_true c12
     clear c12
     have H' := Aside0.mk H
     clear H
     have hcz13_0 : w6.cell? ⟨gb439, 0, none⟩ = some (.string a0_0) := (blk_cell BK439.out 0).trans rfl
     have hcz13_1 : w6.cell? ⟨gb439, 1, none⟩ = some (.int .i64 a0_1) := (blk_cell BK439.out 1).trans rfl
     have hcz13_2 : w6.cell? ⟨gb439, 2, none⟩ = some (.int .i64 a0_2) := (blk_cell BK439.out 2).trans rfl
     have hcz13_3 : w6.cell? ⟨gb439, 3, none⟩ = some (.int .i64 a0_3) := (blk_cell BK439.out 3).trans rfl
     have hcz13_4 : w6.cell? ⟨gb439, 4, none⟩ = some (.string a0_4) := (blk_cell BK439.out 4).trans rfl
     have hcz13_5 : w6.cell? ⟨gb439, 5, none⟩ = some (.slice A0_5 l0_5.length c0_5) := (blk_cell BK439.out 5).trans rfl
     have hfz13_0 := blk_frozen BK439.out 0
     have hfz13_1 := blk_frozen BK439.out 1
     have hfz13_2 := blk_frozen BK439.out 2
     have hfz13_3 := blk_frozen BK439.out 3
     have hfz13_4 := blk_frozen BK439.out 4
     have hfz13_5 := blk_frozen BK439.out 5
     go_wp2_with (first | ((with_reducible refine gate_callee (f := 19) rfl ?_); refine goesL_ (some 17) rfl rfl Try.func19 (by kernel_rfl) rfl #[.agg #[.string a0_0, .int .i64 a0_1, .int .i64 a0_2, .int .i64 a0_3, .string a0_4, .slice A0_5 l0_5.length c0_5]] rfl (by (try simp only [List.map_toArray, List.map_cons, List.map_nil]); first | done | rfl | (simp only [List.length_drop, List.length_take]; rfl)) ?_; (with_reducible refine (wellspringref18_Check.calls k a0_0 a0_1 a0_2 a0_3 a0_4 _ _ l0_5 true _ ?side1 ?side2 A7.out).mono ?_); (case side1 => repeat (first | exact (Kd.C_below HR0_5.out HB.out) | (with_reducible refine Kd.C_alloc ?_ _) | (with_reducible refine Kd.C_drewN ?_ _) | (with_reducible refine Kd.C_drew ?_))); (case side2 => exact HC0_5.out); rintro e w14 ⟨rfl, hb⟩; refine ⟨_, rfl, ?_⟩; have n0_ := Aside0.mk (blk_below (g := gb439) (o := .cells #[.string a0_0, .int .i64 a0_1, .int .i64 a0_2, .int .i64 a0_3, .string a0_4, .slice A0_5 l0_5.length c0_5] 46 (0, 0)) (by (with_reducible repeat (first | refine blk_drewN ?_ _ | refine blk_drew ?_ | refine blk_alloc ?_ _)); exact BK439.out) hb); have n1_ := Aside0.mk (below_step (by repeat (first | (with_reducible first | exact HB.out | apply below_alloc | apply pw_below_drewN | apply below_drew1 | refine below_set ?_ GE439.out) | exact HB.out)) hb); clear BK439; clear HB; have BK439 := n0_; have HB := n1_; clear n0_ n1_; (try clear hb); (try clear hb2); (try clear hk); (try clear hi); have hcz15_0 : w14.cell? ⟨gb439, 0, none⟩ = some (.string a0_0) := (blk_cell BK439.out 0).trans rfl; have hcz15_1 : w14.cell? ⟨gb439, 1, none⟩ = some (.int .i64 a0_1) := (blk_cell BK439.out 1).trans rfl; have hcz15_2 : w14.cell? ⟨gb439, 2, none⟩ = some (.int .i64 a0_2) := (blk_cell BK439.out 2).trans rfl; have hcz15_3 : w14.cell? ⟨gb439, 3, none⟩ = some (.int .i64 a0_3) := (blk_cell BK439.out 3).trans rfl; have hcz15_4 : w14.cell? ⟨gb439, 4, none⟩ = some (.string a0_4) := (blk_cell BK439.out 4).trans rfl; have hcz15_5 : w14.cell? ⟨gb439, 5, none⟩ = some (.slice A0_5 l0_5.length c0_5) := (blk_cell BK439.out 5).trans rfl; have hfz15_0 := blk_frozen BK439.out 0; have hfz15_1 := blk_frozen BK439.out 1; have hfz15_2 := blk_frozen BK439.out 2; have hfz15_3 := blk_frozen BK439.out 3; have hfz15_4 := blk_frozen BK439.out 4; have hfz15_5 := blk_frozen BK439.out 5))
     go_meet
     case rel => (try rw [← Nbq31.out]); exact ⟨_, (true), (by first | rfl | (simp; done) | (simp [*]; done)), H', ⟨by first | omega | exact Nat.le_refl _⟩, ⟨by (with_reducible repeat (first | refine blk_drewN ?_ _ | refine blk_drew ?_ | refine blk_alloc ?_ _)); exact BK439.out⟩, ⟨by repeat (first | (with_reducible first | exact HB.out | apply below_alloc | apply pw_below_drewN | apply below_drew1 | refine below_set ?_ GE439.out) | exact HB.out)⟩⟩
    ·rw [if_neg c12] at H
     have c12b0 : decide ((l0_5.length : Int) ≤ a1) = false := decide_eq_false c12
     clear c12
     have H' := Aside0.mk H
     clear H
     have hcz16_0 : w6.cell? ⟨gb439, 0, none⟩ = some (.string a0_0) := (blk_cell BK439.out 0).trans rfl
     have hcz16_1 : w6.cell? ⟨gb439, 1, none⟩ = some (.int .i64 a0_1) := (blk_cell BK439.out 1).trans rfl
     have hcz16_2 : w6.cell? ⟨gb439, 2, none⟩ = some (.int .i64 a0_2) := (blk_cell BK439.out 2).trans rfl
     have hcz16_3 : w6.cell? ⟨gb439, 3, none⟩ = some (.int .i64 a0_3) := (blk_cell BK439.out 3).trans rfl
     have hcz16_4 : w6.cell? ⟨gb439, 4, none⟩ = some (.string a0_4) := (blk_cell BK439.out 4).trans rfl
     have hcz16_5 : w6.cell? ⟨gb439, 5, none⟩ = some (.slice A0_5 l0_5.length c0_5) := (blk_cell BK439.out 5).trans rfl
     have hfz16_0 := blk_frozen BK439.out 0
     have hfz16_1 := blk_frozen BK439.out 1
     have hfz16_2 := blk_frozen BK439.out 2
     have hfz16_3 := blk_frozen BK439.out 3
     have hfz16_4 := blk_frozen BK439.out 4
     have hfz16_5 := blk_frozen BK439.out 5
     go_wp2_with (first | ((with_reducible refine gate_callee (f := 19) rfl ?_); refine goesL_ (some 17) rfl rfl Try.func19 (by kernel_rfl) rfl #[.agg #[.string a0_0, .int .i64 a0_1, .int .i64 a0_2, .int .i64 a0_3, .string a0_4, .slice A0_5 l0_5.length c0_5]] rfl (by (try simp only [List.map_toArray, List.map_cons, List.map_nil]); first | done | rfl | (simp only [List.length_drop, List.length_take]; rfl)) ?_; (with_reducible refine (wellspringref18_Check.calls k a0_0 a0_1 a0_2 a0_3 a0_4 _ _ l0_5 true _ ?side1 ?side2 A7.out).mono ?_); (case side1 => repeat (first | exact (Kd.C_below HR0_5.out HB.out) | (with_reducible refine Kd.C_alloc ?_ _) | (with_reducible refine Kd.C_drewN ?_ _) | (with_reducible refine Kd.C_drew ?_))); (case side2 => exact HC0_5.out); rintro e w17 ⟨rfl, hb⟩; refine ⟨_, rfl, ?_⟩; have n0_ := Aside0.mk (blk_below (g := gb439) (o := .cells #[.string a0_0, .int .i64 a0_1, .int .i64 a0_2, .int .i64 a0_3, .string a0_4, .slice A0_5 l0_5.length c0_5] 46 (0, 0)) (by (with_reducible repeat (first | refine blk_drewN ?_ _ | refine blk_drew ?_ | refine blk_alloc ?_ _)); exact BK439.out) hb); have n1_ := Aside0.mk (below_step (by repeat (first | (with_reducible first | exact HB.out | apply below_alloc | apply pw_below_drewN | apply below_drew1 | refine below_set ?_ GE439.out) | exact HB.out)) hb); clear BK439; clear HB; have BK439 := n0_; have HB := n1_; clear n0_ n1_; (try clear hb); (try clear hb2); (try clear hk); (try clear hi); have hcz18_0 : w17.cell? ⟨gb439, 0, none⟩ = some (.string a0_0) := (blk_cell BK439.out 0).trans rfl; have hcz18_1 : w17.cell? ⟨gb439, 1, none⟩ = some (.int .i64 a0_1) := (blk_cell BK439.out 1).trans rfl; have hcz18_2 : w17.cell? ⟨gb439, 2, none⟩ = some (.int .i64 a0_2) := (blk_cell BK439.out 2).trans rfl; have hcz18_3 : w17.cell? ⟨gb439, 3, none⟩ = some (.int .i64 a0_3) := (blk_cell BK439.out 3).trans rfl; have hcz18_4 : w17.cell? ⟨gb439, 4, none⟩ = some (.string a0_4) := (blk_cell BK439.out 4).trans rfl; have hcz18_5 : w17.cell? ⟨gb439, 5, none⟩ = some (.slice A0_5 l0_5.length c0_5) := (blk_cell BK439.out 5).trans rfl; have hfz18_0 := blk_frozen BK439.out 0; have hfz18_1 := blk_frozen BK439.out 1; have hfz18_2 := blk_frozen BK439.out 2; have hfz18_3 := blk_frozen BK439.out 3; have hfz18_4 := blk_frozen BK439.out 4; have hfz18_5 := blk_frozen BK439.out 5))
     go_meet
     case rel => (try rw [← Nbq31.out]); exact ⟨_, (decide (a3 < 0)), (by first | rfl | (simp; done) | (simp [*]; done)), H', ⟨by first | omega | exact Nat.le_refl _⟩, ⟨by (with_reducible repeat (first | refine blk_drewN ?_ _ | refine blk_drew ?_ | refine blk_alloc ?_ _)); exact BK439.out⟩, ⟨by repeat (first | (with_reducible first | exact HB.out | apply below_alloc | apply pw_below_drewN | apply below_drew1 | refine below_set ?_ GE439.out) | exact HB.out)⟩⟩
  ·replace c8 := Bool.eq_false_iff.mpr c8
   subst c8
   have H1 : (wellspringref18_Part.j0 k a1 a2 a3 true a0_0 a0_1 a0_2 a0_3 a0_4 l0_5) = some r := by rw [if_neg (show ¬ (false = true) by decide)] at H; exact H
   clear H
   have H := H1
   clear H1
   have H' := Aside0.mk H
   clear H
   have hcz19_0 : w6.cell? ⟨gb439, 0, none⟩ = some (.string a0_0) := (blk_cell BK439.out 0).trans rfl
   have hcz19_1 : w6.cell? ⟨gb439, 1, none⟩ = some (.int .i64 a0_1) := (blk_cell BK439.out 1).trans rfl
   have hcz19_2 : w6.cell? ⟨gb439, 2, none⟩ = some (.int .i64 a0_2) := (blk_cell BK439.out 2).trans rfl
   have hcz19_3 : w6.cell? ⟨gb439, 3, none⟩ = some (.int .i64 a0_3) := (blk_cell BK439.out 3).trans rfl
   have hcz19_4 : w6.cell? ⟨gb439, 4, none⟩ = some (.string a0_4) := (blk_cell BK439.out 4).trans rfl
   have hcz19_5 : w6.cell? ⟨gb439, 5, none⟩ = some (.slice A0_5 l0_5.length c0_5) := (blk_cell BK439.out 5).trans rfl
   have hfz19_0 := blk_frozen BK439.out 0
   have hfz19_1 := blk_frozen BK439.out 1
   have hfz19_2 := blk_frozen BK439.out 2
   have hfz19_3 := blk_frozen BK439.out 3
   have hfz19_4 := blk_frozen BK439.out 4
   have hfz19_5 := blk_frozen BK439.out 5
   go_wp2_with (first | ((with_reducible refine gate_callee (f := 19) rfl ?_); refine goesL_ (some 17) rfl rfl Try.func19 (by kernel_rfl) rfl #[.agg #[.string a0_0, .int .i64 a0_1, .int .i64 a0_2, .int .i64 a0_3, .string a0_4, .slice A0_5 l0_5.length c0_5]] rfl (by (try simp only [List.map_toArray, List.map_cons, List.map_nil]); first | done | rfl | (simp only [List.length_drop, List.length_take]; rfl)) ?_; (with_reducible refine (wellspringref18_Check.calls k a0_0 a0_1 a0_2 a0_3 a0_4 _ _ l0_5 false _ ?side1 ?side2 A7.out).mono ?_); (case side1 => repeat (first | exact (Kd.C_below HR0_5.out HB.out) | (with_reducible refine Kd.C_alloc ?_ _) | (with_reducible refine Kd.C_drewN ?_ _) | (with_reducible refine Kd.C_drew ?_))); (case side2 => exact HC0_5.out); rintro e w20 ⟨rfl, hb⟩; refine ⟨_, rfl, ?_⟩; have n0_ := Aside0.mk (blk_below (g := gb439) (o := .cells #[.string a0_0, .int .i64 a0_1, .int .i64 a0_2, .int .i64 a0_3, .string a0_4, .slice A0_5 l0_5.length c0_5] 46 (0, 0)) (by (with_reducible repeat (first | refine blk_drewN ?_ _ | refine blk_drew ?_ | refine blk_alloc ?_ _)); exact BK439.out) hb); have n1_ := Aside0.mk (below_step (by repeat (first | (with_reducible first | exact HB.out | apply below_alloc | apply pw_below_drewN | apply below_drew1 | refine below_set ?_ GE439.out) | exact HB.out)) hb); clear BK439; clear HB; have BK439 := n0_; have HB := n1_; clear n0_ n1_; (try clear hb); (try clear hb2); (try clear hk); (try clear hi)))
   go_meet
   case rel => (try rw [← Nbq31.out]); exact ⟨_, (true), (by first | rfl | (simp; done) | (simp [*]; done)), H', ⟨by first | omega | exact Nat.le_refl _⟩, ⟨by (with_reducible repeat (first | refine blk_drewN ?_ _ | refine blk_drew ?_ | refine blk_alloc ?_ _)); exact BK439.out⟩, ⟨by repeat (first | (with_reducible first | exact HB.out | apply below_alloc | apply pw_below_drewN | apply below_drew1 | refine below_set ?_ GE439.out) | exact HB.out)⟩⟩
 case rest =>
  clear HC5
  try clear c1
  try clear c2
  try clear p2
  try clear c8
  try clear c9
  try clear c9b0
  try clear c12
  try clear c12b0
  try clear c19
  try clear hcz10_0
  try clear hcz10_1
  try clear hcz10_2
  try clear hcz10_3
  try clear hcz10_4
  try clear hcz10_5
  try clear hcz13_0
  try clear hcz13_1
  try clear hcz13_2
  try clear hcz13_3
  try clear hcz13_4
  try clear hcz13_5
  try clear hcz15_0
  try clear hcz15_1
  try clear hcz15_2
  try clear hcz15_3
  try clear hcz15_4
  try clear hcz15_5
  try clear hcz16_0
  try clear hcz16_1
  try clear hcz16_2
  try clear hcz16_3
  try clear hcz16_4
  try clear hcz16_5
  try clear hcz18_0
  try clear hcz18_1
  try clear hcz18_2
  try clear hcz18_3
  try clear hcz18_4
  try clear hcz18_5
  try clear hcz19_0
  try clear hcz19_1
  try clear hcz19_2
  try clear hcz19_3
  try clear hcz19_4
  try clear hcz19_5
  try clear hfz10_0
  try clear hfz10_1
  try clear hfz10_2
  try clear hfz10_3
  try clear hfz10_4
  try clear hfz10_5
  try clear hfz13_0
  try clear hfz13_1
  try clear hfz13_2
  try clear hfz13_3
  try clear hfz13_4
  try clear hfz13_5
  try clear hfz15_0
  try clear hfz15_1
  try clear hfz15_2
  try clear hfz15_3
  try clear hfz15_4
  try clear hfz15_5
  try clear hfz16_0
  try clear hfz16_1
  try clear hfz16_2
  try clear hfz16_3
  try clear hfz16_4
  try clear hfz16_5
  try clear hfz18_0
  try clear hfz18_1
  try clear hfz18_2
  try clear hfz18_3
  try clear hfz18_4
  try clear hfz18_5
  try clear hfz19_0
  try clear hfz19_1
  try clear hfz19_2
  try clear hfz19_3
  try clear hfz19_4
  try clear hfz19_5
  obtain ⟨kq, x33_4, rfl, HA, HJ4, BK439, HB⟩ := hcut
  cases kq with
  | zero => exact absurd HA.out (by simp [wellspringref18_Part.j0])
  | succ kj4 =>
   have H := HA.out
   clear HA
   simp only [wellspringref18_Part.j0] at H
   by_cases c21 : x33_4 = true
   ·subst c21
    have H1 : (some (⟨#[]⟩ : ByteArray)) = some r := by rw [if_pos rfl] at H; exact H
    clear H
    have H := H1
    clear H1
    obtain rfl := Option.some.inj H
    go_wp2
    go_ret
    exact ⟨by first | rfl | (simp [errW_none, errW_some] <;> rfl) | (simp [*, errW_none, errW_some] <;> rfl), by repeat (first | (with_reducible first | exact HB.out | apply below_alloc | apply pw_below_drewN | apply below_drew1 | refine below_set ?_ GE439.out) | exact HB.out)⟩
   ·replace c21 := Bool.eq_false_iff.mpr c21
    subst c21
    have H1 : (if 0 ≤ a1 then (if a1 < (l0_5.length : Int) then ((wellspringref12_Live.f a2 ((rd_T74 l0_5 a1).f1)).bind fun t443 => (if t443 = true then (if (rd_T74 l0_5 a1).f2 = true then (wellspringref18_Part.j1 kj4 a2 0 a0_0 a0_1 a0_2 a0_3 a0_4 l0_5 ((rd_T74 l0_5 a1).f0) ((rd_T74 l0_5 a1).f1) ((rd_T74 l0_5 a1).f2)) else (wellspringref18_Part.j1 kj4 a2 a3 a0_0 a0_1 a0_2 a0_3 a0_4 l0_5 ((rd_T74 l0_5 a1).f0) ((rd_T74 l0_5 a1).f1) ((rd_T74 l0_5 a1).f2))) else (some (⟨#[]⟩ : ByteArray)))) else (none)) else (none)) = some r := by rw [if_neg (show ¬ (false = true) by decide)] at H; exact H
    clear H
    have H := H1
    clear H1
    by_cases c22 : 0 ≤ a1
    ·rw [if_pos c22] at H
     have c22b0 : decide (0 ≤ a1) = true := decide_eq_true c22
     clear c22
     by_cases c23 : a1 < (l0_5.length : Int)
     ·rw [if_pos c23] at H
      have c23b0 : decide (a1 < (l0_5.length : Int)) = true := decide_eq_true c23
      clear c23
      replace H := Option.bind_eq_some_iff.mp H
      obtain ⟨t443, A240, H⟩ := H
      replace H : (if t443 = true then (if (rd_T74 l0_5 a1).f2 = true then (wellspringref18_Part.j1 kj4 a2 0 a0_0 a0_1 a0_2 a0_3 a0_4 l0_5 ((rd_T74 l0_5 a1).f0) ((rd_T74 l0_5 a1).f1) ((rd_T74 l0_5 a1).f2)) else (wellspringref18_Part.j1 kj4 a2 a3 a0_0 a0_1 a0_2 a0_3 a0_4 l0_5 ((rd_T74 l0_5 a1).f0) ((rd_T74 l0_5 a1).f1) ((rd_T74 l0_5 a1).f2))) else (some (⟨#[]⟩ : ByteArray))) = some r := H
      have A24 := Aside0.mk A240
      clear A240
      by_cases c25 : t443 = true
      ·subst c25
       have H1 : (if (rd_T74 l0_5 a1).f2 = true then (wellspringref18_Part.j1 kj4 a2 0 a0_0 a0_1 a0_2 a0_3 a0_4 l0_5 ((rd_T74 l0_5 a1).f0) ((rd_T74 l0_5 a1).f1) ((rd_T74 l0_5 a1).f2)) else (wellspringref18_Part.j1 kj4 a2 a3 a0_0 a0_1 a0_2 a0_3 a0_4 l0_5 ((rd_T74 l0_5 a1).f0) ((rd_T74 l0_5 a1).f1) ((rd_T74 l0_5 a1).f2))) = some r := by rw [if_pos rfl] at H; exact H
       clear H
       have H := H1
       clear H1
       have HC26 := Aside0.mk H
       clear H
       have hcz27_0 : wc.cell? ⟨gb439, 0, none⟩ = some (.string a0_0) := (blk_cell BK439.out 0).trans rfl
       have hcz27_1 : wc.cell? ⟨gb439, 1, none⟩ = some (.int .i64 a0_1) := (blk_cell BK439.out 1).trans rfl
       have hcz27_2 : wc.cell? ⟨gb439, 2, none⟩ = some (.int .i64 a0_2) := (blk_cell BK439.out 2).trans rfl
       have hcz27_3 : wc.cell? ⟨gb439, 3, none⟩ = some (.int .i64 a0_3) := (blk_cell BK439.out 3).trans rfl
       have hcz27_4 : wc.cell? ⟨gb439, 4, none⟩ = some (.string a0_4) := (blk_cell BK439.out 4).trans rfl
       have hcz27_5 : wc.cell? ⟨gb439, 5, none⟩ = some (.slice A0_5 l0_5.length c0_5) := (blk_cell BK439.out 5).trans rfl
       have hfz27_0 := blk_frozen BK439.out 0
       have hfz27_1 := blk_frozen BK439.out 1
       have hfz27_2 := blk_frozen BK439.out 2
       have hfz27_3 := blk_frozen BK439.out 3
       have hfz27_4 := blk_frozen BK439.out 4
       have hfz27_5 := blk_frozen BK439.out 5
       have p441 : 0 ≤ (a1 : Int) := of_decide_eq_true (by first | (with_reducible assumption) | assumption)
       have q441 : a1 < (l0_5.length : Int) := of_decide_eq_true (by first | (with_reducible assumption) | assumption)
       obtain ⟨ad441, A441_0, c441_0, e441, hx441_0, hx441_1, hx441_2, hl441_0, hi441_0⟩ := at_T74 HR0_5.out a1 p441 q441
       cases e441
       replace hx441_0 := (HB.out.cell (World.block_lt_of_cell? w _ hx441_0)).trans hx441_0
       replace hx441_1 := (HB.out.cell (World.block_lt_of_cell? w _ hx441_1)).trans hx441_1
       replace hx441_2 := (HB.out.cell (World.block_lt_of_cell? w _ hx441_2)).trans hx441_2
       have HR441_0 := Aside0.mk hi441_0
       have HC441_0 := Aside0.mk hl441_0
       clear hi441_0 hl441_0
       replace p441 := eq_true p441
       replace q441 := eq_true q441
       go_upto_if 45 with (first | ((with_reducible refine gate_dst (N := 9) rfl ?_); (try (refine gate_guard (by rfl) ?_; dsimp only)); refine box_event ?hg (N := 9) ?hd (cs := #[.slice none 0 0, .int .i64 0, .bool false]) (t := 74) ?hr ?_; (case hd => rfl); (case hg => rfl); (case hr => first | (go_simp; done) | (go_simp; rfl)); intro gb442 hg w28 hbox hb; have n0_ := Aside0.mk (blk_below (g := gb439) (o := .cells #[.string a0_0, .int .i64 a0_1, .int .i64 a0_2, .int .i64 a0_3, .string a0_4, .slice (some ad441) l0_5.length c0_5] 46 (0, 0)) (by (with_reducible repeat (first | refine blk_drewN ?_ _ | refine blk_drew ?_ | refine blk_alloc ?_ _)); exact BK439.out) hb); have n1_ := Aside0.mk (below_step (by repeat (first | (with_reducible first | exact HB.out | apply below_alloc | apply pw_below_drewN | apply below_drew1 | refine below_set ?_ GE439.out) | exact HB.out)) hb); have n2_ := Aside0.mk (hbox); have n3_ := Aside0.mk ((by rw [hg]; exact (below_size (by repeat (first | (with_reducible first | exact HB.out | apply below_alloc | apply pw_below_drewN | apply below_drew1 | refine below_set ?_ GE439.out) | exact HB.out))) : w.heap.size ≤ gb442)); have n4_ := Aside0.mk ((by rw [hg]; exact (below_size (by repeat (first | (with_reducible first | exact HB.out | apply below_alloc | apply pw_below_drewN | apply below_drew1 | refine below_set ?_ GE439.out) | exact HB.out))) : w.heap.size ≤ gb442)); have n5_ := Aside0.mk ((by rw [hg]; exact Nat.ne_of_lt (blk_lt (g := gb439) (o := .cells #[.string a0_0, .int .i64 a0_1, .int .i64 a0_2, .int .i64 a0_3, .string a0_4, .slice (some ad441) l0_5.length c0_5] 46 (0, 0)) (by (with_reducible repeat (first | refine blk_drewN ?_ _ | refine blk_drew ?_ | refine blk_alloc ?_ _)); exact BK439.out)) : gb439 ≠ gb442)); have n6_ := Aside0.mk ((by rw [hg]; exact Nat.ne_of_gt (blk_lt (g := gb439) (o := .cells #[.string a0_0, .int .i64 a0_1, .int .i64 a0_2, .int .i64 a0_3, .string a0_4, .slice (some ad441) l0_5.length c0_5] 46 (0, 0)) (by (with_reducible repeat (first | refine blk_drewN ?_ _ | refine blk_drew ?_ | refine blk_alloc ?_ _)); exact BK439.out)) : gb442 ≠ gb439)); clear BK439; clear HB; have BK439 := n0_; have HB := n1_; have BK442 := n2_; have GW442 := n3_; have GE442 := n4_; have NB439_442 := n5_; have NB442_439 := n6_; clear n0_ n1_ n2_ n3_ n4_ n5_ n6_; clear hb hbox hg; have hnb29 := NB442_439.out; have hnc29 := NB439_442.out; have hcz30_0 : w28.cell? ⟨gb442, 0, none⟩ = some (.slice none 0 0) := (blk_cell BK442.out 0).trans rfl; have hcz30_1 : w28.cell? ⟨gb442, 1, none⟩ = some (.int .i64 0) := (blk_cell BK442.out 1).trans rfl; have hcz30_2 : w28.cell? ⟨gb442, 2, none⟩ = some (.bool false) := (blk_cell BK442.out 2).trans rfl; have hfz30_0 := blk_frozen BK442.out 0; have hfz30_1 := blk_frozen BK442.out 1; have hfz30_2 := blk_frozen BK442.out 2) | ((with_reducible refine gate_callee (f := 34) rfl ?_); refine goesL_ (some 42) rfl rfl Try.func34 (by kernel_rfl) rfl #[.int .i64 a2, .int .i64 ((rd_T74 l0_5 a1).f1)] rfl (by (try simp only [List.map_toArray, List.map_cons, List.map_nil]); first | done | rfl | (simp only [List.length_drop, List.length_take]; rfl)) ?_; (with_reducible refine (wellspringref12_Live.calls a2 ((rd_T74 l0_5 a1).f1) true _ A24.out).mono ?_); rintro e w' ⟨rfl, ⟨nd, rfl⟩⟩; refine ⟨_, rfl, ?_⟩))
       (try simp only [Act.put, List.setIfInBounds_toArray, List.set_cons_zero, List.set_cons_succ])
       go_cut [3] (fun v3 wc => ∃ (kq : Nat) (x3_25 : Int), v3 = .int .i64 x3_25 ∧ Aside0 (wellspringref18_Part.j1 kq a2 x3_25 a0_0 a0_1 a0_2 a0_3 a0_4 l0_5 ((rd_T74 l0_5 a1).f0) ((rd_T74 l0_5 a1).f1) ((rd_T74 l0_5 a1).f2) = some r) ∧ Aside0 (kq ≤ kj4) ∧ Aside0 (wc.heap[gb439]? = some (.cells #[.string a0_0, .int .i64 a0_1, .int .i64 a0_2, .int .i64 a0_3, .string a0_4, (.slice (some ad441) l0_5.length c0_5)] 46 (0, 0))) ∧ Aside0 (wc.heap[gb442]? = some (.cells #[(.slice A441_0 ((rd_T74 l0_5 a1).f0).length c441_0), .int .i64 ((rd_T74 l0_5 a1).f1), .bool ((rd_T74 l0_5 a1).f2)] 74 (0, 0))) ∧ Aside0 (Below w.heap.size w wc))
       case first =>
        have H := HC26.out
        clear HC26
        obtain ⟨bq31, hbq31⟩ : ∃ b_ : Bool, b_ = ((rd_T74 l0_5 a1).f2) := ⟨_, rfl⟩
        replace H : (if bq31 = true then (wellspringref18_Part.j1 kj4 a2 0 a0_0 a0_1 a0_2 a0_3 a0_4 l0_5 ((rd_T74 l0_5 a1).f0) ((rd_T74 l0_5 a1).f1) bq31) else (wellspringref18_Part.j1 kj4 a2 a3 a0_0 a0_1 a0_2 a0_3 a0_4 l0_5 ((rd_T74 l0_5 a1).f0) ((rd_T74 l0_5 a1).f1) bq31)) = some r := by rw [← hbq31] at H; exact H
        have Nbq31 := Aside0.mk hbq31
        clear hbq31
        (try rw [← Nbq31.out])
        by_cases c32 : bq31 = true
        ·subst c32
         have H1 : (wellspringref18_Part.j1 kj4 a2 0 a0_0 a0_1 a0_2 a0_3 a0_4 l0_5 ((rd_T74 l0_5 a1).f0) ((rd_T74 l0_5 a1).f1) true) = some r := by rw [if_pos rfl] at H; exact H
         clear H
         have H := H1
         clear H1
         have H' := Aside0.mk H
         clear H
         go_wp2
         go_meet
         case rel => (try rw [← Nbq31.out]); exact ⟨_, (0), (by first | rfl | (simp; done) | (simp [*]; done)), H', ⟨by have := HJ4.out; first | omega | exact Nat.le_refl _⟩, ⟨by (with_reducible repeat (first | refine blk_drewN ?_ _ | refine blk_drew ?_ | refine blk_alloc ?_ _)); refine blk_far ?_ NB439_442.out _; (with_reducible repeat (first | refine blk_drewN ?_ _ | refine blk_drew ?_ | refine blk_alloc ?_ _)); refine blk_far ?_ NB439_442.out _; (with_reducible repeat (first | refine blk_drewN ?_ _ | refine blk_drew ?_ | refine blk_alloc ?_ _)); refine blk_far ?_ NB439_442.out _; (with_reducible repeat (first | refine blk_drewN ?_ _ | refine blk_drew ?_ | refine blk_alloc ?_ _)); exact BK439.out⟩, ⟨by (with_reducible repeat (first | refine blk_drewN ?_ _ | refine blk_drew ?_ | refine blk_alloc ?_ _)); refine blk_put (cs := #[.slice A441_0 ((rd_T74 l0_5 a1).f0).length c441_0, .int .i64 ((rd_T74 l0_5 a1).f1), .bool false]) ?_ 2 _ rfl; (with_reducible repeat (first | refine blk_drewN ?_ _ | refine blk_drew ?_ | refine blk_alloc ?_ _)); refine blk_put (cs := #[.slice A441_0 ((rd_T74 l0_5 a1).f0).length c441_0, .int .i64 0, .bool false]) ?_ 1 _ rfl; (with_reducible repeat (first | refine blk_drewN ?_ _ | refine blk_drew ?_ | refine blk_alloc ?_ _)); refine blk_put (cs := #[.slice none 0 0, .int .i64 0, .bool false]) ?_ 0 _ rfl; (with_reducible repeat (first | refine blk_drewN ?_ _ | refine blk_drew ?_ | refine blk_alloc ?_ _)); exact BK442.out⟩, ⟨by repeat (first | (with_reducible first | exact HB.out | apply below_alloc | apply pw_below_drewN | apply below_drew1 | refine below_set ?_ GE439.out | refine below_set ?_ GE442.out) | exact HB.out)⟩⟩
        ·replace c32 := Bool.eq_false_iff.mpr c32
         subst c32
         have H1 : (wellspringref18_Part.j1 kj4 a2 a3 a0_0 a0_1 a0_2 a0_3 a0_4 l0_5 ((rd_T74 l0_5 a1).f0) ((rd_T74 l0_5 a1).f1) false) = some r := by rw [if_neg (show ¬ (false = true) by decide)] at H; exact H
         clear H
         have H := H1
         clear H1
         have H' := Aside0.mk H
         clear H
         go_wp2
         go_meet
         case rel => (try rw [← Nbq31.out]); exact ⟨_, (a3), (by first | rfl | (simp; done) | (simp [*]; done)), H', ⟨by have := HJ4.out; first | omega | exact Nat.le_refl _⟩, ⟨by (with_reducible repeat (first | refine blk_drewN ?_ _ | refine blk_drew ?_ | refine blk_alloc ?_ _)); refine blk_far ?_ NB439_442.out _; (with_reducible repeat (first | refine blk_drewN ?_ _ | refine blk_drew ?_ | refine blk_alloc ?_ _)); refine blk_far ?_ NB439_442.out _; (with_reducible repeat (first | refine blk_drewN ?_ _ | refine blk_drew ?_ | refine blk_alloc ?_ _)); refine blk_far ?_ NB439_442.out _; (with_reducible repeat (first | refine blk_drewN ?_ _ | refine blk_drew ?_ | refine blk_alloc ?_ _)); exact BK439.out⟩, ⟨by (with_reducible repeat (first | refine blk_drewN ?_ _ | refine blk_drew ?_ | refine blk_alloc ?_ _)); refine blk_put (cs := #[.slice A441_0 ((rd_T74 l0_5 a1).f0).length c441_0, .int .i64 ((rd_T74 l0_5 a1).f1), .bool false]) ?_ 2 _ rfl; (with_reducible repeat (first | refine blk_drewN ?_ _ | refine blk_drew ?_ | refine blk_alloc ?_ _)); refine blk_put (cs := #[.slice A441_0 ((rd_T74 l0_5 a1).f0).length c441_0, .int .i64 0, .bool false]) ?_ 1 _ rfl; (with_reducible repeat (first | refine blk_drewN ?_ _ | refine blk_drew ?_ | refine blk_alloc ?_ _)); refine blk_put (cs := #[.slice none 0 0, .int .i64 0, .bool false]) ?_ 0 _ rfl; (with_reducible repeat (first | refine blk_drewN ?_ _ | refine blk_drew ?_ | refine blk_alloc ?_ _)); exact BK442.out⟩, ⟨by repeat (first | (with_reducible first | exact HB.out | apply below_alloc | apply pw_below_drewN | apply below_drew1 | refine below_set ?_ GE439.out | refine below_set ?_ GE442.out) | exact HB.out)⟩⟩
       case rest =>
        clear HC26
        try clear c1
        try clear c2
        try clear p2
        try clear c3
        try clear q3
        try clear c4
        try clear p4
        try clear q4
        try clear hx4
        try clear c8
        try clear c9
        try clear c9b0
        try clear c12
        try clear c12b0
        try clear c19
        try clear c21
        try clear c22
        try clear c22b0
        try clear c23
        try clear c23b0
        try clear c25
        try clear c29
        try clear q31
        try clear c32
        try clear hcz10_0
        try clear hcz10_1
        try clear hcz10_2
        try clear hcz10_3
        try clear hcz10_4
        try clear hcz10_5
        try clear hcz13_0
        try clear hcz13_1
        try clear hcz13_2
        try clear hcz13_3
        try clear hcz13_4
        try clear hcz13_5
        try clear hcz15_0
        try clear hcz15_1
        try clear hcz15_2
        try clear hcz15_3
        try clear hcz15_4
        try clear hcz15_5
        try clear hcz16_0
        try clear hcz16_1
        try clear hcz16_2
        try clear hcz16_3
        try clear hcz16_4
        try clear hcz16_5
        try clear hcz18_0
        try clear hcz18_1
        try clear hcz18_2
        try clear hcz18_3
        try clear hcz18_4
        try clear hcz18_5
        try clear hcz19_0
        try clear hcz19_1
        try clear hcz19_2
        try clear hcz19_3
        try clear hcz19_4
        try clear hcz19_5
        try clear hcz27_0
        try clear hcz27_1
        try clear hcz27_2
        try clear hcz27_3
        try clear hcz27_4
        try clear hcz27_5
        try clear hcz30_0
        try clear hcz30_1
        try clear hcz30_2
        try clear hfz10_0
        try clear hfz10_1
        try clear hfz10_2
        try clear hfz10_3
        try clear hfz10_4
        try clear hfz10_5
        try clear hfz13_0
        try clear hfz13_1
        try clear hfz13_2
        try clear hfz13_3
        try clear hfz13_4
        try clear hfz13_5
        try clear hfz15_0
        try clear hfz15_1
        try clear hfz15_2
        try clear hfz15_3
        try clear hfz15_4
        try clear hfz15_5
        try clear hfz16_0
        try clear hfz16_1
        try clear hfz16_2
        try clear hfz16_3
        try clear hfz16_4
        try clear hfz16_5
        try clear hfz18_0
        try clear hfz18_1
        try clear hfz18_2
        try clear hfz18_3
        try clear hfz18_4
        try clear hfz18_5
        try clear hfz19_0
        try clear hfz19_1
        try clear hfz19_2
        try clear hfz19_3
        try clear hfz19_4
        try clear hfz19_5
        try clear hfz27_0
        try clear hfz27_1
        try clear hfz27_2
        try clear hfz27_3
        try clear hfz27_4
        try clear hfz27_5
        try clear hfz30_0
        try clear hfz30_1
        try clear hfz30_2
        try clear hx441_0
        try clear hx441_1
        try clear hx441_2
        try clear p2
        try clear p441
        try clear q441
        obtain ⟨kq, x3_25, rfl, HA, HJ25, BK439, BK442, HB⟩ := hcut
        cases kq with
        | zero => exact absurd HA.out (by simp [wellspringref18_Part.j1])
        | succ kj25 =>
         have H := HA.out
         clear HA
         simp only [wellspringref18_Part.j1] at H
         have H' := Aside0.mk H
         clear H
         have hnb33 := NB442_439.out
         have hnc33 := NB439_442.out
         have hcz34_0 : wc.cell? ⟨gb442, 0, none⟩ = some (.slice A441_0 ((rd_T74 l0_5 a1).f0).length c441_0) := (blk_cell BK442.out 0).trans rfl
         have hcz34_1 : wc.cell? ⟨gb442, 1, none⟩ = some (.int .i64 ((rd_T74 l0_5 a1).f1)) := (blk_cell BK442.out 1).trans rfl
         have hcz34_2 : wc.cell? ⟨gb442, 2, none⟩ = some (.bool ((rd_T74 l0_5 a1).f2)) := (blk_cell BK442.out 2).trans rfl
         have hfz34_0 := blk_frozen BK442.out 0
         have hfz34_1 := blk_frozen BK442.out 1
         have hfz34_2 := blk_frozen BK442.out 2
         go_wp2
         go_loopg [10, 12] kj25 (fun kq v10 v12 w' => ∃ (x10_3 : ByteArray) (x12_3 : Int), v10 = .string x10_3 ∧ v12 = .int .i64 x12_3 ∧ Aside0 (wellspringref18_Part.l0 kq a2 x3_25 x10_3 (((rd_T74 l0_5 a1).f0).length : Int) x12_3 a0_0 a0_1 a0_2 a0_3 a0_4 l0_5 ((rd_T74 l0_5 a1).f0) ((rd_T74 l0_5 a1).f1) ((rd_T74 l0_5 a1).f2) = some r) ∧ Aside0 (kq ≤ kj25) ∧ Aside0 (w'.heap[gb439]? = some (.cells #[.string a0_0, .int .i64 a0_1, .int .i64 a0_2, .int .i64 a0_3, .string a0_4, (.slice (some ad441) l0_5.length c0_5)] 46 (0, 0))) ∧ Aside0 (w'.heap[gb442]? = some (.cells #[(.slice A441_0 ((rd_T74 l0_5 a1).f0).length c441_0), .int .i64 ((rd_T74 l0_5 a1).f1), .bool ((rd_T74 l0_5 a1).f2)] 74 (0, 0))) ∧ Aside0 (Below w.heap.size w w'))
         case atStart => exact ⟨((⟨#[]⟩ : ByteArray)), (0), (by first | rfl | (simp; done) | (simp [*]; done)), (by first | rfl | (simp; done) | (simp [*]; done)), H', ⟨Nat.le_refl _⟩, ⟨by (with_reducible repeat (first | refine blk_drewN ?_ _ | refine blk_drew ?_ | refine blk_alloc ?_ _)); exact BK439.out⟩, ⟨by (with_reducible repeat (first | refine blk_drewN ?_ _ | refine blk_drew ?_ | refine blk_alloc ?_ _)); exact BK442.out⟩, ⟨by repeat (first | (with_reducible first | exact HB.out | apply below_alloc | apply pw_below_drewN | apply below_drew1 | refine below_set ?_ GE439.out | refine below_set ?_ GE442.out) | exact HB.out)⟩⟩
         case round =>
          clear H'
          try clear c1
          try clear c2
          try clear p2
          try clear c3
          try clear q3
          try clear c4
          try clear p4
          try clear q4
          try clear hx4
          try clear c8
          try clear c9
          try clear c9b0
          try clear c12
          try clear c12b0
          try clear c19
          try clear c21
          try clear c22
          try clear c22b0
          try clear c23
          try clear c23b0
          try clear c25
          try clear c29
          try clear q31
          try clear c32
          try clear c33
          try clear c34
          try clear hcz10_0
          try clear hcz10_1
          try clear hcz10_2
          try clear hcz10_3
          try clear hcz10_4
          try clear hcz10_5
          try clear hcz13_0
          try clear hcz13_1
          try clear hcz13_2
          try clear hcz13_3
          try clear hcz13_4
          try clear hcz13_5
          try clear hcz15_0
          try clear hcz15_1
          try clear hcz15_2
          try clear hcz15_3
          try clear hcz15_4
          try clear hcz15_5
          try clear hcz16_0
          try clear hcz16_1
          try clear hcz16_2
          try clear hcz16_3
          try clear hcz16_4
          try clear hcz16_5
          try clear hcz18_0
          try clear hcz18_1
          try clear hcz18_2
          try clear hcz18_3
          try clear hcz18_4
          try clear hcz18_5
          try clear hcz19_0
          try clear hcz19_1
          try clear hcz19_2
          try clear hcz19_3
          try clear hcz19_4
          try clear hcz19_5
          try clear hcz27_0
          try clear hcz27_1
          try clear hcz27_2
          try clear hcz27_3
          try clear hcz27_4
          try clear hcz27_5
          try clear hcz30_0
          try clear hcz30_1
          try clear hcz30_2
          try clear hcz34_0
          try clear hcz34_1
          try clear hcz34_2
          try clear hfz10_0
          try clear hfz10_1
          try clear hfz10_2
          try clear hfz10_3
          try clear hfz10_4
          try clear hfz10_5
          try clear hfz13_0
          try clear hfz13_1
          try clear hfz13_2
          try clear hfz13_3
          try clear hfz13_4
          try clear hfz13_5
          try clear hfz15_0
          try clear hfz15_1
          try clear hfz15_2
          try clear hfz15_3
          try clear hfz15_4
          try clear hfz15_5
          try clear hfz16_0
          try clear hfz16_1
          try clear hfz16_2
          try clear hfz16_3
          try clear hfz16_4
          try clear hfz16_5
          try clear hfz18_0
          try clear hfz18_1
          try clear hfz18_2
          try clear hfz18_3
          try clear hfz18_4
          try clear hfz18_5
          try clear hfz19_0
          try clear hfz19_1
          try clear hfz19_2
          try clear hfz19_3
          try clear hfz19_4
          try clear hfz19_5
          try clear hfz27_0
          try clear hfz27_1
          try clear hfz27_2
          try clear hfz27_3
          try clear hfz27_4
          try clear hfz27_5
          try clear hfz30_0
          try clear hfz30_1
          try clear hfz30_2
          try clear hfz34_0
          try clear hfz34_1
          try clear hfz34_2
          try clear hx441_0
          try clear hx441_1
          try clear hx441_2
          try clear p2
          try clear p4
          try clear p441
          try clear q3
          try clear q31
          try clear q4
          try clear q441
          obtain ⟨x10_3, x12_3, rfl, rfl, HA, HK3, BK439, BK442, HB⟩ := hrel
          cases gk with
          | zero => exact absurd HA.out (by simp [wellspringref18_Part.l0])
          | succ k3 =>
           have H := HA.out
           clear HA
           simp only [wellspringref18_Part.l0] at H
           by_cases c35 : x12_3 < (((rd_T74 l0_5 a1).f0).length : Int)
           ·rw [if_pos c35] at H
            have c35b0 : decide (x12_3 < (((rd_T74 l0_5 a1).f0).length : Int)) = true := decide_eq_true c35
            clear c35
            by_cases c36 : (((rd_T74 l0_5 a1).f0).length : Int) = 0
            ·rw [if_pos c36] at H
             exact absurd H (by simp)
            ·rw [if_neg c36] at H
             have c36b0 : ((((rd_T74 l0_5 a1).f0).length : Int) == 0) = false := beq_eq_false_iff_ne.mpr c36
             have c36b1 : ((((rd_T74 l0_5 a1).f0).length : Int) != 0) = true := bne_iff_ne.mpr c36
             have c36b2 : ¬ (((rd_T74 l0_5 a1).f0) = []) := fun h_ => c36 (by rw [h_]; rfl)
             obtain ⟨ji37, hji37⟩ : ∃ j_ : Int, (Int.tmod (wrap64 ((Int.tmod x3_25 (((rd_T74 l0_5 a1).f0).length : Int)) + x12_3)) (((rd_T74 l0_5 a1).f0).length : Int)) = j_ := ⟨_, rfl⟩
             replace H : (if 0 ≤ (ji37) then (if (ji37) < (((rd_T74 l0_5 a1).f0).length : Int) then (if 0 ≤ ((rd_T80 ((rd_T74 l0_5 a1).f0) (ji37)).f0) then (if ((rd_T80 ((rd_T74 l0_5 a1).f0) (ji37)).f0) ≤ ((rd_T80 ((rd_T74 l0_5 a1).f0) (ji37)).f1) then (if ((rd_T80 ((rd_T74 l0_5 a1).f0) (ji37)).f1) ≤ (a0_4.size : Int) then ((wellspringref12_Left.f a2 ((rd_T74 l0_5 a1).f1)).bind fun t446 => ((wellspringref01_Put.f k3 t446 4).bind fun t447 => ((wellspringref01_Lay.f (a0_4.extract (((rd_T80 ((rd_T74 l0_5 a1).f0) (ji37)).f0) : Int).toNat (((rd_T80 ((rd_T74 l0_5 a1).f0) (ji37)).f1) : Int).toNat) (wrap64 (((rd_T80 ((rd_T74 l0_5 a1).f0) (ji37)).f2) - ((rd_T80 ((rd_T74 l0_5 a1).f0) (ji37)).f0))) t447).bind fun bt448 => (if x10_3.size + bt448.1.size ≤ 9223372036854775807 then (wellspringref18_Part.l0 k3 a2 x3_25 (x10_3 ++ bt448.1) (((rd_T74 l0_5 a1).f0).length : Int) (wrap64 (x12_3 + 1)) a0_0 a0_1 a0_2 a0_3 a0_4 l0_5 ((rd_T74 l0_5 a1).f0) ((rd_T74 l0_5 a1).f1) ((rd_T74 l0_5 a1).f2)) else (none))))) else (none)) else (none)) else (none)) else (none)) else (none)) = some r := by first | (rw [hji37] at H; exact H) | (simp only [hji37] at H ⊢; exact H)
             by_cases c38 : 0 ≤ (ji37)
             ·rw [if_pos c38] at H
              have c38b0 : decide (0 ≤ (ji37)) = true := decide_eq_true c38
              clear c38
              by_cases c39 : (ji37) < (((rd_T74 l0_5 a1).f0).length : Int)
              ·rw [if_pos c39] at H
               have c39b0 : decide ((ji37) < (((rd_T74 l0_5 a1).f0).length : Int)) = true := decide_eq_true c39
               clear c39
               by_cases c40 : 0 ≤ ((rd_T80 ((rd_T74 l0_5 a1).f0) (ji37)).f0)
               ·rw [if_pos c40] at H
                have c40b0 := eq_true c40
                have c40b1 : decide (0 ≤ ((rd_T80 ((rd_T74 l0_5 a1).f0) (ji37)).f0)) = true := decide_eq_true c40
                clear c40
                by_cases c41 : ((rd_T80 ((rd_T74 l0_5 a1).f0) (ji37)).f0) ≤ ((rd_T80 ((rd_T74 l0_5 a1).f0) (ji37)).f1)
                ·rw [if_pos c41] at H
                 have c41b0 := eq_true c41
                 have c41b1 : decide (((rd_T80 ((rd_T74 l0_5 a1).f0) (ji37)).f0) ≤ ((rd_T80 ((rd_T74 l0_5 a1).f0) (ji37)).f1)) = true := decide_eq_true c41
                 clear c41
                 by_cases c42 : ((rd_T80 ((rd_T74 l0_5 a1).f0) (ji37)).f1) ≤ (a0_4.size : Int)
                 ·rw [if_pos c42] at H
                  have c42b0 := eq_true c42
                  have c42b1 : decide (((rd_T80 ((rd_T74 l0_5 a1).f0) (ji37)).f1) ≤ (a0_4.size : Int)) = true := decide_eq_true c42
                  clear c42
                  replace H := Option.bind_eq_some_iff.mp H
                  obtain ⟨t446, A430, H⟩ := H
                  replace H : ((wellspringref01_Put.f k3 t446 4).bind fun t447 => ((wellspringref01_Lay.f (a0_4.extract (((rd_T80 ((rd_T74 l0_5 a1).f0) (ji37)).f0) : Int).toNat (((rd_T80 ((rd_T74 l0_5 a1).f0) (ji37)).f1) : Int).toNat) (wrap64 (((rd_T80 ((rd_T74 l0_5 a1).f0) (ji37)).f2) - ((rd_T80 ((rd_T74 l0_5 a1).f0) (ji37)).f0))) t447).bind fun bt448 => (if x10_3.size + bt448.1.size ≤ 9223372036854775807 then (wellspringref18_Part.l0 k3 a2 x3_25 (x10_3 ++ bt448.1) (((rd_T74 l0_5 a1).f0).length : Int) (wrap64 (x12_3 + 1)) a0_0 a0_1 a0_2 a0_3 a0_4 l0_5 ((rd_T74 l0_5 a1).f0) ((rd_T74 l0_5 a1).f1) ((rd_T74 l0_5 a1).f2)) else (none)))) = some r := H
                  have A43 := Aside0.mk A430
                  clear A430
                  replace H := Option.bind_eq_some_iff.mp H
                  obtain ⟨t447, A440, H⟩ := H
                  replace H : ((wellspringref01_Lay.f (a0_4.extract (((rd_T80 ((rd_T74 l0_5 a1).f0) (ji37)).f0) : Int).toNat (((rd_T80 ((rd_T74 l0_5 a1).f0) (ji37)).f1) : Int).toNat) (wrap64 (((rd_T80 ((rd_T74 l0_5 a1).f0) (ji37)).f2) - ((rd_T80 ((rd_T74 l0_5 a1).f0) (ji37)).f0))) t447).bind fun bt448 => (if x10_3.size + bt448.1.size ≤ 9223372036854775807 then (wellspringref18_Part.l0 k3 a2 x3_25 (x10_3 ++ bt448.1) (((rd_T74 l0_5 a1).f0).length : Int) (wrap64 (x12_3 + 1)) a0_0 a0_1 a0_2 a0_3 a0_4 l0_5 ((rd_T74 l0_5 a1).f0) ((rd_T74 l0_5 a1).f1) ((rd_T74 l0_5 a1).f2)) else (none))) = some r := H
                  have A44 := Aside0.mk A440
                  clear A440
                  replace H := Option.bind_eq_some_iff.mp H
                  obtain ⟨⟨t448, t449⟩, A450, H⟩ := H
                  replace H : (if x10_3.size + t448.size ≤ 9223372036854775807 then (wellspringref18_Part.l0 k3 a2 x3_25 (x10_3 ++ t448) (((rd_T74 l0_5 a1).f0).length : Int) (wrap64 (x12_3 + 1)) a0_0 a0_1 a0_2 a0_3 a0_4 l0_5 ((rd_T74 l0_5 a1).f0) ((rd_T74 l0_5 a1).f1) ((rd_T74 l0_5 a1).f2)) else (none)) = some r := H
                  have A45 := Aside0.mk A450
                  clear A450
                  by_cases c46 : x10_3.size + t448.size ≤ 9223372036854775807
                  ·rw [if_pos c46] at H
                   have c46b0 := eq_true c46
                   have c46b1 : decide (x10_3.size + t448.size ≤ 9223372036854775807) = true := decide_eq_true c46
                   try have c46b2 : (9223372036854775807 < x10_3.size + t448.size) = False := eq_false (Nat.not_lt.2 c46)
                   have H' := Aside0.mk H
                   clear H
                   try go_wp2
                   have n0_ := Aside0.mk (blk_drew BK439.out)
                   have n1_ := Aside0.mk (blk_drew BK442.out)
                   have n2_ := Aside0.mk (below_drew1 HB.out)
                   clear BK439
                   clear BK442
                   clear HB
                   have BK439 := n0_
                   have BK442 := n1_
                   have HB := n2_
                   clear n0_ n1_ n2_
                   have p444 : 0 ≤ ((ji37) : Int) := of_decide_eq_true (by first | (with_reducible assumption) | assumption)
                   have q444 : (ji37) < (((rd_T74 l0_5 a1).f0).length : Int) := of_decide_eq_true (by first | (with_reducible assumption) | assumption)
                   obtain ⟨ad444, e444, hx444_0, hx444_1, hx444_2⟩ := at_T80 HR441_0.out (ji37) p444 q444
                   have hw444_2 := hx444_2
                   have hw444_1 := hx444_1
                   have hw444_0 := hx444_0
                   cases e444
                   replace hx444_0 := (HB.out.cell (World.block_lt_of_cell? w _ hx444_0)).trans hx444_0
                   replace hx444_1 := (HB.out.cell (World.block_lt_of_cell? w _ hx444_1)).trans hx444_1
                   replace hx444_2 := (HB.out.cell (World.block_lt_of_cell? w _ hx444_2)).trans hx444_2
                   replace p444 := eq_true p444
                   replace q444 := eq_true q444
                   refine start_ (n := 13) (S := fun w' => w'.cell? ⟨gb442, 0, none⟩ = some (.slice (some ad444) ((rd_T74 l0_5 a1).f0).length c441_0) ∧ w'.cell? ⟨gb442, 1, none⟩ = some (.int .i64 ((rd_T74 l0_5 a1).f1)) ∧ w'.cell? ⟨gb442, 2, none⟩ = some (.bool ((rd_T74 l0_5 a1).f2)) ∧ w'.cell? (ad444.add (((ji37)).toNat * 3)) = some (.int .i64 ((rd_T80 ((rd_T74 l0_5 a1).f0) (ji37)).f0)) ∧ w'.cell? ⟨(ad444.add (((ji37)).toNat * 3)).block, (ad444.add (((ji37)).toNat * 3)).off + 1, none⟩ = some (.int .i64 ((rd_T80 ((rd_T74 l0_5 a1).f0) (ji37)).f1)) ∧ w'.cell? ⟨(ad444.add (((ji37)).toNat * 3)).block, (ad444.add (((ji37)).toNat * 3)).off + 2, none⟩ = some (.int .i64 ((rd_T80 ((rd_T74 l0_5 a1).f0) (ji37)).f2))) (ds := []) #[false, false, false, false, false, false, false, false, false, false, false, false, false] (by kernel_rfl) rfl rfl ⟨(blk_cell BK442.out 0).trans rfl, (blk_cell BK442.out 1).trans rfl, (blk_cell BK442.out 2).trans rfl, ((HB.out.cell (World.block_lt_of_cell? w _ hw444_0)).trans hw444_0), ((HB.out.cell (World.block_lt_of_cell? w _ hw444_1)).trans hw444_1), ((HB.out.cell (World.block_lt_of_cell? w _ hw444_2)).trans hw444_2)⟩ (fun hHeld => ?_); refine with_tabW wellspringref18_Part.tab13 wellspringref18_Part.bits13 (fun HT_ HW_ => ?_)
                   generalize wr.drew = w47 at BK439 BK442 HB hx444_0 hx444_1 hx444_2 hHeld ⊢
                   refine pure_ (i := 0) (N := some 54) (v := ?_) (a' := ?_) #[true, false, false, false, false, false, false, false, false, false, false, false, false] rfl rfl (any_of HT_.out (by kernel_rfl)) (fun _ _ _ h => h) (Or.inl ⟨by rfl, ?_⟩) ?_ ?_
                   rotate_left
                   ·intro w'
                    go_simp
                    with_reducible rfl
                   rotate_left
                   ·simp only [Act.put, List.setIfInBounds_toArray, List.set_cons_zero, List.set_cons_succ, i64_w, i32_w]
                    rfl
                   refine pure_ (i := 2) (N := some 56) (v := ?_) (a' := ?_) #[true, false, true, false, false, false, false, false, false, false, false, false, false] rfl rfl (any_of HT_.out (by kernel_rfl)) (fun _ _ _ h => h) (Or.inl ⟨by rfl, ?_⟩) ?_ ?_
                   rotate_left
                   ·intro w'
                    go_simp
                    with_reducible rfl
                   rotate_left
                   ·simp only [Act.put, List.setIfInBounds_toArray, List.set_cons_zero, List.set_cons_succ, i64_w, i32_w]
                    rfl
                   refine pure_ (i := 3) (N := some 57) (v := ?_) (a' := ?_) #[true, false, true, true, false, false, false, false, false, false, false, false, false] rfl rfl (any_of HT_.out (by kernel_rfl)) (fun _ _ _ h => h) (Or.inl ⟨by rfl, ?_⟩) ?_ ?_
                   rotate_left
                   ·intro w'
                    go_simp
                    with_reducible rfl
                   rotate_left
                   ·simp only [Act.put, List.setIfInBounds_toArray, List.set_cons_zero, List.set_cons_succ, i64_w, i32_w]
                    rfl
                   refine pure_ (i := 4) (N := some 58) (v := ?_) (a' := ?_) #[true, false, true, true, true, false, false, false, false, false, false, false, false] rfl rfl (any_of HT_.out (by kernel_rfl)) (fun _ _ _ h => h) (Or.inl ⟨by rfl, ?_⟩) ?_ ?_
                   rotate_left
                   ·intro w'
                    go_simp
                    with_reducible rfl
                   rotate_left
                   ·simp only [Act.put, List.setIfInBounds_toArray, List.set_cons_zero, List.set_cons_succ, i64_w, i32_w]
                    rfl
                   refine pure_ (i := 5) (N := some 59) (v := ?_) (a' := ?_) #[true, false, true, true, true, true, false, false, false, false, false, false, false] rfl rfl (any_of HT_.out (by kernel_rfl)) (fun _ _ _ h => h) (Or.inl ⟨by rfl, ?_⟩) ?_ ?_
                   rotate_left
                   ·intro w'
                    go_simp
                    with_reducible rfl
                   rotate_left
                   ·simp only [Act.put, List.setIfInBounds_toArray, List.set_cons_zero, List.set_cons_succ, i64_w, i32_w]
                    rfl
                   refine pure_ (i := 6) (N := some 60) (v := ?_) (a' := ?_) #[true, false, true, true, true, true, true, false, false, false, false, false, false] rfl rfl (any_of HT_.out (by kernel_rfl)) (fun _ _ _ h => h) (Or.inl ⟨by rfl, ?_⟩) ?_ ?_
                   rotate_left
                   ·intro w'
                    go_simp
                    with_reducible rfl
                   rotate_left
                   ·simp only [Act.put, List.setIfInBounds_toArray, List.set_cons_zero, List.set_cons_succ, i64_w, i32_w]
                    rfl
                   refine pure_ (i := 7) (N := some 61) (v := ?_) (a' := ?_) #[true, false, true, true, true, true, true, true, false, false, false, false, false] rfl rfl (any_of HT_.out (by kernel_rfl)) (fun _ _ _ h => h) (Or.inl ⟨by rfl, ?_⟩) ?_ ?_
                   rotate_left
                   ·intro w'
                    go_simp
                    with_reducible rfl
                   rotate_left
                   ·simp only [Act.put, List.setIfInBounds_toArray, List.set_cons_zero, List.set_cons_succ, i64_w, i32_w]
                    rfl
                   refine pure_ (i := 8) (N := some 62) (v := ?_) (a' := ?_) #[true, false, true, true, true, true, true, true, true, false, false, false, false] rfl rfl (any_of HT_.out (by kernel_rfl)) (fun _ _ _ h => h) (Or.inl ⟨by rfl, ?_⟩) ?_ ?_
                   rotate_left
                   ·intro w'
                    go_simp
                    with_reducible rfl
                   rotate_left
                   ·simp only [Act.put, List.setIfInBounds_toArray, List.set_cons_zero, List.set_cons_succ, i64_w, i32_w]
                    rfl
                   refine take_ (i := 1) (N := some 55) (v := ?_) (a' := ?_) #[true, true, true, true, true, true, true, true, true, false, false, false, false] rfl rfl (take_ofW HT_.out HW_.out (by kernel_rfl)) (fun _ _ _ h => h) (Or.inl ⟨by rfl, ?_⟩) hHeld ?_ ?_
                   rotate_left
                   ·rintro w' ⟨s0, s1, s2, s3, s4, s5⟩
                    go_simp
                    with_reducible rfl
                   rotate_left
                   ·simp only [Act.put, List.setIfInBounds_toArray, List.set_cons_zero, List.set_cons_succ, i64_w, i32_w]
                    rfl
                   refine pure_ (i := 9) (N := some 63) (v := ?_) (a' := ?_) #[true, true, true, true, true, true, true, true, true, true, false, false, false] rfl rfl (any_of HT_.out (by kernel_rfl)) (fun _ _ _ h => h) (Or.inl ⟨by rfl, ?_⟩) ?_ ?_
                   rotate_left
                   ·intro w'
                    go_simp
                    with_reducible rfl
                   rotate_left
                   ·simp only [Act.put, List.setIfInBounds_toArray, List.set_cons_zero, List.set_cons_succ, i64_w, i32_w]
                    rfl
                   refine take_ (i := 10) (N := some 64) (v := ?_) (a' := ?_) #[true, true, true, true, true, true, true, true, true, true, true, false, false] rfl rfl (take_ofW HT_.out HW_.out (by kernel_rfl)) (fun _ _ _ h => h) (Or.inl ⟨by rfl, ?_⟩) hHeld ?_ ?_
                   rotate_left
                   ·rintro w' ⟨s0, s1, s2, s3, s4, s5⟩
                    go_simp
                    with_reducible rfl
                   rotate_left
                   ·simp only [Act.put, List.setIfInBounds_toArray, List.set_cons_zero, List.set_cons_succ, i64_w, i32_w]
                    rfl
                   refine one_ (i := 11) (N := some 13) #[true, true, true, true, true, true, true, true, true, true, true, true, false] rfl rfl (one_of HT_.out (by kernel_rfl)) (by decide) (fun K hK => ?_)
                   refine box_step ?hg (N := 13) ?hd (cs := #[.int .i64 0, .int .i64 0, .int .i64 0]) (t := 80) ?hr ?_; (case hd => rfl); (case hg => rfl); (case hr => first | (go_simp; done) | (go_simp; rfl))
                   intro gb445 hg w48 hbox hb
                   have n0_ := Aside0.mk (blk_below (g := gb439) (o := .cells #[.string a0_0, .int .i64 a0_1, .int .i64 a0_2, .int .i64 a0_3, .string a0_4, .slice (some ad441) l0_5.length c0_5] 46 (0, 0)) (by (with_reducible repeat (first | refine blk_drewN ?_ _ | refine blk_drew ?_ | refine blk_alloc ?_ _)); exact BK439.out) hb)
                   have n1_ := Aside0.mk (blk_below (g := gb442) (o := .cells #[.slice (some ad444) ((rd_T74 l0_5 a1).f0).length c441_0, .int .i64 ((rd_T74 l0_5 a1).f1), .bool ((rd_T74 l0_5 a1).f2)] 74 (0, 0)) (by (with_reducible repeat (first | refine blk_drewN ?_ _ | refine blk_drew ?_ | refine blk_alloc ?_ _)); exact BK442.out) hb)
                   have n2_ := Aside0.mk (below_step (by repeat (first | (with_reducible first | exact HB.out | apply below_alloc | apply pw_below_drewN | apply below_drew1 | refine below_set ?_ GE439.out | refine below_set ?_ GE442.out) | exact HB.out)) hb)
                   have n3_ := Aside0.mk (hbox)
                   have n4_ := Aside0.mk ((by rw [hg]; exact (below_size (by repeat (first | (with_reducible first | exact HB.out | apply below_alloc | apply pw_below_drewN | apply below_drew1 | refine below_set ?_ GE439.out | refine below_set ?_ GE442.out) | exact HB.out))) : w.heap.size ≤ gb445))
                   have n5_ := Aside0.mk ((by rw [hg]; exact (below_size (by repeat (first | (with_reducible first | exact HB.out | apply below_alloc | apply pw_below_drewN | apply below_drew1 | refine below_set ?_ GE439.out | refine below_set ?_ GE442.out) | exact HB.out))) : w.heap.size ≤ gb445))
                   have n6_ := Aside0.mk ((by rw [hg]; exact Nat.ne_of_lt (blk_lt (g := gb439) (o := .cells #[.string a0_0, .int .i64 a0_1, .int .i64 a0_2, .int .i64 a0_3, .string a0_4, .slice (some ad441) l0_5.length c0_5] 46 (0, 0)) (by (with_reducible repeat (first | refine blk_drewN ?_ _ | refine blk_drew ?_ | refine blk_alloc ?_ _)); exact BK439.out)) : gb439 ≠ gb445))
                   have n7_ := Aside0.mk ((by rw [hg]; exact Nat.ne_of_gt (blk_lt (g := gb439) (o := .cells #[.string a0_0, .int .i64 a0_1, .int .i64 a0_2, .int .i64 a0_3, .string a0_4, .slice (some ad441) l0_5.length c0_5] 46 (0, 0)) (by (with_reducible repeat (first | refine blk_drewN ?_ _ | refine blk_drew ?_ | refine blk_alloc ?_ _)); exact BK439.out)) : gb445 ≠ gb439))
                   have n8_ := Aside0.mk ((by rw [hg]; exact Nat.ne_of_lt (blk_lt (g := gb442) (o := .cells #[.slice (some ad444) ((rd_T74 l0_5 a1).f0).length c441_0, .int .i64 ((rd_T74 l0_5 a1).f1), .bool ((rd_T74 l0_5 a1).f2)] 74 (0, 0)) (by (with_reducible repeat (first | refine blk_drewN ?_ _ | refine blk_drew ?_ | refine blk_alloc ?_ _)); exact BK442.out)) : gb442 ≠ gb445))
                   have n9_ := Aside0.mk ((by rw [hg]; exact Nat.ne_of_gt (blk_lt (g := gb442) (o := .cells #[.slice (some ad444) ((rd_T74 l0_5 a1).f0).length c441_0, .int .i64 ((rd_T74 l0_5 a1).f1), .bool ((rd_T74 l0_5 a1).f2)] 74 (0, 0)) (by (with_reducible repeat (first | refine blk_drewN ?_ _ | refine blk_drew ?_ | refine blk_alloc ?_ _)); exact BK442.out)) : gb445 ≠ gb442))
                   clear BK439
                   clear BK442
                   clear HB
                   have BK439 := n0_
                   have BK442 := n1_
                   have HB := n2_
                   have BK445 := n3_
                   have GW445 := n4_
                   have GE445 := n5_
                   have NB439_445 := n6_
                   have NB445_439 := n7_
                   have NB442_445 := n8_
                   have NB445_442 := n9_
                   clear n0_ n1_ n2_ n3_ n4_ n5_ n6_ n7_ n8_ n9_
                   clear hb hbox hg
                   refine hK.out _ _ ⟨(blk_cell BK442.out 0).trans rfl, (blk_cell BK442.out 1).trans rfl, (blk_cell BK442.out 2).trans rfl, ((HB.out.cell (World.block_lt_of_cell? w _ hw444_0)).trans hw444_0), ((HB.out.cell (World.block_lt_of_cell? w _ hw444_1)).trans hw444_1), ((HB.out.cell (World.block_lt_of_cell? w _ hw444_2)).trans hw444_2)⟩ (fun hHeld => ?_)
                   clear hK K
                   refine norm_ (a' := ?_) ?_ ?_
                   rotate_left
                   ·show Act.put _ (some 13) _ = _
                    simp only [Act.put, List.setIfInBounds_toArray, List.set_cons_zero, List.set_cons_succ, i64_w, i32_w]
                    rfl
                   refine one_ (i := 12) (N := none) #[true, true, true, true, true, true, true, true, true, true, true, true, true] rfl rfl (one_of HT_.out (by kernel_rfl)) (by decide) (fun K hK => ?_)
                   have hs49 : w48.cell? ⟨gb445, 0, none⟩ = some (.int .i64 0) := (blk_cell BK445.out 0).trans rfl
                   have hfs49 := blk_frozen BK445.out 0
                   have hns49_0 := NB439_445.out
                   have hns49_1 := NB442_445.out
                   have hms49_0 := NB445_439.out
                   have hms49_1 := NB445_442.out
                   have hs50 : w48.cell? ⟨gb445, 1, none⟩ = some (.int .i64 0) := (blk_cell BK445.out 1).trans rfl
                   have hfs50 := blk_frozen BK445.out 1
                   have hns50_0 := NB439_445.out
                   have hns50_1 := NB442_445.out
                   have hms50_0 := NB445_439.out
                   have hms50_1 := NB445_442.out
                   have hs51 : w48.cell? ⟨gb445, 2, none⟩ = some (.int .i64 0) := (blk_cell BK445.out 2).trans rfl
                   have hfs51 := blk_frozen BK445.out 2
                   have hns51_0 := NB439_445.out
                   have hns51_1 := NB442_445.out
                   have hms51_0 := NB445_439.out
                   have hms51_1 := NB445_442.out
                   refine skip_ (w1 := ?_) (by rfl) rfl ?_ ?_
                   rotate_left
                   ·go_simp
                    rfl
                   refine hK.out _ _ ⟨((cell_far (p := ⟨gb445, _, none⟩) NB442_445.out _).trans (((cell_far (p := ⟨gb445, _, none⟩) NB442_445.out _).trans (((cell_far (p := ⟨gb445, _, none⟩) NB442_445.out _).trans (hHeld.1)))))), ((cell_far (p := ⟨gb445, _, none⟩) NB442_445.out _).trans (((cell_far (p := ⟨gb445, _, none⟩) NB442_445.out _).trans (((cell_far (p := ⟨gb445, _, none⟩) NB442_445.out _).trans (hHeld.2.1)))))), ((cell_far (p := ⟨gb445, _, none⟩) NB442_445.out _).trans (((cell_far (p := ⟨gb445, _, none⟩) NB442_445.out _).trans (((cell_far (p := ⟨gb445, _, none⟩) NB442_445.out _).trans (hHeld.2.2.1)))))), ((cell_far (p := ⟨gb445, _, none⟩) (by first | exact Nat.ne_of_lt (Nat.lt_of_lt_of_le (by have := World.block_lt_of_cell? _ _ hw444_0; first | rwa [add_block] at this | exact this) GW445.out) | (rw [add_block]; exact Nat.ne_of_lt (Nat.lt_of_lt_of_le (by have := World.block_lt_of_cell? _ _ hw444_0; first | rwa [add_block] at this | exact this) GW445.out)) | (show (Addr.add _ _).block ≠ _; rw [add_block]; exact Nat.ne_of_lt (Nat.lt_of_lt_of_le (by have := World.block_lt_of_cell? _ _ hw444_0; first | rwa [add_block] at this | exact this) GW445.out)) | (dsimp only; exact Nat.ne_of_lt (Nat.lt_of_lt_of_le (by have := World.block_lt_of_cell? _ _ hw444_0; first | rwa [add_block] at this | exact this) GW445.out))) _).trans (((cell_far (p := ⟨gb445, _, none⟩) (by first | exact Nat.ne_of_lt (Nat.lt_of_lt_of_le (by have := World.block_lt_of_cell? _ _ hw444_0; first | rwa [add_block] at this | exact this) GW445.out) | (rw [add_block]; exact Nat.ne_of_lt (Nat.lt_of_lt_of_le (by have := World.block_lt_of_cell? _ _ hw444_0; first | rwa [add_block] at this | exact this) GW445.out)) | (show (Addr.add _ _).block ≠ _; rw [add_block]; exact Nat.ne_of_lt (Nat.lt_of_lt_of_le (by have := World.block_lt_of_cell? _ _ hw444_0; first | rwa [add_block] at this | exact this) GW445.out)) | (dsimp only; exact Nat.ne_of_lt (Nat.lt_of_lt_of_le (by have := World.block_lt_of_cell? _ _ hw444_0; first | rwa [add_block] at this | exact this) GW445.out))) _).trans (((cell_far (p := ⟨gb445, _, none⟩) (by first | exact Nat.ne_of_lt (Nat.lt_of_lt_of_le (by have := World.block_lt_of_cell? _ _ hw444_0; first | rwa [add_block] at this | exact this) GW445.out) | (rw [add_block]; exact Nat.ne_of_lt (Nat.lt_of_lt_of_le (by have := World.block_lt_of_cell? _ _ hw444_0; first | rwa [add_block] at this | exact this) GW445.out)) | (show (Addr.add _ _).block ≠ _; rw [add_block]; exact Nat.ne_of_lt (Nat.lt_of_lt_of_le (by have := World.block_lt_of_cell? _ _ hw444_0; first | rwa [add_block] at this | exact this) GW445.out)) | (dsimp only; exact Nat.ne_of_lt (Nat.lt_of_lt_of_le (by have := World.block_lt_of_cell? _ _ hw444_0; first | rwa [add_block] at this | exact this) GW445.out))) _).trans (hHeld.2.2.2.1)))))), ((cell_far (p := ⟨gb445, _, none⟩) (by first | exact Nat.ne_of_lt (Nat.lt_of_lt_of_le (by have := World.block_lt_of_cell? _ _ hw444_1; first | rwa [add_block] at this | exact this) GW445.out) | (rw [add_block]; exact Nat.ne_of_lt (Nat.lt_of_lt_of_le (by have := World.block_lt_of_cell? _ _ hw444_1; first | rwa [add_block] at this | exact this) GW445.out)) | (show (Addr.add _ _).block ≠ _; rw [add_block]; exact Nat.ne_of_lt (Nat.lt_of_lt_of_le (by have := World.block_lt_of_cell? _ _ hw444_1; first | rwa [add_block] at this | exact this) GW445.out)) | (dsimp only; exact Nat.ne_of_lt (Nat.lt_of_lt_of_le (by have := World.block_lt_of_cell? _ _ hw444_1; first | rwa [add_block] at this | exact this) GW445.out))) _).trans (((cell_far (p := ⟨gb445, _, none⟩) (by first | exact Nat.ne_of_lt (Nat.lt_of_lt_of_le (by have := World.block_lt_of_cell? _ _ hw444_1; first | rwa [add_block] at this | exact this) GW445.out) | (rw [add_block]; exact Nat.ne_of_lt (Nat.lt_of_lt_of_le (by have := World.block_lt_of_cell? _ _ hw444_1; first | rwa [add_block] at this | exact this) GW445.out)) | (show (Addr.add _ _).block ≠ _; rw [add_block]; exact Nat.ne_of_lt (Nat.lt_of_lt_of_le (by have := World.block_lt_of_cell? _ _ hw444_1; first | rwa [add_block] at this | exact this) GW445.out)) | (dsimp only; exact Nat.ne_of_lt (Nat.lt_of_lt_of_le (by have := World.block_lt_of_cell? _ _ hw444_1; first | rwa [add_block] at this | exact this) GW445.out))) _).trans (((cell_far (p := ⟨gb445, _, none⟩) (by first | exact Nat.ne_of_lt (Nat.lt_of_lt_of_le (by have := World.block_lt_of_cell? _ _ hw444_1; first | rwa [add_block] at this | exact this) GW445.out) | (rw [add_block]; exact Nat.ne_of_lt (Nat.lt_of_lt_of_le (by have := World.block_lt_of_cell? _ _ hw444_1; first | rwa [add_block] at this | exact this) GW445.out)) | (show (Addr.add _ _).block ≠ _; rw [add_block]; exact Nat.ne_of_lt (Nat.lt_of_lt_of_le (by have := World.block_lt_of_cell? _ _ hw444_1; first | rwa [add_block] at this | exact this) GW445.out)) | (dsimp only; exact Nat.ne_of_lt (Nat.lt_of_lt_of_le (by have := World.block_lt_of_cell? _ _ hw444_1; first | rwa [add_block] at this | exact this) GW445.out))) _).trans (hHeld.2.2.2.2.1)))))), ((cell_far (p := ⟨gb445, _, none⟩) (by first | exact Nat.ne_of_lt (Nat.lt_of_lt_of_le (by have := World.block_lt_of_cell? _ _ hw444_2; first | rwa [add_block] at this | exact this) GW445.out) | (rw [add_block]; exact Nat.ne_of_lt (Nat.lt_of_lt_of_le (by have := World.block_lt_of_cell? _ _ hw444_2; first | rwa [add_block] at this | exact this) GW445.out)) | (show (Addr.add _ _).block ≠ _; rw [add_block]; exact Nat.ne_of_lt (Nat.lt_of_lt_of_le (by have := World.block_lt_of_cell? _ _ hw444_2; first | rwa [add_block] at this | exact this) GW445.out)) | (dsimp only; exact Nat.ne_of_lt (Nat.lt_of_lt_of_le (by have := World.block_lt_of_cell? _ _ hw444_2; first | rwa [add_block] at this | exact this) GW445.out))) _).trans (((cell_far (p := ⟨gb445, _, none⟩) (by first | exact Nat.ne_of_lt (Nat.lt_of_lt_of_le (by have := World.block_lt_of_cell? _ _ hw444_2; first | rwa [add_block] at this | exact this) GW445.out) | (rw [add_block]; exact Nat.ne_of_lt (Nat.lt_of_lt_of_le (by have := World.block_lt_of_cell? _ _ hw444_2; first | rwa [add_block] at this | exact this) GW445.out)) | (show (Addr.add _ _).block ≠ _; rw [add_block]; exact Nat.ne_of_lt (Nat.lt_of_lt_of_le (by have := World.block_lt_of_cell? _ _ hw444_2; first | rwa [add_block] at this | exact this) GW445.out)) | (dsimp only; exact Nat.ne_of_lt (Nat.lt_of_lt_of_le (by have := World.block_lt_of_cell? _ _ hw444_2; first | rwa [add_block] at this | exact this) GW445.out))) _).trans (((cell_far (p := ⟨gb445, _, none⟩) (by first | exact Nat.ne_of_lt (Nat.lt_of_lt_of_le (by have := World.block_lt_of_cell? _ _ hw444_2; first | rwa [add_block] at this | exact this) GW445.out) | (rw [add_block]; exact Nat.ne_of_lt (Nat.lt_of_lt_of_le (by have := World.block_lt_of_cell? _ _ hw444_2; first | rwa [add_block] at this | exact this) GW445.out)) | (show (Addr.add _ _).block ≠ _; rw [add_block]; exact Nat.ne_of_lt (Nat.lt_of_lt_of_le (by have := World.block_lt_of_cell? _ _ hw444_2; first | rwa [add_block] at this | exact this) GW445.out)) | (dsimp only; exact Nat.ne_of_lt (Nat.lt_of_lt_of_le (by have := World.block_lt_of_cell? _ _ hw444_2; first | rwa [add_block] at this | exact this) GW445.out))) _).trans (hHeld.2.2.2.2.2))))))⟩ (fun hHeld => ?_)
                   clear hK K
                   refine done_ (done_of HT_.out (by kernel_rfl)) ?_
                   try go_wp2
                   have n0_ : Aside0 ((((w48.setCell ⟨gb445, 0, none⟩ (.int .i64 ((rd_T80 ((rd_T74 l0_5 a1).f0) (ji37)).f0))).setCell ⟨gb445, 1, none⟩ (.int .i64 ((rd_T80 ((rd_T74 l0_5 a1).f0) (ji37)).f1))).setCell ⟨gb445, 2, none⟩ (.int .i64 ((rd_T80 ((rd_T74 l0_5 a1).f0) (ji37)).f2))).heap[gb439]? = some (.cells #[.string a0_0, .int .i64 a0_1, .int .i64 a0_2, .int .i64 a0_3, .string a0_4, .slice (some ad441) l0_5.length c0_5] 46 (0, 0))) := ⟨by (with_reducible repeat (first | refine blk_drewN ?_ _ | refine blk_drew ?_ | refine blk_alloc ?_ _)); refine blk_far ?_ NB439_445.out _; (with_reducible repeat (first | refine blk_drewN ?_ _ | refine blk_drew ?_ | refine blk_alloc ?_ _)); refine blk_far ?_ NB439_445.out _; (with_reducible repeat (first | refine blk_drewN ?_ _ | refine blk_drew ?_ | refine blk_alloc ?_ _)); refine blk_far ?_ NB439_445.out _; (with_reducible repeat (first | refine blk_drewN ?_ _ | refine blk_drew ?_ | refine blk_alloc ?_ _)); exact BK439.out⟩
                   have n1_ : Aside0 ((((w48.setCell ⟨gb445, 0, none⟩ (.int .i64 ((rd_T80 ((rd_T74 l0_5 a1).f0) (ji37)).f0))).setCell ⟨gb445, 1, none⟩ (.int .i64 ((rd_T80 ((rd_T74 l0_5 a1).f0) (ji37)).f1))).setCell ⟨gb445, 2, none⟩ (.int .i64 ((rd_T80 ((rd_T74 l0_5 a1).f0) (ji37)).f2))).heap[gb442]? = some (.cells #[.slice (some ad444) ((rd_T74 l0_5 a1).f0).length c441_0, .int .i64 ((rd_T74 l0_5 a1).f1), .bool ((rd_T74 l0_5 a1).f2)] 74 (0, 0))) := ⟨by (with_reducible repeat (first | refine blk_drewN ?_ _ | refine blk_drew ?_ | refine blk_alloc ?_ _)); refine blk_far ?_ NB442_445.out _; (with_reducible repeat (first | refine blk_drewN ?_ _ | refine blk_drew ?_ | refine blk_alloc ?_ _)); refine blk_far ?_ NB442_445.out _; (with_reducible repeat (first | refine blk_drewN ?_ _ | refine blk_drew ?_ | refine blk_alloc ?_ _)); refine blk_far ?_ NB442_445.out _; (with_reducible repeat (first | refine blk_drewN ?_ _ | refine blk_drew ?_ | refine blk_alloc ?_ _)); exact BK442.out⟩
                   have n2_ : Aside0 ((((w48.setCell ⟨gb445, 0, none⟩ (.int .i64 ((rd_T80 ((rd_T74 l0_5 a1).f0) (ji37)).f0))).setCell ⟨gb445, 1, none⟩ (.int .i64 ((rd_T80 ((rd_T74 l0_5 a1).f0) (ji37)).f1))).setCell ⟨gb445, 2, none⟩ (.int .i64 ((rd_T80 ((rd_T74 l0_5 a1).f0) (ji37)).f2))).heap[gb445]? = some (.cells #[.int .i64 ((rd_T80 ((rd_T74 l0_5 a1).f0) (ji37)).f0), .int .i64 ((rd_T80 ((rd_T74 l0_5 a1).f0) (ji37)).f1), .int .i64 ((rd_T80 ((rd_T74 l0_5 a1).f0) (ji37)).f2)] 80 (0, 0))) := ⟨by (with_reducible repeat (first | refine blk_drewN ?_ _ | refine blk_drew ?_ | refine blk_alloc ?_ _)); refine blk_put (cs := #[.int .i64 ((rd_T80 ((rd_T74 l0_5 a1).f0) (ji37)).f0), .int .i64 ((rd_T80 ((rd_T74 l0_5 a1).f0) (ji37)).f1), .int .i64 0]) ?_ 2 _ rfl; (with_reducible repeat (first | refine blk_drewN ?_ _ | refine blk_drew ?_ | refine blk_alloc ?_ _)); refine blk_put (cs := #[.int .i64 ((rd_T80 ((rd_T74 l0_5 a1).f0) (ji37)).f0), .int .i64 0, .int .i64 0]) ?_ 1 _ rfl; (with_reducible repeat (first | refine blk_drewN ?_ _ | refine blk_drew ?_ | refine blk_alloc ?_ _)); refine blk_put (cs := #[.int .i64 0, .int .i64 0, .int .i64 0]) ?_ 0 _ rfl; (with_reducible repeat (first | refine blk_drewN ?_ _ | refine blk_drew ?_ | refine blk_alloc ?_ _)); exact BK445.out⟩
                   have n3_ : Aside0 (Below w.heap.size w (((w48.setCell ⟨gb445, 0, none⟩ (.int .i64 ((rd_T80 ((rd_T74 l0_5 a1).f0) (ji37)).f0))).setCell ⟨gb445, 1, none⟩ (.int .i64 ((rd_T80 ((rd_T74 l0_5 a1).f0) (ji37)).f1))).setCell ⟨gb445, 2, none⟩ (.int .i64 ((rd_T80 ((rd_T74 l0_5 a1).f0) (ji37)).f2)))) := ⟨by repeat (first | (with_reducible first | exact HB.out | apply below_alloc | apply pw_below_drewN | apply below_drew1 | refine below_set ?_ GE439.out | refine below_set ?_ GE442.out | refine below_set ?_ GE445.out) | exact HB.out)⟩
                   (try clear BK439)
                   (try clear BK442)
                   (try clear BK445)
                   (try clear HB)
                   generalize (((w48.setCell ⟨gb445, 0, none⟩ (.int .i64 ((rd_T80 ((rd_T74 l0_5 a1).f0) (ji37)).f0))).setCell ⟨gb445, 1, none⟩ (.int .i64 ((rd_T80 ((rd_T74 l0_5 a1).f0) (ji37)).f1))).setCell ⟨gb445, 2, none⟩ (.int .i64 ((rd_T80 ((rd_T74 l0_5 a1).f0) (ji37)).f2))) = w52 at n0_ n1_ n2_ n3_ ⊢
                   have BK439 := n0_
                   have BK442 := n1_
                   have BK445 := n2_
                   have HB := n3_
                   clear n0_ n1_ n2_ n3_
                   have n0_ := Aside0.mk (blk_drew BK439.out)
                   have n1_ := Aside0.mk (blk_drew BK442.out)
                   have n2_ := Aside0.mk (blk_drew BK445.out)
                   have n3_ := Aside0.mk (below_drew1 HB.out)
                   clear BK439
                   clear BK442
                   clear BK445
                   clear HB
                   have BK439 := n0_
                   have BK442 := n1_
                   have BK445 := n2_
                   have HB := n3_
                   clear n0_ n1_ n2_ n3_
                   refine start_ (n := 23) (S := fun w' => w'.cell? ⟨gb439, 0, none⟩ = some (.string a0_0) ∧ w'.cell? ⟨gb439, 1, none⟩ = some (.int .i64 a0_1) ∧ w'.cell? ⟨gb439, 2, none⟩ = some (.int .i64 a0_2) ∧ w'.cell? ⟨gb439, 3, none⟩ = some (.int .i64 a0_3) ∧ w'.cell? ⟨gb439, 4, none⟩ = some (.string a0_4) ∧ w'.cell? ⟨gb439, 5, none⟩ = some (.slice (some ad441) l0_5.length c0_5) ∧ w'.cell? ⟨gb445, 0, none⟩ = some (.int .i64 ((rd_T80 ((rd_T74 l0_5 a1).f0) (ji37)).f0)) ∧ w'.cell? ⟨gb445, 1, none⟩ = some (.int .i64 ((rd_T80 ((rd_T74 l0_5 a1).f0) (ji37)).f1)) ∧ w'.cell? ⟨gb445, 2, none⟩ = some (.int .i64 ((rd_T80 ((rd_T74 l0_5 a1).f0) (ji37)).f2)) ∧ w'.cell? ⟨gb442, 0, none⟩ = some (.slice (some ad444) ((rd_T74 l0_5 a1).f0).length c441_0) ∧ w'.cell? ⟨gb442, 1, none⟩ = some (.int .i64 ((rd_T74 l0_5 a1).f1)) ∧ w'.cell? ⟨gb442, 2, none⟩ = some (.bool ((rd_T74 l0_5 a1).f2))) (ds := []) #[false, false, false, false, false, false, false, false, false, false, false, false, false, false, false, false, false, false, false, false, false, false, false] (by kernel_rfl) rfl rfl ⟨(blk_cell BK439.out 0).trans rfl, (blk_cell BK439.out 1).trans rfl, (blk_cell BK439.out 2).trans rfl, (blk_cell BK439.out 3).trans rfl, (blk_cell BK439.out 4).trans rfl, (blk_cell BK439.out 5).trans rfl, (blk_cell BK445.out 0).trans rfl, (blk_cell BK445.out 1).trans rfl, (blk_cell BK445.out 2).trans rfl, (blk_cell BK442.out 0).trans rfl, (blk_cell BK442.out 1).trans rfl, (blk_cell BK442.out 2).trans rfl⟩ (fun hHeld => ?_); refine with_tabW wellspringref18_Part.tab14 wellspringref18_Part.bits14 (fun HT_ HW_ => ?_)
                   generalize w52.drew = w53 at BK439 BK442 BK445 HB hHeld ⊢
                   refine pure_ (i := 0) (N := some 66) (v := ?_) (a' := ?_) #[true, false, false, false, false, false, false, false, false, false, false, false, false, false, false, false, false, false, false, false, false, false, false] rfl rfl (any_of HT_.out (by kernel_rfl)) (fun _ _ _ h => h) (Or.inl ⟨by rfl, ?_⟩) ?_ ?_
                   rotate_left
                   ·intro w'
                    go_simp
                    with_reducible rfl
                   rotate_left
                   ·simp only [Act.put, List.setIfInBounds_toArray, List.set_cons_zero, List.set_cons_succ, i64_w, i32_w]
                    rfl
                   refine pure_ (i := 2) (N := some 68) (v := ?_) (a' := ?_) #[true, false, true, false, false, false, false, false, false, false, false, false, false, false, false, false, false, false, false, false, false, false, false] rfl rfl (any_of HT_.out (by kernel_rfl)) (fun _ _ _ h => h) (Or.inl ⟨by rfl, ?_⟩) ?_ ?_
                   rotate_left
                   ·intro w'
                    go_simp
                    with_reducible rfl
                   rotate_left
                   ·simp only [Act.put, List.setIfInBounds_toArray, List.set_cons_zero, List.set_cons_succ, i64_w, i32_w]
                    rfl
                   refine pure_ (i := 4) (N := some 70) (v := ?_) (a' := ?_) #[true, false, true, false, true, false, false, false, false, false, false, false, false, false, false, false, false, false, false, false, false, false, false] rfl rfl (any_of HT_.out (by kernel_rfl)) (fun _ _ _ h => h) (Or.inl ⟨by rfl, ?_⟩) ?_ ?_
                   rotate_left
                   ·intro w'
                    go_simp
                    with_reducible rfl
                   rotate_left
                   ·simp only [Act.put, List.setIfInBounds_toArray, List.set_cons_zero, List.set_cons_succ, i64_w, i32_w]
                    rfl
                   refine pure_ (i := 7) (N := some 73) (v := ?_) (a' := ?_) #[true, false, true, false, true, false, false, true, false, false, false, false, false, false, false, false, false, false, false, false, false, false, false] rfl rfl (any_of HT_.out (by kernel_rfl)) (fun _ _ _ h => h) (Or.inl ⟨by rfl, ?_⟩) ?_ ?_
                   rotate_left
                   ·intro w'
                    go_simp
                    with_reducible rfl
                   rotate_left
                   ·simp only [Act.put, List.setIfInBounds_toArray, List.set_cons_zero, List.set_cons_succ, i64_w, i32_w]
                    rfl
                   refine pure_ (i := 9) (N := some 75) (v := ?_) (a' := ?_) #[true, false, true, false, true, false, false, true, false, true, false, false, false, false, false, false, false, false, false, false, false, false, false] rfl rfl (any_of HT_.out (by kernel_rfl)) (fun _ _ _ h => h) (Or.inl ⟨by rfl, ?_⟩) ?_ ?_
                   rotate_left
                   ·intro w'
                    go_simp
                    with_reducible rfl
                   rotate_left
                   ·simp only [Act.put, List.setIfInBounds_toArray, List.set_cons_zero, List.set_cons_succ, i64_w, i32_w]
                    rfl
                   refine pure_ (i := 12) (N := some 78) (v := ?_) (a' := ?_) #[true, false, true, false, true, false, false, true, false, true, false, false, true, false, false, false, false, false, false, false, false, false, false] rfl rfl (any_of HT_.out (by kernel_rfl)) (fun _ _ _ h => h) (Or.inl ⟨by rfl, ?_⟩) ?_ ?_
                   rotate_left
                   ·intro w'
                    go_simp
                    with_reducible rfl
                   rotate_left
                   ·simp only [Act.put, List.setIfInBounds_toArray, List.set_cons_zero, List.set_cons_succ, i64_w, i32_w]
                    rfl
                   refine pure_ (i := 13) (N := some 79) (v := ?_) (a' := ?_) #[true, false, true, false, true, false, false, true, false, true, false, false, true, true, false, false, false, false, false, false, false, false, false] rfl rfl (any_of HT_.out (by kernel_rfl)) (fun _ _ _ h => h) (Or.inl ⟨by rfl, ?_⟩) ?_ ?_
                   rotate_left
                   ·intro w'
                    go_simp
                    with_reducible rfl
                   rotate_left
                   ·simp only [Act.put, List.setIfInBounds_toArray, List.set_cons_zero, List.set_cons_succ, i64_w, i32_w]
                    rfl
                   refine take_ (i := 1) (N := some 67) (v := ?_) (a' := ?_) #[true, true, true, false, true, false, false, true, false, true, false, false, true, true, false, false, false, false, false, false, false, false, false] rfl rfl (take_ofW HT_.out HW_.out (by kernel_rfl)) (fun _ _ _ h => h) (Or.inl ⟨by rfl, ?_⟩) hHeld ?_ ?_
                   rotate_left
                   ·rintro w' ⟨s0, s1, s2, s3, s4, s5, s6, s7, s8, s9, s10, s11⟩
                    go_simp
                    with_reducible rfl
                   rotate_left
                   ·simp only [Act.put, List.setIfInBounds_toArray, List.set_cons_zero, List.set_cons_succ, i64_w, i32_w]
                    rfl
                   refine take_ (i := 3) (N := some 69) (v := ?_) (a' := ?_) #[true, true, true, true, true, false, false, true, false, true, false, false, true, true, false, false, false, false, false, false, false, false, false] rfl rfl (take_ofW HT_.out HW_.out (by kernel_rfl)) (fun _ _ _ h => h) (Or.inl ⟨by rfl, ?_⟩) hHeld ?_ ?_
                   rotate_left
                   ·rintro w' ⟨s0, s1, s2, s3, s4, s5, s6, s7, s8, s9, s10, s11⟩
                    go_simp
                    with_reducible rfl
                   rotate_left
                   ·simp only [Act.put, List.setIfInBounds_toArray, List.set_cons_zero, List.set_cons_succ, i64_w, i32_w]
                    rfl
                   refine take_ (i := 5) (N := some 71) (v := ?_) (a' := ?_) #[true, true, true, true, true, true, false, true, false, true, false, false, true, true, false, false, false, false, false, false, false, false, false] rfl rfl (take_ofW HT_.out HW_.out (by kernel_rfl)) (fun _ _ _ h => h) (Or.inl ⟨by rfl, ?_⟩) hHeld ?_ ?_
                   rotate_left
                   ·rintro w' ⟨s0, s1, s2, s3, s4, s5, s6, s7, s8, s9, s10, s11⟩
                    go_simp
                    with_reducible rfl
                   rotate_left
                   ·simp only [Act.put, List.setIfInBounds_toArray, List.set_cons_zero, List.set_cons_succ, i64_w, i32_w]
                    rfl
                   refine pure_ (i := 6) (N := some 72) (v := ?_) (a' := ?_) #[true, true, true, true, true, true, true, true, false, true, false, false, true, true, false, false, false, false, false, false, false, false, false] rfl rfl (any_of HT_.out (by kernel_rfl)) (fun _ _ _ h => h) (Or.inl ⟨by rfl, ?_⟩) ?_ ?_
                   rotate_left
                   ·intro w'
                    go_simp
                    with_reducible rfl
                   rotate_left
                   ·simp only [Act.put, List.setIfInBounds_toArray, List.set_cons_zero, List.set_cons_succ, i64_w, i32_w]
                    rfl
                   refine take_ (i := 8) (N := some 74) (v := ?_) (a' := ?_) #[true, true, true, true, true, true, true, true, true, true, false, false, true, true, false, false, false, false, false, false, false, false, false] rfl rfl (take_ofW HT_.out HW_.out (by kernel_rfl)) (fun _ _ _ h => h) (Or.inl ⟨by rfl, ?_⟩) hHeld ?_ ?_
                   rotate_left
                   ·rintro w' ⟨s0, s1, s2, s3, s4, s5, s6, s7, s8, s9, s10, s11⟩
                    go_simp
                    with_reducible rfl
                   rotate_left
                   ·simp only [Act.put, List.setIfInBounds_toArray, List.set_cons_zero, List.set_cons_succ, i64_w, i32_w]
                    rfl
                   refine take_ (i := 10) (N := some 76) (v := ?_) (a' := ?_) #[true, true, true, true, true, true, true, true, true, true, true, false, true, true, false, false, false, false, false, false, false, false, false] rfl rfl (take_ofW HT_.out HW_.out (by kernel_rfl)) (fun _ _ _ h => h) (Or.inl ⟨by rfl, ?_⟩) hHeld ?_ ?_
                   rotate_left
                   ·rintro w' ⟨s0, s1, s2, s3, s4, s5, s6, s7, s8, s9, s10, s11⟩
                    go_simp
                    with_reducible rfl
                   rotate_left
                   ·simp only [Act.put, List.setIfInBounds_toArray, List.set_cons_zero, List.set_cons_succ, i64_w, i32_w]
                    rfl
                   refine pure_ (i := 11) (N := some 77) (v := ?_) (a' := ?_) #[true, true, true, true, true, true, true, true, true, true, true, true, true, true, false, false, false, false, false, false, false, false, false] rfl rfl (any_of HT_.out (by kernel_rfl)) (fun _ _ _ h => h) (Or.inl ⟨by rfl, ?_⟩) ?_ ?_
                   rotate_left
                   ·intro w'
                    go_simp
                    with_reducible rfl
                   rotate_left
                   ·simp only [Act.put, List.setIfInBounds_toArray, List.set_cons_zero, List.set_cons_succ, i64_w, i32_w]
                    rfl
                   refine take_ (i := 14) (N := some 80) (v := ?_) (a' := ?_) #[true, true, true, true, true, true, true, true, true, true, true, true, true, true, true, false, false, false, false, false, false, false, false] rfl rfl (take_ofW HT_.out HW_.out (by kernel_rfl)) (fun _ _ _ h => h) (Or.inl ⟨by rfl, ?_⟩) hHeld ?_ ?_
                   rotate_left
                   ·rintro w' ⟨s0, s1, s2, s3, s4, s5, s6, s7, s8, s9, s10, s11⟩
                    go_simp
                    with_reducible rfl
                   rotate_left
                   ·simp only [Act.put, List.setIfInBounds_toArray, List.set_cons_zero, List.set_cons_succ, i64_w, i32_w]
                    rfl
                   refine one_ (i := 15) (N := some 81) #[true, true, true, true, true, true, true, true, true, true, true, true, true, true, true, true, false, false, false, false, false, false, false] rfl rfl (one_of HT_.out (by kernel_rfl)) (by decide) (fun K hK => ?_)
                   refine goes_ Try.func42 (by kernel_rfl) rfl #[.int .i64 a2, .int .i64 ((rd_T74 l0_5 a1).f1)] (by rfl) rfl rfl (by (try simp only [List.map_toArray, List.map_cons, List.map_nil]); first | done | rfl | (simp only [List.length_drop, List.length_take]; rfl)) ?_
                   with_reducible refine (wellspringref12_Left.calls a2 ((rd_T74 l0_5 a1).f1) t446 _ A43.out).mono ?_
                   rintro e w54 ⟨rfl, hb⟩
                   refine ⟨_, rfl, ?_⟩
                   have n0_ := Aside0.mk (blk_below (g := gb439) (o := .cells #[.string a0_0, .int .i64 a0_1, .int .i64 a0_2, .int .i64 a0_3, .string a0_4, .slice (some ad441) l0_5.length c0_5] 46 (0, 0)) (by (with_reducible repeat (first | refine blk_drewN ?_ _ | refine blk_drew ?_ | refine blk_alloc ?_ _)); exact BK439.out) hb)
                   have n1_ := Aside0.mk (blk_below (g := gb442) (o := .cells #[.slice (some ad444) ((rd_T74 l0_5 a1).f0).length c441_0, .int .i64 ((rd_T74 l0_5 a1).f1), .bool ((rd_T74 l0_5 a1).f2)] 74 (0, 0)) (by (with_reducible repeat (first | refine blk_drewN ?_ _ | refine blk_drew ?_ | refine blk_alloc ?_ _)); exact BK442.out) hb)
                   have n2_ := Aside0.mk (blk_below (g := gb445) (o := .cells #[.int .i64 ((rd_T80 ((rd_T74 l0_5 a1).f0) (ji37)).f0), .int .i64 ((rd_T80 ((rd_T74 l0_5 a1).f0) (ji37)).f1), .int .i64 ((rd_T80 ((rd_T74 l0_5 a1).f0) (ji37)).f2)] 80 (0, 0)) (by (with_reducible repeat (first | refine blk_drewN ?_ _ | refine blk_drew ?_ | refine blk_alloc ?_ _)); exact BK445.out) hb)
                   have n3_ := Aside0.mk (below_step (by repeat (first | (with_reducible first | exact HB.out | apply below_alloc | apply pw_below_drewN | apply below_drew1 | refine below_set ?_ GE439.out | refine below_set ?_ GE442.out | refine below_set ?_ GE445.out) | exact HB.out)) hb)
                   clear BK439
                   clear BK442
                   clear BK445
                   clear HB
                   have BK439 := n0_
                   have BK442 := n1_
                   have BK445 := n2_
                   have HB := n3_
                   clear n0_ n1_ n2_ n3_
                   (try clear hb)
                   (try clear hb2)
                   (try clear hk)
                   (try clear hi)
                   refine hK.out _ _ ⟨(blk_cell BK439.out 0).trans rfl, (blk_cell BK439.out 1).trans rfl, (blk_cell BK439.out 2).trans rfl, (blk_cell BK439.out 3).trans rfl, (blk_cell BK439.out 4).trans rfl, (blk_cell BK439.out 5).trans rfl, (blk_cell BK445.out 0).trans rfl, (blk_cell BK445.out 1).trans rfl, (blk_cell BK445.out 2).trans rfl, (blk_cell BK442.out 0).trans rfl, (blk_cell BK442.out 1).trans rfl, (blk_cell BK442.out 2).trans rfl⟩ (fun hHeld => ?_)
                   clear hK K
                   refine norm_ (a' := ?_) ?_ ?_
                   rotate_left
                   ·show Act.put _ (some 81) _ = _
                    simp only [Act.put, List.setIfInBounds_toArray, List.set_cons_zero, List.set_cons_succ, i64_w, i32_w]
                    rfl
                   refine one_ (i := 16) (N := some 82) #[true, true, true, true, true, true, true, true, true, true, true, true, true, true, true, true, true, false, false, false, false, false, false] rfl rfl (one_of HT_.out (by kernel_rfl)) (by decide) (fun K hK => ?_)
                   refine goes_ Try.func41 (by kernel_rfl) rfl #[.int .i64 t446, .int .i64 4] (by rfl) rfl rfl (by (try simp only [List.map_toArray, List.map_cons, List.map_nil]); first | done | rfl | (simp only [List.length_drop, List.length_take]; rfl)) ?_
                   with_reducible refine (wellspringref01_Put.calls k3 t446 4 t447 _ A44.out).mono ?_
                   rintro e w55 ⟨rfl, hb⟩
                   refine ⟨_, rfl, ?_⟩
                   have n0_ := Aside0.mk (blk_below (g := gb439) (o := .cells #[.string a0_0, .int .i64 a0_1, .int .i64 a0_2, .int .i64 a0_3, .string a0_4, .slice (some ad441) l0_5.length c0_5] 46 (0, 0)) (by (with_reducible repeat (first | refine blk_drewN ?_ _ | refine blk_drew ?_ | refine blk_alloc ?_ _)); exact BK439.out) hb)
                   have n1_ := Aside0.mk (blk_below (g := gb442) (o := .cells #[.slice (some ad444) ((rd_T74 l0_5 a1).f0).length c441_0, .int .i64 ((rd_T74 l0_5 a1).f1), .bool ((rd_T74 l0_5 a1).f2)] 74 (0, 0)) (by (with_reducible repeat (first | refine blk_drewN ?_ _ | refine blk_drew ?_ | refine blk_alloc ?_ _)); exact BK442.out) hb)
                   have n2_ := Aside0.mk (blk_below (g := gb445) (o := .cells #[.int .i64 ((rd_T80 ((rd_T74 l0_5 a1).f0) (ji37)).f0), .int .i64 ((rd_T80 ((rd_T74 l0_5 a1).f0) (ji37)).f1), .int .i64 ((rd_T80 ((rd_T74 l0_5 a1).f0) (ji37)).f2)] 80 (0, 0)) (by (with_reducible repeat (first | refine blk_drewN ?_ _ | refine blk_drew ?_ | refine blk_alloc ?_ _)); exact BK445.out) hb)
                   have n3_ := Aside0.mk (below_step (by repeat (first | (with_reducible first | exact HB.out | apply below_alloc | apply pw_below_drewN | apply below_drew1 | refine below_set ?_ GE439.out | refine below_set ?_ GE442.out | refine below_set ?_ GE445.out) | exact HB.out)) hb)
                   clear BK439
                   clear BK442
                   clear BK445
                   clear HB
                   have BK439 := n0_
                   have BK442 := n1_
                   have BK445 := n2_
                   have HB := n3_
                   clear n0_ n1_ n2_ n3_
                   (try clear hb)
                   (try clear hb2)
                   (try clear hk)
                   (try clear hi)
                   refine hK.out _ _ ⟨(blk_cell BK439.out 0).trans rfl, (blk_cell BK439.out 1).trans rfl, (blk_cell BK439.out 2).trans rfl, (blk_cell BK439.out 3).trans rfl, (blk_cell BK439.out 4).trans rfl, (blk_cell BK439.out 5).trans rfl, (blk_cell BK445.out 0).trans rfl, (blk_cell BK445.out 1).trans rfl, (blk_cell BK445.out 2).trans rfl, (blk_cell BK442.out 0).trans rfl, (blk_cell BK442.out 1).trans rfl, (blk_cell BK442.out 2).trans rfl⟩ (fun hHeld => ?_)
                   clear hK K
                   refine norm_ (a' := ?_) ?_ ?_
                   rotate_left
                   ·show Act.put _ (some 82) _ = _
                    simp only [Act.put, List.setIfInBounds_toArray, List.set_cons_zero, List.set_cons_succ, i64_w, i32_w]
                    rfl
                   refine one_ (i := 17) (N := some 83) #[true, true, true, true, true, true, true, true, true, true, true, true, true, true, true, true, true, true, false, false, false, false, false] rfl rfl (one_of HT_.out (by kernel_rfl)) (by decide) (fun K hK => ?_)
                   refine goes_ Try.func40 (by kernel_rfl) rfl #[.string (a0_4.extract (((rd_T80 ((rd_T74 l0_5 a1).f0) (ji37)).f0) : Int).toNat (((rd_T80 ((rd_T74 l0_5 a1).f0) (ji37)).f1) : Int).toNat), .int .i64 (wrap64 (((rd_T80 ((rd_T74 l0_5 a1).f0) (ji37)).f2) - ((rd_T80 ((rd_T74 l0_5 a1).f0) (ji37)).f0))), .string t447] (by rfl) rfl rfl (by (try simp only [List.map_toArray, List.map_cons, List.map_nil]); first | done | (simp only [hji37]; rfl) | rfl | (simp only [List.length_drop, List.length_take]; rfl)) ?_
                   with_reducible refine (wellspringref01_Lay.calls (a0_4.extract (((rd_T80 ((rd_T74 l0_5 a1).f0) (ji37)).f0) : Int).toNat (((rd_T80 ((rd_T74 l0_5 a1).f0) (ji37)).f1) : Int).toNat) (wrap64 (((rd_T80 ((rd_T74 l0_5 a1).f0) (ji37)).f2) - ((rd_T80 ((rd_T74 l0_5 a1).f0) (ji37)).f0))) t447 t448 t449 _ A45.out).mono ?_
                   rintro e w' ⟨rfl, ⟨nd, rfl⟩⟩
                   refine ⟨_, rfl, ?_⟩
                   refine hK.out _ _ ⟨(blk_cell BK439.out 0).trans rfl, (blk_cell BK439.out 1).trans rfl, (blk_cell BK439.out 2).trans rfl, (blk_cell BK439.out 3).trans rfl, (blk_cell BK439.out 4).trans rfl, (blk_cell BK439.out 5).trans rfl, (blk_cell BK445.out 0).trans rfl, (blk_cell BK445.out 1).trans rfl, (blk_cell BK445.out 2).trans rfl, (blk_cell BK442.out 0).trans rfl, (blk_cell BK442.out 1).trans rfl, (blk_cell BK442.out 2).trans rfl⟩ (fun hHeld => ?_)
                   clear hK K
                   refine norm_ (a' := ?_) ?_ ?_
                   rotate_left
                   ·show Act.put _ (some 83) _ = _
                    simp only [Act.put, List.setIfInBounds_toArray, List.set_cons_zero, List.set_cons_succ, i64_w, i32_w]
                    rfl
                   refine pure_ (i := 18) (N := some 65) (v := ?_) (a' := ?_) #[true, true, true, true, true, true, true, true, true, true, true, true, true, true, true, true, true, true, true, false, false, false, false] rfl rfl (any_of HT_.out (by kernel_rfl)) (fun _ _ _ h => h) (Or.inl ⟨by rfl, ?_⟩) ?_ ?_
                   rotate_left
                   ·intro w'
                    go_simp
                    with_reducible rfl
                   rotate_left
                   ·simp only [Act.put, List.setIfInBounds_toArray, List.set_cons_zero, List.set_cons_succ, i64_w, i32_w]
                    rfl
                   refine pure_ (i := 19) (N := some 84) (v := ?_) (a' := ?_) #[true, true, true, true, true, true, true, true, true, true, true, true, true, true, true, true, true, true, true, true, false, false, false] rfl rfl (any_of HT_.out (by kernel_rfl)) (fun _ _ _ h => h) (Or.inl ⟨by rfl, ?_⟩) ?_ ?_
                   rotate_left
                   ·intro w'
                    go_simp
                    with_reducible rfl
                   rotate_left
                   ·simp only [Act.put, List.setIfInBounds_toArray, List.set_cons_zero, List.set_cons_succ, i64_w, i32_w]
                    rfl
                   refine pure_ (i := 20) (N := some 85) (v := ?_) (a' := ?_) #[true, true, true, true, true, true, true, true, true, true, true, true, true, true, true, true, true, true, true, true, true, false, false] rfl rfl (any_of HT_.out (by kernel_rfl)) (fun _ _ _ h => h) (Or.inl ⟨by rfl, ?_⟩) ?_ ?_
                   rotate_left
                   ·intro w'
                    go_simp
                    with_reducible rfl
                   rotate_left
                   ·simp only [Act.put, List.setIfInBounds_toArray, List.set_cons_zero, List.set_cons_succ, i64_w, i32_w]
                    rfl
                   refine pure_ (i := 21) (N := some 14) (v := ?_) (a' := ?_) #[true, true, true, true, true, true, true, true, true, true, true, true, true, true, true, true, true, true, true, true, true, true, false] rfl rfl (any_of HT_.out (by kernel_rfl)) (fun _ _ _ h => h) (Or.inl ⟨by rfl, ?_⟩) ?_ ?_
                   rotate_left
                   ·intro w'
                    go_simp
                    with_reducible rfl
                   rotate_left
                   ·simp only [Act.put, List.setIfInBounds_toArray, List.set_cons_zero, List.set_cons_succ, i64_w, i32_w]
                    rfl
                   refine pure_ (i := 22) (N := some 15) (v := ?_) (a' := ?_) #[true, true, true, true, true, true, true, true, true, true, true, true, true, true, true, true, true, true, true, true, true, true, true] rfl rfl (any_of HT_.out (by kernel_rfl)) (fun _ _ _ h => h) (Or.inl ⟨by rfl, ?_⟩) ?_ ?_
                   rotate_left
                   ·intro w'
                    go_simp
                    with_reducible rfl
                   rotate_left
                   ·simp only [Act.put, List.setIfInBounds_toArray, List.set_cons_zero, List.set_cons_succ, i64_w, i32_w]
                    rfl
                   refine done_ (done_of HT_.out (by kernel_rfl)) ?_
                   try go_wp2
                   go_roundg k3
                   case measure => have := HJ4.out; have := HJ25.out; have := HK3.out; omega
                   case rel => (try rw [← Nbq31.out]); exact ⟨(x10_3 ++ t448), (wrap64 (x12_3 + 1)), (by first | rfl | (simp; done) | (simp [*]; done)), (by first | rfl | (simp; done) | (simp [*]; done)), H', ⟨by have := HJ4.out; have := HJ25.out; have := HK3.out; omega⟩, ⟨by (with_reducible repeat (first | refine blk_drewN ?_ _ | refine blk_drew ?_ | refine blk_alloc ?_ _)); exact BK439.out⟩, ⟨by (with_reducible repeat (first | refine blk_drewN ?_ _ | refine blk_drew ?_ | refine blk_alloc ?_ _)); exact BK442.out⟩, ⟨by repeat (first | (with_reducible first | exact HB.out | apply below_alloc | apply pw_below_drewN | apply below_drew1 | refine below_set ?_ GE439.out | refine below_set ?_ GE442.out | refine below_set ?_ GE445.out) | exact HB.out)⟩⟩
                  ·rw [if_neg c46] at H
                   exact absurd H (by simp)
                 ·rw [if_neg c42] at H
                  exact absurd H (by simp)
                ·rw [if_neg c41] at H
                 exact absurd H (by simp)
               ·rw [if_neg c40] at H
                exact absurd H (by simp)
              ·rw [if_neg c39] at H
               exact absurd H (by simp)
             ·rw [if_neg c38] at H
              exact absurd H (by simp)
           ·rw [if_neg c35] at H
            have c35b0 : decide (x12_3 < (((rd_T74 l0_5 a1).f0).length : Int)) = false := decide_eq_false c35
            clear c35
            obtain rfl := Option.some.inj H
            go_wp2
            go_ret
            exact ⟨by first | rfl | (simp [errW_none, errW_some] <;> rfl) | (simp [*, errW_none, errW_some] <;> rfl), by repeat (first | (with_reducible first | exact HB.out | apply below_alloc | apply pw_below_drewN | apply below_drew1 | refine below_set ?_ GE439.out | refine below_set ?_ GE442.out) | exact HB.out)⟩
      ·replace c25 := Bool.eq_false_iff.mpr c25
       subst c25
       have H1 : (some (⟨#[]⟩ : ByteArray)) = some r := by rw [if_neg (show ¬ (false = true) by decide)] at H; exact H
       clear H
       have H := H1
       clear H1
       obtain rfl := Option.some.inj H
       have hcz56_0 : wc.cell? ⟨gb439, 0, none⟩ = some (.string a0_0) := (blk_cell BK439.out 0).trans rfl
       have hcz56_1 : wc.cell? ⟨gb439, 1, none⟩ = some (.int .i64 a0_1) := (blk_cell BK439.out 1).trans rfl
       have hcz56_2 : wc.cell? ⟨gb439, 2, none⟩ = some (.int .i64 a0_2) := (blk_cell BK439.out 2).trans rfl
       have hcz56_3 : wc.cell? ⟨gb439, 3, none⟩ = some (.int .i64 a0_3) := (blk_cell BK439.out 3).trans rfl
       have hcz56_4 : wc.cell? ⟨gb439, 4, none⟩ = some (.string a0_4) := (blk_cell BK439.out 4).trans rfl
       have hcz56_5 : wc.cell? ⟨gb439, 5, none⟩ = some (.slice A0_5 l0_5.length c0_5) := (blk_cell BK439.out 5).trans rfl
       have hfz56_0 := blk_frozen BK439.out 0
       have hfz56_1 := blk_frozen BK439.out 1
       have hfz56_2 := blk_frozen BK439.out 2
       have hfz56_3 := blk_frozen BK439.out 3
       have hfz56_4 := blk_frozen BK439.out 4
       have hfz56_5 := blk_frozen BK439.out 5
       have p441 : 0 ≤ (a1 : Int) := of_decide_eq_true (by first | (with_reducible assumption) | assumption)
       have q441 : a1 < (l0_5.length : Int) := of_decide_eq_true (by first | (with_reducible assumption) | assumption)
       obtain ⟨ad441, A441_0, c441_0, e441, hx441_0, hx441_1, hx441_2, hl441_0, hi441_0⟩ := at_T74 HR0_5.out a1 p441 q441
       cases e441
       replace hx441_0 := (HB.out.cell (World.block_lt_of_cell? w _ hx441_0)).trans hx441_0
       replace hx441_1 := (HB.out.cell (World.block_lt_of_cell? w _ hx441_1)).trans hx441_1
       replace hx441_2 := (HB.out.cell (World.block_lt_of_cell? w _ hx441_2)).trans hx441_2
       have HR441_0 := Aside0.mk hi441_0
       have HC441_0 := Aside0.mk hl441_0
       clear hi441_0 hl441_0
       replace p441 := eq_true p441
       replace q441 := eq_true q441
       go_wp2_with (first | ((with_reducible refine gate_dst (N := 9) rfl ?_); (try (refine gate_guard (by rfl) ?_; dsimp only)); refine box_event ?hg (N := 9) ?hd (cs := #[.slice none 0 0, .int .i64 0, .bool false]) (t := 74) ?hr ?_; (case hd => rfl); (case hg => rfl); (case hr => first | (go_simp; done) | (go_simp; rfl)); intro gb442 hg w57 hbox hb; have n0_ := Aside0.mk (blk_below (g := gb439) (o := .cells #[.string a0_0, .int .i64 a0_1, .int .i64 a0_2, .int .i64 a0_3, .string a0_4, .slice (some ad441) l0_5.length c0_5] 46 (0, 0)) (by (with_reducible repeat (first | refine blk_drewN ?_ _ | refine blk_drew ?_ | refine blk_alloc ?_ _)); exact BK439.out) hb); have n1_ := Aside0.mk (below_step (by repeat (first | (with_reducible first | exact HB.out | apply below_alloc | apply pw_below_drewN | apply below_drew1 | refine below_set ?_ GE439.out) | exact HB.out)) hb); have n2_ := Aside0.mk (hbox); have n3_ := Aside0.mk ((by rw [hg]; exact (below_size (by repeat (first | (with_reducible first | exact HB.out | apply below_alloc | apply pw_below_drewN | apply below_drew1 | refine below_set ?_ GE439.out) | exact HB.out))) : w.heap.size ≤ gb442)); have n4_ := Aside0.mk ((by rw [hg]; exact (below_size (by repeat (first | (with_reducible first | exact HB.out | apply below_alloc | apply pw_below_drewN | apply below_drew1 | refine below_set ?_ GE439.out) | exact HB.out))) : w.heap.size ≤ gb442)); have n5_ := Aside0.mk ((by rw [hg]; exact Nat.ne_of_lt (blk_lt (g := gb439) (o := .cells #[.string a0_0, .int .i64 a0_1, .int .i64 a0_2, .int .i64 a0_3, .string a0_4, .slice (some ad441) l0_5.length c0_5] 46 (0, 0)) (by (with_reducible repeat (first | refine blk_drewN ?_ _ | refine blk_drew ?_ | refine blk_alloc ?_ _)); exact BK439.out)) : gb439 ≠ gb442)); have n6_ := Aside0.mk ((by rw [hg]; exact Nat.ne_of_gt (blk_lt (g := gb439) (o := .cells #[.string a0_0, .int .i64 a0_1, .int .i64 a0_2, .int .i64 a0_3, .string a0_4, .slice (some ad441) l0_5.length c0_5] 46 (0, 0)) (by (with_reducible repeat (first | refine blk_drewN ?_ _ | refine blk_drew ?_ | refine blk_alloc ?_ _)); exact BK439.out)) : gb442 ≠ gb439)); clear BK439; clear HB; have BK439 := n0_; have HB := n1_; have BK442 := n2_; have GW442 := n3_; have GE442 := n4_; have NB439_442 := n5_; have NB442_439 := n6_; clear n0_ n1_ n2_ n3_ n4_ n5_ n6_; clear hb hbox hg; have hnb58 := NB442_439.out; have hnc58 := NB439_442.out; have hcz59_0 : w57.cell? ⟨gb442, 0, none⟩ = some (.slice none 0 0) := (blk_cell BK442.out 0).trans rfl; have hcz59_1 : w57.cell? ⟨gb442, 1, none⟩ = some (.int .i64 0) := (blk_cell BK442.out 1).trans rfl; have hcz59_2 : w57.cell? ⟨gb442, 2, none⟩ = some (.bool false) := (blk_cell BK442.out 2).trans rfl; have hfz59_0 := blk_frozen BK442.out 0; have hfz59_1 := blk_frozen BK442.out 1; have hfz59_2 := blk_frozen BK442.out 2) | ((with_reducible refine gate_callee (f := 34) rfl ?_); refine goesL_ (some 42) rfl rfl Try.func34 (by kernel_rfl) rfl #[.int .i64 a2, .int .i64 ((rd_T74 l0_5 a1).f1)] rfl (by (try simp only [List.map_toArray, List.map_cons, List.map_nil]); first | done | rfl | (simp only [List.length_drop, List.length_take]; rfl)) ?_; (with_reducible refine (wellspringref12_Live.calls a2 ((rd_T74 l0_5 a1).f1) false _ A24.out).mono ?_); rintro e w' ⟨rfl, ⟨nd, rfl⟩⟩; refine ⟨_, rfl, ?_⟩))
       go_ret
       exact ⟨by first | rfl | (simp [errW_none, errW_some] <;> rfl) | (simp [*, errW_none, errW_some] <;> rfl), by repeat (first | (with_reducible first | exact HB.out | apply below_alloc | apply pw_below_drewN | apply below_drew1 | refine below_set ?_ GE439.out | refine below_set ?_ GE442.out) | exact HB.out)⟩
     ·rw [if_neg c23] at H
      exact absurd H (by simp)
    ·rw [if_neg c22] at H
     exact absurd H (by simp)
end Go.Proofs.Ytedjodnaalconaa.P
end
