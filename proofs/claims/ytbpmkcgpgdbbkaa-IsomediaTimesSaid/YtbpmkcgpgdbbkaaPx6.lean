-- Written by this session's own program (wip/tools/myprint.py), which runs the kit's print with turns of its own: not a text of the kit's print.sh.
import Derived.Test.YtbpmkcgpgdbbkaaPx0
import Derived.Test.YtbpmkcgpgdbbkaaPx13
import Derived.Test.YtbpmkcgpgdbbkaaPx14
import Derived.Test.YtbpmkcgpgdbbkaaPx18
import Derived.Test.YtbpmkcgpgdbbkaaPx19
import Derived.Test.YtbpmkcgpgdbbkaaPx20
namespace Go.Proofs.Ytbpmkcgpgdbbkaa.P
open Go.RowKit Go.Proofs.YtbpmkcgpgdbbkaaW.PrintWords Go.Proofs.YtbpmkcgpgdbbkaaW.PrintLast Go.Proofs.YtbpmkcgpgdbbkaaW.PrintMore
attribute [local go_sem] max2_int min2_int max_two min_two max_three min_three max_four min_four   -- for this text's walks alone
set_option linter.unusedVariables false
set_option linter.unusedSimpArgs false

/-! ### cutroomlaw18_IsomediaTimes: function 5 -/
mutual
def cutroomlaw18_IsomediaTimes.j0 : Nat → List Int → List Int → Bool → Option (Bool)
 | 0, _, _, _ => none
 | k + 1, x5, x7, x35 => if x35 = true then (some false) else (cutroomlaw18_IsomediaTimes.l0 k x5 x7 0)
def cutroomlaw18_IsomediaTimes.l0 : Nat → List Int → List Int → Int → Option (Bool)
 | 0, _, _, _ => none
 | k + 1, x5, x7, x9 => if x9 < (x5.length : Int) then (if 0 ≤ x9 then (if x9 < (x7.length : Int) then (if (rd x5 x9) = (rd x7 x9) then (cutroomlaw18_IsomediaTimes.l0 k x5 x7 (wrap64 (x9 + 1))) else (some false)) else (none)) else (none)) else ((cutroomlaw18_awake.f k).bind fun t281 => (some t281))
end
def cutroomlaw18_IsomediaTimes.f (k : Nat) (a0_0 : Int) (l0_1 : List (S48)) (a1 : Int) : Option (Bool) := (cutroomlaw18_light.f k a0_0 l0_1).bind fun t266 => (if t266 = true then ((cutroomlaw18_given.f k a0_0 l0_1).bind fun bt267 => ((isomedia_Presented.f k bt267.1 bt267.2 a1).bind fun bt271 => ((cutroomref18_Presented.f k a0_0 l0_1 a1).bind fun bt275 => (if bt271.2 = bt275.2 then (cutroomlaw18_IsomediaTimes.j0 k bt271.1 bt275.1 ((bt271.1.length : Int) != (bt275.1.length : Int))) else (cutroomlaw18_IsomediaTimes.j0 k bt271.1 bt275.1 true))))) else (some true))
theorem cutroomlaw18_IsomediaTimes.mono_l : ∀ k, (∀ y0 y1 y2, LeO (cutroomlaw18_IsomediaTimes.j0 k y0 y1 y2) (cutroomlaw18_IsomediaTimes.j0 (k + 1) y0 y1 y2)) ∧ (∀ y0 y1 y2, LeO (cutroomlaw18_IsomediaTimes.l0 k y0 y1 y2) (cutroomlaw18_IsomediaTimes.l0 (k + 1) y0 y1 y2))
 | 0 => ⟨fun _ _ _ r h => by simp [cutroomlaw18_IsomediaTimes.j0] at h, fun _ _ _ r h => by simp [cutroomlaw18_IsomediaTimes.l0] at h⟩
 | k + 1 => by
  obtain ⟨ih0, ih1⟩ := cutroomlaw18_IsomediaTimes.mono_l k
  refine ⟨?_, ?_⟩
  ·intro y0 y1 y2
   unfold cutroomlaw18_IsomediaTimes.j0
   repeat' first
   | (with_reducible exact ih0 _ _ _)
   | (with_reducible exact ih1 _ _ _)
   | (with_reducible exact cutroomlaw18_awake.mono _)
   | (with_reducible exact cutroomlaw18_given.mono _ _ _)
   | (with_reducible exact cutroomlaw18_light.mono _ _ _)
   | (with_reducible exact cutroomref18_Presented.mono _ _ _ _)
   | (with_reducible exact isomedia_Presented.mono _ _ _ _)
   | (with_reducible exact LeO.refl _)
   | (with_reducible exact LeO.none _)
   | (with_reducible refine LeO.ite ?_ ?_)
   | (with_reducible refine LeO.bind ?_ (fun _ => ?_))
   | exact ih0 _ _ _
   | exact ih1 _ _ _
   | exact cutroomlaw18_awake.mono _
   | exact cutroomlaw18_given.mono _ _ _
   | exact cutroomlaw18_light.mono _ _ _
   | exact cutroomref18_Presented.mono _ _ _ _
   | exact isomedia_Presented.mono _ _ _ _
   | exact LeO.none _
   | refine LeO.ite ?_ ?_
   | refine LeO.bind ?_ (fun _ => ?_)
  ·intro y0 y1 y2
   unfold cutroomlaw18_IsomediaTimes.l0
   repeat' first
   | (with_reducible exact ih0 _ _ _)
   | (with_reducible exact ih1 _ _ _)
   | (with_reducible exact cutroomlaw18_awake.mono _)
   | (with_reducible exact cutroomlaw18_given.mono _ _ _)
   | (with_reducible exact cutroomlaw18_light.mono _ _ _)
   | (with_reducible exact cutroomref18_Presented.mono _ _ _ _)
   | (with_reducible exact isomedia_Presented.mono _ _ _ _)
   | (with_reducible exact LeO.refl _)
   | (with_reducible exact LeO.none _)
   | (with_reducible refine LeO.ite ?_ ?_)
   | (with_reducible refine LeO.bind ?_ (fun _ => ?_))
   | exact ih0 _ _ _
   | exact ih1 _ _ _
   | exact cutroomlaw18_awake.mono _
   | exact cutroomlaw18_given.mono _ _ _
   | exact cutroomlaw18_light.mono _ _ _
   | exact cutroomref18_Presented.mono _ _ _ _
   | exact isomedia_Presented.mono _ _ _ _
   | exact LeO.none _
   | refine LeO.ite ?_ ?_
   | refine LeO.bind ?_ (fun _ => ?_)
theorem cutroomlaw18_IsomediaTimes.mono : ∀ a0 a1 a2 k, LeO (cutroomlaw18_IsomediaTimes.f k a0 a1 a2) (cutroomlaw18_IsomediaTimes.f (k + 1) a0 a1 a2) := by
 intro a0 a1 a2 k
 obtain ⟨ih0, ih1⟩ := cutroomlaw18_IsomediaTimes.mono_l k
 unfold cutroomlaw18_IsomediaTimes.f
 repeat' first
   | (with_reducible exact ih0 _ _ _)
   | (with_reducible exact ih1 _ _ _)
   | (with_reducible exact cutroomlaw18_awake.mono _)
   | (with_reducible exact cutroomlaw18_given.mono _ _ _)
   | (with_reducible exact cutroomlaw18_light.mono _ _ _)
   | (with_reducible exact cutroomref18_Presented.mono _ _ _ _)
   | (with_reducible exact isomedia_Presented.mono _ _ _ _)
   | (with_reducible exact LeO.refl _)
   | (with_reducible exact LeO.none _)
   | (with_reducible refine LeO.ite ?_ ?_)
   | (with_reducible refine LeO.bind ?_ (fun _ => ?_))
   | exact ih0 _ _ _
   | exact ih1 _ _ _
   | exact cutroomlaw18_awake.mono _
   | exact cutroomlaw18_given.mono _ _ _
   | exact cutroomlaw18_light.mono _ _ _
   | exact cutroomref18_Presented.mono _ _ _ _
   | exact isomedia_Presented.mono _ _ _ _
   | exact LeO.none _
   | refine LeO.ite ?_ ?_
   | refine LeO.bind ?_ (fun _ => ?_)
set_option maxHeartbeats 8000000 in
set_option maxRecDepth 100000 in
theorem cutroomlaw18_IsomediaTimes.calls (k : Nat) (a0_0 : Int) (A0_1 : Option Addr) (c0_1 : Nat) (l0_1 : List (S48)) (a1 : Int) (r : Bool) (w : World) (hr0_1 : Kd.C k48 w A0_1 l0_1.length l0_1) (hc0_1 : l0_1.length ≤ c0_1) (h : cutroomlaw18_IsomediaTimes.f k a0_0 l0_1 a1 = some r) :
  Calls Try.prog 5 #[.agg #[.int .i64 a0_0, .slice A0_1 l0_1.length c0_1], .int .i64 a1] w fun e w' => e = .returned (.bool r) ∧ Below w.heap.size w w' := by
 have hu37 := Try.underlying37
 have HR0_1 := Aside0.mk hr0_1
 have HC0_1 := Aside0.mk hc0_1
 clear hr0_1 hc0_1
 have HB := Aside0.mk (Below.refl w.heap.size w)
 have H : ((cutroomlaw18_light.f k a0_0 l0_1).bind fun t266 => (if t266 = true then ((cutroomlaw18_given.f k a0_0 l0_1).bind fun bt267 => ((isomedia_Presented.f k bt267.1 bt267.2 a1).bind fun bt271 => ((cutroomref18_Presented.f k a0_0 l0_1 a1).bind fun bt275 => (if bt271.2 = bt275.2 then (cutroomlaw18_IsomediaTimes.j0 k bt271.1 bt275.1 ((bt271.1.length : Int) != (bt275.1.length : Int))) else (cutroomlaw18_IsomediaTimes.j0 k bt271.1 bt275.1 true))))) else (some true))) = some r := h
 clear h
 replace H := Option.bind_eq_some_iff.mp H
 obtain ⟨t266, A30, H⟩ := H
 replace H : (if t266 = true then ((cutroomlaw18_given.f k a0_0 l0_1).bind fun bt267 => ((isomedia_Presented.f k bt267.1 bt267.2 a1).bind fun bt271 => ((cutroomref18_Presented.f k a0_0 l0_1 a1).bind fun bt275 => (if bt271.2 = bt275.2 then (cutroomlaw18_IsomediaTimes.j0 k bt271.1 bt275.1 ((bt271.1.length : Int) != (bt275.1.length : Int))) else (cutroomlaw18_IsomediaTimes.j0 k bt271.1 bt275.1 true))))) else (some true)) = some r := H
 have A3 := Aside0.mk A30
 clear A30
 by_cases c4 : t266 = true
 ·subst c4
  have H1 : ((cutroomlaw18_given.f k a0_0 l0_1).bind fun bt267 => ((isomedia_Presented.f k bt267.1 bt267.2 a1).bind fun bt271 => ((cutroomref18_Presented.f k a0_0 l0_1 a1).bind fun bt275 => (if bt271.2 = bt275.2 then (cutroomlaw18_IsomediaTimes.j0 k bt271.1 bt275.1 ((bt271.1.length : Int) != (bt275.1.length : Int))) else (cutroomlaw18_IsomediaTimes.j0 k bt271.1 bt275.1 true))))) = some r := by rw [if_pos rfl] at H; exact H
  clear H
  have H := H1
  clear H1
  replace H := Option.bind_eq_some_iff.mp H
  obtain ⟨⟨t267, t268⟩, A50, H⟩ := H
  replace H : ((isomedia_Presented.f k t267 t268 a1).bind fun bt271 => ((cutroomref18_Presented.f k a0_0 l0_1 a1).bind fun bt275 => (if bt271.2 = bt275.2 then (cutroomlaw18_IsomediaTimes.j0 k bt271.1 bt275.1 ((bt271.1.length : Int) != (bt275.1.length : Int))) else (cutroomlaw18_IsomediaTimes.j0 k bt271.1 bt275.1 true)))) = some r := H
  have A5 := Aside0.mk A50
  clear A50
  replace H := Option.bind_eq_some_iff.mp H
  obtain ⟨⟨t271, t274⟩, A60, H⟩ := H
  replace H : ((cutroomref18_Presented.f k a0_0 l0_1 a1).bind fun bt275 => (if t274 = bt275.2 then (cutroomlaw18_IsomediaTimes.j0 k t271 bt275.1 ((t271.length : Int) != (bt275.1.length : Int))) else (cutroomlaw18_IsomediaTimes.j0 k t271 bt275.1 true))) = some r := H
  have A6 := Aside0.mk A60
  clear A60
  replace H := Option.bind_eq_some_iff.mp H
  obtain ⟨⟨t275, t278⟩, A70, H⟩ := H
  replace H : (if t274 = t278 then (cutroomlaw18_IsomediaTimes.j0 k t271 t275 ((t271.length : Int) != (t275.length : Int))) else (cutroomlaw18_IsomediaTimes.j0 k t271 t275 true)) = some r := H
  have A7 := Aside0.mk A70
  clear A70
  have HC8 := Aside0.mk H
  clear H
  go_enter Try.func5, Try.ntmps5
  go_upto_region 5 with (first | ((with_reducible refine gate_dst (N := 2) rfl ?_); (try (refine gate_guard (by rfl) ?_; dsimp only)); refine box_event ?hg (N := 2) ?hd (cs := #[.int .i64 a0_0, .slice A0_1 l0_1.length c0_1]) (t := 37) ?hr ?_; (case hd => rfl); (case hg => rfl); (case hr => first | (go_simp; done) | (go_simp; rfl)); intro gb265 hg w9 hbox hb; have n0_ := Aside0.mk (below_step (by repeat (first | (with_reducible first | exact HB.out | apply below_alloc | apply pw_below_drewN | apply below_drew1) | exact HB.out)) hb); have n1_ := Aside0.mk (hbox); have n2_ := Aside0.mk ((by rw [hg]; exact (below_size (by repeat (first | (with_reducible first | exact HB.out | apply below_alloc | apply pw_below_drewN | apply below_drew1) | exact HB.out))) : w.heap.size ≤ gb265)); have n3_ := Aside0.mk ((by rw [hg]; exact (below_size (by repeat (first | (with_reducible first | exact HB.out | apply below_alloc | apply pw_below_drewN | apply below_drew1) | exact HB.out))) : w.heap.size ≤ gb265)); clear HB; have HB := n0_; have BK265 := n1_; have GW265 := n2_; have GE265 := n3_; clear n0_ n1_ n2_ n3_; clear hb hbox hg; have hcz10_0 : w9.cell? ⟨gb265, 0, none⟩ = some (.int .i64 a0_0) := (blk_cell BK265.out 0).trans rfl; have hcz10_1 : w9.cell? ⟨gb265, 1, none⟩ = some (.slice A0_1 l0_1.length c0_1) := (blk_cell BK265.out 1).trans rfl; have hfz10_0 := blk_frozen BK265.out 0; have hfz10_1 := blk_frozen BK265.out 1) | (go_at_call 13; (with_reducible refine (cutroomlaw18_light.calls k a0_0 _ _ l0_1 true _ ?side1 ?side2 A3.out).mono ?_); (case side1 => repeat (first | exact (Kd.C_below HR0_1.out HB.out) | (with_reducible refine Kd.C_alloc ?_ _) | (with_reducible refine Kd.C_drewN ?_ _) | (with_reducible refine Kd.C_drew ?_))); (case side2 => exact HC0_1.out); rintro e w11 ⟨rfl, hb⟩; have n0_ := Aside0.mk (blk_below (g := gb265) (o := .cells #[.int .i64 a0_0, .slice A0_1 l0_1.length c0_1] 37 (0, 0)) (by (with_reducible repeat (first | refine blk_drewN ?_ _ | refine blk_drew ?_ | refine blk_alloc ?_ _)); exact BK265.out) hb); have n1_ := Aside0.mk (below_step (by repeat (first | (with_reducible first | exact HB.out | apply below_alloc | apply pw_below_drewN | apply below_drew1 | refine below_set ?_ GE265.out) | exact HB.out)) hb); clear BK265; clear HB; have BK265 := n0_; have HB := n1_; clear n0_ n1_; (try clear hb); (try clear hb2); (try clear hk); (try clear hi); have hcz12_0 : w11.cell? ⟨gb265, 0, none⟩ = some (.int .i64 a0_0) := (blk_cell BK265.out 0).trans rfl; have hcz12_1 : w11.cell? ⟨gb265, 1, none⟩ = some (.slice A0_1 l0_1.length c0_1) := (blk_cell BK265.out 1).trans rfl; have hfz12_0 := blk_frozen BK265.out 0; have hfz12_1 := blk_frozen BK265.out 1) | (go_at_call 18; (with_reducible refine (cutroomlaw18_given.calls k a0_0 (fun k_ => k_ < w.heap.size) _ _ l0_1 t267 t268 _ ?side1 A5.out).mono ?_); (case side1 => exact Kd.V_mk HC0_1.out (Kd.F_below (Kd.C_F k48_heap HR0_1.out) (by repeat (first | (with_reducible first | exact HB.out | apply below_alloc | apply pw_below_drewN | apply below_drew1 | refine below_set ?_ GE265.out) | exact HB.out)))); rintro e w13 ⟨v269, rfl, ho0, hb⟩; have n0_ := Aside0.mk (Kd.N_lower (Kd.N_mono (ok' := fun k_ => k_ ≠ gb265) ho0 (fun k_ hk_ => Or.elim hk_ (fun hs_ => fun e_ => Nat.not_le.2 hs_ (by rw [e_]; exact GW265.out)) (fun hn_ => (Kd.freshB (g := gb265) (o := .cells #[.int .i64 a0_0, .slice A0_1 l0_1.length c0_1] 37 (0, 0)) (by (with_reducible repeat (first | refine blk_drewN ?_ _ | refine blk_drew ?_ | refine blk_alloc ?_ _)); exact BK265.out) k_ hn_)))) (below_size (by repeat (first | (with_reducible first | exact HB.out | apply below_alloc | apply pw_below_drewN | apply below_drew1 | refine below_set ?_ GE265.out) | exact HB.out)))); have n1_ := Aside0.mk (blk_below (g := gb265) (o := .cells #[.int .i64 a0_0, .slice A0_1 l0_1.length c0_1] 37 (0, 0)) (by (with_reducible repeat (first | refine blk_drewN ?_ _ | refine blk_drew ?_ | refine blk_alloc ?_ _)); exact BK265.out) hb); have n2_ := Aside0.mk (below_step (by repeat (first | (with_reducible first | exact HB.out | apply below_alloc | apply pw_below_drewN | apply below_drew1 | refine below_set ?_ GE265.out) | exact HB.out)) hb); clear BK265; clear HB; have HO270 := n0_; have BK265 := n1_; have HB := n2_; clear n0_ n1_ n2_; (try clear hb); (try clear hb2); (try clear hk); (try clear hi); (try clear ho0); obtain ⟨Ao14, co14, eo14⟩ := Kd.N_slice HO270.out; subst eo14) | (go_at_call 17; (with_reducible refine (isomedia_Presented.calls k t267 _ _ t268 a1 t271 t274 _ ?side1 ?side2 A6.out).mono ?_); (case side1 => repeat (first | exact (Kd.N_reads' HO270.out).2.2 | (with_reducible refine Kd.C_alloc ?_ _) | (with_reducible refine Kd.C_drewN ?_ _) | (with_reducible refine Kd.C_drew ?_))); (case side2 => exact (Kd.N_reads' HO270.out).2.1); rintro e w15 ⟨v272, rfl, ho0, hb⟩; have n0_ := Aside0.mk (Kd.N_elder' (by (with_reducible repeat (first | apply Kd.N_alloc | apply Kd.N_drewN | apply Kd.N_drew)); exact HO270.out) (Kd.R_base ho0) hb); have n1_ := Aside0.mk (Kd.R_lower ho0 (below_size (by repeat (first | (with_reducible first | exact HB.out | apply below_alloc | apply pw_below_drewN | apply below_drew1 | refine below_set ?_ GE265.out) | exact HB.out)))); have n2_ := Aside0.mk (blk_below (g := gb265) (o := .cells #[.int .i64 a0_0, .slice A0_1 l0_1.length c0_1] 37 (0, 0)) (by (with_reducible repeat (first | refine blk_drewN ?_ _ | refine blk_drew ?_ | refine blk_alloc ?_ _)); exact BK265.out) hb); have n3_ := Aside0.mk (below_step (by repeat (first | (with_reducible first | exact HB.out | apply below_alloc | apply pw_below_drewN | apply below_drew1 | refine below_set ?_ GE265.out) | exact HB.out)) hb); clear HO270; clear BK265; clear HB; have HO270 := n0_; have HO273 := n1_; have BK265 := n2_; have HB := n3_; clear n0_ n1_ n2_ n3_; (try clear hb); (try clear hb2); (try clear hk); (try clear hi); (try clear ho0); have hcz16_0 : w15.cell? ⟨gb265, 0, none⟩ = some (.int .i64 a0_0) := (blk_cell BK265.out 0).trans rfl; have hcz16_1 : w15.cell? ⟨gb265, 1, none⟩ = some (.slice A0_1 l0_1.length c0_1) := (blk_cell BK265.out 1).trans rfl; have hfz16_0 := blk_frozen BK265.out 0; have hfz16_1 := blk_frozen BK265.out 1) | (go_at_call 19; (with_reducible refine (cutroomref18_Presented.calls k a0_0 _ _ l0_1 a1 t275 t278 _ ?side1 ?side2 A7.out).mono ?_); (case side1 => repeat (first | exact (Kd.C_below HR0_1.out HB.out) | (with_reducible refine Kd.C_alloc ?_ _) | (with_reducible refine Kd.C_drewN ?_ _) | (with_reducible refine Kd.C_drew ?_))); (case side2 => exact HC0_1.out); rintro e w17 ⟨v276, rfl, ho0, hb⟩; have n0_ := Aside0.mk (Kd.N_elder' (by (with_reducible repeat (first | apply Kd.N_alloc | apply Kd.N_drewN | apply Kd.N_drew)); exact HO270.out) (Kd.R_base ho0) hb); have n1_ := Aside0.mk (Kd.R_elder' (by (with_reducible repeat (first | apply Kd.R_alloc | apply Kd.R_drewN | apply Kd.R_drew)); exact HO273.out) (Kd.R_base ho0) hb); have n2_ := Aside0.mk (Kd.R_lower (Kd.R_new' ho0 (Kd.R_lt (by (with_reducible repeat (first | apply Kd.R_alloc | apply Kd.R_drewN | apply Kd.R_drew)); exact HO273.out))) (below_size (by repeat (first | (with_reducible first | exact HB.out | apply below_alloc | apply pw_below_drewN | apply below_drew1 | refine below_set ?_ GE265.out) | exact HB.out)))); have n3_ := Aside0.mk (blk_below (g := gb265) (o := .cells #[.int .i64 a0_0, .slice A0_1 l0_1.length c0_1] 37 (0, 0)) (by (with_reducible repeat (first | refine blk_drewN ?_ _ | refine blk_drew ?_ | refine blk_alloc ?_ _)); exact BK265.out) hb); have n4_ := Aside0.mk (below_step (by repeat (first | (with_reducible first | exact HB.out | apply below_alloc | apply pw_below_drewN | apply below_drew1 | refine below_set ?_ GE265.out) | exact HB.out)) hb); clear HO270; clear HO273; clear BK265; clear HB; have HO270 := n0_; have HO273 := n1_; have HO277 := n2_; have BK265 := n3_; have HB := n4_; clear n0_ n1_ n2_ n3_ n4_; (try clear hb); (try clear hb2); (try clear hk); (try clear hi); (try clear ho0)))
  repeat (go_quiet (first | ((with_reducible refine gate_dst (N := 2) rfl ?_); (try (refine gate_guard (by rfl) ?_; dsimp only)); refine box_event ?hg (N := 2) ?hd (cs := #[.int .i64 a0_0, .slice A0_1 l0_1.length c0_1]) (t := 37) ?hr ?_; (case hd => rfl); (case hg => rfl); (case hr => first | (go_simp; done) | (go_simp; rfl)); intro gb265 hg w9 hbox hb; have n0_ := Aside0.mk (below_step (by repeat (first | (with_reducible first | exact HB.out | apply below_alloc | apply pw_below_drewN | apply below_drew1) | exact HB.out)) hb); have n1_ := Aside0.mk (hbox); have n2_ := Aside0.mk ((by rw [hg]; exact (below_size (by repeat (first | (with_reducible first | exact HB.out | apply below_alloc | apply pw_below_drewN | apply below_drew1) | exact HB.out))) : w.heap.size ≤ gb265)); have n3_ := Aside0.mk ((by rw [hg]; exact (below_size (by repeat (first | (with_reducible first | exact HB.out | apply below_alloc | apply pw_below_drewN | apply below_drew1) | exact HB.out))) : w.heap.size ≤ gb265)); clear HB; have HB := n0_; have BK265 := n1_; have GW265 := n2_; have GE265 := n3_; clear n0_ n1_ n2_ n3_; clear hb hbox hg; have hcz10_0 : w9.cell? ⟨gb265, 0, none⟩ = some (.int .i64 a0_0) := (blk_cell BK265.out 0).trans rfl; have hcz10_1 : w9.cell? ⟨gb265, 1, none⟩ = some (.slice A0_1 l0_1.length c0_1) := (blk_cell BK265.out 1).trans rfl; have hfz10_0 := blk_frozen BK265.out 0; have hfz10_1 := blk_frozen BK265.out 1) | (go_at_call 13; (with_reducible refine (cutroomlaw18_light.calls k a0_0 _ _ l0_1 true _ ?side1 ?side2 A3.out).mono ?_); (case side1 => repeat (first | exact (Kd.C_below HR0_1.out HB.out) | (with_reducible refine Kd.C_alloc ?_ _) | (with_reducible refine Kd.C_drewN ?_ _) | (with_reducible refine Kd.C_drew ?_))); (case side2 => exact HC0_1.out); rintro e w11 ⟨rfl, hb⟩; have n0_ := Aside0.mk (blk_below (g := gb265) (o := .cells #[.int .i64 a0_0, .slice A0_1 l0_1.length c0_1] 37 (0, 0)) (by (with_reducible repeat (first | refine blk_drewN ?_ _ | refine blk_drew ?_ | refine blk_alloc ?_ _)); exact BK265.out) hb); have n1_ := Aside0.mk (below_step (by repeat (first | (with_reducible first | exact HB.out | apply below_alloc | apply pw_below_drewN | apply below_drew1 | refine below_set ?_ GE265.out) | exact HB.out)) hb); clear BK265; clear HB; have BK265 := n0_; have HB := n1_; clear n0_ n1_; (try clear hb); (try clear hb2); (try clear hk); (try clear hi); have hcz12_0 : w11.cell? ⟨gb265, 0, none⟩ = some (.int .i64 a0_0) := (blk_cell BK265.out 0).trans rfl; have hcz12_1 : w11.cell? ⟨gb265, 1, none⟩ = some (.slice A0_1 l0_1.length c0_1) := (blk_cell BK265.out 1).trans rfl; have hfz12_0 := blk_frozen BK265.out 0; have hfz12_1 := blk_frozen BK265.out 1) | (go_at_call 18; (with_reducible refine (cutroomlaw18_given.calls k a0_0 (fun k_ => k_ < w.heap.size) _ _ l0_1 t267 t268 _ ?side1 A5.out).mono ?_); (case side1 => exact Kd.V_mk HC0_1.out (Kd.F_below (Kd.C_F k48_heap HR0_1.out) (by repeat (first | (with_reducible first | exact HB.out | apply below_alloc | apply pw_below_drewN | apply below_drew1 | refine below_set ?_ GE265.out) | exact HB.out)))); rintro e w13 ⟨v269, rfl, ho0, hb⟩; have n0_ := Aside0.mk (Kd.N_lower (Kd.N_mono (ok' := fun k_ => k_ ≠ gb265) ho0 (fun k_ hk_ => Or.elim hk_ (fun hs_ => fun e_ => Nat.not_le.2 hs_ (by rw [e_]; exact GW265.out)) (fun hn_ => (Kd.freshB (g := gb265) (o := .cells #[.int .i64 a0_0, .slice A0_1 l0_1.length c0_1] 37 (0, 0)) (by (with_reducible repeat (first | refine blk_drewN ?_ _ | refine blk_drew ?_ | refine blk_alloc ?_ _)); exact BK265.out) k_ hn_)))) (below_size (by repeat (first | (with_reducible first | exact HB.out | apply below_alloc | apply pw_below_drewN | apply below_drew1 | refine below_set ?_ GE265.out) | exact HB.out)))); have n1_ := Aside0.mk (blk_below (g := gb265) (o := .cells #[.int .i64 a0_0, .slice A0_1 l0_1.length c0_1] 37 (0, 0)) (by (with_reducible repeat (first | refine blk_drewN ?_ _ | refine blk_drew ?_ | refine blk_alloc ?_ _)); exact BK265.out) hb); have n2_ := Aside0.mk (below_step (by repeat (first | (with_reducible first | exact HB.out | apply below_alloc | apply pw_below_drewN | apply below_drew1 | refine below_set ?_ GE265.out) | exact HB.out)) hb); clear BK265; clear HB; have HO270 := n0_; have BK265 := n1_; have HB := n2_; clear n0_ n1_ n2_; (try clear hb); (try clear hb2); (try clear hk); (try clear hi); (try clear ho0); obtain ⟨Ao14, co14, eo14⟩ := Kd.N_slice HO270.out; subst eo14) | (go_at_call 17; (with_reducible refine (isomedia_Presented.calls k t267 _ _ t268 a1 t271 t274 _ ?side1 ?side2 A6.out).mono ?_); (case side1 => repeat (first | exact (Kd.N_reads' HO270.out).2.2 | (with_reducible refine Kd.C_alloc ?_ _) | (with_reducible refine Kd.C_drewN ?_ _) | (with_reducible refine Kd.C_drew ?_))); (case side2 => exact (Kd.N_reads' HO270.out).2.1); rintro e w15 ⟨v272, rfl, ho0, hb⟩; have n0_ := Aside0.mk (Kd.N_elder' (by (with_reducible repeat (first | apply Kd.N_alloc | apply Kd.N_drewN | apply Kd.N_drew)); exact HO270.out) (Kd.R_base ho0) hb); have n1_ := Aside0.mk (Kd.R_lower ho0 (below_size (by repeat (first | (with_reducible first | exact HB.out | apply below_alloc | apply pw_below_drewN | apply below_drew1 | refine below_set ?_ GE265.out) | exact HB.out)))); have n2_ := Aside0.mk (blk_below (g := gb265) (o := .cells #[.int .i64 a0_0, .slice A0_1 l0_1.length c0_1] 37 (0, 0)) (by (with_reducible repeat (first | refine blk_drewN ?_ _ | refine blk_drew ?_ | refine blk_alloc ?_ _)); exact BK265.out) hb); have n3_ := Aside0.mk (below_step (by repeat (first | (with_reducible first | exact HB.out | apply below_alloc | apply pw_below_drewN | apply below_drew1 | refine below_set ?_ GE265.out) | exact HB.out)) hb); clear HO270; clear BK265; clear HB; have HO270 := n0_; have HO273 := n1_; have BK265 := n2_; have HB := n3_; clear n0_ n1_ n2_ n3_; (try clear hb); (try clear hb2); (try clear hk); (try clear hi); (try clear ho0); have hcz16_0 : w15.cell? ⟨gb265, 0, none⟩ = some (.int .i64 a0_0) := (blk_cell BK265.out 0).trans rfl; have hcz16_1 : w15.cell? ⟨gb265, 1, none⟩ = some (.slice A0_1 l0_1.length c0_1) := (blk_cell BK265.out 1).trans rfl; have hfz16_0 := blk_frozen BK265.out 0; have hfz16_1 := blk_frozen BK265.out 1) | (go_at_call 19; (with_reducible refine (cutroomref18_Presented.calls k a0_0 _ _ l0_1 a1 t275 t278 _ ?side1 ?side2 A7.out).mono ?_); (case side1 => repeat (first | exact (Kd.C_below HR0_1.out HB.out) | (with_reducible refine Kd.C_alloc ?_ _) | (with_reducible refine Kd.C_drewN ?_ _) | (with_reducible refine Kd.C_drew ?_))); (case side2 => exact HC0_1.out); rintro e w17 ⟨v276, rfl, ho0, hb⟩; have n0_ := Aside0.mk (Kd.N_elder' (by (with_reducible repeat (first | apply Kd.N_alloc | apply Kd.N_drewN | apply Kd.N_drew)); exact HO270.out) (Kd.R_base ho0) hb); have n1_ := Aside0.mk (Kd.R_elder' (by (with_reducible repeat (first | apply Kd.R_alloc | apply Kd.R_drewN | apply Kd.R_drew)); exact HO273.out) (Kd.R_base ho0) hb); have n2_ := Aside0.mk (Kd.R_lower (Kd.R_new' ho0 (Kd.R_lt (by (with_reducible repeat (first | apply Kd.R_alloc | apply Kd.R_drewN | apply Kd.R_drew)); exact HO273.out))) (below_size (by repeat (first | (with_reducible first | exact HB.out | apply below_alloc | apply pw_below_drewN | apply below_drew1 | refine below_set ?_ GE265.out) | exact HB.out)))); have n3_ := Aside0.mk (blk_below (g := gb265) (o := .cells #[.int .i64 a0_0, .slice A0_1 l0_1.length c0_1] 37 (0, 0)) (by (with_reducible repeat (first | refine blk_drewN ?_ _ | refine blk_drew ?_ | refine blk_alloc ?_ _)); exact BK265.out) hb); have n4_ := Aside0.mk (below_step (by repeat (first | (with_reducible first | exact HB.out | apply below_alloc | apply pw_below_drewN | apply below_drew1 | refine below_set ?_ GE265.out) | exact HB.out)) hb); clear HO270; clear HO273; clear BK265; clear HB; have HO270 := n0_; have HO273 := n1_; have HO277 := n2_; have BK265 := n3_; have HB := n4_; clear n0_ n1_ n2_ n3_ n4_; (try clear hb); (try clear hb2); (try clear hk); (try clear hi); (try clear ho0))); go_upto_region 5 with (first | ((with_reducible refine gate_dst (N := 2) rfl ?_); (try (refine gate_guard (by rfl) ?_; dsimp only)); refine box_event ?hg (N := 2) ?hd (cs := #[.int .i64 a0_0, .slice A0_1 l0_1.length c0_1]) (t := 37) ?hr ?_; (case hd => rfl); (case hg => rfl); (case hr => first | (go_simp; done) | (go_simp; rfl)); intro gb265 hg w9 hbox hb; have n0_ := Aside0.mk (below_step (by repeat (first | (with_reducible first | exact HB.out | apply below_alloc | apply pw_below_drewN | apply below_drew1) | exact HB.out)) hb); have n1_ := Aside0.mk (hbox); have n2_ := Aside0.mk ((by rw [hg]; exact (below_size (by repeat (first | (with_reducible first | exact HB.out | apply below_alloc | apply pw_below_drewN | apply below_drew1) | exact HB.out))) : w.heap.size ≤ gb265)); have n3_ := Aside0.mk ((by rw [hg]; exact (below_size (by repeat (first | (with_reducible first | exact HB.out | apply below_alloc | apply pw_below_drewN | apply below_drew1) | exact HB.out))) : w.heap.size ≤ gb265)); clear HB; have HB := n0_; have BK265 := n1_; have GW265 := n2_; have GE265 := n3_; clear n0_ n1_ n2_ n3_; clear hb hbox hg; have hcz10_0 : w9.cell? ⟨gb265, 0, none⟩ = some (.int .i64 a0_0) := (blk_cell BK265.out 0).trans rfl; have hcz10_1 : w9.cell? ⟨gb265, 1, none⟩ = some (.slice A0_1 l0_1.length c0_1) := (blk_cell BK265.out 1).trans rfl; have hfz10_0 := blk_frozen BK265.out 0; have hfz10_1 := blk_frozen BK265.out 1) | (go_at_call 13; (with_reducible refine (cutroomlaw18_light.calls k a0_0 _ _ l0_1 true _ ?side1 ?side2 A3.out).mono ?_); (case side1 => repeat (first | exact (Kd.C_below HR0_1.out HB.out) | (with_reducible refine Kd.C_alloc ?_ _) | (with_reducible refine Kd.C_drewN ?_ _) | (with_reducible refine Kd.C_drew ?_))); (case side2 => exact HC0_1.out); rintro e w11 ⟨rfl, hb⟩; have n0_ := Aside0.mk (blk_below (g := gb265) (o := .cells #[.int .i64 a0_0, .slice A0_1 l0_1.length c0_1] 37 (0, 0)) (by (with_reducible repeat (first | refine blk_drewN ?_ _ | refine blk_drew ?_ | refine blk_alloc ?_ _)); exact BK265.out) hb); have n1_ := Aside0.mk (below_step (by repeat (first | (with_reducible first | exact HB.out | apply below_alloc | apply pw_below_drewN | apply below_drew1 | refine below_set ?_ GE265.out) | exact HB.out)) hb); clear BK265; clear HB; have BK265 := n0_; have HB := n1_; clear n0_ n1_; (try clear hb); (try clear hb2); (try clear hk); (try clear hi); have hcz12_0 : w11.cell? ⟨gb265, 0, none⟩ = some (.int .i64 a0_0) := (blk_cell BK265.out 0).trans rfl; have hcz12_1 : w11.cell? ⟨gb265, 1, none⟩ = some (.slice A0_1 l0_1.length c0_1) := (blk_cell BK265.out 1).trans rfl; have hfz12_0 := blk_frozen BK265.out 0; have hfz12_1 := blk_frozen BK265.out 1) | (go_at_call 18; (with_reducible refine (cutroomlaw18_given.calls k a0_0 (fun k_ => k_ < w.heap.size) _ _ l0_1 t267 t268 _ ?side1 A5.out).mono ?_); (case side1 => exact Kd.V_mk HC0_1.out (Kd.F_below (Kd.C_F k48_heap HR0_1.out) (by repeat (first | (with_reducible first | exact HB.out | apply below_alloc | apply pw_below_drewN | apply below_drew1 | refine below_set ?_ GE265.out) | exact HB.out)))); rintro e w13 ⟨v269, rfl, ho0, hb⟩; have n0_ := Aside0.mk (Kd.N_lower (Kd.N_mono (ok' := fun k_ => k_ ≠ gb265) ho0 (fun k_ hk_ => Or.elim hk_ (fun hs_ => fun e_ => Nat.not_le.2 hs_ (by rw [e_]; exact GW265.out)) (fun hn_ => (Kd.freshB (g := gb265) (o := .cells #[.int .i64 a0_0, .slice A0_1 l0_1.length c0_1] 37 (0, 0)) (by (with_reducible repeat (first | refine blk_drewN ?_ _ | refine blk_drew ?_ | refine blk_alloc ?_ _)); exact BK265.out) k_ hn_)))) (below_size (by repeat (first | (with_reducible first | exact HB.out | apply below_alloc | apply pw_below_drewN | apply below_drew1 | refine below_set ?_ GE265.out) | exact HB.out)))); have n1_ := Aside0.mk (blk_below (g := gb265) (o := .cells #[.int .i64 a0_0, .slice A0_1 l0_1.length c0_1] 37 (0, 0)) (by (with_reducible repeat (first | refine blk_drewN ?_ _ | refine blk_drew ?_ | refine blk_alloc ?_ _)); exact BK265.out) hb); have n2_ := Aside0.mk (below_step (by repeat (first | (with_reducible first | exact HB.out | apply below_alloc | apply pw_below_drewN | apply below_drew1 | refine below_set ?_ GE265.out) | exact HB.out)) hb); clear BK265; clear HB; have HO270 := n0_; have BK265 := n1_; have HB := n2_; clear n0_ n1_ n2_; (try clear hb); (try clear hb2); (try clear hk); (try clear hi); (try clear ho0); obtain ⟨Ao14, co14, eo14⟩ := Kd.N_slice HO270.out; subst eo14) | (go_at_call 17; (with_reducible refine (isomedia_Presented.calls k t267 _ _ t268 a1 t271 t274 _ ?side1 ?side2 A6.out).mono ?_); (case side1 => repeat (first | exact (Kd.N_reads' HO270.out).2.2 | (with_reducible refine Kd.C_alloc ?_ _) | (with_reducible refine Kd.C_drewN ?_ _) | (with_reducible refine Kd.C_drew ?_))); (case side2 => exact (Kd.N_reads' HO270.out).2.1); rintro e w15 ⟨v272, rfl, ho0, hb⟩; have n0_ := Aside0.mk (Kd.N_elder' (by (with_reducible repeat (first | apply Kd.N_alloc | apply Kd.N_drewN | apply Kd.N_drew)); exact HO270.out) (Kd.R_base ho0) hb); have n1_ := Aside0.mk (Kd.R_lower ho0 (below_size (by repeat (first | (with_reducible first | exact HB.out | apply below_alloc | apply pw_below_drewN | apply below_drew1 | refine below_set ?_ GE265.out) | exact HB.out)))); have n2_ := Aside0.mk (blk_below (g := gb265) (o := .cells #[.int .i64 a0_0, .slice A0_1 l0_1.length c0_1] 37 (0, 0)) (by (with_reducible repeat (first | refine blk_drewN ?_ _ | refine blk_drew ?_ | refine blk_alloc ?_ _)); exact BK265.out) hb); have n3_ := Aside0.mk (below_step (by repeat (first | (with_reducible first | exact HB.out | apply below_alloc | apply pw_below_drewN | apply below_drew1 | refine below_set ?_ GE265.out) | exact HB.out)) hb); clear HO270; clear BK265; clear HB; have HO270 := n0_; have HO273 := n1_; have BK265 := n2_; have HB := n3_; clear n0_ n1_ n2_ n3_; (try clear hb); (try clear hb2); (try clear hk); (try clear hi); (try clear ho0); have hcz16_0 : w15.cell? ⟨gb265, 0, none⟩ = some (.int .i64 a0_0) := (blk_cell BK265.out 0).trans rfl; have hcz16_1 : w15.cell? ⟨gb265, 1, none⟩ = some (.slice A0_1 l0_1.length c0_1) := (blk_cell BK265.out 1).trans rfl; have hfz16_0 := blk_frozen BK265.out 0; have hfz16_1 := blk_frozen BK265.out 1) | (go_at_call 19; (with_reducible refine (cutroomref18_Presented.calls k a0_0 _ _ l0_1 a1 t275 t278 _ ?side1 ?side2 A7.out).mono ?_); (case side1 => repeat (first | exact (Kd.C_below HR0_1.out HB.out) | (with_reducible refine Kd.C_alloc ?_ _) | (with_reducible refine Kd.C_drewN ?_ _) | (with_reducible refine Kd.C_drew ?_))); (case side2 => exact HC0_1.out); rintro e w17 ⟨v276, rfl, ho0, hb⟩; have n0_ := Aside0.mk (Kd.N_elder' (by (with_reducible repeat (first | apply Kd.N_alloc | apply Kd.N_drewN | apply Kd.N_drew)); exact HO270.out) (Kd.R_base ho0) hb); have n1_ := Aside0.mk (Kd.R_elder' (by (with_reducible repeat (first | apply Kd.R_alloc | apply Kd.R_drewN | apply Kd.R_drew)); exact HO273.out) (Kd.R_base ho0) hb); have n2_ := Aside0.mk (Kd.R_lower (Kd.R_new' ho0 (Kd.R_lt (by (with_reducible repeat (first | apply Kd.R_alloc | apply Kd.R_drewN | apply Kd.R_drew)); exact HO273.out))) (below_size (by repeat (first | (with_reducible first | exact HB.out | apply below_alloc | apply pw_below_drewN | apply below_drew1 | refine below_set ?_ GE265.out) | exact HB.out)))); have n3_ := Aside0.mk (blk_below (g := gb265) (o := .cells #[.int .i64 a0_0, .slice A0_1 l0_1.length c0_1] 37 (0, 0)) (by (with_reducible repeat (first | refine blk_drewN ?_ _ | refine blk_drew ?_ | refine blk_alloc ?_ _)); exact BK265.out) hb); have n4_ := Aside0.mk (below_step (by repeat (first | (with_reducible first | exact HB.out | apply below_alloc | apply pw_below_drewN | apply below_drew1 | refine below_set ?_ GE265.out) | exact HB.out)) hb); clear HO270; clear HO273; clear BK265; clear HB; have HO270 := n0_; have HO273 := n1_; have HO277 := n2_; have BK265 := n3_; have HB := n4_; clear n0_ n1_ n2_ n3_ n4_; (try clear hb); (try clear hb2); (try clear hk); (try clear hi); (try clear ho0))))
  (try simp only [Act.put, List.setIfInBounds_toArray, List.set_cons_zero, List.set_cons_succ])
  go_cut [35] (fun v35 wc => ∃ (kq : Nat) (x35_7 : Bool), v35 = .bool x35_7 ∧ Aside0 (cutroomlaw18_IsomediaTimes.j0 kq t271 t275 x35_7 = some r) ∧ Aside0 (kq ≤ k) ∧ Aside0 (Kd.R (Kd.int .i64) 2 wc w.heap.size (fun k_ => some k_ ≠ (v276 : Value).ownBlock) v272 t271) ∧ Aside0 (Kd.R (Kd.int .i64) 2 wc w.heap.size (fun k_ => some k_ ≠ (v272 : Value).ownBlock) v276 t275) ∧ Aside0 (wc.heap[gb265]? = some (.cells #[.int .i64 a0_0, (.slice A0_1 l0_1.length c0_1)] 37 (0, 0))) ∧ Aside0 (Below w.heap.size w wc))
  case first =>
   have H := HC8.out
   clear HC8
   by_cases c18 : t274 = t278
   ·rw [if_pos c18] at H
    have c18b0 : (t274 == t278) = true := beq_iff_eq.mpr c18
    have c18b1 : (t274 != t278) = false := bne_eq_false_iff_eq.mpr c18
    clear c18
    (first | rw [c18b0] | (simp only [i64_w, i32_w]; rw [c18b0]) | skip)
    have H' := Aside0.mk H
    clear H
    obtain ⟨Ao19, co19, eo19⟩ := Kd.R_slice HO273.out
    subst eo19
    obtain ⟨Ao20, co20, eo20⟩ := Kd.R_slice HO277.out
    subst eo20
    go_wp2
    repeat (go_quiet (fail); try go_wp2)
    go_meet
    case rel => exact ⟨_, (((t271.length : Int) != (t275.length : Int))), (by first | rfl | (simp; done) | (simp [*]; done)), H', ⟨by first | omega | exact Nat.le_refl _⟩, ⟨by (with_reducible repeat (first | apply Kd.R_alloc | apply Kd.R_drewN | apply Kd.R_drew)); exact Kd.R_mono HO273.out (fun _ hk => hk.2)⟩, ⟨by (with_reducible repeat (first | apply Kd.R_alloc | apply Kd.R_drewN | apply Kd.R_drew)); exact Kd.R_mono HO277.out (fun _ hk => hk.2)⟩, ⟨by (with_reducible repeat (first | refine blk_drewN ?_ _ | refine blk_drew ?_ | refine blk_alloc ?_ _)); exact BK265.out⟩, ⟨by repeat (first | (with_reducible first | exact HB.out | apply below_alloc | apply pw_below_drewN | apply below_drew1 | refine below_set ?_ GE265.out) | exact HB.out)⟩⟩
   ·rw [if_neg c18] at H
    have c18b0 : (t274 == t278) = false := beq_eq_false_iff_ne.mpr c18
    have c18b1 : (t274 != t278) = true := bne_iff_ne.mpr c18
    (first | rw [c18b0] | (simp only [i64_w, i32_w]; rw [c18b0]) | skip)
    have H' := Aside0.mk H
    clear H
    go_wp2
    repeat (go_quiet (fail); try go_wp2)
    go_meet
    case rel => exact ⟨_, (true), (by first | rfl | (simp; done) | (simp [*]; done)), H', ⟨by first | omega | exact Nat.le_refl _⟩, ⟨by (with_reducible repeat (first | apply Kd.R_alloc | apply Kd.R_drewN | apply Kd.R_drew)); exact Kd.R_mono HO273.out (fun _ hk => hk.2)⟩, ⟨by (with_reducible repeat (first | apply Kd.R_alloc | apply Kd.R_drewN | apply Kd.R_drew)); exact Kd.R_mono HO277.out (fun _ hk => hk.2)⟩, ⟨by (with_reducible repeat (first | refine blk_drewN ?_ _ | refine blk_drew ?_ | refine blk_alloc ?_ _)); exact BK265.out⟩, ⟨by repeat (first | (with_reducible first | exact HB.out | apply below_alloc | apply pw_below_drewN | apply below_drew1 | refine below_set ?_ GE265.out) | exact HB.out)⟩⟩
  case rest =>
   clear HC8
   (try clear c1);(try clear p2);(try clear c4);(try clear c5);(try clear c18);(try clear c18b0);(try clear c18b1);(try clear hcz10_0);(try clear hcz10_1);(try clear hcz12_0);(try clear hcz12_1);(try clear hcz16_0);(try clear hcz16_1);(try clear hfz10_0);(try clear hfz10_1);(try clear hfz12_0);(try clear hfz12_1);(try clear hfz16_0);(try clear hfz16_1)
   obtain ⟨kq, x35_7, rfl, HA, HJ7, HO_5, HO_7, BK265, HB⟩ := hcut
   cases kq with
   | zero => exact absurd HA.out (by simp [cutroomlaw18_IsomediaTimes.j0])
   | succ kj7 =>
    have H := HA.out
    clear HA
    simp only [cutroomlaw18_IsomediaTimes.j0] at H
    by_cases c21 : x35_7 = true
    ·subst c21
     have H1 : (some false) = some r := by rw [if_pos rfl] at H; exact H
     clear H
     have H := H1
     clear H1
     obtain rfl := Option.some.inj H
     go_wp2
     repeat (go_quiet (fail); try go_wp2)
     go_ret
     exact ⟨by first | rfl | (simp [errW_none, errW_some] <;> rfl) | (simp [*, errW_none, errW_some] <;> rfl), by repeat (first | (with_reducible first | exact HB.out | apply below_alloc | apply pw_below_drewN | apply below_drew1 | refine below_set ?_ GE265.out) | exact HB.out)⟩
    ·replace c21 := Bool.eq_false_iff.mpr c21
     subst c21
     have H1 : (cutroomlaw18_IsomediaTimes.l0 kj7 t271 t275 0) = some r := by rw [if_neg (show ¬ (false = true) by decide)] at H; exact H
     clear H
     have H := H1
     clear H1
     have H' := Aside0.mk H
     clear H
     go_wp2
     repeat (go_quiet (fail); try go_wp2)
     go_loopg [9] kj7 (fun kq v9 w' => ∃ (x9_2 : Int), v9 = .int .i64 x9_2 ∧ Aside0 (cutroomlaw18_IsomediaTimes.l0 kq t271 t275 x9_2 = some r) ∧ Aside0 (kq ≤ kj7) ∧ Aside0 (Kd.R (Kd.int .i64) 2 w' w.heap.size (fun k_ => some k_ ≠ (v276 : Value).ownBlock) v272 t271) ∧ Aside0 (Kd.R (Kd.int .i64) 2 w' w.heap.size (fun k_ => some k_ ≠ (v272 : Value).ownBlock) v276 t275) ∧ Aside0 (w'.heap[gb265]? = some (.cells #[.int .i64 a0_0, (.slice A0_1 l0_1.length c0_1)] 37 (0, 0))) ∧ Aside0 (Below w.heap.size w w'))
     case atStart => exact ⟨(0), (by first | rfl | (simp; done) | (simp [*]; done)), H', ⟨Nat.le_refl _⟩, ⟨by (with_reducible repeat (first | apply Kd.R_alloc | apply Kd.R_drewN | apply Kd.R_drew)); exact HO_5.out⟩, ⟨by (with_reducible repeat (first | apply Kd.R_alloc | apply Kd.R_drewN | apply Kd.R_drew)); exact HO_7.out⟩, ⟨by (with_reducible repeat (first | refine blk_drewN ?_ _ | refine blk_drew ?_ | refine blk_alloc ?_ _)); exact BK265.out⟩, ⟨by repeat (first | (with_reducible first | exact HB.out | apply below_alloc | apply pw_below_drewN | apply below_drew1 | refine below_set ?_ GE265.out) | exact HB.out)⟩⟩
     case round =>
      clear H'
      (try clear c1);(try clear c2);(try clear p2);(try clear c4);(try clear c5);(try clear c18);(try clear c18b0);(try clear c18b1);(try clear c21);(try clear hcz10_0);(try clear hcz10_1);(try clear hcz12_0);(try clear hcz12_1);(try clear hcz16_0);(try clear hcz16_1);(try clear hfz10_0);(try clear hfz10_1);(try clear hfz12_0);(try clear hfz12_1);(try clear hfz16_0);(try clear hfz16_1);(try clear p2)
      obtain ⟨x9_2, rfl, HA, HK2, HO_5, HO_7, BK265, HB⟩ := hrel
      cases gk with
      | zero => exact absurd HA.out (by simp [cutroomlaw18_IsomediaTimes.l0])
      | succ k2 =>
       have H := HA.out
       clear HA
       simp only [cutroomlaw18_IsomediaTimes.l0] at H
       by_cases c22 : x9_2 < (t271.length : Int)
       ·rw [if_pos c22] at H
        have c22b0 : decide (x9_2 < (t271.length : Int)) = true := decide_eq_true c22
        clear c22
        by_cases c23 : 0 ≤ x9_2
        ·rw [if_pos c23] at H
         have c23b0 : decide (0 ≤ x9_2) = true := decide_eq_true c23
         clear c23
         by_cases c24 : x9_2 < (t275.length : Int)
         ·rw [if_pos c24] at H
          have c24b0 : decide (x9_2 < (t275.length : Int)) = true := decide_eq_true c24
          clear c24
          by_cases c25 : (rd t271 x9_2) = (rd t275 x9_2)
          ·rw [if_pos c25] at H
           have c25b0 : ((rd t271 x9_2) == (rd t275 x9_2)) = true := beq_iff_eq.mpr c25
           have c25b1 : ((rd t271 x9_2) != (rd t275 x9_2)) = false := bne_eq_false_iff_eq.mpr c25
           clear c25
           have H' := Aside0.mk H
           clear H
           obtain ⟨Ao26, co26, eo26⟩ := Kd.R_slice HO_5.out
           subst eo26
           have p279 : 0 ≤ (x9_2 : Int) := of_decide_eq_true (by first | (with_reducible assumption) | assumption)
           have q279 : x9_2 < (t271.length : Int) := of_decide_eq_true (by first | (with_reducible assumption) | assumption)
           obtain ⟨ad279, e279, hx279_0⟩ := Kd.at_int (Kd.R_reads' HO_5.out).2.2 x9_2 p279 q279
           cases e279
           replace p279 := eq_true p279
           replace q279 := eq_true q279
           obtain ⟨Ao27, co27, eo27⟩ := Kd.R_slice HO_7.out
           subst eo27
           have p280 : 0 ≤ (x9_2 : Int) := of_decide_eq_true (by first | (with_reducible assumption) | assumption)
           have q280 : x9_2 < (t275.length : Int) := of_decide_eq_true (by first | (with_reducible assumption) | assumption)
           obtain ⟨ad280, e280, hx280_0⟩ := Kd.at_int (Kd.R_reads' HO_7.out).2.2 x9_2 p280 q280
           cases e280
           replace p280 := eq_true p280
           replace q280 := eq_true q280
           go_wp2
           repeat (go_quiet (fail); try go_wp2)
           go_roundg k2
           case measure => have := HJ7.out; have := HK2.out; omega
           case rel => exact ⟨(wrap64 (x9_2 + 1)), (by first | rfl | (simp; done) | (simp [*]; done)), H', ⟨by have := HJ7.out; have := HK2.out; omega⟩, ⟨by (with_reducible repeat (first | apply Kd.R_alloc | apply Kd.R_drewN | apply Kd.R_drew)); exact HO_5.out⟩, ⟨by (with_reducible repeat (first | apply Kd.R_alloc | apply Kd.R_drewN | apply Kd.R_drew)); exact HO_7.out⟩, ⟨by (with_reducible repeat (first | refine blk_drewN ?_ _ | refine blk_drew ?_ | refine blk_alloc ?_ _)); exact BK265.out⟩, ⟨by repeat (first | (with_reducible first | exact HB.out | apply below_alloc | apply pw_below_drewN | apply below_drew1 | refine below_set ?_ GE265.out) | exact HB.out)⟩⟩
          ·rw [if_neg c25] at H
           have c25b0 : ((rd t271 x9_2) == (rd t275 x9_2)) = false := beq_eq_false_iff_ne.mpr c25
           have c25b1 : ((rd t271 x9_2) != (rd t275 x9_2)) = true := bne_iff_ne.mpr c25
           obtain rfl := Option.some.inj H
           obtain ⟨Ao28, co28, eo28⟩ := Kd.R_slice HO_5.out
           subst eo28
           have p279 : 0 ≤ (x9_2 : Int) := of_decide_eq_true (by first | (with_reducible assumption) | assumption)
           have q279 : x9_2 < (t271.length : Int) := of_decide_eq_true (by first | (with_reducible assumption) | assumption)
           obtain ⟨ad279, e279, hx279_0⟩ := Kd.at_int (Kd.R_reads' HO_5.out).2.2 x9_2 p279 q279
           cases e279
           replace p279 := eq_true p279
           replace q279 := eq_true q279
           obtain ⟨Ao29, co29, eo29⟩ := Kd.R_slice HO_7.out
           subst eo29
           have p280 : 0 ≤ (x9_2 : Int) := of_decide_eq_true (by first | (with_reducible assumption) | assumption)
           have q280 : x9_2 < (t275.length : Int) := of_decide_eq_true (by first | (with_reducible assumption) | assumption)
           obtain ⟨ad280, e280, hx280_0⟩ := Kd.at_int (Kd.R_reads' HO_7.out).2.2 x9_2 p280 q280
           cases e280
           replace p280 := eq_true p280
           replace q280 := eq_true q280
           go_wp2
           repeat (go_quiet (fail); try go_wp2)
           go_ret
           exact ⟨by first | rfl | (simp [errW_none, errW_some] <;> rfl) | (simp [*, errW_none, errW_some] <;> rfl), by repeat (first | (with_reducible first | exact HB.out | apply below_alloc | apply pw_below_drewN | apply below_drew1 | refine below_set ?_ GE265.out) | exact HB.out)⟩
         ·rw [if_neg c24] at H
          exact absurd H (by simp)
        ·rw [if_neg c23] at H
         exact absurd H (by simp)
       ·rw [if_neg c22] at H
        have c22b0 : decide (x9_2 < (t271.length : Int)) = false := decide_eq_false c22
        clear c22
        replace H := Option.bind_eq_some_iff.mp H
        obtain ⟨t281, A300, H⟩ := H
        replace H : (some t281) = some r := H
        have A30 := Aside0.mk A300
        clear A300
        obtain rfl := Option.some.inj H
        obtain ⟨Ao31, co31, eo31⟩ := Kd.R_slice HO_5.out
        subst eo31
        go_wp2_with (first | (go_at_call 12; (with_reducible refine (cutroomlaw18_awake.calls k2  t281 _ A30.out).mono ?_); rintro e w32 ⟨rfl, hb⟩; have n0_ := Aside0.mk (Kd.R_below (by (with_reducible repeat (first | apply Kd.R_alloc | apply Kd.R_drewN | apply Kd.R_drew)); exact HO_5.out) hb); have n1_ := Aside0.mk (Kd.R_below (by (with_reducible repeat (first | apply Kd.R_alloc | apply Kd.R_drewN | apply Kd.R_drew)); exact HO_7.out) hb); have n2_ := Aside0.mk (blk_below (g := gb265) (o := .cells #[.int .i64 a0_0, .slice A0_1 l0_1.length c0_1] 37 (0, 0)) (by (with_reducible repeat (first | refine blk_drewN ?_ _ | refine blk_drew ?_ | refine blk_alloc ?_ _)); exact BK265.out) hb); have n3_ := Aside0.mk (below_step (by repeat (first | (with_reducible first | exact HB.out | apply below_alloc | apply pw_below_drewN | apply below_drew1 | refine below_set ?_ GE265.out) | exact HB.out)) hb); clear HO_5; clear HO_7; clear BK265; clear HB; have HO_5 := n0_; have HO_7 := n1_; have BK265 := n2_; have HB := n3_; clear n0_ n1_ n2_ n3_; (try clear hb); (try clear hb2); (try clear hk); (try clear hi)))
        repeat (go_quiet (first | (go_at_call 12; (with_reducible refine (cutroomlaw18_awake.calls k2  t281 _ A30.out).mono ?_); rintro e w32 ⟨rfl, hb⟩; have n0_ := Aside0.mk (Kd.R_below (by (with_reducible repeat (first | apply Kd.R_alloc | apply Kd.R_drewN | apply Kd.R_drew)); exact HO_5.out) hb); have n1_ := Aside0.mk (Kd.R_below (by (with_reducible repeat (first | apply Kd.R_alloc | apply Kd.R_drewN | apply Kd.R_drew)); exact HO_7.out) hb); have n2_ := Aside0.mk (blk_below (g := gb265) (o := .cells #[.int .i64 a0_0, .slice A0_1 l0_1.length c0_1] 37 (0, 0)) (by (with_reducible repeat (first | refine blk_drewN ?_ _ | refine blk_drew ?_ | refine blk_alloc ?_ _)); exact BK265.out) hb); have n3_ := Aside0.mk (below_step (by repeat (first | (with_reducible first | exact HB.out | apply below_alloc | apply pw_below_drewN | apply below_drew1 | refine below_set ?_ GE265.out) | exact HB.out)) hb); clear HO_5; clear HO_7; clear BK265; clear HB; have HO_5 := n0_; have HO_7 := n1_; have BK265 := n2_; have HB := n3_; clear n0_ n1_ n2_ n3_; (try clear hb); (try clear hb2); (try clear hk); (try clear hi))); try go_wp2_with (first | (go_at_call 12; (with_reducible refine (cutroomlaw18_awake.calls k2  t281 _ A30.out).mono ?_); rintro e w32 ⟨rfl, hb⟩; have n0_ := Aside0.mk (Kd.R_below (by (with_reducible repeat (first | apply Kd.R_alloc | apply Kd.R_drewN | apply Kd.R_drew)); exact HO_5.out) hb); have n1_ := Aside0.mk (Kd.R_below (by (with_reducible repeat (first | apply Kd.R_alloc | apply Kd.R_drewN | apply Kd.R_drew)); exact HO_7.out) hb); have n2_ := Aside0.mk (blk_below (g := gb265) (o := .cells #[.int .i64 a0_0, .slice A0_1 l0_1.length c0_1] 37 (0, 0)) (by (with_reducible repeat (first | refine blk_drewN ?_ _ | refine blk_drew ?_ | refine blk_alloc ?_ _)); exact BK265.out) hb); have n3_ := Aside0.mk (below_step (by repeat (first | (with_reducible first | exact HB.out | apply below_alloc | apply pw_below_drewN | apply below_drew1 | refine below_set ?_ GE265.out) | exact HB.out)) hb); clear HO_5; clear HO_7; clear BK265; clear HB; have HO_5 := n0_; have HO_7 := n1_; have BK265 := n2_; have HB := n3_; clear n0_ n1_ n2_ n3_; (try clear hb); (try clear hb2); (try clear hk); (try clear hi))))
        go_ret
        exact ⟨by first | rfl | (simp [errW_none, errW_some] <;> rfl) | (simp [*, errW_none, errW_some] <;> rfl), by repeat (first | (with_reducible first | exact HB.out | apply below_alloc | apply pw_below_drewN | apply below_drew1 | refine below_set ?_ GE265.out) | exact HB.out)⟩
 ·replace c4 := Bool.eq_false_iff.mpr c4
  subst c4
  have H1 : (some true) = some r := by rw [if_neg (show ¬ (false = true) by decide)] at H; exact H
  clear H
  have H := H1
  clear H1
  obtain rfl := Option.some.inj H
  go_enter Try.func5, Try.ntmps5
  go_wp2_with (first | ((with_reducible refine gate_dst (N := 2) rfl ?_); (try (refine gate_guard (by rfl) ?_; dsimp only)); refine box_event ?hg (N := 2) ?hd (cs := #[.int .i64 a0_0, .slice A0_1 l0_1.length c0_1]) (t := 37) ?hr ?_; (case hd => rfl); (case hg => rfl); (case hr => first | (go_simp; done) | (go_simp; rfl)); intro gb265 hg w33 hbox hb; have n0_ := Aside0.mk (below_step (by repeat (first | (with_reducible first | exact HB.out | apply below_alloc | apply pw_below_drewN | apply below_drew1) | exact HB.out)) hb); have n1_ := Aside0.mk (hbox); have n2_ := Aside0.mk ((by rw [hg]; exact (below_size (by repeat (first | (with_reducible first | exact HB.out | apply below_alloc | apply pw_below_drewN | apply below_drew1) | exact HB.out))) : w.heap.size ≤ gb265)); have n3_ := Aside0.mk ((by rw [hg]; exact (below_size (by repeat (first | (with_reducible first | exact HB.out | apply below_alloc | apply pw_below_drewN | apply below_drew1) | exact HB.out))) : w.heap.size ≤ gb265)); clear HB; have HB := n0_; have BK265 := n1_; have GW265 := n2_; have GE265 := n3_; clear n0_ n1_ n2_ n3_; clear hb hbox hg; have hcz34_0 : w33.cell? ⟨gb265, 0, none⟩ = some (.int .i64 a0_0) := (blk_cell BK265.out 0).trans rfl; have hcz34_1 : w33.cell? ⟨gb265, 1, none⟩ = some (.slice A0_1 l0_1.length c0_1) := (blk_cell BK265.out 1).trans rfl; have hfz34_0 := blk_frozen BK265.out 0; have hfz34_1 := blk_frozen BK265.out 1) | (go_at_call 13; (with_reducible refine (cutroomlaw18_light.calls k a0_0 _ _ l0_1 false _ ?side1 ?side2 A3.out).mono ?_); (case side1 => repeat (first | exact (Kd.C_below HR0_1.out HB.out) | (with_reducible refine Kd.C_alloc ?_ _) | (with_reducible refine Kd.C_drewN ?_ _) | (with_reducible refine Kd.C_drew ?_))); (case side2 => exact HC0_1.out); rintro e w35 ⟨rfl, hb⟩; have n0_ := Aside0.mk (blk_below (g := gb265) (o := .cells #[.int .i64 a0_0, .slice A0_1 l0_1.length c0_1] 37 (0, 0)) (by (with_reducible repeat (first | refine blk_drewN ?_ _ | refine blk_drew ?_ | refine blk_alloc ?_ _)); exact BK265.out) hb); have n1_ := Aside0.mk (below_step (by repeat (first | (with_reducible first | exact HB.out | apply below_alloc | apply pw_below_drewN | apply below_drew1 | refine below_set ?_ GE265.out) | exact HB.out)) hb); clear BK265; clear HB; have BK265 := n0_; have HB := n1_; clear n0_ n1_; (try clear hb); (try clear hb2); (try clear hk); (try clear hi)))
  repeat (go_quiet (first | ((with_reducible refine gate_dst (N := 2) rfl ?_); (try (refine gate_guard (by rfl) ?_; dsimp only)); refine box_event ?hg (N := 2) ?hd (cs := #[.int .i64 a0_0, .slice A0_1 l0_1.length c0_1]) (t := 37) ?hr ?_; (case hd => rfl); (case hg => rfl); (case hr => first | (go_simp; done) | (go_simp; rfl)); intro gb265 hg w33 hbox hb; have n0_ := Aside0.mk (below_step (by repeat (first | (with_reducible first | exact HB.out | apply below_alloc | apply pw_below_drewN | apply below_drew1) | exact HB.out)) hb); have n1_ := Aside0.mk (hbox); have n2_ := Aside0.mk ((by rw [hg]; exact (below_size (by repeat (first | (with_reducible first | exact HB.out | apply below_alloc | apply pw_below_drewN | apply below_drew1) | exact HB.out))) : w.heap.size ≤ gb265)); have n3_ := Aside0.mk ((by rw [hg]; exact (below_size (by repeat (first | (with_reducible first | exact HB.out | apply below_alloc | apply pw_below_drewN | apply below_drew1) | exact HB.out))) : w.heap.size ≤ gb265)); clear HB; have HB := n0_; have BK265 := n1_; have GW265 := n2_; have GE265 := n3_; clear n0_ n1_ n2_ n3_; clear hb hbox hg; have hcz34_0 : w33.cell? ⟨gb265, 0, none⟩ = some (.int .i64 a0_0) := (blk_cell BK265.out 0).trans rfl; have hcz34_1 : w33.cell? ⟨gb265, 1, none⟩ = some (.slice A0_1 l0_1.length c0_1) := (blk_cell BK265.out 1).trans rfl; have hfz34_0 := blk_frozen BK265.out 0; have hfz34_1 := blk_frozen BK265.out 1) | (go_at_call 13; (with_reducible refine (cutroomlaw18_light.calls k a0_0 _ _ l0_1 false _ ?side1 ?side2 A3.out).mono ?_); (case side1 => repeat (first | exact (Kd.C_below HR0_1.out HB.out) | (with_reducible refine Kd.C_alloc ?_ _) | (with_reducible refine Kd.C_drewN ?_ _) | (with_reducible refine Kd.C_drew ?_))); (case side2 => exact HC0_1.out); rintro e w35 ⟨rfl, hb⟩; have n0_ := Aside0.mk (blk_below (g := gb265) (o := .cells #[.int .i64 a0_0, .slice A0_1 l0_1.length c0_1] 37 (0, 0)) (by (with_reducible repeat (first | refine blk_drewN ?_ _ | refine blk_drew ?_ | refine blk_alloc ?_ _)); exact BK265.out) hb); have n1_ := Aside0.mk (below_step (by repeat (first | (with_reducible first | exact HB.out | apply below_alloc | apply pw_below_drewN | apply below_drew1 | refine below_set ?_ GE265.out) | exact HB.out)) hb); clear BK265; clear HB; have BK265 := n0_; have HB := n1_; clear n0_ n1_; (try clear hb); (try clear hb2); (try clear hk); (try clear hi))); try go_wp2_with (first | ((with_reducible refine gate_dst (N := 2) rfl ?_); (try (refine gate_guard (by rfl) ?_; dsimp only)); refine box_event ?hg (N := 2) ?hd (cs := #[.int .i64 a0_0, .slice A0_1 l0_1.length c0_1]) (t := 37) ?hr ?_; (case hd => rfl); (case hg => rfl); (case hr => first | (go_simp; done) | (go_simp; rfl)); intro gb265 hg w33 hbox hb; have n0_ := Aside0.mk (below_step (by repeat (first | (with_reducible first | exact HB.out | apply below_alloc | apply pw_below_drewN | apply below_drew1) | exact HB.out)) hb); have n1_ := Aside0.mk (hbox); have n2_ := Aside0.mk ((by rw [hg]; exact (below_size (by repeat (first | (with_reducible first | exact HB.out | apply below_alloc | apply pw_below_drewN | apply below_drew1) | exact HB.out))) : w.heap.size ≤ gb265)); have n3_ := Aside0.mk ((by rw [hg]; exact (below_size (by repeat (first | (with_reducible first | exact HB.out | apply below_alloc | apply pw_below_drewN | apply below_drew1) | exact HB.out))) : w.heap.size ≤ gb265)); clear HB; have HB := n0_; have BK265 := n1_; have GW265 := n2_; have GE265 := n3_; clear n0_ n1_ n2_ n3_; clear hb hbox hg; have hcz34_0 : w33.cell? ⟨gb265, 0, none⟩ = some (.int .i64 a0_0) := (blk_cell BK265.out 0).trans rfl; have hcz34_1 : w33.cell? ⟨gb265, 1, none⟩ = some (.slice A0_1 l0_1.length c0_1) := (blk_cell BK265.out 1).trans rfl; have hfz34_0 := blk_frozen BK265.out 0; have hfz34_1 := blk_frozen BK265.out 1) | (go_at_call 13; (with_reducible refine (cutroomlaw18_light.calls k a0_0 _ _ l0_1 false _ ?side1 ?side2 A3.out).mono ?_); (case side1 => repeat (first | exact (Kd.C_below HR0_1.out HB.out) | (with_reducible refine Kd.C_alloc ?_ _) | (with_reducible refine Kd.C_drewN ?_ _) | (with_reducible refine Kd.C_drew ?_))); (case side2 => exact HC0_1.out); rintro e w35 ⟨rfl, hb⟩; have n0_ := Aside0.mk (blk_below (g := gb265) (o := .cells #[.int .i64 a0_0, .slice A0_1 l0_1.length c0_1] 37 (0, 0)) (by (with_reducible repeat (first | refine blk_drewN ?_ _ | refine blk_drew ?_ | refine blk_alloc ?_ _)); exact BK265.out) hb); have n1_ := Aside0.mk (below_step (by repeat (first | (with_reducible first | exact HB.out | apply below_alloc | apply pw_below_drewN | apply below_drew1 | refine below_set ?_ GE265.out) | exact HB.out)) hb); clear BK265; clear HB; have BK265 := n0_; have HB := n1_; clear n0_ n1_; (try clear hb); (try clear hb2); (try clear hk); (try clear hi))))
  go_ret
  exact ⟨by first | rfl | (simp [errW_none, errW_some] <;> rfl) | (simp [*, errW_none, errW_some] <;> rfl), by repeat (first | (with_reducible first | exact HB.out | apply below_alloc | apply pw_below_drewN | apply below_drew1 | refine below_set ?_ GE265.out) | exact HB.out)⟩

/-- THE ONE PURE STATEMENT of cutroomlaw18_IsomediaTimes: yours. -/
def cutroomlaw18_IsomediaTimes.Pure : Prop := ∀ (a0_0 : Int) (l0_1 : List (S48)) (a1 : Int), (Lit.int .i64 a0_0).wf = true → (l0_1.length ≤ maxLen ∧ l0_1.length * 96 ≤ 140737488351232 ∧ ∀ q0 ∈ l0_1, (q0.f0.size ≤ 140737488351232 ∧ (Lit.int .i64 q0.f1).wf = true ∧ (q0.f2.length ≤ maxLen ∧ q0.f2.length * 1 ≤ 140737488351232 ∧ ∀ q2 ∈ q0.f2, (Lit.int .u8 q2).wf = true) ∧ (q0.f3.length ≤ maxLen ∧ q0.f3.length * 48 ≤ 140737488351232 ∧ ∀ q2 ∈ q0.f3, ((q2.f0.length ≤ maxLen ∧ q2.f0.length * 1 ≤ 140737488351232 ∧ ∀ q4 ∈ q2.f0, (Lit.int .u8 q4).wf = true) ∧ (Lit.int .i64 q2.f1).wf = true ∧ (Lit.int .i64 q2.f2).wf = true ∧ True)) ∧ (q0.f4.length ≤ maxLen ∧ q0.f4.length * 16 ≤ 140737488351232 ∧ ∀ q2 ∈ q0.f4, ((Lit.int .i64 q2.f0).wf = true ∧ (Lit.int .i64 q2.f1).wf = true)))) → (Lit.int .i64 a1).wf = true → ∃ k, cutroomlaw18_IsomediaTimes.f k a0_0 l0_1 a1 = some true

end Go.Proofs.Ytbpmkcgpgdbbkaa.P
