-- Written by this session's own program (wip/tools/myprint.py), which runs the kit's print with turns of its own: not a text of the kit's print.sh.
import Derived.Test.YtdndhbfagoghfaaPx0
import Derived.Test.YtdndhbfagoghfaaPx12
import Derived.Test.YtdndhbfagoghfaaPx15
import Derived.Test.YtdndhbfagoghfaaPx16
import Derived.Test.YtdndhbfagoghfaaPx17
import Derived.Test.YtdndhbfagoghfaaPx18
import Derived.Test.YtdndhbfagoghfaaPx19
namespace Go.Proofs.Ytdndhbfagoghfaa.P
open Go.RowKit Go.Proofs.YtdndhbfagoghfaaW.PrintWords Go.Proofs.YtdndhbfagoghfaaW.PrintLast Go.Proofs.YtdndhbfagoghfaaW.PrintMore
attribute [local go_sem] max2_int min2_int max_two min_two max_three min_three max_four min_four   -- for this text's walks alone
set_option linter.unusedVariables false
set_option linter.unusedSimpArgs false

/-! ### cutroomlaw17_TransportTakes: function 4 -/
def cutroomlaw17_TransportTakes.j0 : Nat → List Int → Int → Bool → Int → Int → Bool → Int → List Int → Option (Bool)
 | 0, _, _, _, _, _, _, _, _ => none
 | k + 1, x0, x4, x30, x366000, x366001, x366002, x366003, x366004 => if x30 = true then (some false) else (if x4 = 0 then ((transport_Put.f k x366000 x366001 x366002 x366003 x366004).bind fun bt376 => ((cutroomlaw17_awake.f k).bind fun t380 => (if t380 = true then (if bt376.2 = 0 then ((cutroomref02_SameBytes.f x0 bt376.1).bind fun t381 => (some t381)) else (some false)) else (some false)))) else ((cutroomlaw17_awake.f k).bind fun t382 => (some t382)))
def cutroomlaw17_TransportTakes.f (k : Nat) (l0 : List Int) : Option (Bool) := if (l0.length : Int) > 400 then (some true) else ((transport_Take.f k l0).bind fun bt357 => ((cutroomref17_Take.f k l0).bind fun bt366 => (if bt357.2.2.2.2.2 = bt366.2.2.2.2.2 then ((cutroomlaw17_same.f bt357.1 bt357.2.1 bt357.2.2.1 bt357.2.2.2.1 bt357.2.2.2.2.1 bt366.1 bt366.2.1 bt366.2.2.1 bt366.2.2.2.1 bt366.2.2.2.2.1).bind fun t375 => (cutroomlaw17_TransportTakes.j0 k l0 bt357.2.2.2.2.2 (!t375) bt357.1 bt357.2.1 bt357.2.2.1 bt357.2.2.2.1 bt357.2.2.2.2.1)) else (cutroomlaw17_TransportTakes.j0 k l0 bt357.2.2.2.2.2 true bt357.1 bt357.2.1 bt357.2.2.1 bt357.2.2.2.1 bt357.2.2.2.2.1))))
theorem cutroomlaw17_TransportTakes.mono_l : ∀ k, (∀ y0 y1 y2 y3 y4 y5 y6 y7, LeO (cutroomlaw17_TransportTakes.j0 k y0 y1 y2 y3 y4 y5 y6 y7) (cutroomlaw17_TransportTakes.j0 (k + 1) y0 y1 y2 y3 y4 y5 y6 y7))
 | 0 => fun _ _ _ _ _ _ _ _ r h => by simp [cutroomlaw17_TransportTakes.j0] at h
 | k + 1 => by
  have ih0 := cutroomlaw17_TransportTakes.mono_l k
  ·intro y0 y1 y2 y3 y4 y5 y6 y7
   unfold cutroomlaw17_TransportTakes.j0
   repeat' first
   | (with_reducible exact ih0 _ _ _ _ _ _ _ _)
   | (with_reducible exact cutroomlaw17_awake.mono _)
   | (with_reducible exact cutroomref17_Take.mono _ _)
   | (with_reducible exact transport_Put.mono _ _ _ _ _ _)
   | (with_reducible exact transport_Take.mono _ _)
   | (with_reducible exact LeO.refl _)
   | (with_reducible exact LeO.none _)
   | (with_reducible refine LeO.ite ?_ ?_)
   | (with_reducible refine LeO.bind ?_ (fun _ => ?_))
   | exact ih0 _ _ _ _ _ _ _ _
   | exact cutroomlaw17_awake.mono _
   | exact cutroomref17_Take.mono _ _
   | exact transport_Put.mono _ _ _ _ _ _
   | exact transport_Take.mono _ _
   | exact LeO.none _
   | refine LeO.ite ?_ ?_
   | refine LeO.bind ?_ (fun _ => ?_)
theorem cutroomlaw17_TransportTakes.mono : ∀ a0 k, LeO (cutroomlaw17_TransportTakes.f k a0) (cutroomlaw17_TransportTakes.f (k + 1) a0) := by
 intro a0 k
 have ih0 := cutroomlaw17_TransportTakes.mono_l k
 unfold cutroomlaw17_TransportTakes.f
 repeat' first
   | (with_reducible exact ih0 _ _ _ _ _ _ _ _)
   | (with_reducible exact cutroomlaw17_awake.mono _)
   | (with_reducible exact cutroomref17_Take.mono _ _)
   | (with_reducible exact transport_Put.mono _ _ _ _ _ _)
   | (with_reducible exact transport_Take.mono _ _)
   | (with_reducible exact LeO.refl _)
   | (with_reducible exact LeO.none _)
   | (with_reducible refine LeO.ite ?_ ?_)
   | (with_reducible refine LeO.bind ?_ (fun _ => ?_))
   | exact ih0 _ _ _ _ _ _ _ _
   | exact cutroomlaw17_awake.mono _
   | exact cutroomref17_Take.mono _ _
   | exact transport_Put.mono _ _ _ _ _ _
   | exact transport_Take.mono _ _
   | exact LeO.none _
   | refine LeO.ite ?_ ?_
   | refine LeO.bind ?_ (fun _ => ?_)
set_option maxHeartbeats 8000000 in
set_option maxRecDepth 100000 in
theorem cutroomlaw17_TransportTakes.calls (k : Nat) (A0 : Option Addr) (c0 : Nat) (l0 : List Int) (r : Bool) (w : World) (hr0 : Kd.C (Kd.int .u8) w A0 l0.length l0) (hc0 : l0.length ≤ c0) (h : cutroomlaw17_TransportTakes.f k l0 = some r) :
  Calls Try.prog 4 #[.slice A0 l0.length c0] w fun e w' => e = .returned (.bool r) ∧ Below w.heap.size w w' := by
 have hu28 := Try.underlying28
 have hu24 := Try.underlying24
 have HR0 := Aside0.mk hr0
 have HC0 := Aside0.mk hc0
 clear hr0 hc0
 have HB := Aside0.mk (Below.refl w.heap.size w)
 have H : (if (l0.length : Int) > 400 then (some true) else ((transport_Take.f k l0).bind fun bt357 => ((cutroomref17_Take.f k l0).bind fun bt366 => (if bt357.2.2.2.2.2 = bt366.2.2.2.2.2 then ((cutroomlaw17_same.f bt357.1 bt357.2.1 bt357.2.2.1 bt357.2.2.2.1 bt357.2.2.2.2.1 bt366.1 bt366.2.1 bt366.2.2.1 bt366.2.2.2.1 bt366.2.2.2.2.1).bind fun t375 => (cutroomlaw17_TransportTakes.j0 k l0 bt357.2.2.2.2.2 (!t375) bt357.1 bt357.2.1 bt357.2.2.1 bt357.2.2.2.1 bt357.2.2.2.2.1)) else (cutroomlaw17_TransportTakes.j0 k l0 bt357.2.2.2.2.2 true bt357.1 bt357.2.1 bt357.2.2.1 bt357.2.2.2.1 bt357.2.2.2.2.1))))) = some r := h
 clear h
 by_cases c2 : (l0.length : Int) > 400
 ·rw [if_pos c2] at H
  have c2b0 : decide (400 < (l0.length : Int)) = true := decide_eq_true c2
  have c2b1 : decide (400 < l0.length) = true := decide_eq_true (by omega)
  clear c2
  obtain rfl := Option.some.inj H
  go_enter Try.func4, Try.ntmps4
  go_wp2
  go_ret
  exact ⟨by first | rfl | (simp [errW_none, errW_some] <;> rfl) | (simp [*, errW_none, errW_some] <;> rfl), by repeat (first | (with_reducible first | exact HB.out | apply below_alloc | apply pw_below_drewN | apply below_drew1) | exact HB.out)⟩
 ·rw [if_neg c2] at H
  have c2b0 : decide (400 < (l0.length : Int)) = false := decide_eq_false c2
  have c2b1 : decide (400 < l0.length) = false := decide_eq_false (by omega)
  clear c2
  replace H := Option.bind_eq_some_iff.mp H
  obtain ⟨⟨t357, t358, t359, t360, t361, t364⟩, A30, H⟩ := H
  replace H : ((cutroomref17_Take.f k l0).bind fun bt366 => (if t364 = bt366.2.2.2.2.2 then ((cutroomlaw17_same.f t357 t358 t359 t360 t361 bt366.1 bt366.2.1 bt366.2.2.1 bt366.2.2.2.1 bt366.2.2.2.2.1).bind fun t375 => (cutroomlaw17_TransportTakes.j0 k l0 t364 (!t375) t357 t358 t359 t360 t361)) else (cutroomlaw17_TransportTakes.j0 k l0 t364 true t357 t358 t359 t360 t361))) = some r := H
  have A3 := Aside0.mk A30
  clear A30
  replace H := Option.bind_eq_some_iff.mp H
  obtain ⟨⟨t366, t367, t368, t369, t370, t373⟩, A40, H⟩ := H
  replace H : (if t364 = t373 then ((cutroomlaw17_same.f t357 t358 t359 t360 t361 t366 t367 t368 t369 t370).bind fun t375 => (cutroomlaw17_TransportTakes.j0 k l0 t364 (!t375) t357 t358 t359 t360 t361)) else (cutroomlaw17_TransportTakes.j0 k l0 t364 true t357 t358 t359 t360 t361)) = some r := H
  have A4 := Aside0.mk A40
  clear A40
  have HC5 := Aside0.mk H
  clear H
  go_enter Try.func4, Try.ntmps4
  go_upto_region 5 with (first | ((with_reducible refine gate_callee (f := 16) rfl ?_); refine goesL_ (some 14) rfl rfl Try.func16 (by kernel_rfl) rfl #[.slice A0 l0.length c0] rfl (by (try simp only [List.map_toArray, List.map_cons, List.map_nil]); first | done | rfl | (simp only [List.length_drop, List.length_take]; rfl)) ?_; (with_reducible refine (transport_Take.calls k _ _ l0 t357 t358 t359 t360 t361 t364 _ ?side1 ?side2 A3.out).mono ?_); (case side1 => repeat (first | exact HR0.out | (with_reducible refine Kd.C_alloc ?_ _) | (with_reducible refine Kd.C_drewN ?_ _) | (with_reducible refine Kd.C_drew ?_))); (case side2 => exact HC0.out); rintro e w6 ⟨v362, rfl, ho0, hb⟩; refine ⟨_, rfl, ?_⟩; have n0_ := Aside0.mk (Kd.R_lower ho0 (below_size (by repeat (first | (with_reducible first | exact HB.out | apply below_alloc | apply pw_below_drewN | apply below_drew1) | exact HB.out)))); have n1_ := Aside0.mk (below_step (by repeat (first | (with_reducible first | exact HB.out | apply below_alloc | apply pw_below_drewN | apply below_drew1) | exact HB.out)) hb); clear HB; have HO363 := n0_; have HB := n1_; clear n0_ n1_; (try clear hb); (try clear hb2); (try clear hk); (try clear hi); (try clear ho0)) | ((with_reducible refine gate_dst (N := 3) rfl ?_); refine box_event ?hg (N := 3) ?hd (cs := #[.int .i64 0, .int .i64 0, .bool false, .int .i64 0, .slice none 0 0]) (t := 28) ?hr ?_; (case hd => rfl); (case hg => rfl); (case hr => first | (go_simp; done) | (go_simp; rfl)); intro gb365 hg w7 hbox hb; have n0_ := Aside0.mk (Kd.R_below (by (with_reducible repeat (first | apply Kd.R_alloc | apply Kd.R_drewN | apply Kd.R_drew)); exact HO363.out) hb); have n1_ := Aside0.mk (below_step (by repeat (first | (with_reducible first | exact HB.out | apply below_alloc | apply pw_below_drewN | apply below_drew1) | exact HB.out)) hb); have n2_ := Aside0.mk (hbox); have n3_ := Aside0.mk ((by rw [hg]; exact (below_size (by repeat (first | (with_reducible first | exact HB.out | apply below_alloc | apply pw_below_drewN | apply below_drew1) | exact HB.out))) : w.heap.size ≤ gb365)); have n4_ := Aside0.mk ((by rw [hg]; exact (below_size (by repeat (first | (with_reducible first | exact HB.out | apply below_alloc | apply pw_below_drewN | apply below_drew1) | exact HB.out))) : w.heap.size ≤ gb365)); clear HO363; clear HB; have HO363 := n0_; have HB := n1_; have BK365 := n2_; have GW365 := n3_; have GE365 := n4_; clear n0_ n1_ n2_ n3_ n4_; clear hb hbox hg; have hcz8_0 : w7.cell? ⟨gb365, 0, none⟩ = some (.int .i64 0) := (blk_cell BK365.out 0).trans rfl; have hcz8_1 : w7.cell? ⟨gb365, 1, none⟩ = some (.int .i64 0) := (blk_cell BK365.out 1).trans rfl; have hcz8_2 : w7.cell? ⟨gb365, 2, none⟩ = some (.bool false) := (blk_cell BK365.out 2).trans rfl; have hcz8_3 : w7.cell? ⟨gb365, 3, none⟩ = some (.int .i64 0) := (blk_cell BK365.out 3).trans rfl; have hcz8_4 : w7.cell? ⟨gb365, 4, none⟩ = some (.slice none 0 0) := (blk_cell BK365.out 4).trans rfl; have hfz8_0 := blk_frozen BK365.out 0; have hfz8_1 := blk_frozen BK365.out 1; have hfz8_2 := blk_frozen BK365.out 2; have hfz8_3 := blk_frozen BK365.out 3; have hfz8_4 := blk_frozen BK365.out 4; obtain ⟨Ao9, co9, eo9⟩ := Kd.R_slice HO363.out; subst eo9) | ((with_reducible refine gate_callee (f := 18) rfl ?_); refine goesL_ (some 19) rfl rfl Try.func18 (by kernel_rfl) rfl #[.slice A0 l0.length c0] rfl (by (try simp only [List.map_toArray, List.map_cons, List.map_nil]); first | done | rfl | (simp only [List.length_drop, List.length_take]; rfl)) ?_; (with_reducible refine (cutroomref17_Take.calls k _ _ l0 t366 t367 t368 t369 t370 t373 _ ?side1 ?side2 A4.out).mono ?_); (case side1 => exact Kd.C_below HR0.out (by repeat (first | (with_reducible first | exact HB.out | apply below_alloc | apply pw_below_drewN | apply below_drew1 | refine below_set ?_ GE365.out) | exact HB.out))); (case side2 => exact HC0.out); rintro e w10 ⟨v371, rfl, ho0, hb⟩; refine ⟨_, rfl, ?_⟩; have n0_ := Aside0.mk (Kd.R_elder' (by (with_reducible repeat (first | apply Kd.R_alloc | apply Kd.R_drewN | apply Kd.R_drew)); exact (Kd.R_mono (Kd.R_far (p := ⟨gb365, 4, none⟩) (Kd.R_far (p := ⟨gb365, 3, none⟩) (Kd.R_far (p := ⟨gb365, 2, none⟩) (Kd.R_far (p := ⟨gb365, 1, none⟩) (Kd.R_far (p := ⟨gb365, 0, none⟩) (Kd.R_types HO363.out BK365.out (by decide)) (fun _ hk => hk.2) (.int .i64 t357)) (fun _ hk => hk.2) (.int .i64 t358)) (fun _ hk => hk.2) (.bool t359)) (fun _ hk => hk.2) (.int .i64 t360)) (fun _ hk => hk.2) (.slice Ao9 t361.length co9)) (fun _ h_ => h_.1))) (Kd.R_base ho0) hb); have n1_ := Aside0.mk (Kd.R_lower (Kd.R_new' ho0 (Kd.R_lt (by (with_reducible repeat (first | apply Kd.R_alloc | apply Kd.R_drewN | apply Kd.R_drew)); exact (Kd.R_mono (Kd.R_far (p := ⟨gb365, 4, none⟩) (Kd.R_far (p := ⟨gb365, 3, none⟩) (Kd.R_far (p := ⟨gb365, 2, none⟩) (Kd.R_far (p := ⟨gb365, 1, none⟩) (Kd.R_far (p := ⟨gb365, 0, none⟩) (Kd.R_types HO363.out BK365.out (by decide)) (fun _ hk => hk.2) (.int .i64 t357)) (fun _ hk => hk.2) (.int .i64 t358)) (fun _ hk => hk.2) (.bool t359)) (fun _ hk => hk.2) (.int .i64 t360)) (fun _ hk => hk.2) (.slice Ao9 t361.length co9)) (fun _ h_ => h_.1))))) (below_size (by repeat (first | (with_reducible first | exact HB.out | apply below_alloc | apply pw_below_drewN | apply below_drew1 | refine below_set ?_ GE365.out) | exact HB.out)))); have n2_ := Aside0.mk (blk_below (g := gb365) (o := .cells #[.int .i64 t357, .int .i64 t358, .bool t359, .int .i64 t360, .slice Ao9 t361.length co9] 28 (0, 0)) (by (with_reducible repeat (first | refine blk_drewN ?_ _ | refine blk_drew ?_ | refine blk_alloc ?_ _)); refine blk_put (cs := #[.int .i64 t357, .int .i64 t358, .bool t359, .int .i64 t360, .slice none 0 0]) ?_ 4 _ rfl; (with_reducible repeat (first | refine blk_drewN ?_ _ | refine blk_drew ?_ | refine blk_alloc ?_ _)); refine blk_put (cs := #[.int .i64 t357, .int .i64 t358, .bool t359, .int .i64 0, .slice none 0 0]) ?_ 3 _ rfl; (with_reducible repeat (first | refine blk_drewN ?_ _ | refine blk_drew ?_ | refine blk_alloc ?_ _)); refine blk_put (cs := #[.int .i64 t357, .int .i64 t358, .bool false, .int .i64 0, .slice none 0 0]) ?_ 2 _ rfl; (with_reducible repeat (first | refine blk_drewN ?_ _ | refine blk_drew ?_ | refine blk_alloc ?_ _)); refine blk_put (cs := #[.int .i64 t357, .int .i64 0, .bool false, .int .i64 0, .slice none 0 0]) ?_ 1 _ rfl; (with_reducible repeat (first | refine blk_drewN ?_ _ | refine blk_drew ?_ | refine blk_alloc ?_ _)); refine blk_put (cs := #[.int .i64 0, .int .i64 0, .bool false, .int .i64 0, .slice none 0 0]) ?_ 0 _ rfl; (with_reducible repeat (first | refine blk_drewN ?_ _ | refine blk_drew ?_ | refine blk_alloc ?_ _)); exact BK365.out) hb); have n3_ := Aside0.mk (below_step (by repeat (first | (with_reducible first | exact HB.out | apply below_alloc | apply pw_below_drewN | apply below_drew1 | refine below_set ?_ GE365.out) | exact HB.out)) hb); clear HO363; clear BK365; clear HB; have HO363 := n0_; have HO372 := n1_; have BK365 := n2_; have HB := n3_; clear n0_ n1_ n2_ n3_; (try clear hb); (try clear hb2); (try clear hk); (try clear hi); (try clear ho0)) | ((with_reducible refine gate_dst (N := 5) rfl ?_); refine box_event ?hg (N := 5) ?hd (cs := #[.int .i64 0, .int .i64 0, .bool false, .int .i64 0, .slice none 0 0]) (t := 24) ?hr ?_; (case hd => rfl); (case hg => rfl); (case hr => first | (go_simp; done) | (go_simp; rfl)); intro gb374 hg w11 hbox hb; have n0_ := Aside0.mk (Kd.R_below (by (with_reducible repeat (first | apply Kd.R_alloc | apply Kd.R_drewN | apply Kd.R_drew)); exact HO363.out) hb); have n1_ := Aside0.mk (Kd.R_below (by (with_reducible repeat (first | apply Kd.R_alloc | apply Kd.R_drewN | apply Kd.R_drew)); exact HO372.out) hb); have n2_ := Aside0.mk (blk_below (g := gb365) (o := .cells #[.int .i64 t357, .int .i64 t358, .bool t359, .int .i64 t360, .slice Ao9 t361.length co9] 28 (0, 0)) (by (with_reducible repeat (first | refine blk_drewN ?_ _ | refine blk_drew ?_ | refine blk_alloc ?_ _)); exact BK365.out) hb); have n3_ := Aside0.mk (below_step (by repeat (first | (with_reducible first | exact HB.out | apply below_alloc | apply pw_below_drewN | apply below_drew1 | refine below_set ?_ GE365.out) | exact HB.out)) hb); have n4_ := Aside0.mk (hbox); have n5_ := Aside0.mk ((by rw [hg]; exact (below_size (by repeat (first | (with_reducible first | exact HB.out | apply below_alloc | apply pw_below_drewN | apply below_drew1 | refine below_set ?_ GE365.out) | exact HB.out))) : w.heap.size ≤ gb374)); have n6_ := Aside0.mk ((by rw [hg]; exact (below_size (by repeat (first | (with_reducible first | exact HB.out | apply below_alloc | apply pw_below_drewN | apply below_drew1 | refine below_set ?_ GE365.out) | exact HB.out))) : w.heap.size ≤ gb374)); have n7_ := Aside0.mk ((by rw [hg]; exact Nat.ne_of_lt (blk_lt (g := gb365) (o := .cells #[.int .i64 t357, .int .i64 t358, .bool t359, .int .i64 t360, .slice Ao9 t361.length co9] 28 (0, 0)) (by (with_reducible repeat (first | refine blk_drewN ?_ _ | refine blk_drew ?_ | refine blk_alloc ?_ _)); exact BK365.out)) : gb365 ≠ gb374)); have n8_ := Aside0.mk ((by rw [hg]; exact Nat.ne_of_gt (blk_lt (g := gb365) (o := .cells #[.int .i64 t357, .int .i64 t358, .bool t359, .int .i64 t360, .slice Ao9 t361.length co9] 28 (0, 0)) (by (with_reducible repeat (first | refine blk_drewN ?_ _ | refine blk_drew ?_ | refine blk_alloc ?_ _)); exact BK365.out)) : gb374 ≠ gb365)); clear HO363; clear HO372; clear BK365; clear HB; have HO363 := n0_; have HO372 := n1_; have BK365 := n2_; have HB := n3_; have BK374 := n4_; have GW374 := n5_; have GE374 := n6_; have NB365_374 := n7_; have NB374_365 := n8_; clear n0_ n1_ n2_ n3_ n4_ n5_ n6_ n7_ n8_; clear hb hbox hg; have hnb12 := NB374_365.out; have hnc12 := NB365_374.out; have hcz13_0 : w11.cell? ⟨gb374, 0, none⟩ = some (.int .i64 0) := (blk_cell BK374.out 0).trans rfl; have hcz13_1 : w11.cell? ⟨gb374, 1, none⟩ = some (.int .i64 0) := (blk_cell BK374.out 1).trans rfl; have hcz13_2 : w11.cell? ⟨gb374, 2, none⟩ = some (.bool false) := (blk_cell BK374.out 2).trans rfl; have hcz13_3 : w11.cell? ⟨gb374, 3, none⟩ = some (.int .i64 0) := (blk_cell BK374.out 3).trans rfl; have hcz13_4 : w11.cell? ⟨gb374, 4, none⟩ = some (.slice none 0 0) := (blk_cell BK374.out 4).trans rfl; have hfz13_0 := blk_frozen BK374.out 0; have hfz13_1 := blk_frozen BK374.out 1; have hfz13_2 := blk_frozen BK374.out 2; have hfz13_3 := blk_frozen BK374.out 3; have hfz13_4 := blk_frozen BK374.out 4; obtain ⟨Ao14, co14, eo14⟩ := Kd.R_slice HO372.out; subst eo14))
  (try simp only [Act.put, List.setIfInBounds_toArray, List.set_cons_zero, List.set_cons_succ])
  go_cut [30] (fun v30 wc => ∃ (kq : Nat) (x30_4 : Bool), v30 = .bool x30_4 ∧ Aside0 (cutroomlaw17_TransportTakes.j0 kq l0 t364 x30_4 t357 t358 t359 t360 t361 = some r) ∧ Aside0 (kq ≤ k) ∧ Aside0 (Kd.R (Kd.int .u8) 5 wc w.heap.size (fun k_ => some k_ ≠ ((.slice Ao14 t370.length co14) : Value).ownBlock) (.slice Ao9 t361.length co9) t361) ∧ Aside0 (Kd.R (Kd.int .u8) 5 wc w.heap.size (fun k_ => some k_ ≠ ((.slice Ao9 t361.length co9) : Value).ownBlock) (.slice Ao14 t370.length co14) t370) ∧ Aside0 (wc.heap[gb365]? = some (.cells #[.int .i64 t357, .int .i64 t358, .bool t359, .int .i64 t360, (.slice Ao9 t361.length co9)] 28 (0, 0))) ∧ Aside0 (wc.heap[gb374]? = some (.cells #[.int .i64 t366, .int .i64 t367, .bool t368, .int .i64 t369, (.slice Ao14 t370.length co14)] 24 (0, 0))) ∧ Aside0 (Below w.heap.size w wc))
  case first =>
   have H := HC5.out
   clear HC5
   by_cases c15 : t364 = t373
   ·rw [if_pos c15] at H
    have c15b0 : (t364 == t373) = true := beq_iff_eq.mpr c15
    have c15b1 : (t364 != t373) = false := bne_eq_false_iff_eq.mpr c15
    clear c15
    (first | rw [c15b0] | (simp only [i64_w, i32_w]; rw [c15b0]) | skip)
    replace H := Option.bind_eq_some_iff.mp H
    obtain ⟨t375, A160, H⟩ := H
    replace H : (cutroomlaw17_TransportTakes.j0 k l0 t364 (!t375) t357 t358 t359 t360 t361) = some r := H
    have A16 := Aside0.mk A160
    clear A160
    have H' := Aside0.mk H
    clear H
    have hnb17 := NB365_374.out
    have hnc17 := NB374_365.out
    have hcz18_0 : w11.cell? ⟨gb365, 0, none⟩ = some (.int .i64 t357) := (blk_cell BK365.out 0).trans rfl
    have hcz18_1 : w11.cell? ⟨gb365, 1, none⟩ = some (.int .i64 t358) := (blk_cell BK365.out 1).trans rfl
    have hcz18_2 : w11.cell? ⟨gb365, 2, none⟩ = some (.bool t359) := (blk_cell BK365.out 2).trans rfl
    have hcz18_3 : w11.cell? ⟨gb365, 3, none⟩ = some (.int .i64 t360) := (blk_cell BK365.out 3).trans rfl
    have hcz18_4 : w11.cell? ⟨gb365, 4, none⟩ = some (.slice Ao9 t361.length co9) := (blk_cell BK365.out 4).trans rfl
    have hfz18_0 := blk_frozen BK365.out 0
    have hfz18_1 := blk_frozen BK365.out 1
    have hfz18_2 := blk_frozen BK365.out 2
    have hfz18_3 := blk_frozen BK365.out 3
    have hfz18_4 := blk_frozen BK365.out 4
    have hcz19_0 : w11.cell? ⟨gb374, 0, none⟩ = some (.int .i64 0) := (blk_cell BK374.out 0).trans rfl
    have hcz19_1 : w11.cell? ⟨gb374, 1, none⟩ = some (.int .i64 0) := (blk_cell BK374.out 1).trans rfl
    have hcz19_2 : w11.cell? ⟨gb374, 2, none⟩ = some (.bool false) := (blk_cell BK374.out 2).trans rfl
    have hcz19_3 : w11.cell? ⟨gb374, 3, none⟩ = some (.int .i64 0) := (blk_cell BK374.out 3).trans rfl
    have hcz19_4 : w11.cell? ⟨gb374, 4, none⟩ = some (.slice none 0 0) := (blk_cell BK374.out 4).trans rfl
    have hfz19_0 := blk_frozen BK374.out 0
    have hfz19_1 := blk_frozen BK374.out 1
    have hfz19_2 := blk_frozen BK374.out 2
    have hfz19_3 := blk_frozen BK374.out 3
    have hfz19_4 := blk_frozen BK374.out 4
    go_wp2_with (first | (go_at_call 17; (with_reducible refine (cutroomlaw17_same.calls t357 t358 t359 t360 _ _ t361 t366 t367 t368 t369 _ _ t370 t375 _ ?side1 ?side2 ?side3 ?side4 A16.out).mono ?_); (case side1 => refine (Kd.R_reads' (e := 5) (base := w.heap.size) (ok := fun k_ => (True ∧ some k_ ≠ (.slice Ao14 t370.length co14 : Value).ownBlock)) (n := t361.length) (c := co9) ?_).2.2; exact (by (with_reducible repeat (first | apply Kd.R_alloc | apply Kd.R_drewN | apply Kd.R_drew)); exact (Kd.R_mono (Kd.R_far (p := ⟨gb374, 4, none⟩) (Kd.R_far (p := ⟨gb374, 3, none⟩) (Kd.R_far (p := ⟨gb374, 2, none⟩) (Kd.R_far (p := ⟨gb374, 1, none⟩) (Kd.R_far (p := ⟨gb374, 0, none⟩) (Kd.R_types HO363.out BK374.out (by decide)) (fun _ hk => hk.2) (.int .i64 t366)) (fun _ hk => hk.2) (.int .i64 t367)) (fun _ hk => hk.2) (.bool t368)) (fun _ hk => hk.2) (.int .i64 t369)) (fun _ hk => hk.2) (.slice Ao14 t370.length co14)) (fun _ h_ => h_.1)))); (case side2 => exact (Kd.R_reads' HO363.out).2.1); (case side3 => refine (Kd.R_reads' (e := 5) (base := w.heap.size) (ok := fun k_ => (True ∧ some k_ ≠ (.slice Ao9 t361.length co9 : Value).ownBlock)) (n := t370.length) (c := co14) ?_).2.2; exact (by (with_reducible repeat (first | apply Kd.R_alloc | apply Kd.R_drewN | apply Kd.R_drew)); exact (Kd.R_mono (Kd.R_far (p := ⟨gb374, 4, none⟩) (Kd.R_far (p := ⟨gb374, 3, none⟩) (Kd.R_far (p := ⟨gb374, 2, none⟩) (Kd.R_far (p := ⟨gb374, 1, none⟩) (Kd.R_far (p := ⟨gb374, 0, none⟩) (Kd.R_types HO372.out BK374.out (by decide)) (fun _ hk => hk.2) (.int .i64 t366)) (fun _ hk => hk.2) (.int .i64 t367)) (fun _ hk => hk.2) (.bool t368)) (fun _ hk => hk.2) (.int .i64 t369)) (fun _ hk => hk.2) (.slice Ao14 t370.length co14)) (fun _ h_ => h_.1)))); (case side4 => exact (Kd.R_reads' HO372.out).2.1); rintro e w20 ⟨rfl, hb⟩; have n0_ := Aside0.mk (Kd.R_below (by (with_reducible repeat (first | apply Kd.R_alloc | apply Kd.R_drewN | apply Kd.R_drew)); exact (Kd.R_mono (Kd.R_far (p := ⟨gb374, 4, none⟩) (Kd.R_far (p := ⟨gb374, 3, none⟩) (Kd.R_far (p := ⟨gb374, 2, none⟩) (Kd.R_far (p := ⟨gb374, 1, none⟩) (Kd.R_far (p := ⟨gb374, 0, none⟩) (Kd.R_types HO363.out BK374.out (by decide)) (fun _ hk => hk.2) (.int .i64 t366)) (fun _ hk => hk.2) (.int .i64 t367)) (fun _ hk => hk.2) (.bool t368)) (fun _ hk => hk.2) (.int .i64 t369)) (fun _ hk => hk.2) (.slice Ao14 t370.length co14)) (fun _ h_ => h_.1))) hb); have n1_ := Aside0.mk (Kd.R_below (by (with_reducible repeat (first | apply Kd.R_alloc | apply Kd.R_drewN | apply Kd.R_drew)); exact (Kd.R_mono (Kd.R_far (p := ⟨gb374, 4, none⟩) (Kd.R_far (p := ⟨gb374, 3, none⟩) (Kd.R_far (p := ⟨gb374, 2, none⟩) (Kd.R_far (p := ⟨gb374, 1, none⟩) (Kd.R_far (p := ⟨gb374, 0, none⟩) (Kd.R_types HO372.out BK374.out (by decide)) (fun _ hk => hk.2) (.int .i64 t366)) (fun _ hk => hk.2) (.int .i64 t367)) (fun _ hk => hk.2) (.bool t368)) (fun _ hk => hk.2) (.int .i64 t369)) (fun _ hk => hk.2) (.slice Ao14 t370.length co14)) (fun _ h_ => h_.1))) hb); have n2_ := Aside0.mk (blk_below (g := gb365) (o := .cells #[.int .i64 t357, .int .i64 t358, .bool t359, .int .i64 t360, .slice Ao9 t361.length co9] 28 (0, 0)) (by (with_reducible repeat (first | refine blk_drewN ?_ _ | refine blk_drew ?_ | refine blk_alloc ?_ _)); refine blk_far ?_ NB365_374.out _; (with_reducible repeat (first | refine blk_drewN ?_ _ | refine blk_drew ?_ | refine blk_alloc ?_ _)); refine blk_far ?_ NB365_374.out _; (with_reducible repeat (first | refine blk_drewN ?_ _ | refine blk_drew ?_ | refine blk_alloc ?_ _)); refine blk_far ?_ NB365_374.out _; (with_reducible repeat (first | refine blk_drewN ?_ _ | refine blk_drew ?_ | refine blk_alloc ?_ _)); refine blk_far ?_ NB365_374.out _; (with_reducible repeat (first | refine blk_drewN ?_ _ | refine blk_drew ?_ | refine blk_alloc ?_ _)); refine blk_far ?_ NB365_374.out _; (with_reducible repeat (first | refine blk_drewN ?_ _ | refine blk_drew ?_ | refine blk_alloc ?_ _)); exact BK365.out) hb); have n3_ := Aside0.mk (blk_below (g := gb374) (o := .cells #[.int .i64 t366, .int .i64 t367, .bool t368, .int .i64 t369, .slice Ao14 t370.length co14] 24 (0, 0)) (by (with_reducible repeat (first | refine blk_drewN ?_ _ | refine blk_drew ?_ | refine blk_alloc ?_ _)); refine blk_put (cs := #[.int .i64 t366, .int .i64 t367, .bool t368, .int .i64 t369, .slice none 0 0]) ?_ 4 _ rfl; (with_reducible repeat (first | refine blk_drewN ?_ _ | refine blk_drew ?_ | refine blk_alloc ?_ _)); refine blk_put (cs := #[.int .i64 t366, .int .i64 t367, .bool t368, .int .i64 0, .slice none 0 0]) ?_ 3 _ rfl; (with_reducible repeat (first | refine blk_drewN ?_ _ | refine blk_drew ?_ | refine blk_alloc ?_ _)); refine blk_put (cs := #[.int .i64 t366, .int .i64 t367, .bool false, .int .i64 0, .slice none 0 0]) ?_ 2 _ rfl; (with_reducible repeat (first | refine blk_drewN ?_ _ | refine blk_drew ?_ | refine blk_alloc ?_ _)); refine blk_put (cs := #[.int .i64 t366, .int .i64 0, .bool false, .int .i64 0, .slice none 0 0]) ?_ 1 _ rfl; (with_reducible repeat (first | refine blk_drewN ?_ _ | refine blk_drew ?_ | refine blk_alloc ?_ _)); refine blk_put (cs := #[.int .i64 0, .int .i64 0, .bool false, .int .i64 0, .slice none 0 0]) ?_ 0 _ rfl; (with_reducible repeat (first | refine blk_drewN ?_ _ | refine blk_drew ?_ | refine blk_alloc ?_ _)); exact BK374.out) hb); have n4_ := Aside0.mk (below_step (by repeat (first | (with_reducible first | exact HB.out | apply below_alloc | apply pw_below_drewN | apply below_drew1 | refine below_set ?_ GE365.out | refine below_set ?_ GE374.out) | exact HB.out)) hb); clear HO363; clear HO372; clear BK365; clear BK374; clear HB; have HO363 := n0_; have HO372 := n1_; have BK365 := n2_; have BK374 := n3_; have HB := n4_; clear n0_ n1_ n2_ n3_ n4_; (try clear hb); (try clear hb2); (try clear hk); (try clear hi)))
    go_meet
    case rel => exact ⟨_, (!t375), (by first | rfl | (simp; done) | (simp [*]; done)), H', ⟨by first | omega | exact Nat.le_refl _⟩, ⟨by (with_reducible repeat (first | apply Kd.R_alloc | apply Kd.R_drewN | apply Kd.R_drew)); exact Kd.R_mono HO363.out (fun _ hk => hk.2)⟩, ⟨by (with_reducible repeat (first | apply Kd.R_alloc | apply Kd.R_drewN | apply Kd.R_drew)); exact Kd.R_mono HO372.out (fun _ hk => hk.2)⟩, ⟨by (with_reducible repeat (first | refine blk_drewN ?_ _ | refine blk_drew ?_ | refine blk_alloc ?_ _)); exact BK365.out⟩, ⟨by (with_reducible repeat (first | refine blk_drewN ?_ _ | refine blk_drew ?_ | refine blk_alloc ?_ _)); exact BK374.out⟩, ⟨by repeat (first | (with_reducible first | exact HB.out | apply below_alloc | apply pw_below_drewN | apply below_drew1 | refine below_set ?_ GE365.out | refine below_set ?_ GE374.out) | exact HB.out)⟩⟩
   ·rw [if_neg c15] at H
    have c15b0 : (t364 == t373) = false := beq_eq_false_iff_ne.mpr c15
    have c15b1 : (t364 != t373) = true := bne_iff_ne.mpr c15
    (first | rw [c15b0] | (simp only [i64_w, i32_w]; rw [c15b0]) | skip)
    have H' := Aside0.mk H
    clear H
    go_wp2
    go_meet
    case rel => exact ⟨_, (true), (by first | rfl | (simp; done) | (simp [*]; done)), H', ⟨by first | omega | exact Nat.le_refl _⟩, ⟨by (with_reducible repeat (first | apply Kd.R_alloc | apply Kd.R_drewN | apply Kd.R_drew)); exact Kd.R_mono (Kd.R_far (p := ⟨gb374, 4, none⟩) (Kd.R_far (p := ⟨gb374, 3, none⟩) (Kd.R_far (p := ⟨gb374, 2, none⟩) (Kd.R_far (p := ⟨gb374, 1, none⟩) (Kd.R_far (p := ⟨gb374, 0, none⟩) (Kd.R_types HO363.out BK374.out (by decide)) (fun _ hk => hk.2) (.int .i64 t366)) (fun _ hk => hk.2) (.int .i64 t367)) (fun _ hk => hk.2) (.bool t368)) (fun _ hk => hk.2) (.int .i64 t369)) (fun _ hk => hk.2) (.slice Ao14 t370.length co14)) (fun _ hk => hk.1.2)⟩, ⟨by (with_reducible repeat (first | apply Kd.R_alloc | apply Kd.R_drewN | apply Kd.R_drew)); exact Kd.R_mono (Kd.R_far (p := ⟨gb374, 4, none⟩) (Kd.R_far (p := ⟨gb374, 3, none⟩) (Kd.R_far (p := ⟨gb374, 2, none⟩) (Kd.R_far (p := ⟨gb374, 1, none⟩) (Kd.R_far (p := ⟨gb374, 0, none⟩) (Kd.R_types HO372.out BK374.out (by decide)) (fun _ hk => hk.2) (.int .i64 t366)) (fun _ hk => hk.2) (.int .i64 t367)) (fun _ hk => hk.2) (.bool t368)) (fun _ hk => hk.2) (.int .i64 t369)) (fun _ hk => hk.2) (.slice Ao14 t370.length co14)) (fun _ hk => hk.1.2)⟩, ⟨by (with_reducible repeat (first | refine blk_drewN ?_ _ | refine blk_drew ?_ | refine blk_alloc ?_ _)); refine blk_far ?_ NB365_374.out _; (with_reducible repeat (first | refine blk_drewN ?_ _ | refine blk_drew ?_ | refine blk_alloc ?_ _)); refine blk_far ?_ NB365_374.out _; (with_reducible repeat (first | refine blk_drewN ?_ _ | refine blk_drew ?_ | refine blk_alloc ?_ _)); refine blk_far ?_ NB365_374.out _; (with_reducible repeat (first | refine blk_drewN ?_ _ | refine blk_drew ?_ | refine blk_alloc ?_ _)); refine blk_far ?_ NB365_374.out _; (with_reducible repeat (first | refine blk_drewN ?_ _ | refine blk_drew ?_ | refine blk_alloc ?_ _)); refine blk_far ?_ NB365_374.out _; (with_reducible repeat (first | refine blk_drewN ?_ _ | refine blk_drew ?_ | refine blk_alloc ?_ _)); exact BK365.out⟩, ⟨by (with_reducible repeat (first | refine blk_drewN ?_ _ | refine blk_drew ?_ | refine blk_alloc ?_ _)); refine blk_put (cs := #[.int .i64 t366, .int .i64 t367, .bool t368, .int .i64 t369, .slice none 0 0]) ?_ 4 _ rfl; (with_reducible repeat (first | refine blk_drewN ?_ _ | refine blk_drew ?_ | refine blk_alloc ?_ _)); refine blk_put (cs := #[.int .i64 t366, .int .i64 t367, .bool t368, .int .i64 0, .slice none 0 0]) ?_ 3 _ rfl; (with_reducible repeat (first | refine blk_drewN ?_ _ | refine blk_drew ?_ | refine blk_alloc ?_ _)); refine blk_put (cs := #[.int .i64 t366, .int .i64 t367, .bool false, .int .i64 0, .slice none 0 0]) ?_ 2 _ rfl; (with_reducible repeat (first | refine blk_drewN ?_ _ | refine blk_drew ?_ | refine blk_alloc ?_ _)); refine blk_put (cs := #[.int .i64 t366, .int .i64 0, .bool false, .int .i64 0, .slice none 0 0]) ?_ 1 _ rfl; (with_reducible repeat (first | refine blk_drewN ?_ _ | refine blk_drew ?_ | refine blk_alloc ?_ _)); refine blk_put (cs := #[.int .i64 0, .int .i64 0, .bool false, .int .i64 0, .slice none 0 0]) ?_ 0 _ rfl; (with_reducible repeat (first | refine blk_drewN ?_ _ | refine blk_drew ?_ | refine blk_alloc ?_ _)); exact BK374.out⟩, ⟨by repeat (first | (with_reducible first | exact HB.out | apply below_alloc | apply pw_below_drewN | apply below_drew1 | refine below_set ?_ GE365.out | refine below_set ?_ GE374.out) | exact HB.out)⟩⟩
  case rest =>
   clear HC5
   (try clear c1);(try clear c2);(try clear c2b0);(try clear c2b1);(try clear p2);(try clear c4);(try clear c12);(try clear c15);(try clear c15b0);(try clear c15b1);(try clear c16);(try clear c17);(try clear c18);(try clear hcz13_0);(try clear hcz13_1);(try clear hcz13_2);(try clear hcz13_3);(try clear hcz13_4);(try clear hcz18_0);(try clear hcz18_1);(try clear hcz18_2);(try clear hcz18_3);(try clear hcz18_4);(try clear hcz19_0);(try clear hcz19_1);(try clear hcz19_2);(try clear hcz19_3);(try clear hcz19_4);(try clear hcz8_0);(try clear hcz8_1);(try clear hcz8_2);(try clear hcz8_3);(try clear hcz8_4);(try clear hfz13_0);(try clear hfz13_1);(try clear hfz13_2);(try clear hfz13_3);(try clear hfz13_4);(try clear hfz18_0);(try clear hfz18_1);(try clear hfz18_2);(try clear hfz18_3);(try clear hfz18_4);(try clear hfz19_0);(try clear hfz19_1);(try clear hfz19_2);(try clear hfz19_3);(try clear hfz19_4)
   (try clear hfz8_0);(try clear hfz8_1);(try clear hfz8_2);(try clear hfz8_3);(try clear hfz8_4)
   obtain ⟨kq, x30_4, rfl, HA, HJ4, HO_366004, HO_375004, BK365, BK374, HB⟩ := hcut
   cases kq with
   | zero => exact absurd HA.out (by simp [cutroomlaw17_TransportTakes.j0])
   | succ kj4 =>
    have H := HA.out
    clear HA
    simp only [cutroomlaw17_TransportTakes.j0] at H
    by_cases c21 : x30_4 = true
    ·subst c21
     have H1 : (some false) = some r := by rw [if_pos rfl] at H; exact H
     clear H
     have H := H1
     clear H1
     obtain rfl := Option.some.inj H
     go_wp2
     go_ret
     exact ⟨by first | rfl | (simp [errW_none, errW_some] <;> rfl) | (simp [*, errW_none, errW_some] <;> rfl), by repeat (first | (with_reducible first | exact HB.out | apply below_alloc | apply pw_below_drewN | apply below_drew1 | refine below_set ?_ GE365.out | refine below_set ?_ GE374.out) | exact HB.out)⟩
    ·replace c21 := Bool.eq_false_iff.mpr c21
     subst c21
     have H1 : (if t364 = 0 then ((transport_Put.f kj4 t357 t358 t359 t360 t361).bind fun bt376 => ((cutroomlaw17_awake.f kj4).bind fun t380 => (if t380 = true then (if bt376.2 = 0 then ((cutroomref02_SameBytes.f l0 bt376.1).bind fun t381 => (some t381)) else (some false)) else (some false)))) else ((cutroomlaw17_awake.f kj4).bind fun t382 => (some t382))) = some r := by rw [if_neg (show ¬ (false = true) by decide)] at H; exact H
     clear H
     have H := H1
     clear H1
     by_cases c22 : t364 = 0
     ·rw [if_pos c22] at H
      have c22b0 : (t364 == 0) = true := beq_iff_eq.mpr c22
      have c22b1 : (t364 != 0) = false := bne_eq_false_iff_eq.mpr c22
      clear c22
      replace H := Option.bind_eq_some_iff.mp H
      obtain ⟨⟨t376, t379⟩, A230, H⟩ := H
      replace H : ((cutroomlaw17_awake.f kj4).bind fun t380 => (if t380 = true then (if t379 = 0 then ((cutroomref02_SameBytes.f l0 t376).bind fun t381 => (some t381)) else (some false)) else (some false))) = some r := H
      have A23 := Aside0.mk A230
      clear A230
      replace H := Option.bind_eq_some_iff.mp H
      obtain ⟨t380, A240, H⟩ := H
      replace H : (if t380 = true then (if t379 = 0 then ((cutroomref02_SameBytes.f l0 t376).bind fun t381 => (some t381)) else (some false)) else (some false)) = some r := H
      have A24 := Aside0.mk A240
      clear A240
      by_cases c25 : t380 = true
      ·subst c25
       have H1 : (if t379 = 0 then ((cutroomref02_SameBytes.f l0 t376).bind fun t381 => (some t381)) else (some false)) = some r := by rw [if_pos rfl] at H; exact H
       clear H
       have H := H1
       clear H1
       by_cases c26 : t379 = 0
       ·rw [if_pos c26] at H
        have c26b0 : (t379 == 0) = true := beq_iff_eq.mpr c26
        have c26b1 : (t379 != 0) = false := bne_eq_false_iff_eq.mpr c26
        clear c26
        replace H := Option.bind_eq_some_iff.mp H
        obtain ⟨t381, A270, H⟩ := H
        replace H : (some t381) = some r := H
        have A27 := Aside0.mk A270
        clear A270
        obtain rfl := Option.some.inj H
        have hnb28 := NB365_374.out
        have hnc28 := NB374_365.out
        have hcz29_0 : wc.cell? ⟨gb365, 0, none⟩ = some (.int .i64 t357) := (blk_cell BK365.out 0).trans rfl
        have hcz29_1 : wc.cell? ⟨gb365, 1, none⟩ = some (.int .i64 t358) := (blk_cell BK365.out 1).trans rfl
        have hcz29_2 : wc.cell? ⟨gb365, 2, none⟩ = some (.bool t359) := (blk_cell BK365.out 2).trans rfl
        have hcz29_3 : wc.cell? ⟨gb365, 3, none⟩ = some (.int .i64 t360) := (blk_cell BK365.out 3).trans rfl
        have hcz29_4 : wc.cell? ⟨gb365, 4, none⟩ = some (.slice Ao9 t361.length co9) := (blk_cell BK365.out 4).trans rfl
        have hfz29_0 := blk_frozen BK365.out 0
        have hfz29_1 := blk_frozen BK365.out 1
        have hfz29_2 := blk_frozen BK365.out 2
        have hfz29_3 := blk_frozen BK365.out 3
        have hfz29_4 := blk_frozen BK365.out 4
        go_wp2_with (first | ((with_reducible refine gate_callee (f := 11) rfl ?_); refine goesL_ (some 36) rfl rfl Try.func11 (by kernel_rfl) rfl #[.agg #[.int .i64 t357, .int .i64 t358, .bool t359, .int .i64 t360, .slice Ao9 t361.length co9]] rfl (by (try simp only [List.map_toArray, List.map_cons, List.map_nil]); first | done | rfl | (simp only [List.length_drop, List.length_take]; rfl)) ?_; (with_reducible refine (transport_Put.calls kj4 t357 t358 t359 t360 _ _ t361 t376 t379 _ ?side1 ?side2 A23.out).mono ?_); (case side1 => repeat (first | exact (Kd.R_reads' HO_366004.out).2.2 | (with_reducible refine Kd.C_alloc ?_ _) | (with_reducible refine Kd.C_drewN ?_ _) | (with_reducible refine Kd.C_drew ?_))); (case side2 => exact (Kd.R_reads' HO_366004.out).2.1); rintro e w30 ⟨v377, rfl, ho0, hb⟩; refine ⟨_, rfl, ?_⟩; have n0_ := Aside0.mk (Kd.R_elder' (by (with_reducible repeat (first | apply Kd.R_alloc | apply Kd.R_drewN | apply Kd.R_drew)); exact HO_366004.out) (Kd.R_base ho0) hb); have n1_ := Aside0.mk (Kd.R_elder' (by (with_reducible repeat (first | apply Kd.R_alloc | apply Kd.R_drewN | apply Kd.R_drew)); exact HO_375004.out) (Kd.R_base ho0) hb); have n2_ := Aside0.mk (Kd.R_lower (Kd.R_new' (Kd.R_new' ho0 (Kd.R_lt (by (with_reducible repeat (first | apply Kd.R_alloc | apply Kd.R_drewN | apply Kd.R_drew)); exact HO_366004.out))) (Kd.R_lt (by (with_reducible repeat (first | apply Kd.R_alloc | apply Kd.R_drewN | apply Kd.R_drew)); exact HO_375004.out))) (below_size (by repeat (first | (with_reducible first | exact HB.out | apply below_alloc | apply pw_below_drewN | apply below_drew1 | refine below_set ?_ GE365.out | refine below_set ?_ GE374.out) | exact HB.out)))); have n3_ := Aside0.mk (blk_below (g := gb365) (o := .cells #[.int .i64 t357, .int .i64 t358, .bool t359, .int .i64 t360, .slice Ao9 t361.length co9] 28 (0, 0)) (by (with_reducible repeat (first | refine blk_drewN ?_ _ | refine blk_drew ?_ | refine blk_alloc ?_ _)); exact BK365.out) hb); have n4_ := Aside0.mk (blk_below (g := gb374) (o := .cells #[.int .i64 t366, .int .i64 t367, .bool t368, .int .i64 t369, .slice Ao14 t370.length co14] 24 (0, 0)) (by (with_reducible repeat (first | refine blk_drewN ?_ _ | refine blk_drew ?_ | refine blk_alloc ?_ _)); exact BK374.out) hb); have n5_ := Aside0.mk (below_step (by repeat (first | (with_reducible first | exact HB.out | apply below_alloc | apply pw_below_drewN | apply below_drew1 | refine below_set ?_ GE365.out | refine below_set ?_ GE374.out) | exact HB.out)) hb); clear HO_366004; clear HO_375004; clear BK365; clear BK374; clear HB; have HO_366004 := n0_; have HO_375004 := n1_; have HO378 := n2_; have BK365 := n3_; have BK374 := n4_; have HB := n5_; clear n0_ n1_ n2_ n3_ n4_ n5_; (try clear hb); (try clear hb2); (try clear hk); (try clear hi); (try clear ho0)) | ((with_reducible refine gate_callee (f := 15) rfl ?_); refine goesL_ (some 39) rfl rfl Try.func15 (by kernel_rfl) rfl #[] rfl (by (try simp only [List.map_toArray, List.map_cons, List.map_nil]); first | done | rfl | (simp only [List.length_drop, List.length_take]; rfl)) ?_; (with_reducible refine (cutroomlaw17_awake.calls kj4  true _ A24.out).mono ?_); rintro e w31 ⟨rfl, hb⟩; refine ⟨_, rfl, ?_⟩; have n0_ := Aside0.mk (Kd.R_below (by (with_reducible repeat (first | apply Kd.R_alloc | apply Kd.R_drewN | apply Kd.R_drew)); exact HO_366004.out) hb); have n1_ := Aside0.mk (Kd.R_below (by (with_reducible repeat (first | apply Kd.R_alloc | apply Kd.R_drewN | apply Kd.R_drew)); exact HO_375004.out) hb); have n2_ := Aside0.mk (Kd.R_below (by (with_reducible repeat (first | apply Kd.R_alloc | apply Kd.R_drewN | apply Kd.R_drew)); exact HO378.out) hb); have n3_ := Aside0.mk (blk_below (g := gb365) (o := .cells #[.int .i64 t357, .int .i64 t358, .bool t359, .int .i64 t360, .slice Ao9 t361.length co9] 28 (0, 0)) (by (with_reducible repeat (first | refine blk_drewN ?_ _ | refine blk_drew ?_ | refine blk_alloc ?_ _)); exact BK365.out) hb); have n4_ := Aside0.mk (blk_below (g := gb374) (o := .cells #[.int .i64 t366, .int .i64 t367, .bool t368, .int .i64 t369, .slice Ao14 t370.length co14] 24 (0, 0)) (by (with_reducible repeat (first | refine blk_drewN ?_ _ | refine blk_drew ?_ | refine blk_alloc ?_ _)); exact BK374.out) hb); have n5_ := Aside0.mk (below_step (by repeat (first | (with_reducible first | exact HB.out | apply below_alloc | apply pw_below_drewN | apply below_drew1 | refine below_set ?_ GE365.out | refine below_set ?_ GE374.out) | exact HB.out)) hb); clear HO_366004; clear HO_375004; clear HO378; clear BK365; clear BK374; clear HB; have HO_366004 := n0_; have HO_375004 := n1_; have HO378 := n2_; have BK365 := n3_; have BK374 := n4_; have HB := n5_; clear n0_ n1_ n2_ n3_ n4_ n5_; (try clear hb); (try clear hb2); (try clear hk); (try clear hi); obtain ⟨Ao32, co32, eo32⟩ := Kd.R_slice HO378.out; subst eo32) | (go_at_call 14; (with_reducible refine (cutroomref02_SameBytes.calls _ _ l0 _ _ t376 t381 _ ?side1 ?side2 ?side3 ?side4 A27.out).mono ?_); (case side1 => repeat (first | exact (Kd.C_below HR0.out HB.out) | (with_reducible refine Kd.C_alloc ?_ _) | (with_reducible refine Kd.C_drewN ?_ _) | (with_reducible refine Kd.C_drew ?_))); (case side2 => exact HC0.out); (case side3 => repeat (first | exact (Kd.R_reads' HO378.out).2.2 | (with_reducible refine Kd.C_alloc ?_ _) | (with_reducible refine Kd.C_drewN ?_ _) | (with_reducible refine Kd.C_drew ?_))); (case side4 => exact (Kd.R_reads' HO378.out).2.1); rintro e w' ⟨rfl, ⟨nd, rfl⟩⟩))
        go_ret
        exact ⟨by first | rfl | (simp [errW_none, errW_some] <;> rfl) | (simp [*, errW_none, errW_some] <;> rfl), by repeat (first | (with_reducible first | exact HB.out | apply below_alloc | apply pw_below_drewN | apply below_drew1 | refine below_set ?_ GE365.out | refine below_set ?_ GE374.out) | exact HB.out)⟩
       ·rw [if_neg c26] at H
        have c26b0 : (t379 == 0) = false := beq_eq_false_iff_ne.mpr c26
        have c26b1 : (t379 != 0) = true := bne_iff_ne.mpr c26
        obtain rfl := Option.some.inj H
        have hnb33 := NB365_374.out
        have hnc33 := NB374_365.out
        have hcz34_0 : wc.cell? ⟨gb365, 0, none⟩ = some (.int .i64 t357) := (blk_cell BK365.out 0).trans rfl
        have hcz34_1 : wc.cell? ⟨gb365, 1, none⟩ = some (.int .i64 t358) := (blk_cell BK365.out 1).trans rfl
        have hcz34_2 : wc.cell? ⟨gb365, 2, none⟩ = some (.bool t359) := (blk_cell BK365.out 2).trans rfl
        have hcz34_3 : wc.cell? ⟨gb365, 3, none⟩ = some (.int .i64 t360) := (blk_cell BK365.out 3).trans rfl
        have hcz34_4 : wc.cell? ⟨gb365, 4, none⟩ = some (.slice Ao9 t361.length co9) := (blk_cell BK365.out 4).trans rfl
        have hfz34_0 := blk_frozen BK365.out 0
        have hfz34_1 := blk_frozen BK365.out 1
        have hfz34_2 := blk_frozen BK365.out 2
        have hfz34_3 := blk_frozen BK365.out 3
        have hfz34_4 := blk_frozen BK365.out 4
        go_wp2_with (first | ((with_reducible refine gate_callee (f := 11) rfl ?_); refine goesL_ (some 36) rfl rfl Try.func11 (by kernel_rfl) rfl #[.agg #[.int .i64 t357, .int .i64 t358, .bool t359, .int .i64 t360, .slice Ao9 t361.length co9]] rfl (by (try simp only [List.map_toArray, List.map_cons, List.map_nil]); first | done | rfl | (simp only [List.length_drop, List.length_take]; rfl)) ?_; (with_reducible refine (transport_Put.calls kj4 t357 t358 t359 t360 _ _ t361 t376 t379 _ ?side1 ?side2 A23.out).mono ?_); (case side1 => repeat (first | exact (Kd.R_reads' HO_366004.out).2.2 | (with_reducible refine Kd.C_alloc ?_ _) | (with_reducible refine Kd.C_drewN ?_ _) | (with_reducible refine Kd.C_drew ?_))); (case side2 => exact (Kd.R_reads' HO_366004.out).2.1); rintro e w35 ⟨v377, rfl, ho0, hb⟩; refine ⟨_, rfl, ?_⟩; have n0_ := Aside0.mk (Kd.R_elder' (by (with_reducible repeat (first | apply Kd.R_alloc | apply Kd.R_drewN | apply Kd.R_drew)); exact HO_366004.out) (Kd.R_base ho0) hb); have n1_ := Aside0.mk (Kd.R_elder' (by (with_reducible repeat (first | apply Kd.R_alloc | apply Kd.R_drewN | apply Kd.R_drew)); exact HO_375004.out) (Kd.R_base ho0) hb); have n2_ := Aside0.mk (Kd.R_lower (Kd.R_new' (Kd.R_new' ho0 (Kd.R_lt (by (with_reducible repeat (first | apply Kd.R_alloc | apply Kd.R_drewN | apply Kd.R_drew)); exact HO_366004.out))) (Kd.R_lt (by (with_reducible repeat (first | apply Kd.R_alloc | apply Kd.R_drewN | apply Kd.R_drew)); exact HO_375004.out))) (below_size (by repeat (first | (with_reducible first | exact HB.out | apply below_alloc | apply pw_below_drewN | apply below_drew1 | refine below_set ?_ GE365.out | refine below_set ?_ GE374.out) | exact HB.out)))); have n3_ := Aside0.mk (blk_below (g := gb365) (o := .cells #[.int .i64 t357, .int .i64 t358, .bool t359, .int .i64 t360, .slice Ao9 t361.length co9] 28 (0, 0)) (by (with_reducible repeat (first | refine blk_drewN ?_ _ | refine blk_drew ?_ | refine blk_alloc ?_ _)); exact BK365.out) hb); have n4_ := Aside0.mk (blk_below (g := gb374) (o := .cells #[.int .i64 t366, .int .i64 t367, .bool t368, .int .i64 t369, .slice Ao14 t370.length co14] 24 (0, 0)) (by (with_reducible repeat (first | refine blk_drewN ?_ _ | refine blk_drew ?_ | refine blk_alloc ?_ _)); exact BK374.out) hb); have n5_ := Aside0.mk (below_step (by repeat (first | (with_reducible first | exact HB.out | apply below_alloc | apply pw_below_drewN | apply below_drew1 | refine below_set ?_ GE365.out | refine below_set ?_ GE374.out) | exact HB.out)) hb); clear HO_366004; clear HO_375004; clear BK365; clear BK374; clear HB; have HO_366004 := n0_; have HO_375004 := n1_; have HO378 := n2_; have BK365 := n3_; have BK374 := n4_; have HB := n5_; clear n0_ n1_ n2_ n3_ n4_ n5_; (try clear hb); (try clear hb2); (try clear hk); (try clear hi); (try clear ho0)) | ((with_reducible refine gate_callee (f := 15) rfl ?_); refine goesL_ (some 39) rfl rfl Try.func15 (by kernel_rfl) rfl #[] rfl (by (try simp only [List.map_toArray, List.map_cons, List.map_nil]); first | done | rfl | (simp only [List.length_drop, List.length_take]; rfl)) ?_; (with_reducible refine (cutroomlaw17_awake.calls kj4  true _ A24.out).mono ?_); rintro e w36 ⟨rfl, hb⟩; refine ⟨_, rfl, ?_⟩; have n0_ := Aside0.mk (Kd.R_below (by (with_reducible repeat (first | apply Kd.R_alloc | apply Kd.R_drewN | apply Kd.R_drew)); exact HO_366004.out) hb); have n1_ := Aside0.mk (Kd.R_below (by (with_reducible repeat (first | apply Kd.R_alloc | apply Kd.R_drewN | apply Kd.R_drew)); exact HO_375004.out) hb); have n2_ := Aside0.mk (Kd.R_below (by (with_reducible repeat (first | apply Kd.R_alloc | apply Kd.R_drewN | apply Kd.R_drew)); exact HO378.out) hb); have n3_ := Aside0.mk (blk_below (g := gb365) (o := .cells #[.int .i64 t357, .int .i64 t358, .bool t359, .int .i64 t360, .slice Ao9 t361.length co9] 28 (0, 0)) (by (with_reducible repeat (first | refine blk_drewN ?_ _ | refine blk_drew ?_ | refine blk_alloc ?_ _)); exact BK365.out) hb); have n4_ := Aside0.mk (blk_below (g := gb374) (o := .cells #[.int .i64 t366, .int .i64 t367, .bool t368, .int .i64 t369, .slice Ao14 t370.length co14] 24 (0, 0)) (by (with_reducible repeat (first | refine blk_drewN ?_ _ | refine blk_drew ?_ | refine blk_alloc ?_ _)); exact BK374.out) hb); have n5_ := Aside0.mk (below_step (by repeat (first | (with_reducible first | exact HB.out | apply below_alloc | apply pw_below_drewN | apply below_drew1 | refine below_set ?_ GE365.out | refine below_set ?_ GE374.out) | exact HB.out)) hb); clear HO_366004; clear HO_375004; clear HO378; clear BK365; clear BK374; clear HB; have HO_366004 := n0_; have HO_375004 := n1_; have HO378 := n2_; have BK365 := n3_; have BK374 := n4_; have HB := n5_; clear n0_ n1_ n2_ n3_ n4_ n5_; (try clear hb); (try clear hb2); (try clear hk); (try clear hi)))
        go_ret
        exact ⟨by first | rfl | (simp [errW_none, errW_some] <;> rfl) | (simp [*, errW_none, errW_some] <;> rfl), by repeat (first | (with_reducible first | exact HB.out | apply below_alloc | apply pw_below_drewN | apply below_drew1 | refine below_set ?_ GE365.out | refine below_set ?_ GE374.out) | exact HB.out)⟩
      ·replace c25 := Bool.eq_false_iff.mpr c25
       subst c25
       have H1 : (some false) = some r := by rw [if_neg (show ¬ (false = true) by decide)] at H; exact H
       clear H
       have H := H1
       clear H1
       obtain rfl := Option.some.inj H
       have hnb37 := NB365_374.out
       have hnc37 := NB374_365.out
       have hcz38_0 : wc.cell? ⟨gb365, 0, none⟩ = some (.int .i64 t357) := (blk_cell BK365.out 0).trans rfl
       have hcz38_1 : wc.cell? ⟨gb365, 1, none⟩ = some (.int .i64 t358) := (blk_cell BK365.out 1).trans rfl
       have hcz38_2 : wc.cell? ⟨gb365, 2, none⟩ = some (.bool t359) := (blk_cell BK365.out 2).trans rfl
       have hcz38_3 : wc.cell? ⟨gb365, 3, none⟩ = some (.int .i64 t360) := (blk_cell BK365.out 3).trans rfl
       have hcz38_4 : wc.cell? ⟨gb365, 4, none⟩ = some (.slice Ao9 t361.length co9) := (blk_cell BK365.out 4).trans rfl
       have hfz38_0 := blk_frozen BK365.out 0
       have hfz38_1 := blk_frozen BK365.out 1
       have hfz38_2 := blk_frozen BK365.out 2
       have hfz38_3 := blk_frozen BK365.out 3
       have hfz38_4 := blk_frozen BK365.out 4
       go_wp2_with (first | ((with_reducible refine gate_callee (f := 11) rfl ?_); refine goesL_ (some 36) rfl rfl Try.func11 (by kernel_rfl) rfl #[.agg #[.int .i64 t357, .int .i64 t358, .bool t359, .int .i64 t360, .slice Ao9 t361.length co9]] rfl (by (try simp only [List.map_toArray, List.map_cons, List.map_nil]); first | done | rfl | (simp only [List.length_drop, List.length_take]; rfl)) ?_; (with_reducible refine (transport_Put.calls kj4 t357 t358 t359 t360 _ _ t361 t376 t379 _ ?side1 ?side2 A23.out).mono ?_); (case side1 => repeat (first | exact (Kd.R_reads' HO_366004.out).2.2 | (with_reducible refine Kd.C_alloc ?_ _) | (with_reducible refine Kd.C_drewN ?_ _) | (with_reducible refine Kd.C_drew ?_))); (case side2 => exact (Kd.R_reads' HO_366004.out).2.1); rintro e w39 ⟨v377, rfl, ho0, hb⟩; refine ⟨_, rfl, ?_⟩; have n0_ := Aside0.mk (Kd.R_elder' (by (with_reducible repeat (first | apply Kd.R_alloc | apply Kd.R_drewN | apply Kd.R_drew)); exact HO_366004.out) (Kd.R_base ho0) hb); have n1_ := Aside0.mk (Kd.R_elder' (by (with_reducible repeat (first | apply Kd.R_alloc | apply Kd.R_drewN | apply Kd.R_drew)); exact HO_375004.out) (Kd.R_base ho0) hb); have n2_ := Aside0.mk (Kd.R_lower (Kd.R_new' (Kd.R_new' ho0 (Kd.R_lt (by (with_reducible repeat (first | apply Kd.R_alloc | apply Kd.R_drewN | apply Kd.R_drew)); exact HO_366004.out))) (Kd.R_lt (by (with_reducible repeat (first | apply Kd.R_alloc | apply Kd.R_drewN | apply Kd.R_drew)); exact HO_375004.out))) (below_size (by repeat (first | (with_reducible first | exact HB.out | apply below_alloc | apply pw_below_drewN | apply below_drew1 | refine below_set ?_ GE365.out | refine below_set ?_ GE374.out) | exact HB.out)))); have n3_ := Aside0.mk (blk_below (g := gb365) (o := .cells #[.int .i64 t357, .int .i64 t358, .bool t359, .int .i64 t360, .slice Ao9 t361.length co9] 28 (0, 0)) (by (with_reducible repeat (first | refine blk_drewN ?_ _ | refine blk_drew ?_ | refine blk_alloc ?_ _)); exact BK365.out) hb); have n4_ := Aside0.mk (blk_below (g := gb374) (o := .cells #[.int .i64 t366, .int .i64 t367, .bool t368, .int .i64 t369, .slice Ao14 t370.length co14] 24 (0, 0)) (by (with_reducible repeat (first | refine blk_drewN ?_ _ | refine blk_drew ?_ | refine blk_alloc ?_ _)); exact BK374.out) hb); have n5_ := Aside0.mk (below_step (by repeat (first | (with_reducible first | exact HB.out | apply below_alloc | apply pw_below_drewN | apply below_drew1 | refine below_set ?_ GE365.out | refine below_set ?_ GE374.out) | exact HB.out)) hb); clear HO_366004; clear HO_375004; clear BK365; clear BK374; clear HB; have HO_366004 := n0_; have HO_375004 := n1_; have HO378 := n2_; have BK365 := n3_; have BK374 := n4_; have HB := n5_; clear n0_ n1_ n2_ n3_ n4_ n5_; (try clear hb); (try clear hb2); (try clear hk); (try clear hi); (try clear ho0)) | ((with_reducible refine gate_callee (f := 15) rfl ?_); refine goesL_ (some 39) rfl rfl Try.func15 (by kernel_rfl) rfl #[] rfl (by (try simp only [List.map_toArray, List.map_cons, List.map_nil]); first | done | rfl | (simp only [List.length_drop, List.length_take]; rfl)) ?_; (with_reducible refine (cutroomlaw17_awake.calls kj4  false _ A24.out).mono ?_); rintro e w40 ⟨rfl, hb⟩; refine ⟨_, rfl, ?_⟩; have n0_ := Aside0.mk (Kd.R_below (by (with_reducible repeat (first | apply Kd.R_alloc | apply Kd.R_drewN | apply Kd.R_drew)); exact HO_366004.out) hb); have n1_ := Aside0.mk (Kd.R_below (by (with_reducible repeat (first | apply Kd.R_alloc | apply Kd.R_drewN | apply Kd.R_drew)); exact HO_375004.out) hb); have n2_ := Aside0.mk (Kd.R_below (by (with_reducible repeat (first | apply Kd.R_alloc | apply Kd.R_drewN | apply Kd.R_drew)); exact HO378.out) hb); have n3_ := Aside0.mk (blk_below (g := gb365) (o := .cells #[.int .i64 t357, .int .i64 t358, .bool t359, .int .i64 t360, .slice Ao9 t361.length co9] 28 (0, 0)) (by (with_reducible repeat (first | refine blk_drewN ?_ _ | refine blk_drew ?_ | refine blk_alloc ?_ _)); exact BK365.out) hb); have n4_ := Aside0.mk (blk_below (g := gb374) (o := .cells #[.int .i64 t366, .int .i64 t367, .bool t368, .int .i64 t369, .slice Ao14 t370.length co14] 24 (0, 0)) (by (with_reducible repeat (first | refine blk_drewN ?_ _ | refine blk_drew ?_ | refine blk_alloc ?_ _)); exact BK374.out) hb); have n5_ := Aside0.mk (below_step (by repeat (first | (with_reducible first | exact HB.out | apply below_alloc | apply pw_below_drewN | apply below_drew1 | refine below_set ?_ GE365.out | refine below_set ?_ GE374.out) | exact HB.out)) hb); clear HO_366004; clear HO_375004; clear HO378; clear BK365; clear BK374; clear HB; have HO_366004 := n0_; have HO_375004 := n1_; have HO378 := n2_; have BK365 := n3_; have BK374 := n4_; have HB := n5_; clear n0_ n1_ n2_ n3_ n4_ n5_; (try clear hb); (try clear hb2); (try clear hk); (try clear hi)))
       go_ret
       exact ⟨by first | rfl | (simp [errW_none, errW_some] <;> rfl) | (simp [*, errW_none, errW_some] <;> rfl), by repeat (first | (with_reducible first | exact HB.out | apply below_alloc | apply pw_below_drewN | apply below_drew1 | refine below_set ?_ GE365.out | refine below_set ?_ GE374.out) | exact HB.out)⟩
     ·rw [if_neg c22] at H
      have c22b0 : (t364 == 0) = false := beq_eq_false_iff_ne.mpr c22
      have c22b1 : (t364 != 0) = true := bne_iff_ne.mpr c22
      replace H := Option.bind_eq_some_iff.mp H
      obtain ⟨t382, A410, H⟩ := H
      replace H : (some t382) = some r := H
      have A41 := Aside0.mk A410
      clear A410
      obtain rfl := Option.some.inj H
      go_wp2_with (first | ((with_reducible refine gate_callee (f := 15) rfl ?_); refine goesL_ (some 33) rfl rfl Try.func15 (by kernel_rfl) rfl #[] rfl (by (try simp only [List.map_toArray, List.map_cons, List.map_nil]); first | done | rfl | (simp only [List.length_drop, List.length_take]; rfl)) ?_; (with_reducible refine (cutroomlaw17_awake.calls kj4  t382 _ A41.out).mono ?_); rintro e w42 ⟨rfl, hb⟩; refine ⟨_, rfl, ?_⟩; have n0_ := Aside0.mk (Kd.R_below (by (with_reducible repeat (first | apply Kd.R_alloc | apply Kd.R_drewN | apply Kd.R_drew)); exact HO_366004.out) hb); have n1_ := Aside0.mk (Kd.R_below (by (with_reducible repeat (first | apply Kd.R_alloc | apply Kd.R_drewN | apply Kd.R_drew)); exact HO_375004.out) hb); have n2_ := Aside0.mk (blk_below (g := gb365) (o := .cells #[.int .i64 t357, .int .i64 t358, .bool t359, .int .i64 t360, .slice Ao9 t361.length co9] 28 (0, 0)) (by (with_reducible repeat (first | refine blk_drewN ?_ _ | refine blk_drew ?_ | refine blk_alloc ?_ _)); exact BK365.out) hb); have n3_ := Aside0.mk (blk_below (g := gb374) (o := .cells #[.int .i64 t366, .int .i64 t367, .bool t368, .int .i64 t369, .slice Ao14 t370.length co14] 24 (0, 0)) (by (with_reducible repeat (first | refine blk_drewN ?_ _ | refine blk_drew ?_ | refine blk_alloc ?_ _)); exact BK374.out) hb); have n4_ := Aside0.mk (below_step (by repeat (first | (with_reducible first | exact HB.out | apply below_alloc | apply pw_below_drewN | apply below_drew1 | refine below_set ?_ GE365.out | refine below_set ?_ GE374.out) | exact HB.out)) hb); clear HO_366004; clear HO_375004; clear BK365; clear BK374; clear HB; have HO_366004 := n0_; have HO_375004 := n1_; have BK365 := n2_; have BK374 := n3_; have HB := n4_; clear n0_ n1_ n2_ n3_ n4_; (try clear hb); (try clear hb2); (try clear hk); (try clear hi)))
      go_ret
      exact ⟨by first | rfl | (simp [errW_none, errW_some] <;> rfl) | (simp [*, errW_none, errW_some] <;> rfl), by repeat (first | (with_reducible first | exact HB.out | apply below_alloc | apply pw_below_drewN | apply below_drew1 | refine below_set ?_ GE365.out | refine below_set ?_ GE374.out) | exact HB.out)⟩

/-- THE ONE PURE STATEMENT of cutroomlaw17_TransportTakes: yours. -/
def cutroomlaw17_TransportTakes.Pure : Prop := ∀ (l0 : List Int), l0.length ≤ maxLen → l0.length * 1 ≤ 140737488351232 → (∀ x ∈ l0, (Lit.int .u8 x).wf = true) → ∃ k, cutroomlaw17_TransportTakes.f k l0 = some true
theorem cutroomlaw17_TransportTakes.walk (P : cutroomlaw17_TransportTakes.Pure) (a0 : Option Addr) (len0 cap0 : Nat) (z0 : List Int) (w : World) (w0 : (a0 = none ∧ len0 = 0 ∧ cap0 = 0 ∧ z0 = []) ∨ ∃ x, a0 = some x ∧ len0 ≤ cap0 ∧ cap0 ≤ maxLen ∧ z0.length = cap0 ∧ (∀ i, i < z0.length → w.cell? (x.add i) = some (.int .u8 (z0.getD i 0))) ∧ ∀ n ∈ z0, (Lit.int .u8 n).wf = true) (y0 : len0 * 1 ≤ 140737488351232) :
  Calls Try.prog 4 #[.slice a0 len0 cap0] w fun e w' => e = .returned (.bool true) ∧ Below w.heap.size w w' := by
 obtain ⟨l0, rfl, hr0, hm0, hw0, hc0⟩ := ReadsInt.ofRowC w0
 obtain ⟨k, h⟩ := P l0 hm0 y0 hw0
 refine (cutroomlaw17_TransportTakes.calls k _ _ l0 true w (Kd.C_of_reads (d := (0 : Int)) (h1 := fun _ => rfl) hr0) hc0 h).mono ?_
 rintro e w' ⟨rfl, hd⟩
 exact ⟨rfl, hd⟩

end Go.Proofs.Ytdndhbfagoghfaa.P
