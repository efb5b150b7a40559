-- Written by this session's own program (wip/tools/myprint.py), which runs the kit's print with turns of its own: not a text of the kit's print.sh.
import Derived.Test.YtcofjbbflcnaaaaPx0
import Derived.Test.YtcofjbbflcnaaaaPx54
import Derived.Test.YtcofjbbflcnaaaaPx55
namespace Go.Proofs.Ytcofjbbflcnaaaa.P
open Go.RowKit Go.Proofs.YtcofjbbflcnaaaaW.PrintWords Go.Proofs.YtcofjbbflcnaaaaW.PrintLast Go.Proofs.YtcofjbbflcnaaaaW.PrintMore
open List renaming setIfInBounds_toArray → sA, set_cons_zero → sZ, set_cons_succ → sS
open Bool renaming true → T', false → F'
open Go.Proofs.YtcofjbbflcnaaaaW.PrintWords renaming below_alloc → zA, pw_below_drewN → zN, below_drew1 → zD, blk_drewN → yN, blk_drew → yD, blk_alloc → yA, below_size → zS, below_step → zT, blk_below → yB, below_set → zP, cell_far → xF, add_block → xB, gate_callee → xC, gate_dst → xD
attribute [local go_sem] max2_int min2_int max_two min_two max_three min_three max_four min_four   -- for this text's walks alone
set_option linter.unusedVariables false
set_option linter.unusedSimpArgs false

/-! ### cadence_Weave: function 31 -/
mutual
def cadence_Weave.j0 : Nat → Int → Bool → Int → Int → Int → Int → Option ((List (S43)) × Int)
 | 0, _, _, _, _, _, _ => none
 | k + 1, x0, x19, x149000, x149001, x150000, x150001 => if x19 = true then (some (([] : List (S43)), 1)) else (if x0 > 256 then (some (([] : List (S43)), 5)) else ((cadence_first.f k x0 x149000 x149001 x150000 x150001).bind fun t151 => (if (wrap64 (Int.tdiv (wrap64 (t151 + 1)) 2)) > 256 then (some (([] : List (S43)), 5)) else (if 0 ≤ (wrap64 (Int.tdiv (wrap64 (t151 + 1)) 2)) then (if (wrap64 (Int.tdiv (wrap64 (t151 + 1)) 2) : Int).toNat ≤ 17592186044416 then ((some (List.replicate (wrap64 (Int.tdiv (wrap64 (t151 + 1)) 2) : Int).toNat z43 : List (S43))).bind fun y152 => (cadence_Weave.l0 k x0 y152 0 (wrap64 (2 * (y152.length : Int))) 0 x149000 x149001 x150000 x150001)) else (none)) else (none)))))
def cadence_Weave.l0 : Nat → Int → List (S43) → Int → Int → Int → Int → Int → Int → Int → Option ((List (S43)) × Int)
 | 0, _, _, _, _, _, _, _, _, _ => none
 | k + 1, x0, x9, x10, x36, x37, x149000, x149001, x150000, x150001 => if x37 < x36 then (cadence_Weave.l1 k x0 x9 x10 x37 x36 x37 x149000 x149001 x150000 x150001) else (some (x9, 0))
def cadence_Weave.l1 : Nat → Int → List (S43) → Int → Int → Int → Int → Int → Int → Int → Int → Option ((List (S43)) × Int)
 | 0, _, _, _, _, _, _, _, _, _, _ => none
 | k + 1, x0, x9, x10, x11, x36, x37, x149000, x149001, x150000, x150001 => if x10 < (wrap64 (x0 - 1)) then ((cadence_first.f k (wrap64 (x10 + 1)) x149000 x149001 x150000 x150001).bind fun t155 => (if x11 ≥ t155 then (cadence_Weave.l1 k x0 x9 (wrap64 (x10 + 1)) x11 x36 x37 x149000 x149001 x150000 x150001) else (if (Int.tmod x11 2) = 0 then (if 0 ≤ (wrap64 (Int.tdiv x11 2)) then (if (wrap64 (Int.tdiv x11 2)) < (x9.length : Int) then (cadence_Weave.l0 k x0 (x9.set ((wrap64 (Int.tdiv x11 2)) : Int).toNat (⟨x10, (rd_T43 x9 (wrap64 (Int.tdiv x11 2))).f1⟩ : S43)) x10 x36 (wrap64 (x37 + 1)) x149000 x149001 x150000 x150001) else (none)) else (none)) else (if 0 ≤ (wrap64 (Int.tdiv x11 2)) then (if (wrap64 (Int.tdiv x11 2)) < (x9.length : Int) then (cadence_Weave.l0 k x0 (x9.set ((wrap64 (Int.tdiv x11 2)) : Int).toNat (⟨(rd_T43 x9 (wrap64 (Int.tdiv x11 2))).f0, x10⟩ : S43)) x10 x36 (wrap64 (x37 + 1)) x149000 x149001 x150000 x150001) else (none)) else (none))))) else (if (Int.tmod x11 2) = 0 then (if 0 ≤ (wrap64 (Int.tdiv x11 2)) then (if (wrap64 (Int.tdiv x11 2)) < (x9.length : Int) then (cadence_Weave.l0 k x0 (x9.set ((wrap64 (Int.tdiv x11 2)) : Int).toNat (⟨x10, (rd_T43 x9 (wrap64 (Int.tdiv x11 2))).f1⟩ : S43)) x10 x36 (wrap64 (x37 + 1)) x149000 x149001 x150000 x150001) else (none)) else (none)) else (if 0 ≤ (wrap64 (Int.tdiv x11 2)) then (if (wrap64 (Int.tdiv x11 2)) < (x9.length : Int) then (cadence_Weave.l0 k x0 (x9.set ((wrap64 (Int.tdiv x11 2)) : Int).toNat (⟨(rd_T43 x9 (wrap64 (Int.tdiv x11 2))).f0, x10⟩ : S43)) x10 x36 (wrap64 (x37 + 1)) x149000 x149001 x150000 x150001) else (none)) else (none)))
end
def cadence_Weave.f (k : Nat) (a0 : Int) (a1_0 : Int) (a1_1 : Int) (a2_0 : Int) (a2_1 : Int) : Option ((List (S43)) × Int) := (cadence_telecine.f k a1_0 a1_1 a2_0 a2_1).bind fun t150 => (if t150 = true then (cadence_Weave.j0 k a0 (decide (a0 < 0)) a1_0 a1_1 a2_0 a2_1) else (cadence_Weave.j0 k a0 true a1_0 a1_1 a2_0 a2_1))
theorem cadence_Weave.mono_l : ∀ k, (∀ y0 y1 y2 y3 y4 y5, LeO (cadence_Weave.j0 k y0 y1 y2 y3 y4 y5) (cadence_Weave.j0 (k + 1) y0 y1 y2 y3 y4 y5)) ∧ (∀ y0 y1 y2 y3 y4 y5 y6 y7 y8, LeO (cadence_Weave.l0 k y0 y1 y2 y3 y4 y5 y6 y7 y8) (cadence_Weave.l0 (k + 1) y0 y1 y2 y3 y4 y5 y6 y7 y8)) ∧ (∀ y0 y1 y2 y3 y4 y5 y6 y7 y8 y9, LeO (cadence_Weave.l1 k y0 y1 y2 y3 y4 y5 y6 y7 y8 y9) (cadence_Weave.l1 (k + 1) y0 y1 y2 y3 y4 y5 y6 y7 y8 y9))
 | 0 => ⟨fun _ _ _ _ _ _ r h => by simp [cadence_Weave.j0] at h, fun _ _ _ _ _ _ _ _ _ r h => by simp [cadence_Weave.l0] at h, fun _ _ _ _ _ _ _ _ _ _ r h => by simp [cadence_Weave.l1] at h⟩
 | k + 1 => by
  obtain ⟨ih0, ih1, ih2⟩ := cadence_Weave.mono_l k
  refine ⟨?_, ?_, ?_⟩
  ·intro y0 y1 y2 y3 y4 y5
   unfold cadence_Weave.j0
   repeat' first
   | (with_reducible exact ih0 _ _ _ _ _ _)
   | (with_reducible exact ih1 _ _ _ _ _ _ _ _ _)
   | (with_reducible exact ih2 _ _ _ _ _ _ _ _ _ _)
   | (with_reducible exact cadence_first.mono _ _ _ _ _ _)
   | (with_reducible exact cadence_telecine.mono _ _ _ _ _)
   | (with_reducible exact LeO.refl _)
   | (with_reducible exact LeO.none _)
   | (with_reducible refine LeO.ite ?_ ?_)
   | (with_reducible refine LeO.bind ?_ (fun _ => ?_))
   | exact ih0 _ _ _ _ _ _
   | exact ih1 _ _ _ _ _ _ _ _ _
   | exact ih2 _ _ _ _ _ _ _ _ _ _
   | exact cadence_first.mono _ _ _ _ _ _
   | exact cadence_telecine.mono _ _ _ _ _
   | exact LeO.none _
   | refine LeO.ite ?_ ?_
   | refine LeO.bind ?_ (fun _ => ?_)
  ·intro y0 y1 y2 y3 y4 y5 y6 y7 y8
   unfold cadence_Weave.l0
   repeat' first
   | (with_reducible exact ih0 _ _ _ _ _ _)
   | (with_reducible exact ih1 _ _ _ _ _ _ _ _ _)
   | (with_reducible exact ih2 _ _ _ _ _ _ _ _ _ _)
   | (with_reducible exact cadence_first.mono _ _ _ _ _ _)
   | (with_reducible exact cadence_telecine.mono _ _ _ _ _)
   | (with_reducible exact LeO.refl _)
   | (with_reducible exact LeO.none _)
   | (with_reducible refine LeO.ite ?_ ?_)
   | (with_reducible refine LeO.bind ?_ (fun _ => ?_))
   | exact ih0 _ _ _ _ _ _
   | exact ih1 _ _ _ _ _ _ _ _ _
   | exact ih2 _ _ _ _ _ _ _ _ _ _
   | exact cadence_first.mono _ _ _ _ _ _
   | exact cadence_telecine.mono _ _ _ _ _
   | exact LeO.none _
   | refine LeO.ite ?_ ?_
   | refine LeO.bind ?_ (fun _ => ?_)
  ·intro y0 y1 y2 y3 y4 y5 y6 y7 y8 y9
   unfold cadence_Weave.l1
   repeat' first
   | (with_reducible exact ih0 _ _ _ _ _ _)
   | (with_reducible exact ih1 _ _ _ _ _ _ _ _ _)
   | (with_reducible exact ih2 _ _ _ _ _ _ _ _ _ _)
   | (with_reducible exact cadence_first.mono _ _ _ _ _ _)
   | (with_reducible exact cadence_telecine.mono _ _ _ _ _)
   | (with_reducible exact LeO.refl _)
   | (with_reducible exact LeO.none _)
   | (with_reducible refine LeO.ite ?_ ?_)
   | (with_reducible refine LeO.bind ?_ (fun _ => ?_))
   | exact ih0 _ _ _ _ _ _
   | exact ih1 _ _ _ _ _ _ _ _ _
   | exact ih2 _ _ _ _ _ _ _ _ _ _
   | exact cadence_first.mono _ _ _ _ _ _
   | exact cadence_telecine.mono _ _ _ _ _
   | exact LeO.none _
   | refine LeO.ite ?_ ?_
   | refine LeO.bind ?_ (fun _ => ?_)
theorem cadence_Weave.mono : ∀ a0 a1 a2 a3 a4 k, LeO (cadence_Weave.f k a0 a1 a2 a3 a4) (cadence_Weave.f (k + 1) a0 a1 a2 a3 a4) := by
 intro a0 a1 a2 a3 a4 k
 obtain ⟨ih0, ih1, ih2⟩ := cadence_Weave.mono_l k
 unfold cadence_Weave.f
 repeat' first
   | (with_reducible exact ih0 _ _ _ _ _ _)
   | (with_reducible exact ih1 _ _ _ _ _ _ _ _ _)
   | (with_reducible exact ih2 _ _ _ _ _ _ _ _ _ _)
   | (with_reducible exact cadence_first.mono _ _ _ _ _ _)
   | (with_reducible exact cadence_telecine.mono _ _ _ _ _)
   | (with_reducible exact LeO.refl _)
   | (with_reducible exact LeO.none _)
   | (with_reducible refine LeO.ite ?_ ?_)
   | (with_reducible refine LeO.bind ?_ (fun _ => ?_))
   | exact ih0 _ _ _ _ _ _
   | exact ih1 _ _ _ _ _ _ _ _ _
   | exact ih2 _ _ _ _ _ _ _ _ _ _
   | exact cadence_first.mono _ _ _ _ _ _
   | exact cadence_telecine.mono _ _ _ _ _
   | exact LeO.none _
   | refine LeO.ite ?_ ?_
   | refine LeO.bind ?_ (fun _ => ?_)
set_option maxHeartbeats 8000000 in
set_option maxRecDepth 100000 in
theorem cadence_Weave.calls (k : Nat) (a0 : Int) (a1_0 : Int) (a1_1 : Int) (a2_0 : Int) (a2_1 : Int) (r1 : List (S43)) (r2 : Int) (w : World) (h : cadence_Weave.f k a0 a1_0 a1_1 a2_0 a2_1 = some (r1, r2)) :
  Calls Try.prog 31 #[.int .i64 a0, .agg #[.int .i64 a1_0, .int .i64 a1_1], .agg #[.int .i64 a2_0, .int .i64 a2_1]] w fun e w' => ∃ v0_ : Value, e = .returned (.tuple #[v0_, .int .i64 r2]) ∧ Kd.R k43 43 w' w.heap.size (fun _ => True) v0_ r1 ∧ Below w.heap.size w w' := by
 have hu23 := Try.underlying23
 have HB := Aside0.mk (Below.refl w.heap.size w)
 have H : ((cadence_telecine.f k a1_0 a1_1 a2_0 a2_1).bind fun t150 => (if t150 = true then (cadence_Weave.j0 k a0 (decide (a0 < 0)) a1_0 a1_1 a2_0 a2_1) else (cadence_Weave.j0 k a0 true a1_0 a1_1 a2_0 a2_1))) = some (r1, r2) := h
 clear h
 have HC4 := Aside0.mk H
 clear H
 go_enter Try.func31, Try.ntmps31
 go_upto_region 1 with (first | ((with_reducible refine xD (N := 4) rfl ?_); refine box_event ?hg (N := 4) ?hd (cs := #[.int .i64 a1_0, .int .i64 a1_1]) (t := 23) ?hr ?_; (case hd => rfl); (case hg => rfl); (case hr => first | (go_simp; done) | (go_simp; rfl)); intro gb148 hg w5 hbox hb; have n0_ := Aside0.mk (zT (by repeat (first | (with_reducible first | exact HB.out | apply zA | apply zN | apply zD) | exact HB.out)) hb); have n1_ := Aside0.mk (hbox); have n2_ := Aside0.mk ((by rw [hg]; exact (zS (by repeat (first | (with_reducible first | exact HB.out | apply zA | apply zN | apply zD) | exact HB.out))) : w.heap.size ≤ gb148)); have n3_ := n2_; clear HB; have HB := n0_; have BK148 := n1_; have GW148 := n2_; have GE148 := n3_; clear n0_ n1_ n2_ n3_; clear hb hbox hg) | ((with_reducible refine xD (N := 5) rfl ?_); refine box_event ?hg (N := 5) ?hd (cs := #[.int .i64 a2_0, .int .i64 a2_1]) (t := 23) ?hr ?_; (case hd => rfl); (case hg => rfl); (case hr => first | (go_simp; done) | (go_simp; rfl)); intro gb149 hg w6 hbox hb; have n0_ := Aside0.mk (yB (g := gb148) (o := .cells #[.int .i64 a1_0, .int .i64 a1_1] 23 (0, 0)) (by (with_reducible repeat (first | refine yN ?_ _ | refine yD ?_ | refine yA ?_ _)); exact BK148.out) hb); have n1_ := Aside0.mk (zT (by repeat (first | (with_reducible first | exact HB.out | apply zA | apply zN | apply zD | refine zP ?_ GE148.out) | exact HB.out)) hb); have n2_ := Aside0.mk (hbox); have n3_ := Aside0.mk ((by rw [hg]; exact (zS (by repeat (first | (with_reducible first | exact HB.out | apply zA | apply zN | apply zD | refine zP ?_ GE148.out) | exact HB.out))) : w.heap.size ≤ gb149)); have n4_ := n3_; have n5_ := Aside0.mk ((by rw [hg]; exact Nat.ne_of_lt (blk_lt (g := gb148) (o := .cells #[.int .i64 a1_0, .int .i64 a1_1] 23 (0, 0)) (by (with_reducible repeat (first | refine yN ?_ _ | refine yD ?_ | refine yA ?_ _)); exact BK148.out)) : gb148 ≠ gb149)); have n6_ := Aside0.mk ((by rw [hg]; exact Nat.ne_of_gt (blk_lt (g := gb148) (o := .cells #[.int .i64 a1_0, .int .i64 a1_1] 23 (0, 0)) (by (with_reducible repeat (first | refine yN ?_ _ | refine yD ?_ | refine yA ?_ _)); exact BK148.out)) : gb149 ≠ gb148)); clear BK148; clear HB; have BK148 := n0_; have HB := n1_; have BK149 := n2_; have GW149 := n3_; have GE149 := n4_; have NB148_149 := n5_; have NB149_148 := n6_; clear n0_ n1_ n2_ n3_ n4_ n5_ n6_; clear hb hbox hg))
 (try simp only [Act.put, sA, sZ, sS])
 go_cut [19] (fun v19 wc => ∃ (kq : Nat) (x19_3 : Bool), v19 = .bool x19_3 ∧ Aside0 (cadence_Weave.j0 kq a0 x19_3 a1_0 a1_1 a2_0 a2_1 = some (r1, r2)) ∧ Aside0 (kq ≤ k) ∧ Aside0 (wc.heap[gb148]? = some (.cells #[.int .i64 a1_0, .int .i64 a1_1] 23 (0, 0))) ∧ Aside0 (wc.heap[gb149]? = some (.cells #[.int .i64 a2_0, .int .i64 a2_1] 23 (0, 0))) ∧ Aside0 (Below w.heap.size w wc))
 case first =>
  have H := HC4.out
  clear HC4
  replace H := Option.bind_eq_some_iff.mp H
  obtain ⟨t150, A70, H⟩ := H
  replace H : (if t150 = true then (cadence_Weave.j0 k a0 (decide (a0 < 0)) a1_0 a1_1 a2_0 a2_1) else (cadence_Weave.j0 k a0 true a1_0 a1_1 a2_0 a2_1)) = some (r1, r2) := H
  have A7 := Aside0.mk A70
  clear A70
  by_cases c8 : t150 = true
  ·subst c8
   have H1 : (cadence_Weave.j0 k a0 (decide (a0 < 0)) a1_0 a1_1 a2_0 a2_1) = some (r1, r2) := by rw [if_pos rfl] at H; exact H
   clear H
   have H := H1
   clear H1
   have H' := Aside0.mk H
   clear H
   have hnb9 := NB148_149.out
   have hnc9 := NB149_148.out
   have hcz10_0 : w6.cell? ⟨gb148, 0, none⟩ = some (.int .i64 a1_0) := (blk_cell BK148.out 0).trans rfl
   have hcz10_1 : w6.cell? ⟨gb148, 1, none⟩ = some (.int .i64 a1_1) := (blk_cell BK148.out 1).trans rfl
   have hfz10_0 := blk_frozen BK148.out 0
   have hfz10_1 := blk_frozen BK148.out 1
   have hcz11_0 : w6.cell? ⟨gb149, 0, none⟩ = some (.int .i64 a2_0) := (blk_cell BK149.out 0).trans rfl
   have hcz11_1 : w6.cell? ⟨gb149, 1, none⟩ = some (.int .i64 a2_1) := (blk_cell BK149.out 1).trans rfl
   have hfz11_0 := blk_frozen BK149.out 0
   have hfz11_1 := blk_frozen BK149.out 1
   go_wp2_with (first | ((with_reducible refine xC (f := 53) rfl ?_); refine goesL_ (some 14) rfl rfl Try.func53 (by kernel_rfl) rfl #[.agg #[.int .i64 a1_0, .int .i64 a1_1], .agg #[.int .i64 a2_0, .int .i64 a2_1]] rfl (by (try simp only [List.map_toArray, List.map_cons, List.map_nil]); first | done | rfl | (simp only [List.length_drop, List.length_take]; rfl)) ?_; (with_reducible refine (cadence_telecine.calls k a1_0 a1_1 a2_0 a2_1 true _ A7.out).mono ?_); rintro e w12 ⟨rfl, hb⟩; refine ⟨_, rfl, ?_⟩; have n0_ := Aside0.mk (yB (g := gb148) (o := .cells #[.int .i64 a1_0, .int .i64 a1_1] 23 (0, 0)) (by (with_reducible repeat (first | refine yN ?_ _ | refine yD ?_ | refine yA ?_ _)); exact BK148.out) hb); have n1_ := Aside0.mk (yB (g := gb149) (o := .cells #[.int .i64 a2_0, .int .i64 a2_1] 23 (0, 0)) (by (with_reducible repeat (first | refine yN ?_ _ | refine yD ?_ | refine yA ?_ _)); exact BK149.out) hb); have n2_ := Aside0.mk (zT (by repeat (first | (with_reducible first | exact HB.out | apply zA | apply zN | apply zD | refine zP ?_ GE148.out | refine zP ?_ GE149.out) | exact HB.out)) hb); clear BK148; clear BK149; clear HB; have BK148 := n0_; have BK149 := n1_; have HB := n2_; clear n0_ n1_ n2_; (try clear hb); (try clear hb2); (try clear hk); (try clear hi)))
   go_meet
   case rel => exact ⟨_, (decide (a0 < 0)), (by first | rfl | (simp; done) | (simp [*]; done)), H', ⟨by first | omega | exact Nat.le_refl _⟩, ⟨by (with_reducible repeat (first | refine yN ?_ _ | refine yD ?_ | refine yA ?_ _)); exact BK148.out⟩, ⟨by (with_reducible repeat (first | refine yN ?_ _ | refine yD ?_ | refine yA ?_ _)); exact BK149.out⟩, ⟨by repeat (first | (with_reducible first | exact HB.out | apply zA | apply zN | apply zD | refine zP ?_ GE148.out | refine zP ?_ GE149.out) | exact HB.out)⟩⟩
  ·replace c8 := Bool.eq_false_iff.mpr c8
   subst c8
   have H1 : (cadence_Weave.j0 k a0 true a1_0 a1_1 a2_0 a2_1) = some (r1, r2) := by rw [if_neg (show ¬ (false = true) by decide)] at H; exact H
   clear H
   have H := H1
   clear H1
   have H' := Aside0.mk H
   clear H
   have hnb13 := NB148_149.out
   have hnc13 := NB149_148.out
   have hcz14_0 : w6.cell? ⟨gb148, 0, none⟩ = some (.int .i64 a1_0) := (blk_cell BK148.out 0).trans rfl
   have hcz14_1 : w6.cell? ⟨gb148, 1, none⟩ = some (.int .i64 a1_1) := (blk_cell BK148.out 1).trans rfl
   have hfz14_0 := blk_frozen BK148.out 0
   have hfz14_1 := blk_frozen BK148.out 1
   have hcz15_0 : w6.cell? ⟨gb149, 0, none⟩ = some (.int .i64 a2_0) := (blk_cell BK149.out 0).trans rfl
   have hcz15_1 : w6.cell? ⟨gb149, 1, none⟩ = some (.int .i64 a2_1) := (blk_cell BK149.out 1).trans rfl
   have hfz15_0 := blk_frozen BK149.out 0
   have hfz15_1 := blk_frozen BK149.out 1
   go_wp2_with (first | ((with_reducible refine xC (f := 53) rfl ?_); refine goesL_ (some 14) rfl rfl Try.func53 (by kernel_rfl) rfl #[.agg #[.int .i64 a1_0, .int .i64 a1_1], .agg #[.int .i64 a2_0, .int .i64 a2_1]] rfl (by (try simp only [List.map_toArray, List.map_cons, List.map_nil]); first | done | rfl | (simp only [List.length_drop, List.length_take]; rfl)) ?_; (with_reducible refine (cadence_telecine.calls k a1_0 a1_1 a2_0 a2_1 false _ A7.out).mono ?_); rintro e w16 ⟨rfl, hb⟩; refine ⟨_, rfl, ?_⟩; have n0_ := Aside0.mk (yB (g := gb148) (o := .cells #[.int .i64 a1_0, .int .i64 a1_1] 23 (0, 0)) (by (with_reducible repeat (first | refine yN ?_ _ | refine yD ?_ | refine yA ?_ _)); exact BK148.out) hb); have n1_ := Aside0.mk (yB (g := gb149) (o := .cells #[.int .i64 a2_0, .int .i64 a2_1] 23 (0, 0)) (by (with_reducible repeat (first | refine yN ?_ _ | refine yD ?_ | refine yA ?_ _)); exact BK149.out) hb); have n2_ := Aside0.mk (zT (by repeat (first | (with_reducible first | exact HB.out | apply zA | apply zN | apply zD | refine zP ?_ GE148.out | refine zP ?_ GE149.out) | exact HB.out)) hb); clear BK148; clear BK149; clear HB; have BK148 := n0_; have BK149 := n1_; have HB := n2_; clear n0_ n1_ n2_; (try clear hb); (try clear hb2); (try clear hk); (try clear hi)))
   go_meet
   case rel => exact ⟨_, (true), (by first | rfl | (simp; done) | (simp [*]; done)), H', ⟨by first | omega | exact Nat.le_refl _⟩, ⟨by (with_reducible repeat (first | refine yN ?_ _ | refine yD ?_ | refine yA ?_ _)); exact BK148.out⟩, ⟨by (with_reducible repeat (first | refine yN ?_ _ | refine yD ?_ | refine yA ?_ _)); exact BK149.out⟩, ⟨by repeat (first | (with_reducible first | exact HB.out | apply zA | apply zN | apply zD | refine zP ?_ GE148.out | refine zP ?_ GE149.out) | exact HB.out)⟩⟩
 case rest =>
  clear HC4
  (try clear c1);(try clear p2);(try clear c3);(try clear c5);(try clear c8);(try clear c9);(try clear c13);(try clear hcz10_0);(try clear hcz10_1);(try clear hcz11_0);(try clear hcz11_1);(try clear hcz14_0);(try clear hcz14_1);(try clear hcz15_0);(try clear hcz15_1);(try clear hfz10_0);(try clear hfz10_1);(try clear hfz11_0);(try clear hfz11_1);(try clear hfz14_0);(try clear hfz14_1);(try clear hfz15_0);(try clear hfz15_1)
  obtain ⟨kq, x19_3, rfl, HA, HJ3, BK148, BK149, HB⟩ := hcut
  cases kq with
  | zero => exact absurd HA.out (by simp [cadence_Weave.j0])
  | succ kj3 =>
   have H := HA.out
   clear HA
   simp only [cadence_Weave.j0] at H
   by_cases c17 : x19_3 = true
   ·subst c17
    have H1 : (some (([] : List (S43)), 1)) = some (r1, r2) := by rw [if_pos rfl] at H; exact H
    clear H
    have H := H1
    clear H1
    simp only [Option.some.injEq, Prod.mk.injEq] at H
    obtain ⟨rfl, rfl⟩ := H
    go_wp2
    go_ret2
    exact ⟨_, by first | rfl | (simp [errW_none, errW_some] <;> rfl) | (simp [*, errW_none, errW_some] <;> rfl), by first | exact Kd.R_nil _ _ _ _ _ | exact Kd.N_nil _ _ _ _ _ | exact Kd.V_nil _ _ _ _ _ | exact Kd.Q_nil _ _ _ _ _ | exact Kd.S_nil _ _ _ _ _, by repeat (first | (with_reducible first | exact HB.out | apply zA | apply zN | apply zD | refine zP ?_ GE148.out | refine zP ?_ GE149.out) | exact HB.out)⟩
   ·replace c17 := Bool.eq_false_iff.mpr c17
    subst c17
    have H1 : (if a0 > 256 then (some (([] : List (S43)), 5)) else ((cadence_first.f kj3 a0 a1_0 a1_1 a2_0 a2_1).bind fun t151 => (if (wrap64 (Int.tdiv (wrap64 (t151 + 1)) 2)) > 256 then (some (([] : List (S43)), 5)) else (if 0 ≤ (wrap64 (Int.tdiv (wrap64 (t151 + 1)) 2)) then (if (wrap64 (Int.tdiv (wrap64 (t151 + 1)) 2) : Int).toNat ≤ 17592186044416 then ((some (List.replicate (wrap64 (Int.tdiv (wrap64 (t151 + 1)) 2) : Int).toNat z43 : List (S43))).bind fun y152 => (cadence_Weave.l0 kj3 a0 y152 0 (wrap64 (2 * (y152.length : Int))) 0 a1_0 a1_1 a2_0 a2_1)) else (none)) else (none))))) = some (r1, r2) := by rw [if_neg (show ¬ (false = true) by decide)] at H; exact H
    clear H
    have H := H1
    clear H1
    by_cases c18 : a0 > 256
    ·rw [if_pos c18] at H
     have c18b0 : decide (256 < a0) = true := decide_eq_true c18
     clear c18
     simp only [Option.some.injEq, Prod.mk.injEq] at H
     obtain ⟨rfl, rfl⟩ := H
     go_wp2
     go_ret2
     exact ⟨_, by first | rfl | (simp [errW_none, errW_some] <;> rfl) | (simp [*, errW_none, errW_some] <;> rfl), by first | exact Kd.R_nil _ _ _ _ _ | exact Kd.N_nil _ _ _ _ _ | exact Kd.V_nil _ _ _ _ _ | exact Kd.Q_nil _ _ _ _ _ | exact Kd.S_nil _ _ _ _ _, by repeat (first | (with_reducible first | exact HB.out | apply zA | apply zN | apply zD | refine zP ?_ GE148.out | refine zP ?_ GE149.out) | exact HB.out)⟩
    ·rw [if_neg c18] at H
     have c18b0 : decide (256 < a0) = false := decide_eq_false c18
     clear c18
     replace H := Option.bind_eq_some_iff.mp H
     obtain ⟨t151, A190, H⟩ := H
     replace H : (if (wrap64 (Int.tdiv (wrap64 (t151 + 1)) 2)) > 256 then (some (([] : List (S43)), 5)) else (if 0 ≤ (wrap64 (Int.tdiv (wrap64 (t151 + 1)) 2)) then (if (wrap64 (Int.tdiv (wrap64 (t151 + 1)) 2) : Int).toNat ≤ 17592186044416 then ((some (List.replicate (wrap64 (Int.tdiv (wrap64 (t151 + 1)) 2) : Int).toNat z43 : List (S43))).bind fun y152 => (cadence_Weave.l0 kj3 a0 y152 0 (wrap64 (2 * (y152.length : Int))) 0 a1_0 a1_1 a2_0 a2_1)) else (none)) else (none))) = some (r1, r2) := H
     have A19 := Aside0.mk A190
     clear A190
     by_cases c20 : (wrap64 (Int.tdiv (wrap64 (t151 + 1)) 2)) > 256
     ·rw [if_pos c20] at H
      have c20b0 : decide (256 < (wrap64 (Int.tdiv (wrap64 (t151 + 1)) 2))) = true := decide_eq_true c20
      clear c20
      simp only [Option.some.injEq, Prod.mk.injEq] at H
      obtain ⟨rfl, rfl⟩ := H
      have hnb21 := NB148_149.out
      have hnc21 := NB149_148.out
      have hcz22_0 : wc.cell? ⟨gb148, 0, none⟩ = some (.int .i64 a1_0) := (blk_cell BK148.out 0).trans rfl
      have hcz22_1 : wc.cell? ⟨gb148, 1, none⟩ = some (.int .i64 a1_1) := (blk_cell BK148.out 1).trans rfl
      have hfz22_0 := blk_frozen BK148.out 0
      have hfz22_1 := blk_frozen BK148.out 1
      have hcz23_0 : wc.cell? ⟨gb149, 0, none⟩ = some (.int .i64 a2_0) := (blk_cell BK149.out 0).trans rfl
      have hcz23_1 : wc.cell? ⟨gb149, 1, none⟩ = some (.int .i64 a2_1) := (blk_cell BK149.out 1).trans rfl
      have hfz23_0 := blk_frozen BK149.out 0
      have hfz23_1 := blk_frozen BK149.out 1
      go_wp2_with (first | ((with_reducible refine xC (f := 54) rfl ?_); refine goesL_ (some 25) rfl rfl Try.func54 (by kernel_rfl) rfl #[.int .i64 a0, .agg #[.int .i64 a1_0, .int .i64 a1_1], .agg #[.int .i64 a2_0, .int .i64 a2_1]] rfl (by (try simp only [List.map_toArray, List.map_cons, List.map_nil]); first | done | rfl | (simp only [List.length_drop, List.length_take]; rfl)) ?_; (with_reducible refine (cadence_first.calls kj3 a0 a1_0 a1_1 a2_0 a2_1 t151 _ A19.out).mono ?_); rintro e w24 ⟨rfl, hb⟩; refine ⟨_, rfl, ?_⟩; have n0_ := Aside0.mk (yB (g := gb148) (o := .cells #[.int .i64 a1_0, .int .i64 a1_1] 23 (0, 0)) (by (with_reducible repeat (first | refine yN ?_ _ | refine yD ?_ | refine yA ?_ _)); exact BK148.out) hb); have n1_ := Aside0.mk (yB (g := gb149) (o := .cells #[.int .i64 a2_0, .int .i64 a2_1] 23 (0, 0)) (by (with_reducible repeat (first | refine yN ?_ _ | refine yD ?_ | refine yA ?_ _)); exact BK149.out) hb); have n2_ := Aside0.mk (zT (by repeat (first | (with_reducible first | exact HB.out | apply zA | apply zN | apply zD | refine zP ?_ GE148.out | refine zP ?_ GE149.out) | exact HB.out)) hb); clear BK148; clear BK149; clear HB; have BK148 := n0_; have BK149 := n1_; have HB := n2_; clear n0_ n1_ n2_; (try clear hb); (try clear hb2); (try clear hk); (try clear hi)))
      go_ret2
      exact ⟨_, by first | rfl | (simp [errW_none, errW_some] <;> rfl) | (simp [*, errW_none, errW_some] <;> rfl), by first | exact Kd.R_nil _ _ _ _ _ | exact Kd.N_nil _ _ _ _ _ | exact Kd.V_nil _ _ _ _ _ | exact Kd.Q_nil _ _ _ _ _ | exact Kd.S_nil _ _ _ _ _, by repeat (first | (with_reducible first | exact HB.out | apply zA | apply zN | apply zD | refine zP ?_ GE148.out | refine zP ?_ GE149.out) | exact HB.out)⟩
     ·rw [if_neg c20] at H
      have c20b0 : decide (256 < (wrap64 (Int.tdiv (wrap64 (t151 + 1)) 2))) = false := decide_eq_false c20
      clear c20
      obtain ⟨ji25, hji25⟩ : ∃ j_ : Int, (wrap64 (Int.tdiv (wrap64 (t151 + 1)) 2)) = j_ := ⟨_, rfl⟩
      replace H : (if 0 ≤ (ji25) then (if (ji25 : Int).toNat ≤ 17592186044416 then ((some (List.replicate (ji25 : Int).toNat z43 : List (S43))).bind fun y152 => (cadence_Weave.l0 kj3 a0 y152 0 (wrap64 (2 * (y152.length : Int))) 0 a1_0 a1_1 a2_0 a2_1)) else (none)) else (none)) = some (r1, r2) := by first | (rw [hji25] at H; exact H) | (simp only [hji25] at H ⊢; exact H)
      (try rw [hji25] at c20b0)
      (try rw [hji25] at A19)
      have hji25w : (IntKind.i64.wrap (Int.tdiv (wrap64 (t151 + 1)) 2)) = ji25 := (i64_w _).trans hji25
      by_cases c26 : 0 ≤ (ji25)
      ·rw [if_pos c26] at H
       have c26b0 := eq_true c26
       have c26b1 : decide (0 ≤ (ji25)) = true := decide_eq_true c26
       clear c26
       by_cases c27 : (ji25 : Int).toNat ≤ 17592186044416
       ·rw [if_pos c27] at H
        have c27b0 := eq_true c27
        have c27b1 : decide ((ji25 : Int).toNat ≤ 17592186044416) = true := decide_eq_true c27
        clear c27
        obtain ⟨y152, hy152⟩ : ∃ y_ : List (S43), y_ = (List.replicate (ji25 : Int).toNat z43) := ⟨_, rfl⟩
        replace H : (cadence_Weave.l0 kj3 a0 y152 0 (wrap64 (2 * (y152.length : Int))) 0 a1_0 a1_1 a2_0 a2_1) = some (r1, r2) := by first | (rw [hy152]; with_reducible exact H) | (have H2_ := (Option.bind_some _ _).symm.trans H; rw [hy152]; with_reducible exact H2_) | (have H2_ := (Option.bind_some _ _).symm.trans H; with_reducible exact H2_) | with_reducible exact H | (rw [hy152]; exact H) | exact H
        have Ny152 := Aside0.mk hy152
        clear hy152
        have H' := Aside0.mk H
        clear H
        have hnb28 := NB148_149.out
        have hnc28 := NB149_148.out
        have hcz29_0 : wc.cell? ⟨gb148, 0, none⟩ = some (.int .i64 a1_0) := (blk_cell BK148.out 0).trans rfl
        have hcz29_1 : wc.cell? ⟨gb148, 1, none⟩ = some (.int .i64 a1_1) := (blk_cell BK148.out 1).trans rfl
        have hfz29_0 := blk_frozen BK148.out 0
        have hfz29_1 := blk_frozen BK148.out 1
        have hcz30_0 : wc.cell? ⟨gb149, 0, none⟩ = some (.int .i64 a2_0) := (blk_cell BK149.out 0).trans rfl
        have hcz30_1 : wc.cell? ⟨gb149, 1, none⟩ = some (.int .i64 a2_1) := (blk_cell BK149.out 1).trans rfl
        have hfz30_0 := blk_frozen BK149.out 0
        have hfz30_1 := blk_frozen BK149.out 1
        go_wp2_with (first | ((with_reducible refine xC (f := 54) rfl ?_); refine goesL_ (some 25) rfl rfl Try.func54 (by kernel_rfl) rfl #[.int .i64 a0, .agg #[.int .i64 a1_0, .int .i64 a1_1], .agg #[.int .i64 a2_0, .int .i64 a2_1]] rfl (by (try simp only [List.map_toArray, List.map_cons, List.map_nil]); first | done | rfl | (simp only [List.length_drop, List.length_take]; rfl)) ?_; (with_reducible refine (cadence_first.calls kj3 a0 a1_0 a1_1 a2_0 a2_1 t151 _ A19.out).mono ?_); rintro e w31 ⟨rfl, hb⟩; refine ⟨_, rfl, ?_⟩; have n0_ := Aside0.mk (yB (g := gb148) (o := .cells #[.int .i64 a1_0, .int .i64 a1_1] 23 (0, 0)) (by (with_reducible repeat (first | refine yN ?_ _ | refine yD ?_ | refine yA ?_ _)); exact BK148.out) hb); have n1_ := Aside0.mk (yB (g := gb149) (o := .cells #[.int .i64 a2_0, .int .i64 a2_1] 23 (0, 0)) (by (with_reducible repeat (first | refine yN ?_ _ | refine yD ?_ | refine yA ?_ _)); exact BK149.out) hb); have n2_ := Aside0.mk (zT (by repeat (first | (with_reducible first | exact HB.out | apply zA | apply zN | apply zD | refine zP ?_ GE148.out | refine zP ?_ GE149.out) | exact HB.out)) hb); clear BK148; clear BK149; clear HB; have BK148 := n0_; have BK149 := n1_; have HB := n2_; clear n0_ n1_ n2_; (try clear hb); (try clear hb2); (try clear hk); (try clear hi)) | ((with_reducible refine xD (N := 33) rfl ?_); refine Kd.R_make k43 _ 43 rfl (N := 33) rfl 38 _ _ rfl ji25 rfl rfl Try.underlying38 (.agg #[(.int .i64 0), (.int .i64 0)]) 16 info43 rfl (by decide) (by omega) z43 (ok := fun _ => True) (okp := fun _ => True) (k43_mkM _ _ _ z43 ) (fun _ hk => hk) trivial (of_decide_eq_true (by first | (with_reducible assumption) | assumption)) (Nat.le_trans (Nat.mul_le_mul_right _ (of_decide_eq_true (by first | (with_reducible assumption) | assumption) : ji25.toNat ≤ 17592186044416)) (by omega)) (Below.refl _ _) (Nat.le_refl _) ?_; intro v153 w32 ho33 hb hg_ hnew_; clear hg_ hnew_; (first | rw [← Ny152.out] at ho33 | (simp only [Int.reduceToNat] at ho33; rw [← Ny152.out] at ho33)); have n0_ := Aside0.mk (Kd.R_lower ho33 (zS (by repeat (first | (with_reducible first | exact HB.out | apply zA | apply zN | apply zD | refine zP ?_ GE148.out | refine zP ?_ GE149.out) | exact HB.out)))); have n1_ := Aside0.mk (yB (g := gb148) (o := .cells #[.int .i64 a1_0, .int .i64 a1_1] 23 (0, 0)) (by (with_reducible repeat (first | refine yN ?_ _ | refine yD ?_ | refine yA ?_ _)); exact BK148.out) hb); have n2_ := Aside0.mk (yB (g := gb149) (o := .cells #[.int .i64 a2_0, .int .i64 a2_1] 23 (0, 0)) (by (with_reducible repeat (first | refine yN ?_ _ | refine yD ?_ | refine yA ?_ _)); exact BK149.out) hb); have n3_ := Aside0.mk (zT (by repeat (first | (with_reducible first | exact HB.out | apply zA | apply zN | apply zD | refine zP ?_ GE148.out | refine zP ?_ GE149.out) | exact HB.out)) hb); clear BK148; clear BK149; clear HB; have HO154 := n0_; have BK148 := n1_; have BK149 := n2_; have HB := n3_; clear n0_ n1_ n2_ n3_; clear hb ho33; obtain ⟨Ao34, co34, eo34⟩ := Kd.R_slice HO154.out; subst eo34))
        go_loopg [10, 37] kj3 (fun kq v10 v37 w' => ∃ (x9_2 : List (S43)) (x10_2 : Int) (x37_2 : Int), v10 = .int .i64 x10_2 ∧ v37 = .int .i64 x37_2 ∧ Aside0 (cadence_Weave.l0 kq a0 x9_2 x10_2 (wrap64 (2 * (y152.length : Int))) x37_2 a1_0 a1_1 a2_0 a2_1 = some (r1, r2)) ∧ Aside0 (kq ≤ kj3) ∧ Aside0 (Kd.R k43 43 w' w.heap.size (fun _ => True) (.slice Ao34 y152.length co34) x9_2) ∧ Aside0 (w'.heap[gb148]? = some (.cells #[.int .i64 a1_0, .int .i64 a1_1] 23 (0, 0))) ∧ Aside0 (w'.heap[gb149]? = some (.cells #[.int .i64 a2_0, .int .i64 a2_1] 23 (0, 0))) ∧ Aside0 (Below w.heap.size w w'))
        case atStart => exact ⟨(y152), (0), (0), (by first | rfl | (simp; done) | (simp [*]; done)), (by first | rfl | (simp; done) | (simp [*]; done)), H', ⟨Nat.le_refl _⟩, ⟨by (with_reducible repeat (first | apply Kd.R_alloc | apply Kd.R_drewN | apply Kd.R_drew)); exact HO154.out⟩, ⟨by (with_reducible repeat (first | refine yN ?_ _ | refine yD ?_ | refine yA ?_ _)); exact BK148.out⟩, ⟨by (with_reducible repeat (first | refine yN ?_ _ | refine yD ?_ | refine yA ?_ _)); exact BK149.out⟩, ⟨by repeat (first | (with_reducible first | exact HB.out | apply zA | apply zN | apply zD | refine zP ?_ GE148.out | refine zP ?_ GE149.out) | exact HB.out)⟩⟩
        case round =>
         clear H'
         (try clear c1);(try clear c2);(try clear p2);(try clear c3);(try clear c5);(try clear p6);(try clear c8);(try clear c9);(try clear c13);(try clear c17);(try clear c18);(try clear c18b0);(try clear c20);(try clear c20b0);(try clear c21);(try clear c26);(try clear c26b0);(try clear c26b1);(try clear c27);(try clear c27b0);(try clear c27b1);(try clear c28);(try clear c31);(try clear hcz10_0);(try clear hcz10_1);(try clear hcz11_0);(try clear hcz11_1);(try clear hcz14_0);(try clear hcz14_1);(try clear hcz15_0);(try clear hcz15_1);(try clear hcz22_0);(try clear hcz22_1);(try clear hcz23_0);(try clear hcz23_1);(try clear hcz29_0);(try clear hcz29_1);(try clear hcz30_0);(try clear hcz30_1);(try clear hfz10_0);(try clear hfz10_1);(try clear hfz11_0);(try clear hfz11_1);(try clear hfz14_0);(try clear hfz14_1);(try clear hfz15_0);(try clear hfz15_1);(try clear hfz22_0);(try clear hfz22_1)
         (try clear hfz23_0);(try clear hfz23_1);(try clear hfz29_0);(try clear hfz29_1);(try clear hfz30_0);(try clear hfz30_1);(try clear p2)
         obtain ⟨x9_2, x10_2, x37_2, rfl, rfl, HA, HK2, HO_9, BK148, BK149, HB⟩ := hrel
         have hl9_2 := (Kd.R_reads' HO_9.out).1
         rw [hl9_2] at HO_9
         (try simp only [hl9_2])
         (try simp only [hl9_2] at BK148)
         (try simp only [hl9_2] at BK149)
         cases gk with
         | zero => exact absurd HA.out (by simp [cadence_Weave.l0])
         | succ k2 =>
          have H := HA.out
          clear HA
          simp only [cadence_Weave.l0] at H
          by_cases c35 : x37_2 < (wrap64 (2 * (y152.length : Int)))
          ·rw [if_pos c35] at H
           have c35b0 : decide (x37_2 < (wrap64 (2 * (y152.length : Int)))) = true := decide_eq_true c35
           clear c35
           (try simp only [hl9_2] at c35b0)
           have H' := Aside0.mk H
           clear H
           go_wp2
           go_loopg [10] k2 (fun kq v10 w' => ∃ (x10_3 : Int), v10 = .int .i64 x10_3 ∧ Aside0 (cadence_Weave.l1 kq a0 x9_2 x10_3 x37_2 (wrap64 (2 * (y152.length : Int))) x37_2 a1_0 a1_1 a2_0 a2_1 = some (r1, r2)) ∧ Aside0 (kq ≤ k2) ∧ Aside0 (Kd.R k43 43 w' w.heap.size (fun _ => True) (.slice Ao34 x9_2.length co34) x9_2) ∧ Aside0 (w'.heap[gb148]? = some (.cells #[.int .i64 a1_0, .int .i64 a1_1] 23 (0, 0))) ∧ Aside0 (w'.heap[gb149]? = some (.cells #[.int .i64 a2_0, .int .i64 a2_1] 23 (0, 0))) ∧ Aside0 (Below w.heap.size w w'))
           case atStart => exact ⟨(x10_2), (by first | rfl | (simp; done) | (simp [*]; done)), H', ⟨Nat.le_refl _⟩, ⟨by (try simp only [hl9_2]); (with_reducible repeat (first | apply Kd.R_alloc | apply Kd.R_drewN | apply Kd.R_drew)); exact HO_9.out⟩, ⟨by (try simp only [hl9_2]); (with_reducible repeat (first | refine yN ?_ _ | refine yD ?_ | refine yA ?_ _)); exact BK148.out⟩, ⟨by (try simp only [hl9_2]); (with_reducible repeat (first | refine yN ?_ _ | refine yD ?_ | refine yA ?_ _)); exact BK149.out⟩, ⟨by repeat (first | (with_reducible first | exact HB.out | apply zA | apply zN | apply zD | refine zP ?_ GE148.out | refine zP ?_ GE149.out) | exact HB.out)⟩⟩
           case round =>
            clear H'
            (try clear c1);(try clear c2);(try clear p2);(try clear c3);(try clear c5);(try clear p6);(try clear c8);(try clear c9);(try clear c13);(try clear c17);(try clear c18);(try clear c18b0);(try clear c20);(try clear c20b0);(try clear c21);(try clear c26);(try clear c26b0);(try clear c26b1);(try clear c27);(try clear c27b0);(try clear c27b1);(try clear c28);(try clear c31);(try clear c35);(try clear c35b0);(try clear hcz10_0);(try clear hcz10_1);(try clear hcz11_0);(try clear hcz11_1);(try clear hcz14_0);(try clear hcz14_1);(try clear hcz15_0);(try clear hcz15_1);(try clear hcz22_0);(try clear hcz22_1);(try clear hcz23_0);(try clear hcz23_1);(try clear hcz29_0);(try clear hcz29_1);(try clear hcz30_0);(try clear hcz30_1);(try clear hfz10_0);(try clear hfz10_1);(try clear hfz11_0);(try clear hfz11_1);(try clear hfz14_0);(try clear hfz14_1);(try clear hfz15_0);(try clear hfz15_1)
            (try clear hfz22_0);(try clear hfz22_1);(try clear hfz23_0);(try clear hfz23_1);(try clear hfz29_0);(try clear hfz29_1);(try clear hfz30_0);(try clear hfz30_1);(try clear p2);(try clear p6)
            obtain ⟨x10_3, rfl, HA, HK3, HO_9, BK148, BK149, HB⟩ := hrel
            cases gk with
            | zero => exact absurd HA.out (by simp [cadence_Weave.l1])
            | succ k3 =>
             have H := HA.out
             clear HA
             simp only [cadence_Weave.l1] at H
             by_cases c36 : x10_3 < (wrap64 (a0 - 1))
             ·rw [if_pos c36] at H
              have c36b0 : decide (x10_3 < (wrap64 (a0 - 1))) = true := decide_eq_true c36
              clear c36
              replace H := Option.bind_eq_some_iff.mp H
              obtain ⟨t155, A370, H⟩ := H
              replace H : (if x37_2 ≥ t155 then (cadence_Weave.l1 k3 a0 x9_2 (wrap64 (x10_3 + 1)) x37_2 (wrap64 (2 * (y152.length : Int))) x37_2 a1_0 a1_1 a2_0 a2_1) else (if (Int.tmod x37_2 2) = 0 then (if 0 ≤ (wrap64 (Int.tdiv x37_2 2)) then (if (wrap64 (Int.tdiv x37_2 2)) < (x9_2.length : Int) then (cadence_Weave.l0 k3 a0 (x9_2.set ((wrap64 (Int.tdiv x37_2 2)) : Int).toNat (⟨x10_3, (rd_T43 x9_2 (wrap64 (Int.tdiv x37_2 2))).f1⟩ : S43)) x10_3 (wrap64 (2 * (y152.length : Int))) (wrap64 (x37_2 + 1)) a1_0 a1_1 a2_0 a2_1) else (none)) else (none)) else (if 0 ≤ (wrap64 (Int.tdiv x37_2 2)) then (if (wrap64 (Int.tdiv x37_2 2)) < (x9_2.length : Int) then (cadence_Weave.l0 k3 a0 (x9_2.set ((wrap64 (Int.tdiv x37_2 2)) : Int).toNat (⟨(rd_T43 x9_2 (wrap64 (Int.tdiv x37_2 2))).f0, x10_3⟩ : S43)) x10_3 (wrap64 (2 * (y152.length : Int))) (wrap64 (x37_2 + 1)) a1_0 a1_1 a2_0 a2_1) else (none)) else (none)))) = some (r1, r2) := H
              have A37 := Aside0.mk A370
              clear A370
              by_cases c38 : x37_2 ≥ t155
              ·rw [if_pos c38] at H
               have c38b0 : decide (t155 ≤ x37_2) = true := decide_eq_true c38
               clear c38
               have H' := Aside0.mk H
               clear H
               have hnb39 := NB148_149.out
               have hnc39 := NB149_148.out
               have hcz40_0 : wr.cell? ⟨gb148, 0, none⟩ = some (.int .i64 a1_0) := (blk_cell BK148.out 0).trans rfl
               have hcz40_1 : wr.cell? ⟨gb148, 1, none⟩ = some (.int .i64 a1_1) := (blk_cell BK148.out 1).trans rfl
               have hfz40_0 := blk_frozen BK148.out 0
               have hfz40_1 := blk_frozen BK148.out 1
               have hcz41_0 : wr.cell? ⟨gb149, 0, none⟩ = some (.int .i64 a2_0) := (blk_cell BK149.out 0).trans rfl
               have hcz41_1 : wr.cell? ⟨gb149, 1, none⟩ = some (.int .i64 a2_1) := (blk_cell BK149.out 1).trans rfl
               have hfz41_0 := blk_frozen BK149.out 0
               have hfz41_1 := blk_frozen BK149.out 1
               go_wp2_with (first | (go_at_call 54; (with_reducible refine (cadence_first.calls k3 (wrap64 (x10_3 + 1)) a1_0 a1_1 a2_0 a2_1 t155 _ A37.out).mono ?_); rintro e w42 ⟨rfl, hb⟩; have n0_ := Aside0.mk (Kd.R_below (by (with_reducible repeat (first | apply Kd.R_alloc | apply Kd.R_drewN | apply Kd.R_drew)); exact HO_9.out) hb); have n1_ := Aside0.mk (yB (g := gb148) (o := .cells #[.int .i64 a1_0, .int .i64 a1_1] 23 (0, 0)) (by (with_reducible repeat (first | refine yN ?_ _ | refine yD ?_ | refine yA ?_ _)); exact BK148.out) hb); have n2_ := Aside0.mk (yB (g := gb149) (o := .cells #[.int .i64 a2_0, .int .i64 a2_1] 23 (0, 0)) (by (with_reducible repeat (first | refine yN ?_ _ | refine yD ?_ | refine yA ?_ _)); exact BK149.out) hb); have n3_ := Aside0.mk (zT (by repeat (first | (with_reducible first | exact HB.out | apply zA | apply zN | apply zD | refine zP ?_ GE148.out | refine zP ?_ GE149.out) | exact HB.out)) hb); clear HO_9; clear BK148; clear BK149; clear HB; have HO_9 := n0_; have BK148 := n1_; have BK149 := n2_; have HB := n3_; clear n0_ n1_ n2_ n3_; (try clear hb); (try clear hb2); (try clear hk); (try clear hi)))
               go_roundg k3
               case measure => have := HJ3.out; have := HK2.out; have := HK3.out; omega
               case rel => exact ⟨(wrap64 (x10_3 + 1)), (by first | rfl | (simp; done) | (simp [*]; done)), H', ⟨by have := HJ3.out; have := HK2.out; have := HK3.out; omega⟩, ⟨by (try simp only [hl9_2]); (with_reducible repeat (first | apply Kd.R_alloc | apply Kd.R_drewN | apply Kd.R_drew)); exact HO_9.out⟩, ⟨by (try simp only [hl9_2]); (with_reducible repeat (first | refine yN ?_ _ | refine yD ?_ | refine yA ?_ _)); exact BK148.out⟩, ⟨by (try simp only [hl9_2]); (with_reducible repeat (first | refine yN ?_ _ | refine yD ?_ | refine yA ?_ _)); exact BK149.out⟩, ⟨by repeat (first | (with_reducible first | exact HB.out | apply zA | apply zN | apply zD | refine zP ?_ GE148.out | refine zP ?_ GE149.out) | exact HB.out)⟩⟩
              ·rw [if_neg c38] at H
               have c38b0 : decide (t155 ≤ x37_2) = false := decide_eq_false c38
               clear c38
               by_cases c43 : (Int.tmod x37_2 2) = 0
               ·rw [if_pos c43] at H
                have c43b0 : ((Int.tmod x37_2 2) == 0) = true := beq_iff_eq.mpr c43
                have c43b1 : ((Int.tmod x37_2 2) != 0) = false := bne_eq_false_iff_eq.mpr c43
                clear c43
                obtain ⟨ji44, hji44⟩ : ∃ j_ : Int, (wrap64 (Int.tdiv x37_2 2)) = j_ := ⟨_, rfl⟩
                replace H : (if 0 ≤ (ji44) then (if (ji44) < (x9_2.length : Int) then (cadence_Weave.l0 k3 a0 (x9_2.set ((ji44) : Int).toNat (⟨x10_3, (rd_T43 x9_2 (ji44)).f1⟩ : S43)) x10_3 (wrap64 (2 * (y152.length : Int))) (wrap64 (x37_2 + 1)) a1_0 a1_1 a2_0 a2_1) else (none)) else (none)) = some (r1, r2) := by first | (rw [hji44] at H; exact H) | (simp only [hji44] at H ⊢; exact H)
                (try rw [hji44] at A37)
                have hji44w : (IntKind.i64.wrap (Int.tdiv x37_2 2)) = ji44 := (i64_w _).trans hji44
                by_cases c45 : 0 ≤ (ji44)
                ·rw [if_pos c45] at H
                 have c45b0 : decide (0 ≤ (ji44)) = true := decide_eq_true c45
                 clear c45
                 by_cases c46 : (ji44) < (x9_2.length : Int)
                 ·rw [if_pos c46] at H
                  have c46b0 : decide ((ji44) < (x9_2.length : Int)) = true := decide_eq_true c46
                  clear c46
                  obtain ⟨y156, hy156⟩ : ∃ y_ : List (S43), y_ = (x9_2.set ((ji44) : Int).toNat (⟨x10_3, (rd_T43 x9_2 (ji44)).f1⟩ : S43)) := ⟨_, rfl⟩
                  replace H : (cadence_Weave.l0 k3 a0 y156 x10_3 (wrap64 (2 * (y152.length : Int))) (wrap64 (x37_2 + 1)) a1_0 a1_1 a2_0 a2_1) = some (r1, r2) := by first | (rw [hy156]; with_reducible exact H) | (have H2_ := (Option.bind_some _ _).symm.trans H; rw [hy156]; with_reducible exact H2_) | (have H2_ := (Option.bind_some _ _).symm.trans H; with_reducible exact H2_) | with_reducible exact H | (rw [hy156]; exact H) | exact H
                  have Ny156 := Aside0.mk hy156
                  clear hy156
                  have H' := Aside0.mk H
                  clear H
                  have hnb48 := NB148_149.out
                  have hnc48 := NB149_148.out
                  have hcz49_0 : wr.cell? ⟨gb148, 0, none⟩ = some (.int .i64 a1_0) := (blk_cell BK148.out 0).trans rfl
                  have hcz49_1 : wr.cell? ⟨gb148, 1, none⟩ = some (.int .i64 a1_1) := (blk_cell BK148.out 1).trans rfl
                  have hfz49_0 := blk_frozen BK148.out 0
                  have hfz49_1 := blk_frozen BK148.out 1
                  have hcz50_0 : wr.cell? ⟨gb149, 0, none⟩ = some (.int .i64 a2_0) := (blk_cell BK149.out 0).trans rfl
                  have hcz50_1 : wr.cell? ⟨gb149, 1, none⟩ = some (.int .i64 a2_1) := (blk_cell BK149.out 1).trans rfl
                  have hfz50_0 := blk_frozen BK149.out 0
                  have hfz50_1 := blk_frozen BK149.out 1
                  go_wp2_with (first | (go_at_call 54; (with_reducible refine (cadence_first.calls k3 (wrap64 (x10_3 + 1)) a1_0 a1_1 a2_0 a2_1 t155 _ A37.out).mono ?_); rintro e w51 ⟨rfl, hb⟩; have n0_ := Aside0.mk (Kd.R_below (by (with_reducible repeat (first | apply Kd.R_alloc | apply Kd.R_drewN | apply Kd.R_drew)); exact HO_9.out) hb); have n1_ := Aside0.mk (yB (g := gb148) (o := .cells #[.int .i64 a1_0, .int .i64 a1_1] 23 (0, 0)) (by (with_reducible repeat (first | refine yN ?_ _ | refine yD ?_ | refine yA ?_ _)); exact BK148.out) hb); have n2_ := Aside0.mk (yB (g := gb149) (o := .cells #[.int .i64 a2_0, .int .i64 a2_1] 23 (0, 0)) (by (with_reducible repeat (first | refine yN ?_ _ | refine yD ?_ | refine yA ?_ _)); exact BK149.out) hb); have n3_ := Aside0.mk (zT (by repeat (first | (with_reducible first | exact HB.out | apply zA | apply zN | apply zD | refine zP ?_ GE148.out | refine zP ?_ GE149.out) | exact HB.out)) hb); clear HO_9; clear BK148; clear BK149; clear HB; have HO_9 := n0_; have BK148 := n1_; have BK149 := n2_; have HB := n3_; clear n0_ n1_ n2_ n3_; (try clear hb); (try clear hb2); (try clear hk); (try clear hi); have p47 : 0 ≤ ((ji44) : Int) := of_decide_eq_true (by first | (with_reducible assumption) | assumption); have q47 : ((ji44) : Int) < ((x9_2.length : Int) : Int) := of_decide_eq_true (by first | (with_reducible assumption) | assumption); obtain ⟨go47, co47, eo47, gb47, gl47, cl47, HG47⟩ := Kd.R_form HO_9.out (by omega); (first | cases eo47 | (injection eo47 with ea_ en_ ec_; (first | subst ea_ | (injection ea_ with ea_; subst ea_)); subst ec_; clear en_)); have GB47 := Aside0.mk gb47; have GG47 := Aside0.mk HG47; clear gb47 gl47 HG47; obtain ⟨ce47, hcl47, hM47, hcc47, hfr47⟩ := Kd.R_elem HO_9.out z43 ((ji44) : Int) p47 q47; obtain rfl := k43_openM hM47; have hx47_0 : w51.cell? ⟨go47, ((ji44) : Int).toNat * 2, none⟩ = some (.int .i64 ((rd_T43 x9_2 (ji44)).f0)) := hcc47 0 _ rfl; have hx47_1 : w51.cell? ⟨go47, ((ji44) : Int).toNat * 2 + 1, none⟩ = some (.int .i64 ((rd_T43 x9_2 (ji44)).f1)) := hcc47 1 _ rfl; have hf47_0 : w51.frozen? ⟨go47, ((ji44) : Int).toNat * 2, none⟩ = false := hfr47 0; have hf47_1 : w51.frozen? ⟨go47, ((ji44) : Int).toNat * 2 + 1, none⟩ = false := hfr47 1; clear hcl47 hcc47 hfr47 hM47; replace p47 := eq_true p47; replace q47 := eq_true q47; have HX52 := Aside0.mk (show Kd.R k43 43 w51 w.heap.size (fun _ => True) (.slice (some ⟨go47, 0, none⟩) x9_2.length co34) x9_2 from (by (with_reducible repeat (first | apply Kd.R_alloc | apply Kd.R_drewN | apply Kd.R_drew)); exact HO_9.out)); obtain ⟨ce52, hcl52, hM52, hcc52, hfr52⟩ := Kd.R_elem HX52.out z43 ((ji44) : Int) (of_decide_eq_true (by first | (with_reducible assumption) | assumption)) (by have h_ : ((ji44) : Int) < ((x9_2.length : Int) : Int) := of_decide_eq_true (by first | (with_reducible assumption) | assumption); first | exact h_ | (have e_ := (Kd.R_reads' HO_9.out).1; omega) | simpa using h_); obtain rfl := k43_openM hM52; have HP52 := Kd.R_seg HX52.out ((ji44) : Int) (of_decide_eq_true (by first | (with_reducible assumption) | assumption)) (by have h_ : ((ji44) : Int) < ((x9_2.length : Int) : Int) := of_decide_eq_true (by first | (with_reducible assumption) | assumption); first | exact h_ | (have e_ := (Kd.R_reads' HO_9.out).1; omega) | simpa using h_) (seg := [.int .i64 x10_3]) (j := 0) hcl52 hcc52 (show 1 ≤ 2 from by decide) (x' := (⟨x10_3, (rd_T43 x9_2 (ji44)).f1⟩ : S43)) (k43_mkM _ _ _ (⟨x10_3, (rd_T43 x9_2 (ji44)).f1⟩ : S43) ) (fun _ hk => hk); have hx52_0 := hcc52 0 _ rfl; (try simp only [show (k43).sz = 2 from rfl, Nat.mul_one, Nat.add_zero] at hx52_0); have hf52_0 := hfr52 0; (try simp only [show (k43).sz = 2 from rfl, Nat.mul_one, Nat.add_zero] at hf52_0); clear hcl52 hcc52 hfr52 hM52) | ((with_reducible refine gate_store (t := 3) (p := 63) rfl ?_); refine store_event (t := 3) (p := 63) (v := ?vo_w53) (w1 := (w51.setCell ⟨go47, ((ji44) : Int).toNat * 2, none⟩ (.int .i64 x10_3))) ?hg ?ho ?hn ?hr ?_; (case ho => rfl); (case hg => rfl); (case hn => rfl); (case hr => first | (go_simp; done) | (go_simp; rfl)); intro w53 hw; have hg : w51.grownBy w53 (some go47) := (by rw [hw]; exact HP52.2); have hp_ : Kd.R k43 43 w53 w.heap.size (fun _ => True) (.slice (some ⟨go47, 0, none⟩) x9_2.length co34) y156 := (by rw [hw, Ny156.out]; exact HP52.1); clear HP52; have n0_ := Aside0.mk (hp_); have n1_ := Aside0.mk (blk_grown (g := gb148) (o := .cells #[.int .i64 a1_0, .int .i64 a1_1] 23 (0, 0)) (by (with_reducible repeat (first | refine yN ?_ _ | refine yD ?_ | refine yA ?_ _)); exact BK148.out) hg (Kd.R_ne HO_9.out BK148.out (by decide))); have n2_ := Aside0.mk (blk_grown (g := gb149) (o := .cells #[.int .i64 a2_0, .int .i64 a2_1] 23 (0, 0)) (by (with_reducible repeat (first | refine yN ?_ _ | refine yD ?_ | refine yA ?_ _)); exact BK149.out) hg (Kd.R_ne HO_9.out BK149.out (by decide))); have n3_ := Aside0.mk ((by rw [hw]; exact zP (HB.out) GB47.out : Below w.heap.size w w53)); clear HO_9; clear BK148; clear BK149; clear HB; have HO_9 := n0_; have BK148 := n1_; have BK149 := n2_; have HB := n3_; clear n0_ n1_ n2_ n3_; clear hg hw hp_))
                  (try simp only [← hl9_2])
                  go_roundg k3
                  case measure => have := HJ3.out; have := HK2.out; have := HK3.out; omega
                  case rel => exact ⟨(y156), (x10_3), (wrap64 (x37_2 + 1)), (by first | rfl | (simp; done) | (simp [*]; done)), (by first | rfl | (simp; done) | (simp [*]; done)), H', ⟨by have := HJ3.out; have := HK2.out; have := HK3.out; omega⟩, ⟨by (try simp only [hl9_2]); (with_reducible repeat (first | apply Kd.R_alloc | apply Kd.R_drewN | apply Kd.R_drew)); exact HO_9.out⟩, ⟨by (try simp only [hl9_2]); (with_reducible repeat (first | refine yN ?_ _ | refine yD ?_ | refine yA ?_ _)); exact BK148.out⟩, ⟨by (try simp only [hl9_2]); (with_reducible repeat (first | refine yN ?_ _ | refine yD ?_ | refine yA ?_ _)); exact BK149.out⟩, ⟨by repeat (first | (with_reducible first | exact HB.out | apply zA | apply zN | apply zD | refine zP ?_ GE148.out | refine zP ?_ GE149.out) | exact HB.out)⟩⟩
                 ·rw [if_neg c46] at H
                  exact absurd H (by simp)
                ·rw [if_neg c45] at H
                 exact absurd H (by simp)
               ·rw [if_neg c43] at H
                have c43b0 : ((Int.tmod x37_2 2) == 0) = false := beq_eq_false_iff_ne.mpr c43
                have c43b1 : ((Int.tmod x37_2 2) != 0) = true := bne_iff_ne.mpr c43
                obtain ⟨ji54, hji54⟩ : ∃ j_ : Int, (wrap64 (Int.tdiv x37_2 2)) = j_ := ⟨_, rfl⟩
                replace H : (if 0 ≤ (ji54) then (if (ji54) < (x9_2.length : Int) then (cadence_Weave.l0 k3 a0 (x9_2.set ((ji54) : Int).toNat (⟨(rd_T43 x9_2 (ji54)).f0, x10_3⟩ : S43)) x10_3 (wrap64 (2 * (y152.length : Int))) (wrap64 (x37_2 + 1)) a1_0 a1_1 a2_0 a2_1) else (none)) else (none)) = some (r1, r2) := by first | (rw [hji54] at H; exact H) | (simp only [hji54] at H ⊢; exact H)
                (try rw [hji54] at A37)
                have hji54w : (IntKind.i64.wrap (Int.tdiv x37_2 2)) = ji54 := (i64_w _).trans hji54
                by_cases c55 : 0 ≤ (ji54)
                ·rw [if_pos c55] at H
                 have c55b0 : decide (0 ≤ (ji54)) = true := decide_eq_true c55
                 clear c55
                 by_cases c56 : (ji54) < (x9_2.length : Int)
                 ·rw [if_pos c56] at H
                  have c56b0 : decide ((ji54) < (x9_2.length : Int)) = true := decide_eq_true c56
                  clear c56
                  obtain ⟨y157, hy157⟩ : ∃ y_ : List (S43), y_ = (x9_2.set ((ji54) : Int).toNat (⟨(rd_T43 x9_2 (ji54)).f0, x10_3⟩ : S43)) := ⟨_, rfl⟩
                  replace H : (cadence_Weave.l0 k3 a0 y157 x10_3 (wrap64 (2 * (y152.length : Int))) (wrap64 (x37_2 + 1)) a1_0 a1_1 a2_0 a2_1) = some (r1, r2) := by first | (rw [hy157]; with_reducible exact H) | (have H2_ := (Option.bind_some _ _).symm.trans H; rw [hy157]; with_reducible exact H2_) | (have H2_ := (Option.bind_some _ _).symm.trans H; with_reducible exact H2_) | with_reducible exact H | (rw [hy157]; exact H) | exact H
                  have Ny157 := Aside0.mk hy157
                  clear hy157
                  have H' := Aside0.mk H
                  clear H
                  have hnb58 := NB148_149.out
                  have hnc58 := NB149_148.out
                  have hcz59_0 : wr.cell? ⟨gb148, 0, none⟩ = some (.int .i64 a1_0) := (blk_cell BK148.out 0).trans rfl
                  have hcz59_1 : wr.cell? ⟨gb148, 1, none⟩ = some (.int .i64 a1_1) := (blk_cell BK148.out 1).trans rfl
                  have hfz59_0 := blk_frozen BK148.out 0
                  have hfz59_1 := blk_frozen BK148.out 1
                  have hcz60_0 : wr.cell? ⟨gb149, 0, none⟩ = some (.int .i64 a2_0) := (blk_cell BK149.out 0).trans rfl
                  have hcz60_1 : wr.cell? ⟨gb149, 1, none⟩ = some (.int .i64 a2_1) := (blk_cell BK149.out 1).trans rfl
                  have hfz60_0 := blk_frozen BK149.out 0
                  have hfz60_1 := blk_frozen BK149.out 1
                  go_wp2_with (first | (go_at_call 54; (with_reducible refine (cadence_first.calls k3 (wrap64 (x10_3 + 1)) a1_0 a1_1 a2_0 a2_1 t155 _ A37.out).mono ?_); rintro e w61 ⟨rfl, hb⟩; have n0_ := Aside0.mk (Kd.R_below (by (with_reducible repeat (first | apply Kd.R_alloc | apply Kd.R_drewN | apply Kd.R_drew)); exact HO_9.out) hb); have n1_ := Aside0.mk (yB (g := gb148) (o := .cells #[.int .i64 a1_0, .int .i64 a1_1] 23 (0, 0)) (by (with_reducible repeat (first | refine yN ?_ _ | refine yD ?_ | refine yA ?_ _)); exact BK148.out) hb); have n2_ := Aside0.mk (yB (g := gb149) (o := .cells #[.int .i64 a2_0, .int .i64 a2_1] 23 (0, 0)) (by (with_reducible repeat (first | refine yN ?_ _ | refine yD ?_ | refine yA ?_ _)); exact BK149.out) hb); have n3_ := Aside0.mk (zT (by repeat (first | (with_reducible first | exact HB.out | apply zA | apply zN | apply zD | refine zP ?_ GE148.out | refine zP ?_ GE149.out) | exact HB.out)) hb); clear HO_9; clear BK148; clear BK149; clear HB; have HO_9 := n0_; have BK148 := n1_; have BK149 := n2_; have HB := n3_; clear n0_ n1_ n2_ n3_; (try clear hb); (try clear hb2); (try clear hk); (try clear hi); have p57 : 0 ≤ ((ji54) : Int) := of_decide_eq_true (by first | (with_reducible assumption) | assumption); have q57 : ((ji54) : Int) < ((x9_2.length : Int) : Int) := of_decide_eq_true (by first | (with_reducible assumption) | assumption); obtain ⟨go57, co57, eo57, gb57, gl57, cl57, HG57⟩ := Kd.R_form HO_9.out (by omega); (first | cases eo57 | (injection eo57 with ea_ en_ ec_; (first | subst ea_ | (injection ea_ with ea_; subst ea_)); subst ec_; clear en_)); have GB57 := Aside0.mk gb57; have GG57 := Aside0.mk HG57; clear gb57 gl57 HG57; obtain ⟨ce57, hcl57, hM57, hcc57, hfr57⟩ := Kd.R_elem HO_9.out z43 ((ji54) : Int) p57 q57; obtain rfl := k43_openM hM57; have hx57_0 : w61.cell? ⟨go57, ((ji54) : Int).toNat * 2, none⟩ = some (.int .i64 ((rd_T43 x9_2 (ji54)).f0)) := hcc57 0 _ rfl; have hx57_1 : w61.cell? ⟨go57, ((ji54) : Int).toNat * 2 + 1, none⟩ = some (.int .i64 ((rd_T43 x9_2 (ji54)).f1)) := hcc57 1 _ rfl; have hf57_0 : w61.frozen? ⟨go57, ((ji54) : Int).toNat * 2, none⟩ = false := hfr57 0; have hf57_1 : w61.frozen? ⟨go57, ((ji54) : Int).toNat * 2 + 1, none⟩ = false := hfr57 1; clear hcl57 hcc57 hfr57 hM57; replace p57 := eq_true p57; replace q57 := eq_true q57; have HX62 := Aside0.mk (show Kd.R k43 43 w61 w.heap.size (fun _ => True) (.slice (some ⟨go57, 0, none⟩) x9_2.length co34) x9_2 from (by (with_reducible repeat (first | apply Kd.R_alloc | apply Kd.R_drewN | apply Kd.R_drew)); exact HO_9.out)); obtain ⟨ce62, hcl62, hM62, hcc62, hfr62⟩ := Kd.R_elem HX62.out z43 ((ji54) : Int) (of_decide_eq_true (by first | (with_reducible assumption) | assumption)) (by have h_ : ((ji54) : Int) < ((x9_2.length : Int) : Int) := of_decide_eq_true (by first | (with_reducible assumption) | assumption); first | exact h_ | (have e_ := (Kd.R_reads' HO_9.out).1; omega) | simpa using h_); obtain rfl := k43_openM hM62; have HP62 := Kd.R_seg HX62.out ((ji54) : Int) (of_decide_eq_true (by first | (with_reducible assumption) | assumption)) (by have h_ : ((ji54) : Int) < ((x9_2.length : Int) : Int) := of_decide_eq_true (by first | (with_reducible assumption) | assumption); first | exact h_ | (have e_ := (Kd.R_reads' HO_9.out).1; omega) | simpa using h_) (seg := [.int .i64 x10_3]) (j := 1) hcl62 hcc62 (show 2 ≤ 2 from by decide) (x' := (⟨(rd_T43 x9_2 (ji54)).f0, x10_3⟩ : S43)) (k43_mkM _ _ _ (⟨(rd_T43 x9_2 (ji54)).f0, x10_3⟩ : S43) ) (fun _ hk => hk); have hx62_1 := hcc62 1 _ rfl; (try simp only [show (k43).sz = 2 from rfl, Nat.mul_one, Nat.add_zero] at hx62_1); have hf62_1 := hfr62 1; (try simp only [show (k43).sz = 2 from rfl, Nat.mul_one, Nat.add_zero] at hf62_1); clear hcl62 hcc62 hfr62 hM62) | ((with_reducible refine gate_store (t := 3) (p := 69) rfl ?_); refine store_event (t := 3) (p := 69) (v := ?vo_w63) (w1 := (w61.setCell ⟨go57, ((ji54) : Int).toNat * 2 + 1, none⟩ (.int .i64 x10_3))) ?hg ?ho ?hn ?hr ?_; (case ho => rfl); (case hg => rfl); (case hn => rfl); (case hr => first | (go_simp; done) | (go_simp; rfl)); intro w63 hw; have hg : w61.grownBy w63 (some go57) := (by rw [hw]; exact HP62.2); have hp_ : Kd.R k43 43 w63 w.heap.size (fun _ => True) (.slice (some ⟨go57, 0, none⟩) x9_2.length co34) y157 := (by rw [hw, Ny157.out]; exact HP62.1); clear HP62; have n0_ := Aside0.mk (hp_); have n1_ := Aside0.mk (blk_grown (g := gb148) (o := .cells #[.int .i64 a1_0, .int .i64 a1_1] 23 (0, 0)) (by (with_reducible repeat (first | refine yN ?_ _ | refine yD ?_ | refine yA ?_ _)); exact BK148.out) hg (Kd.R_ne HO_9.out BK148.out (by decide))); have n2_ := Aside0.mk (blk_grown (g := gb149) (o := .cells #[.int .i64 a2_0, .int .i64 a2_1] 23 (0, 0)) (by (with_reducible repeat (first | refine yN ?_ _ | refine yD ?_ | refine yA ?_ _)); exact BK149.out) hg (Kd.R_ne HO_9.out BK149.out (by decide))); have n3_ := Aside0.mk ((by rw [hw]; exact zP (HB.out) GB57.out : Below w.heap.size w w63)); clear HO_9; clear BK148; clear BK149; clear HB; have HO_9 := n0_; have BK148 := n1_; have BK149 := n2_; have HB := n3_; clear n0_ n1_ n2_ n3_; clear hg hw hp_))
                  (try simp only [← hl9_2])
                  go_roundg k3
                  case measure => have := HJ3.out; have := HK2.out; have := HK3.out; omega
                  case rel => exact ⟨(y157), (x10_3), (wrap64 (x37_2 + 1)), (by first | rfl | (simp; done) | (simp [*]; done)), (by first | rfl | (simp; done) | (simp [*]; done)), H', ⟨by have := HJ3.out; have := HK2.out; have := HK3.out; omega⟩, ⟨by (try simp only [hl9_2]); (with_reducible repeat (first | apply Kd.R_alloc | apply Kd.R_drewN | apply Kd.R_drew)); exact HO_9.out⟩, ⟨by (try simp only [hl9_2]); (with_reducible repeat (first | refine yN ?_ _ | refine yD ?_ | refine yA ?_ _)); exact BK148.out⟩, ⟨by (try simp only [hl9_2]); (with_reducible repeat (first | refine yN ?_ _ | refine yD ?_ | refine yA ?_ _)); exact BK149.out⟩, ⟨by repeat (first | (with_reducible first | exact HB.out | apply zA | apply zN | apply zD | refine zP ?_ GE148.out | refine zP ?_ GE149.out) | exact HB.out)⟩⟩
                 ·rw [if_neg c56] at H
                  exact absurd H (by simp)
                ·rw [if_neg c55] at H
                 exact absurd H (by simp)
             ·rw [if_neg c36] at H
              have c36b0 : decide (x10_3 < (wrap64 (a0 - 1))) = false := decide_eq_false c36
              clear c36
              by_cases c64 : (Int.tmod x37_2 2) = 0
              ·rw [if_pos c64] at H
               have c64b0 : ((Int.tmod x37_2 2) == 0) = true := beq_iff_eq.mpr c64
               have c64b1 : ((Int.tmod x37_2 2) != 0) = false := bne_eq_false_iff_eq.mpr c64
               clear c64
               obtain ⟨ji65, hji65⟩ : ∃ j_ : Int, (wrap64 (Int.tdiv x37_2 2)) = j_ := ⟨_, rfl⟩
               replace H : (if 0 ≤ (ji65) then (if (ji65) < (x9_2.length : Int) then (cadence_Weave.l0 k3 a0 (x9_2.set ((ji65) : Int).toNat (⟨x10_3, (rd_T43 x9_2 (ji65)).f1⟩ : S43)) x10_3 (wrap64 (2 * (y152.length : Int))) (wrap64 (x37_2 + 1)) a1_0 a1_1 a2_0 a2_1) else (none)) else (none)) = some (r1, r2) := by first | (rw [hji65] at H; exact H) | (simp only [hji65] at H ⊢; exact H)
               have hji65w : (IntKind.i64.wrap (Int.tdiv x37_2 2)) = ji65 := (i64_w _).trans hji65
               by_cases c66 : 0 ≤ (ji65)
               ·rw [if_pos c66] at H
                have c66b0 : decide (0 ≤ (ji65)) = true := decide_eq_true c66
                clear c66
                by_cases c67 : (ji65) < (x9_2.length : Int)
                ·rw [if_pos c67] at H
                 have c67b0 : decide ((ji65) < (x9_2.length : Int)) = true := decide_eq_true c67
                 clear c67
                 obtain ⟨y158, hy158⟩ : ∃ y_ : List (S43), y_ = (x9_2.set ((ji65) : Int).toNat (⟨x10_3, (rd_T43 x9_2 (ji65)).f1⟩ : S43)) := ⟨_, rfl⟩
                 replace H : (cadence_Weave.l0 k3 a0 y158 x10_3 (wrap64 (2 * (y152.length : Int))) (wrap64 (x37_2 + 1)) a1_0 a1_1 a2_0 a2_1) = some (r1, r2) := by first | (rw [hy158]; with_reducible exact H) | (have H2_ := (Option.bind_some _ _).symm.trans H; rw [hy158]; with_reducible exact H2_) | (have H2_ := (Option.bind_some _ _).symm.trans H; with_reducible exact H2_) | with_reducible exact H | (rw [hy158]; exact H) | exact H
                 have Ny158 := Aside0.mk hy158
                 clear hy158
                 have H' := Aside0.mk H
                 clear H
                 have p68 : 0 ≤ ((ji65) : Int) := of_decide_eq_true (by first | (with_reducible assumption) | assumption)
                 have q68 : ((ji65) : Int) < ((x9_2.length : Int) : Int) := of_decide_eq_true (by first | (with_reducible assumption) | assumption)
                 obtain ⟨go68, co68, eo68, gb68, gl68, cl68, HG68⟩ := Kd.R_form HO_9.out (by omega)
                 (first | cases eo68 | (injection eo68 with ea_ en_ ec_; (first | subst ea_ | (injection ea_ with ea_; subst ea_)); subst ec_; clear en_))
                 have GB68 := Aside0.mk gb68
                 have GG68 := Aside0.mk HG68
                 clear gb68 gl68 HG68
                 obtain ⟨ce68, hcl68, hM68, hcc68, hfr68⟩ := Kd.R_elem HO_9.out z43 ((ji65) : Int) p68 q68
                 obtain rfl := k43_openM hM68
                 have hx68_0 : wr.cell? ⟨go68, ((ji65) : Int).toNat * 2, none⟩ = some (.int .i64 ((rd_T43 x9_2 (ji65)).f0)) := hcc68 0 _ rfl
                 have hx68_1 : wr.cell? ⟨go68, ((ji65) : Int).toNat * 2 + 1, none⟩ = some (.int .i64 ((rd_T43 x9_2 (ji65)).f1)) := hcc68 1 _ rfl
                 have hf68_0 : wr.frozen? ⟨go68, ((ji65) : Int).toNat * 2, none⟩ = false := hfr68 0
                 have hf68_1 : wr.frozen? ⟨go68, ((ji65) : Int).toNat * 2 + 1, none⟩ = false := hfr68 1
                 clear hcl68 hcc68 hfr68 hM68
                 replace p68 := eq_true p68
                 replace q68 := eq_true q68
                 have HX69 := Aside0.mk (show Kd.R k43 43 wr w.heap.size (fun _ => True) (.slice (some ⟨go68, 0, none⟩) x9_2.length co34) x9_2 from (by (with_reducible repeat (first | apply Kd.R_alloc | apply Kd.R_drewN | apply Kd.R_drew)); exact HO_9.out))
                 obtain ⟨ce69, hcl69, hM69, hcc69, hfr69⟩ := Kd.R_elem HX69.out z43 ((ji65) : Int) (of_decide_eq_true (by first | (with_reducible assumption) | assumption)) (by have h_ : ((ji65) : Int) < ((x9_2.length : Int) : Int) := of_decide_eq_true (by first | (with_reducible assumption) | assumption); first | exact h_ | (have e_ := (Kd.R_reads' HO_9.out).1; omega) | simpa using h_)
                 obtain rfl := k43_openM hM69
                 have HP69 := Kd.R_seg HX69.out ((ji65) : Int) (of_decide_eq_true (by first | (with_reducible assumption) | assumption)) (by have h_ : ((ji65) : Int) < ((x9_2.length : Int) : Int) := of_decide_eq_true (by first | (with_reducible assumption) | assumption); first | exact h_ | (have e_ := (Kd.R_reads' HO_9.out).1; omega) | simpa using h_) (seg := [.int .i64 x10_3]) (j := 0) hcl69 hcc69 (show 1 ≤ 2 from by decide) (x' := (⟨x10_3, (rd_T43 x9_2 (ji65)).f1⟩ : S43)) (k43_mkM _ _ _ (⟨x10_3, (rd_T43 x9_2 (ji65)).f1⟩ : S43) ) (fun _ hk => hk)
                 have hx69_0 := hcc69 0 _ rfl
                 (try simp only [show (k43).sz = 2 from rfl, Nat.mul_one, Nat.add_zero] at hx69_0)
                 have hf69_0 := hfr69 0
                 (try simp only [show (k43).sz = 2 from rfl, Nat.mul_one, Nat.add_zero] at hf69_0)
                 clear hcl69 hcc69 hfr69 hM69
                 go_wp2_with (first | ((with_reducible refine gate_store (t := 3) (p := 63) rfl ?_); refine store_event (t := 3) (p := 63) (v := ?vo_w70) (w1 := (wr.setCell ⟨go68, ((ji65) : Int).toNat * 2, none⟩ (.int .i64 x10_3))) ?hg ?ho ?hn ?hr ?_; (case ho => rfl); (case hg => rfl); (case hn => rfl); (case hr => first | (go_simp; done) | (go_simp; rfl)); intro w70 hw; have hg : wr.grownBy w70 (some go68) := (by rw [hw]; exact HP69.2); have hp_ : Kd.R k43 43 w70 w.heap.size (fun _ => True) (.slice (some ⟨go68, 0, none⟩) x9_2.length co34) y158 := (by rw [hw, Ny158.out]; exact HP69.1); clear HP69; have n0_ := Aside0.mk (hp_); have n1_ := Aside0.mk (blk_grown (g := gb148) (o := .cells #[.int .i64 a1_0, .int .i64 a1_1] 23 (0, 0)) (by (with_reducible repeat (first | refine yN ?_ _ | refine yD ?_ | refine yA ?_ _)); exact BK148.out) hg (Kd.R_ne HO_9.out BK148.out (by decide))); have n2_ := Aside0.mk (blk_grown (g := gb149) (o := .cells #[.int .i64 a2_0, .int .i64 a2_1] 23 (0, 0)) (by (with_reducible repeat (first | refine yN ?_ _ | refine yD ?_ | refine yA ?_ _)); exact BK149.out) hg (Kd.R_ne HO_9.out BK149.out (by decide))); have n3_ := Aside0.mk ((by rw [hw]; exact zP (HB.out) GB68.out : Below w.heap.size w w70)); clear HO_9; clear BK148; clear BK149; clear HB; have HO_9 := n0_; have BK148 := n1_; have BK149 := n2_; have HB := n3_; clear n0_ n1_ n2_ n3_; clear hg hw hp_))
                 (try simp only [← hl9_2])
                 go_roundg k3
                 case measure => have := HJ3.out; have := HK2.out; have := HK3.out; omega
                 case rel => exact ⟨(y158), (x10_3), (wrap64 (x37_2 + 1)), (by first | rfl | (simp; done) | (simp [*]; done)), (by first | rfl | (simp; done) | (simp [*]; done)), H', ⟨by have := HJ3.out; have := HK2.out; have := HK3.out; omega⟩, ⟨by (try simp only [hl9_2]); (with_reducible repeat (first | apply Kd.R_alloc | apply Kd.R_drewN | apply Kd.R_drew)); exact HO_9.out⟩, ⟨by (try simp only [hl9_2]); (with_reducible repeat (first | refine yN ?_ _ | refine yD ?_ | refine yA ?_ _)); exact BK148.out⟩, ⟨by (try simp only [hl9_2]); (with_reducible repeat (first | refine yN ?_ _ | refine yD ?_ | refine yA ?_ _)); exact BK149.out⟩, ⟨by repeat (first | (with_reducible first | exact HB.out | apply zA | apply zN | apply zD | refine zP ?_ GE148.out | refine zP ?_ GE149.out) | exact HB.out)⟩⟩
                ·rw [if_neg c67] at H
                 exact absurd H (by simp)
               ·rw [if_neg c66] at H
                exact absurd H (by simp)
              ·rw [if_neg c64] at H
               have c64b0 : ((Int.tmod x37_2 2) == 0) = false := beq_eq_false_iff_ne.mpr c64
               have c64b1 : ((Int.tmod x37_2 2) != 0) = true := bne_iff_ne.mpr c64
               obtain ⟨ji71, hji71⟩ : ∃ j_ : Int, (wrap64 (Int.tdiv x37_2 2)) = j_ := ⟨_, rfl⟩
               replace H : (if 0 ≤ (ji71) then (if (ji71) < (x9_2.length : Int) then (cadence_Weave.l0 k3 a0 (x9_2.set ((ji71) : Int).toNat (⟨(rd_T43 x9_2 (ji71)).f0, x10_3⟩ : S43)) x10_3 (wrap64 (2 * (y152.length : Int))) (wrap64 (x37_2 + 1)) a1_0 a1_1 a2_0 a2_1) else (none)) else (none)) = some (r1, r2) := by first | (rw [hji71] at H; exact H) | (simp only [hji71] at H ⊢; exact H)
               have hji71w : (IntKind.i64.wrap (Int.tdiv x37_2 2)) = ji71 := (i64_w _).trans hji71
               by_cases c72 : 0 ≤ (ji71)
               ·rw [if_pos c72] at H
                have c72b0 : decide (0 ≤ (ji71)) = true := decide_eq_true c72
                clear c72
                by_cases c73 : (ji71) < (x9_2.length : Int)
                ·rw [if_pos c73] at H
                 have c73b0 : decide ((ji71) < (x9_2.length : Int)) = true := decide_eq_true c73
                 clear c73
                 obtain ⟨y159, hy159⟩ : ∃ y_ : List (S43), y_ = (x9_2.set ((ji71) : Int).toNat (⟨(rd_T43 x9_2 (ji71)).f0, x10_3⟩ : S43)) := ⟨_, rfl⟩
                 replace H : (cadence_Weave.l0 k3 a0 y159 x10_3 (wrap64 (2 * (y152.length : Int))) (wrap64 (x37_2 + 1)) a1_0 a1_1 a2_0 a2_1) = some (r1, r2) := by first | (rw [hy159]; with_reducible exact H) | (have H2_ := (Option.bind_some _ _).symm.trans H; rw [hy159]; with_reducible exact H2_) | (have H2_ := (Option.bind_some _ _).symm.trans H; with_reducible exact H2_) | with_reducible exact H | (rw [hy159]; exact H) | exact H
                 have Ny159 := Aside0.mk hy159
                 clear hy159
                 have H' := Aside0.mk H
                 clear H
                 have p74 : 0 ≤ ((ji71) : Int) := of_decide_eq_true (by first | (with_reducible assumption) | assumption)
                 have q74 : ((ji71) : Int) < ((x9_2.length : Int) : Int) := of_decide_eq_true (by first | (with_reducible assumption) | assumption)
                 obtain ⟨go74, co74, eo74, gb74, gl74, cl74, HG74⟩ := Kd.R_form HO_9.out (by omega)
                 (first | cases eo74 | (injection eo74 with ea_ en_ ec_; (first | subst ea_ | (injection ea_ with ea_; subst ea_)); subst ec_; clear en_))
                 have GB74 := Aside0.mk gb74
                 have GG74 := Aside0.mk HG74
                 clear gb74 gl74 HG74
                 obtain ⟨ce74, hcl74, hM74, hcc74, hfr74⟩ := Kd.R_elem HO_9.out z43 ((ji71) : Int) p74 q74
                 obtain rfl := k43_openM hM74
                 have hx74_0 : wr.cell? ⟨go74, ((ji71) : Int).toNat * 2, none⟩ = some (.int .i64 ((rd_T43 x9_2 (ji71)).f0)) := hcc74 0 _ rfl
                 have hx74_1 : wr.cell? ⟨go74, ((ji71) : Int).toNat * 2 + 1, none⟩ = some (.int .i64 ((rd_T43 x9_2 (ji71)).f1)) := hcc74 1 _ rfl
                 have hf74_0 : wr.frozen? ⟨go74, ((ji71) : Int).toNat * 2, none⟩ = false := hfr74 0
                 have hf74_1 : wr.frozen? ⟨go74, ((ji71) : Int).toNat * 2 + 1, none⟩ = false := hfr74 1
                 clear hcl74 hcc74 hfr74 hM74
                 replace p74 := eq_true p74
                 replace q74 := eq_true q74
                 have HX75 := Aside0.mk (show Kd.R k43 43 wr w.heap.size (fun _ => True) (.slice (some ⟨go74, 0, none⟩) x9_2.length co34) x9_2 from (by (with_reducible repeat (first | apply Kd.R_alloc | apply Kd.R_drewN | apply Kd.R_drew)); exact HO_9.out))
                 obtain ⟨ce75, hcl75, hM75, hcc75, hfr75⟩ := Kd.R_elem HX75.out z43 ((ji71) : Int) (of_decide_eq_true (by first | (with_reducible assumption) | assumption)) (by have h_ : ((ji71) : Int) < ((x9_2.length : Int) : Int) := of_decide_eq_true (by first | (with_reducible assumption) | assumption); first | exact h_ | (have e_ := (Kd.R_reads' HO_9.out).1; omega) | simpa using h_)
                 obtain rfl := k43_openM hM75
                 have HP75 := Kd.R_seg HX75.out ((ji71) : Int) (of_decide_eq_true (by first | (with_reducible assumption) | assumption)) (by have h_ : ((ji71) : Int) < ((x9_2.length : Int) : Int) := of_decide_eq_true (by first | (with_reducible assumption) | assumption); first | exact h_ | (have e_ := (Kd.R_reads' HO_9.out).1; omega) | simpa using h_) (seg := [.int .i64 x10_3]) (j := 1) hcl75 hcc75 (show 2 ≤ 2 from by decide) (x' := (⟨(rd_T43 x9_2 (ji71)).f0, x10_3⟩ : S43)) (k43_mkM _ _ _ (⟨(rd_T43 x9_2 (ji71)).f0, x10_3⟩ : S43) ) (fun _ hk => hk)
                 have hx75_1 := hcc75 1 _ rfl
                 (try simp only [show (k43).sz = 2 from rfl, Nat.mul_one, Nat.add_zero] at hx75_1)
                 have hf75_1 := hfr75 1
                 (try simp only [show (k43).sz = 2 from rfl, Nat.mul_one, Nat.add_zero] at hf75_1)
                 clear hcl75 hcc75 hfr75 hM75
                 go_wp2_with (first | ((with_reducible refine gate_store (t := 3) (p := 69) rfl ?_); refine store_event (t := 3) (p := 69) (v := ?vo_w76) (w1 := (wr.setCell ⟨go74, ((ji71) : Int).toNat * 2 + 1, none⟩ (.int .i64 x10_3))) ?hg ?ho ?hn ?hr ?_; (case ho => rfl); (case hg => rfl); (case hn => rfl); (case hr => first | (go_simp; done) | (go_simp; rfl)); intro w76 hw; have hg : wr.grownBy w76 (some go74) := (by rw [hw]; exact HP75.2); have hp_ : Kd.R k43 43 w76 w.heap.size (fun _ => True) (.slice (some ⟨go74, 0, none⟩) x9_2.length co34) y159 := (by rw [hw, Ny159.out]; exact HP75.1); clear HP75; have n0_ := Aside0.mk (hp_); have n1_ := Aside0.mk (blk_grown (g := gb148) (o := .cells #[.int .i64 a1_0, .int .i64 a1_1] 23 (0, 0)) (by (with_reducible repeat (first | refine yN ?_ _ | refine yD ?_ | refine yA ?_ _)); exact BK148.out) hg (Kd.R_ne HO_9.out BK148.out (by decide))); have n2_ := Aside0.mk (blk_grown (g := gb149) (o := .cells #[.int .i64 a2_0, .int .i64 a2_1] 23 (0, 0)) (by (with_reducible repeat (first | refine yN ?_ _ | refine yD ?_ | refine yA ?_ _)); exact BK149.out) hg (Kd.R_ne HO_9.out BK149.out (by decide))); have n3_ := Aside0.mk ((by rw [hw]; exact zP (HB.out) GB74.out : Below w.heap.size w w76)); clear HO_9; clear BK148; clear BK149; clear HB; have HO_9 := n0_; have BK148 := n1_; have BK149 := n2_; have HB := n3_; clear n0_ n1_ n2_ n3_; clear hg hw hp_))
                 (try simp only [← hl9_2])
                 go_roundg k3
                 case measure => have := HJ3.out; have := HK2.out; have := HK3.out; omega
                 case rel => exact ⟨(y159), (x10_3), (wrap64 (x37_2 + 1)), (by first | rfl | (simp; done) | (simp [*]; done)), (by first | rfl | (simp; done) | (simp [*]; done)), H', ⟨by have := HJ3.out; have := HK2.out; have := HK3.out; omega⟩, ⟨by (try simp only [hl9_2]); (with_reducible repeat (first | apply Kd.R_alloc | apply Kd.R_drewN | apply Kd.R_drew)); exact HO_9.out⟩, ⟨by (try simp only [hl9_2]); (with_reducible repeat (first | refine yN ?_ _ | refine yD ?_ | refine yA ?_ _)); exact BK148.out⟩, ⟨by (try simp only [hl9_2]); (with_reducible repeat (first | refine yN ?_ _ | refine yD ?_ | refine yA ?_ _)); exact BK149.out⟩, ⟨by repeat (first | (with_reducible first | exact HB.out | apply zA | apply zN | apply zD | refine zP ?_ GE148.out | refine zP ?_ GE149.out) | exact HB.out)⟩⟩
                ·rw [if_neg c73] at H
                 exact absurd H (by simp)
               ·rw [if_neg c72] at H
                exact absurd H (by simp)
          ·rw [if_neg c35] at H
           have c35b0 : decide (x37_2 < (wrap64 (2 * (y152.length : Int)))) = false := decide_eq_false c35
           clear c35
           (try simp only [hl9_2] at c35b0)
           simp only [Option.some.injEq, Prod.mk.injEq] at H
           obtain ⟨rfl, rfl⟩ := H
           go_wp2
           go_ret2
           exact ⟨_, by first | rfl | (simp [errW_none, errW_some] <;> rfl) | (simp only [← hji25]; first | rfl | (simp [errW_none, errW_some] <;> rfl)) | (simp [*, errW_none, errW_some] <;> rfl), by (with_reducible repeat (first | apply Kd.R_alloc | apply Kd.R_drewN | apply Kd.R_drew)); exact HO_9.out, by repeat (first | (with_reducible first | exact HB.out | apply zA | apply zN | apply zD | refine zP ?_ GE148.out | refine zP ?_ GE149.out) | exact HB.out)⟩
       ·rw [if_neg c27] at H
        exact absurd H (by simp)
      ·rw [if_neg c26] at H
       exact absurd H (by simp)

end Go.Proofs.Ytcofjbbflcnaaaa.P
