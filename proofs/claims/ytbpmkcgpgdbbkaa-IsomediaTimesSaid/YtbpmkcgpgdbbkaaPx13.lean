-- Written by this session's own program (wip/tools/myprint.py), which runs the kit's print with turns of its own: not a text of the kit's print.sh.
import Derived.Test.YtbpmkcgpgdbbkaaPx0
import Derived.Test.YtbpmkcgpgdbbkaaPx29
import Derived.Deep.LoopGhost
import Derived.Deep.Draws
namespace Go.Proofs.Ytbpmkcgpgdbbkaa.P
open Go.RowKit Go.Proofs.YtbpmkcgpgdbbkaaW.PrintWords Go.Proofs.YtbpmkcgpgdbbkaaW.PrintLast Go.Proofs.YtbpmkcgpgdbbkaaW.PrintMore
attribute [local go_sem] max2_int min2_int max_two min_two max_three min_three max_four min_four   -- for this text's walks alone
set_option linter.unusedVariables false
set_option linter.unusedSimpArgs false

/-! ### cutroomlaw18_awake: function 12 (by hand) -/
-- IMPORT Derived.Deep.LoopGhost
-- IMPORT Derived.Deep.Draws
def cutroomlaw18_awake.f (k : Nat) : Option Bool :=
  (isomedia_Boxes.f k [0, 0, 0, 8, 102, 114, 101, 101] 0 8).bind fun p => (isomedia_Boxes.f k [] 0 0).bind fun q =>
    if p.1.length = 1 ∧ (rd_T31 p.1 0).f0 = (⟨#[102, 114, 101, 101]⟩ : ByteArray) ∧ (rd_T31 p.1 0).f3 = 8 ∧ p.2 = 0 ∧ q.1.length = 0 ∧ q.2 = 0 then some true else none
theorem cutroomlaw18_awake.mono : ∀ k, LeO (cutroomlaw18_awake.f k) (cutroomlaw18_awake.f (k + 1)) := by
  intro k
  unfold cutroomlaw18_awake.f
  refine LeO.bind (isomedia_Boxes.mono _ _ _ _) (fun p => ?_)
  refine LeO.bind (isomedia_Boxes.mono _ _ _ _) (fun q => ?_)
  exact LeO.refl _
set_option maxHeartbeats 4000000 in
set_option maxRecDepth 100000 in
/-- slices.IndexFunc of no element -/
theorem cutroomlaw18_awake.index (A : Option Addr) (c : Nat) (fv : Value) (w : World) : Calls Try.prog 60 #[.slice A 0 c, fv] w fun e w' => e = .returned (.int .i64 (-1)) ∧ Below w.heap.size w w' := by
  have HB := Aside0.mk (Below.refl w.heap.size w)
  go_enter Try.func60, Try.ntmps60
  go_wp2
  go_loopg [8] 1 (fun kx s8 wr => s8 = .int .i64 0 ∧ Aside0 (Below w.heap.size w wr))
  case atStart => exact ⟨rfl, ⟨HB.out⟩⟩
  case round =>
    obtain ⟨rfl, HW⟩ := hrel
    go_wp2
    go_ret
    exact ⟨rfl, HW.out⟩
set_option maxHeartbeats 4000000 in
set_option maxRecDepth 100000 in
/-- slices.DeleteFunc of no element -/
theorem cutroomlaw18_awake.delete (A : Option Addr) (c : Nat) (fv : Value) (w : World) : Calls Try.prog 45 #[.slice A 0 c, fv] w fun e w' => e = .returned (.slice A 0 c) ∧ Below w.heap.size w w' := by
  go_enter Try.func45, Try.ntmps45
  go_wp2_with (go_at_call 60; refine (cutroomlaw18_awake.index _ _ _ _).mono ?_; rintro e w2 ⟨rfl, hb⟩; have HB := Aside0.mk hb; clear hb)
  go_ret
  exact ⟨rfl, HB.out⟩
set_option maxHeartbeats 8000000 in
set_option maxRecDepth 100000 in
/-- Take of no byte -/
theorem cutroomlaw18_awake.take (k : Nat) (q : List S31) (hq : q.length = 0) (w : World) (h : isomedia_Boxes.f k [] 0 0 = some (q, 0)) : Calls Try.prog 25 #[.slice none 0 0] w fun e w' => e = .returned (.tuple #[.agg #[.int .i64 0, .slice none 0 0], .int .i64 7]) ∧ Below w.heap.size w w' := by
  obtain rfl := List.eq_nil_of_length_eq_zero hq
  have H := Aside0.mk h
  clear h hq
  go_enter Try.func25, Try.ntmps25
  go_wp2_with (first | (go_at_call 10; refine (isomedia_Boxes.calls k none 0 [] 0 0 [] 0 _ (Kd.C_nil _ _) (Nat.le_refl _) H.out).mono ?_; rintro e w2 ⟨v0, rfl, hv, hb⟩; obtain ⟨A, c, ev⟩ := Kd.R_slice hv; subst ev; have HB := Aside0.mk hb; have BK := Aside0.mk (blk_below (g := w.heap.size) (o := .cells #[.int .i64 0, .slice none 0 0] 56 (0, 0)) (by simpa using heap_alloc_new w (.cells #[.int .i64 0, .slice none 0 0] 56)) hb); clear hb hv) | (go_at_call 45; refine (cutroomlaw18_awake.delete _ _ _ _).mono ?_; rintro e w3 ⟨rfl, hb⟩; have HB2 := Aside0.mk hb; have BK3 := Aside0.mk (blk_below BK.out hb); have hcz0 : w3.cell? ⟨w.heap.size, 0, none⟩ = some (.int .i64 0) := (blk_cell BK3.out 0).trans rfl; have hcz1 : w3.cell? ⟨w.heap.size, 1, none⟩ = some (.slice none 0 0) := (blk_cell BK3.out 1).trans rfl; have hfz0 := blk_frozen BK3.out 0; have hfz1 := blk_frozen BK3.out 1; clear hb BK))
  refine bodyPost_ret (results_ct rfl _ _ w.heap.size 56 #[.int .i64 0, .slice none 0 0] (0, 0) _ rfl (blk_put (cs := #[.int .i64 0, .slice none 0 0]) (blk_put (cs := #[.int .i64 0, .slice none 0 0]) BK3.out 0 _ rfl) 1 _ rfl) Try.underlying56 rfl (by kernel_rfl)) rfl ?_
  exact ⟨rfl, below_set (below_set (below_step (below_step (below_alloc (Below.refl _ _) _) HB.out) HB2.out) (Nat.le_refl _)) (Nat.le_refl _)⟩
theorem cutroomlaw18_awake.cell {W W1 : World} {a : Addr} {v : Value} (h : W.cell? a = some v) (hb : Below W.heap.size W W1) : W1.cell? a = some v := (hb.cell (World.block_lt_of_cell? _ _ h)).trans h
theorem cutroomlaw18_awake.row (W : World) : Kd.C (Kd.int .u8) (W.alloc (.cells #[.int .u8 0, .int .u8 0, .int .u8 0, .int .u8 8, .int .u8 102, .int .u8 114, .int .u8 101, .int .u8 101] 5)) (some ⟨W.heap.size, 0, none⟩) ([0, 0, 0, 8, 102, 114, 101, 101] : List Int).length [0, 0, 0, 8, 102, 114, 101, 101] := by
  refine Kd.C_of_reads (d := 0) ?_
  refine ⟨rfl, by decide, fun _ => ⟨_, rfl, fun j hj => ?_⟩⟩
  rw [add_plain, blk_cell (g := W.heap.size) (cs := #[.int .u8 0, .int .u8 0, .int .u8 0, .int .u8 8, .int .u8 102, .int .u8 114, .int .u8 101, .int .u8 101]) (by simpa using heap_alloc_new W (.cells #[.int .u8 0, .int .u8 0, .int .u8 0, .int .u8 8, .int .u8 102, .int .u8 114, .int .u8 101, .int .u8 101] 5))]
  have hj8 : j < 8 := hj
  rcases (show j = 0 ∨ j = 1 ∨ j = 2 ∨ j = 3 ∨ j = 4 ∨ j = 5 ∨ j = 6 ∨ j = 7 by omega) with rfl | rfl | rfl | rfl | rfl | rfl | rfl | rfl <;> rfl
set_option maxHeartbeats 8000000 in
set_option maxRecDepth 100000 in
theorem cutroomlaw18_awake.calls (k : Nat) (r : Bool) (w : World) (h : cutroomlaw18_awake.f k = some r) :
    Calls Try.prog 12 #[] w fun e w' => e = .returned (.bool r) ∧ Below w.heap.size w w' := by
  unfold cutroomlaw18_awake.f at h
  obtain ⟨⟨p, pe⟩, h1, h⟩ := Option.bind_eq_some_iff.mp h
  obtain ⟨⟨q, qe⟩, h2, h⟩ := Option.bind_eq_some_iff.mp h
  by_cases c : p.length = 1 ∧ (rd_T31 p 0).f0 = (⟨#[102, 114, 101, 101]⟩ : ByteArray) ∧ (rd_T31 p 0).f3 = 8 ∧ pe = 0 ∧ q.length = 0 ∧ qe = 0
  · rw [if_pos c] at h
    obtain rfl := Option.some.inj h
    obtain ⟨cl, c0, c3, rfl, cq, rfl⟩ := c
    clear h
    have H1 := Aside0.mk h1
    have H2 := Aside0.mk h2
    have CL := Aside0.mk cl
    have C0 := Aside0.mk c0
    have C3 := Aside0.mk c3
    have CQ := Aside0.mk cq
    clear h1 h2 cl c0 c3 cq
    have L0 := Aside0.mk (cutroomlaw18_awake.row w)
    go_enter Try.func12, Try.ntmps12
    go_upto_region 3 with (first | (go_at_call 10; refine (isomedia_Boxes.calls k (some ⟨w.heap.size, 0, none⟩) 8 [0, 0, 0, 8, 102, 114, 101, 101] 0 8 p 0 _ L0.out (by decide) H1.out).mono ?_; rintro e w2 ⟨v0, rfl, hv, hb⟩; have HB := Aside0.mk (below_step (below_alloc (Below.refl w.heap.size w) _) hb); obtain ⟨A, cp, ev, hcp, hC⟩ := Kd.R_reads hv; rw [CL.out] at ev hC; subst ev; obtain ⟨ad, rfl, p0, p1, p2, p3⟩ := at_T31 hC 0 (by decide) (by decide); (have P0 : Aside0 (w2.cell? ad = some (.string ⟨#[102, 114, 101, 101]⟩)) := ⟨by rw [C0.out] at p0; simpa [Addr.add] using p0⟩); (have P3 : Aside0 (w2.cell? ⟨ad.block, ad.off + 3, none⟩ = some (.int .i64 8)) := ⟨by rw [C3.out] at p3; simpa [Addr.add] using p3⟩); clear hb hv hcp hC p0 p1 p2 p3) | (go_at_call 25; refine (cutroomlaw18_awake.take k q CQ.out _ H2.out).mono ?_; rintro e w3 ⟨rfl, hb3⟩; have HB3 := Aside0.mk hb3; clear hb3))
    have X0 : Aside0 ((w3.alloc (.cells #[.int .i64 0, .slice none 0 0] 56)).cell? ad = some (.string ⟨#[102, 114, 101, 101]⟩)) := ⟨cutroomlaw18_awake.cell (cutroomlaw18_awake.cell P0.out HB3.out) (below_alloc (Below.refl _ _) _)⟩
    have X3 : Aside0 ((w3.alloc (.cells #[.int .i64 0, .slice none 0 0] 56)).cell? ⟨ad.block, ad.off + 3, none⟩ = some (.int .i64 8)) := ⟨cutroomlaw18_awake.cell (cutroomlaw18_awake.cell P3.out HB3.out) (below_alloc (Below.refl _ _) _)⟩
    have HB5 : Aside0 (Below w.heap.size w (w3.alloc (.cells #[.int .i64 0, .slice none 0 0] 56))) := ⟨below_alloc (below_step HB.out HB3.out) _⟩
    generalize w3.alloc (.cells #[.int .i64 0, .slice none 0 0] 56) = w5 at X0 X3 HB5 ⊢
    have x0 := X0.out
    have x1 : w5.cell? (ad.add 0) = some (.string ⟨#[102, 114, 101, 101]⟩) := by simpa [Addr.add] using x0
    have x3 := X3.out
    clear X0 X3 P0 P3
    go_wp2
    go_ret
    exact ⟨rfl, HB5.out⟩
  · rw [if_neg c] at h
    exact absurd h (by simp)


end Go.Proofs.Ytbpmkcgpgdbbkaa.P
