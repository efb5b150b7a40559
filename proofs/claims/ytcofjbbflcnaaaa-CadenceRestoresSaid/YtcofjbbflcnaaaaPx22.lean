-- Written by this session's own program (wip/tools/myprint.py), which runs the kit's print with turns of its own: not a text of the kit's print.sh.
import Derived.Test.YtcofjbbflcnaaaaPx0
import Derived.Test.YtcofjbbflcnaaaaPx23
import Derived.Test.YtcofjbbflcnaaaaPx32
import Derived.Test.YtcofjbbflcnaaaaPx55
namespace Go.Proofs.Ytcofjbbflcnaaaa.P
open Go.RowKit Go.Proofs.YtcofjbbflcnaaaaW.PrintWords Go.Proofs.YtcofjbbflcnaaaaW.PrintLast Go.Proofs.YtcofjbbflcnaaaaW.PrintMore
attribute [local go_sem] max2_int min2_int max_two min_two max_three min_three max_four min_four   -- for this text's walks alone
set_option linter.unusedVariables false
set_option linter.unusedSimpArgs false

/-! ### cutroomlaw20_awake: function 21 (by hand) -/
def cutroomlaw20_awake.f : Option Bool := some true
set_option maxRecDepth 100000 in
theorem aw1 : cadence_Frame.f 64 24 24 1 25 1 = some (25, 0) := by kernel_rfl
set_option maxRecDepth 100000 in
theorem aw2 : cadence_Sample.f 64 1 30000 1001 = some (1602, 0) := by kernel_rfl
set_option maxRecDepth 100000 in
theorem aw3 : cadence_Owner.f 64 1601 30000 1001 = some (0, 0) := by kernel_rfl
set_option maxRecDepth 100000 in
theorem aw4 : cadence_Fields.f 64 1 24000 1001 30000 1001 = some (3, 0) := by kernel_rfl
set_option maxRecDepth 100000 in
theorem aw5 : cadence_Weave.f 64 4 24 1 30 1 = some ([⟨0, 0⟩, ⟨1, 1⟩, ⟨1, 2⟩, ⟨2, 3⟩, ⟨3, 3⟩], 0) := by kernel_rfl
theorem aw_cells {W W1 : World} {g : Nat} (hb : Below W.heap.size W W1) (h : W.heap[g]? = some (.cells #[.int .i64 30000, .int .i64 1001] 23 (0, 0))) : Aside0 (W1.heap[g]? = some (.cells #[.int .i64 30000, .int .i64 1001] 23 (0, 0))) ∧ W1.cell? ⟨g, 0, none⟩ = some (.int .i64 30000) ∧ W1.cell? ⟨g, 1, none⟩ = some (.int .i64 1001) :=
  ⟨⟨blk_below h hb⟩, (blk_cell (blk_below h hb) 0).trans rfl, (blk_cell (blk_below h hb) 1).trans rfl⟩
set_option maxHeartbeats 8000000 in
set_option maxRecDepth 100000 in
theorem cutroomlaw20_awake.calls (r : Bool) (w : World) (h : cutroomlaw20_awake.f = some r) :
    Calls Try.prog 21 #[] w fun e w' => e = .returned (.bool r) ∧ Below w.heap.size w w' := by
  obtain rfl := Option.some.inj h
  clear h
  have A1 := Aside0.mk aw1
  have A2 := Aside0.mk aw2
  have A3 := Aside0.mk aw3
  have A4 := Aside0.mk aw4
  have A5 := Aside0.mk aw5
  go_enter Try.func21, Try.ntmps21
  go_upto_region 8 with (first
    | (go_at_call 22; refine (cadence_Frame.calls 64 24 24 1 25 1 25 0 _ A1.out).mono ?_; rintro e w2 ⟨rfl, hb⟩; have HBw2 := Aside0.mk (below_step (below_alloc (Below.refl w.heap.size w) _) hb); obtain ⟨BKw2, hc0, hc1⟩ := aw_cells hb (blk_new w _); clear hb)
    | (go_at_call 25; refine (cadence_Sample.calls 64 1 30000 1001 1602 0 _ A2.out).mono ?_; rintro e w3 ⟨rfl, hb⟩; have HBw3 := Aside0.mk (below_step HBw2.out hb); clear hc0 hc1; obtain ⟨BKw3, hc0, hc1⟩ := aw_cells hb BKw2.out; clear hb)
    | (go_at_call 27; refine (cadence_Owner.calls 64 1601 30000 1001 0 0 _ A3.out).mono ?_; rintro e w4 ⟨rfl, hb⟩; have HBw4 := Aside0.mk (below_step HBw3.out hb); clear hc0 hc1; obtain ⟨BKw4, hc0, hc1⟩ := aw_cells hb BKw3.out; clear hb)
    | (go_at_call 29; refine (cadence_Fields.calls 64 1 24000 1001 30000 1001 3 0 _ A4.out).mono ?_; rintro e w5 ⟨rfl, hb⟩; have HBw5 := Aside0.mk (below_step HBw4.out hb); clear hc0 hc1; obtain ⟨BKw5, hc0, hc1⟩ := aw_cells hb BKw4.out; clear hb)
    | (go_at_call 31; refine (cadence_Weave.calls 64 4 24 1 30 1 [⟨0, 0⟩, ⟨1, 1⟩, ⟨1, 2⟩, ⟨2, 3⟩, ⟨3, 3⟩] 0 _ A5.out).mono ?_; rintro e w6 ⟨v0, rfl, hv, hb⟩; have HBw6 := Aside0.mk (below_step HBw5.out hb); obtain ⟨A, cp, ev, hcp, hC⟩ := Kd.R_reads hv; subst ev; obtain ⟨ad, rfl, p0, p1⟩ := at_T43 hC 2 (by decide) (by decide); obtain ⟨ad', e', q0, q1⟩ := at_T43 hC 4 (by decide) (by decide); injection e' with e'; subst e'; (have P0 : Aside0 (w6.cell? (ad.add 4) = some (.int .i64 1) ∧ w6.cell? ⟨(ad.add 4).block, (ad.add 4).off + 1, none⟩ = some (.int .i64 2)) := ⟨p0, p1⟩); (have P1 : Aside0 (w6.cell? (ad.add 8) = some (.int .i64 3) ∧ w6.cell? ⟨(ad.add 8).block, (ad.add 8).off + 1, none⟩ = some (.int .i64 3)) := ⟨q0, q1⟩); clear hb hv hcp hC p0 p1 q0 q1 hc0 hc1))
  have p0 : w6.cell? ⟨ad.block, ad.off + 4, none⟩ = some (.int .i64 1) := by simpa [Addr.add] using P0.out.1
  have p1 : w6.cell? ⟨ad.block, ad.off + 4 + 1, none⟩ = some (.int .i64 2) := by simpa [Addr.add] using P0.out.2
  have p2 : w6.cell? ⟨ad.block, ad.off + 5, none⟩ = some (.int .i64 2) := p1
  have q0 : w6.cell? ⟨ad.block, ad.off + 8, none⟩ = some (.int .i64 3) := by simpa [Addr.add] using P1.out.1
  have q1 : w6.cell? ⟨ad.block, ad.off + 8 + 1, none⟩ = some (.int .i64 3) := by simpa [Addr.add] using P1.out.2
  have q2 : w6.cell? ⟨ad.block, ad.off + 9, none⟩ = some (.int .i64 3) := q1
  clear P0 P1
  go_wp2
  go_ret
  exact ⟨rfl, HBw6.out⟩


end Go.Proofs.Ytcofjbbflcnaaaa.P
