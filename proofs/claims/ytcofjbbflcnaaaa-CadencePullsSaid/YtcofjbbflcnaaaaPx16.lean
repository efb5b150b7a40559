-- Written by this session's own program (wip/tools/myprint.py), which runs the kit's print with turns of its own: not a text of the kit's print.sh.
import Derived.Test.YtcofjbbflcnaaaaPx0
import Derived.Test.YtcofjbbflcnaaaaPx22
import Derived.Test.YtcofjbbflcnaaaaPx41
import Derived.Test.YtcofjbbflcnaaaaPx42
import Derived.Test.YtcofjbbflcnaaaaPx43
import Derived.Test.YtcofjbbflcnaaaaPx59
import Derived.Test.YtcofjbbflcnaaaaApp
namespace Go.Proofs.Ytcofjbbflcnaaaa.P
open Go.RowKit Go.Proofs.YtcofjbbflcnaaaaW.PrintWords Go.Proofs.YtcofjbbflcnaaaaW.PrintLast Go.Proofs.YtcofjbbflcnaaaaW.PrintMore
attribute [local go_sem] max2_int min2_int max_two min_two max_three min_three max_four min_four   -- for this text's walks alone
set_option linter.unusedVariables false
set_option linter.unusedSimpArgs false

/-! ### cutroomlaw20_CadencePulls: function 15 (by hand) -/
-- IMPORT Derived.Test.YtcofjbbflcnaaaaApp
def cutroomlaw20_CadencePulls.f (k : Nat) (l0 : List Int) (l1 : List S52) (l2 : List S43) : Option Bool :=
  (cutroomfilm_Frames.f k l0 4).bind fun x => if (x.length + l1.length) * 88 ≤ 140737488355328 then (cadence_Pull.f k (x ++ l1) l2).bind fun p => (cutroomref20_Pull.f k (x ++ l1) l2).bind fun q => if p.2 = q.2 then (cutroomref20_Frames.f k p.1 q.1).bind fun t => if t = true then some true else none else none else none
set_option maxHeartbeats 4000000 in
set_option maxRecDepth 100000 in
theorem cutroomlaw20_CadencePulls.calls (k : Nat) (A0 : Option Addr) (c0 : Nat) (l0 : List Int) (A1 : Option Addr) (c1 : Nat) (l1 : List S52) (A2 : Option Addr) (c2 : Nat) (l2 : List S43) (r : Bool) (w : World) (hr0 : Kd.C (Kd.int .i64) w A0 l0.length l0) (hc0 : l0.length ≤ c0) (hr1 : Kd.C k52 w A1 l1.length l1) (hc1 : l1.length ≤ c1) (hr2 : Kd.C k43 w A2 l2.length l2) (hc2 : l2.length ≤ c2) (h : cutroomlaw20_CadencePulls.f k l0 l1 l2 = some r) :
    Calls Try.prog 15 #[.slice A0 l0.length c0, .slice A1 l1.length c1, .slice A2 l2.length c2] w fun e w' => e = .returned (.bool r) ∧ Below w.heap.size w w' := by
  unfold cutroomlaw20_CadencePulls.f at h
  obtain ⟨x, h1, h⟩ := Option.bind_eq_some_iff.mp h
  by_cases cl : (x.length + l1.length) * 88 ≤ 140737488355328
  · rw [if_pos cl] at h
    obtain ⟨⟨p, pe⟩, h2, h⟩ := Option.bind_eq_some_iff.mp h
    obtain ⟨⟨q, qe⟩, h3, h⟩ := Option.bind_eq_some_iff.mp h
    by_cases ce : pe = qe
    · subst ce
      rw [if_pos rfl] at h
      obtain ⟨t, h4, h⟩ := Option.bind_eq_some_iff.mp h
      by_cases ct : t = true
      · subst ct
        rw [if_pos rfl] at h
        obtain rfl := Option.some.inj h
        obtain ⟨y, hy⟩ : ∃ y, x ++ l1 = y := ⟨_, rfl⟩
        rw [hy] at h2 h3
        have HY := Aside0.mk hy
        have H1 := Aside0.mk h1
        have H2 := Aside0.mk h2
        have H3 := Aside0.mk h3
        have H4 := Aside0.mk h4
        have HR0 := Aside0.mk hr0
        have HR1 := Aside0.mk hr1
        have HR2 := Aside0.mk hr2
        have HC0 := Aside0.mk hc0
        have HC2 := Aside0.mk hc2
        have HL := Aside0.mk cl
        clear h hy h1 h2 h3 h4 hr0 hr1 hr2 hc0 hc1 hc2 cl
        go_enter Try.func15, Try.ntmps15
        go_wp2_with (first
          | (go_at_call 37; refine (cutroomfilm_Frames.calls k A0 c0 l0 4 x _ HR0.out HC0.out H1.out).mono ?_; rintro e w1 ⟨v0, rfl, hv, hb⟩; have HV := Aside0.mk hv; have HB1 := Aside0.mk hb; clear hv hb)
          | ((with_reducible refine gate_dst (N := 15) rfl ?_); refine wp_app52 (w := w) rfl (.tmp 13) (.tmp 14) rfl (A := A1) (c := c1) rfl rfl HV.out HR1.out HB1.out HL.out ?_; intro A3 c3 w2 hC hc hb; rw [HY.out] at hC hc ⊢; have HX := Aside0.mk hC; have HXC := Aside0.mk hc; have HB2 := Aside0.mk hb; clear hC hc hb)
          | (go_at_call 40; refine (cadence_Pull.calls k A3 c3 y A2 c2 l2 p pe _ HX.out HXC.out (Kd.C_below HR2.out HB2.out) HC2.out H2.out).mono ?_; rintro e w3 ⟨v1, rfl, hv, hb⟩; have HB3 := Aside0.mk (below_step HB2.out hb); have HX3 := Aside0.mk (Kd.C_below HX.out hb); obtain ⟨Ap, cp, ev, hcp, hCp⟩ := Kd.R_reads (Kd.S_R hv); subst ev; have HP := Aside0.mk hCp; have HPC := Aside0.mk hcp; clear hv hb hcp hCp)
          | (go_at_call 41; refine (cutroomref20_Pull.calls k A3 c3 y A2 c2 l2 q pe _ HX3.out HXC.out (Kd.C_below HR2.out HB3.out) HC2.out H3.out).mono ?_; rintro e w4 ⟨v2, rfl, hv, hb⟩; have HB4 := Aside0.mk (below_step HB3.out hb); have HP4 := Aside0.mk (Kd.C_below HP.out hb); obtain ⟨Aq, cq, ev, hcq, hCq⟩ := Kd.R_reads (Kd.S_R hv); subst ev; have HQ := Aside0.mk hCq; have HQC := Aside0.mk hcq; clear hv hb hcq hCq)
          | (go_at_call 42; refine (cutroomref20_Frames.calls k Ap cp p Aq cq q true _ HP4.out HPC.out HQ.out HQC.out H4.out).mono ?_; rintro e w5 ⟨rfl, hb⟩; have HB5 := Aside0.mk (below_step HB4.out hb); clear hb)
          | (go_at_call 21; refine (cutroomlaw20_awake.calls true _ rfl).mono ?_; rintro e w6 ⟨rfl, hb⟩; have HB6 := Aside0.mk (below_step HB5.out hb); clear hb))
        go_ret
        exact ⟨rfl, HB6.out⟩
      · rw [if_neg ct] at h; cases h
    · rw [if_neg (show ¬ (p, pe).2 = (q, qe).2 from ce)] at h; cases h
  · rw [if_neg cl] at h; cases h


/-- THE ONE PURE STATEMENT of cutroomlaw20_CadencePulls: yours. -/
def cutroomlaw20_CadencePulls.Pure : Prop := ∀ (l0 : List Int) (l1 : List (S52)) (l2 : List (S43)), (l0.length ≤ maxLen ∧ l0.length * 8 ≤ 140737488351232 ∧ ∀ q0 ∈ l0, (Lit.int .i64 q0).wf = true) → (l1.length ≤ maxLen ∧ l1.length * 88 ≤ 140737488351232 ∧ ∀ q0 ∈ l1, ((Lit.int .i64 q0.f0).wf = true ∧ (Lit.int .i64 q0.f1).wf = true ∧ (q0.f2.length ≤ maxLen ∧ q0.f2.length * 1 ≤ 140737488351232 ∧ ∀ q2 ∈ q0.f2, (Lit.int .u8 q2).wf = true) ∧ (q0.f3.length ≤ maxLen ∧ q0.f3.length * 1 ≤ 140737488351232 ∧ ∀ q2 ∈ q0.f3, (Lit.int .u8 q2).wf = true) ∧ (q0.f4.length ≤ maxLen ∧ q0.f4.length * 1 ≤ 140737488351232 ∧ ∀ q2 ∈ q0.f4, (Lit.int .u8 q2).wf = true))) → (l2.length ≤ maxLen ∧ l2.length * 16 ≤ 140737488351232 ∧ ∀ q0 ∈ l2, ((Lit.int .i64 q0.f0).wf = true ∧ (Lit.int .i64 q0.f1).wf = true)) → ∃ k, cutroomlaw20_CadencePulls.f k l0 l1 l2 = some true

end Go.Proofs.Ytcofjbbflcnaaaa.P
