-- Written by this session's own program (wip/tools/myprint.py), which runs the kit's print with turns of its own: not a text of the kit's print.sh.
import Derived.Test.YtcofjbbflcnaaaaPx0
import Derived.Test.YtcofjbbflcnaaaaPx22
import Derived.Test.YtcofjbbflcnaaaaPx43
import Derived.Test.YtcofjbbflcnaaaaPx44
import Derived.Test.YtcofjbbflcnaaaaPx45
import Derived.Test.YtcofjbbflcnaaaaPx59
import Derived.Test.YtcofjbbflcnaaaaApp
namespace Go.Proofs.Ytcofjbbflcnaaaa.P
open Go.RowKit Go.Proofs.YtcofjbbflcnaaaaW.PrintWords Go.Proofs.YtcofjbbflcnaaaaW.PrintLast Go.Proofs.YtcofjbbflcnaaaaW.PrintMore
attribute [local go_sem] max2_int min2_int max_two min_two max_three min_three max_four min_four   -- for this text's walks alone
set_option linter.unusedVariables false
set_option linter.unusedSimpArgs false

/-! ### cutroomlaw20_CadenceRestores: function 16 (by hand) -/
-- IMPORT Derived.Test.YtcofjbbflcnaaaaApp
def cutroomlaw20_CadenceRestores.f (k : Nat) (l0 : List Int) (l1 : List S52) (l2 : List S43) : Option Bool :=
  (cutroomfilm_Frames.f k l0 6).bind fun x => if (x.length + l1.length) * 88 ≤ 140737488355328 then
    (cadence_Restore.f k ((x ++ l1).take (l2.take (x ++ l1).length).length) (l2.take (x ++ l1).length)).bind fun p => (cutroomref20_Restore.f k ((x ++ l1).take (l2.take (x ++ l1).length).length) (l2.take (x ++ l1).length)).bind fun q =>
    (cadence_Restore.f k (x ++ l1) (l2.take (x ++ l1).length)).bind fun p2 => (cutroomref20_Restore.f k (x ++ l1) (l2.take (x ++ l1).length)).bind fun q2 =>
    if p.2 = q.2 ∧ p2.2 = q2.2 then (cutroomref20_Frames.f k p.1 q.1).bind fun t => (cutroomref20_Frames.f k p2.1 q2.1).bind fun u => if t = true ∧ u = true then some true else none else none else none
theorem rs_cut (W : World) (T e : TypeId) (hT : Try.prog.underlying T = some (.slice (Try.prog.elem T))) (s : Nat) (hs : ∀ W, (sizeOf (Try.prog.elem T)).run Try.prog W = .ok s W) (A : Option Addr) (n c m : Nat) (h : m ≤ c) :
    (Instr.slice T (.slice A n c) none (some (.int .i64 (m : Int))) none).run Try.prog W = .ok (.slice A m c) W := by
  rw [run_slice_h W T A n c hT .i64 (m : Int) (by omega) (by omega), hs]
  simp only [Result.andThen, sliced, Int.toNat_natCast, Nat.sub_zero, Nat.zero_mul]
  split
  · rfl
  · rw [show A.map (fun a => a.add 0) = A by cases A <;> simp [Addr.add_zero']]
theorem rs_cut48 (W : World) (A : Option Addr) (n c m : Nat) (h : m ≤ c) : (Instr.slice 48 (.slice A n c) none (some (.int .i64 (m : Int))) none).run Try.prog W = .ok (.slice A m c) W := by
  refine rs_cut W 48 52 (by kernel_rfl) 5 (fun W => ?_) A n c m h
  obtain ⟨i, hi, _⟩ := Option.map_eq_some_iff.1 info52
  rw [show Try.prog.elem 48 = 52 by kernel_rfl, run_sizeOf W hi, show Try.prog.cellsOf 52 = 5 by kernel_rfl]
theorem rs_cut38 (W : World) (A : Option Addr) (n c m : Nat) (h : m ≤ c) : (Instr.slice 38 (.slice A n c) none (some (.int .i64 (m : Int))) none).run Try.prog W = .ok (.slice A m c) W := by
  refine rs_cut W 38 43 (by kernel_rfl) 2 (fun W => ?_) A n c m h
  obtain ⟨i, hi, _⟩ := Option.map_eq_some_iff.1 info43
  rw [show Try.prog.elem 38 = 43 by kernel_rfl, run_sizeOf W hi, show Try.prog.cellsOf 43 = 2 by kernel_rfl]
theorem rs_take {α : Type} {d : Kd α} {w : World} {A : Option Addr} {N m : Nat} {xs : List α} (h : d.C w A N xs) (hn : xs.length = N) (hm : m ≤ N) : d.C w A m (xs.take m) := by
  subst hn
  have := Kd.C_take h hm
  rwa [List.length_take, Nat.min_eq_left hm] at this
theorem rs_a (k : Nat) (A : Option Addr) (c : Nat) (xs : List S52) (n : Nat) (A2 : Option Addr) (c2 : Nat) (ws : List S43) (m : Nat) (p : List S52) (pe : Int) (w : World) (hx : xs.length = n) (hw : ws.length = m) (h1 : Kd.C k52 w A n xs) (hc : n ≤ c) (h2 : Kd.C k43 w A2 m ws) (hc2 : m ≤ c2) (h : cadence_Restore.f k xs ws = some (p, pe)) :
    Calls Try.prog 43 #[.slice A n c, .slice A2 m c2] w fun e w' => ∃ v0_ : Value, e = .returned (.tuple #[v0_, .int .i64 pe]) ∧ Kd.S k52 52 w' w.heap.size (fun _ => True) v0_ p ∧ Below w.heap.size w w' := by
  subst hx
  subst hw
  exact cadence_Restore.calls k A c xs A2 c2 ws p pe w h1 hc h2 hc2 h
theorem rs_b (k : Nat) (A : Option Addr) (c : Nat) (xs : List S52) (n : Nat) (A2 : Option Addr) (c2 : Nat) (ws : List S43) (m : Nat) (p : List S52) (pe : Int) (w : World) (hx : xs.length = n) (hw : ws.length = m) (h1 : Kd.C k52 w A n xs) (hc : n ≤ c) (h2 : Kd.C k43 w A2 m ws) (hc2 : m ≤ c2) (h : cutroomref20_Restore.f k xs ws = some (p, pe)) :
    Calls Try.prog 44 #[.slice A n c, .slice A2 m c2] w fun e w' => ∃ v0_ : Value, e = .returned (.tuple #[v0_, .int .i64 pe]) ∧ Kd.S k52 52 w' w.heap.size (fun _ => True) v0_ p ∧ Below w.heap.size w w' := by
  subst hx
  subst hw
  exact cutroomref20_Restore.calls k A c xs A2 c2 ws p pe w h1 hc h2 hc2 h
set_option maxHeartbeats 8000000 in
set_option maxRecDepth 100000 in
theorem cutroomlaw20_CadenceRestores.calls (k : Nat) (A0 : Option Addr) (c0 : Nat) (l0 : List Int) (A1 : Option Addr) (c1 : Nat) (l1 : List S52) (A2 : Option Addr) (c2 : Nat) (l2 : List S43) (r : Bool) (w : World) (hr0 : Kd.C (Kd.int .i64) w A0 l0.length l0) (hc0 : l0.length ≤ c0) (hr1 : Kd.C k52 w A1 l1.length l1) (hc1 : l1.length ≤ c1) (hr2 : Kd.C k43 w A2 l2.length l2) (hc2 : l2.length ≤ c2) (h : cutroomlaw20_CadenceRestores.f k l0 l1 l2 = some r) :
    Calls Try.prog 16 #[.slice A0 l0.length c0, .slice A1 l1.length c1, .slice A2 l2.length c2] w fun e w' => e = .returned (.bool r) ∧ Below w.heap.size w w' := by
  unfold cutroomlaw20_CadenceRestores.f at h
  obtain ⟨x, h1, h⟩ := Option.bind_eq_some_iff.mp h
  by_cases cl : (x.length + l1.length) * 88 ≤ 140737488355328
  · rw [if_pos cl] at h
    obtain ⟨⟨p, pe⟩, h2, h⟩ := Option.bind_eq_some_iff.mp h
    obtain ⟨⟨q, qe⟩, h3, h⟩ := Option.bind_eq_some_iff.mp h
    obtain ⟨⟨p2, pe2⟩, h4, h⟩ := Option.bind_eq_some_iff.mp h
    obtain ⟨⟨q2, qe2⟩, h5, h⟩ := Option.bind_eq_some_iff.mp h
    by_cases ce : (p, pe).2 = (q, qe).2 ∧ (p2, pe2).2 = (q2, qe2).2
    · rw [if_pos ce] at h
      obtain ⟨t, h6, h⟩ := Option.bind_eq_some_iff.mp h
      obtain ⟨u, h7, h⟩ := Option.bind_eq_some_iff.mp h
      by_cases ct : t = true ∧ u = true
      · rw [if_pos ct] at h
        obtain rfl := Option.some.inj h
        obtain ⟨rfl, rfl⟩ := ct
        have e1 : pe = qe := ce.1
        have e2 : pe2 = qe2 := ce.2
        subst e1
        subst e2
        obtain ⟨N, hN⟩ : ∃ N, (x ++ l1).length = N := ⟨_, rfl⟩
        rw [hN] at h2 h3 h4 h5
        obtain ⟨ws, hws⟩ : ∃ ws, l2.take N = ws := ⟨_, rfl⟩
        rw [hws] at h2 h3 h4 h5
        have HN := Aside0.mk hN
        have T1 := Aside0.mk True.intro
        have T2 := Aside0.mk True.intro
        have T3 := Aside0.mk True.intro
        have T4 := Aside0.mk True.intro
        have T5 := Aside0.mk True.intro
        have H1 := Aside0.mk h1
        have H4 := Aside0.mk h4
        have H5 := Aside0.mk h5
        have H6 := Aside0.mk h6
        have H7 := Aside0.mk h7
        have HR0 := Aside0.mk hr0
        have HR1 := Aside0.mk hr1
        have HC0 := Aside0.mk hc0
        have HL := Aside0.mk cl
        clear h h1 h4 h5 h6 h7 hr0 hr1 hc0 hc1 ce cl
        by_cases cm : N < l2.length
        · have hwl : ws.length = N := by rw [← hws, List.length_take]; omega
          have HWS := Aside0.mk hwl
          have HTL := Aside0.mk (show ((x ++ l1).take N).length = N by rw [List.length_take, hN]; omega)
          rw [hwl] at h2 h3
          have H2 := Aside0.mk h2
          have H3 := Aside0.mk h3
          have HR2 := Aside0.mk (show Kd.C k43 w A2 N ws from by rw [← hws]; exact rs_take hr2 rfl (by omega))
          have HC2 := Aside0.mk (show N ≤ c2 by omega)
          have hcut2 := fun W => rs_cut38 W A2 l2.length c2 N (by omega)
          have f1 : decide ((l2.length : Int) > (N : Int)) = true := decide_eq_true (by omega)
          have f2 : decide (N < l2.length) = true := decide_eq_true cm
          have f3 : decide ((N : Int) < (l2.length : Int)) = true := decide_eq_true (by omega)
          clear h2 h3 hr2 hc2 hN hws hwl
          go_enter Try.func16, Try.ntmps16
          go_wp2_with (first
          | (go_at_call 37; refine (cutroomfilm_Frames.calls k A0 c0 l0 6 x _ HR0.out HC0.out H1.out).mono ?_; rintro e w1 ⟨v0, rfl, hv, hb⟩; have HV := Aside0.mk hv; have HB1 := Aside0.mk hb; clear hv hb)
          | ((with_reducible refine gate_dst (N := 19) rfl ?_); refine wp_app52 (w := w) rfl (.tmp 17) (.tmp 18) rfl (A := A1) (c := c1) rfl rfl HV.out HR1.out HB1.out HL.out ?_; intro A3 c3 w2 hC hc hb; rw [HN.out] at hC hc ⊢; have hcut := fun W => rs_cut48 W A3 N c3 (N) (by have := hc; omega); have HX := Aside0.mk hC; have HXC := Aside0.mk hc; have HT := Aside0.mk (rs_take hC HN.out (m := N) (by omega)); have HB2 := Aside0.mk hb; clear hC hc hb)
          | (go_at_call 43; have t_ := T1; clear T1; refine (rs_a k A3 c3 ((x ++ l1).take (N)) (N) A2 c2 ws N p pe _ HTL.out HWS.out (HT.out) (by have := HXC.out; omega) (Kd.C_below HR2.out HB2.out) HC2.out H2.out).mono ?_; rintro e w3 ⟨v_, rfl, hv, hb⟩; have HB3 := Aside0.mk (below_step HB2.out hb); obtain ⟨Ap, cp, ev, hc_, hC_⟩ := Kd.R_reads (Kd.S_R hv); subst ev; have HCp := Aside0.mk hC_; have HCCp := Aside0.mk hc_; have HX3 := Aside0.mk (Kd.C_below HX.out hb); have HT3 := Aside0.mk (Kd.C_below HT.out hb); clear hv hb hc_ hC_)
          | (go_at_call 44; have t_ := T2; clear T2; refine (rs_b k A3 c3 ((x ++ l1).take (N)) (N) A2 c2 ws N q pe _ HTL.out HWS.out (HT3.out) (by have := HXC.out; omega) (Kd.C_below HR2.out HB3.out) HC2.out H3.out).mono ?_; rintro e w4 ⟨v_, rfl, hv, hb⟩; have HB4 := Aside0.mk (below_step HB3.out hb); obtain ⟨Aq, cq, ev, hc_, hC_⟩ := Kd.R_reads (Kd.S_R hv); subst ev; have HCq := Aside0.mk hC_; have HCCq := Aside0.mk hc_; have HX4 := Aside0.mk (Kd.C_below HX3.out hb); have HP4 := Aside0.mk (Kd.C_below HCp.out hb); clear hv hb hc_ hC_)
          | (go_at_call 43; have t_ := T3; clear T3; refine (rs_a k A3 c3 (x ++ l1) N A2 c2 ws N p2 pe2 _ HN.out HWS.out (HX4.out) (by have := HXC.out; omega) (Kd.C_below HR2.out HB4.out) HC2.out H4.out).mono ?_; rintro e w5 ⟨v_, rfl, hv, hb⟩; have HB5 := Aside0.mk (below_step HB4.out hb); obtain ⟨Ap2, cp2, ev, hc_, hC_⟩ := Kd.R_reads (Kd.S_R hv); subst ev; have HCp2 := Aside0.mk hC_; have HCCp2 := Aside0.mk hc_; have HX5 := Aside0.mk (Kd.C_below HX4.out hb); have HP5 := Aside0.mk (Kd.C_below HP4.out hb); have HQ5 := Aside0.mk (Kd.C_below HCq.out hb); clear hv hb hc_ hC_)
          | (go_at_call 44; have t_ := T4; clear T4; refine (rs_b k A3 c3 (x ++ l1) N A2 c2 ws N q2 pe2 _ HN.out HWS.out (HX5.out) (by have := HXC.out; omega) (Kd.C_below HR2.out HB5.out) HC2.out H5.out).mono ?_; rintro e w6 ⟨v_, rfl, hv, hb⟩; have HB6 := Aside0.mk (below_step HB5.out hb); obtain ⟨Aq2, cq2, ev, hc_, hC_⟩ := Kd.R_reads (Kd.S_R hv); subst ev; have HCq2 := Aside0.mk hC_; have HCCq2 := Aside0.mk hc_; have HP6 := Aside0.mk (Kd.C_below HP5.out hb); have HQ6 := Aside0.mk (Kd.C_below HQ5.out hb); have HP26 := Aside0.mk (Kd.C_below HCp2.out hb); clear hv hb hc_ hC_)
          | (go_at_call 42; have t_ := T5; clear T5; refine (cutroomref20_Frames.calls k Ap cp p Aq cq q true _ HP6.out HCCp.out HQ6.out HCCq.out H6.out).mono ?_; rintro e w7 ⟨rfl, hb⟩; have HB7 := Aside0.mk (below_step HB6.out hb); have HP27 := Aside0.mk (Kd.C_below HP26.out hb); have HQ27 := Aside0.mk (Kd.C_below HCq2.out hb); clear hb)
          | (go_at_call 42; refine (cutroomref20_Frames.calls k Ap2 cp2 p2 Aq2 cq2 q2 true _ HP27.out HCCp2.out HQ27.out HCCq2.out H7.out).mono ?_; rintro e w8 ⟨rfl, hb⟩; have HB8 := Aside0.mk (below_step HB7.out hb); clear hb)
          | (go_at_call 21; refine (cutroomlaw20_awake.calls true _ rfl).mono ?_; rintro e w9 ⟨rfl, hb⟩; have HB9 := Aside0.mk (below_step HB8.out hb); clear hb))
          go_ret
          exact ⟨rfl, HB9.out⟩
        · obtain rfl : l2 = ws := by rw [← hws, List.take_of_length_le (by omega)]
          have HTL := Aside0.mk (show ((x ++ l1).take l2.length).length = l2.length by rw [List.length_take, hN]; omega)
          have H2 := Aside0.mk h2
          have H3 := Aside0.mk h3
          have HR2 := Aside0.mk hr2
          have HC2 := Aside0.mk hc2
          have f1 : decide ((l2.length : Int) > (N : Int)) = false := decide_eq_false (by omega)
          have f2 : decide (N < l2.length) = false := decide_eq_false cm
          have f3 : decide ((N : Int) < (l2.length : Int)) = false := decide_eq_false (by omega)
          have hle : l2.length ≤ N := by omega
          clear h2 h3 hr2 hc2 hN hws
          go_enter Try.func16, Try.ntmps16
          go_wp2_with (first
          | (go_at_call 37; refine (cutroomfilm_Frames.calls k A0 c0 l0 6 x _ HR0.out HC0.out H1.out).mono ?_; rintro e w1 ⟨v0, rfl, hv, hb⟩; have HV := Aside0.mk hv; have HB1 := Aside0.mk hb; clear hv hb)
          | ((with_reducible refine gate_dst (N := 19) rfl ?_); refine wp_app52 (w := w) rfl (.tmp 17) (.tmp 18) rfl (A := A1) (c := c1) rfl rfl HV.out HR1.out HB1.out HL.out ?_; intro A3 c3 w2 hC hc hb; rw [HN.out] at hC hc ⊢; have hcut := fun W => rs_cut48 W A3 N c3 (l2.length) (by have := hc; omega); have HX := Aside0.mk hC; have HXC := Aside0.mk hc; have HT := Aside0.mk (rs_take hC HN.out (m := l2.length) (by omega)); have HB2 := Aside0.mk hb; clear hC hc hb)
          | (go_at_call 43; have t_ := T1; clear T1; refine (rs_a k A3 c3 ((x ++ l1).take (l2.length)) (l2.length) A2 c2 l2 l2.length p pe _ HTL.out rfl (HT.out) (by have := HXC.out; omega) (Kd.C_below HR2.out HB2.out) HC2.out H2.out).mono ?_; rintro e w3 ⟨v_, rfl, hv, hb⟩; have HB3 := Aside0.mk (below_step HB2.out hb); obtain ⟨Ap, cp, ev, hc_, hC_⟩ := Kd.R_reads (Kd.S_R hv); subst ev; have HCp := Aside0.mk hC_; have HCCp := Aside0.mk hc_; have HX3 := Aside0.mk (Kd.C_below HX.out hb); have HT3 := Aside0.mk (Kd.C_below HT.out hb); clear hv hb hc_ hC_)
          | (go_at_call 44; have t_ := T2; clear T2; refine (rs_b k A3 c3 ((x ++ l1).take (l2.length)) (l2.length) A2 c2 l2 l2.length q pe _ HTL.out rfl (HT3.out) (by have := HXC.out; omega) (Kd.C_below HR2.out HB3.out) HC2.out H3.out).mono ?_; rintro e w4 ⟨v_, rfl, hv, hb⟩; have HB4 := Aside0.mk (below_step HB3.out hb); obtain ⟨Aq, cq, ev, hc_, hC_⟩ := Kd.R_reads (Kd.S_R hv); subst ev; have HCq := Aside0.mk hC_; have HCCq := Aside0.mk hc_; have HX4 := Aside0.mk (Kd.C_below HX3.out hb); have HP4 := Aside0.mk (Kd.C_below HCp.out hb); clear hv hb hc_ hC_)
          | (go_at_call 43; have t_ := T3; clear T3; refine (rs_a k A3 c3 (x ++ l1) N A2 c2 l2 l2.length p2 pe2 _ HN.out rfl (HX4.out) (by have := HXC.out; omega) (Kd.C_below HR2.out HB4.out) HC2.out H4.out).mono ?_; rintro e w5 ⟨v_, rfl, hv, hb⟩; have HB5 := Aside0.mk (below_step HB4.out hb); obtain ⟨Ap2, cp2, ev, hc_, hC_⟩ := Kd.R_reads (Kd.S_R hv); subst ev; have HCp2 := Aside0.mk hC_; have HCCp2 := Aside0.mk hc_; have HX5 := Aside0.mk (Kd.C_below HX4.out hb); have HP5 := Aside0.mk (Kd.C_below HP4.out hb); have HQ5 := Aside0.mk (Kd.C_below HCq.out hb); clear hv hb hc_ hC_)
          | (go_at_call 44; have t_ := T4; clear T4; refine (rs_b k A3 c3 (x ++ l1) N A2 c2 l2 l2.length q2 pe2 _ HN.out rfl (HX5.out) (by have := HXC.out; omega) (Kd.C_below HR2.out HB5.out) HC2.out H5.out).mono ?_; rintro e w6 ⟨v_, rfl, hv, hb⟩; have HB6 := Aside0.mk (below_step HB5.out hb); obtain ⟨Aq2, cq2, ev, hc_, hC_⟩ := Kd.R_reads (Kd.S_R hv); subst ev; have HCq2 := Aside0.mk hC_; have HCCq2 := Aside0.mk hc_; have HP6 := Aside0.mk (Kd.C_below HP5.out hb); have HQ6 := Aside0.mk (Kd.C_below HQ5.out hb); have HP26 := Aside0.mk (Kd.C_below HCp2.out hb); clear hv hb hc_ hC_)
          | (go_at_call 42; have t_ := T5; clear T5; refine (cutroomref20_Frames.calls k Ap cp p Aq cq q true _ HP6.out HCCp.out HQ6.out HCCq.out H6.out).mono ?_; rintro e w7 ⟨rfl, hb⟩; have HB7 := Aside0.mk (below_step HB6.out hb); have HP27 := Aside0.mk (Kd.C_below HP26.out hb); have HQ27 := Aside0.mk (Kd.C_below HCq2.out hb); clear hb)
          | (go_at_call 42; refine (cutroomref20_Frames.calls k Ap2 cp2 p2 Aq2 cq2 q2 true _ HP27.out HCCp2.out HQ27.out HCCq2.out H7.out).mono ?_; rintro e w8 ⟨rfl, hb⟩; have HB8 := Aside0.mk (below_step HB7.out hb); clear hb)
          | (go_at_call 21; refine (cutroomlaw20_awake.calls true _ rfl).mono ?_; rintro e w9 ⟨rfl, hb⟩; have HB9 := Aside0.mk (below_step HB8.out hb); clear hb))
          go_ret
          exact ⟨rfl, HB9.out⟩
      · rw [if_neg ct] at h; cases h
    · rw [if_neg ce] at h; cases h
  · rw [if_neg cl] at h; cases h


/-- THE ONE PURE STATEMENT of cutroomlaw20_CadenceRestores: yours. -/
def cutroomlaw20_CadenceRestores.Pure : Prop := ∀ (l0 : List Int) (l1 : List (S52)) (l2 : List (S43)), (l0.length ≤ maxLen ∧ l0.length * 8 ≤ 140737488351232 ∧ ∀ q0 ∈ l0, (Lit.int .i64 q0).wf = true) → (l1.length ≤ maxLen ∧ l1.length * 88 ≤ 140737488351232 ∧ ∀ q0 ∈ l1, ((Lit.int .i64 q0.f0).wf = true ∧ (Lit.int .i64 q0.f1).wf = true ∧ (q0.f2.length ≤ maxLen ∧ q0.f2.length * 1 ≤ 140737488351232 ∧ ∀ q2 ∈ q0.f2, (Lit.int .u8 q2).wf = true) ∧ (q0.f3.length ≤ maxLen ∧ q0.f3.length * 1 ≤ 140737488351232 ∧ ∀ q2 ∈ q0.f3, (Lit.int .u8 q2).wf = true) ∧ (q0.f4.length ≤ maxLen ∧ q0.f4.length * 1 ≤ 140737488351232 ∧ ∀ q2 ∈ q0.f4, (Lit.int .u8 q2).wf = true))) → (l2.length ≤ maxLen ∧ l2.length * 16 ≤ 140737488351232 ∧ ∀ q0 ∈ l2, ((Lit.int .i64 q0.f0).wf = true ∧ (Lit.int .i64 q0.f1).wf = true)) → ∃ k, cutroomlaw20_CadenceRestores.f k l0 l1 l2 = some true

end Go.Proofs.Ytcofjbbflcnaaaa.P
