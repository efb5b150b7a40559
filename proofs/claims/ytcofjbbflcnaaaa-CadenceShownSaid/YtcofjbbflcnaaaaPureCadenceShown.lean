/- The frame that Frame returns begins at or before frame n, and the one after it begins later. No condition of its own. -/
import Derived.Test.YtcofjbbflcnaaaaPx6
import Derived.Test.YtcofjbbflcnaaaaPx25
import Derived.Test.YtcofjbbflcnaaaaCadS
namespace Go.Proofs.Ytcofjbbflcnaaaa.Pure
open Go.RowKit Go.Proofs.Ytcofjbbflcnaaaa.P Go.Proofs.YtcofjbbflcnaaaaW.PrintWords Go.Proofs.YtcofjbbflcnaaaaW.PrintLast
set_option linter.unusedVariables false

theorem wf32 {x : Int} (h : (Lit.int .i32 x).wf = true) : -2147483648 ≤ x ∧ x ≤ 2147483647 := by
  simp [Lit.wf, IntKind.min, IntKind.max, IntKind.signed, IntKind.bits] at h
  omega

/-- the sign of a comparison of a*rd/rn with c*sd/sn -/
def cmpR (a rn rd c sn sd : Int) : Int := if a * rd * sn < c * sd * rn then -1 else if a * rd * sn > c * sd * rn then 1 else 0

theorem compare_ev (a rn rd c sn sd : Int) (a0 : -2147483648 ≤ a) (a1 : a ≤ 2147483648) (c0 : -2147483648 ≤ c) (c1 : c ≤ 2147483648) (hr : usable rn rd = true) (hs : usable sn sd = true) :
    Ev (fun k => cutroomref20_Compare.f k a rn rd c sn sd) (cmpR a rn rd c sn sd) := by
  have u := usable_iff.1 hr
  have v := usable_iff.1 hs
  have fit : ∀ (m d e : Int), -2147483648 ≤ m → m ≤ 2147483648 → 1 ≤ d → d ≤ 65536 → 1 ≤ e → (m.natAbs : Int) * d / e ≤ 9223372036854775806 := by
    intro m d e h0 h1 h2 h3 h4
    have am := abs_mul (n := (m.natAbs : Int)) (B := 2147483648) (C := d) (by omega) (by omega) (by omega)
    have := (div_rng (p := (m.natAbs : Int) * d) (d := e) (B := 140737488355328) h4 (by omega) (by omega) (by decide)).2
    omega
  unfold cutroomref20_Compare.f
  refine Ev.bind (split_ev a rd rn (by omega) (by omega) (by omega) (by omega) (by omega) (by omega) (fit a rd rn a0 a1 (by omega) (by omega) (by omega))) ?_
  refine Ev.bind (split_ev c sd sn (by omega) (by omega) (by omega) (by omega) (by omega) (by omega) (fit c sd sn c0 c1 (by omega) (by omega) (by omega))) ?_
  have e1 := Int.mul_ediv_add_emod (a * rd) rn
  have e2 := Int.mul_ediv_add_emod (c * sd) sn
  have m1 := Int.emod_nonneg (a * rd) (show rn ≠ 0 by omega)
  have m2 := Int.emod_lt_of_pos (a * rd) (show 0 < rn by omega)
  have m3 := Int.emod_nonneg (c * sd) (show sn ≠ 0 by omega)
  have m4 := Int.emod_lt_of_pos (c * sd) (show 0 < sn by omega)
  have hA : a * rd * sn = a * rd / rn * (rn * sn) + a * rd % rn * sn := by
    generalize a * rd / rn = p at *
    generalize a * rd % rn = x at *
    rw [← e1]; grind
  have hB : c * sd * rn = c * sd / sn * (rn * sn) + c * sd % sn * rn := by
    generalize c * sd / sn = p at *
    generalize c * sd % sn = x at *
    rw [← e2]; grind
  unfold cmpR
  rw [hA, hB]
  generalize a * rd / rn = p at *
  generalize a * rd % rn = x at *
  generalize c * sd / sn = q at *
  generalize c * sd % sn = y at *
  have x0 : 0 ≤ x * sn := Int.mul_nonneg m1 (by omega)
  have y0 : 0 ≤ y * rn := Int.mul_nonneg m3 (by omega)
  have x1 : x * sn < rn * sn := Int.mul_lt_mul_of_pos_right m2 (by omega)
  have y1 : y * rn < rn * sn := by rw [Int.mul_comm rn sn]; exact Int.mul_lt_mul_of_pos_right m4 (by omega)
  have mm := mul_lt (a := rn) (b := sn) (A := 1048576) (B := 1048576) (by omega) (by omega) (by omega) (by omega)
  simp only []
  rw [w64 (x := x * sn) (by omega) (by omega), w64 (x := y * rn) (by omega) (by omega)]
  generalize x * sn = X at *
  generalize y * rn = Y at *
  generalize rn * sn = M at *
  by_cases c : p = q
  · subst c
    simp only [if_true]
    by_cases d : X < Y
    · simp only [if_pos d]
      rw [if_pos (show p * M + X < p * M + Y by omega)]
      exact Ev.now _
    · simp only [if_neg d]
      rw [if_neg (show ¬ p * M + X < p * M + Y by omega)]
      by_cases d2 : X > Y
      · simp only [if_pos d2]
        rw [if_pos (show p * M + X > p * M + Y by omega)]
        exact Ev.now _
      · simp only [if_neg d2]
        rw [if_neg (show ¬ p * M + X > p * M + Y by omega)]
        exact Ev.now _
  · simp only [if_neg c]
    by_cases d : p < q
    · have : (p + 1) * M ≤ q * M := Int.mul_le_mul_of_nonneg_right (by omega) (by omega)
      have e : (p + 1) * M = p * M + M := by grind
      simp only [if_pos d]
      rw [if_pos (show p * M + X < q * M + Y by omega)]
      exact Ev.now _
    · have : (q + 1) * M ≤ p * M := Int.mul_le_mul_of_nonneg_right (by omega) (by omega)
      have e : (q + 1) * M = q * M + M := by grind
      simp only [if_neg d]
      rw [if_neg (show ¬ p * M + X < q * M + Y by omega), if_pos (show p * M + X > q * M + Y by omega)]
      exact Ev.now _

theorem CadenceShown : cutroomlaw20_CadenceShown.Pure := by
  intro n fn fd tn td hn ha hb hc hd
  have nw := wf32 hn
  refine Ev.rounds (g := fun k => cutroomlaw20_CadenceShown.f k n fn fd tn td) ?_
  unfold cutroomlaw20_CadenceShown.f
  have out : Ev (fun k => cutroomlaw20_CadenceShown.j0 k n true fn fd tn td) true := by
    refine Ev.step (fun k => by rw [cutroomlaw20_CadenceShown.j0]) ?_
    simp only [if_true]
    refine Ev.bind awake_ev ?_
    exact Ev.now _
  refine Ev.bind (ref_usable_ev fn fd) ?_
  by_cases u1 : usable fn fd = true
  · simp only [u1, if_true]
    refine Ev.bind (ref_usable_ev tn td) ?_
    by_cases u2 : usable tn td = true
    · simp only [u2, if_true]
      by_cases b1 : fn > 200000
      · simp only [if_pos b1]; exact out
      · by_cases b2 : tn > 200000
        · simp only [if_neg b1, if_pos b2]; exact out
        · by_cases b3 : fd > 2000
          · simp only [if_neg b1, if_neg b2, if_pos b3]; exact out
          · by_cases b4 : td > 2000
            · simp only [if_neg b1, if_neg b2, if_neg b3, if_pos b4]; exact out
            · by_cases b5 : n > 268435456
              · simp only [if_neg b1, if_neg b2, if_neg b3, if_neg b4, if_pos b5]; exact out
              · simp only [if_neg b1, if_neg b2, if_neg b3, if_neg b4, if_neg b5]
                by_cases b6 : n < -268435456
                · simp only [b6, decide_true]; exact out
                · simp only [b6, decide_false]
                  refine Ev.step (fun k => by rw [cutroomlaw20_CadenceShown.j0]) ?_
                  simp only [Bool.false_eq_true, if_false]
                  rw [w64 (x := n) (by omega) (by omega)]
                  refine Ev.bind (frame_ev n fn fd tn td ha hb hc hd) ?_
                  have v1 := usable_iff.1 u1
                  have v2 := usable_iff.1 u2
                  have pr := prod_rng (a := tn) (b := fd) (A := 200000) (B := 2000) (by omega) (by omega) (by omega) (by omega)
                  have pd := prod_rng (a := td) (b := fn) (A := 2000) (B := 200000) (by omega) (by omega) (by omega) (by omega)
                  have am := abs_mul (n := n) (B := 268435456) (C := tn * fd) (by omega) (by omega) (by omega)
                  have dr := div_rng (p := n * (tn * fd)) (d := td * fn) (B := 107374182400000000) (by omega) (by omega) (by omega) (by decide)
                  obtain ⟨q, hq⟩ : ∃ q, q = n * (tn * fd) / (td * fn) := ⟨_, rfl⟩
                  have e1 : frameR n fn fd tn td = (q, 0) := by
                    unfold frameR
                    rw [if_pos ⟨u1, u2⟩, if_pos (by omega), ← hq, if_pos ⟨by unfold fits; simp only [decide_eq_true_eq]; omega, by omega⟩]
                  rw [e1]
                  simp only [if_true]
                  have out1 : Ev (fun k => cutroomlaw20_CadenceShown.j1 k n q true fn fd tn td) true := by
                    refine Ev.step (fun k => by rw [cutroomlaw20_CadenceShown.j1]) ?_
                    simp only [if_true]
                    refine Ev.bind awake_ev ?_
                    exact Ev.now _
                  by_cases q1 : q > 2147483646
                  · simp only [if_pos q1]; exact out1
                  · simp only [if_neg q1]
                    by_cases q2 : q < -2147483647
                    · simp only [q2, decide_true]; exact out1
                    · simp only [q2, decide_false]
                      refine Ev.step (fun k => by rw [cutroomlaw20_CadenceShown.j1]) ?_
                      simp only [Bool.false_eq_true, if_false]
                      rw [w64 (x := n) (by omega) (by omega), w64 (x := q + 1) (by omega) (by omega)]
                      refine Ev.bind (compare_ev q tn td n fn fd (by omega) (by omega) (by omega) (by omega) u2 u1) ?_
                      refine Ev.bind (compare_ev (q + 1) tn td n fn fd (by omega) (by omega) (by omega) (by omega) u2 u1) ?_
                      have m := Int.mul_ediv_add_emod (n * (tn * fd)) (td * fn)
                      have m0 := Int.emod_nonneg (n * (tn * fd)) (show td * fn ≠ 0 by omega)
                      have m1 := Int.emod_lt_of_pos (n * (tn * fd)) (show 0 < td * fn by omega)
                      rw [← hq] at m
                      have f1 : q * td * fn = td * fn * q := by grind
                      have f2 : (q + 1) * td * fn = td * fn * q + td * fn := by grind
                      have f3 : n * fd * tn = n * (tn * fd) := by grind
                      have g1 : cmpR q tn td n fn fd ≤ 0 := by unfold cmpR; rw [f1, f3]; split <;> (try split) <;> omega
                      have g2 : cmpR (q + 1) tn td n fn fd > 0 := by unfold cmpR; rw [f2, f3, if_neg (by omega), if_pos (by omega)]; decide
                      simp only [if_pos g1, if_pos g2]
                      refine Ev.bind awake_ev ?_
                      exact Ev.now _
    · simp only [u2, Bool.false_eq_true, if_false]; exact out
  · simp only [u1, Bool.false_eq_true, if_false]; exact out

end Go.Proofs.Ytcofjbbflcnaaaa.Pure
