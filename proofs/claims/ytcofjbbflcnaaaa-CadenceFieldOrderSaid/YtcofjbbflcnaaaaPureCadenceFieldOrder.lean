/- In the woven fields the film frames follow each other without gaps, each for two or three fields, the last one for two to four. No condition of its own. -/
import Derived.Test.YtcofjbbflcnaaaaPx13
import Derived.Test.YtcofjbbflcnaaaaCadK
namespace Go.Proofs.Ytcofjbbflcnaaaa.Pure
open Go.RowKit Go.Proofs.Ytcofjbbflcnaaaa.P Go.Proofs.YtcofjbbflcnaaaaW.PrintWords Go.Proofs.YtcofjbbflcnaaaaW.PrintLast
set_option linter.unusedVariables false

section
variable {F : Int → Int} {n : Int}
/-- where the fields of film frame k begin -/
def PK (F : Int → Int) (n k : Int) : Int := if k < n then F k else 2 * (WL F n : Int)

theorem order_l0 (x0 : Int) (L : Nat) (K : Int → Int) (hL : L ≤ 256) (R : Bool) (ws : List S43) (hw : ws.length = L) (hrd : ∀ i : Int, 0 ≤ i → i < L → rd_T43 ws i = ⟨K (2 * i), K (2 * i + 1)⟩)
    (h : Ev (fun k => cutroomlaw20_CadenceFieldOrder.l1 k x0 (fl K (2 * L)) 0 0) R) : ∀ (d i : Nat), i + d = L → Ev (fun k => cutroomlaw20_CadenceFieldOrder.l0 k x0 ws (fl K (2 * i)) (i : Int)) R := by
  intro d
  induction d with
  | zero =>
    intro i hi
    refine Ev.step (fun k => by rw [cutroomlaw20_CadenceFieldOrder.l0]) ?_
    rw [hw]
    simp only [if_neg (show ¬ (i : Int) < (L : Int) by omega)]
    rw [show i = L by omega]
    exact h
  | succ d ih =>
    intro i hi
    refine Ev.step (fun k => by rw [cutroomlaw20_CadenceFieldOrder.l0]) ?_
    rw [hw]
    simp only [if_pos (show (i : Int) < (L : Int) by omega), if_pos (show (0 : Int) ≤ (i : Int) by omega), Option.bind_some]
    rw [hrd i (by omega) (by omega)]
    simp only [fl_length, List.length_cons, List.length_nil, if_pos (show 2 * i + (0 + 1 + 1) < 17592186044416 by omega)]
    rw [w64 (x := (i : Int) + 1) (by omega) (by omega)]
    have e : fl K (2 * i) ++ [K (2 * (i : Int)), K (2 * (i : Int) + 1)] = fl K (2 * (i + 1)) := by
      unfold fl
      rw [show 2 * (i + 1) = 2 * i + 1 + 1 by omega, List.range_succ, List.range_succ]
      simp
    rw [e]
    have := ih (i + 1) (by omega)
    simp only [Int.natCast_add, Int.natCast_one] at this
    exact this

theorem order_l2 (hF : ∀ a b, a ≤ b → F a ≤ F b) (h0 : F 0 = 0) (hs : ∀ k, F k + 2 ≤ F (k + 1) ∧ F (k + 1) ≤ F k + 3) (hn : 1 ≤ n) (hn' : n ≤ 256) (hL : WL F n ≤ 256) (k : Int) (hk : 0 ≤ k) (hkn : k < n)
    (hnext : Ev (fun q => cutroomlaw20_CadenceFieldOrder.l1 q n (fl (KF F n) (2 * WL F n)) (PK F n (k + 1)) (k + 1)) true) :
    ∀ (d : Nat) (j : Int), 0 ≤ j → PK F n k + j + d = PK F n (k + 1) → Ev (fun q => cutroomlaw20_CadenceFieldOrder.l2 q n (fl (KF F n) (2 * WL F n)) (PK F n k + j) k j) true := by
  have hFn : 0 ≤ F n := by have := hF 0 n (by omega); omega
  have hWL : 2 * (WL F n : Int) = F n ∨ 2 * (WL F n : Int) = F n + 1 := by unfold WL; omega
  have hpk : PK F n k = F k := by unfold PK; rw [if_pos hkn]
  have hk0 : 0 ≤ F k := by have := hF 0 k (by omega); omega
  have st := hs k
  have hm : 2 ≤ PK F n (k + 1) - PK F n k ∧ (k < n - 1 → PK F n (k + 1) - PK F n k ≤ 3) ∧ PK F n (k + 1) - PK F n k ≤ 4 ∧ (k < n - 1 → PK F n (k + 1) = F (k + 1)) ∧ PK F n (k + 1) ≤ 2 * (WL F n : Int) := by
    rw [hpk]
    unfold PK
    by_cases c : k + 1 < n
    · rw [if_pos c]
      have := hF (k + 1) n (by omega)
      exact ⟨by omega, fun _ => by omega, by omega, fun _ => rfl, by omega⟩
    · rw [if_neg c]
      have e : k + 1 = n := by omega
      rw [e] at st
      exact ⟨by omega, fun h => by omega, by omega, fun h => by omega, by omega⟩
  intro d
  induction d with
  | zero =>
    intro j hj hd
    have ej : j = PK F n (k + 1) - PK F n k := by omega
    have fin : Ev (fun q => if j < 2 then some false else if j > 3 then (if k < wrap64 (n - 1) then some false else if j > 4 then some false else cutroomlaw20_CadenceFieldOrder.l1 q n (fl (KF F n) (2 * WL F n)) (PK F n k + j) (wrap64 (k + 1))) else cutroomlaw20_CadenceFieldOrder.l1 q n (fl (KF F n) (2 * WL F n)) (PK F n k + j) (wrap64 (k + 1))) true := by
      rw [w64 (x := n - 1) (by omega) (by omega), w64 (x := k + 1) (by omega) (by omega), show PK F n k + j = PK F n (k + 1) by omega]
      simp only [if_neg (show ¬ j < 2 by omega)]
      by_cases c : j > 3
      · have : ¬ k < n - 1 := fun h => by have := hm.2.1 h; omega
        simp only [if_pos c, if_neg this, if_neg (show ¬ j > 4 by omega)]
        exact hnext
      · simp only [if_neg c]
        exact hnext
    refine Ev.step (fun q => by rw [cutroomlaw20_CadenceFieldOrder.l2]) ?_
    rw [fl_length]
    by_cases c : PK F n k + j < ((2 * WL F n : Nat) : Int)
    · simp only [if_pos c, if_pos (show 0 ≤ PK F n k + j by omega)]
      have ne : ¬ rd (fl (KF F n) (2 * WL F n)) (PK F n k + j) = k := by
        rw [rd_fl _ _ _ (by omega) c]
        intro h
        have := (KF_is hF h0 (by omega) hk (by omega)).1 h
        rcases this.2 with e | e
        · have : PK F n (k + 1) = 2 * (WL F n : Int) := by unfold PK; rw [if_neg (by omega)]
          omega
        · by_cases e2 : k < n - 1
          · have := hm.2.2.2.1 e2; omega
          · have : PK F n (k + 1) = 2 * (WL F n : Int) := by unfold PK; rw [if_neg (by omega)]
            omega
      simp only [if_neg ne]
      exact fin
    · simp only [if_neg c]
      exact fin
  | succ d ih =>
    intro j hj hd
    refine Ev.step (fun q => by rw [cutroomlaw20_CadenceFieldOrder.l2]) ?_
    rw [fl_length]
    have c : PK F n k + j < ((2 * WL F n : Nat) : Int) := by omega
    have eq : rd (fl (KF F n) (2 * WL F n)) (PK F n k + j) = k := by
      rw [rd_fl _ _ _ (by omega) c]
      refine (KF_is hF h0 (by omega) hk (by omega)).2 ⟨by omega, ?_⟩
      by_cases e2 : k < n - 1
      · have := hm.2.2.2.1 e2; exact .inr (by omega)
      · exact .inl (by omega)
    simp only [if_pos c, if_pos (show 0 ≤ PK F n k + j by omega), if_pos eq]
    rw [w64 (x := PK F n k + j + 1) (by omega) (by omega), w64 (x := j + 1) (by omega) (by omega)]
    have := ih (j + 1) (by omega) (by omega)
    rw [show PK F n k + (j + 1) = PK F n k + j + 1 by omega] at this
    exact this

theorem order_l1 (hF : ∀ a b, a ≤ b → F a ≤ F b) (h0 : F 0 = 0) (hs : ∀ k, F k + 2 ≤ F (k + 1) ∧ F (k + 1) ≤ F k + 3) (hn : 0 ≤ n) (hn' : n ≤ 256) (hL : WL F n ≤ 256) :
    ∀ (d : Nat) (k : Int), 0 ≤ k → k + d = n → Ev (fun q => cutroomlaw20_CadenceFieldOrder.l1 q n (fl (KF F n) (2 * WL F n)) (PK F n k) k) true := by
  intro d
  induction d with
  | zero =>
    intro k hk hd
    refine Ev.step (fun q => by rw [cutroomlaw20_CadenceFieldOrder.l1]) ?_
    have : PK F n k = ((2 * WL F n : Nat) : Int) := by unfold PK; rw [if_neg (by omega)]; omega
    rw [fl_length]
    simp only [if_neg (show ¬ k < n by omega), if_pos this]
    refine Ev.bind awake_ev ?_
    exact Ev.now _
  | succ d ih =>
    intro k hk hd
    refine Ev.step (fun q => by rw [cutroomlaw20_CadenceFieldOrder.l1]) ?_
    simp only [if_pos (show k < n by omega)]
    have hFn : 0 ≤ F n := by have := hF 0 n (by omega); omega
    have nx := ih (k + 1) (by omega) (by omega)
    have le : PK F n k ≤ PK F n (k + 1) := by
      unfold PK
      rw [if_pos (by omega)]
      have st := hs k
      split
      · omega
      · have := hF (k + 1) n (by omega)
        unfold WL
        omega
    have key := order_l2 hF h0 hs (by omega) hn' hL k hk (by omega) nx (PK F n (k + 1) - PK F n k).toNat 0 (by omega) (by omega)
    rw [Int.add_zero] at key
    exact key
end

theorem CadenceFieldOrder : cutroomlaw20_CadenceFieldOrder.Pure := by
  intro n fn fd vn vd hn ha hb hc hd
  have nw := wf64 hn
  refine Ev.rounds (g := fun k => cutroomlaw20_CadenceFieldOrder.f k n fn fd vn vd) ?_
  unfold cutroomlaw20_CadenceFieldOrder.f
  refine Ev.bind (weave_ev n fn fd vn vd hn ha hb hc hd) ?_
  unfold weaveR
  by_cases c1 : (tele fn fd vn vd && decide (0 ≤ n)) = false
  · rw [if_pos c1]
    simp only [if_neg (show ¬ (1 : Int) = 0 by decide), List.length_nil, if_pos (show ((0 : Nat) : Int) = 0 from rfl)]
    refine Ev.bind awake_ev ?_
    exact Ev.now _
  · rw [if_neg c1]
    have c1' : tele fn fd vn vd = true ∧ 0 ≤ n := by simpa using c1
    by_cases c2 : 256 < n ∨ 256 < (WL (FF fn fd vn vd) n : Int)
    · rw [if_pos c2]
      simp only [if_neg (show ¬ (5 : Int) = 0 by decide), List.length_nil, if_pos (show ((0 : Nat) : Int) = 0 from rfl)]
      refine Ev.bind awake_ev ?_
      exact Ev.now _
    · rw [if_neg c2]
      simp only [if_true]
      have key := order_l0 n (WL (FF fn fd vn vd) n) (KF (FF fn fd vn vd) n) (by omega) true (WW (FF fn fd vn vd) n) (by simp [WW]) (fun i h0 h1 => by
        rw [← WV_full, rd_WV _ _ _ _ h0 h1, if_pos (by omega), if_pos (by omega)]) (by
        have := order_l1 (F := FF fn fd vn vd) (n := n) (fun a b h => FF_mono c1'.1 h) (FF_zero _ _ _ _) (fun k => FF_step c1'.1 k) c1'.2 (by omega) (by omega) n.toNat 0 (by omega) (by omega)
        have e : PK (FF fn fd vn vd) n 0 = 0 := by
          unfold PK
          by_cases c : 0 < n
          · rw [if_pos c, FF_zero]
          · rw [if_neg c]; unfold WL; rw [show n = 0 by omega, FF_zero]; decide
        rw [e] at this
        exact this) (WL (FF fn fd vn vd) n) 0 (by omega)
      exact key

end Go.Proofs.Ytcofjbbflcnaaaa.Pure
