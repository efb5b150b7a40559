/- Packets behind bytes without a sync byte are all found, and the bytes are one defect. No condition of its own. -/
import Derived.Test.YtdndhbfagoghfaaPx8
import Derived.Test.YtdndhbfagoghfaaTrS
namespace Go.Proofs.Ytdndhbfagoghfaa.Pure
open Go.RowKit Go.Proofs.Ytdndhbfagoghfaa.P Go.Proofs.YtdndhbfagoghfaaW.PrintWords Go.Proofs.YtdndhbfagoghfaaW.PrintLast
set_option linter.unusedVariables false
set_option linter.unusedSimpArgs false

theorem begins_no (b : List Int) (j : Nat) (hj : j < b.length) (h : rd b (j : Int) ≠ 71) : Ev (fun k => transport_begins.f k b (j : Int)) (0, 0, false, 0, ([] : List Int), false) := by
  unfold transport_begins.f
  simp only [if_pos (show (0 : Int) ≤ (j : Int) by omega), if_pos (show (j : Int) < (b.length : Int) by omega), if_neg h]
  exact Ev.now _

theorem rd_left (x y : List Int) (j : Nat) (hj : j < x.length) : rd (x ++ y) (j : Int) = rd x (j : Int) := by
  simp [rd, List.getD, List.getElem?_append_left hj]

theorem scan_junk (x rest : List Int) (hx : ∀ j : Nat, j < x.length → rd x (j : Int) ≠ 71) (hl : x.length ≤ 1000) (r : List S28 × List S50) (hr : Ev (fun k => transport_Scan.l0 k (x ++ rest) [] [] 0 (x.length : Int)) r) :
    ∀ m j : Nat, j + m = x.length → Ev (fun k => transport_Scan.l0 k (x ++ rest) [] [] 0 (j : Int)) r := by
  intro m
  induction m with
  | zero =>
    intro j hj
    obtain rfl : j = x.length := by omega
    exact hr
  | succ m ih =>
    intro j hj
    have hlt : j < x.length := by omega
    have h1 := ih (j + 1) (by omega)
    have hL : ((x ++ rest).length : Int) = (x.length : Int) + (rest.length : Int) := by rw [List.length_append]; omega
    have hb := begins_no (x ++ rest) j (by rw [List.length_append]; omega) (by rw [rd_left x rest j hlt]; exact hx j hlt)
    refine Ev.step (fun k => by rw [transport_Scan.l0]) ?_
    rw [hL]
    simp only [if_pos (show (j : Int) < (x.length : Int) + (rest.length : Int) by omega)]
    refine Ev.bind hb ?_
    simp only [Bool.false_eq_true, if_false]
    rw [w64 (by omega) (by omega)]
    exact h1

theorem scan_behind (x : List Int) (s : S24) (l : List S24) (h : ∀ z ∈ s :: l, VS z) (hl : (s :: l).length ≤ 12) (hx : ∀ j : Nat, j < x.length → rd x (j : Int) ≠ 71) (hxl : x.length ≤ 150) (h0 : x.length ≠ 0) :
    Ev (fun k => transport_Scan.f k (x ++ allB (s :: l))) ((s :: l).map cvS, [⟨0, (x.length : Int)⟩]) := by
  unfold transport_Scan.f
  have hs := h s (List.mem_cons_self ..)
  have hr : ∀ z ∈ l, VS z := fun z hz => h z (List.mem_cons_of_mem _ hz)
  have hl1 : (s :: l).length = l.length + 1 := rfl
  have hlen := allB_len l hr
  have hk := pk_len s hs
  have key : Ev (fun k => transport_Scan.l0 k (x ++ allB (s :: l)) [] [] 0 (x.length : Int)) ((s :: l).map cvS, [⟨0, (x.length : Int)⟩]) := by
    have ih := scan_l0 [⟨0, (x.length : Int)⟩] l (x ++ pk s) [cvS s] hr (by rw [List.length_append, hk]; omega) (by show 1 + l.length ≤ 2000; omega)
    have hL : (((x ++ (pk s ++ allB l)).length : Nat) : Int) = (x.length : Int) + 188 + 188 * (l.length : Int) := by
      rw [List.length_append, List.length_append, hk, hlen]; omega
    show Ev (fun k => transport_Scan.l0 k (x ++ (pk s ++ allB l)) [] [] 0 (x.length : Int)) _
    refine Ev.step (fun k => by rw [transport_Scan.l0]) ?_
    rw [hL]
    simp only [if_pos (show (x.length : Int) < (x.length : Int) + 188 + 188 * (l.length : Int) by omega)]
    refine Ev.bind (begins_ev x (allB l) s hs (by omega) (by rw [hlen]; omega) (allB_71 l hr)) ?_
    have hw : wrap64 ((x.length : Int) + 188) = ((x ++ pk s).length : Int) := by
      rw [w64 (by omega) (by omega), List.length_append, hk]; omega
    simp only [if_true, if_pos (show (0 : Int) < (x.length : Int) by omega), List.length_nil, if_pos (show (0 : Nat) < 8796093022208 by decide), if_pos (show (0 : Nat) < 2513169434916 by decide), hw, List.nil_append]
    rw [List.append_assoc] at ih
    exact ih
  have := scan_junk x (allB (s :: l)) hx (by omega) _ key x.length 0 (by omega)
  exact this

theorem resync_tail (x : List Int) (l : List S24) (hl : l.length ≤ 12) (h0 : l ≠ []) (h : ∀ s ∈ l, VS s) (hxl : x.length ≤ 150) (hx : ∀ j : Nat, j < x.length → rd x (j : Int) ≠ 71) :
    ∀ m i : Nat, i + m = x.length → Ev (fun k => cutroomlaw17_TransportResync.l0 k x l (i : Int)) true := by
  intro m
  induction m with
  | zero =>
    intro i hi
    refine Ev.step (fun k => by rw [cutroomlaw17_TransportResync.l0]) ?_
    simp only [if_neg (show ¬ ((i : Nat) : Int) < (x.length : Int) by omega)]
    refine Ev.bind (written_ev l hl h) ?_
    have hlen := allB_len l h
    simp only [if_true, Option.bind_some, List.nil_append, List.length_nil, if_pos (show 0 + x.length < 140737488355328 by omega), if_pos (show x.length + (allB l).length < 140737488355328 by rw [hlen]; omega)]
    by_cases c : x.length = 0
    · have hx0 : x = [] := List.eq_nil_of_length_eq_zero c
      subst hx0
      simp only [List.nil_append]
      refine Ev.bind (scan_ev l h hl) ?_
      simp only [List.length_nil, Int.ofNat_zero, Int.natCast_zero, if_true]
      refine Ev.bind awake_ev ?_
      simp only [if_true]
      refine Ev.bind (sameAll_ev l hl) ?_
      exact Ev.now _
    · obtain ⟨s, l', rfl⟩ : ∃ s l', l = s :: l' := by
        cases l with
        | nil => exact absurd rfl h0
        | cons s l' => exact ⟨s, l', rfl⟩
      refine Ev.bind (scan_behind x s l' h hl hx hxl c) ?_
      simp only [if_neg (show ¬ (x.length : Int) = 0 by omega)]
      refine Ev.bind awake_ev ?_
      simp only [if_true]
      refine Ev.bind (sameAll_ev (s :: l') hl) ?_
      have e : rd_T50 [(⟨0, (x.length : Int)⟩ : S50)] 0 = ⟨0, (x.length : Int)⟩ := rfl
      simp only [e, if_true, List.length_cons, List.length_nil, if_pos (show (((0 + 1 : Nat) : Int)) = 1 by decide), if_pos (show (0 : Int) < ((0 + 1 : Nat) : Int) by decide), beq_self_eq_true]
      exact Ev.now _
  | succ m ih =>
    intro i hi
    have hlt : i < x.length := by omega
    have h1 := ih (i + 1) (by omega)
    refine Ev.step (fun k => by rw [cutroomlaw17_TransportResync.l0]) ?_
    simp only [if_pos (show ((i : Nat) : Int) < (x.length : Int) by omega), if_pos (show (0 : Int) ≤ (i : Int) by omega), if_neg (hx i hlt)]
    rw [w64 (by omega) (by omega)]
    exact h1

theorem resync_some (x : List Int) (l : List S24) (hxl : x.length ≤ 150) (j : Nat) (hj : j < x.length) (h71 : rd x (j : Int) = 71) (hmin : ∀ i : Nat, i < j → rd x (i : Int) ≠ 71) :
    ∀ m i : Nat, i + m = j → Ev (fun k => cutroomlaw17_TransportResync.l0 k x l (i : Int)) true := by
  intro m
  induction m with
  | zero =>
    intro i hi
    obtain rfl : i = j := by omega
    refine Ev.step (fun k => by rw [cutroomlaw17_TransportResync.l0]) ?_
    simp only [if_pos (show ((i : Nat) : Int) < (x.length : Int) by omega), if_pos (show (0 : Int) ≤ (i : Int) by omega), if_pos h71]
    refine Ev.bind awake_ev ?_
    exact Ev.now _
  | succ m ih =>
    intro i hi
    have h1 := ih (i + 1) (by omega)
    refine Ev.step (fun k => by rw [cutroomlaw17_TransportResync.l0]) ?_
    simp only [if_pos (show ((i : Nat) : Int) < (x.length : Int) by omega), if_pos (show (0 : Int) ≤ (i : Int) by omega), if_neg (hmin i (by omega))]
    rw [w64 (by omega) (by omega)]
    exact h1

theorem first_71 (x : List Int) : (∀ j : Nat, j < x.length → rd x (j : Int) ≠ 71) ∨ ∃ j : Nat, j < x.length ∧ rd x (j : Int) = 71 ∧ ∀ i : Nat, i < j → rd x (i : Int) ≠ 71 := by
  suffices H : ∀ n : Nat, n ≤ x.length → (∀ j : Nat, j < n → rd x (j : Int) ≠ 71) ∨ ∃ j : Nat, j < x.length ∧ rd x (j : Int) = 71 ∧ ∀ i : Nat, i < j → rd x (i : Int) ≠ 71 from H x.length (Nat.le_refl _)
  intro n
  induction n with
  | zero => intro _; exact .inl (fun j hj => absurd hj (Nat.not_lt_zero _))
  | succ n ih =>
    intro hn
    rcases ih (by omega) with h | h
    · by_cases c : rd x (n : Int) = 71
      · exact .inr ⟨n, by omega, c, h⟩
      · refine .inl (fun j hj => ?_)
        by_cases e : j = n
        · rw [e]; exact c
        · exact h j (by omega)
    · exact .inr h

theorem TransportResync : cutroomlaw17_TransportResync.Pure := by
  intro x l hx hl
  refine Ev.rounds (g := fun k => cutroomlaw17_TransportResync.f k x l) ?_
  unfold cutroomlaw17_TransportResync.f
  have aw : ∀ b : Bool, b = true → Ev (fun k => cutroomlaw17_TransportResync.j0 k x l b) true := by
    rintro b rfl
    refine Ev.step (fun k => by rw [cutroomlaw17_TransportResync.j0]) ?_
    simp only [if_true]
    refine Ev.bind awake_ev ?_
    exact Ev.now _
  by_cases c1 : x.length > 150
  · simp only [if_pos (show (x.length : Int) > 150 by omega)]
    exact aw true rfl
  · simp only [if_neg (show ¬ (x.length : Int) > 150 by omega)]
    by_cases c2 : l.length = 0
    · simp only [if_pos (show (l.length : Int) = 0 by omega)]
      exact aw true rfl
    · simp only [if_neg (show ¬ (l.length : Int) = 0 by omega)]
      refine Ev.bind (few_ev l) ?_
      by_cases c : (decide (l.length ≤ 12) && l.all (fun s => decide (VS s))) = true
      · rw [c]
        rw [Bool.and_eq_true] at c
        have d1 : l.length ≤ 12 := of_decide_eq_true c.1
        have d2 : ∀ s ∈ l, VS s := fun s hs => of_decide_eq_true (List.all_eq_true.1 c.2 s hs)
        refine Ev.step (fun k => by rw [cutroomlaw17_TransportResync.j0]) ?_
        simp only [Bool.not_true, Bool.false_eq_true, if_false]
        rcases first_71 x with h | ⟨j, hj, h71, hmin⟩
        · exact resync_tail x l d1 (fun e => c2 (by rw [e]; rfl)) d2 (by omega) h x.length 0 (by omega)
        · exact resync_some x l (by omega) j hj h71 hmin j 0 (by omega)
      · exact aw _ (by rw [Bool.eq_false_iff.2 c]; rfl)

end Go.Proofs.Ytdndhbfagoghfaa.Pure
