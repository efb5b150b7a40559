/- What the product's Scan makes of what was written: the packets, and nothing beside. No condition of its own. (a draft: NOT YET BUILT) -/
import Derived.Test.YtdndhbfagoghfaaTrT
import Derived.Test.YtdndhbfagoghfaaTrW
import Derived.Test.YtdndhbfagoghfaaPx40
import Derived.Test.YtdndhbfagoghfaaPx23
import Derived.Test.YtdndhbfagoghfaaPx22
namespace Go.Proofs.Ytdndhbfagoghfaa.P
open Go.RowKit Go.Proofs.YtdndhbfagoghfaaW.PrintWords Go.Proofs.YtdndhbfagoghfaaW.PrintLast Go.Proofs.YtdndhbfagoghfaaW.PrintMore
set_option linter.unusedVariables false
set_option linter.unusedSimpArgs false

def VS (s : S24) : Prop := VB s.f0 s.f1 s.f2 s.f3 s.f4.length
instance (s : S24) : Decidable (VS s) := by unfold VS; infer_instance
def pk (s : S24) : List Int := pkt s.f0 s.f1 s.f2 s.f3 s.f4
def cvS (s : S24) : S28 := ⟨s.f0, s.f1, s.f2, s.f3, s.f4⟩
def allB (l : List S24) : List Int := l.flatMap pk

theorem pk_len (s : S24) (h : VS s) : (pk s).length = 188 := pkt_len _ _ _ _ _ h
theorem allB_len : ∀ l : List S24, (∀ s ∈ l, VS s) → (allB l).length = 188 * l.length
  | [], _ => rfl
  | s :: l, h => by
    have := allB_len l (fun x hx => h x (List.mem_cons_of_mem _ hx))
    simp only [allB, List.flatMap_cons, List.length_append, List.length_cons] at this ⊢
    rw [pk_len s (h s (List.mem_cons_self ..)), this]; omega

/-- begins at a packet's own place: what follows begins with a sync byte, or nothing follows. -/
theorem begins_ev (pre rest : List Int) (s : S24) (h : VS s) (hp : pre.length ≤ 100000) (hr : rest.length ≤ 100000) (h71 : rest = [] ∨ rd rest 0 = 71) :
    Ev (fun k => transport_begins.f k (pre ++ (pk s ++ rest)) (pre.length : Int)) (s.f0, s.f1, s.f2, s.f3, s.f4, true) := by
  have hk := pk_len s h
  have hL : ((pre ++ (pk s ++ rest)).length : Int) = (pre.length : Int) + 188 + (rest.length : Int) := by
    rw [List.length_append, List.length_append, hk]; omega
  have r0 : rd (pre ++ (pk s ++ rest)) (pre.length : Int) = 71 := by
    unfold rd
    rw [Int.toNat_natCast, List.getD_eq_getElem?_getD, List.getElem?_append_right (Nat.le_refl _), Nat.sub_self]
    rfl
  have hw : wrap64 ((pre.length : Int) + 188) = (pre.length : Int) + 188 := w64 (by omega) (by omega)
  have ht : (((pre ++ (pk s ++ rest)).take ((pre.length : Int) + 188).toNat).drop (pre.length : Int).toNat) = pk s := by
    rw [show ((pre.length : Int) + 188).toNat = pre.length + 188 by omega, Int.toNat_natCast, ← List.append_assoc, List.take_append_of_le_length (by rw [List.length_append, hk]; exact Nat.le_refl _), List.take_of_length_le (by rw [List.length_append, hk]; exact Nat.le_refl _), List.drop_left]
  have tk : Ev (fun k => transport_Take.f k (pk s)) (s.f0, s.f1, s.f2, s.f3, s.f4, 0) := take_pkt _ _ _ _ _ h
  unfold transport_begins.f
  rw [hL, hw, r0, ht]
  simp only [if_pos (show (0 : Int) ≤ (pre.length : Int) by omega), if_pos (show (pre.length : Int) < (pre.length : Int) + 188 + (rest.length : Int) by omega), if_true, if_neg (show ¬ (pre.length : Int) + 188 > (pre.length : Int) + 188 + (rest.length : Int) by omega), if_pos (show (0 : Int) ≤ (pre.length : Int) + 188 by omega), if_pos (show (pre.length : Int) ≤ (pre.length : Int) + 188 by omega), if_pos (show (pre.length : Int) + 188 ≤ (pre.length : Int) + 188 + (rest.length : Int) by omega)]
  rcases h71 with rfl | h71
  · simp only [List.length_nil, if_neg (show ¬ (pre.length : Int) + 188 < (pre.length : Int) + 188 + ((0 : Nat) : Int) by omega)]
    refine Ev.bind tk ?_
    exact Ev.now _
  · by_cases c : rest.length = 0
    · simp only [if_neg (show ¬ (pre.length : Int) + 188 < (pre.length : Int) + 188 + (rest.length : Int) by omega)]
      refine Ev.bind tk ?_
      exact Ev.now _
    · have r1 : rd (pre ++ (pk s ++ rest)) ((pre.length : Int) + 188) = 71 := by
        rw [← h71]
        unfold rd
        rw [show ((pre.length : Int) + 188).toNat = pre.length + 188 by omega, List.getD_eq_getElem?_getD, List.getElem?_append_right (by omega), Nat.add_sub_cancel_left, List.getElem?_append_right (by omega), hk]
        rfl
      simp only [if_pos (show (pre.length : Int) + 188 < (pre.length : Int) + 188 + (rest.length : Int) by omega), r1, if_true]
      refine Ev.bind tk ?_
      exact Ev.now _

theorem allB_71 (l : List S24) (h : ∀ s ∈ l, VS s) : allB l = [] ∨ rd (allB l) 0 = 71 := by
  cases l with
  | nil => left; rfl
  | cons s l =>
    right
    show rd (pk s ++ allB l) 0 = 71
    unfold pk pkt hdr
    rfl

theorem scan_l0 (sp : List S50) : ∀ (l : List S24) (pre : List Int) (acc : List S28), (∀ s ∈ l, VS s) → pre.length + 188 * l.length ≤ 100000 → acc.length + l.length ≤ 2000 →
    Ev (fun k => transport_Scan.l0 k (pre ++ allB l) acc sp (pre.length : Int) (pre.length : Int)) (acc ++ l.map cvS, sp)
  | [], pre, acc, h, hp, _ => by
    refine Ev.step (fun k => by rw [transport_Scan.l0]) ?_
    have e : (((pre ++ allB []).length : Nat) : Int) = (pre.length : Int) := by simp [allB]
    rw [e]
    simp only [if_neg (Int.lt_irrefl (pre.length : Int)), List.map_nil, List.append_nil]
    exact Ev.now _
  | s :: l, pre, acc, h, hpl, hal => by
    have hl1 : (s :: l).length = l.length + 1 := rfl
    rw [hl1] at hpl hal
    have ha1 : (acc ++ [cvS s]).length = acc.length + 1 := by simp
    have hs := h s (List.mem_cons_self ..)
    have hr : ∀ x ∈ l, VS x := fun x hx => h x (List.mem_cons_of_mem _ hx)
    have hlen := allB_len l hr
    have hk := pk_len s hs
    have ih := scan_l0 sp l (pre ++ pk s) (acc ++ [cvS s]) hr (by rw [List.length_append, hk]; omega) (by rw [ha1]; omega)
    have e0 : pre ++ allB (s :: l) = pre ++ (pk s ++ allB l) := rfl
    have hL : (((pre ++ (pk s ++ allB l)).length : Nat) : Int) = (pre.length : Int) + 188 + 188 * (l.length : Int) := by
      rw [List.length_append, List.length_append, hk, hlen]; omega
    rw [e0]
    refine Ev.step (fun k => by rw [transport_Scan.l0]) ?_
    rw [hL]
    simp only [if_pos (show (pre.length : Int) < (pre.length : Int) + 188 + 188 * (l.length : Int) by omega)]
    refine Ev.bind (begins_ev pre (allB l) s hs (by omega) (by rw [hlen]; omega) (allB_71 l hr)) ?_
    have hw : wrap64 ((pre.length : Int) + 188) = ((pre ++ pk s).length : Int) := by
      rw [w64 (by omega) (by omega), List.length_append, hk]; omega
    simp only [if_true, if_neg (Int.lt_irrefl (pre.length : Int)), if_pos (show acc.length < 2513169434916 by omega), hw]
    rw [List.append_assoc] at ih
    rw [List.append_assoc] at ih
    exact ih

theorem scan_ev (l : List S24) (h : ∀ s ∈ l, VS s) (hl : l.length ≤ 12) : Ev (fun k => transport_Scan.f k (allB l)) (l.map cvS, []) := by
  unfold transport_Scan.f
  have := scan_l0 [] l [] [] h (by show 0 + 188 * l.length ≤ 100000; omega) (by show 0 + l.length ≤ 2000; omega)
  exact this

theorem rd24S {l : List S24} {i : Nat} (h : i < l.length) : rd_T24 l (i : Int) = l[i] := by simp [rd_T24, List.getD, h]
theorem rd28S {l : List S24} {i : Nat} (h : i < l.length) : rd_T28 (l.map cvS) (i : Int) = cvS l[i] := by simp [rd_T28, List.getD, h]

theorem few_l0 (l : List S24) (hl : l.length ≤ 12) : ∀ (m i : Nat), i + m = l.length → Ev (fun k => cutroomlaw17_few.l0 k l (i : Int)) ((l.drop i).all (fun s => decide (VS s))) := by
  intro m
  induction m with
  | zero =>
    intro i hi
    refine Ev.step (fun k => by rw [cutroomlaw17_few.l0]) ?_
    simp only [if_neg (show ¬ ((i : Nat) : Int) < (l.length : Int) by omega)]
    rw [List.drop_of_length_le (by omega)]
    exact Ev.now _
  | succ m ih =>
    intro i hi
    have hlt : i < l.length := by omega
    refine Ev.step (fun k => by rw [cutroomlaw17_few.l0]) ?_
    have hv : cutroomref17_Valid.f l[i].f0 l[i].f1 l[i].f2 l[i].f3 l[i].f4 = some (decide (VS l[i])) := ref_valid_f _ _ _ _ _
    simp only [if_pos (show ((i : Nat) : Int) < (l.length : Int) by omega), if_pos (show (0 : Int) ≤ (i : Int) by omega), rd24S hlt, hv, Option.bind_some]
    rw [w64 (by omega) (by omega)]
    by_cases c : VS l[i]
    · simp only [decide_eq_true c, if_true]
      have := ih (i + 1) (by omega)
      rw [List.drop_eq_getElem_cons hlt, List.all_cons, decide_eq_true c, Bool.true_and]
      exact this
    · simp only [decide_eq_false c, Bool.false_eq_true, if_false]
      rw [List.drop_eq_getElem_cons hlt, List.all_cons, decide_eq_false c, Bool.false_and]
      exact Ev.now _

theorem few_ev (l : List S24) : Ev (fun k => cutroomlaw17_few.f k l) (decide (l.length ≤ 12) && l.all (fun s => decide (VS s))) := by
  unfold cutroomlaw17_few.f
  by_cases c : l.length ≤ 12
  · simp only [if_neg (show ¬ (l.length : Int) > 12 by omega)]
    have := few_l0 l c l.length 0 (by omega)
    rw [decide_eq_true c, Bool.true_and]
    exact this
  · simp only [if_pos (show (l.length : Int) > 12 by omega)]
    rw [decide_eq_false c, Bool.false_and]
    exact Ev.now _

theorem written_l0 (l : List S24) (hl : l.length ≤ 12) (h : ∀ s ∈ l, VS s) : ∀ (m i : Nat), i + m = l.length → Ev (fun k => cutroomlaw17_written.l0 k l (allB (l.take i)) (i : Int)) (allB l, true) := by
  intro m
  induction m with
  | zero =>
    intro i hi
    refine Ev.step (fun k => by rw [cutroomlaw17_written.l0]) ?_
    simp only [if_neg (show ¬ ((i : Nat) : Int) < (l.length : Int) by omega)]
    rw [List.take_of_length_le (by omega)]
    exact Ev.now _
  | succ m ih =>
    intro i hi
    have hlt : i < l.length := by omega
    have hs := h _ (List.getElem_mem hlt)
    have hlen := allB_len (l.take i) (fun x hx => h x (List.mem_of_mem_take hx))
    have hk := pk_len _ hs
    refine Ev.step (fun k => by rw [cutroomlaw17_written.l0]) ?_
    simp only [if_pos (show ((i : Nat) : Int) < (l.length : Int) by omega), if_pos (show (0 : Int) ≤ (i : Int) by omega), rd24S hlt, cutroomlaw17_given.f, Option.bind_some]
    have hp := put_ev l[i].f0 l[i].f1 l[i].f2 l[i].f3 l[i].f4
    rw [if_pos (show VB l[i].f0 l[i].f1 l[i].f2 l[i].f3 l[i].f4.length from hs)] at hp
    refine Ev.bind hp ?_
    have hb : (allB (l.take i)).length + (pkt l[i].f0 l[i].f1 l[i].f2 l[i].f3 l[i].f4).length < 140737488355328 := by
      have : (pkt l[i].f0 l[i].f1 l[i].f2 l[i].f3 l[i].f4).length = 188 := hk
      rw [hlen, this, List.length_take]; omega
    simp only [if_true, if_pos hb]
    rw [w64 (by omega) (by omega)]
    have := ih (i + 1) (by omega)
    rw [List.take_succ_eq_append_getElem hlt] at this
    unfold allB at this ⊢
    rw [List.flatMap_append, List.flatMap_cons, List.flatMap_nil, List.append_nil] at this
    exact this

theorem written_ev (l : List S24) (hl : l.length ≤ 12) (h : ∀ s ∈ l, VS s) : Ev (fun k => cutroomlaw17_written.f k l) (allB l, true) := by
  unfold cutroomlaw17_written.f
  exact written_l0 l hl h l.length 0 (by omega)

theorem sameAll_l0 (l : List S24) (hl : l.length ≤ 12) : ∀ (m i : Nat), i + m = l.length → Ev (fun k => cutroomlaw17_sameAll.l0 k (l.map cvS) l (i : Int)) true := by
  intro m
  induction m with
  | zero =>
    intro i hi
    refine Ev.step (fun k => by rw [cutroomlaw17_sameAll.l0]) ?_
    simp only [List.length_map, if_neg (show ¬ ((i : Nat) : Int) < (l.length : Int) by omega)]
    exact Ev.now _
  | succ m ih =>
    intro i hi
    have hlt : i < l.length := by omega
    refine Ev.step (fun k => by rw [cutroomlaw17_sameAll.l0]) ?_
    simp only [List.length_map, if_pos (show ((i : Nat) : Int) < (l.length : Int) by omega), if_pos (show (0 : Int) ≤ (i : Int) by omega), rd28S hlt, rd24S hlt, cvS]
    unfold cutroomlaw17_same.f
    simp only [if_true, beq_self_eq_true, same_bytes, Option.bind_some]
    rw [w64 (by omega) (by omega)]
    exact ih (i + 1) (by omega)

theorem sameAll_ev (l : List S24) (hl : l.length ≤ 12) : Ev (fun k => cutroomlaw17_sameAll.f k (l.map cvS) l) true := by
  unfold cutroomlaw17_sameAll.f
  simp only [List.length_map, if_true]
  exact sameAll_l0 l hl l.length 0 (by omega)

end Go.Proofs.Ytdndhbfagoghfaa.P
