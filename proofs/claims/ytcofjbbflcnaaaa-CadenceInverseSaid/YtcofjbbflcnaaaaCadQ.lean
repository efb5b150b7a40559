/- Pull of a Weave's list, and Restore of it: the frames come back. No condition of its own. -/
import Derived.Test.YtcofjbbflcnaaaaCadN
import Derived.Test.YtcofjbbflcnaaaaCadL
import Derived.Test.YtcofjbbflcnaaaaPx43
namespace Go.Proofs.Ytcofjbbflcnaaaa.P
open Go.RowKit Go.Proofs.YtcofjbbflcnaaaaW.PrintWords Go.Proofs.YtcofjbbflcnaaaaW.PrintLast Go.Proofs.YtcofjbbflcnaaaaW.PrintMore
set_option linter.unusedVariables false

theorem wf_of {x : Int} (h0 : -9223372036854775808 ≤ x) (h1 : x ≤ 9223372036854775807) : (Lit.int .i64 x).wf = true := by
  simp [Lit.wf, IntKind.min, IntKind.max, IntKind.signed, IntKind.bits]
  omega
theorem wvJoin_len (wd : Nat) (a b : List Int) : (wvJoin wd a b).length = a.length := by simp [wvJoin]
theorem wvJoin_get (wd : Nat) (a b : List Int) (i : Nat) (hi : i < a.length) : (wvJoin wd a b).getD i 0 = if i / wd % 2 = 1 then b.getD i 0 else a.getD i 0 := by
  unfold wvJoin
  rw [List.getD_eq_getElem?_getD, List.getElem?_map, List.getElem?_range hi]
  rfl
/-- even lines of a out of one frame, odd lines of a out of another: a -/
theorem join_back (wd : Nat) (a b c : List Int) (hb : b.length = a.length) (hc : c.length = a.length) : wvJoin wd (wvJoin wd a b) (wvJoin wd c a) = a := by
  apply List.ext_getElem?
  intro i
  by_cases hi : i < a.length
  · have h1 : (wvJoin wd (wvJoin wd a b) (wvJoin wd c a))[i]? = some ((wvJoin wd (wvJoin wd a b) (wvJoin wd c a)).getD i 0) := by
      rw [List.getD_eq_getElem?_getD, List.getElem?_eq_getElem (by rw [wvJoin_len, wvJoin_len]; exact hi), Option.getD_some]
    rw [h1, wvJoin_get _ _ _ _ (by rw [wvJoin_len]; exact hi)]
    by_cases c1 : i / wd % 2 = 1
    · rw [if_pos c1, wvJoin_get _ _ _ _ (by omega), if_pos c1, List.getD_eq_getElem?_getD, List.getElem?_eq_getElem hi, Option.getD_some]
    · rw [if_neg c1, wvJoin_get _ _ _ _ hi, if_neg c1, List.getD_eq_getElem?_getD, List.getElem?_eq_getElem hi, Option.getD_some]
  · rw [List.getElem?_eq_none (by rw [wvJoin_len, wvJoin_len]; omega), List.getElem?_eq_none (by omega)]
theorem FG_vf {S : Int} (hS : S = 16 ∨ S = 32) {f : S52} (h : FG S f) : VF f := by
  obtain ⟨h0, h1, h2, h3, h4⟩ := h
  unfold VF
  rw [h0, h1]
  exact ⟨by omega, by omega, by omega, by omega, by omega, by omega, h2, h3, h4⟩
theorem FG_wv {S : Int} {a b : S52} (ha : FG S a) : FG S (wvF a b) := by
  obtain ⟨h0, h1, h2, h3, h4⟩ := ha
  refine ⟨h0, h1, ?_, ?_, ?_⟩
  · show ((wvJoin _ _ _).length : Int) = _; rw [wvJoin_len]; exact h2
  · show ((wvJoin _ _ _).length : Int) = _; rw [wvJoin_len]; exact h3
  · show ((wvJoin _ _ _).length : Int) = _; rw [wvJoin_len]; exact h4
theorem FG_alike {S : Int} (hS : S = 16 ∨ S = 32) {xs : List S52} (h : ∀ f ∈ xs, FG S f) : alikeB xs = true := by
  unfold alikeB
  rw [List.all_eq_true]
  intro f hf
  have hpos : 0 < xs.length := List.length_pos_of_mem hf
  have h0 : rd_T52 xs 0 ∈ xs := by
    have := rd52_get xs 0 hpos
    rw [show ((0 : Nat) : Int) = 0 from rfl] at this
    rw [this]; exact List.getElem_mem _
  have hg := h f hf
  have hg0 := h _ h0
  unfold alkB
  rw [vfB_iff.2 (FG_vf hS hg), hg.1, hg.2.1, hg0.1, hg0.2.1]
  simp
theorem wv_back {S : Int} {a b c : S52} (ha : FG S a) (hb : FG S b) (hc : FG S c) : wvF (wvF a b) (wvF c a) = a := by
  obtain ⟨a0, a1, a2, a3, a4⟩ := ha
  obtain ⟨b0, b1, b2, b3, b4⟩ := hb
  obtain ⟨c0, c1, c2, c3, c4⟩ := hc
  show (⟨a.f0, a.f1, wvJoin a.f0.toNat (wvJoin a.f0.toNat a.f2 b.f2) (wvJoin c.f0.toNat c.f2 a.f2), wvJoin (a.f0 / 2).toNat (wvJoin (a.f0 / 2).toNat a.f3 b.f3) (wvJoin (c.f0 / 2).toNat c.f3 a.f3), wvJoin (a.f0 / 2).toNat (wvJoin (a.f0 / 2).toNat a.f4 b.f4) (wvJoin (c.f0 / 2).toNat c.f4 a.f4)⟩ : S52) = a
  rw [show c.f0 = a.f0 by rw [c0, a0], join_back _ _ _ _ (by omega) (by omega), join_back _ _ _ _ (by omega) (by omega), join_back _ _ _ _ (by omega) (by omega)]
theorem fst0_spec (p : S43 → Bool) : ∀ (ws : List S43) (i : Nat), (∃ w ∈ ws, p w = true) → ∃ t : Nat, fst0 p ws (i : Int) = ((i + t : Nat) : Int) ∧ ∃ h : t < ws.length, p ws[t] = true
  | [], i, h => by obtain ⟨w, hw, _⟩ := h; cases hw
  | w :: r, i, h => by
    unfold fst0
    by_cases c : p w = true
    · rw [if_pos c]
      exact ⟨0, rfl, by simp, c⟩
    · rw [if_neg c]
      obtain ⟨w', hw', hp⟩ := h
      rcases List.mem_cons.1 hw' with rfl | hw'
      · exact absurd hp c
      · obtain ⟨t, ht, hlt, hpt⟩ := fst0_spec p r (i + 1) ⟨w', hw', hp⟩
        refine ⟨t + 1, by rw [show (i : Int) + 1 = ((i + 1 : Nat) : Int) by omega, ht]; congr 1; omega, by simp; omega, by simpa using hpt⟩
theorem mostOf_le (M : Int) : ∀ (ws : List S43) (m : Int), m ≤ M → (∀ w ∈ ws, w.f0 ≤ M ∧ w.f1 ≤ M) → mostOf ws m ≤ M
  | [], m, h, _ => h
  | w :: r, m, h, hw => mostOf_le M r _ (by have := hw w List.mem_cons_self; unfold mx; omega) (fun w' h' => hw w' (List.mem_cons_of_mem _ h'))
theorem mostOf_ge : ∀ (ws : List S43) (m : Int), m ≤ mostOf ws m
  | [], m => Int.le_refl _
  | w :: r, m => by
    have := mostOf_ge r (mx (mx m w.f0) w.f1)
    unfold mostOf
    unfold mx at this ⊢
    omega
theorem mostOf_mem : ∀ (ws : List S43) (m : Int), ∀ w ∈ ws, w.f0 ≤ mostOf ws m
  | w :: r, m, w', h => by
    unfold mostOf
    rcases List.mem_cons.1 h with rfl | h
    · have := mostOf_ge r (mx (mx m w'.f0) w'.f1)
      unfold mx at this ⊢
      omega
    · exact mostOf_mem r _ w' h
theorem weaveR_ok {n fn fd vn vd : Int} (h : (weaveR n fn fd vn vd).2 = 0) : tele fn fd vn vd = true ∧ WL (FF fn fd vn vd) n ≤ 256 ∧ weaveR n fn fd vn vd = (WW (FF fn fd vn vd) n, 0) := by
  unfold weaveR at h ⊢
  by_cases c : (tele fn fd vn vd && decide (0 ≤ n)) = false
  · rw [if_pos c] at h; exact absurd h (by decide)
  · rw [if_neg c] at h ⊢
    have c' : (tele fn fd vn vd && decide (0 ≤ n)) = true := by simpa using c
    rw [Bool.and_eq_true] at c'
    by_cases c2 : 256 < n ∨ 256 < (WL (FF fn fd vn vd) n : Int)
    · rw [if_pos c2] at h; exact absurd h (by decide)
    · rw [if_neg c2]
      exact ⟨c'.1, by omega, rfl⟩
theorem WW_get (F : Int → Int) (n : Int) (i : Nat) (hi : i < WL F n) : (WW F n)[i]? = some ⟨KF F n (2 * (i : Int)), KF F n (2 * (i : Int) + 1)⟩ := by
  unfold WW
  rw [List.getElem?_map, List.getElem?_range hi]
  rfl
/-- every film frame has a top field and a bottom field -/
theorem WW_has {F : Int → Int} (hF : ∀ a b, a ≤ b → F a ≤ F b) (h0 : F 0 = 0) (h2 : ∀ k, F k + 2 ≤ F (k + 1)) (n k : Int) (hk : 0 ≤ k) (hkn : k < n) : (∃ w ∈ WW F n, w.f0 = k) ∧ (∃ w ∈ WW F n, w.f1 = k) := by
  have m1 := hF 0 k hk
  have m2 := h2 k
  have m3 := hF (k + 1) n (by omega)
  rw [h0] at m1
  have key : ∀ f : Int, F k ≤ f → f < F (k + 1) → KF F n f = k := fun f hf1 hf2 => (KF_is hF h0 (by omega) hk (by omega)).2 ⟨hf1, .inr hf2⟩
  have hin : ∀ i : Nat, 2 * (i : Int) < F (k + 1) → i < WL F n := fun i hi => by unfold WL; omega
  constructor
  · refine ⟨_, List.mem_of_getElem? (WW_get F n ((F k + 1) / 2).toNat (hin _ (by omega))), key _ (by omega) (by omega)⟩
  · refine ⟨_, List.mem_of_getElem? (WW_get F n (F k / 2).toNat (hin _ (by omega))), key _ (by omega) (by omega)⟩
theorem WW_rng (F : Int → Int) (n : Int) (hn : 1 ≤ n) : ∀ w ∈ WW F n, 0 ≤ w.f0 ∧ w.f0 < n ∧ 0 ≤ w.f1 ∧ w.f1 < n := by
  intro w hw
  unfold WW at hw
  obtain ⟨i, _, rfl⟩ := List.mem_map.1 hw
  have a := KF_nonneg F n (2 * (i : Int))
  have b := KF_le F n (2 * (i : Int)) hn
  have c := KF_nonneg F n (2 * (i : Int) + 1)
  have d := KF_le F n (2 * (i : Int) + 1) hn
  exact ⟨a, (show KF F n (2 * (i : Int)) < n by omega), c, (show KF F n (2 * (i : Int) + 1) < n by omega)⟩
theorem WW_len (F : Int → Int) (n : Int) : (WW F n).length = WL F n := by simp [WW]
theorem WL_zero {F : Int → Int} (h0 : F 0 = 0) : WL F 0 = 0 := by unfold WL; rw [h0]; rfl
theorem rd52_map (ws : List S43) (g : S43 → S52) (t : Nat) (h : t < ws.length) : rd_T52 (ws.map g) (t : Int) = g ws[t] := by
  rw [rd52_get _ t (by simpa using h)]
  simp
theorem rest_back (xs : List S52) (S : Int) (hG : ∀ f ∈ xs, FG S f) (ws : List S43) (hr : ∀ w ∈ ws, 0 ≤ w.f0 ∧ w.f0 < (xs.length : Int) ∧ 0 ≤ w.f1 ∧ w.f1 < (xs.length : Int)) (hw : ∀ k : Int, 0 ≤ k → k < (xs.length : Int) → (∃ w ∈ ws, w.f0 = k) ∧ (∃ w ∈ ws, w.f1 = k)) :
    ∀ (d i : Nat) (acc : List S52), i + d = xs.length → restG (ws.map (fun w => wvF (rd_T52 xs w.f0) (rd_T52 xs w.f1))) ws d (i : Int) acc = (acc ++ xs.drop i, 0) := by
  intro d
  induction d with
  | zero =>
    intro i acc hi
    rw [List.drop_of_length_le (by omega), List.append_nil]
    rfl
  | succ d ih =>
    intro i acc hi
    obtain ⟨⟨w1, hw1, e1⟩, ⟨w2, hw2, e2⟩⟩ := hw (i : Int) (by omega) (by omega)
    obtain ⟨t, ht, htl, hpt⟩ := fst0_spec (fun w => decide (w.f0 = (i : Int))) ws 0 ⟨w1, hw1, decide_eq_true e1⟩
    obtain ⟨b, hb, hbl, hpb⟩ := fst0_spec (fun w => decide (w.f1 = (i : Int))) ws 0 ⟨w2, hw2, decide_eq_true e2⟩
    rw [show ((0 : Nat) : Int) = 0 from rfl, Nat.zero_add] at ht hb
    have q1 : ws[t].f0 = (i : Int) := of_decide_eq_true hpt
    have q2 : ws[b].f1 = (i : Int) := of_decide_eq_true hpb
    unfold restG
    rw [ht, hb, if_neg (by omega), if_neg (by omega), rd52_map _ _ _ htl, rd52_map _ _ _ hbl, q1, q2]
    have hgi : FG S (rd_T52 xs (i : Int)) := by rw [rd52_get xs i (by omega)]; exact hG _ (List.getElem_mem _)
    have hat : ∀ z : Int, 0 ≤ z → z < (xs.length : Int) → FG S (rd_T52 xs z) := by
      intro z z0 z1
      obtain ⟨m, rfl⟩ := Int.eq_ofNat_of_zero_le z0
      rw [rd52_get xs m (by omega)]; exact hG _ (List.getElem_mem _)
    have r1 := hr ws[t] (List.getElem_mem _)
    have r2 := hr ws[b] (List.getElem_mem _)
    rw [wv_back hgi (hat _ r1.2.2.1 r1.2.2.2) (hat _ r2.1 r2.2.1), show (i : Int) + 1 = ((i + 1 : Nat) : Int) by omega, ih (i + 1) _ (by omega), rd52_get xs i (by omega), drop_cons xs i (by omega), List.append_assoc]
    rfl
/-- Pull of a Weave's list, its length, and Restore of it -/
theorem pulled (xs : List S52) (S : Int) (hS : S = 16 ∨ S = 32) (hG : ∀ f ∈ xs, FG S f) (F : Int → Int) (hF : ∀ a b, a ≤ b → F a ≤ F b) (h0 : F 0 = 0) (h2 : ∀ k, F k + 2 ≤ F (k + 1)) (hx : xs.length ≤ 200) (hl : WL F (xs.length : Int) ≤ 256) :
    pullR xs (WW F (xs.length : Int)) = ((WW F (xs.length : Int)).map (fun w => wvF (rd_T52 xs w.f0) (rd_T52 xs w.f1)), 0) ∧ (((WW F (xs.length : Int)).map (fun w => wvF (rd_T52 xs w.f0) (rd_T52 xs w.f1))).length : Int) = ((WW F (xs.length : Int)).length : Int) ∧
    restR ((WW F (xs.length : Int)).map (fun w => wvF (rd_T52 xs w.f0) (rd_T52 xs w.f1))) (WW F (xs.length : Int)) = (xs, 0) ∧ (WW F (xs.length : Int)).length ≤ 256 := by
  have hlen := WW_len F (xs.length : Int)
  have hr : ∀ w ∈ WW F (xs.length : Int), 0 ≤ w.f0 ∧ w.f0 < (xs.length : Int) ∧ 0 ≤ w.f1 ∧ w.f1 < (xs.length : Int) := by
    by_cases c : xs.length = 0
    · intro w hw
      have : (WW F (xs.length : Int)).length = 0 := by rw [hlen, c]; exact WL_zero h0
      rw [List.eq_nil_of_length_eq_zero this] at hw
      cases hw
    · exact WW_rng F (xs.length : Int) (by omega)
  have hin : (WW F (xs.length : Int)).all (inRB xs.length) = true := List.all_eq_true.2 (fun w hw => decide_eq_true (hr w hw))
  have hnm : (WW F (xs.length : Int)).all nmB = true := List.all_eq_true.2 (fun w hw => by
    obtain ⟨r1, r2, r3, r4⟩ := hr w hw
    unfold nmB
    rw [decide_eq_true ⟨r1, by omega⟩, decide_eq_true ⟨r3, by omega⟩]
    rfl)
  have hat : ∀ z : Int, 0 ≤ z → z < (xs.length : Int) → FG S (rd_T52 xs z) := by
    intro z z0 z1
    obtain ⟨m, rfl⟩ := Int.eq_ofNat_of_zero_le z0
    rw [rd52_get xs m (by omega)]; exact hG _ (List.getElem_mem _)
  have hva : alikeB ((WW F (xs.length : Int)).map (fun w => wvF (rd_T52 xs w.f0) (rd_T52 xs w.f1))) = true := FG_alike hS (fun f hf => by
    obtain ⟨w, hw, rfl⟩ := List.mem_map.1 hf
    obtain ⟨r1, r2, r3, r4⟩ := hr w hw
    exact FG_wv (hat _ r1 r2))
  have hmost : mostOf (WW F (xs.length : Int)) (-1) = (xs.length : Int) - 1 := by
    have u := mostOf_le ((xs.length : Int) - 1) (WW F (xs.length : Int)) (-1) (by omega) (fun w hw => by have := hr w hw; omega)
    by_cases c : xs.length = 0
    · have := mostOf_ge (WW F (xs.length : Int)) (-1); omega
    · obtain ⟨⟨w, hw, e⟩, _⟩ := WW_has hF h0 h2 (xs.length : Int) ((xs.length : Int) - 1) (by omega) (by omega)
      have := mostOf_mem (WW F (xs.length : Int)) (-1) w hw
      omega
  refine ⟨?_, by rw [List.length_map], ?_, by omega⟩
  · unfold pullR
    rw [if_pos (FG_alike hS hG), if_pos hin, if_neg (by omega)]
  · unfold restR
    rw [if_pos ⟨by rw [List.length_map], hva⟩, if_pos hnm, if_neg (by omega), hmost, show ((xs.length : Int) - 1 + 1).toNat = xs.length by omega]
    have := rest_back xs S hG (WW F (xs.length : Int)) hr (fun k k0 k1 => WW_has hF h0 h2 (xs.length : Int) k k0 k1) xs.length 0 [] (by omega)
    rw [List.drop_zero, List.nil_append] at this
    exact this
theorem ref_same_self (f : S52) : cutroomref20_Same.f f.f0 f.f1 f.f2 f.f3 f.f4 f.f0 f.f1 f.f2 f.f3 f.f4 = some true := by
  unfold cutroomref20_Same.f
  rw [if_pos rfl, if_pos rfl, if_pos rfl, if_pos rfl, BEq.rfl]
theorem ref_frames_l0 (xs : List S52) (hl : xs.length ≤ 4611686018427387904) : ∀ (d i : Nat), i + d = xs.length → Ev (fun k => cutroomref20_Frames.l0 k xs xs (i : Int)) true := by
  intro d
  induction d with
  | zero =>
    intro i hi
    refine Ev.step (fun k => by rw [cutroomref20_Frames.l0]) ?_
    simp only [if_neg (show ¬ (i : Int) < (xs.length : Int) by omega)]
    exact Ev.now _
  | succ d ih =>
    intro i hi
    refine Ev.step (fun k => by rw [cutroomref20_Frames.l0]) ?_
    simp only [if_pos (show (i : Int) < (xs.length : Int) by omega), if_pos (show (0 : Int) ≤ (i : Int) by omega), ref_same_self, Option.bind_some, if_true]
    rw [m64 (x := (i : Int) + 1) (by omega) (by omega)]
    exact ih (i + 1) (by omega)
theorem ref_frames_same (xs : List S52) (hl : xs.length ≤ 4611686018427387904) : Ev (fun k => cutroomref20_Frames.f k xs xs) true := by
  unfold cutroomref20_Frames.f
  simp only [if_true]
  exact ref_frames_l0 xs hl xs.length 0 (by omega)
end Go.Proofs.Ytcofjbbflcnaaaa.P
