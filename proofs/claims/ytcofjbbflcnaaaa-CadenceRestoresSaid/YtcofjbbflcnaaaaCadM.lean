/- What the film's frames come to: Next, Image, Picture, Frames: up to so many frames of one size, each with planes of their lengths. No condition of its own. -/
import Derived.Test.YtcofjbbflcnaaaaPx59
namespace Go.Proofs.Ytcofjbbflcnaaaa.P
open Go.RowKit Go.Proofs.YtcofjbbflcnaaaaW.PrintWords Go.Proofs.YtcofjbbflcnaaaaW.PrintLast Go.Proofs.YtcofjbbflcnaaaaW.PrintMore
set_option linter.unusedVariables false

theorem m64 {x : Int} (h0 : -9223372036854775808 ≤ x) (h1 : x < 9223372036854775808) : wrap64 x = x := by unfold wrap64; omega
theorem next_f (l : List Int) (s n : Int) (hs : 0 ≤ s) (hs' : s ≤ 1000000000000) (hn : 1 ≤ n) (hn' : n ≤ 65536) : ∃ v, cutroomfilm_Tape_Next.f l s n = some (v, s + 1) ∧ 0 ≤ v ∧ v < n := by
  have key : ∀ z : Int, 0 ≤ Int.tmod (wrap64 (Int.tmod z n + n)) n ∧ Int.tmod (wrap64 (Int.tmod z n + n)) n < n := by
    intro z
    have h1 := Int.lt_tmod_of_pos z (show 0 < n by omega)
    have h2 := Int.tmod_lt_of_pos z (show 0 < n by omega)
    rw [m64 (x := Int.tmod z n + n) (by omega) (by omega)]
    exact ⟨Int.tmod_nonneg n (by omega), Int.tmod_lt_of_pos _ (by omega)⟩
  unfold cutroomfilm_Tape_Next.f
  rw [if_neg (by omega), m64 (x := s + 1) (by omega) (by omega)]
  by_cases c : s < (l.length : Int)
  · rw [if_pos c, if_pos hs, if_neg (by omega)]
    exact ⟨_, rfl, key _⟩
  · rw [if_neg c, if_neg (by omega)]
    exact ⟨_, rfl, key _⟩

theorem image_l2 (tape : List Int) (x y : Int) (n2 : Nat) (l3 l4 : List Int) (h2 : 0 < n2) (h2' : n2 ≤ 65536) : ∀ (c : Nat) (s : Int) (l2 : List Int), l2.length = n2 → 0 ≤ s → s + 2 * c ≤ 1000000 →
    ∃ l2' s', Ev (fun k => cutroomfilm_Tape_Image.l2 k (c : Int) tape s x y l2 l3 l4) (x, y, l2', l3, l4, s') ∧ l2'.length = n2 ∧ 0 ≤ s' ∧ s' ≤ s + 2 * c := by
  intro c
  induction c with
  | zero =>
    intro s l2 hl hs hs'
    refine ⟨l2, s, Ev.step (fun k => by rw [cutroomfilm_Tape_Image.l2]) ?_, hl, hs, by omega⟩
    simp only [if_neg (show ¬ ((0 : Nat) : Int) > 0 by omega)]
    exact Ev.now _
  | succ c ih =>
    intro s l2 hl hs hs'
    obtain ⟨v1, e1, p1, p2⟩ := next_f tape s (l2.length : Int) hs (by omega) (by omega) (by omega)
    obtain ⟨v2, e2, p3, p4⟩ := next_f tape (s + 1) 256 (by omega) (by omega) (by omega) (by omega)
    have e3 : s + 1 + 1 = s + 2 := by omega
    obtain ⟨l2', s', hE, q1, q2, q3⟩ := ih (s + 2) (l2.set v1.toNat (v2 % 256)) (by simpa using hl) (by omega) (by omega)
    refine ⟨l2', s', Ev.step (fun k => by rw [cutroomfilm_Tape_Image.l2]) ?_, q1, q2, by omega⟩
    simp only [if_pos (show ((c + 1 : Nat) : Int) > 0 by omega), e1, e2, e3, Option.bind_some, if_pos p1, if_pos p2]
    rw [m64 (x := ((c + 1 : Nat) : Int) - 1) (by omega) (by omega), show ((c + 1 : Nat) : Int) - 1 = (c : Int) by omega]
    exact hE
theorem image_l1 (tape : List Int) (x y a b c : Int) (n2 n3 : Nat) (h2 : 0 < n2) (h2' : n2 ≤ 65536) (h3' : n3 ≤ 65536) (s : Int) (hs : 0 ≤ s) (hs' : s ≤ 100000) (l2 : List Int) (hl : l2.length = n2) : ∀ (d i : Nat) (l3 l4 : List Int), i + d = n3 → l3.length = n3 → l4.length = n3 →
    ∃ l2' l3' l4' s', Ev (fun k => cutroomfilm_Tape_Image.l1 k a b c (i : Int) tape s x y l2 l3 l4) (x, y, l2', l3', l4', s') ∧ l2'.length = n2 ∧ l3'.length = n3 ∧ l4'.length = n3 ∧ 0 ≤ s' ∧ s' ≤ s + 20 := by
  intro d
  induction d with
  | zero =>
    intro i l3 l4 hi h3 h4
    obtain ⟨v, e1, p1, p2⟩ := next_f tape s 5 hs (by omega) (by omega) (by omega)
    obtain ⟨l2', s', hE, q1, q2, q3⟩ := image_l2 tape x y n2 l3 l4 h2 h2' v.toNat (s + 1) l2 hl (by omega) (by omega)
    refine ⟨l2', l3, l4, s', Ev.step (fun k => by rw [cutroomfilm_Tape_Image.l1]) ?_, q1, h3, h4, q2, by omega⟩
    simp only [if_neg (show ¬ (i : Int) < (l3.length : Int) by omega), e1, Option.bind_some]
    rw [Int.toNat_of_nonneg p1] at hE
    exact hE
  | succ d ih =>
    intro i l3 l4 hi h3 h4
    obtain ⟨l2', l3', l4', s', hE, q⟩ := ih (i + 1) (l3.set (i : Int).toNat ((wrap64 ((wrap64 (128 + (wrap64 (Int.tdiv a 4)))) + (wrap64 ((Int.tmod (i : Int) 7) * c)))) % 256)) (l4.set (i : Int).toNat ((wrap64 ((wrap64 (128 - (wrap64 (Int.tdiv a 4)))) + (wrap64 ((Int.tmod (i : Int) 5) * b)))) % 256)) (by omega) (by simpa using h3) (by simpa using h4)
    refine ⟨l2', l3', l4', s', Ev.step (fun k => by rw [cutroomfilm_Tape_Image.l1]) ?_, q⟩
    simp only [if_pos (show (i : Int) < (l3.length : Int) by omega), if_pos (show (0 : Int) ≤ (i : Int) by omega), if_pos (show (i : Int) < (l4.length : Int) by omega)]
    rw [m64 (x := (i : Int) + 1) (by omega) (by omega)]
    exact hE
theorem image_l0 (tape : List Int) (x y w a b c : Int) (hw : w ≠ 0) (n2 n3 : Nat) (h2 : 0 < n2) (h2' : n2 ≤ 65536) (h3' : n3 ≤ 65536) (s : Int) (hs : 0 ≤ s) (hs' : s ≤ 100000) (l3 l4 : List Int) (h3 : l3.length = n3) (h4 : l4.length = n3) : ∀ (d i : Nat) (l2 : List Int), i + d = n2 → l2.length = n2 →
    ∃ l2' l3' l4' s', Ev (fun k => cutroomfilm_Tape_Image.l0 k w a b c (i : Int) tape s x y l2 l3 l4) (x, y, l2', l3', l4', s') ∧ l2'.length = n2 ∧ l3'.length = n3 ∧ l4'.length = n3 ∧ 0 ≤ s' ∧ s' ≤ s + 20 := by
  intro d
  induction d with
  | zero =>
    intro i l2 hi hl
    obtain ⟨l2', l3', l4', s', hE, q⟩ := image_l1 tape x y a b c n2 n3 h2 h2' h3' s hs hs' l2 hl n3 0 l3 l4 (by omega) h3 h4
    refine ⟨l2', l3', l4', s', Ev.step (fun k => by rw [cutroomfilm_Tape_Image.l0]) ?_, q⟩
    simp only [if_neg (show ¬ (i : Int) < (l2.length : Int) by omega)]
    exact hE
  | succ d ih =>
    intro i l2 hi hl
    obtain ⟨l2', l3', l4', s', hE, q⟩ := ih (i + 1) (l2.set (i : Int).toNat ((wrap64 ((wrap64 (a + (wrap64 ((Int.tmod (i : Int) w) * b)))) + (wrap64 ((wrap64 (Int.tdiv (i : Int) w)) * c)))) % 256)) (by omega) (by simpa using hl)
    refine ⟨l2', l3', l4', s', Ev.step (fun k => by rw [cutroomfilm_Tape_Image.l0]) ?_, q⟩
    simp only [if_pos (show (i : Int) < (l2.length : Int) by omega), if_neg hw, if_pos (show (0 : Int) ≤ (i : Int) by omega)]
    rw [m64 (x := (i : Int) + 1) (by omega) (by omega)]
    exact hE
/-- a frame of S by S samples -/
def FG (S : Int) (f : S52) : Prop := f.f0 = S ∧ f.f1 = S ∧ (f.f2.length : Int) = S * S ∧ (f.f3.length : Int) = S / 2 * (S / 2) ∧ (f.f4.length : Int) = S / 2 * (S / 2)
theorem picture_ev (tape : List Int) (S s : Int) (hS : S = 16 ∨ S = 32) (hs : 0 ≤ s) (hs' : s ≤ 10000) :
    ∃ a b c s', Ev (fun k => cutroomfilm_Tape_Picture.f k tape s S) (S, S, a, b, c, s') ∧ FG S ⟨S, S, a, b, c⟩ ∧ 0 ≤ s' ∧ s' ≤ s + 30 := by
  have hsz : ∃ n2 n3 : Nat, wrap64 (S * S) = (n2 : Int) ∧ wrap64 (Int.tdiv (n2 : Int) 4) = (n3 : Int) ∧ 0 < n2 ∧ n2 ≤ 65536 ∧ n3 ≤ 65536 ∧ (n2 : Int) = S * S ∧ (n3 : Int) = S / 2 * (S / 2) := by
    rcases hS with rfl | rfl
    · exact ⟨256, 64, by decide +kernel, by decide +kernel, by decide, by decide, by decide, by decide, by decide⟩
    · exact ⟨1024, 256, by decide +kernel, by decide +kernel, by decide, by decide, by decide, by decide, by decide⟩
  obtain ⟨n2, n3, z2, z3, z4, z5, z6, z7, z8⟩ := hsz
  obtain ⟨v1, e1, p1, _⟩ := next_f tape s 256 hs (by omega) (by omega) (by omega)
  obtain ⟨v2, e2, p2, _⟩ := next_f tape (s + 1) 17 (by omega) (by omega) (by omega) (by omega)
  obtain ⟨v3, e3, p3, _⟩ := next_f tape (s + 1 + 1) 9 (by omega) (by omega) (by omega) (by omega)
  obtain ⟨a, b, c, s', hE, q1, q2, q3, q4, q5⟩ := image_l0 tape S S S v1 v2 v3 (by omega) n2 n3 z4 z5 z6 (s + 1 + 1 + 1) (by omega) (by omega) (List.replicate n3 0) (List.replicate n3 0) (by simp) (by simp) n2 0 (List.replicate n2 0) (by omega) (by simp)
  refine ⟨a, b, c, s', ?_, ⟨rfl, rfl, (show (a.length : Int) = S * S by omega), (show (b.length : Int) = S / 2 * (S / 2) by omega), (show (c.length : Int) = S / 2 * (S / 2) by omega)⟩, q4, by omega⟩
  unfold cutroomfilm_Tape_Picture.f
  refine Ev.bind (a := (S, S, a, b, c, s')) ?_ (Ev.now _)
  unfold cutroomfilm_Tape_Image.f
  simp only [z2, z3, Int.toNat_natCast]
  simp only [if_pos (show (0 : Int) ≤ (n2 : Int) by omega), if_pos (show n2 ≤ 281474976710656 by omega), if_pos (show (0 : Int) ≤ (n3 : Int) by omega), if_pos (show n3 ≤ 281474976710656 by omega), e1, e2, e3, Option.bind_some]
  exact hE
theorem frames_l0 (tape : List Int) (S : Int) (hS : S = 16 ∨ S = 32) : ∀ (c : Nat) (s : Int) (xs : List S52), xs.length + c ≤ 100 → 0 ≤ s → s + 30 * c ≤ 10000 → (∀ f ∈ xs, FG S f) →
    ∃ ys, Ev (fun k => cutroomfilm_Frames.l0 k S xs (c : Int) tape s) ys ∧ ys.length = xs.length + c ∧ ∀ f ∈ ys, FG S f := by
  intro c
  induction c with
  | zero =>
    intro s xs hn hs hs' hf
    refine ⟨xs, Ev.step (fun k => by rw [cutroomfilm_Frames.l0]) ?_, by omega, hf⟩
    simp only [if_neg (show ¬ ((0 : Nat) : Int) > 0 by omega)]
    exact Ev.now _
  | succ c ih =>
    intro s xs hn hs hs' hf
    obtain ⟨a, b, d, s', hE, hg, q1, q2⟩ := picture_ev tape S s hS hs (by omega)
    obtain ⟨ys, hY, hl, hy⟩ := ih s' (xs ++ [(⟨S, S, a, b, d⟩ : S52)]) (by simp; omega) q1 (by omega) (fun f hf' => by
      rcases List.mem_append.1 hf' with h | h
      · exact hf f h
      · rw [List.mem_singleton.1 h]; exact hg)
    refine ⟨ys, Ev.step (fun k => by rw [cutroomfilm_Frames.l0]) ?_, by rw [hl]; simp; omega, hy⟩
    simp only [if_pos (show ((c + 1 : Nat) : Int) > 0 by omega)]
    refine Ev.bind hE ?_
    simp only [if_pos (show xs.length < 1599289640401 by omega)]
    rw [m64 (x := ((c + 1 : Nat) : Int) - 1) (by omega) (by omega), show ((c + 1 : Nat) : Int) - 1 = (c : Int) by omega]
    exact hY
theorem frames_ev (tape : List Int) (most : Int) (h0 : 0 ≤ most) (h1 : most ≤ 50) :
    ∃ xs S, Ev (fun k => cutroomfilm_Frames.f k tape most) xs ∧ (xs.length : Int) ≤ most ∧ (S = 16 ∨ S = 32) ∧ ∀ f ∈ xs, FG S f := by
  obtain ⟨v1, e1, p1, p1'⟩ := next_f tape 0 2 (by omega) (by omega) (by omega) (by omega)
  obtain ⟨v2, e2, p2, p2'⟩ := next_f tape (0 + 1) (most + 1) (by omega) (by omega) (by omega) (by omega)
  have hS : 16 + 16 * v1 = 16 ∨ 16 + 16 * v1 = 32 := by omega
  obtain ⟨ys, hY, hl, hy⟩ := frames_l0 tape (16 + 16 * v1) hS v2.toNat (0 + 1 + 1) [] (by simp; omega) (by omega) (by omega) (fun f h => by cases h)
  refine ⟨ys, 16 + 16 * v1, ?_, by rw [hl]; simp; omega, hS, hy⟩
  unfold cutroomfilm_Frames.f
  rw [m64 (x := most + 1) (by omega) (by omega)]
  simp only [e1, e2, Option.bind_some]
  rw [m64 (x := 16 * v1) (by omega) (by omega), m64 (x := 16 + 16 * v1) (by omega) (by omega)]
  rw [Int.toNat_of_nonneg p2] at hY
  exact hY
end Go.Proofs.Ytcofjbbflcnaaaa.P
