-- Written by this session's own program (wip/tools/myprint.py), which runs the kit's print with turns of its own: not a text of the kit's print.sh.
import Derived.Test.YtdndhbfagoghfaaPx0
import Derived.Test.YtdndhbfagoghfaaPx63
import Derived.Lib.SliceRun
import Derived.Lib.MakeNoZero
import Derived.Lib.SlBuf
import Derived.Laws.CopyOwn
import Derived.Deep.RegionLaw
import Derived.Test.YtdndhbfagoghfaaMul
namespace Go.Proofs.Ytdndhbfagoghfaa.P
open Go.RowKit Go.Proofs.YtdndhbfagoghfaaW.PrintWords Go.Proofs.YtdndhbfagoghfaaW.PrintLast Go.Proofs.YtdndhbfagoghfaaW.PrintMore
attribute [local go_sem] max2_int min2_int max_two min_two max_three min_three max_four min_four   -- for this text's walks alone
set_option linter.unusedVariables false
set_option linter.unusedSimpArgs false

/-! ### bytes_Repeat: function 48 (by hand) -/
-- IMPORT Derived.Lib.SliceRun
-- IMPORT Derived.Lib.MakeNoZero
-- IMPORT Derived.Lib.SlBuf
-- IMPORT Derived.Laws.CopyOwn
-- IMPORT Derived.Deep.RegionLaw
-- IMPORT Derived.Test.YtdndhbfagoghfaaMul
def bytes_Repeat.f (l0 : List Int) (a1 : Int) : Option (List Int) := if l0.length = 1 then (if 0 ≤ a1 then (if a1 ≤ 8192 then some (List.replicate a1.toNat (rd l0 0)) else none) else none) else none

theorem mul_one_f (n : Nat) (hn : n ≤ 8192) : bits_Mul.f 1 (n : Int) = some (0, (n : Int)) := by
  unfold bits_Mul.f
  rw [mul64 1 (n : Int) (by decide) (by decide) (by omega) (by omega)]
  simp only [Option.bind_some]
  rw [Int.one_mul, Int.ediv_eq_zero_of_lt (by omega) (by omega), Int.emod_eq_of_lt (by omega) (by omega)]

/-- the buffer: its first bp bytes are written -/
def RepInv (w wr : World) (x : Int) (m bp : Nat) : Prop := ∃ cur : List Value, wr.heap[w.heap.size]? = some (.cells cur.toArray 5 (0, 0)) ∧ cur.length = m ∧ cur.take bp = List.replicate bp (.int .u8 x) ∧ Below w.heap.size w wr
theorem rep_splice (cur : List Value) (v : Value) (bp n : Nat) (h : cur.take bp = List.replicate bp v) (hn : n ≤ bp) (hl : bp + n ≤ cur.length) : (splice cur bp (List.replicate n v)).take (bp + n) = List.replicate (bp + n) v := by
  unfold splice
  rw [h, List.take_append, List.length_replicate, show bp + n - bp = n by omega, List.take_of_length_le (by simp), List.take_append, List.length_replicate, Nat.sub_self, List.take_zero, List.append_nil, List.take_of_length_le (by simp), List.replicate_append_replicate]
theorem copy_first (w : World) (nd T c0 : Nat) (cs : Array Value) (ad : Addr) (x : Int) (hT : 1 ≤ T) (hle : T ≤ cs.size) (hc : w.cell? ad = some (.int .u8 x)) :
    ∃ w1, (Builtin.copy_ #[22, 22] 3 #[.slice (some ⟨w.heap.size, 0, none⟩) T T, .slice (some ad) 1 c0]).run Try.prog ((w.alloc (.cells cs 5)).drewN (nd + 2)) = .ok (.int .i64 1) w1 ∧ RepInv w w1 x cs.size 1 := by
  have hb : Below w.heap.size w ((w.alloc (.cells cs 5)).drewN (nd + 2)) := pw_below_drewN (below_alloc (Below.refl _ _) _) _
  have hg : ((w.alloc (.cells cs 5)).drewN (nd + 2)).heap[w.heap.size]? = some (.cells cs 5 (0, 0)) := heap_alloc_new w _
  have hr := run_copy_row (P := Try.prog) ((w.alloc (.cells cs 5)).drewN (nd + 2)) 22 22 3 5 w.heap.size 0 T T ad 1 c0 cs 5 [.int .u8 x] Try.underlying22 (by kernel_rfl) hg (Nat.min_eq_left hT).symm (fun j v hj => by
    cases j with
    | zero =>
      simp at hj
      subst hj
      rw [Addr.add_zero']
      exact (hb.cell (World.block_lt_of_cell? w ad hc)).trans hc
    | succ j => simp at hj) (by simp; omega) (by simp [Value.oneCell'])
  refine ⟨_, hr, splice cs.toList 0 [.int .u8 x], ?_, ?_, ?_, below_setRow hb (Nat.le_refl _) _⟩
  · simpa [splice] using setRow_heap _ w.heap.size _ _ 5 _ hg
  · rw [length_splice _ _ _ (by simp; omega)]; simp
  · simp [splice]
theorem size5 (W : World) : (sizeOf 5).run Try.prog W = .ok 1 W := by
  obtain ⟨i, hi, _⟩ := Option.map_eq_some_iff.1 info5
  rw [run_sizeOf W hi, show Try.prog.cellsOf 5 = 1 by kernel_rfl]
theorem slice_head (W : World) (G T bp : Nat) (hb : bp ≤ T) (h1 : 1 ≤ bp) :
    (Instr.slice 22 (.slice (some ⟨G, 0, none⟩) T T) none (some (.int .i64 (bp : Int))) none).run Try.prog W = .ok (.slice (some ⟨G, 0, none⟩) bp T) W := by
  rw [run_slice_h W 22 (some ⟨G, 0, none⟩) T T (by kernel_rfl) .i64 (bp : Int) (by omega) (by omega)]
  rw [show Try.prog.elem 22 = 5 by kernel_rfl, size5]
  simp only [Result.andThen, sliced, Int.toNat_natCast, Nat.sub_zero, Nat.zero_mul]
  split <;> rfl
theorem slice_tail (W : World) (G T bp : Nat) (hb : bp < T) :
    (Instr.slice 22 (.slice (some ⟨G, 0, none⟩) T T) (some (.int .i64 (bp : Int))) none none).run Try.prog W = .ok (.slice (some ⟨G, bp, none⟩) (T - bp) (T - bp)) W := by
  rw [run_slice_l W 22 (some ⟨G, 0, none⟩) T T (by kernel_rfl) .i64 (bp : Int) (by omega) (by omega)]
  rw [show Try.prog.elem 22 = 5 by kernel_rfl, size5]
  simp only [Result.andThen, sliced, Int.toNat_natCast, Nat.mul_one, if_neg (show ¬ T = bp by omega), Option.map_some, add_plain, Nat.zero_add]
theorem rep_cell0 {W : World} {G : Nat} {cur : List Value} {x : Int} {bp : Nat} (hg : W.heap[G]? = some (.cells cur.toArray 5 (0, 0))) (htk : cur.take bp = List.replicate bp (.int .u8 x)) (j : Nat) (hj : j < bp) : W.cell? ((⟨G, 0, none⟩ : Addr).add j) = some (.int .u8 x) := by
  rw [add_plain, blk_cell hg, List.getElem?_toArray]
  have := congrArg (fun z => z[j]?) htk
  simpa [List.getElem?_take, List.getElem?_replicate, hj] using this
theorem rep_cell {w wr : World} {x : Int} {m bp : Nat} (h : RepInv w wr x m bp) (j : Nat) (hj : j < bp) : wr.cell? ((⟨w.heap.size, 0, none⟩ : Addr).add j) = some (.int .u8 x) := by
  obtain ⟨cur, hg, hlen, htk, hbel⟩ := h
  exact rep_cell0 hg htk j hj
theorem rep_done {w wr : World} {x : Int} {m T : Nat} (h : RepInv w wr x m T) (hT' : T ≤ 8192) : (Kd.int .u8).V 5 wr w.heap.size (fun k => w.heap.size ≤ k) (.slice (some ⟨w.heap.size, 0, none⟩) T T) (List.replicate T x) := by
  obtain ⟨cur, hg, hlen, htk, hbel⟩ := h
  have hlt : w.heap.size < wr.heap.size := blk_lt hg
  have hF : Kd.F (Kd.int .u8) wr (fun k => w.heap.size ≤ k) (some ⟨w.heap.size, 0, none⟩) (List.replicate T x).length (List.replicate T x) := by
    intro W' hW
    refine Kd.C_of_reads (d := 0) ?_
    have hg' := (hW w.heap.size (Nat.le_refl _) hlt).trans hg
    refine ⟨rfl, by rw [List.length_replicate]; omega, fun _ => ⟨_, rfl, fun j hj => ?_⟩⟩
    rw [List.length_replicate] at hj
    rw [rep_cell0 hg' htk j hj]
    simp [List.getD, hj]
  have := Kd.V_mk (d := Kd.int .u8) (e := 5) (base := w.heap.size) (c := T) (by rw [List.length_replicate]; exact Nat.le_refl _) hF
  rwa [List.length_replicate] at this
theorem rep_next {w w4 : World} {x : Int} {m bp n : Nat} {cur : List Value} (hlen : cur.length = m) (htk : cur.take bp = List.replicate bp (.int .u8 x)) (hn : n ≤ bp) (hm : bp + n ≤ m) (hg4 : w4.heap[w.heap.size]? = some (.cells (splice cur bp (List.replicate n (.int .u8 x))).toArray 5 (0, 0))) (hb4 : Below w.heap.size w w4) : RepInv w w4 x m (bp + n) := by
  refine ⟨_, hg4, ?_, rep_splice cur _ bp n htk hn (by omega), hb4⟩
  rw [length_splice _ _ _ (by simp; omega), hlen]
theorem rep_zero (w : World) : (Kd.int .u8).V 5 (w.alloc (.cells #[] 5)) w.heap.size (fun k => w.heap.size ≤ k) (.slice (some ⟨w.heap.size, 0, none⟩) 0 0) [] :=
  Kd.V_mk (xs := ([] : List Int)) (Nat.le_refl _) (fun W' _ => ⟨rfl, by simp, fun h => absurd h (Nat.lt_irrefl 0)⟩)
set_option maxHeartbeats 4000000 in
set_option maxRecDepth 100000 in
theorem bytes_Repeat.calls (A0 : Option Addr) (c0 : Nat) (l0 : List Int) (a1 : Int) (r : List Int) (w : World) (hr0 : Kd.C (Kd.int .u8) w A0 l0.length l0) (hc0 : l0.length ≤ c0) (h : bytes_Repeat.f l0 a1 = some r) :
    Calls Try.prog 48 #[.slice A0 l0.length c0, .int .i64 a1] w fun e w' => ∃ v0_ : Value, e = .returned (v0_) ∧ Kd.V (Kd.int .u8) 5 w' w.heap.size (fun k_ => w.heap.size ≤ k_) v0_ r ∧ Below w.heap.size w w' := by
  unfold bytes_Repeat.f at h
  by_cases h1 : l0.length = 1
  · rw [if_pos h1] at h
    by_cases h2 : 0 ≤ a1
    · rw [if_pos h2] at h
      by_cases h3 : a1 ≤ 8192
      · rw [if_pos h3] at h
        obtain rfl := Option.some.inj h
        clear h
        obtain ⟨x, rfl⟩ : ∃ x, l0 = [x] := by
          match l0, h1 with
          | [x], _ => exact ⟨x, rfl⟩
        clear h1
        have hx : rd [x] 0 = x := rfl
        rw [hx]
        obtain ⟨T, rfl⟩ := Int.eq_ofNat_of_zero_le h2
        rw [Int.toNat_natCast]
        have hT : T ≤ 8192 := by omega
        obtain ⟨ad, eA, hcx⟩ := Kd.at_int hr0 0 (by omega) (by simp)
        subst eA
        have hcx0 : w.cell? ad = some (.int .u8 x) := by
          simpa [Addr.add, rd] using hcx
        clear hcx hx
        have HR := Aside0.mk hr0
        clear hr0
        simp only [List.length_cons, List.length_nil, Nat.zero_add] at hc0 ⊢
        by_cases h0 : T = 0
        · subst h0
          go_enter Try.func48, Try.ntmps48
          go_wp2
          go_ret
          exact ⟨_, rfl, rep_zero w, below_alloc (Below.refl _ _) _⟩
        · have f0 : ((T : Int) == 0) = false := beq_eq_false_iff_ne.2 (by omega)
          have f1 : decide ((T : Int) < 0) = false := decide_eq_false (by omega)
          have AM := Aside0.mk (mul_one_f T hT)
          have f2 : decide ((9223372036854775807 : Int) < (T : Int)) = false := decide_eq_false (by omega)
          have f3 : decide ((8192 : Int) < (T : Int)) = false := decide_eq_false (by omega)
          have i0 : (0 : Int) ≤ (T : Int) := by omega
          have wT : IntKind.u64.wrap (T : Int) = (T : Int) := wu (by omega) (by omega)
          go_enter Try.func48, Try.ntmps48
          have hT48 : T ≤ 281474976710656 := by omega
          have HC := Aside0.mk hcx0
          go_wp2_with (go_at_call 60; refine (bits_Mul.calls 1 (T : Int) 0 (T : Int) _ AM.out).mono ?_; rintro e w' ⟨rfl, ⟨nd, rfl⟩⟩; obtain ⟨cs, hrunM, hle, hmax⟩ := Lib.run_makeNoZero (P := Try.prog) (w.drewN nd) #[3] 22 5 Try.underlying22 T hT48; have hcall : (callFunc 61 #[.int .i64 (T : Int)]).run Try.prog (w.drewN nd) = .ok (.value (.slice (some ⟨w.heap.size, 0, none⟩) T cs.size)) ((w.alloc (.cells cs 5)).drewN (nd + 2)) := (by rw [run_callFunc_extern Try.func61 (by kernel_rfl) (by kernel_rfl) (by kernel_rfl) (e := Extern.BytealgMakeNoZero.makeNoZero #[3] #[22]) (by kernel_rfl), hrunM]; rfl); clear hrunM; have i1 : (T : Int) ≤ (cs.size : Int) := (by omega); obtain ⟨w1, hrc, hI⟩ := copy_first w nd T c0 cs ad x (by omega) hle HC.out; have HI := Aside0.mk hI; clear hI)
          clear hcall hrc f0 f1 f2 f3 wT
          go_loopg [10] T (fun g s10 wr => ∃ bp : Nat, s10 = .int .i64 bp ∧ 1 ≤ bp ∧ bp ≤ T ∧ T - bp ≤ g ∧ Aside0 (RepInv w wr x cs.size bp))
          case atStart => exact ⟨1, rfl, Nat.le_refl _, by omega, by omega, HI⟩
          case round =>
            obtain ⟨bp, rfl, hb1, hb2, hbg, HB⟩ := hrel
            by_cases hlt : bp < T
            · have hltb : decide ((bp : Int) < (T : Int)) = true := decide_eq_true (by omega)
              have hmn : min (bp : Int) (T : Int) = (bp : Int) := Int.min_eq_left (by omega)
              have hs1 := fun W => slice_tail W w.heap.size T bp hlt
              have hs2 := fun W => slice_head W w.heap.size T bp (by omega) (by omega)
              obtain ⟨cur, hg, hlen, htk, hbel⟩ := HB.out
              obtain ⟨n, hn⟩ : ∃ n, n = Nat.min bp (T - bp) := ⟨_, rfl⟩
              have hn1 : n ≤ bp := by rw [hn]; exact Nat.min_le_left _ _
              have hn2 : n ≤ T - bp := by rw [hn]; exact Nat.min_le_right _ _
              have hn3 : 1 ≤ n := by rw [hn]; exact Nat.le_min.2 ⟨hb1, by omega⟩
              have HN := Aside0.mk hn
              have HG := Aside0.mk hg
              have HL := Aside0.mk hlen
              have HT := Aside0.mk htk
              have HE := Aside0.mk hbel
              clear hn hg hlen htk hbel
              have hw1 : IntKind.i64.wrap ((bp : Int) + (n : Int)) = ((bp + n : Nat) : Int) := by rw [IntKind.wrap_i64]; omega
              have HCN := Aside0.mk (show (List.replicate n (Value.int .u8 x)).length = Nat.min bp (T - bp) by rw [List.length_replicate, HN.out])
              have HSRC : Aside0 (∀ j v, (List.replicate n (Value.int .u8 x))[j]? = some v → wr.cell? ((⟨w.heap.size, 0, none⟩ : Addr).add j) = some v) := ⟨by
                intro j v hj
                rw [List.getElem?_replicate] at hj
                split at hj
                · rw [← Option.some.inj hj]; exact rep_cell HB.out j (by omega)
                · cases hj⟩
              go_wp2
              go_region_law (refine step_copy_splice rfl (.tmp 70) (.tmp 73) 22 22 rfl 5 Try.underlying22 (by kernel_rfl) (some ⟨w.heap.size, bp, none⟩) (some ⟨w.heap.size, 0, none⟩) (T - bp) (T - bp) bp T (by simp [Act.eval, Act.put]) (by simp [Act.eval, Act.put]) w.heap.size bp cur 5 (by exact HG.out) (List.replicate n (.int .u8 x)) HCN.out (fun _ => ⟨rfl, _, rfl, by exact HSRC.out⟩) (by rw [List.length_replicate, HL.out]; omega) (by intro v hv; rw [List.eq_of_mem_replicate hv]; rfl) w.heap.size w (by first | exact HE.out | exact below_drew HE.out | exact pw_below_drewN HE.out _) (Nat.le_refl _) ?_; intro w4 hg4 hb4)
              have HI4 := Aside0.mk (rep_next HL.out HT.out hn1 (by omega) (show w4.heap[w.heap.size]? = some (.cells (splice cur bp (List.replicate n (.int .u8 x))).toArray 5 (0, 0)) from hg4) hb4)
              clear hg4 hb4
              go_wp2
              go_roundg (T - (bp + n))
              case measure => omega
              case rel => exact ⟨bp + n, by first | rfl | rw [hw1], by omega, by omega, by omega, HI4⟩
            · obtain rfl : bp = T := by omega
              have hltb : decide ((bp : Int) < (bp : Int)) = false := decide_eq_false (by omega)
              go_wp2
              go_ret
              exact ⟨_, rfl, rep_done HB.out hT, HB.out.choose_spec.2.2.2⟩
      · rw [if_neg h3] at h; cases h
    · rw [if_neg h2] at h; cases h
  · rw [if_neg h1] at h; cases h


end Go.Proofs.Ytdndhbfagoghfaa.P
