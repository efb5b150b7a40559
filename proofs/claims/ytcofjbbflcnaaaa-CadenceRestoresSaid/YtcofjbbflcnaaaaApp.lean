/- append of frames that came in onto frames that a call has made: what it leaves is a row that is read. No condition of its own. -/
import Derived.Test.YtcofjbbflcnaaaaPx0
namespace Go.Proofs.Ytcofjbbflcnaaaa.P
open Go.RowKit Go.Proofs.YtcofjbbflcnaaaaW.PrintWords Go.Proofs.YtcofjbbflcnaaaaW.PrintLast Go.Proofs.YtcofjbbflcnaaaaW.PrintMore
set_option linter.unusedVariables false
set_option linter.unusedSimpArgs false
/-- a frame whose planes came in, or are the call's own -/
def kx52 (w0 : World) : Kd S52 := Kd.iso (Kd.pair (Kd.int .i64) (Kd.pair (Kd.int .i64) (Kd.pair (Kd.mix 5 (Kd.int .u8) (Kd.int .u8) w0) (Kd.pair (Kd.mix 5 (Kd.int .u8) (Kd.int .u8) w0) (Kd.mix 5 (Kd.int .u8) (Kd.int .u8) w0))))) (fun x : S52 => (x.f0, x.f1, x.f2, x.f3, x.f4))
theorem kx52_came {w0 w : World} {base : Nat} {ok : Nat → Prop} {x : S52} {cs : List Value} (h : k52.K w0 x cs) : (kx52 w0).M w base ok x cs := by
  obtain ⟨A2, c2, A3, c3, A4, c4, rfl, l2, g2, l3, g3, l4, g4⟩ := k52_open h
  exact ⟨[.int .i64 x.f0], [.int .i64 x.f1, .slice A2 x.f2.length c2, .slice A3 x.f3.length c3, .slice A4 x.f4.length c4], rfl, rfl, ⟨[.int .i64 x.f1], [.slice A2 x.f2.length c2, .slice A3 x.f3.length c3, .slice A4 x.f4.length c4], rfl, rfl, ⟨[.slice A2 x.f2.length c2], [.slice A3 x.f3.length c3, .slice A4 x.f4.length c4], rfl, Kd.mix_came l2 g2, ⟨[.slice A3 x.f3.length c3], [.slice A4 x.f4.length c4], rfl, Kd.mix_came l3 g3, Kd.mix_came l4 g4⟩⟩⟩⟩
theorem kx52_made {w0 : World} (w : World) (base : Nat) (ok : Nat → Prop) (x : S52) (cs : List Value) (h : k52.M w base ok x cs) : (kx52 w0).M w base ok x cs := by
  obtain ⟨v2, v3, v4, rfl, g2, g3, g4⟩ := k52_openM h
  exact ⟨[.int .i64 x.f0], [.int .i64 x.f1, v2, v3, v4], rfl, rfl, ⟨[.int .i64 x.f1], [v2, v3, v4], rfl, rfl, ⟨[v2], [v3, v4], rfl, Kd.mix_made g2, ⟨[v3], [v4], rfl, Kd.mix_made g3, Kd.mix_made g4⟩⟩⟩⟩
theorem kx52_read {w0 w : World} (hb : Below w0.heap.size w0 w) (x : S52) (cs : List Value) (h : (kx52 w0).K w x cs) : k52.K w x cs := by
  obtain ⟨a, b, rfl, rfl, a1, b1, rfl, rfl, a2, b2, rfl, h2, a3, b3, rfl, h3, h4⟩ := h
  obtain ⟨A2, c2, rfl, l2, g2⟩ := Kd.mix_read rfl (fun _ _ h => h) hb h2
  obtain ⟨A3, c3, rfl, l3, g3⟩ := Kd.mix_read rfl (fun _ _ h => h) hb h3
  obtain ⟨A4, c4, rfl, l4, g4⟩ := Kd.mix_read rfl (fun _ _ h => h) hb h4
  exact k52_mk w x l2 g2 l3 g3 l4 g4
set_option maxHeartbeats 4000000 in
set_option maxRecDepth 100000 in
/-- append(v, raw...): v the call's own, raw came in; what it leaves is a row that is read -/
theorem wp_app52 {ops : Array Oper} {rest : List Oper} {o : Oper} {a : Act} {Q : Exit → Act → World → Prop} {w W : World} (hgd : o.guard = none) (s x : Operand)
    (ho : o.op = .call { callee := .builtin .append, args := #[s, x], argTypes := #[48, 48] }) {v : Value} {xs ys : List S52} {A : Option Addr} {c : Nat} (hs : a.eval s = v) (hx : a.eval x = .slice A ys.length c)
    (hv : Kd.S k52 52 W w.heap.size (fun _ => True) v xs) (hr : Kd.C k52 w A ys.length ys) (hB : Below w.heap.size w W) (hl : (xs.length + ys.length) * 88 ≤ 140737488355328)
    (h : ∀ A1 c1 w1, Kd.C k52 w1 A1 (xs ++ ys).length (xs ++ ys) → (xs ++ ys).length ≤ c1 → Below w.heap.size w w1 → wpList Try.prog ops Q rest (a.put o.dst (.slice A1 (xs ++ ys).length c1)) w1) :
    wpList Try.prog ops Q (o :: rest) a W := by
  have hv2 : Kd.R (kx52 w) 52 W w.heap.size (fun _ => True) v xs := Kd.R_imp (d := k52) (d' := kx52 w) rfl kx52_made (Kd.S_R hv)
  refine Kd.R_append_rows (P := Try.prog) (kx52 w) (Rr := k52.K w) (w0 := w) w.heap.size hgd s x 48 52 (.agg #[(.int .i64 0), (.int .i64 0), (.slice none 0 0), (.slice none 0 0), (.slice none 0 0)]) 88 ho Try.underlying48 info52 rfl (show (0 : Nat) < 5 by decide) (by decide) v xs ys A ys.length c (fun _ => True) (fun _ => False) hs hx hv2 ?_ (fun x cs hk => kx52_came hk) (fun k hk => hk.elim) (fun _ _ => trivial) hB hB.size hl ?_
  · exact ReadsRow.imp_ hr hB (fun _ _ hp => hp)
  · intro v1 w1 hR hb _ _
    obtain ⟨A1, c1, rfl, hc, hC⟩ := Kd.R_reads hR
    exact h A1 c1 w1 (Kd.C_read (d := k52) (dm := kx52 w) rfl (kx52_read hb) hC) hc hb
end Go.Proofs.Ytcofjbbflcnaaaa.P
