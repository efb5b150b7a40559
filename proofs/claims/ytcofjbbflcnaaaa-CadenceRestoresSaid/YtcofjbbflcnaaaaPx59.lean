-- Written by this session's own program (wip/tools/myprint.py), which runs the kit's print with turns of its own: not a text of the kit's print.sh.
import Derived.Test.YtcofjbbflcnaaaaPx0
import Derived.Test.YtcofjbbflcnaaaaPx58
import Derived.Test.YtcofjbbflcnaaaaPx71
namespace Go.Proofs.Ytcofjbbflcnaaaa.P
open Go.RowKit Go.Proofs.YtcofjbbflcnaaaaW.PrintWords Go.Proofs.YtcofjbbflcnaaaaW.PrintLast Go.Proofs.YtcofjbbflcnaaaaW.PrintMore
open List renaming setIfInBounds_toArray → sA, set_cons_zero → sZ, set_cons_succ → sS
open Bool renaming true → T', false → F'
open Go.Proofs.YtcofjbbflcnaaaaW.PrintWords renaming below_alloc → zA, pw_below_drewN → zN, below_drew1 → zD, blk_drewN → yN, blk_drew → yD, blk_alloc → yA, below_size → zS, below_step → zT, blk_below → yB, below_set → zP, cell_far → xF, add_block → xB, gate_callee → xC, gate_dst → xD
attribute [local go_sem] max2_int min2_int max_two min_two max_three min_three max_four min_four   -- for this text's walks alone
set_option linter.unusedVariables false
set_option linter.unusedSimpArgs false

/-! ### cutroomfilm_Tape_Picture: function 58 -/
def cutroomfilm_Tape_Picture.f (k : Nat) (s0_0 : List Int) (s0_1 : Int) (a1 : Int) : Option (Int × Int × List Int × List Int × List Int × Int) := (cutroomfilm_Tape_Image.f k s0_0 s0_1 a1 a1).bind fun bt189 => (some (bt189.1, bt189.2.1, bt189.2.2.1, bt189.2.2.2.1, bt189.2.2.2.2.1, bt189.2.2.2.2.2))
theorem cutroomfilm_Tape_Picture.mono : ∀ a0 a1 a2 k, LeO (cutroomfilm_Tape_Picture.f k a0 a1 a2) (cutroomfilm_Tape_Picture.f (k + 1) a0 a1 a2) := by
 intro a0 a1 a2 k
 unfold cutroomfilm_Tape_Picture.f
 repeat' first
   | (with_reducible exact cutroomfilm_Tape_Image.mono _ _ _ _ _)
   | (with_reducible exact LeO.refl _)
   | (with_reducible exact LeO.none _)
   | (with_reducible refine LeO.ite ?_ ?_)
   | (with_reducible refine LeO.bind ?_ (fun _ => ?_))
   | exact cutroomfilm_Tape_Image.mono _ _ _ _ _
   | exact LeO.none _
   | refine LeO.ite ?_ ?_
   | refine LeO.bind ?_ (fun _ => ?_)
set_option maxHeartbeats 8000000 in
set_option maxRecDepth 100000 in
theorem cutroomfilm_Tape_Picture.calls (k : Nat) (g : Nat) (s0_0 : List Int) (s0_1 : Int) (a1 : Int) (r1 : Int) (r2 : Int) (r3 : List Int) (r4 : List Int) (r5 : List Int) (r6 : Int) (w0 w : World) (hI : IsS72 w0 w g s0_0 s0_1) (hB : Below w0.heap.size w0 w) (h : cutroomfilm_Tape_Picture.f k s0_0 s0_1 a1 = some (r1, r2, r3, r4, r5, r6)) :
  Calls Try.prog 58 #[.pointer (some ⟨g, 0, none⟩), .int .i64 a1] w fun e w' => ∃ v2_ v3_ v4_ : Value, e = .returned (.agg #[.int .i64 r1, .int .i64 r2, v2_, v3_, v4_]) ∧ Kd.R (Kd.int .u8) 5 w' w.heap.size (fun k_ => some k_ ≠ (v3_ : Value).ownBlock ∧ some k_ ≠ (v4_ : Value).ownBlock) v2_ r3 ∧ Kd.R (Kd.int .u8) 5 w' w.heap.size (fun k_ => some k_ ≠ (v2_ : Value).ownBlock ∧ some k_ ≠ (v4_ : Value).ownBlock) v3_ r4 ∧ Kd.R (Kd.int .u8) 5 w' w.heap.size (fun k_ => some k_ ≠ (v2_ : Value).ownBlock ∧ some k_ ≠ (v3_ : Value).ownBlock) v4_ r5 ∧ IsS72 w0 w' g s0_0 r6 ∧ Below w0.heap.size w0 w' ∧ KeepBut w w' g none := by
 have hu52 := Try.underlying52
 have HI0 := Aside0.mk hI
 have HK := Aside0.mk (KeepBut.refl w g none)
 have HL := Aside0.mk hB.size
 clear hI
 have HW0 := Aside0.mk hB.size
 have HB := Aside0.mk hB
 clear hB
 have H : ((cutroomfilm_Tape_Image.f k s0_0 s0_1 a1 a1).bind fun bt189 => (some (bt189.1, bt189.2.1, bt189.2.2.1, bt189.2.2.2.1, bt189.2.2.2.2.1, bt189.2.2.2.2.2))) = some (r1, r2, r3, r4, r5, r6) := h
 clear h
 replace H := Option.bind_eq_some_iff.mp H
 obtain ⟨⟨t189, t190, t191, t194, t197, t200⟩, A30, H⟩ := H
 replace H : (some (t189, t190, t191, t194, t197, t200)) = some (r1, r2, r3, r4, r5, r6) := H
 have A3 := Aside0.mk A30
 clear A30
 simp only [Option.some.injEq, Prod.mk.injEq] at H
 obtain ⟨rfl, rfl, rfl, rfl, rfl, rfl⟩ := H
 go_enter Try.func58, Try.ntmps58
 go_wp2_with (first | ((with_reducible refine xD (N := 4) rfl ?_); refine box_event ?hg (N := 4) ?hd (cs := #[.int .i64 0, .int .i64 0, .slice none 0 0, .slice none 0 0, .slice none 0 0]) (t := 52) ?hr ?_; (case hd => rfl); (case hg => rfl); (case hr => first | (go_simp; done) | (go_simp; rfl)); intro gb188 hg w4 hbox hb; have n0_ := Aside0.mk (IsS72.below (by repeat (first | (with_reducible first | exact HI0.out | apply IsS72.alloc | apply IsS72.drewN | apply IsS72.drew | apply IsS72.set_1) | exact HI0.out)) hb); have n1_ := Aside0.mk (KeepBut.trans (by repeat (first | (with_reducible first | exact HK.out | apply KeepBut.set_ | apply keep_drewN | apply keep_drew | apply keep_alloc) | exact HK.out)) (KeepBut.of_below hb g none) (.inl rfl)); have n2_ := Aside0.mk (zT (by repeat (first | (with_reducible first | exact HB.out | apply zA | apply zN | apply zD | refine zP ?_ (IsS72.ge HI0.out)) | exact HB.out)) hb); have n3_ := Aside0.mk (hbox); have n4_ := Aside0.mk ((by rw [hg]; exact (keep_size (w := w) (g := g) (row := none) (by repeat (first | (with_reducible first | exact HK.out | apply KeepBut.set_ | apply keep_drewN | apply keep_drew | apply keep_alloc) | exact HK.out))) : w.heap.size ≤ gb188)); have n5_ := Aside0.mk ((Nat.le_trans HW0.out (by rw [hg]; exact (keep_size (w := w) (g := g) (row := none) (by repeat (first | (with_reducible first | exact HK.out | apply KeepBut.set_ | apply keep_drewN | apply keep_drew | apply keep_alloc) | exact HK.out))) : w.heap.size ≤ gb188) : w0.heap.size ≤ gb188)); have n6_ := Aside0.mk ((by rw [hg]; exact Nat.ne_of_lt (IsS72.lt (show IsS72 w0 _ g s0_0 s0_1 from by repeat (first | (with_reducible first | exact HI0.out | apply IsS72.alloc | apply IsS72.drewN | apply IsS72.drew | apply IsS72.set_1) | exact HI0.out))) : g ≠ gb188)); have n7_ := Aside0.mk ((by rw [hg]; exact Nat.ne_of_gt (IsS72.lt (show IsS72 w0 _ g s0_0 s0_1 from by repeat (first | (with_reducible first | exact HI0.out | apply IsS72.alloc | apply IsS72.drewN | apply IsS72.drew | apply IsS72.set_1) | exact HI0.out))) : gb188 ≠ g)); clear HI0; clear HK; clear HB; have HI0 := n0_; have HK := n1_; have HB := n2_; have BK188 := n3_; have GW188 := n4_; have GE188 := n5_; have NB0_188 := n6_; have NB188_0 := n7_; clear n0_ n1_ n2_ n3_ n4_ n5_ n6_ n7_; clear hb hbox hg) | ((with_reducible refine xC (f := 70) rfl ?_); refine goesL_ (some 8) rfl rfl Try.func70 (by kernel_rfl) rfl #[.pointer (some ⟨g, 0, none⟩), .int .i64 a1, .int .i64 a1] rfl (by (try simp only [List.map_toArray, List.map_cons, List.map_nil]); first | done | rfl | (simp only [List.length_drop, List.length_take]; rfl)) ?_; (with_reducible refine (cutroomfilm_Tape_Image.calls k g s0_0 s0_1 a1 a1 t189 t190 t191 t194 t197 t200 w0 _ ?side1 ?side2 A3.out).mono ?_); (case side1 => repeat (first | (with_reducible first | exact HI0.out | apply IsS72.alloc | apply IsS72.drewN | apply IsS72.drew | apply IsS72.set_1 | refine IsS72.far ?_ NB0_188.out _) | exact HI0.out)); (case side2 => repeat (first | (with_reducible first | exact HB.out | apply zA | apply zN | apply zD | refine zP ?_ (IsS72.ge HI0.out) | refine zP ?_ GE188.out) | exact HB.out)); rintro e w5 ⟨v192, v195, v198, rfl, ho0, ho1, ho2, hi, hb, hk⟩; refine ⟨_, rfl, ?_⟩; have n0_ := Aside0.mk (KeepBut.blk hk (g' := gb188) (o := .cells #[.int .i64 0, .int .i64 0, .slice none 0 0, .slice none 0 0, .slice none 0 0] 52 (0, 0)) (by (with_reducible repeat (first | refine yN ?_ _ | refine yD ?_ | refine yA ?_ _)); exact BK188.out) NB188_0.out (by simp)); have n1_ := Aside0.mk (Kd.R_lower ho0 (keep_size (w := w) (g := g) (row := none) (by repeat (first | (with_reducible first | exact HK.out | apply KeepBut.set_ | apply keep_drewN | apply keep_drew | apply keep_alloc | refine keep_far ?_ GW188.out _) | exact HK.out)))); have n2_ := Aside0.mk (Kd.R_lower ho1 (keep_size (w := w) (g := g) (row := none) (by repeat (first | (with_reducible first | exact HK.out | apply KeepBut.set_ | apply keep_drewN | apply keep_drew | apply keep_alloc | refine keep_far ?_ GW188.out _) | exact HK.out)))); have n3_ := Aside0.mk (Kd.R_lower ho2 (keep_size (w := w) (g := g) (row := none) (by repeat (first | (with_reducible first | exact HK.out | apply KeepBut.set_ | apply keep_drewN | apply keep_drew | apply keep_alloc | refine keep_far ?_ GW188.out _) | exact HK.out)))); have n4_ := Aside0.mk (KeepBut.trans (by repeat (first | (with_reducible first | exact HK.out | apply KeepBut.set_ | apply keep_drewN | apply keep_drew | apply keep_alloc | refine keep_far ?_ GW188.out _) | exact HK.out)) hk (.inl rfl)); have n5_ := Aside0.mk (hb); have n6_ := Aside0.mk (hi); clear BK188; clear HK; clear HB; clear HI0; have BK188 := n0_; have HO193 := n1_; have HO196 := n2_; have HO199 := n3_; have HK := n4_; have HB := n5_; have HI0 := n6_; clear n0_ n1_ n2_ n3_ n4_ n5_ n6_; (try clear hb); (try clear hb2); (try clear hk); (try clear hi); (try clear ho0); (try clear ho1); (try clear ho2); have hnb6 := NB188_0.out; have hnc6 := NB0_188.out; have hcz7_0 : w5.cell? ⟨gb188, 0, none⟩ = some (.int .i64 0) := (blk_cell BK188.out 0).trans rfl; have hcz7_1 : w5.cell? ⟨gb188, 1, none⟩ = some (.int .i64 0) := (blk_cell BK188.out 1).trans rfl; have hcz7_2 : w5.cell? ⟨gb188, 2, none⟩ = some (.slice none 0 0) := (blk_cell BK188.out 2).trans rfl; have hcz7_3 : w5.cell? ⟨gb188, 3, none⟩ = some (.slice none 0 0) := (blk_cell BK188.out 3).trans rfl; have hcz7_4 : w5.cell? ⟨gb188, 4, none⟩ = some (.slice none 0 0) := (blk_cell BK188.out 4).trans rfl; have hfz7_0 := blk_frozen BK188.out 0; have hfz7_1 := blk_frozen BK188.out 1; have hfz7_2 := blk_frozen BK188.out 2; have hfz7_3 := blk_frozen BK188.out 3; have hfz7_4 := blk_frozen BK188.out 4; obtain ⟨Ao8, co8, eo8⟩ := Kd.R_slice HO193.out; subst eo8; obtain ⟨Ao9, co9, eo9⟩ := Kd.R_slice HO196.out; subst eo9; obtain ⟨Ao10, co10, eo10⟩ := Kd.R_slice HO199.out; subst eo10))
 refine bodyPost_ret (results_cell_row rfl _ _ gb188 52 #[.int .i64 t189, .int .i64 t190, .slice Ao8 t191.length co8, .slice Ao9 t194.length co9, .slice Ao10 t197.length co10] (0, 0) _ rfl (by (with_reducible repeat (first | refine yN ?_ _ | refine yD ?_ | refine yA ?_ _)); refine blk_put (cs := #[.int .i64 t189, .int .i64 t190, .slice Ao8 t191.length co8, .slice Ao9 t194.length co9, .slice none 0 0]) ?_ 4 _ rfl; (with_reducible repeat (first | refine yN ?_ _ | refine yD ?_ | refine yA ?_ _)); refine blk_put (cs := #[.int .i64 t189, .int .i64 t190, .slice Ao8 t191.length co8, .slice none 0 0, .slice none 0 0]) ?_ 3 _ rfl; (with_reducible repeat (first | refine yN ?_ _ | refine yD ?_ | refine yA ?_ _)); refine blk_put (cs := #[.int .i64 t189, .int .i64 t190, .slice none 0 0, .slice none 0 0, .slice none 0 0]) ?_ 2 _ rfl; (with_reducible repeat (first | refine yN ?_ _ | refine yD ?_ | refine yA ?_ _)); refine blk_put (cs := #[.int .i64 t189, .int .i64 0, .slice none 0 0, .slice none 0 0, .slice none 0 0]) ?_ 1 _ rfl; (with_reducible repeat (first | refine yN ?_ _ | refine yD ?_ | refine yA ?_ _)); refine blk_put (cs := #[.int .i64 0, .int .i64 0, .slice none 0 0, .slice none 0 0, .slice none 0 0]) ?_ 0 _ rfl; (with_reducible repeat (first | refine yN ?_ _ | refine yD ?_ | refine yA ?_ _)); exact BK188.out) Try.underlying52 rfl (by kernel_rfl)) rfl ?_
 exact ⟨_, _, _, by first | rfl | (simp [errW_none, errW_some] <;> rfl) | (simp [*, errW_none, errW_some] <;> rfl), by (with_reducible repeat (first | apply Kd.R_alloc | apply Kd.R_drewN | apply Kd.R_drew)); exact Kd.R_mono (Kd.R_far (p := ⟨gb188, 4, none⟩) (Kd.R_far (p := ⟨gb188, 3, none⟩) (Kd.R_far (p := ⟨gb188, 2, none⟩) (Kd.R_far (p := ⟨gb188, 1, none⟩) (Kd.R_far (p := ⟨gb188, 0, none⟩) (Kd.R_types HO193.out BK188.out (by decide)) (fun _ hk => hk.2) (.int .i64 t189)) (fun _ hk => hk.2) (.int .i64 t190)) (fun _ hk => hk.2) (.slice Ao8 t191.length co8)) (fun _ hk => hk.2) (.slice Ao9 t194.length co9)) (fun _ hk => hk.2) (.slice Ao10 t197.length co10)) (fun _ hk => ⟨hk.1.1, hk.1.2⟩), by (with_reducible repeat (first | apply Kd.R_alloc | apply Kd.R_drewN | apply Kd.R_drew)); exact Kd.R_mono (Kd.R_far (p := ⟨gb188, 4, none⟩) (Kd.R_far (p := ⟨gb188, 3, none⟩) (Kd.R_far (p := ⟨gb188, 2, none⟩) (Kd.R_far (p := ⟨gb188, 1, none⟩) (Kd.R_far (p := ⟨gb188, 0, none⟩) (Kd.R_types HO196.out BK188.out (by decide)) (fun _ hk => hk.2) (.int .i64 t189)) (fun _ hk => hk.2) (.int .i64 t190)) (fun _ hk => hk.2) (.slice Ao8 t191.length co8)) (fun _ hk => hk.2) (.slice Ao9 t194.length co9)) (fun _ hk => hk.2) (.slice Ao10 t197.length co10)) (fun _ hk => ⟨hk.1.1, hk.1.2⟩), by (with_reducible repeat (first | apply Kd.R_alloc | apply Kd.R_drewN | apply Kd.R_drew)); exact Kd.R_mono (Kd.R_far (p := ⟨gb188, 4, none⟩) (Kd.R_far (p := ⟨gb188, 3, none⟩) (Kd.R_far (p := ⟨gb188, 2, none⟩) (Kd.R_far (p := ⟨gb188, 1, none⟩) (Kd.R_far (p := ⟨gb188, 0, none⟩) (Kd.R_types HO199.out BK188.out (by decide)) (fun _ hk => hk.2) (.int .i64 t189)) (fun _ hk => hk.2) (.int .i64 t190)) (fun _ hk => hk.2) (.slice Ao8 t191.length co8)) (fun _ hk => hk.2) (.slice Ao9 t194.length co9)) (fun _ hk => hk.2) (.slice Ao10 t197.length co10)) (fun _ hk => ⟨hk.1.1, hk.1.2⟩), by repeat (first | (with_reducible first | exact HI0.out | apply IsS72.alloc | apply IsS72.drewN | apply IsS72.drew | apply IsS72.set_1 | refine IsS72.far ?_ NB0_188.out _) | exact HI0.out), by repeat (first | (with_reducible first | exact HB.out | apply zA | apply zN | apply zD | refine zP ?_ (IsS72.ge HI0.out) | refine zP ?_ GE188.out) | exact HB.out), by repeat (first | (with_reducible first | exact HK.out | apply KeepBut.set_ | apply keep_drewN | apply keep_drew | apply keep_alloc | refine keep_far ?_ GW188.out _) | exact HK.out)⟩

/-! ### cutroomfilm_Frames: function 37 -/
def cutroomfilm_Frames.l0 : Nat → Int → List (S52) → Int → List Int → Int → Option ((List (S52)))
 | 0, _, _, _, _, _ => none
 | k + 1, x6, x7, x8, x202000, x202001 => if x8 > 0 then ((cutroomfilm_Tape_Picture.f k x202000 x202001 x6).bind fun bt206 => (if x7.length < 1599289640401 then (cutroomfilm_Frames.l0 k x6 (x7 ++ [(⟨bt206.1, bt206.2.1, bt206.2.2.1, bt206.2.2.2.1, bt206.2.2.2.2.1⟩ : S52)]) (wrap64 (x8 - 1)) x202000 bt206.2.2.2.2.2) else (none))) else (some x7)
def cutroomfilm_Frames.f (k : Nat) (l0 : List Int) (a1 : Int) : Option ((List (S52))) := (cutroomfilm_Tape_Next.f l0 0 2).bind fun bt202 => ((cutroomfilm_Tape_Next.f l0 bt202.2 (wrap64 (a1 + 1))).bind fun bt204 => (cutroomfilm_Frames.l0 k (wrap64 (16 + (wrap64 (16 * bt202.1)))) ([] : List (S52)) bt204.1 l0 bt204.2))
theorem cutroomfilm_Frames.mono_l : ∀ k, (∀ y0 y1 y2 y3 y4, LeO (cutroomfilm_Frames.l0 k y0 y1 y2 y3 y4) (cutroomfilm_Frames.l0 (k + 1) y0 y1 y2 y3 y4))
 | 0 => fun _ _ _ _ _ r h => by simp [cutroomfilm_Frames.l0] at h
 | k + 1 => by
  have ih0 := cutroomfilm_Frames.mono_l k
  ·intro y0 y1 y2 y3 y4
   unfold cutroomfilm_Frames.l0
   repeat' first
   | (with_reducible exact ih0 _ _ _ _ _)
   | (with_reducible exact cutroomfilm_Tape_Picture.mono _ _ _ _)
   | (with_reducible exact LeO.refl _)
   | (with_reducible exact LeO.none _)
   | (with_reducible refine LeO.ite ?_ ?_)
   | (with_reducible refine LeO.bind ?_ (fun _ => ?_))
   | exact ih0 _ _ _ _ _
   | exact cutroomfilm_Tape_Picture.mono _ _ _ _
   | exact LeO.none _
   | refine LeO.ite ?_ ?_
   | refine LeO.bind ?_ (fun _ => ?_)
theorem cutroomfilm_Frames.mono : ∀ a0 a1 k, LeO (cutroomfilm_Frames.f k a0 a1) (cutroomfilm_Frames.f (k + 1) a0 a1) := by
 intro a0 a1 k
 have ih0 := cutroomfilm_Frames.mono_l k
 unfold cutroomfilm_Frames.f
 repeat' first
   | (with_reducible exact ih0 _ _ _ _ _)
   | (with_reducible exact cutroomfilm_Tape_Picture.mono _ _ _ _)
   | (with_reducible exact LeO.refl _)
   | (with_reducible exact LeO.none _)
   | (with_reducible refine LeO.ite ?_ ?_)
   | (with_reducible refine LeO.bind ?_ (fun _ => ?_))
   | exact ih0 _ _ _ _ _
   | exact cutroomfilm_Tape_Picture.mono _ _ _ _
   | exact LeO.none _
   | refine LeO.ite ?_ ?_
   | refine LeO.bind ?_ (fun _ => ?_)
set_option maxHeartbeats 8000000 in
set_option maxRecDepth 100000 in
theorem cutroomfilm_Frames.calls (k : Nat) (A0 : Option Addr) (c0 : Nat) (l0 : List Int) (a1 : Int) (r : List (S52)) (w : World) (hr0 : Kd.C (Kd.int .i64) w A0 l0.length l0) (hc0 : l0.length ≤ c0) (h : cutroomfilm_Frames.f k l0 a1 = some r) :
  Calls Try.prog 37 #[.slice A0 l0.length c0, .int .i64 a1] w fun e w' => ∃ v0_ : Value, e = .returned (v0_) ∧ Kd.S k52 52 w' w.heap.size (fun _ => True) v0_ r ∧ Below w.heap.size w w' := by
 have hu72 := Try.underlying72
 have HR0 := Aside0.mk hr0
 have HC0 := Aside0.mk hc0
 clear hr0 hc0
 have HB := Aside0.mk (Below.refl w.heap.size w)
 have H : ((cutroomfilm_Tape_Next.f l0 0 2).bind fun bt202 => ((cutroomfilm_Tape_Next.f l0 bt202.2 (wrap64 (a1 + 1))).bind fun bt204 => (cutroomfilm_Frames.l0 k (wrap64 (16 + (wrap64 (16 * bt202.1)))) ([] : List (S52)) bt204.1 l0 bt204.2))) = some r := h
 clear h
 replace H := Option.bind_eq_some_iff.mp H
 obtain ⟨⟨t202, t203⟩, A30, H⟩ := H
 replace H : ((cutroomfilm_Tape_Next.f l0 t203 (wrap64 (a1 + 1))).bind fun bt204 => (cutroomfilm_Frames.l0 k (wrap64 (16 + (wrap64 (16 * t202)))) ([] : List (S52)) bt204.1 l0 bt204.2)) = some r := H
 have A3 := Aside0.mk A30
 clear A30
 replace H := Option.bind_eq_some_iff.mp H
 obtain ⟨⟨t204, t205⟩, A40, H⟩ := H
 replace H : (cutroomfilm_Frames.l0 k (wrap64 (16 + (wrap64 (16 * t202)))) ([] : List (S52)) t204 l0 t205) = some r := H
 have A4 := Aside0.mk A40
 clear A40
 have H' := Aside0.mk H
 clear H
 go_enter Try.func37, Try.ntmps37
 go_wp2_with (first | ((with_reducible refine xD (N := 11) rfl ?_); refine box_event ?hg (N := 11) ?hd (cs := #[.slice A0 l0.length c0, .int .i64 0]) (t := 72) ?hr ?_; (case hd => rfl); (case hg => rfl); (case hr => first | (go_simp; done) | (go_simp; rfl)); intro g201 hg w5 hbox hb; have n0_ := Aside0.mk (zT (by repeat (first | (with_reducible first | exact HB.out | apply zA | apply zN | apply zD) | exact HB.out)) hb); have n1_ := Aside0.mk ((show IsS72 w w5 g201 l0 0 from ⟨_, _, hbox, (by rw [hg]; exact (zS (by repeat (first | (with_reducible first | exact HB.out | apply zA | apply zN | apply zD) | exact HB.out))) : w.heap.size ≤ g201), HR0.out⟩)); clear HB; have HB := n0_; have HI201 := n1_; clear n0_ n1_; clear hb hbox hg) | ((with_reducible refine xC (f := 57) rfl ?_); refine goesL_ (some 13) rfl rfl Try.func57 (by kernel_rfl) rfl #[.pointer (some ⟨g201, 0, none⟩), .int .i64 2] rfl (by (try simp only [List.map_toArray, List.map_cons, List.map_nil]); first | done | rfl | (simp only [List.length_drop, List.length_take]; rfl)) ?_; (with_reducible refine (cutroomfilm_Tape_Next.calls g201 l0 0 2 t202 t203 w _ ?side1 ?side2 A3.out).mono ?_); (case side1 => repeat (first | (with_reducible first | exact HI201.out | apply IsS72.alloc | apply IsS72.drewN | apply IsS72.drew | apply IsS72.set_1) | exact HI201.out)); (case side2 => repeat (first | (with_reducible first | exact HB.out | apply zA | apply zN | apply zD | refine zP ?_ (IsS72.ge HI201.out)) | exact HB.out)); rintro e w6 ⟨rfl, hi, hb, hk⟩; refine ⟨_, rfl, ?_⟩; have n0_ := Aside0.mk (hb); have n1_ := Aside0.mk (hi); clear HB; clear HI201; have HB := n0_; have HI201 := n1_; clear n0_ n1_; (try clear hb); (try clear hb2); (try clear hk); (try clear hi)) | ((with_reducible refine xC (f := 57) rfl ?_); refine goesL_ (some 19) rfl rfl Try.func57 (by kernel_rfl) rfl #[.pointer (some ⟨g201, 0, none⟩), .int .i64 (wrap64 (a1 + 1))] rfl (by (try simp only [List.map_toArray, List.map_cons, List.map_nil]); first | done | rfl | (simp only [List.length_drop, List.length_take]; rfl)) ?_; (with_reducible refine (cutroomfilm_Tape_Next.calls g201 l0 t203 (wrap64 (a1 + 1)) t204 t205 w _ ?side1 ?side2 A4.out).mono ?_); (case side1 => repeat (first | (with_reducible first | exact HI201.out | apply IsS72.alloc | apply IsS72.drewN | apply IsS72.drew | apply IsS72.set_1) | exact HI201.out)); (case side2 => repeat (first | (with_reducible first | exact HB.out | apply zA | apply zN | apply zD | refine zP ?_ (IsS72.ge HI201.out)) | exact HB.out)); rintro e w7 ⟨rfl, hi, hb, hk⟩; refine ⟨_, rfl, ?_⟩; have n0_ := Aside0.mk (hb); have n1_ := Aside0.mk (hi); clear HB; clear HI201; have HB := n0_; have HI201 := n1_; clear n0_ n1_; (try clear hb); (try clear hb2); (try clear hk); (try clear hi)))
 go_loopg [7, 8] k (fun kq v7 v8 w' => ∃ (x7_1 : List (S52)) (x8_1 : Int) (x202001_1 : Int), v8 = .int .i64 x8_1 ∧ Aside0 (cutroomfilm_Frames.l0 kq (wrap64 (16 + (wrap64 (16 * t202)))) x7_1 x8_1 l0 x202001_1 = some r) ∧ Aside0 (kq ≤ k) ∧ Aside0 (Kd.S k52 52 w' w.heap.size (fun _ => True) v7 x7_1) ∧ Aside0 (IsS72 w w' g201 l0 x202001_1) ∧ Aside0 (Below w.heap.size w w'))
 case atStart => exact ⟨(([] : List (S52))), (t204), (t205), (by first | rfl | (simp; done) | (simp [*]; done)), H', ⟨Nat.le_refl _⟩, ⟨by first | exact Kd.S_nil _ _ _ _ _ | exact Kd.N_nil _ _ _ _ _ | exact Kd.V_nil _ _ _ _ _ | exact Kd.Q_nil _ _ _ _ _ | exact Kd.R_nil _ _ _ _ _⟩, ⟨by repeat (first | (with_reducible first | exact HI201.out | apply IsS72.alloc | apply IsS72.drewN | apply IsS72.drew | apply IsS72.set_1) | exact HI201.out)⟩, ⟨by repeat (first | (with_reducible first | exact HB.out | apply zA | apply zN | apply zD | refine zP ?_ (IsS72.ge HI201.out)) | exact HB.out)⟩⟩
 case round =>
  clear H'
  (try clear p2);(try clear c3);(try clear c5);(try clear p6)
  obtain ⟨x7_1, x8_1, x202001_1, rfl, HA, HK1, HO_7, HI201, HB⟩ := hrel
  cases gk with
  | zero => exact absurd HA.out (by simp [cutroomfilm_Frames.l0])
  | succ k1 =>
   have H := HA.out
   clear HA
   simp only [cutroomfilm_Frames.l0] at H
   by_cases c8 : x8_1 > 0
   ·rw [if_pos c8] at H
    have c8b0 : decide (0 < x8_1) = true := decide_eq_true c8
    clear c8
    replace H := Option.bind_eq_some_iff.mp H
    obtain ⟨⟨t206, t207, t208, t211, t214, t217⟩, A90, H⟩ := H
    replace H : (if x7_1.length < 1599289640401 then (cutroomfilm_Frames.l0 k1 (wrap64 (16 + (wrap64 (16 * t202)))) (x7_1 ++ [(⟨t206, t207, t208, t211, t214⟩ : S52)]) (wrap64 (x8_1 - 1)) l0 t217) else (none)) = some r := H
    have A9 := Aside0.mk A90
    clear A90
    by_cases c10 : x7_1.length < 1599289640401
    ·rw [if_pos c10] at H
     have LMc10 := Aside0.mk c10
     clear c10
     obtain ⟨y218, hy218⟩ : ∃ y_ : List (S52), y_ = (x7_1 ++ [(⟨t206, t207, t208, t211, t214⟩ : S52)]) := ⟨_, rfl⟩
     replace H : (cutroomfilm_Frames.l0 k1 (wrap64 (16 + (wrap64 (16 * t202)))) y218 (wrap64 (x8_1 - 1)) l0 t217) = some r := by first | (rw [hy218]; with_reducible exact H) | (have H2_ := (Option.bind_some _ _).symm.trans H; rw [hy218]; with_reducible exact H2_) | (have H2_ := (Option.bind_some _ _).symm.trans H; with_reducible exact H2_) | with_reducible exact H | (rw [hy218]; exact H) | exact H
     have Ny218 := Aside0.mk hy218
     clear hy218
     have H' := Aside0.mk H
     clear H
     go_wp2_with (first | ((with_reducible refine xC (f := 58) rfl ?_); refine goesL_ (some 27) rfl rfl Try.func58 (by kernel_rfl) rfl #[.pointer (some ⟨g201, 0, none⟩), .int .i64 (wrap64 (16 + (wrap64 (16 * t202))))] rfl (by (try simp only [List.map_toArray, List.map_cons, List.map_nil]); first | done | rfl | (simp only [List.length_drop, List.length_take]; rfl)) ?_; (with_reducible refine (cutroomfilm_Tape_Picture.calls k1 g201 l0 x202001_1 (wrap64 (16 + (wrap64 (16 * t202)))) t206 t207 t208 t211 t214 t217 w _ ?side1 ?side2 A9.out).mono ?_); (case side1 => repeat (first | (with_reducible first | exact HI201.out | apply IsS72.alloc | apply IsS72.drewN | apply IsS72.drew | apply IsS72.set_1) | exact HI201.out)); (case side2 => repeat (first | (with_reducible first | exact HB.out | apply zA | apply zN | apply zD | refine zP ?_ (IsS72.ge HI201.out)) | exact HB.out)); rintro e w11 ⟨v209, v212, v215, rfl, ho0, ho1, ho2, hi, hb, hk⟩; refine ⟨_, rfl, ?_⟩; have n0_ := Aside0.mk (Kd.S_mono (Kd.S_told (Kd.S_told (Kd.S_told (Kd.S_oldK (IsS72.apartS (show IsS72 w _ g201 l0 x202001_1 from by repeat (first | (with_reducible first | exact HI201.out | apply IsS72.alloc | apply IsS72.drewN | apply IsS72.drew | apply IsS72.set_1) | exact HI201.out)) (by (with_reducible repeat (first | apply Kd.S_alloc | apply Kd.S_drewN | apply Kd.S_drew)); exact HO_7.out) (by decide)) hk) (Kd.R_base ho0)) (Kd.R_base ho1)) (Kd.R_base ho2)) (fun _ h_ => h_.1)); have n1_ := Aside0.mk (Kd.R_lower ho0 (zS (by repeat (first | (with_reducible first | exact HB.out | apply zA | apply zN | apply zD | refine zP ?_ (IsS72.ge HI201.out)) | exact HB.out)))); have n2_ := Aside0.mk (Kd.R_lower ho1 (zS (by repeat (first | (with_reducible first | exact HB.out | apply zA | apply zN | apply zD | refine zP ?_ (IsS72.ge HI201.out)) | exact HB.out)))); have n3_ := Aside0.mk (Kd.R_lower ho2 (zS (by repeat (first | (with_reducible first | exact HB.out | apply zA | apply zN | apply zD | refine zP ?_ (IsS72.ge HI201.out)) | exact HB.out)))); have n4_ := Aside0.mk (hb); have n5_ := Aside0.mk (hi); clear HO_7; clear HB; clear HI201; have HO_7 := n0_; have HO210 := n1_; have HO213 := n2_; have HO216 := n3_; have HB := n4_; have HI201 := n5_; clear n0_ n1_ n2_ n3_ n4_ n5_; (try clear hb); (try clear hb2); (try clear hk); (try clear hi); (try clear ho0); (try clear ho1); (try clear ho2); obtain ⟨Ao13, co13, eo13⟩ := Kd.R_slice HO210.out; subst eo13; obtain ⟨Ao14, co14, eo14⟩ := Kd.R_slice HO213.out; subst eo14; obtain ⟨Ao15, co15, eo15⟩ := Kd.R_slice HO216.out; subst eo15) | ((with_reducible refine gate_builtin (b := .append) (xs := #[.tmp 24, .tmp 28]) rfl ?_); at_builtin; refine Kd.S_append k52 (w0 := w) w.heap.size rfl (.tmp 24) (.tmp 28) 48 52 (.agg #[(.int .i64 0), (.int .i64 0), (.slice none 0 0), (.slice none 0 0), (.slice none 0 0)]) 88 rfl Try.underlying48 info52 rfl (by decide) (by omega) u7 x7_1 (⟨t206, t207, t208, t211, t214⟩ : S52) [.int .i64 t206, .int .i64 t207, .slice Ao13 t208.length co13, .slice Ao14 t211.length co14, .slice Ao15 t214.length co15] (fun _ => True) (fun k_ => some k_ = (.slice Ao13 t208.length co13 : Value).ownBlock ∨ some k_ = (.slice Ao14 t211.length co14 : Value).ownBlock ∨ some k_ = (.slice Ao15 t214.length co15 : Value).ownBlock) rfl rfl ?aP (fun k_ hk_ => hk_.elim (fun h_ => ((Kd.R_mono (ok' := fun k_ => ((fun _ => True)) k_ ∧ some k_ ≠ (u7 : Value).ownBlock) (Kd.R_apart' (HO210.out) (Kd.S_typed HO_7.out) (by decide)) (fun k_ hk => ⟨trivial, hk.2⟩))).1 k_ h_.symm) (fun h_ => h_.elim (fun h_ => ((Kd.R_mono (ok' := fun k_ => ((fun _ => True)) k_ ∧ some k_ ≠ (u7 : Value).ownBlock) (Kd.R_apart' (HO213.out) (Kd.S_typed HO_7.out) (by decide)) (fun k_ hk => ⟨trivial, hk.2⟩))).1 k_ h_.symm) (fun h_ => ((Kd.R_mono (ok' := fun k_ => ((fun _ => True)) k_ ∧ some k_ ≠ (u7 : Value).ownBlock) (Kd.R_apart' (HO216.out) (Kd.S_typed HO_7.out) (by decide)) (fun k_ hk => ⟨trivial, hk.2⟩))).1 k_ h_.symm))) ?aF ?aO ?aB ?aS ?aL ?_; (case aP => exact k52_mkM _ _ _ (⟨t206, t207, t208, t211, t214⟩ : S52) (Kd.R_mono (Kd.R_tight rfl (Kd.R_mono (ok' := fun k_ => ((fun _ => True)) k_ ∧ some k_ ≠ (u7 : Value).ownBlock) (Kd.R_apart' (HO210.out) (Kd.S_typed HO_7.out) (by decide)) (fun k_ hk => ⟨trivial, hk.2⟩))) (fun _ h_ => Or.inl h_)) (Kd.R_mono (Kd.R_tight rfl (Kd.R_mono (ok' := fun k_ => ((fun _ => True)) k_ ∧ some k_ ≠ (u7 : Value).ownBlock) (Kd.R_apart' (HO213.out) (Kd.S_typed HO_7.out) (by decide)) (fun k_ hk => ⟨trivial, hk.2⟩))) (fun _ h_ => Or.inr (Or.inl h_))) (Kd.R_mono (Kd.R_tight rfl (Kd.R_mono (ok' := fun k_ => ((fun _ => True)) k_ ∧ some k_ ≠ (u7 : Value).ownBlock) (Kd.R_apart' (HO216.out) (Kd.S_typed HO_7.out) (by decide)) (fun k_ hk => ⟨trivial, hk.2⟩))) (fun _ h_ => Or.inr (Or.inr (h_))))); (case aB => exact (by repeat (first | (with_reducible first | exact HB.out | apply zA | apply zN | apply zD | refine zP ?_ (IsS72.ge HI201.out)) | exact HB.out))); (case aF => exact (fun _ _ => trivial)); (case aO => exact (by (with_reducible repeat (first | apply Kd.S_alloc | apply Kd.S_drewN | apply Kd.S_drew)); exact Kd.S_mono HO_7.out (fun k_ hk => ⟨trivial, fun e_ => e_.elim (fun h_ => hk.1.1.2 h_) (fun h_ => h_.elim (fun h_ => hk.1.2 h_) (fun h_ => hk.2 h_))⟩))); (case aS => exact (zS (by repeat (first | (with_reducible first | exact HB.out | apply zA | apply zN | apply zD | refine zP ?_ (IsS72.ge HI201.out)) | exact HB.out)))); (case aL => have := LMc10.out; omega); intro v219 w12 ho hb hg hat; rw [← Ny218.out] at ho; have n0_ := Aside0.mk (IsS72.grown (by repeat (first | (with_reducible first | exact HI201.out | apply IsS72.alloc | apply IsS72.drewN | apply IsS72.drew | apply IsS72.set_1) | exact HI201.out)) hg (IsS72.own_neS HI201.out HO_7.out (by decide))); have n1_ := Aside0.mk (hb); have n2_ := Aside0.mk (ho); clear HI201; clear HB; clear HO_7; clear HO210; clear HO213; clear HO216; have HI201 := n0_; have HB := n1_; have HO220 := n2_; clear n0_ n1_ n2_; clear ho hb hg hat))
     go_roundg k1
     case measure => have := HK1.out; omega
     case rel => exact ⟨(y218), (wrap64 (x8_1 - 1)), (t217), (by first | rfl | (simp; done) | (simp [*]; done)), H', ⟨by have := HK1.out; omega⟩, ⟨by (with_reducible repeat (first | apply Kd.S_alloc | apply Kd.S_drewN | apply Kd.S_drew)); exact HO220.out⟩, ⟨by repeat (first | (with_reducible first | exact HI201.out | apply IsS72.alloc | apply IsS72.drewN | apply IsS72.drew | apply IsS72.set_1) | exact HI201.out)⟩, ⟨by repeat (first | (with_reducible first | exact HB.out | apply zA | apply zN | apply zD | refine zP ?_ (IsS72.ge HI201.out)) | exact HB.out)⟩⟩
    ·rw [if_neg c10] at H
     exact absurd H (by simp)
   ·rw [if_neg c8] at H
    have c8b0 : decide (0 < x8_1) = false := decide_eq_false c8
    clear c8
    obtain rfl := Option.some.inj H
    go_wp2
    go_ret
    exact ⟨_, by first | rfl | (simp [errW_none, errW_some] <;> rfl) | (simp [*, errW_none, errW_some] <;> rfl), by (with_reducible repeat (first | apply Kd.S_alloc | apply Kd.S_drewN | apply Kd.S_drew)); exact HO_7.out, by repeat (first | (with_reducible first | exact HB.out | apply zA | apply zN | apply zD | refine zP ?_ (IsS72.ge HI201.out)) | exact HB.out)⟩

end Go.Proofs.Ytcofjbbflcnaaaa.P
