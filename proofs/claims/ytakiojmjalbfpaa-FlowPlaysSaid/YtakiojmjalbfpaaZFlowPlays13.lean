/- Words and walks for FlowPlays (made of the session's own texts; each part by itself). -/
import Derived.Deep.DeepCutAuto
import Derived.StillTailTactics
import Derived.Test.YtakiojmjalbfpaaZFlowPlays12
set_option linter.unusedVariables false
set_option linter.unusedSimpArgs false
namespace Go.Proofs.Ytakiojmjalbfpaa.Ring
open Go.RowKit Go.Proofs.YtakiojmjalbfpaaW.PrintWords Go.Proofs.YtakiojmjalbfpaaW.PrintLast Go.Proofs.YtakiojmjalbfpaaW.PrintMore Go.Proofs.Ytakiojmjalbfpaa.PFlow Go.Proofs.Ytakiojmjalbfpaa.Num Go.Proofs.Ytakiojmjalbfpaa.LemHeadFlow Go.Proofs.Ytakiojmjalbfpaa.LemAduFlow
attribute [local go_sem] plus_setCell_drewN plus_cell_same
theorem cut_is (q : List Int) (hb : B8 q) : CutIs cutl q := by
  intro W A n c hn hC hc
  subst hn
  exact adu_Cut.calls 10 A c (q.take 260) _ _ _ _ _ W hC hc (cut_eq (q.take 260) (by rw [List.length_take]; omega) (fun x hx => hb x (List.mem_of_mem_take hx)) (by omega))
structure FSt (w0 : World) (gf g B M : Nat) (q : List Int) (bad : Bool) (w : World) : Prop where
  f : FlowW w gf g B M q bad
  b : Below w0.heap.size w0 w
  g0 : w0.heap.size ≤ gf
  g1 : w0.heap.size ≤ g
  g2 : w0.heap.size ≤ B
  b8 : B8 q
theorem FSt.below {w0 w w1 : World} {gf g B M : Nat} {q : List Int} {bad : Bool} (h : FSt w0 gf g B M q bad w) (hb : Below w.heap.size w w1) : FSt w0 gf g B M q bad w1 := ⟨h.f.below hb, below_then h.b h.b.size hb, h.g0, h.g1, h.g2, h.b8⟩
theorem FSt.fed {w0 w w1 : World} {gf g B M : Nat} {q q1 : List Int} {bad : Bool} (h : FSt w0 gf g B M q bad w) (hf : FlowW w1 gf g B M q1 bad) (hr : Fr2 g B w w1) (h8 : B8 q1) : FSt w0 gf g B M q1 bad w1 := ⟨hf, hr.below h.b h.b.size h.g1 h.g2, h.g0, h.g1, h.g2, h8⟩
theorem FSt.next {w0 w w1 : World} {gf g B M : Nat} {q q1 : List Int} {bad b1 : Bool} (h : FSt w0 gf g B M q bad w) (hf : FlowW w1 gf g B M q1 b1) (hr : Fr3 gf g B w w1) (h8 : B8 q1) : FSt w0 gf g B M q1 b1 w1 := ⟨hf, hr.below h.b h.b.size h.g0 h.g1 h.g2, h.g0, h.g1, h.g2, h8⟩
theorem b8_app {a b : List Int} (ha : B8 a) (hb : B8 b) : B8 (a ++ b) := fun x hx => (List.mem_append.1 hx).elim (ha x) (hb x)
theorem b8_take {a : List Int} (ha : B8 a) (n : Nat) : B8 (a.take n) := fun x hx => ha x (List.mem_of_mem_take hx)
theorem b8_drop {a : List Int} (ha : B8 a) (n : Nat) : B8 (a.drop n) := fun x hx => ha x (List.mem_of_mem_drop hx)
theorem feed_b (w : World) (gf g B M : Nat) (q : List Int) (bad : Bool) (h : FlowW w gf g B M q bad) (g1 n : Nat) (l : List Int) (hn : n = l.length) (hc : w.heap[g1]? = some (.cells (bv l) 5 (0, 0))) (hl : n ≤ 100000) (hne : g1 ≠ B) (m : Nat) (hm : m = if bad then 0 else min n (M - q.length)) :
    Calls Try.prog 35 #[.pointer (some ⟨gf, 0, none⟩), .slice (some ⟨g1, 0, none⟩) n n] w fun e w' => e = .returned (.int .i64 (m : Int)) ∧ FlowW w' gf g B M (q ++ l.take m) bad ∧ Fr2 g B w w' := by
  refine flow_Feed w gf g B M q bad h _ n n l hn ?_ (Nat.le_refl _) (fun _ a ha => by injection ha with ha; subst ha; exact hne) m hm
  have := C_bytes hc 0 n (by omega) (by omega)
  rwa [List.drop_zero, hn, List.take_length, ← hn] at this
set_option maxRecDepth 100000 in
theorem law10_awake (w : World) : Calls Try.prog 32 #[] w fun e w' => e = .returned (.bool true) ∧ Below w.heap.size w w' := by
  have hu53 := Try.underlying53
  have hu30 := Try.underlying30
  have k1 : firstOf cutl [0, 1, 0, 0] false = (0, 0, [], 0, 3) := by decide
  have k2 : firstOf cutl [0, 1, 0, 0, 0, 2, 9, 7] false = (1, 9, [7], 8, 0) := by decide
  have K1 := Lib.hid k1
  have K2 := Lib.hid k2
  clear k1 k2
  go_enter Try.func32, Try.ntmps32
  go_wp2_with (fail)
  refine (flow_New 300 300 rfl _).mono ?_
  rintro e w1 ⟨gf, g, B, rfl, hf, h1, h2, h3, hb⟩
  have S1 := Lib.hid (show FSt w gf g B 300 [] false w1 from ⟨hf, hb, h1, h2, h3, fun x hx => by cases hx⟩)
  clear hf h1 h2 h3 hb
  go_wp2_with (fail)
  refine (feed_b _ gf g B 300 [] false (S1.out.f.below ((Below.refl _ _).alloc (Nat.le_refl _) _)) w1.heap.size 4 [0, 1, 0, 0] rfl (blk_new w1 (.cells (bv [0, 1, 0, 0]) 5 (0, 0))) (by omega) (by have := S1.out.f.r.lt; omega) 4 rfl).mono ?_
  rintro e w2 ⟨rfl, hf, hr⟩
  have S2 := Lib.hid ((S1.out.below ((Below.refl _ _).alloc (Nat.le_refl _) _)).fed hf hr (by intro x hx; simp at hx; omega))
  clear S1 hf hr
  go_wp2_with (fail)
  refine (flow_Next cutl _ gf g B 300 _ false S2.out.f (cut_is _ S2.out.b8) 0 0 [] 0 3 K1.out).mono ?_
  rintro e w3 ⟨A, c, rfl, hR, hf, hr⟩
  rw [show nextOf cutl ([] ++ [0, 1, 0, 0].take 4) false = ([0, 1, 0, 0], false) from by decide] at hf
  have S3 := Lib.hid (S2.out.next hf hr (by intro x hx; simp at hx; omega))
  clear S2 hf hr hR
  go_wp2_with (fail)
  have hb3 : Below w3.heap.size w3 ((w3.alloc (.cells #[.int .i64 0, .int .i64 0, .slice A 0 c] 53)).alloc (.cells #[.int .u8 0, .int .u8 2, .int .u8 9, .int .u8 7] 5)) := ((Below.refl _ _).alloc (Nat.le_refl _) _).alloc (by simp) _
  refine (feed_b _ gf g B 300 [0, 1, 0, 0] false (S3.out.f.below hb3) (w3.heap.size + 1) 4 [0, 2, 9, 7] rfl (by have := blk_new (w3.alloc (.cells #[.int .i64 0, .int .i64 0, .slice A 0 c] 53)) (.cells #[.int .u8 0, .int .u8 2, .int .u8 9, .int .u8 7] 5 (0, 0)); rwa [show (w3.alloc (.cells #[.int .i64 0, .int .i64 0, .slice A 0 c] 53)).heap.size = w3.heap.size + 1 by simp] at this) (by omega) (by have := S3.out.f.r.lt; omega) 4 rfl).mono ?_
  rintro e w4 ⟨rfl, hf, hr⟩
  have S4 := Lib.hid ((S3.out.below hb3).fed hf hr (by intro x hx; simp at hx; omega))
  clear S3 hf hr hb3
  go_wp2_with (fail)
  refine (flow_Next cutl _ gf g B 300 _ false S4.out.f (cut_is _ S4.out.b8) 1 9 [7] 8 0 K2.out).mono ?_
  rintro e w5 ⟨A5, c5, rfl, hR, hf, hr⟩
  rw [show nextOf cutl ([0, 1, 0, 0] ++ [0, 2, 9, 7].take 4) false = ([], false) from by decide] at hf
  have S5 := Lib.hid (S4.out.next hf hr (by intro x hx; cases hx))
  have hs : ∀ (o : Obj), (convert 30 9 (.slice A5 1 c5)).run Try.prog (w5.alloc o) = .ok (.string (strOfNums [7])) (w5.alloc o) := fun o => Kd.C_string (P := Try.prog) Try.underlying30 Try.underlying5 Try.underlying9 (A := A5) (c := c5) (Kd.C_alloc (Kd.R_reads' hR).2.2 o)
  have hq : (strOfNums [7]).toList = [7] := by decide +kernel
  clear S4 hf hr hR
  go_wp2_with (fail)
  refine (flow_Held _ gf g B 300 [] false (S5.out.f.below ((Below.refl _ _).alloc (Nat.le_refl _) _))).mono ?_
  rintro e w6 ⟨rfl, hb⟩
  go_wp2
  go_ret
  exact ⟨rfl, below_then (S5.out.b.alloc S5.out.b.size _) (by have := S5.out.b.size; simp; omega) hb⟩
end Go.Proofs.Ytakiojmjalbfpaa.Ring
namespace Go.Proofs.Ytakiojmjalbfpaa.PFlow
open Go.RowKit Go.Proofs.YtakiojmjalbfpaaW.PrintWords Go.Proofs.YtakiojmjalbfpaaW.PrintLast Go.Proofs.YtakiojmjalbfpaaW.PrintMore
attribute [local go_sem] max2_int min2_int max_two min_two max_three min_three max_four min_four plus_setCell_drewN plus_cell_same   -- for this text's walks alone
set_option linter.unusedVariables false
set_option linter.unusedSimpArgs false
def busbarlaw0_Frame.f (k : Nat) (a0_0 : Int) (a0_1 : Int) (a0_2 : Int) (a0_3 : Int) (a0_4 : Int) (a0_5 : Int) (l0_6 : List Bool) (l0_7 : List Int) (a0_8 : Int) (a0_9 : Int) (a0_10 : Int) (a0_11 : Int) (a1 : Int) (a2 : Int) : Option (List Int) := (busbarref5_AskBytes.f k a0_0 a0_1 a0_2 a0_3 a0_4 a0_5 l0_6 l0_7 a0_8 a0_9 a0_10 a0_11).bind fun bt339 => ((busbarlaw0_Within.f a1 65536).bind fun t343 => ((busbarlaw0_Within.f a2 256).bind fun t344 => ((busbarref5_FrameBytes.f k t343 t344 bt339.1).bind fun bt345 => (some bt345.1))))
theorem busbarlaw0_Frame.mono : ∀ a0 a1 a2 a3 a4 a5 a6 a7 a8 a9 a10 a11 a12 a13 k, LeO (busbarlaw0_Frame.f k a0 a1 a2 a3 a4 a5 a6 a7 a8 a9 a10 a11 a12 a13) (busbarlaw0_Frame.f (k + 1) a0 a1 a2 a3 a4 a5 a6 a7 a8 a9 a10 a11 a12 a13) := by
 intro a0 a1 a2 a3 a4 a5 a6 a7 a8 a9 a10 a11 a12 a13 k
 unfold busbarlaw0_Frame.f
 repeat' first
   | (with_reducible exact busbarref5_AskBytes.mono _ _ _ _ _ _ _ _ _ _ _ _ _)
   | (with_reducible exact busbarref5_FrameBytes.mono _ _ _ _)
   | (with_reducible exact LeO.refl _)
   | (with_reducible exact LeO.none _)
   | (with_reducible refine LeO.ite ?_ ?_)
   | (with_reducible refine LeO.bind ?_ (fun _ => ?_))
   | exact busbarref5_AskBytes.mono _ _ _ _ _ _ _ _ _ _ _ _ _
   | exact busbarref5_FrameBytes.mono _ _ _ _
   | exact LeO.none _
   | refine LeO.ite ?_ ?_
   | refine LeO.bind ?_ (fun _ => ?_)
set_option maxHeartbeats 8000000 in
set_option maxRecDepth 100000 in
theorem busbarlaw0_Frame.calls (k : Nat) (a0_0 : Int) (a0_1 : Int) (a0_2 : Int) (a0_3 : Int) (a0_4 : Int) (a0_5 : Int) (A0_6 : Option Addr) (c0_6 : Nat) (l0_6 : List Bool) (A0_7 : Option Addr) (c0_7 : Nat) (l0_7 : List Int) (a0_8 : Int) (a0_9 : Int) (a0_10 : Int) (a0_11 : Int) (a1 : Int) (a2 : Int) (r : List Int) (w : World) (hr0_6 : Kd.C Kd.bool w A0_6 l0_6.length l0_6) (hc0_6 : l0_6.length ≤ c0_6) (hr0_7 : Kd.C (Kd.int .u16) w A0_7 l0_7.length l0_7) (hc0_7 : l0_7.length ≤ c0_7) (h : busbarlaw0_Frame.f k a0_0 a0_1 a0_2 a0_3 a0_4 a0_5 l0_6 l0_7 a0_8 a0_9 a0_10 a0_11 a1 a2 = some r) :
  Calls Try.prog 56 #[.agg #[.int .i64 a0_0, .int .i64 a0_1, .int .i64 a0_2, .int .u16 a0_3, .int .u16 a0_4, .int .u16 a0_5, .slice A0_6 l0_6.length c0_6, .slice A0_7 l0_7.length c0_7, .int .i64 a0_8, .int .i64 a0_9, .int .i64 a0_10, .int .i64 a0_11], .int .i64 a1, .int .i64 a2] w fun e w' => ∃ v0_ : Value, e = .returned (v0_) ∧ Kd.R (Kd.int .u8) 5 w' w.heap.size (fun _ => True) v0_ r ∧ Below w.heap.size w w' := by
 have hu49 := Try.underlying49
 have hu60 := Try.underlying60
 have HR0_6 := Aside0.mk hr0_6
 have HC0_6 := Aside0.mk hc0_6
 clear hr0_6 hc0_6
 have HR0_7 := Aside0.mk hr0_7
 have HC0_7 := Aside0.mk hc0_7
 clear hr0_7 hc0_7
 have HB := Aside0.mk (Below.refl w.heap.size w)
 have H : ((busbarref5_AskBytes.f k a0_0 a0_1 a0_2 a0_3 a0_4 a0_5 l0_6 l0_7 a0_8 a0_9 a0_10 a0_11).bind fun bt339 => ((busbarlaw0_Within.f a1 65536).bind fun t343 => ((busbarlaw0_Within.f a2 256).bind fun t344 => ((busbarref5_FrameBytes.f k t343 t344 bt339.1).bind fun bt345 => (some bt345.1))))) = some r := h
 clear h
 replace H := Option.bind_eq_some_iff.mp H
 obtain ⟨⟨t339, t342⟩, A40, H⟩ := H
 replace H : ((busbarlaw0_Within.f a1 65536).bind fun t343 => ((busbarlaw0_Within.f a2 256).bind fun t344 => ((busbarref5_FrameBytes.f k t343 t344 t339).bind fun bt345 => (some bt345.1)))) = some r := H
 have A4 := Aside0.mk A40
 clear A40
 replace H := Option.bind_eq_some_iff.mp H
 obtain ⟨t343, A50, H⟩ := H
 replace H : ((busbarlaw0_Within.f a2 256).bind fun t344 => ((busbarref5_FrameBytes.f k t343 t344 t339).bind fun bt345 => (some bt345.1))) = some r := H
 have A5 := Aside0.mk A50
 clear A50
 replace H := Option.bind_eq_some_iff.mp H
 obtain ⟨t344, A60, H⟩ := H
 replace H : ((busbarref5_FrameBytes.f k t343 t344 t339).bind fun bt345 => (some bt345.1)) = some r := H
 have A6 := Aside0.mk A60
 clear A60
 replace H := Option.bind_eq_some_iff.mp H
 obtain ⟨⟨t345, t348⟩, A70, H⟩ := H
 replace H : (some t345) = some r := H
 have A7 := Aside0.mk A70
 clear A70
 obtain rfl := Option.some.inj H
 go_enter Try.func56, Try.ntmps56
 go_wp2_with (first | ((with_reducible refine gate_dst (N := 3) rfl ?_); refine box_event ?hg (N := 3) ?hd (cs := #[.int .i64 a0_0, .int .i64 a0_1, .int .i64 a0_2, .int .u16 a0_3, .int .u16 a0_4, .int .u16 a0_5, .slice A0_6 l0_6.length c0_6, .slice A0_7 l0_7.length c0_7, .int .i64 a0_8, .int .i64 a0_9, .int .i64 a0_10, .int .i64 a0_11]) (t := 49) ?hr ?_; (case hd => rfl); (case hg => rfl); (case hr => first | (go_simp; done) | (go_simp; rfl)); intro gb338 hg w8 hbox hb; have n0_ := Aside0.mk (below_step (by repeat (first | (with_reducible first | exact HB.out | apply below_alloc | apply pw_below_drewN | apply below_drew1) | exact HB.out)) hb); have n1_ := Aside0.mk (hbox); have n2_ := Aside0.mk ((by rw [hg]; exact (below_size (by repeat (first | (with_reducible first | exact HB.out | apply below_alloc | apply pw_below_drewN | apply below_drew1) | exact HB.out))) : w.heap.size ≤ gb338)); have n3_ := Aside0.mk ((by rw [hg]; exact (below_size (by repeat (first | (with_reducible first | exact HB.out | apply below_alloc | apply pw_below_drewN | apply below_drew1) | exact HB.out))) : w.heap.size ≤ gb338)); clear HB; have HB := n0_; have BK338 := n1_; have GW338 := n2_; have GE338 := n3_; clear n0_ n1_ n2_ n3_; clear hb hbox hg; have hcz9_0 : w8.cell? ⟨gb338, 0, none⟩ = some (.int .i64 a0_0) := (blk_cell BK338.out 0).trans rfl; have hcz9_1 : w8.cell? ⟨gb338, 1, none⟩ = some (.int .i64 a0_1) := (blk_cell BK338.out 1).trans rfl; have hcz9_2 : w8.cell? ⟨gb338, 2, none⟩ = some (.int .i64 a0_2) := (blk_cell BK338.out 2).trans rfl; have hcz9_3 : w8.cell? ⟨gb338, 3, none⟩ = some (.int .u16 a0_3) := (blk_cell BK338.out 3).trans rfl; have hcz9_4 : w8.cell? ⟨gb338, 4, none⟩ = some (.int .u16 a0_4) := (blk_cell BK338.out 4).trans rfl; have hcz9_5 : w8.cell? ⟨gb338, 5, none⟩ = some (.int .u16 a0_5) := (blk_cell BK338.out 5).trans rfl; have hcz9_6 : w8.cell? ⟨gb338, 6, none⟩ = some (.slice A0_6 l0_6.length c0_6) := (blk_cell BK338.out 6).trans rfl; have hcz9_7 : w8.cell? ⟨gb338, 7, none⟩ = some (.slice A0_7 l0_7.length c0_7) := (blk_cell BK338.out 7).trans rfl; have hcz9_8 : w8.cell? ⟨gb338, 8, none⟩ = some (.int .i64 a0_8) := (blk_cell BK338.out 8).trans rfl; have hcz9_9 : w8.cell? ⟨gb338, 9, none⟩ = some (.int .i64 a0_9) := (blk_cell BK338.out 9).trans rfl; have hcz9_10 : w8.cell? ⟨gb338, 10, none⟩ = some (.int .i64 a0_10) := (blk_cell BK338.out 10).trans rfl; have hcz9_11 : w8.cell? ⟨gb338, 11, none⟩ = some (.int .i64 a0_11) := (blk_cell BK338.out 11).trans rfl; have hfz9_0 := blk_frozen BK338.out 0; have hfz9_1 := blk_frozen BK338.out 1; have hfz9_2 := blk_frozen BK338.out 2; have hfz9_3 := blk_frozen BK338.out 3; have hfz9_4 := blk_frozen BK338.out 4; have hfz9_5 := blk_frozen BK338.out 5; have hfz9_6 := blk_frozen BK338.out 6; have hfz9_7 := blk_frozen BK338.out 7; have hfz9_8 := blk_frozen BK338.out 8; have hfz9_9 := blk_frozen BK338.out 9; have hfz9_10 := blk_frozen BK338.out 10; have hfz9_11 := blk_frozen BK338.out 11) | ((with_reducible refine gate_callee (f := 28) rfl ?_); refine goesL_ (some 13) rfl rfl Try.func28 (by kernel_rfl) rfl #[.agg #[.int .i64 a0_0, .int .i64 a0_1, .int .i64 a0_2, .int .u16 a0_3, .int .u16 a0_4, .int .u16 a0_5, .slice A0_6 l0_6.length c0_6, .slice A0_7 l0_7.length c0_7, .int .i64 a0_8, .int .i64 a0_9, .int .i64 a0_10, .int .i64 a0_11]] rfl (by (try simp only [List.map_toArray, List.map_cons, List.map_nil]); first | done | rfl | (simp only [List.length_drop, List.length_take]; rfl)) ?_; (with_reducible refine (busbarref5_AskBytes.calls k a0_0 a0_1 a0_2 a0_3 a0_4 a0_5 _ _ l0_6 _ _ l0_7 a0_8 a0_9 a0_10 a0_11 t339 t342 _ ?side1 ?side2 ?side3 ?side4 A4.out).mono ?_); (case side1 => repeat (first | exact (Kd.C_below HR0_6.out HB.out) | (with_reducible refine Kd.C_alloc ?_ _) | (with_reducible refine Kd.C_drewN ?_ _) | (with_reducible refine Kd.C_drew ?_))); (case side2 => exact HC0_6.out); (case side3 => repeat (first | exact (Kd.C_below HR0_7.out HB.out) | (with_reducible refine Kd.C_alloc ?_ _) | (with_reducible refine Kd.C_drewN ?_ _) | (with_reducible refine Kd.C_drew ?_))); (case side4 => exact HC0_7.out); rintro e w10 ⟨v340, rfl, ho0, hb⟩; refine ⟨_, rfl, ?_⟩; have n0_ := Aside0.mk (Kd.V_lower (Kd.V_mono (ok' := fun k_ => k_ ≠ gb338) ho0 (fun k_ hk_ => (Kd.freshB (g := gb338) (o := .cells #[.int .i64 a0_0, .int .i64 a0_1, .int .i64 a0_2, .int .u16 a0_3, .int .u16 a0_4, .int .u16 a0_5, .slice A0_6 l0_6.length c0_6, .slice A0_7 l0_7.length c0_7, .int .i64 a0_8, .int .i64 a0_9, .int .i64 a0_10, .int .i64 a0_11] 49 (0, 0)) (by (with_reducible repeat (first | refine blk_drewN ?_ _ | refine blk_drew ?_ | refine blk_alloc ?_ _)); exact BK338.out) k_ hk_))) (below_size (by repeat (first | (with_reducible first | exact HB.out | apply below_alloc | apply pw_below_drewN | apply below_drew1 | refine below_set ?_ GE338.out) | exact HB.out)))); have n1_ := Aside0.mk (blk_below (g := gb338) (o := .cells #[.int .i64 a0_0, .int .i64 a0_1, .int .i64 a0_2, .int .u16 a0_3, .int .u16 a0_4, .int .u16 a0_5, .slice A0_6 l0_6.length c0_6, .slice A0_7 l0_7.length c0_7, .int .i64 a0_8, .int .i64 a0_9, .int .i64 a0_10, .int .i64 a0_11] 49 (0, 0)) (by (with_reducible repeat (first | refine blk_drewN ?_ _ | refine blk_drew ?_ | refine blk_alloc ?_ _)); exact BK338.out) hb); have n2_ := Aside0.mk (below_step (by repeat (first | (with_reducible first | exact HB.out | apply below_alloc | apply pw_below_drewN | apply below_drew1 | refine below_set ?_ GE338.out) | exact HB.out)) hb); clear BK338; clear HB; have HO341 := n0_; have BK338 := n1_; have HB := n2_; clear n0_ n1_ n2_; (try clear hb); (try clear hb2); (try clear hk); (try clear hi); (try clear ho0)) | ((with_reducible refine gate_callee (f := 12) rfl ?_); refine goesL_ (some 18) rfl rfl Try.func12 (by kernel_rfl) rfl #[.int .i64 a1, .int .i64 65536] rfl (by (try simp only [List.map_toArray, List.map_cons, List.map_nil]); first | done | rfl | (simp only [List.length_drop, List.length_take]; rfl)) ?_; (with_reducible refine (busbarlaw0_Within.calls a1 65536 t343 _ A5.out).mono ?_); rintro e w' ⟨rfl, ⟨nd, rfl⟩⟩; refine ⟨_, rfl, ?_⟩) | ((with_reducible refine gate_callee (f := 12) rfl ?_); refine goesL_ (some 20) rfl rfl Try.func12 (by kernel_rfl) rfl #[.int .i64 a2, .int .i64 256] rfl (by (try simp only [List.map_toArray, List.map_cons, List.map_nil]); first | done | rfl | (simp only [List.length_drop, List.length_take]; rfl)) ?_; (with_reducible refine (busbarlaw0_Within.calls a2 256 t344 _ A6.out).mono ?_); rintro e w' ⟨rfl, ⟨nd, rfl⟩⟩; refine ⟨_, rfl, ?_⟩; obtain ⟨Ao11, co11, eo11⟩ := Kd.V_slice HO341.out; subst eo11) | ((with_reducible refine gate_callee (f := 34) rfl ?_); refine goesL_ (some 23) rfl rfl Try.func34 (by kernel_rfl) rfl #[.agg #[.int .i64 t343, .int .i64 t344, .slice Ao11 t339.length co11]] rfl (by (try simp only [List.map_toArray, List.map_cons, List.map_nil]); first | done | rfl | (simp only [List.length_drop, List.length_take]; rfl)) ?_; (with_reducible refine (busbarref5_FrameBytes.calls k t343 t344 _ _ t339 t345 t348 _ ?side1 ?side2 A7.out).mono ?_); (case side1 => repeat (first | exact (Kd.V_reads' HO341.out).2.2 | (with_reducible refine Kd.C_alloc ?_ _) | (with_reducible refine Kd.C_drewN ?_ _) | (with_reducible refine Kd.C_drew ?_))); (case side2 => exact (Kd.V_reads' HO341.out).2.1); rintro e w12 ⟨v346, rfl, ho0, hb⟩; refine ⟨_, rfl, ?_⟩; have n0_ := Aside0.mk (Kd.V_elder' (by (with_reducible repeat (first | apply Kd.V_alloc | apply Kd.V_drewN | apply Kd.V_drew)); exact HO341.out) (Kd.R_base ho0) hb); have n1_ := Aside0.mk (Kd.R_lower ho0 (below_size (by repeat (first | (with_reducible first | exact HB.out | apply below_alloc | apply pw_below_drewN | apply below_drew1 | refine below_set ?_ GE338.out) | exact HB.out)))); have n2_ := Aside0.mk (blk_below (g := gb338) (o := .cells #[.int .i64 a0_0, .int .i64 a0_1, .int .i64 a0_2, .int .u16 a0_3, .int .u16 a0_4, .int .u16 a0_5, .slice A0_6 l0_6.length c0_6, .slice A0_7 l0_7.length c0_7, .int .i64 a0_8, .int .i64 a0_9, .int .i64 a0_10, .int .i64 a0_11] 49 (0, 0)) (by (with_reducible repeat (first | refine blk_drewN ?_ _ | refine blk_drew ?_ | refine blk_alloc ?_ _)); exact BK338.out) hb); have n3_ := Aside0.mk (below_step (by repeat (first | (with_reducible first | exact HB.out | apply below_alloc | apply pw_below_drewN | apply below_drew1 | refine below_set ?_ GE338.out) | exact HB.out)) hb); clear HO341; clear BK338; clear HB; have HO341 := n0_; have HO347 := n1_; have BK338 := n2_; have HB := n3_; clear n0_ n1_ n2_ n3_; (try clear hb); (try clear hb2); (try clear hk); (try clear hi); (try clear ho0)))
 go_ret
 exact ⟨_, by first | rfl | (simp [errW_none, errW_some] <;> rfl) | (simp [*, errW_none, errW_some] <;> rfl), by (with_reducible repeat (first | apply Kd.R_alloc | apply Kd.R_drewN | apply Kd.R_drew)); exact HO347.out, by repeat (first | (with_reducible first | exact HB.out | apply below_alloc | apply pw_below_drewN | apply below_drew1 | refine below_set ?_ GE338.out) | exact HB.out)⟩
end Go.Proofs.Ytakiojmjalbfpaa.PFlow
namespace Go.Proofs.Ytakiojmjalbfpaa.PFlow
open Go.RowKit Go.Proofs.YtakiojmjalbfpaaW.PrintWords Go.Proofs.YtakiojmjalbfpaaW.PrintLast Go.Proofs.YtakiojmjalbfpaaW.PrintMore
attribute [local go_sem] max2_int min2_int max_two min_two max_three min_three max_four min_four plus_setCell_drewN plus_cell_same   -- for this text's walks alone
set_option linter.unusedVariables false
set_option linter.unusedSimpArgs false
mutual
def busbarlaw10_row.l0 : Nat → List Int → List Int → Int → Option (List Int)
 | 0, _, _, _ => none
 | k + 1, x0, x3, x4 => if x4 < (x0.length : Int) then (busbarlaw10_row.j1 k x0 x3 x4 (decide (x4 < 12))) else (busbarlaw10_row.j1 k x0 x3 x4 false)
def busbarlaw10_row.j1 : Nat → List Int → List Int → Int → Bool → Option (List Int)
 | 0, _, _, _, _ => none
 | k + 1, x0, x3, x4, x12 => if x12 = true then (if 0 ≤ x4 then (if x4 < (x0.length : Int) then ((busbarlaw0_Ask.f k (rd x0 x4) (rd x0 x4)).bind fun bt351 => ((busbarlaw0_Frame.f k bt351.1 bt351.2.1 bt351.2.2.1 bt351.2.2.2.1 bt351.2.2.2.2.1 bt351.2.2.2.2.2.1 bt351.2.2.2.2.2.2.1 bt351.2.2.2.2.2.2.2.1 bt351.2.2.2.2.2.2.2.2.1 bt351.2.2.2.2.2.2.2.2.2.1 bt351.2.2.2.2.2.2.2.2.2.2.1 bt351.2.2.2.2.2.2.2.2.2.2.2 x4 (rd x0 x4)).bind fun t368 => (if x3.length + t368.length < 140737488355328 then (busbarlaw10_row.l0 k x0 (x3 ++ t368) (wrap64 (x4 + 1))) else (none)))) else (none)) else (none)) else (some x3)
end
def busbarlaw10_row.f (k : Nat) (l0 : List Int) : Option (List Int) := busbarlaw10_row.l0 k l0 ([] : List Int) 0
theorem busbarlaw10_row.mono_l : ∀ k, (∀ y0 y1 y2, LeO (busbarlaw10_row.l0 k y0 y1 y2) (busbarlaw10_row.l0 (k + 1) y0 y1 y2)) ∧ (∀ y0 y1 y2 y3, LeO (busbarlaw10_row.j1 k y0 y1 y2 y3) (busbarlaw10_row.j1 (k + 1) y0 y1 y2 y3))
 | 0 => ⟨fun _ _ _ r h => by simp [busbarlaw10_row.l0] at h, fun _ _ _ _ r h => by simp [busbarlaw10_row.j1] at h⟩
 | k + 1 => by
  obtain ⟨ih0, ih1⟩ := busbarlaw10_row.mono_l k
  refine ⟨?_, ?_⟩
  ·
   intro y0 y1 y2
   unfold busbarlaw10_row.l0
   repeat' first
   | (with_reducible exact ih0 _ _ _)
   | (with_reducible exact ih1 _ _ _ _)
   | (with_reducible exact busbarlaw0_Ask.mono _ _ _)
   | (with_reducible exact busbarlaw0_Frame.mono _ _ _ _ _ _ _ _ _ _ _ _ _ _ _)
   | (with_reducible exact LeO.refl _)
   | (with_reducible exact LeO.none _)
   | (with_reducible refine LeO.ite ?_ ?_)
   | (with_reducible refine LeO.bind ?_ (fun _ => ?_))
   | exact ih0 _ _ _
   | exact ih1 _ _ _ _
   | exact busbarlaw0_Ask.mono _ _ _
   | exact busbarlaw0_Frame.mono _ _ _ _ _ _ _ _ _ _ _ _ _ _ _
   | exact LeO.none _
   | refine LeO.ite ?_ ?_
   | refine LeO.bind ?_ (fun _ => ?_)
  ·
   intro y0 y1 y2 y3
   unfold busbarlaw10_row.j1
   repeat' first
   | (with_reducible exact ih0 _ _ _)
   | (with_reducible exact ih1 _ _ _ _)
   | (with_reducible exact busbarlaw0_Ask.mono _ _ _)
   | (with_reducible exact busbarlaw0_Frame.mono _ _ _ _ _ _ _ _ _ _ _ _ _ _ _)
   | (with_reducible exact LeO.refl _)
   | (with_reducible exact LeO.none _)
   | (with_reducible refine LeO.ite ?_ ?_)
   | (with_reducible refine LeO.bind ?_ (fun _ => ?_))
   | exact ih0 _ _ _
   | exact ih1 _ _ _ _
   | exact busbarlaw0_Ask.mono _ _ _
   | exact busbarlaw0_Frame.mono _ _ _ _ _ _ _ _ _ _ _ _ _ _ _
   | exact LeO.none _
   | refine LeO.ite ?_ ?_
   | refine LeO.bind ?_ (fun _ => ?_)
theorem busbarlaw10_row.mono : ∀ a0 k, LeO (busbarlaw10_row.f k a0) (busbarlaw10_row.f (k + 1) a0) := by
 intro a0 k
 obtain ⟨ih0, ih1⟩ := busbarlaw10_row.mono_l k
 unfold busbarlaw10_row.f
 repeat' first
   | (with_reducible exact ih0 _ _ _)
   | (with_reducible exact ih1 _ _ _ _)
   | (with_reducible exact busbarlaw0_Ask.mono _ _ _)
   | (with_reducible exact busbarlaw0_Frame.mono _ _ _ _ _ _ _ _ _ _ _ _ _ _ _)
   | (with_reducible exact LeO.refl _)
   | (with_reducible exact LeO.none _)
   | (with_reducible refine LeO.ite ?_ ?_)
   | (with_reducible refine LeO.bind ?_ (fun _ => ?_))
   | exact ih0 _ _ _
   | exact ih1 _ _ _ _
   | exact busbarlaw0_Ask.mono _ _ _
   | exact busbarlaw0_Frame.mono _ _ _ _ _ _ _ _ _ _ _ _ _ _ _
   | exact LeO.none _
   | refine LeO.ite ?_ ?_
   | refine LeO.bind ?_ (fun _ => ?_)
def busbarlaw10_row.T5 : Bool × List (List Nat × List Nat) := (true, [([], []), ([], []), ([], []), ([1, 2], [1, 2]), ([3], [3]), ([], []), ([], []), ([5, 6], [5, 6]), ([7], [7]), ([4, 8], [4, 8]), ([], []), ([], []), ([], []), ([11, 12], [11, 12]), ([13], [13]), ([9, 10, 14, 9], [9, 10, 14]), ([0, 15, 15], [0, 15]), ([16, 16, 0, 1, 2, 3, 4, 5, 6, 7, 8, 9, 10, 11, 12, 13, 14, 15, 16], [0, 16])])
def busbarlaw10_row.B5 : List Nat := [0, 0, 0, 6, 14, 0, 0, 96, 224, 510, 0, 0, 0, 6144, 14336, 32766, 65535, 131071]
theorem busbarlaw10_row.tab5 : rtab .any (opsOf Try.f39 5) = busbarlaw10_row.T5 := by kernel_rfl
theorem busbarlaw10_row.bits5 : waitsOk busbarlaw10_row.T5.2 busbarlaw10_row.B5 = true := by kernel_rfl
set_option maxHeartbeats 8000000 in
set_option maxRecDepth 100000 in
theorem busbarlaw10_row.calls (k : Nat) (A0 : Option Addr) (c0 : Nat) (l0 : List Int) (r : List Int) (w : World) (hr0 : Kd.C (Kd.int .i64) w A0 l0.length l0) (hc0 : l0.length ≤ c0) (h : busbarlaw10_row.f k l0 = some r) :
  Calls Try.prog 39 #[.slice A0 l0.length c0] w fun e w' => ∃ v0_ : Value, e = .returned (v0_) ∧ Kd.R (Kd.int .u8) 5 w' w.heap.size (fun _ => True) v0_ r ∧ Below w.heap.size w w' := by
 have HR0 := Aside0.mk hr0
 have HC0 := Aside0.mk hc0
 clear hr0 hc0
 have HB := Aside0.mk (Below.refl w.heap.size w)
 have H : (busbarlaw10_row.l0 k l0 ([] : List Int) 0) = some r := h
 clear h
 have H' := Aside0.mk H
 clear H
 go_enter Try.func39, Try.ntmps39
 go_wp2
 go_loopg [3, 4] k (fun kq v3 v4 w' => ∃ (x3_1 : List Int) (x4_1 : Int), v4 = .int .i64 x4_1 ∧ Aside0 (busbarlaw10_row.l0 kq l0 x3_1 x4_1 = some r) ∧ Aside0 (kq ≤ k) ∧ Aside0 (Kd.R (Kd.int .u8) 5 w' w.heap.size (fun _ => True) v3 x3_1) ∧ Aside0 (Below w.heap.size w w'))
 case atStart => exact ⟨(([] : List Int)), (0), (by first | rfl | (simp; done) | (simp [*]; done)), H', ⟨Nat.le_refl _⟩, ⟨by first | exact Kd.R_nil _ _ _ _ _ | exact Kd.N_nil _ _ _ _ _ | exact Kd.V_nil _ _ _ _ _ | exact Kd.Q_nil _ _ _ _ _ | exact Kd.S_nil _ _ _ _ _⟩, ⟨by repeat (first | (with_reducible first | exact HB.out | apply below_alloc | apply pw_below_drewN | apply below_drew1) | exact HB.out)⟩⟩
 case round =>
  clear H'
  obtain ⟨x3_1, x4_1, rfl, HA, HK1, HO_3, HB⟩ := hrel
  cases gk with
  | zero => exact absurd HA.out (by simp [busbarlaw10_row.l0])
  | succ k1 =>
   have H := HA.out
   clear HA
   simp only [busbarlaw10_row.l0] at H
   have HC2 := Aside0.mk H
   clear H
   go_upto_region 3 with (fail)
   go_cut [12] (fun v12 wc => ∃ (kq : Nat) (x12_1 : Bool), v12 = .bool x12_1 ∧ Aside0 (busbarlaw10_row.j1 kq l0 x3_1 x4_1 x12_1 = some r) ∧ Aside0 (kq ≤ k1) ∧ Aside0 (Kd.R (Kd.int .u8) 5 wc w.heap.size (fun _ => True) u3 x3_1) ∧ Aside0 (Below w.heap.size w wc))
   case first =>
    have H := HC2.out
    clear HC2
    by_cases c3 : x4_1 < (l0.length : Int)
    ·
     rw [if_pos c3] at H
     have c3b0 : decide (x4_1 < (l0.length : Int)) = true := decide_eq_true c3
     clear c3
     (first | rw [c3b0] | (simp only [i64_w, i32_w]; rw [c3b0]) | skip)
     have H' := Aside0.mk H
     clear H
     go_wp2
     go_meet
     case rel => exact ⟨_, (decide (x4_1 < 12)), (by first | rfl | (simp; done) | (simp [*]; done)), H', ⟨by have := HK1.out; first | omega | exact Nat.le_refl _⟩, ⟨by (with_reducible repeat (first | apply Kd.R_alloc | apply Kd.R_drewN | apply Kd.R_drew)); exact HO_3.out⟩, ⟨by repeat (first | (with_reducible first | exact HB.out | apply below_alloc | apply pw_below_drewN | apply below_drew1) | exact HB.out)⟩⟩
    ·
     rw [if_neg c3] at H
     have c3b0 : decide (x4_1 < (l0.length : Int)) = false := decide_eq_false c3
     clear c3
     (first | rw [c3b0] | (simp only [i64_w, i32_w]; rw [c3b0]) | skip)
     have H' := Aside0.mk H
     clear H
     go_wp2
     go_meet
     case rel => exact ⟨_, (false), (by first | rfl | (simp; done) | (simp [*]; done)), H', ⟨by have := HK1.out; first | omega | exact Nat.le_refl _⟩, ⟨by (with_reducible repeat (first | apply Kd.R_alloc | apply Kd.R_drewN | apply Kd.R_drew)); exact HO_3.out⟩, ⟨by repeat (first | (with_reducible first | exact HB.out | apply below_alloc | apply pw_below_drewN | apply below_drew1) | exact HB.out)⟩⟩
   case rest =>
    clear HC2
    try clear p2
    try clear c3
    try clear c3b0
    obtain ⟨kq, x12_1, rfl, HA, HJ1, HO_3, HB⟩ := hcut
    cases kq with
    | zero => exact absurd HA.out (by simp [busbarlaw10_row.j1])
    | succ kj1 =>
     have H := HA.out
     clear HA
     simp only [busbarlaw10_row.j1] at H
     by_cases c4 : x12_1 = true
     ·
      subst c4
      have H1 : (if 0 ≤ x4_1 then (if x4_1 < (l0.length : Int) then ((busbarlaw0_Ask.f kj1 (rd l0 x4_1) (rd l0 x4_1)).bind fun bt351 => ((busbarlaw0_Frame.f kj1 bt351.1 bt351.2.1 bt351.2.2.1 bt351.2.2.2.1 bt351.2.2.2.2.1 bt351.2.2.2.2.2.1 bt351.2.2.2.2.2.2.1 bt351.2.2.2.2.2.2.2.1 bt351.2.2.2.2.2.2.2.2.1 bt351.2.2.2.2.2.2.2.2.2.1 bt351.2.2.2.2.2.2.2.2.2.2.1 bt351.2.2.2.2.2.2.2.2.2.2.2 x4_1 (rd l0 x4_1)).bind fun t368 => (if x3_1.length + t368.length < 140737488355328 then (busbarlaw10_row.l0 kj1 l0 (x3_1 ++ t368) (wrap64 (x4_1 + 1))) else (none)))) else (none)) else (none)) = some r := by rw [if_pos rfl] at H; exact H
      clear H
      have H := H1
      clear H1
      by_cases c5 : 0 ≤ x4_1
      ·
       rw [if_pos c5] at H
       have c5b0 : decide (0 ≤ x4_1) = true := decide_eq_true c5
       clear c5
       by_cases c6 : x4_1 < (l0.length : Int)
       ·
        rw [if_pos c6] at H
        have c6b0 : decide (x4_1 < (l0.length : Int)) = true := decide_eq_true c6
        clear c6
        replace H := Option.bind_eq_some_iff.mp H
        obtain ⟨⟨t351, t352, t353, t354, t355, t356, t357, t360, t363, t364, t365, t366⟩, A70, H⟩ := H
        replace H : ((busbarlaw0_Frame.f kj1 t351 t352 t353 t354 t355 t356 t357 t360 t363 t364 t365 t366 x4_1 (rd l0 x4_1)).bind fun t368 => (if x3_1.length + t368.length < 140737488355328 then (busbarlaw10_row.l0 kj1 l0 (x3_1 ++ t368) (wrap64 (x4_1 + 1))) else (none))) = some r := H
        have A7 := Aside0.mk A70
        clear A70
        replace H := Option.bind_eq_some_iff.mp H
        obtain ⟨t368, A80, H⟩ := H
        replace H : (if x3_1.length + t368.length < 140737488355328 then (busbarlaw10_row.l0 kj1 l0 (x3_1 ++ t368) (wrap64 (x4_1 + 1))) else (none)) = some r := H
        have A8 := Aside0.mk A80
        clear A80
        by_cases c9 : x3_1.length + t368.length < 140737488355328
        ·
         rw [if_pos c9] at H
         have LMc9 := Aside0.mk c9
         clear c9
         obtain ⟨y371, hy371⟩ : ∃ y_ : List Int, y_ = (x3_1 ++ t368) := ⟨_, rfl⟩
         replace H : (busbarlaw10_row.l0 kj1 l0 y371 (wrap64 (x4_1 + 1))) = some r := by first | (rw [hy371]; with_reducible exact H) | (have H2_ := (Option.bind_some _ _).symm.trans H; rw [hy371]; with_reducible exact H2_) | (have H2_ := (Option.bind_some _ _).symm.trans H; with_reducible exact H2_) | with_reducible exact H | (rw [hy371]; exact H) | exact H
         have Ny371 := Aside0.mk hy371
         clear hy371
         have H' := Aside0.mk H
         clear H
         try go_wp2
         have n0_ := Aside0.mk (Kd.R_drew HO_3.out)
         have n1_ := Aside0.mk (below_drew1 HB.out)
         clear HO_3
         clear HB
         have HO_3 := n0_
         have HB := n1_
         clear n0_ n1_
         have p349 : 0 ≤ (x4_1 : Int) := of_decide_eq_true (by first | (with_reducible assumption) | assumption)
         have q349 : x4_1 < (l0.length : Int) := of_decide_eq_true (by first | (with_reducible assumption) | assumption)
         obtain ⟨ad349, e349, hx349_0⟩ := Kd.at_int HR0.out x4_1 p349 q349
         have hw349_0 := hx349_0
         cases e349
         replace hx349_0 := (HB.out.cell (World.block_lt_of_cell? w _ hx349_0)).trans hx349_0
         replace p349 := eq_true p349
         replace q349 := eq_true q349
         have p350 : 0 ≤ (x4_1 : Int) := of_decide_eq_true (by first | (with_reducible assumption) | assumption)
         have q350 : x4_1 < (l0.length : Int) := of_decide_eq_true (by first | (with_reducible assumption) | assumption)
         obtain ⟨ad350, e350, hx350_0⟩ := Kd.at_int HR0.out x4_1 p350 q350
         have hw350_0 := hx350_0
         obtain rfl : ad349 = ad350 := (by injection e350)
         replace hx350_0 := (HB.out.cell (World.block_lt_of_cell? w _ hx350_0)).trans hx350_0
         replace p350 := eq_true p350
         replace q350 := eq_true q350
         have p367 : 0 ≤ (x4_1 : Int) := of_decide_eq_true (by first | (with_reducible assumption) | assumption)
         have q367 : x4_1 < (l0.length : Int) := of_decide_eq_true (by first | (with_reducible assumption) | assumption)
         obtain ⟨ad367, e367, hx367_0⟩ := Kd.at_int HR0.out x4_1 p367 q367
         have hw367_0 := hx367_0
         obtain rfl : ad349 = ad367 := (by injection e367)
         replace hx367_0 := (HB.out.cell (World.block_lt_of_cell? w _ hx367_0)).trans hx367_0
         replace p367 := eq_true p367
         replace q367 := eq_true q367
         refine start_ (n := 18) (S := fun w' => w'.cell? (ad349.add (x4_1).toNat) = some (.int .i64 (rd l0 x4_1)) ∧ w'.cell? (ad349.add (x4_1).toNat) = some (.int .i64 (rd l0 x4_1)) ∧ w'.cell? (ad349.add (x4_1).toNat) = some (.int .i64 (rd l0 x4_1))) (ds := []) #[false,false,false,false,false,false,false,false,false,false,false,false,false,false,false,false,false,false] (by kernel_rfl) rfl rfl ⟨((HB.out.cell (World.block_lt_of_cell? w _ hw349_0)).trans hw349_0), ((HB.out.cell (World.block_lt_of_cell? w _ hw350_0)).trans hw350_0), ((HB.out.cell (World.block_lt_of_cell? w _ hw367_0)).trans hw367_0)⟩ (fun hHeld => ?_); refine with_tabW busbarlaw10_row.tab5 busbarlaw10_row.bits5 (fun HT_ HW_ => ?_)
         generalize wc.drew = w10 at HO_3 HB hx349_0 hx350_0 hx367_0 hHeld ⊢
         refine pure_ (i := 0) (N := some 15) (v := ?_) (a' := ?_) #[true,false,false,false,false,false,false,false,false,false,false,false,false,false,false,false,false,false] rfl rfl (any_of HT_.out (by kernel_rfl)) (fun _ _ _ h => h) (Or.inl ⟨by rfl, ?_⟩) ?_ ?_
         rotate_left
         ·
          intro w'
          go_simp
          with_reducible rfl
         rotate_left
         ·
          simp only [Act.put, List.setIfInBounds_toArray, List.set_cons_zero, List.set_cons_succ, i64_w, i32_w]
          rfl
         refine pure_ (i := 1) (N := some 16) (v := ?_) (a' := ?_) #[true,true,false,false,false,false,false,false,false,false,false,false,false,false,false,false,false,false] rfl rfl (any_of HT_.out (by kernel_rfl)) (fun _ _ _ h => h) (Or.inl ⟨by rfl, ?_⟩) ?_ ?_
         rotate_left
         ·
          intro w'
          go_simp
          with_reducible rfl
         rotate_left
         ·
          simp only [Act.put, List.setIfInBounds_toArray, List.set_cons_zero, List.set_cons_succ, i64_w, i32_w]
          rfl
         refine pure_ (i := 2) (N := some 17) (v := ?_) (a' := ?_) #[true,true,true,false,false,false,false,false,false,false,false,false,false,false,false,false,false,false] rfl rfl (any_of HT_.out (by kernel_rfl)) (fun _ _ _ h => h) (Or.inl ⟨by rfl, ?_⟩) ?_ ?_
         rotate_left
         ·
          intro w'
          go_simp
          with_reducible rfl
         rotate_left
         ·
          simp only [Act.put, List.setIfInBounds_toArray, List.set_cons_zero, List.set_cons_succ, i64_w, i32_w]
          rfl
         refine pure_ (i := 3) (N := some 18) (v := ?_) (a' := ?_) #[true,true,true,true,false,false,false,false,false,false,false,false,false,false,false,false,false,false] rfl rfl (any_of HT_.out (by kernel_rfl)) (fun _ _ _ h => h) (Or.inl ⟨by rfl, ?_⟩) ?_ ?_
         rotate_left
         ·
          intro w'
          go_simp
          with_reducible rfl
         rotate_left
         ·
          simp only [Act.put, List.setIfInBounds_toArray, List.set_cons_zero, List.set_cons_succ, i64_w, i32_w]
          rfl
         refine pure_ (i := 5) (N := some 20) (v := ?_) (a' := ?_) #[true,true,true,true,false,true,false,false,false,false,false,false,false,false,false,false,false,false] rfl rfl (any_of HT_.out (by kernel_rfl)) (fun _ _ _ h => h) (Or.inl ⟨by rfl, ?_⟩) ?_ ?_
         rotate_left
         ·
          intro w'
          go_simp
          with_reducible rfl
         rotate_left
         ·
          simp only [Act.put, List.setIfInBounds_toArray, List.set_cons_zero, List.set_cons_succ, i64_w, i32_w]
          rfl
         refine pure_ (i := 6) (N := some 21) (v := ?_) (a' := ?_) #[true,true,true,true,false,true,true,false,false,false,false,false,false,false,false,false,false,false] rfl rfl (any_of HT_.out (by kernel_rfl)) (fun _ _ _ h => h) (Or.inl ⟨by rfl, ?_⟩) ?_ ?_
         rotate_left
         ·
          intro w'
          go_simp
          with_reducible rfl
         rotate_left
         ·
          simp only [Act.put, List.setIfInBounds_toArray, List.set_cons_zero, List.set_cons_succ, i64_w, i32_w]
          rfl
         refine pure_ (i := 7) (N := some 22) (v := ?_) (a' := ?_) #[true,true,true,true,false,true,true,true,false,false,false,false,false,false,false,false,false,false] rfl rfl (any_of HT_.out (by kernel_rfl)) (fun _ _ _ h => h) (Or.inl ⟨by rfl, ?_⟩) ?_ ?_
         rotate_left
         ·
          intro w'
          go_simp
          with_reducible rfl
         rotate_left
         ·
          simp only [Act.put, List.setIfInBounds_toArray, List.set_cons_zero, List.set_cons_succ, i64_w, i32_w]
          rfl
         refine pure_ (i := 10) (N := some 25) (v := ?_) (a' := ?_) #[true,true,true,true,false,true,true,true,false,false,true,false,false,false,false,false,false,false] rfl rfl (any_of HT_.out (by kernel_rfl)) (fun _ _ _ h => h) (Or.inl ⟨by rfl, ?_⟩) ?_ ?_
         rotate_left
         ·
          intro w'
          go_simp
          with_reducible rfl
         rotate_left
         ·
          simp only [Act.put, List.setIfInBounds_toArray, List.set_cons_zero, List.set_cons_succ, i64_w, i32_w]
          rfl
         refine pure_ (i := 11) (N := some 26) (v := ?_) (a' := ?_) #[true,true,true,true,false,true,true,true,false,false,true,true,false,false,false,false,false,false] rfl rfl (any_of HT_.out (by kernel_rfl)) (fun _ _ _ h => h) (Or.inl ⟨by rfl, ?_⟩) ?_ ?_
         rotate_left
         ·
          intro w'
          go_simp
          with_reducible rfl
         rotate_left
         ·
          simp only [Act.put, List.setIfInBounds_toArray, List.set_cons_zero, List.set_cons_succ, i64_w, i32_w]
          rfl
         refine pure_ (i := 12) (N := some 27) (v := ?_) (a' := ?_) #[true,true,true,true,false,true,true,true,false,false,true,true,true,false,false,false,false,false] rfl rfl (any_of HT_.out (by kernel_rfl)) (fun _ _ _ h => h) (Or.inl ⟨by rfl, ?_⟩) ?_ ?_
         rotate_left
         ·
          intro w'
          go_simp
          with_reducible rfl
         rotate_left
         ·
          simp only [Act.put, List.setIfInBounds_toArray, List.set_cons_zero, List.set_cons_succ, i64_w, i32_w]
          rfl
         refine pure_ (i := 13) (N := some 28) (v := ?_) (a' := ?_) #[true,true,true,true,false,true,true,true,false,false,true,true,true,true,false,false,false,false] rfl rfl (any_of HT_.out (by kernel_rfl)) (fun _ _ _ h => h) (Or.inl ⟨by rfl, ?_⟩) ?_ ?_
         rotate_left
         ·
          intro w'
          go_simp
          with_reducible rfl
         rotate_left
         ·
          simp only [Act.put, List.setIfInBounds_toArray, List.set_cons_zero, List.set_cons_succ, i64_w, i32_w]
          rfl
         refine take_ (i := 4) (N := some 19) (v := ?_) (a' := ?_) #[true,true,true,true,true,true,true,true,false,false,true,true,true,true,false,false,false,false] rfl rfl (take_ofW HT_.out HW_.out (by kernel_rfl)) (fun _ _ _ h => h) (Or.inl ⟨by rfl, ?_⟩) hHeld ?_ ?_
         rotate_left
         ·
          rintro w' ⟨s0, s1, s2⟩
          go_simp
          with_reducible rfl
         rotate_left
         ·
          simp only [Act.put, List.setIfInBounds_toArray, List.set_cons_zero, List.set_cons_succ, i64_w, i32_w]
          rfl
         refine take_ (i := 8) (N := some 23) (v := ?_) (a' := ?_) #[true,true,true,true,true,true,true,true,true,false,true,true,true,true,false,false,false,false] rfl rfl (take_ofW HT_.out HW_.out (by kernel_rfl)) (fun _ _ _ h => h) (Or.inl ⟨by rfl, ?_⟩) hHeld ?_ ?_
         rotate_left
         ·
          rintro w' ⟨s0, s1, s2⟩
          go_simp
          with_reducible rfl
         rotate_left
         ·
          simp only [Act.put, List.setIfInBounds_toArray, List.set_cons_zero, List.set_cons_succ, i64_w, i32_w]
          rfl
         refine take_ (i := 14) (N := some 29) (v := ?_) (a' := ?_) #[true,true,true,true,true,true,true,true,true,false,true,true,true,true,true,false,false,false] rfl rfl (take_ofW HT_.out HW_.out (by kernel_rfl)) (fun _ _ _ h => h) (Or.inl ⟨by rfl, ?_⟩) hHeld ?_ ?_
         rotate_left
         ·
          rintro w' ⟨s0, s1, s2⟩
          go_simp
          with_reducible rfl
         rotate_left
         ·
          simp only [Act.put, List.setIfInBounds_toArray, List.set_cons_zero, List.set_cons_succ, i64_w, i32_w]
          rfl
         refine one_ (i := 9) (N := some 24) #[true,true,true,true,true,true,true,true,true,true,true,true,true,true,true,false,false,false] rfl rfl (one_of HT_.out (by kernel_rfl)) (by decide) (fun K hK => ?_)
         refine goes_ Try.func29 (by kernel_rfl) rfl #[.int .i64 (rd l0 x4_1), .int .i64 (rd l0 x4_1)] (by rfl) rfl rfl (by (try simp only [List.map_toArray, List.map_cons, List.map_nil]); first | done | rfl | (simp only [List.length_drop, List.length_take]; rfl)) ?_
         with_reducible refine (busbarlaw0_Ask.calls kj1 (rd l0 x4_1) (rd l0 x4_1) t351 t352 t353 t354 t355 t356 t357 t360 t363 t364 t365 t366 _ A7.out).mono ?_
         rintro e w11 ⟨v358, v361, rfl, ho0, ho1, hb⟩
         refine ⟨_, rfl, ?_⟩
         have n0_ := Aside0.mk (Kd.R_below (by (with_reducible repeat (first | apply Kd.R_alloc | apply Kd.R_drewN | apply Kd.R_drew)); exact HO_3.out) hb)
         have n1_ := Aside0.mk (Kd.R_lower ho0 (below_size (by repeat (first | (with_reducible first | exact HB.out | apply below_alloc | apply pw_below_drewN | apply below_drew1) | exact HB.out))))
         have n2_ := Aside0.mk (Kd.R_lower ho1 (below_size (by repeat (first | (with_reducible first | exact HB.out | apply below_alloc | apply pw_below_drewN | apply below_drew1) | exact HB.out))))
         have n3_ := Aside0.mk (below_step (by repeat (first | (with_reducible first | exact HB.out | apply below_alloc | apply pw_below_drewN | apply below_drew1) | exact HB.out)) hb)
         clear HO_3
         clear HB
         have HO_3 := n0_
         have HO359 := n1_
         have HO362 := n2_
         have HB := n3_
         clear n0_ n1_ n2_ n3_
         (try clear hb)
         (try clear hb2)
         (try clear hk)
         (try clear hi)
         (try clear ho0)
         (try clear ho1)
         obtain ⟨Ao12, co12, eo12⟩ := Kd.R_slice HO359.out
         (first | subst eo12 | (injection eo12 with f1_ f2_ f3_; have f4_ := f1_.symm; have f5_ := f3_.symm; clear f1_ f2_ f3_; subst f4_; subst f5_))
         obtain ⟨Ao13, co13, eo13⟩ := Kd.R_slice HO362.out
         (first | subst eo13 | (injection eo13 with f1_ f2_ f3_; have f4_ := f1_.symm; have f5_ := f3_.symm; clear f1_ f2_ f3_; subst f4_; subst f5_))
         refine hK.out _ _ ⟨((HB.out.cell (World.block_lt_of_cell? w _ hw349_0)).trans hw349_0), ((HB.out.cell (World.block_lt_of_cell? w _ hw350_0)).trans hw350_0), ((HB.out.cell (World.block_lt_of_cell? w _ hw367_0)).trans hw367_0)⟩ (fun hHeld => ?_)
         clear hK K
         refine norm_ (a' := ?_) ?_ ?_
         rotate_left
         ·
          show Act.put _ (some 24) _ = _
          simp only [Act.put, List.setIfInBounds_toArray, List.set_cons_zero, List.set_cons_succ, i64_w, i32_w]
          rfl
         refine one_ (i := 15) (N := some 30) #[true,true,true,true,true,true,true,true,true,true,true,true,true,true,true,true,false,false] rfl rfl (one_of HT_.out (by kernel_rfl)) (by decide) (fun K hK => ?_)
         refine goes_ Try.func56 (by kernel_rfl) rfl #[.agg #[.int .i64 t351, .int .i64 t352, .int .i64 t353, .int .u16 t354, .int .u16 t355, .int .u16 t356, .slice Ao12 t357.length co12, .slice Ao13 t360.length co13, .int .i64 t363, .int .i64 t364, .int .i64 t365, .int .i64 t366], .int .i64 x4_1, .int .i64 (rd l0 x4_1)] (by rfl) rfl rfl (by (try simp only [List.map_toArray, List.map_cons, List.map_nil]); first | done | rfl | (simp only [List.length_drop, List.length_take]; rfl)) ?_
         with_reducible refine (busbarlaw0_Frame.calls kj1 t351 t352 t353 t354 t355 t356 _ _ t357 _ _ t360 t363 t364 t365 t366 x4_1 (rd l0 x4_1) t368 _ ?side1 ?side2 ?side3 ?side4 A8.out).mono ?_
         (case side1 => repeat (first | exact (Kd.R_reads' HO359.out).2.2 | (with_reducible refine Kd.C_alloc ?_ _) | (with_reducible refine Kd.C_drewN ?_ _) | (with_reducible refine Kd.C_drew ?_)))
         (case side2 => exact (Kd.R_reads' HO359.out).2.1)
         (case side3 => repeat (first | exact (Kd.R_reads' HO362.out).2.2 | (with_reducible refine Kd.C_alloc ?_ _) | (with_reducible refine Kd.C_drewN ?_ _) | (with_reducible refine Kd.C_drew ?_)))
         (case side4 => exact (Kd.R_reads' HO362.out).2.1)
         rintro e w14 ⟨v369, rfl, ho0, hb⟩
         refine ⟨_, rfl, ?_⟩
         have n0_ := Aside0.mk (Kd.R_elder' (by (with_reducible repeat (first | apply Kd.R_alloc | apply Kd.R_drewN | apply Kd.R_drew)); exact HO_3.out) (Kd.R_base ho0) hb)
         have n1_ := Aside0.mk (Kd.R_below (by (with_reducible repeat (first | apply Kd.R_alloc | apply Kd.R_drewN | apply Kd.R_drew)); exact HO359.out) hb)
         have n2_ := Aside0.mk (Kd.R_below (by (with_reducible repeat (first | apply Kd.R_alloc | apply Kd.R_drewN | apply Kd.R_drew)); exact HO362.out) hb)
         have n3_ := Aside0.mk (Kd.R_lower (Kd.R_new' ho0 (Kd.R_lt (by (with_reducible repeat (first | apply Kd.R_alloc | apply Kd.R_drewN | apply Kd.R_drew)); exact HO_3.out))) (below_size (by repeat (first | (with_reducible first | exact HB.out | apply below_alloc | apply pw_below_drewN | apply below_drew1) | exact HB.out))))
         have n4_ := Aside0.mk (below_step (by repeat (first | (with_reducible first | exact HB.out | apply below_alloc | apply pw_below_drewN | apply below_drew1) | exact HB.out)) hb)
         clear HO_3
         clear HO359
         clear HO362
         clear HB
         have HO_3 := n0_
         have HO359 := n1_
         have HO362 := n2_
         have HO370 := n3_
         have HB := n4_
         clear n0_ n1_ n2_ n3_ n4_
         (try clear hb)
         (try clear hb2)
         (try clear hk)
         (try clear hi)
         (try clear ho0)
         obtain ⟨Ao16, co16, eo16⟩ := Kd.R_slice HO370.out
         (first | subst eo16 | (injection eo16 with f1_ f2_ f3_; have f4_ := f1_.symm; have f5_ := f3_.symm; clear f1_ f2_ f3_; subst f4_; subst f5_))
         refine hK.out _ _ ⟨((HB.out.cell (World.block_lt_of_cell? w _ hw349_0)).trans hw349_0), ((HB.out.cell (World.block_lt_of_cell? w _ hw350_0)).trans hw350_0), ((HB.out.cell (World.block_lt_of_cell? w _ hw367_0)).trans hw367_0)⟩ (fun hHeld => ?_)
         clear hK K
         refine norm_ (a' := ?_) ?_ ?_
         rotate_left
         ·
          show Act.put _ (some 30) _ = _
          simp only [Act.put, List.setIfInBounds_toArray, List.set_cons_zero, List.set_cons_succ, i64_w, i32_w]
          rfl
         refine one_ (i := 16) (N := some 31) #[true,true,true,true,true,true,true,true,true,true,true,true,true,true,true,true,true,false] rfl rfl (one_of HT_.out (by kernel_rfl)) (by decide) (fun K hK => ?_)
         refine Kd.R_append_rows_step (Kd.int .u8) (w0 := w) w.heap.size (by rfl) (.tmp 15) (.tmp 30) 30 5 (.int .u8 0) 1 rfl Try.underlying30 info5 rfl (by decide) (by omega) u3 x3_1 t368 _ _ _ (fun k_ => some k_ ≠ (.slice Ao16 t368.length co16 : Value).ownBlock) (fun _ => False) rfl rfl ?aO ?aR (fun _ _ h => h) (fun _ h => h.elim) ?aF ?aB ?aS ?aL ?_
         (case aR => repeat (first | exact (Kd.R_reads' HO370.out).2.2 | (with_reducible refine Kd.C_alloc ?_ _) | (with_reducible refine Kd.C_drewN ?_ _) | (with_reducible refine Kd.C_drew ?_)))
         (case aB => exact (by repeat (first | (with_reducible first | exact HB.out | apply below_alloc | apply pw_below_drewN | apply below_drew1) | exact HB.out)))
         (case aF => exact (fun k_ hk => Kd.fresh' (Kd.R_lt (by (with_reducible repeat (first | apply Kd.R_alloc | apply Kd.R_drewN | apply Kd.R_drew)); exact HO370.out)) k_ hk))
         (case aO => exact (by (with_reducible repeat (first | apply Kd.R_alloc | apply Kd.R_drewN | apply Kd.R_drew)); exact Kd.R_mono HO_3.out (fun _ hk => by first | exact hk.2 | exact hk)))
         (case aS => exact (below_size (by repeat (first | (with_reducible first | exact HB.out | apply below_alloc | apply pw_below_drewN | apply below_drew1) | exact HB.out))))
         (case aL => have := LMc9.out; omega)
         intro v372 w15 ho hb hg hat
         rw [← Ny371.out] at ho
         have n0_ := Aside0.mk (Kd.R_over' (by (with_reducible repeat (first | apply Kd.R_alloc | apply Kd.R_drewN | apply Kd.R_drew)); exact HO359.out) (Kd.R_typed (by (with_reducible repeat (first | apply Kd.R_alloc | apply Kd.R_drewN | apply Kd.R_drew)); exact HO_3.out)) (by decide) hg)
         have n1_ := Aside0.mk (Kd.R_over' (by (with_reducible repeat (first | apply Kd.R_alloc | apply Kd.R_drewN | apply Kd.R_drew)); exact HO362.out) (Kd.R_typed (by (with_reducible repeat (first | apply Kd.R_alloc | apply Kd.R_drewN | apply Kd.R_drew)); exact HO_3.out)) (by decide) hg)
         have n2_ := Aside0.mk (Kd.R_after (ok := (fun _ => True)) (by (with_reducible repeat (first | apply Kd.R_alloc | apply Kd.R_drewN | apply Kd.R_drew)); exact HO370.out) hg hat)
         have n3_ := Aside0.mk (hb)
         have n4_ := Aside0.mk (ho)
         clear HO359
         clear HO362
         clear HO370
         clear HB
         clear HO_3
         have HO359 := n0_
         have HO362 := n1_
         have HO370 := n2_
         have HB := n3_
         have HO373 := n4_
         clear n0_ n1_ n2_ n3_ n4_
         clear ho hb hg hat
         refine hK.out _ _ ⟨((HB.out.cell (World.block_lt_of_cell? w _ hw349_0)).trans hw349_0), ((HB.out.cell (World.block_lt_of_cell? w _ hw350_0)).trans hw350_0), ((HB.out.cell (World.block_lt_of_cell? w _ hw367_0)).trans hw367_0)⟩ (fun hHeld => ?_)
         clear hK K
         refine norm_ (a' := ?_) ?_ ?_
         rotate_left
         ·
          show Act.put _ (some 31) _ = _
          simp only [Act.put, List.setIfInBounds_toArray, List.set_cons_zero, List.set_cons_succ, i64_w, i32_w]
          rfl
         refine pure_ (i := 17) (N := some 3) (v := ?_) (a' := ?_) #[true,true,true,true,true,true,true,true,true,true,true,true,true,true,true,true,true,true] rfl rfl (any_of HT_.out (by kernel_rfl)) (fun _ _ _ h => h) (Or.inl ⟨by rfl, ?_⟩) ?_ ?_
         rotate_left
         ·
          intro w'
          go_simp
          with_reducible rfl
         rotate_left
         ·
          simp only [Act.put, List.setIfInBounds_toArray, List.set_cons_zero, List.set_cons_succ, i64_w, i32_w]
          rfl
         refine done_ (done_of HT_.out (by kernel_rfl)) ?_
         try go_wp2
         go_roundg kj1
         case measure => have := HK1.out; have := HJ1.out; omega
         case rel => exact ⟨(y371), (wrap64 (x4_1 + 1)), (by first | rfl | (simp; done) | (simp [*]; done)), H', ⟨by have := HK1.out; have := HJ1.out; omega⟩, ⟨by (with_reducible repeat (first | apply Kd.R_alloc | apply Kd.R_drewN | apply Kd.R_drew)); exact Kd.R_mono HO373.out (fun _ hk => trivial)⟩, ⟨by repeat (first | (with_reducible first | exact HB.out | apply below_alloc | apply pw_below_drewN | apply below_drew1) | exact HB.out)⟩⟩
        ·
         rw [if_neg c9] at H
         exact absurd H (by simp)
       ·
        rw [if_neg c6] at H
        exact absurd H (by simp)
      ·
       rw [if_neg c5] at H
       exact absurd H (by simp)
     ·
      replace c4 := Bool.eq_false_iff.mpr c4
      subst c4
      have H1 : (some x3_1) = some r := by rw [if_neg (show ¬ (false = true) by decide)] at H; exact H
      clear H
      have H := H1
      clear H1
      obtain rfl := Option.some.inj H
      go_wp2
      go_ret
      exact ⟨_, by first | rfl | (simp [errW_none, errW_some] <;> rfl) | (simp [*, errW_none, errW_some] <;> rfl), by (with_reducible repeat (first | apply Kd.R_alloc | apply Kd.R_drewN | apply Kd.R_drew)); exact HO_3.out, by repeat (first | (with_reducible first | exact HB.out | apply below_alloc | apply pw_below_drewN | apply below_drew1) | exact HB.out)⟩
end Go.Proofs.Ytakiojmjalbfpaa.PFlow
set_option linter.unusedVariables false
set_option linter.unusedSimpArgs false
namespace Go.Proofs.Ytakiojmjalbfpaa.Ring
open Go.RowKit Go.Proofs.YtakiojmjalbfpaaW.PrintWords Go.Proofs.YtakiojmjalbfpaaW.PrintLast Go.Proofs.YtakiojmjalbfpaaW.PrintMore Go.Proofs.Ytakiojmjalbfpaa.PFlow Go.Proofs.Ytakiojmjalbfpaa.Num Go.Proofs.Ytakiojmjalbfpaa.LemPkFlow Go.Proofs.Ytakiojmjalbfpaa.LemAskCFlow Go.Proofs.Ytakiojmjalbfpaa.LemAskDFlow Go.Proofs.Ytakiojmjalbfpaa.LemAduFlow Go.Proofs.Ytakiojmjalbfpaa.LemHeadFlow Go.Proofs.Ytakiojmjalbfpaa.LemWithinFlow
def rowG (ks : List Int) (i : Nat) : List Int := fr (i : Int) (rd ks (i : Int) % 256) (pk (rd ks (i : Int)) (rd ks (i : Int)))
def rowl (ks : List Int) : List Int := cats (rowG ks) (min ks.length 12) 0
theorem row_bd (ks : List Int) (hks : ∀ x ∈ ks, Bd x) (i : Nat) (hi : i < ks.length) : Bd (rd ks (i : Int)) := by rw [rd_get ks i hi]; exact hks _ (List.getElem_mem hi)
theorem rowG_ok (ks : List Int) (hks : ∀ x ∈ ks, Bd x) (i : Nat) (hi : i < ks.length) (h12 : i < 12) : Ok (i : Int) (((pk (rd ks (i : Int)) (rd ks (i : Int))).length : Int) + 1) (rd ks (i : Int) % 256) ∧ (rowG ks i).length = 7 + (pk (rd ks (i : Int)) (rd ks (i : Int))).length ∧ 8 ≤ (rowG ks i).length ∧ (rowG ks i).length ≤ 260 ∧ B8 (rowG ks i) :=
  fr_ok _ _ _ _ (by omega) ⟨Int.emod_nonneg _ (by omega), Int.emod_lt_of_pos _ (by omega)⟩ (row_bd ks hks i hi) (row_bd ks hks i hi)
theorem frame_row (ks : List Int) (hks : ∀ x ∈ ks, Bd x) (i : Nat) (hi : i < ks.length) (h12 : i < 12) (k : Nat) (hk : 100 ≤ k) : ∃ r : Tup, busbarlaw0_Ask.f k (rd ks (i : Int)) (rd ks (i : Int)) = some r ∧ busbarlaw0_Frame.f k r.1 r.2.1 r.2.2.1 r.2.2.2.1 r.2.2.2.2.1 r.2.2.2.2.2.1 r.2.2.2.2.2.2.1 r.2.2.2.2.2.2.2.1 r.2.2.2.2.2.2.2.2.1 r.2.2.2.2.2.2.2.2.2.1 r.2.2.2.2.2.2.2.2.2.2.1 r.2.2.2.2.2.2.2.2.2.2.2 (i : Int) (rd ks (i : Int)) = some (rowG ks i) := by
  have hx := row_bd ks hks i hi
  obtain ⟨r, h1, h2, h3, h4, h5⟩ := pk_spec _ _ hx hx
  obtain ⟨f1, f2, f3, f4, f5⟩ := rowG_ok ks hks i hi h12
  refine ⟨r, h1 k hk, ?_⟩
  have hab := h2 k hk
  unfold AB at hab
  unfold busbarlaw0_Frame.f
  unfold Bd at hx
  rw [hab, Option.bind_some, within_eq (i : Int) 65536 (by omega) (by omega), Option.bind_some, Int.emod_eq_of_lt (a := (i : Int)) (b := 65536) (by omega) (by omega), within_eq (rd ks (i : Int)) 256 (by omega) (by omega), Option.bind_some]
  rw [refbytes_ok _ _ (pk (rd ks (i : Int)) (rd ks (i : Int))) (by omega) f1 (by omega), Option.bind_some]
  rfl
theorem row_l0 (ks : List Int) (hks : ∀ x ∈ ks, Bd x) (hm : ks.length ≤ 9223372036854775807) (N : Nat) (hN : N = min ks.length 12) : ∀ (d i : Nat) (acc : List Int) (k : Nat), i + d = N → acc.length ≤ 260 * i → 100 ≤ k → busbarlaw10_row.l0 (k + 2 * d + 2) ks acc (i : Int) = some (acc ++ cats (rowG ks) d i)
  | 0, i, acc, k, hi, ha, hk => by
    rw [show k + 2 * 0 + 2 = k + 1 + 1 by omega, busbarlaw10_row.l0, cats, List.append_nil]
    by_cases h : (i : Int) < (ks.length : Int)
    · rw [if_pos h, decide_eq_false (by omega), busbarlaw10_row.j1, if_neg (by decide)]
    · rw [if_neg h, busbarlaw10_row.j1, if_neg (by decide)]
  | d + 1, i, acc, k, hi, ha, hk => by
    obtain ⟨f1, f2, f3, f4, f5⟩ := rowG_ok ks hks i (by omega) (by omega)
    obtain ⟨r, g1, g2⟩ := frame_row ks hks i (by omega) (by omega) (k + 2 * d + 2) (by omega)
    rw [show k + 2 * (d + 1) + 2 = k + 2 * d + 2 + 1 + 1 by omega, busbarlaw10_row.l0, if_pos (by omega), decide_eq_true (by omega), busbarlaw10_row.j1, if_pos rfl, if_pos (by omega), if_pos (by omega), g1, Option.bind_some, g2, Option.bind_some, if_pos (by omega), wrap64_id (x := (i : Int) + 1) (by omega) (by omega)]
    have ih := row_l0 ks hks hm N hN d (i + 1) (acc ++ rowG ks i) k (by omega) (by rw [List.length_append]; omega) hk
    rw [List.append_assoc] at ih
    exact ih
theorem row_eq (ks : List Int) (hks : ∀ x ∈ ks, Bd x) (hm : ks.length ≤ 9223372036854775807) : ∃ k, busbarlaw10_row.f k ks = some (rowl ks) := by
  refine ⟨100 + 2 * (min ks.length 12) + 2, ?_⟩
  unfold busbarlaw10_row.f
  have h := row_l0 ks hks hm _ rfl (min ks.length 12) 0 [] 100 (by omega) (by simp) (by omega)
  rw [List.nil_append] at h
  exact h
theorem row_c (ks : List Int) (hks : ∀ x ∈ ks, Bd x) (A0 : Option Addr) (c0 : Nat) (w : World) (hr0 : Kd.C (Kd.int .i64) w A0 ks.length ks) (hc0 : ks.length ≤ c0) :
    Calls Try.prog 39 #[.slice A0 ks.length c0] w fun e w' => ∃ A c, e = .returned (.slice A (rowl ks).length c) ∧ Kd.R (Kd.int .u8) 5 w' w.heap.size (fun _ => True) (.slice A (rowl ks).length c) (rowl ks) ∧ Below w.heap.size w w' := by
  obtain ⟨k, hk⟩ := row_eq ks hks (by have := hr0.2.1; omega)
  refine (busbarlaw10_row.calls k A0 c0 ks (rowl ks) w hr0 hc0 hk).mono ?_
  rintro e w1 ⟨v, rfl, hR, hb⟩
  obtain ⟨A, c, rfl⟩ := Kd.R_slice hR
  exact ⟨A, c, rfl, hR, hb⟩
theorem rowl_ok (ks : List Int) (hks : ∀ x ∈ ks, Bd x) : (rowl ks).length ≤ 3120 ∧ B8 (rowl ks) := by
  obtain ⟨h1, h2⟩ := cats_ok (rowG ks) (min ks.length 12) (fun i hi => by obtain ⟨_, _, _, f4, f5⟩ := rowG_ok ks hks i (by omega) (by omega); exact ⟨f4, f5⟩) (min ks.length 12) 0 (by omega)
  exact ⟨by unfold rowl; omega, h2⟩
end Go.Proofs.Ytakiojmjalbfpaa.Ring
set_option linter.unusedVariables false
set_option linter.unusedSimpArgs false
namespace Go.Proofs.Ytakiojmjalbfpaa.Ring
open Go.RowKit Go.Proofs.YtakiojmjalbfpaaW.PrintWords Go.Proofs.YtakiojmjalbfpaaW.PrintLast Go.Proofs.YtakiojmjalbfpaaW.PrintMore Go.Proofs.Ytakiojmjalbfpaa.PFlow Go.Proofs.Ytakiojmjalbfpaa.Num Go.Proofs.Ytakiojmjalbfpaa.LemPkFlow Go.Proofs.Ytakiojmjalbfpaa.LemAduFlow Go.Proofs.Ytakiojmjalbfpaa.LemHeadFlow Go.Proofs.Ytakiojmjalbfpaa.LemHead2Flow
attribute [local go_sem] plus_setCell_drewN plus_cell_same
theorem hlook_take (q : List Int) (h : 260 < q.length) : hlook (q.take 260) = hlook q := by
  obtain ⟨b0, b1, b2, b3, b4, b5, r, rfl⟩ := six q (by omega)
  match r with
  | [] => simp at h
  | b6 :: r =>
    have e : (b0 :: b1 :: b2 :: b3 :: b4 :: b5 :: b6 :: r).take 260 = b0 :: b1 :: b2 :: b3 :: b4 :: b5 :: b6 :: r.take 253 := rfl
    rw [e, hlook7, hlook7]
theorem cutl_take (q : List Int) : cutl (q.take 260) = cutl q := by
  rcases Nat.lt_or_ge 260 q.length with h | h
  · unfold cutl
    rw [hlook_take q h]
    by_cases h0 : (hlook q).2.2.2 = 0
    · have h1 := hlook_le q h0
      have hl : (q.take 260).length = 260 := by rw [List.length_take]; omega
      rw [if_pos h0, if_pos h0, hl, if_neg (by omega), if_neg (by omega), List.take_take, Nat.min_eq_left (by omega)]
    · rw [if_neg h0, if_neg h0]
  · rw [List.take_of_length_le h]
structure RFlow (base : Nat) (ok : Nat → Prop) (w : World) (f g M : Nat) (q : List Int) (bad : Bool) : Prop where
  f : w.heap[f]? = some (.cells #[.pointer (some ⟨g, 0, none⟩), .bool bad] 70 (0, 0))
  r : RefW base ok w g M q
theorem RFlow.below {base : Nat} {ok : Nat → Prop} {w w1 : World} {f g M : Nat} {q : List Int} {bad : Bool} (h : RFlow base ok w f g M q bad) (hb : Below w.heap.size w w1) : RFlow base ok w1 f g M q bad := ⟨blk_below h.f hb, h.r.below hb⟩
theorem RFlow.ne {base : Nat} {ok : Nat → Prop} {w : World} {f g M : Nat} {q : List Int} {bad : Bool} (h : RFlow base ok w f g M q bad) : f ≠ g := by
  obtain ⟨A, c, hg, _⟩ := h.r.ex
  have hf := h.f
  rintro rfl
  rw [hf] at hg
  simp at hg
theorem rflow_New (n : Int) (M : Nat) (hM : M = (min (max n 260) 65536).toNat) (w : World) :
    Calls Try.prog 38 #[.int .i64 n] w fun e w' => ∃ f g, e = .returned (.pointer (some ⟨f, 0, none⟩)) ∧ (∀ base ok, RFlow base ok w' f g M [] false) ∧ w.heap.size ≤ f ∧ w.heap.size ≤ g ∧ Below w.heap.size w w' := by
  have hu70 := Try.underlying70
  obtain ⟨n1, hn1⟩ : ∃ n1 : Int, n1 = max n 260 := ⟨_, rfl⟩
  have N1 := Lib.hid hn1
  have N2 := Lib.hid (show (min (max n1 0) 65536).toNat = M by omega)
  clear hn1 hM
  go_enter Try.func38, Try.ntmps38
  go_wp2_with ((with_reducible refine gate_dst (N := 4) rfl ?_); refine wl_max rfl (.tmp 3) (.const (.int .i64 260)) _ rfl .i64 n 260 n1 rfl rfl N1.out ?_)
  refine (ref_New n1 _).mono ?_
  rintro e w1 ⟨rfl, hr, hb⟩
  rw [N2.out] at hr
  have R1 := Lib.hid hr
  have B1 := Lib.hid hb
  clear hr hb
  go_wp2
  go_ret
  refine ⟨_, _, rfl, fun base ok => ⟨blk_new _ _, (R1.out base ok).below ((Below.refl _ _).alloc (Nat.le_refl _) _)⟩, B1.out.size, Nat.le_refl _, B1.out.alloc B1.out.size _⟩
theorem rflow_Feed (base : Nat) (ok : Nat → Prop) (w : World) (f g M : Nat) (q : List Int) (bad : Bool) (h : RFlow base ok w f g M q bad) (hbase : base ≤ w.heap.size) (hok : ∀ k, ok k → k ≠ g) (hfr : ∀ k, w.heap.size ≤ k → ok k) (A0 : Option Addr) (n c0 : Nat) (l : List Int) (hn : n = l.length) (hl : Kd.C (Kd.int .u8) w A0 n l) (hc0 : n ≤ c0) (m : Nat) (hm : m = if bad then 0 else min n (M - q.length)) :
    Calls Try.prog 40 #[.pointer (some ⟨f, 0, none⟩), .slice A0 n c0] w fun e w' => e = .returned (.int .i64 (m : Int)) ∧ RFlow base ok w' f g M (q ++ l.take m) bad ∧ Fr2 g g w w' := by
  obtain ⟨c0_, c1⟩ := blkc2 h.f
  have hu70 := Try.underlying70
  have H := Lib.hid h
  have H1 := Lib.hid hl
  have H2 := Lib.hid hok
  have H3 := Lib.hid hm
  have H4 := Lib.hid hn
  have H5 := Lib.hid hfr
  have H6 := Lib.hid hbase
  clear h hl hok hm hn hfr hbase
  cases bad with
  | true =>
    go_enter Try.func40, Try.ntmps40
    go_wp2_with (fail)
    go_ret
    have hm := H3.out
    simp only [if_true] at hm
    subst hm
    exact ⟨rfl, by rw [List.take_zero, List.append_nil]; exact H.out, Fr2.of_below (Below.refl _ _)⟩
  | false =>
    go_enter Try.func40, Try.ntmps40
    go_wp2_with (fail)
    refine (ref_Put base ok w w g M q H.out.r H6.out H2.out H5.out A0 n c0 l H4.out H1.out hc0 m (by have := H3.out; simpa using this)).mono ?_
    rintro e w1 ⟨rfl, hr, hf⟩
    go_wp2
    go_ret
    exact ⟨rfl, ⟨(hf.block f (blk_lt H.out.f) H.out.ne H.out.ne).trans H.out.f, hr⟩, hf⟩
theorem refcut_c (l : List Int) (hl : l.length ≤ 100000) (h8 : B8 l) (n : Nat) (hn : n = l.length) (A : Option Addr) (c : Nat) (w : World) (hC : Kd.C (Kd.int .u8) w A n l) (hc : n ≤ c) (t u : Int) (p : List Int) (k e0 : Int) (he : cutl l = (t, u, p, k, e0)) :
    Calls Try.prog 57 #[.slice A n c] w fun e w' => ∃ A1 c1, e = .returned (.tuple #[.agg #[.int .i64 t, .int .i64 u, .slice A1 p.length c1], .int .i64 k, .int .i64 e0]) ∧ Kd.R (Kd.int .u8) 5 w' w.heap.size (fun _ => True) (.slice A1 p.length c1) p ∧ Below w.heap.size w w' := by
  subst hn
  refine (busbarref5_Cut.calls 10 A c l t u p k e0 w hC hc (by rw [refcut_eq l hl h8 (by omega), he])).mono ?_
  rintro e w1 ⟨v0, rfl, hR, hb⟩
  obtain ⟨A1, c1, rfl⟩ := Kd.R_slice hR
  exact ⟨A1, c1, rfl, hR, hb⟩
theorem rflow_Ready (base : Nat) (ok : Nat → Prop) (w : World) (f g M : Nat) (q : List Int) (bad : Bool) (h : RFlow base ok w f g M q bad) (h8 : B8 q) :
    Calls Try.prog 44 #[.pointer (some ⟨f, 0, none⟩)] w fun e w' => e = .returned (.bool (!((firstOf cutl q bad).2.2.2.2 == 3))) ∧ Below w.heap.size w w' := by
  obtain ⟨c0_, c1⟩ := blkc2 h.f
  have hu70 := Try.underlying70
  have hu38 := Try.underlying38
  have hu60 := Try.underlying60
  cases bad with
  | true =>
    go_enter Try.func44, Try.ntmps44
    go_wp2_with (fail)
    go_ret
    exact ⟨rfl, Below.refl _ _⟩
  | false =>
    obtain ⟨A, c, hg, hR, hq, hM⟩ := h.r.ex
    obtain ⟨g0_, g1⟩ := blkc2 hg
    obtain ⟨t, u, p, k, e0, hf⟩ : ∃ t u p k e0, cutl q = (t, u, p, k, e0) := ⟨_, _, _, _, _, rfl⟩
    have he : (firstOf cutl q false).2.2.2.2 = e0 := by
      show (cutl (q.take 260)).2.2.2.2 = e0
      rw [cutl_take, hf]
    rw [he]
    have HF := Lib.hid hf
    have R1 := Lib.hid hR
    have H8 := Lib.hid h8
    obtain ⟨n, hn⟩ : ∃ n, n = q.length := ⟨_, rfl⟩
    rw [← hn] at g1 R1
    have N1 := Lib.hid hn
    have Q1 := Lib.hid (show q.length ≤ 100000 by omega)
    clear hf hR h8 h hg he hq hM hn
    go_enter Try.func44, Try.ntmps44
    go_wp2_with (fail)
    refine (refcut_c q Q1.out H8.out n N1.out A c w (by rw [N1.out]; exact (Kd.R_reads' R1.out).2.2) (Kd.R_reads' R1.out).2.1 t u p k e0 HF.out).mono ?_
    rintro e w1 ⟨A1, c1, rfl, hR1, hb⟩
    have B1 := Lib.hid hb
    clear hR1 hb
    go_wp2
    go_ret
    refine ⟨rfl, B1.out.alloc B1.out.size _⟩
theorem RFlow.far {base : Nat} {ok : Nat → Prop} {w : World} {f g M x i : Nat} {v : Value} {q : List Int} {bad : Bool} (h : RFlow base ok w f g M q bad) (h1 : f ≠ x) (h2 : g ≠ x) (hk : ∀ k, ok k → k ≠ x) : RFlow base ok (w.setCell ⟨x, i, none⟩ v) f g M q bad := ⟨(Below.heap_setCell w ⟨x, i, none⟩ v f h1).trans h.f, h.r.fr (Fr2.set (g := x) (B := x) w i v) h2 h2 (fun k hk' => ⟨hk k hk', hk k hk'⟩)⟩
theorem RFlow.mono {base : Nat} {ok ok' : Nat → Prop} {w : World} {f g M : Nat} {q : List Int} {bad : Bool} (h : RFlow base ok w f g M q bad) (hk : ∀ k, ok k → ok' k) : RFlow base ok' w f g M q bad := ⟨h.f, h.r.mono hk⟩
theorem rnext_fin {base : Nat} {ok : Nat → Prop} {w w4 : World} {f g M c : Nat} {q1 p : List Int} {b1 : Bool} {t u : Int} {A : Option Addr} (K3 : RFlow base (fun k => ok k ∧ k ≠ w.heap.size) w4 f g M q1 b1) (K4 : Kd.R (Kd.int .u8) 5 w4 w.heap.size (fun k => k ≠ w.heap.size) (.slice A p.length c) p) (K5 : Fr3 f g g w w4) (hf : f < w.heap.size) (hg : g < w.heap.size) :
    Kd.R (Kd.int .u8) 5 (((w4.setCell ⟨w.heap.size, 0, none⟩ (.int .i64 t)).setCell ⟨w.heap.size, 1, none⟩ (.int .i64 u)).setCell ⟨w.heap.size, 2, none⟩ (.slice A p.length c)) w.heap.size (fun _ => True) (.slice A p.length c) p ∧ RFlow base ok (((w4.setCell ⟨w.heap.size, 0, none⟩ (.int .i64 t)).setCell ⟨w.heap.size, 1, none⟩ (.int .i64 u)).setCell ⟨w.heap.size, 2, none⟩ (.slice A p.length c)) f g M q1 b1 ∧ Fr3 f g g w (((w4.setCell ⟨w.heap.size, 0, none⟩ (.int .i64 t)).setCell ⟨w.heap.size, 1, none⟩ (.int .i64 u)).setCell ⟨w.heap.size, 2, none⟩ (.slice A p.length c)) := by
  refine ⟨Kd.R_mono (Kd.R_far (Kd.R_far (Kd.R_far K4 (p := ⟨w.heap.size, 0, none⟩) (fun k_ h_ => h_) (.int .i64 t)) (p := ⟨w.heap.size, 1, none⟩) (fun k_ h_ => h_) (.int .i64 u)) (p := ⟨w.heap.size, 2, none⟩) (fun k_ h_ => h_) (.slice A p.length c)) (fun _ _ => trivial), ?_, ((K5.new (Nat.le_refl _) 0 (.int .i64 t)).new (Nat.le_refl _) 1 (.int .i64 u)).new (Nat.le_refl _) 2 (.slice A p.length c)⟩
  exact (((K3.far (i := 0) (v := .int .i64 t) (x := w.heap.size) (by omega) (by omega) (fun k hk => hk.2)).far (i := 1) (v := .int .i64 u) (x := w.heap.size) (by omega) (by omega) (fun k hk => hk.2)).far (i := 2) (v := .slice A p.length c) (x := w.heap.size) (by omega) (by omega) (fun k hk => hk.2)).mono (fun k hk => hk.1)
theorem res3' {w : World} {g t : Nat} {x y z a b c : Value} (h : w.heap[g]? = some (.cells #[x, y, z] t (0, 0))) : (((w.setCell ⟨g, 0, none⟩ a).setCell ⟨g, 1, none⟩ b).setCell ⟨g, 2, none⟩ c).heap[g]? = some (.cells #[a, b, c] t (0, 0)) := res3 h
theorem cutl_err (q : List Int) (h : (cutl q).2.2.2.2 ≠ 0) : (cutl q).2.2.2.1 = 0 := by
  unfold cutl at h ⊢
  split
  · rename_i h0
    rw [if_pos h0] at h
    split
    · rfl
    · rename_i h1
      rw [if_neg h1] at h
      exact absurd rfl h
  · rfl
theorem rflow_Next (base : Nat) (ok : Nat → Prop) (w : World) (f g M : Nat) (q : List Int) (bad : Bool) (h : RFlow base ok w f g M q bad) (hbase : base ≤ w.heap.size) (hok : ∀ k, ok k → k ≠ g ∧ k ≠ f) (hfr : ∀ k, w.heap.size ≤ k → ok k) (h8 : B8 q) (hbq : bad = true → q = []) (t u : Int) (p : List Int) (n e0 : Int) (hf : firstOf cutl q bad = (t, u, p, n, e0)) :
    Calls Try.prog 41 #[.pointer (some ⟨f, 0, none⟩)] w fun e w' => ∃ A c, e = .returned (.tuple #[.agg #[.int .i64 t, .int .i64 u, .slice A p.length c], .int .i64 e0]) ∧ Kd.R (Kd.int .u8) 5 w' w.heap.size (fun _ => True) (.slice A p.length c) p ∧ RFlow base ok w' f g M (nextOf cutl q bad).1 (nextOf cutl q bad).2 ∧ Fr3 f g g w w' := by
  have hu70 := Try.underlying70
  have hu38 := Try.underlying38
  have hu60 := Try.underlying60
  have hfl := blk_lt h.f
  have hgl := h.r.lt
  have hne := h.ne
  have h' : RFlow base (fun k => ok k ∧ k ≠ w.heap.size) w f g M q bad := ⟨h.f, h.r.bound.mono (fun k hk => ⟨hk.1, by have := hk.2; omega⟩)⟩
  have H := Lib.hid h'
  have FL := Lib.hid (And.intro hfl hgl)
  have NE := Lib.hid hne
  have H2 := Lib.hid hok
  have H5 := Lib.hid hfr
  have H6 := Lib.hid hbase
  have H8 := Lib.hid h8
  clear h h' hok hfr hbase h8 hfl hgl hne
  cases bad with
  | true =>
    obtain rfl := hbq rfl
    have hf' : ((0, 0, [], 0, 2) : Int × Int × List Int × Int × Int) = (t, u, p, n, e0) := hf
    injection hf' with e1 e2
    injection e2 with e2 e3
    injection e3 with e3 e4
    injection e4 with e4 e5
    subst e1 e2 e3 e4 e5
    clear hf hbq
    have K1 := Lib.hid (blk_new w (.cells #[.int .i64 0, .int .i64 0, .slice none 0 0] 60 (0, 0)))
    have K3 := Lib.hid (H.out.below ((Below.refl _ _).alloc (Nat.le_refl _) (.cells #[.int .i64 0, .int .i64 0, .slice none 0 0] 60 (0, 0))))
    have K5 := Lib.hid (Fr3.of_below (a := f) (b := g) (c := g) ((Below.refl w.heap.size w).alloc (Nat.le_refl _) (.cells #[.int .i64 0, .int .i64 0, .slice none 0 0] 60 (0, 0))))
    go_enter Try.func41, Try.ntmps41
    go_upto_region 1 with (fail)
    generalize w.alloc (.cells #[.int .i64 0, .int .i64 0, .slice none 0 0] 60 (0, 0)) = W1 at *
    obtain ⟨c0_, c1⟩ := blkc2 K3.out.f
    obtain ⟨x0, x1, x2⟩ := blkc3 K1.out
    obtain ⟨y0, y1, y2⟩ := blkf3 K1.out
    go_wp2_with (fail)
    have hW := res3' (a := .int .i64 0) (b := .int .i64 0) (c := .slice none 0 0) K1.out
    have hr0 := (blk_cell hW 0).trans rfl
    have hr1 := (blk_cell hW 1).trans rfl
    have hr2 := (blk_cell hW 2).trans rfl
    obtain ⟨hA, hB, hC⟩ := rnext_fin (p := []) (A := none) (c := 0) (t := 0) (u := 0) K3.out (Kd.R_nil _ _ _ _ _) K5.out FL.out.1 FL.out.2
    exact bodyPost_ret (v := .tuple #[.agg #[.int .i64 0, .int .i64 0, .slice none 0 0], .int .i64 2]) (by simp [results, Try.results41, go_sem, hr0, hr1, hr2]) rfl ⟨none, 0, rfl, hA, hB, hC⟩
  | false =>
    have hc : cutl q = (t, u, p, n, e0) := by rw [← cutl_take]; exact hf
    have HC := Lib.hid hc
    have HF := Lib.hid hf
    clear hf hc hbq
    have H0 := Lib.hid (H.out.below ((Below.refl _ _).alloc (Nat.le_refl _) (.cells #[.int .i64 0, .int .i64 0, .slice none 0 0] 60 (0, 0))))
    obtain ⟨Aq, cq, hg, hR, hq, hM⟩ := H0.out.r.ex
    obtain ⟨nq_, hnq⟩ : ∃ nq_, nq_ = q.length := ⟨_, rfl⟩
    rw [← hnq] at hg hR
    obtain ⟨c0_, c1⟩ := blkc2 H0.out.f
    obtain ⟨g0_, g1⟩ := blkc2 hg
    have R1 := Lib.hid hR
    have Q1 := Lib.hid (show q.length ≤ 100000 by omega)
    have NQ := Lib.hid hnq
    clear hg hR hq hM hnq
    go_enter Try.func41, Try.ntmps41
    go_wp2_with (fail)
    refine (refcut_c q Q1.out H8.out nq_ NQ.out Aq cq _ (by rw [NQ.out]; exact (Kd.R_reads' R1.out).2.2) (Kd.R_reads' R1.out).2.1 t u p n e0 HC.out).mono ?_
    rintro e w1 ⟨A, c, rfl, hR, hb⟩
    have B0 := Lib.hid (blk_below (blk_new w (.cells #[.int .i64 0, .int .i64 0, .slice none 0 0] 60 (0, 0))) hb)
    have B1 := Lib.hid (H0.out.below hb)
    have B2 := Lib.hid (((Below.refl w.heap.size w).alloc (Nat.le_refl _) (.cells #[.int .i64 0, .int .i64 0, .slice none 0 0] 60 (0, 0))).trans (hb.mono (show w.heap.size ≤ _ by simp)))
    have B3 := Lib.hid hR
    have HWL := Lib.hid (show w.heap.size < w1.heap.size by have := hb.size; simp at this; omega)
    clear hR hb R1 H0 c0_ c1 g0_ g1
    have B4 := Lib.hid (blk_alloc B0.out (.cells #[.int .i64 t, .int .i64 u, .slice A p.length c] 60))
    have B5 := Lib.hid (B1.out.below ((Below.refl _ _).alloc (Nat.le_refl _) (.cells #[.int .i64 t, .int .i64 u, .slice A p.length c] 60)))
    have B6 := Lib.hid (blk_new w1 (.cells #[.int .i64 t, .int .i64 u, .slice A p.length c] 60 (0, 0)))
    have B7 := Lib.hid (Kd.R_alloc B3.out (.cells #[.int .i64 t, .int .i64 u, .slice A p.length c] 60))
    have WS := Lib.hid (show w.heap.size < (w.alloc (.cells #[.int .i64 0, .int .i64 0, .slice none 0 0] 60)).heap.size by simp)
    have B8_ := Lib.hid (B2.out.alloc B2.out.size (.cells #[.int .i64 t, .int .i64 u, .slice A p.length c] 60 (0, 0)))
    by_cases he0 : e0 = 0
    · subst he0
      have NX := Lib.hid (show nextOf cutl q false = (q.drop n.toNat, false) from by unfold nextOf; rw [HF.out]; rfl)
      obtain ⟨c0_, c1⟩ := blkc2 B5.out.f
      go_wp2_with (fail)
      refine (ref_Take base _ _ g M q B5.out.r (by have := HWL.out; have := H6.out; simp; omega) (fun k hk => (H2.out k hk.1).1) (fun k hk => by have := HWL.out; simp at hk; exact ⟨H5.out k (by omega), by omega⟩) n _ rfl).mono ?_
      rintro e w4 ⟨At, ct, rfl, _, hr2, hf2⟩
      have K1 := Lib.hid ((hf2.block w.heap.size (blk_lt B4.out) (by have := FL.out; omega) (by have := FL.out; omega)).trans B4.out)
      have K2 := Lib.hid ((hf2.block w1.heap.size (blk_lt B6.out) (by have := FL.out; have := HWL.out; omega) (by have := FL.out; have := HWL.out; omega)).trans B6.out)
      have K3 := Lib.hid (show RFlow base (fun k => ok k ∧ k ≠ w.heap.size) w4 f g M (q.drop n.toNat) false from ⟨(hf2.block f (blk_lt B5.out.f) NE.out NE.out).trans B5.out.f, hr2⟩)
      have K4 := Lib.hid (Kd.R_mono (Kd.R_step (Kd.R_bound B7.out) (fun k hk hl => hf2.block k hl (by have := hk.2.1; have := FL.out; have := WS.out; omega) (by have := hk.2.1; have := FL.out; have := WS.out; omega))) (fun k hk => show k ≠ w.heap.size by have := hk.2.1; have := WS.out; omega))
      have K5 := Lib.hid ((Fr3.of_below (a := f) (b := g) (c := g) B8_.out).trans (Fr3.of_fr2 hf2))
      clear hr2 hf2 c0_ c1
      obtain ⟨x0, x1, x2⟩ := blkc3 K1.out
      obtain ⟨y0, y1, y2⟩ := blkf3 K1.out
      obtain ⟨z0, z1, z2⟩ := blkc3 K2.out
      go_wp2_with (fail)
      have hW := res3' (a := .int .i64 t) (b := .int .i64 u) (c := .slice A p.length c) K1.out
      have hr0 := (blk_cell hW 0).trans rfl
      have hr1 := (blk_cell hW 1).trans rfl
      have hr2 := (blk_cell hW 2).trans rfl
      obtain ⟨hA, hB, hC⟩ := rnext_fin (t := t) (u := u) K3.out (Kd.R_lower K4.out (Nat.le_of_lt WS.out)) K5.out FL.out.1 FL.out.2
      exact bodyPost_ret (v := .tuple #[.agg #[.int .i64 t, .int .i64 u, .slice A p.length c], .int .i64 0]) (by simp [results, Try.results41, go_sem, hr0, hr1, hr2]) rfl ⟨A, c, rfl, hA, by rw [NX.out]; exact hB, hC⟩
    have d0 : (e0 == 0) = false := beq_eq_false_iff_ne.2 he0
    clear he0
    by_cases he2 : e0 = 2
    · subst he2
      have NX := Lib.hid (show nextOf cutl q false = ([], true) from by unfold nextOf; rw [HF.out]; rfl)
      go_upto_region 4 with (fail)
      obtain ⟨W3, hW3⟩ : ∃ W3, W3 = w1.alloc (.cells #[.int .i64 t, .int .i64 u, .slice A p.length c] 60) := ⟨_, rfl⟩
      obtain ⟨Ag, cg, hgb, _, _, hM⟩ := B5.out.r.ex
      have E0 := B5.out.f
      have E4 := B4.out
      have E6 := B6.out
      have E7 := B7.out
      have E8 := B8_.out
      rw [← hW3] at E0 E4 E6 E7 E8 hgb ⊢
      have hfl := FL.out
      have hwl := HWL.out
      have hne := NE.out
      have G0 := blk_far hgb (show g ≠ (⟨f, 1, none⟩ : Addr).block from fun e => hne e.symm) (.bool true)
      have G1 := blk_put E0 1 (.bool true) rfl
      have G2 := blk_put G0 1 (.slice none 0 0) rfl
      have G3 := blk_far G1 (show f ≠ (⟨g, 1, none⟩ : Addr).block from hne) (.slice none 0 0)
      have K1 := Lib.hid (blk_far (blk_far E4 (show w.heap.size ≠ (⟨f, 1, none⟩ : Addr).block from by show w.heap.size ≠ f; omega) (.bool true)) (show w.heap.size ≠ (⟨g, 1, none⟩ : Addr).block from by show w.heap.size ≠ g; omega) (.slice none 0 0))
      have K2 := Lib.hid (blk_far (blk_far E6 (show w1.heap.size ≠ (⟨f, 1, none⟩ : Addr).block from by show w1.heap.size ≠ f; omega) (.bool true)) (show w1.heap.size ≠ (⟨g, 1, none⟩ : Addr).block from by show w1.heap.size ≠ g; omega) (.slice none 0 0))
      have K3 := Lib.hid (show RFlow base (fun k => ok k ∧ k ≠ w.heap.size) ((W3.setCell ⟨f, 1, none⟩ (.bool true)).setCell ⟨g, 1, none⟩ (.slice none 0 0)) f g M [] true from ⟨G3, ⟨none, 0, G2, Kd.R_nil _ _ _ _ _, Nat.zero_le _, hM⟩⟩)
      have K4 := Lib.hid (Kd.R_mono (Kd.R_far (Kd.R_far (Kd.R_bound E7) (p := ⟨f, 1, none⟩) (fun k_ h_ => by have := h_.2.1; have := WS.out; show k_ ≠ f; omega) (.bool true)) (p := ⟨g, 1, none⟩) (fun k_ h_ => by have := h_.2.1; have := WS.out; show k_ ≠ g; omega) (.slice none 0 0)) (fun k hk => show k ≠ w.heap.size by have := hk.2.1; have := WS.out; omega))
      have K5 := Lib.hid (((Fr3.of_below (a := f) (b := g) (c := g) E8).trans (Fr3.set W3 1 (.bool true))).trans (Fr3.of_fr2 (Fr2.set (g := g) (B := g) (W3.setCell ⟨f, 1, none⟩ (.bool true)) 1 (.slice none 0 0))))
      obtain ⟨c0_, c1⟩ := blkc2 E0
      obtain ⟨f0_, f1⟩ := blkf2 E0
      obtain ⟨c2_, c3⟩ := blkc2 G1
      obtain ⟨g0_, g1⟩ := blkc2 G0
      obtain ⟨g2_, g3⟩ := blkf2 G0
      have HW := Lib.hid hW3
      clear E0 E4 E6 E7 E8 G0 G1 G2 G3 hgb hfl hwl hne hW3
      go_upto_region 10 with (fail)
      generalize (W3.setCell ⟨f, 1, none⟩ (.bool true)).setCell ⟨g, 1, none⟩ (.slice none 0 0) = W4 at *
      clear c0_ f0_ c1 f1 c2_ c3 g0_ g1 g2_ g3
      obtain ⟨x0, x1, x2⟩ := blkc3 K1.out
      obtain ⟨y0, y1, y2⟩ := blkf3 K1.out
      obtain ⟨z0, z1, z2⟩ := blkc3 K2.out
      go_wp2_with (fail)
      have hW := res3' (a := .int .i64 t) (b := .int .i64 u) (c := .slice A p.length c) K1.out
      have hr0 := (blk_cell hW 0).trans rfl
      have hr1 := (blk_cell hW 1).trans rfl
      have hr2 := (blk_cell hW 2).trans rfl
      obtain ⟨hA, hB, hC⟩ := rnext_fin (t := t) (u := u) K3.out (Kd.R_lower K4.out (Nat.le_of_lt WS.out)) K5.out FL.out.1 FL.out.2
      exact bodyPost_ret (v := .tuple #[.agg #[.int .i64 t, .int .i64 u, .slice A p.length c], .int .i64 2]) (by simp [results, Try.results41, go_sem, hr0, hr1, hr2]) rfl ⟨A, c, rfl, hA, by rw [NX.out]; exact hB, hC⟩
    · have d2 : (e0 == 2) = false := beq_eq_false_iff_ne.2 he2
      have hn0 : n = 0 := by
        have h1 := cutl_err q (by rw [HC.out]; exact fun h => by have h' : e0 = 0 := h; rw [h'] at d0; simp at d0)
        rw [HC.out] at h1
        exact h1
      have NX := Lib.hid (show nextOf cutl q false = (q, false) from by unfold nextOf; rw [HF.out]; show (if e0 = 2 then _ else _) = _; rw [if_neg he2, hn0]; rfl)
      have K1 := Lib.hid B4.out
      have K2 := Lib.hid B6.out
      have K3 := Lib.hid B5.out
      have K4 := Lib.hid (Kd.R_mono (Kd.R_bound B7.out) (fun k hk => show k ≠ w.heap.size by have := hk.2.1; have := WS.out; omega))
      have K5 := Lib.hid (Fr3.of_below (a := f) (b := g) (c := g) B8_.out)
      clear he2 hn0
      obtain ⟨x0, x1, x2⟩ := blkc3 K1.out
      obtain ⟨y0, y1, y2⟩ := blkf3 K1.out
      obtain ⟨z0, z1, z2⟩ := blkc3 K2.out
      go_wp2_with (fail)
      have hW := res3' (a := .int .i64 t) (b := .int .i64 u) (c := .slice A p.length c) K1.out
      have hr0 := (blk_cell hW 0).trans rfl
      have hr1 := (blk_cell hW 1).trans rfl
      have hr2 := (blk_cell hW 2).trans rfl
      obtain ⟨hA, hB, hC⟩ := rnext_fin (t := t) (u := u) K3.out (Kd.R_lower K4.out (Nat.le_of_lt WS.out)) K5.out FL.out.1 FL.out.2
      exact bodyPost_ret (v := .tuple #[.agg #[.int .i64 t, .int .i64 u, .slice A p.length c], .int .i64 e0]) (by simp [results, Try.results41, go_sem, hr0, hr1, hr2]) rfl ⟨A, c, rfl, hA, by rw [NX.out]; exact hB, hC⟩
end Go.Proofs.Ytakiojmjalbfpaa.Ring
set_option linter.unusedVariables false
set_option linter.unusedSimpArgs false
namespace Go.Proofs.Ytakiojmjalbfpaa.Ring
open Go.RowKit Go.Proofs.YtakiojmjalbfpaaW.PrintWords Go.Proofs.YtakiojmjalbfpaaW.PrintLast Go.Proofs.YtakiojmjalbfpaaW.PrintMore Go.Proofs.Ytakiojmjalbfpaa.PFlow Go.Proofs.Ytakiojmjalbfpaa.Num Go.Proofs.Ytakiojmjalbfpaa.LemPkFlow Go.Proofs.Ytakiojmjalbfpaa.LemAskCFlow Go.Proofs.Ytakiojmjalbfpaa.LemAskDFlow Go.Proofs.Ytakiojmjalbfpaa.LemAduFlow Go.Proofs.Ytakiojmjalbfpaa.LemHeadFlow
attribute [local go_sem] plus_setCell_drewN plus_cell_same
theorem C_same {w w1 : World} {A : Option Addr} {n : Nat} {l : List Int} (h : Kd.C (Kd.int .u8) w A n l) (hk : 0 < n → ∀ a, A = some a → w1.heap[a.block]? = w.heap[a.block]?) : Kd.C (Kd.int .u8) w1 A n l := by
  refine ⟨h.1, h.2.1, fun h0 => ?_⟩
  obtain ⟨ad, rfl, hr⟩ := h.2.2 h0
  refine ⟨ad, rfl, fun j p hp => ?_⟩
  obtain ⟨c, h1, h2, h3⟩ := hr j p hp
  refine ⟨c, h1, h2, fun i u hu => ?_⟩
  have hb : (ad.add (j * (Kd.int .u8).sz + i)).block = ad.block := by unfold Addr.add; split <;> rfl
  exact (cell_of_heap (by rw [hb]; exact hk h0 ad rfl)).trans (h3 i u hu)
theorem add_block (a : Addr) (m : Nat) : (a.add m).block = a.block := by unfold Addr.add; split <;> rfl
structure Left (w : World) (gf g B : Nat) (A : Option Addr) (n c : Nat) (b : List Int) : Prop where
  C : Kd.C (Kd.int .u8) w A n b
  hc : n ≤ c
  ne : 0 < n → ∀ a, A = some a → a.block ≠ gf ∧ a.block ≠ g ∧ a.block ≠ B
  lt : 0 < n → ∀ a, A = some a → a.block < w.heap.size
theorem Left.below {w w1 : World} {gf g B n c : Nat} {A : Option Addr} {b : List Int} (h : Left w gf g B A n c b) (hb : Below w.heap.size w w1) : Left w1 gf g B A n c b := ⟨Kd.C_below h.C hb, h.hc, h.ne, fun h0 a ha => Nat.lt_of_lt_of_le (h.lt h0 a ha) hb.size⟩
theorem Left.fr2 {w w1 : World} {gf g B n c : Nat} {A : Option Addr} {b : List Int} (h : Left w gf g B A n c b) (hr : Fr2 g B w w1) : Left w1 gf g B A n c b := ⟨C_same h.C (fun h0 a ha => hr.block _ (h.lt h0 a ha) (h.ne h0 a ha).2.1 (h.ne h0 a ha).2.2), h.hc, h.ne, fun h0 a ha => Nat.lt_of_lt_of_le (h.lt h0 a ha) hr.size⟩
theorem Left.fr3 {w w1 : World} {gf g B n c : Nat} {A : Option Addr} {b : List Int} (h : Left w gf g B A n c b) (hr : Fr3 gf g B w w1) : Left w1 gf g B A n c b := ⟨C_same h.C (fun h0 a ha => hr.block _ (h.lt h0 a ha) (h.ne h0 a ha).1 (h.ne h0 a ha).2.1 (h.ne h0 a ha).2.2), h.hc, h.ne, fun h0 a ha => Nat.lt_of_lt_of_le (h.lt h0 a ha) hr.size⟩
theorem Left.skip {w : World} {gf g B n c : Nat} {A : Option Addr} {b : List Int} (h : Left w gf g B A n c b) (m : Nat) (hm : m ≤ n) (A1 : Option Addr) (hA : 0 < n - m → A1 = A.map (·.add m)) : Left w gf g B A1 (n - m) (c - m) (b.drop m) := by
  have hp : 0 < n - m → ∀ a, A1 = some a → ∃ a0, A = some a0 ∧ a.block = a0.block := fun h0 a ha => by
    rw [hA h0] at ha
    obtain ⟨a0, e0, rfl⟩ := Option.map_eq_some_iff.1 ha
    exact ⟨a0, e0, add_block a0 m⟩
  refine ⟨C_skip h.C m hm hA, by have := h.hc; omega, fun h0 a ha => ?_, fun h0 a ha => ?_⟩
  · obtain ⟨a0, e0, e1⟩ := hp h0 a ha
    rw [e1]
    exact h.ne (by omega) a0 e0
  · obtain ⟨a0, e0, e1⟩ := hp h0 a ha
    rw [e1]
    exact h.lt (by omega) a0 e0
structure Cut (w0 : World) (gf g B M : Nat) (ks : List Int) (a : Nat) (q b : List Int) (A : Option Addr) (n c : Nat) (w : World) : Prop where
  s : FSt w0 gf g B M q false w
  l : Left w gf g B A n c b
  e : q ++ b = cats (rowG ks) (ks.length - a) a
  ha : a ≤ ks.length
theorem Cut.below {w0 w w1 : World} {gf g B M a n c : Nat} {ks q b : List Int} {A : Option Addr} (h : Cut w0 gf g B M ks a q b A n c w) (hb : Below w.heap.size w w1) : Cut w0 gf g B M ks a q b A n c w1 := ⟨h.s.below hb, h.l.below hb, h.e, h.ha⟩
theorem Cut.hn {w0 w : World} {gf g B M a n c : Nat} {ks q b : List Int} {A : Option Addr} (h : Cut w0 gf g B M ks a q b A n c w) : n = b.length := h.l.C.1.symm
end Go.Proofs.Ytakiojmjalbfpaa.Ring
set_option linter.unusedVariables false
set_option linter.unusedSimpArgs false
namespace Go.Proofs.Ytakiojmjalbfpaa.Ring
open Go.RowKit Go.Proofs.YtakiojmjalbfpaaW.PrintWords Go.Proofs.YtakiojmjalbfpaaW.PrintLast Go.Proofs.YtakiojmjalbfpaaW.PrintMore Go.Proofs.Ytakiojmjalbfpaa.PFlow Go.Proofs.Ytakiojmjalbfpaa.Num Go.Proofs.Ytakiojmjalbfpaa.LemPkFlow Go.Proofs.Ytakiojmjalbfpaa.LemAskCFlow Go.Proofs.Ytakiojmjalbfpaa.LemAskDFlow Go.Proofs.Ytakiojmjalbfpaa.LemAduFlow Go.Proofs.Ytakiojmjalbfpaa.LemHeadFlow
attribute [local go_sem] plus_setCell_drewN plus_cell_same
theorem RFlow.fr3 {base a b c : Nat} {ok : Nat → Prop} {w w1 : World} {f g M : Nat} {q : List Int} {bad : Bool} (h : RFlow base ok w f g M q bad) (hr : Fr3 a b c w w1) (h1 : f ≠ a ∧ f ≠ b ∧ f ≠ c) (h2 : g ≠ a ∧ g ≠ b ∧ g ≠ c) (hk : ∀ k, ok k → k ≠ a ∧ k ≠ b ∧ k ≠ c) : RFlow base ok w1 f g M q bad := by
  obtain ⟨A, n, hg, hR, h3⟩ := h.r.ex
  exact ⟨(hr.block f (blk_lt h.f) h1.1 h1.2.1 h1.2.2).trans h.f, ⟨A, n, (hr.block g (blk_lt hg) h2.1 h2.2.1 h2.2.2).trans hg, Kd.R_step hR (fun k hk_ hl => hr.block k hl (hk k hk_).1 (hk k hk_).2.1 (hk k hk_).2.2), h3⟩⟩
theorem FSt.fr3 {w0 w w1 : World} {gf g B M a b c : Nat} {q : List Int} {bad : Bool} (h : FSt w0 gf g B M q bad w) (hr : Fr3 a b c w w1) (h1 : gf ≠ a ∧ gf ≠ b ∧ gf ≠ c) (h2 : g ≠ a ∧ g ≠ b ∧ g ≠ c) (h3 : B ≠ a ∧ B ≠ b ∧ B ≠ c) (ha : w0.heap.size ≤ a) (hb : w0.heap.size ≤ b) (hc : w0.heap.size ≤ c) : FSt w0 gf g B M q bad w1 :=
  ⟨⟨(hr.block gf (blk_lt h.f.f) h1.1 h1.2.1 h1.2.2).trans h.f.f, h.f.r.keep (hr.block g h.f.r.lt.1 h2.1 h2.2.1 h2.2.2) (hr.block B h.f.r.lt.2 h3.1 h3.2.1 h3.2.2)⟩, hr.below h.b h.b.size ha hb hc, h.g0, h.g1, h.g2, h.b8⟩
theorem Left.by {w w1 : World} {a b c a' b' c' n k : Nat} {A : Option Addr} {l : List Int} (h : Left w a b c A n k l) (h1 : Left w1 a' b' c' A n k l) : Left w1 a b c A n k l := ⟨h1.C, h1.hc, h.ne, h1.lt⟩
theorem flow_Held_q (w : World) (gf g B M : Nat) (q : List Int) (bad : Bool) (h : FlowW w gf g B M q bad) : Calls Try.prog 37 #[.pointer (some ⟨gf, 0, none⟩)] w fun e w' => e = .returned (.int .i64 (q.length : Int)) ∧ ∃ n, w' = w.drewN n := by
  obtain ⟨c0, c1⟩ := blkc2 h.f
  have hu89 := Try.underlying89
  have H := Lib.hid h
  clear h
  go_enter Try.func37, Try.ntmps37
  go_wp2_with (fail)
  refine (ring_Len _ g B M q H.out.r).mono ?_
  rintro e w1 ⟨rfl, nd, rfl⟩
  go_wp2
  go_ret
  exact ⟨rfl, nd, rfl⟩
theorem next_b8 {q : List Int} {bad : Bool} (h : B8 q) : B8 (nextOf cutl q bad).1 := by
  unfold nextOf
  split
  · intro x hx
    cases hx
  · exact b8_drop h _
theorem next_bad {q : List Int} {bad : Bool} (h : bad = true → q = []) : (nextOf cutl q bad).2 = true → (nextOf cutl q bad).1 = [] := by
  unfold nextOf
  split
  · intro _
    rfl
  · intro hb
    have := h hb
    subst this
    exact List.drop_nil
theorem Ready_c (r0 : Bool) {q : List Int} {bad : Bool} (hr : r0 = (!((firstOf cutl q bad).2.2.2.2 == 3))) (w : World) (gf g B M : Nat) (q_ : List Int) (bad_ : Bool) {w0 : World} (h : FSt w0 gf g B M q bad w) : Calls Try.prog 43 #[.pointer (some ⟨gf, 0, none⟩)] w fun e w' => e = .returned (.bool r0) ∧ Below w.heap.size w w' := by
  rw [hr]
  exact flow_Ready cutl _ gf g B M q bad h.f (cut_is _ h.b8)
theorem rReady_c (r0 : Bool) {q : List Int} {bad : Bool} (hr : r0 = (!((firstOf cutl q bad).2.2.2.2 == 3))) (base : Nat) (ok : Nat → Prop) (w : World) (f g M : Nat) (q_ : List Int) (bad_ : Bool) (h : RFlow base ok w f g M q bad) (h8 : B8 q) : Calls Try.prog 44 #[.pointer (some ⟨f, 0, none⟩)] w fun e w' => e = .returned (.bool r0) ∧ Below w.heap.size w w' := by
  rw [hr]
  exact rflow_Ready base ok w f g M q bad h h8
structure Apart (w0 : World) (gf g B f g' : Nat) : Prop where
  hf : w0.heap.size ≤ f
  hg : w0.heap.size ≤ g'
  n1 : f ≠ gf ∧ f ≠ g ∧ f ≠ B
  n2 : g' ≠ gf ∧ g' ≠ g ∧ g' ≠ B
structure FB (w0 : World) (gf g B M f g' : Nat) (q : List Int) (bad : Bool) (A : Option Addr) (n c : Nat) (b : List Int) (w : World) : Prop where
  s : FSt w0 gf g B M q bad w
  r : RFlow w0.heap.size (fun k => k ≠ f ∧ k ≠ g' ∧ k ≠ gf ∧ k ≠ g ∧ k ≠ B) w f g' M q bad
  l : Left w gf g B A n c b
  l2 : Left w f g' g' A n c b
  hq : bad = true → q = []
  b8 : B8 b
  hb : n ≤ 4000
theorem FB.below {w0 w w1 : World} {gf g B M f g' n c : Nat} {q b : List Int} {bad : Bool} {A : Option Addr} (h : FB w0 gf g B M f g' q bad A n c b w) (hb : Below w.heap.size w w1) : FB w0 gf g B M f g' q bad A n c b w1 := ⟨h.s.below hb, h.r.below hb, h.l.below hb, h.l2.below hb, h.hq, h.b8, h.hb⟩
set_option maxRecDepth 100000 in
set_option maxHeartbeats 4000000 in
theorem FlowPlays_calls (p0 : Int) (near : Bool) (A2 : Option Addr) (c2 : Nat) (ks : List Int) (A3 : Option Addr) (c3 : Nat) (raw : List Int) (ahead : Bool) (A5 : Option Addr) (c5 : Nat) (os : List Int) (w : World) (hr2 : Kd.C (Kd.int .i64) w A2 ks.length ks) (hc2 : ks.length ≤ c2) (hr3 : Kd.C (Kd.int .u8) w A3 raw.length raw) (hc3 : raw.length ≤ c3) (hr5 : Kd.C (Kd.int .i64) w A5 os.length os) (hc5 : os.length ≤ c5) (hks : ∀ x ∈ ks, Bd x) (h8 : B8 raw) :
    Calls Try.prog 8 #[.int .i64 p0, .bool near, .slice A2 ks.length c2, .slice A3 raw.length c3, .bool ahead, .slice A5 os.length c5] w fun e w' => e = .returned (.bool true) ∧ Below w.heap.size w w' := by
  have hu22 := Try.underlying22
  have hu30 := Try.underlying30
  have hu53 := Try.underlying53
  have hu60 := Try.underlying60
  have hu70 := Try.underlying70
  have hu38 := Try.underlying38
  have HR2 := Lib.hid hr2
  have HR3 := Lib.hid hr3
  have HR5 := Lib.hid hr5
  have HKS := Lib.hid hks
  have H8 := Lib.hid h8
  clear hr2 hr3 hr5 hks h8
  by_cases h1 : 100 < raw.length
  · have d1 : decide (100 < (raw.length : Int)) = true := decide_eq_true (by omega)
    go_enter Try.func8, Try.ntmps8
    go_wp2_with (fail)
    refine (law10_awake _).mono ?_
    rintro e w1 ⟨rfl, hb⟩
    go_wp2
    go_ret
    exact ⟨rfl, hb⟩
  have d1 : decide (100 < (raw.length : Int)) = false := decide_eq_false (by omega)
  by_cases h2 : 100 < os.length
  · have d2 : decide (100 < (os.length : Int)) = true := decide_eq_true (by omega)
    go_enter Try.func8, Try.ntmps8
    go_wp2_with (fail)
    refine (law10_awake _).mono ?_
    rintro e w1 ⟨rfl, hb⟩
    go_wp2
    go_ret
    exact ⟨rfl, hb⟩
  have d2 : decide (100 < (os.length : Int)) = false := decide_eq_false (by omega)
  have LR := Lib.hid (show raw.length ≤ 100 by omega)
  have LO := Lib.hid (show os.length ≤ 100 by omega)
  clear h1 h2
  go_enter Try.func8, Try.ntmps8
  go_wp2_with (fail)
  refine (law10_awake _).mono ?_
  rintro e w1 ⟨rfl, hb⟩
  have A1 := Lib.hid hb
  clear hb
  go_upto_if 37 with (fail)
  go_cut [0] (fun v0 wc => ∃ x : Int, v0 = .int .i64 x ∧ Aside0 (Below w.heap.size w wc))
  case first =>
    cases near
    · go_wp2
      go_meet
      exact ⟨p0, rfl, ⟨A1.out⟩⟩
    · go_wp2_with (fail)
      refine (within_b p0 600 (by omega) (by omega) _).mono ?_
      rintro e w2 ⟨rfl, hb⟩
      have A3_ := Lib.hid (below_then A1.out A1.out.size hb)
      clear hb
      go_wp2
      go_meet
      exact ⟨_, rfl, ⟨A3_.out⟩⟩
  case rest =>
  obtain ⟨x, rfl, HB⟩ := hcut
  obtain ⟨M, hM⟩ : ∃ M, M = (min (max x 260) 65536).toNat := ⟨_, rfl⟩
  have XM := Lib.hid hM
  have M6 := Lib.hid (show M ≤ 65536 by omega)
  clear hM A1
  go_wp2_with (fail)
  refine (flow_New x M XM.out _).mono ?_
  rintro e w3 ⟨gf, g, B, rfl, hf, h1, h2, h3, hb⟩
  have S3 := Lib.hid (show FSt w gf g B M [] false w3 from ⟨hf, below_then HB.out HB.out.size hb, by have := HB.out.size; omega, by have := HB.out.size; omega, by have := HB.out.size; omega, fun x hx => by cases hx⟩)
  clear hf h1 h2 h3 hb HB
  go_wp2_with (fail)
  refine (rflow_New x M XM.out _).mono ?_
  rintro e w4 ⟨f, g', rfl, hr, h1, h2, hb⟩
  have S4 := Lib.hid (S3.out.below hb)
  have R4 := Lib.hid hr
  have AP := Lib.hid (show Apart w gf g B f g' from by
    have a1 := S3.out.b.size
    have a2 := blk_lt S3.out.f.f
    have a3 := S3.out.f.r.lt
    exact ⟨by omega, by omega, ⟨by omega, by omega, by omega⟩, ⟨by omega, by omega, by omega⟩⟩)
  clear hr h1 h2 hb S3
  go_wp2_with (fail)
  refine (row_c ks HKS.out A2 c2 _ (Kd.C_below HR2.out S4.out.b) hc2).mono ?_
  rintro e w5 ⟨Ar, cr, rfl, hR, hb⟩
  have S5 := Lib.hid hb
  have RB := Lib.hid (rowl_ok ks HKS.out)
  have O5 := Lib.hid hR
  obtain ⟨nr, hnr⟩ : ∃ nr, nr = (rowl ks).length := ⟨_, rfl⟩
  rw [← hnr] at O5 ⊢
  have NR := Lib.hid hnr
  have C3 := Lib.hid (Kd.C_below (Kd.C_below HR3.out S4.out.b) (hb.mono (Nat.le_refl _)))
  clear hR hb hnr
  go_upto_if 50 with ((with_reducible refine gate_builtin (b := .append) (xs := #[.tmp 47, .tmp 48]) (ts := #[30, 30]) rfl ?_); refine Kd.R_append_rows (Kd.int .u8) (w0 := w4) w4.heap.size rfl (.tmp 47) (.tmp 48) 30 5 (.int .u8 0) 1 rfl Try.underlying30 (by kernel_rfl) rfl (by decide) (by omega) _ (rowl ks) raw _ _ _ (fun _ => True) (fun _ => False) rfl rfl O5.out C3.out (fun _ _ h => h) (fun _ h => h.elim) (fun _ _ => trivial) S5.out S5.out.size (by have := RB.out.1; have := LR.out; omega) ?_; intro v6 w6 hO hb hg hnew)
  have O6 := Lib.hid hO
  have B6 := Lib.hid hb
  clear hO hb hg hnew O5 C3 S5 NR
  go_cut [15] (fun v15 wc => ∃ (b : List Int), Aside0 (Kd.R (Kd.int .u8) 5 wc w4.heap.size (fun _ => True) v15 b) ∧ Aside0 (Below w4.heap.size w4 wc) ∧ Aside0 (B8 b ∧ b.length ≤ 3220))
  case first =>
    cases ahead
    · go_wp2
      go_meet
      exact ⟨_, ⟨O6.out⟩, ⟨B6.out⟩, ⟨b8_app RB.out.2 H8.out, by rw [List.length_append]; have := RB.out.1; have := LR.out; omega⟩⟩
    · have C6 := Lib.hid (Kd.C_below (Kd.C_below HR3.out S4.out.b) B6.out)
      clear O6
      go_wp2_with ((with_reducible refine gate_builtin (b := .append) (xs := #[.const (.slice none 0 0), .tmp 51]) (ts := #[30, 30]) rfl ?_); refine Kd.R_append_rows (Kd.int .u8) (w0 := w4) w4.heap.size rfl (.const (.slice none 0 0)) (.tmp 51) 30 5 (.int .u8 0) 1 rfl Try.underlying30 (by kernel_rfl) rfl (by decide) (by omega) _ [] raw _ _ _ (fun _ => True) (fun _ => False) rfl rfl (Kd.R_nil _ _ _ _ _) C6.out (fun _ _ h => h) (fun _ h => h.elim) (fun _ _ => trivial) B6.out B6.out.size (by have := LR.out; simp; omega) ?_; intro v7 w7 hO hb hg hnew)
      have O7 := Lib.hid hO
      have B7 := Lib.hid hb
      clear hO hb hg hnew C6
      go_wp2_with (fail)
      refine (row_c ks HKS.out A2 c2 _ (Kd.C_below (Kd.C_below HR2.out S4.out.b) B7.out) hc2).mono ?_
      rintro e w8 ⟨A8, c8, rfl, hR, hb⟩
      have O8 := Lib.hid (Kd.R_below O7.out hb)
      have B8_ := Lib.hid (below_then B7.out B7.out.size hb)
      have R8 := Lib.hid (Kd.R_reads' hR).2.2
      obtain ⟨nr, hnr⟩ : ∃ nr, nr = (rowl ks).length := ⟨_, rfl⟩
      rw [← hnr] at R8 ⊢
      have NR := Lib.hid hnr
      clear hR hb hnr O7 B7
      go_wp2_with ((with_reducible refine gate_builtin (b := .append) (xs := #[.tmp 52, .tmp 54]) (ts := #[30, 30]) rfl ?_); refine Kd.R_append_rows (Kd.int .u8) (w0 := w4) w4.heap.size rfl (.tmp 52) (.tmp 54) 30 5 (.int .u8 0) 1 rfl Try.underlying30 (by kernel_rfl) rfl (by decide) (by omega) _ ([] ++ raw) (rowl ks) _ _ _ (fun _ => True) (fun _ => False) rfl rfl O8.out R8.out (fun _ _ h => h) (fun _ h => h.elim) (fun _ _ => trivial) B8_.out B8_.out.size (by have := LR.out; have := RB.out.1; have := NR.out; simp; omega) ?_; intro v9 w9 hO hb hg hnew)
      go_meet
      exact ⟨_, ⟨hO⟩, ⟨hb⟩, ⟨b8_app (b8_app (fun x hx => by cases hx) H8.out) RB.out.2, by simp; have := RB.out.1; have := LR.out; omega⟩⟩
  case rest =>
  obtain ⟨b, HR, HB, HX⟩ := hcut
  obtain ⟨Ab, cb, hv⟩ := Kd.R_slice HR.out
  subst hv
  have hlt : gf < w4.heap.size ∧ g < w4.heap.size ∧ B < w4.heap.size ∧ f < w4.heap.size ∧ g' < w4.heap.size := ⟨blk_lt S4.out.f.f, S4.out.f.r.lt.1, S4.out.f.r.lt.2, blk_lt (R4.out 0 (fun _ => True)).f, (R4.out 0 (fun _ => True)).r.lt⟩
  have P1 := R_args HR.out hlt.1
  have P2 := R_args HR.out hlt.2.1
  have P3 := R_args HR.out hlt.2.2.1
  have P4 := R_args HR.out hlt.2.2.2.1
  have P5 := R_args HR.out hlt.2.2.2.2
  have F6 := Lib.hid (show FB w gf g B M f g' [] false Ab b.length cb b wc from ⟨S4.out.below HB.out, (R4.out _ _).below HB.out, ⟨P1.2.2.1, P1.2.1, fun h0 a ha => ⟨P1.2.2.2 h0 a ha, P2.2.2.2 h0 a ha, P3.2.2.2 h0 a ha⟩, C_lt P1.2.2.1⟩, ⟨P1.2.2.1, P1.2.1, fun h0 a ha => ⟨P4.2.2.2 h0 a ha, P5.2.2.2 h0 a ha, P5.2.2.2 h0 a ha⟩, C_lt P1.2.2.1⟩, (fun h => by cases h), HX.out.1, by have := HX.out.2; omega⟩)
  obtain ⟨nb, hnb⟩ : ∃ nb, nb = b.length := ⟨_, rfl⟩
  rw [← hnb] at F6 ⊢
  clear P1 P2 P3 P4 P5 HR HB HX hlt S4 R4 B6 O6 hnb
  go_wp2_with (fail)
  go_loopg [15, 16] os.length (fun g_ v15 v16 wx => ∃ (i n c : Nat) (j : Int) (A : Option Addr) (q b : List Int) (bad : Bool), v15 = .slice A n c ∧ v16 = .int .i64 j ∧ Aside0 (i + g_ = os.length ∧ j = (i : Int)) ∧ Aside0 (FB w gf g B M f g' q bad A n c b wx))
  case atStart => exact ⟨0, nb, cb, 0, Ab, [], b, false, rfl, rfl, ⟨by omega, rfl⟩, ⟨F6.out⟩⟩
  case round =>
    clear F6
    obtain ⟨i, n, c, j, A, q, b, bad, rfl, rfl, HI, HF⟩ := hrel
    cases gk with
    | zero =>
      have d5 : decide (j < (os.length : Int)) = false := decide_eq_false (by have := HI.out; omega)
      obtain ⟨Aq, cq, hg, hR, _, _⟩ := HF.out.r.r.ex
      obtain ⟨g0_, g1⟩ := blkc2 hg
      obtain ⟨c0_, c1⟩ := blkc2 HF.out.r.f
      clear hg hR
      go_wp2_with (fail)
      go_quiet (first | (go_at_call 37; refine Calls.quiet_of (flow_Held_q _ gf g B M q bad (HF.out.s.f.below (pw_below_drewN (Below.refl _ _) _)))))
      go_wp2
      go_ret
      exact ⟨rfl, pw_below_drewN HF.out.s.b _⟩
    | succ g1 =>
      have hi := HI.out
      have d5 : decide (j < (os.length : Int)) = true := decide_eq_true (by omega)
      obtain ⟨ad, e, hx⟩ := Kd.at_int (Kd.C_below HR5.out HF.out.s.b) j (by omega) (by omega)
      have p0 : (0 ≤ j) = True := eq_true (by omega)
      have q0 : (j < (os.length : Int)) = True := eq_true (by omega)
      obtain ⟨z, hz⟩ : ∃ z, z = rd os j := ⟨_, rfl⟩
      rw [← hz] at hx
      have Z1 := Lib.hid hz
      subst e
      clear hz hi
      go_upto_if 67 with (go_at_call 12; refine (within_b z 3 (by omega) (by omega) _).mono ?_; rintro e w5 ⟨rfl, hb⟩; obtain ⟨y3, hy3⟩ : ∃ y3, y3 = z % 3 := ⟨_, rfl⟩; rw [← hy3]; have F5 := Lib.hid (HF.out.below hb); clear hb hy3)
      clear HF hx
      go_cut [15] (fun v15 wc => ∃ (n c : Nat) (A : Option Addr) (q b : List Int) (bad : Bool), v15 = .slice A n c ∧ Aside0 (FB w gf g B M f g' q bad A n c b wc))
      case first =>
        cases d6 : decide (y3 < 2)
        case true =>
          obtain ⟨ad2, e2, hx⟩ := Kd.at_int (Kd.C_below HR5.out F5.out.s.b) j (by have := HI.out; omega) (by have := HI.out; omega)
          obtain rfl : ad = ad2 := by injection e2
          clear e2
          rw [← Z1.out] at hx
          obtain ⟨m, hm⟩ : ∃ m : Nat, (m : Int) = min (wrap64 (Int.tdiv z 3) % 60) (n : Int) := ⟨(min (wrap64 (Int.tdiv z 3) % 60) (n : Int)).toNat, by have := Int.emod_nonneg (wrap64 (Int.tdiv z 3)) (show (60 : Int) ≠ 0 by omega); omega⟩
          have N1 := Lib.hid hm
          clear hm
          go_wp2_with (fail)
          refine (digit_b z 3 60 (by omega) (by omega) (by omega) _).mono ?_
          rintro e w6 ⟨rfl, hb⟩
          have F6 := Lib.hid (F5.out.below hb)
          obtain ⟨y6, hy6⟩ : ∃ y6, y6 = wrap64 (Int.tdiv z 3) % 60 := ⟨_, rfl⟩
          have N2 := Lib.hid (show (m : Int) = min y6 (n : Int) by rw [hy6]; exact N1.out)
          rw [← hy6]
          have hch := cut_high A m n c (by have := N2.out; have := F6.out.l.hc; omega)
          obtain ⟨A9, hA9, hsl⟩ := cut_low_any A m n c (by have := N2.out; omega) F6.out.l.hc
          have T9 := Lib.hid hA9
          have MN := Lib.hid (show m ≤ n by have := N2.out; omega)
          clear hb F5 hx hy6 N1 hA9
          go_wp2_with ((with_reducible refine gate_dst (N := 75) rfl ?_); refine wl_min rfl (.tmp 72) (.tmp 74) _ rfl .i64 y6 (n : Int) m rfl rfl N2.out ?_)
          obtain ⟨l, hl⟩ : ∃ l, l = b.take m := ⟨_, rfl⟩
          have hll : l.length = m := by rw [hl, List.length_take]; have := MN.out; have := F6.out.l.C.1; omega
          have L1 := Lib.hid hll
          have L0 := Lib.hid hl
          have M4 := Lib.hid (show m ≤ 4000 by have := MN.out; have := F6.out.hb; omega)
          have hC6 := C_take F6.out.l.C m MN.out
          rw [← hl] at hC6
          refine (lent_b A m c l L1.out.symm (by have := L1.out; have := M4.out; omega) _ hC6 (by have := F6.out.l.hc; have := MN.out; omega)).mono ?_
          rintro e w7 ⟨Am, cm, rfl, hL, hb⟩
          have LT := Lib.hid (show gf < w6.heap.size ∧ g < w6.heap.size ∧ B < w6.heap.size ∧ f < w6.heap.size ∧ g' < w6.heap.size from ⟨blk_lt F6.out.s.f.f, F6.out.s.f.r.lt.1, F6.out.s.f.r.lt.2, blk_lt F6.out.r.f, F6.out.r.r.lt⟩)
          have F7 := Lib.hid (F6.out.below hb)
          have LL := Lib.hid hL
          obtain ⟨gm, cs, eA, hgm, hcs, hsz, hown⟩ := L_blk (n := m + 3) (c := cm) LL.out.2 (by omega)
          have EA := Lib.hid eA
          have GM := Lib.hid hgm
          have SZ := Lib.hid hb.size
          clear hl hll hC6 F6 hL hb eA hgm hcs hsz hown
          go_wp2_with (fail)
          obtain ⟨p, hp⟩ : ∃ p, p = if bad then 0 else min m (M - q.length) := ⟨_, rfl⟩
          have PP := Lib.hid hp
          clear hp
          refine (flow_Feed _ gf g B M q bad F7.out.s.f Am m cm l L1.out.symm (by have := (Kd.L_reads' LL.out).2.2; rwa [L1.out] at this) (Kd.L_reads' LL.out).2.1 (fun _ a0 ha => by rw [EA.out] at ha; injection ha with ha; subst ha; have := GM.out; have := LT.out; show gm ≠ B; omega) p PP.out).mono ?_
          rintro e w8 ⟨rfl, hf, hr⟩
          have S8 := Lib.hid (F7.out.s.fed hf hr (b8_app F7.out.s.b8 (b8_take (by rw [L0.out]; exact b8_take F7.out.b8 m) p)))
          have T8 := Lib.hid (F7.out.r.fr3 (a := gf) (b := g) (c := B) (Fr3.of_fr2 hr) AP.out.n1 AP.out.n2 (fun k hk => ⟨hk.2.2.1, hk.2.2.2.1, hk.2.2.2.2⟩))
          have K8 := Lib.hid (F7.out.l.fr2 hr)
          have J8 := Lib.hid (F7.out.l2.by K8.out)
          have LL8 := Lib.hid (Kd.L_step (Kd.L_bound LL.out) (fun k hk hl => hr.block k hl (by have := LT.out; have := hk.2.1; omega) (by have := LT.out; have := hk.2.1; omega)))
          have FQ := Lib.hid (And.intro F7.out.hq (And.intro F7.out.b8 F7.out.hb))
          have SZ8 := Lib.hid hr.size
          clear hf hr LL F7
          go_wp2_with (fail)
          have hC8 := C_take K8.out.C m MN.out
          rw [← L0.out] at hC8
          refine (rflow_Feed _ _ _ f g' M q bad T8.out S8.out.b.size (fun k hk => hk.2.1) (fun k hk => by have := LT.out; have := SZ.out; have := SZ8.out; exact ⟨by omega, by omega, by omega, by omega, by omega⟩) A m c l L1.out.symm hC8 (by have := K8.out.hc; have := MN.out; omega) p PP.out).mono ?_
          rintro e w9 ⟨rfl, hr9, hr⟩
          have S9 := Lib.hid (S8.out.fr3 (a := g') (b := g') (c := g') (Fr3.of_fr2 hr) ⟨fun e => AP.out.n2.1 e.symm, fun e => AP.out.n2.1 e.symm, fun e => AP.out.n2.1 e.symm⟩ ⟨fun e => AP.out.n2.2.1 e.symm, fun e => AP.out.n2.2.1 e.symm, fun e => AP.out.n2.2.1 e.symm⟩ ⟨fun e => AP.out.n2.2.2 e.symm, fun e => AP.out.n2.2.2 e.symm, fun e => AP.out.n2.2.2 e.symm⟩ AP.out.hg AP.out.hg AP.out.hg)
          have T9' := Lib.hid hr9
          have J9 := Lib.hid (J8.out.fr2 hr)
          have K9 := Lib.hid (K8.out.by J9.out)
          have LL9 := Lib.hid (Kd.L_step LL8.out (fun k hk hl => hr.block k hl (by have := LT.out; have := hk.2.1; omega) (by have := LT.out; have := hk.2.1; omega)))
          have hC9 := C_take K9.out.C m MN.out
          rw [← L0.out] at hC9
          have C9 := Lib.hid hC9
          clear hr9 hr hC8 hC9 S8 T8 K8 J8 LL8
          go_wp2_with (fail)
          refine (stays_b Am m cm A c l L1.out.symm (by have := L1.out; have := M4.out; omega) _ (Kd.L_reads3 LL9.out).2.2 (Kd.L_room3 LL9.out) C9.out (by have := K9.out.hc; have := MN.out; omega)).mono ?_
          rintro e w10 ⟨rfl, hb⟩
          have S10 := Lib.hid (S9.out.below hb)
          have T10 := Lib.hid (T9'.out.below hb)
          have K10 := Lib.hid ((K9.out.below hb).skip m MN.out A9 T9.out)
          have J10 := Lib.hid ((J9.out.below hb).skip m MN.out A9 T9.out)
          clear hb S9 T9' K9 J9 LL9 C9 hch
          go_wp2
          go_meet
          refine ⟨n - m, c - m, A9, q ++ l.take p, b.drop m, bad, rfl, ⟨⟨S10.out, T10.out, K10.out, J10.out, ?_, b8_drop FQ.out.2.1 m, by have := FQ.out.2.2; omega⟩⟩⟩
          intro h
          have h1 := FQ.out.1 h
          have h2 := PP.out
          rw [h] at h2
          simp only [if_true] at h2
          rw [h1, h2]
          rfl
        case false =>
          go_wp2_with (fail)
          obtain ⟨t, u, p, k, e0, hf0⟩ : ∃ t u p k e0, firstOf cutl q bad = (t, u, p, k, e0) := ⟨_, _, _, _, _, rfl⟩
          have F0 := Lib.hid hf0
          clear hf0
          have LT := Lib.hid (show gf < w5.heap.size ∧ g < w5.heap.size ∧ B < w5.heap.size ∧ f < w5.heap.size ∧ g' < w5.heap.size from ⟨blk_lt F5.out.s.f.f, F5.out.s.f.r.lt.1, F5.out.s.f.r.lt.2, blk_lt F5.out.r.f, F5.out.r.r.lt⟩)
          refine (flow_Next cutl _ gf g B M q bad F5.out.s.f (cut_is _ F5.out.s.b8) t u p k e0 F0.out).mono ?_
          rintro e w6 ⟨A6, c6, rfl, hR, hf, hr⟩
          obtain ⟨n6, hn6⟩ : ∃ n6, n6 = p.length := ⟨_, rfl⟩
          rw [← hn6] at hR ⊢
          have N6 := Lib.hid hn6
          have ho : Below w6.heap.size w6 (w6.alloc (.cells #[.int .i64 t, .int .i64 u, .slice A6 n6 c6] 53)) := (Below.refl _ _).alloc (Nat.le_refl _) _
          have S6 := Lib.hid ((F5.out.s.next hf hr (next_b8 F5.out.s.b8)).below ho)
          have T6 := Lib.hid ((F5.out.r.fr3 hr AP.out.n1 AP.out.n2 (fun k hk => ⟨hk.2.2.1, hk.2.2.2.1, hk.2.2.2.2⟩)).below ho)
          have K6 := Lib.hid ((F5.out.l.fr3 hr).below ho)
          have J6 := Lib.hid ((F5.out.l2.by (F5.out.l.fr3 hr)).below ho)
          have R6 := Lib.hid (Kd.R_alloc hR (.cells #[.int .i64 t, .int .i64 u, .slice A6 n6 c6] 53))
          have X6 := Lib.hid (blk_new w6 (.cells #[.int .i64 t, .int .i64 u, .slice A6 n6 c6] 53 (0, 0)))
          have FQ := Lib.hid (And.intro F5.out.hq (And.intro F5.out.b8 (And.intro F5.out.hb F5.out.s.b8)))
          have SZ := Lib.hid hr.size
          clear hf hr hR ho hn6 F5
          go_wp2_with (fail)
          refine (rflow_Next _ _ _ f g' M q bad T6.out S6.out.b.size (fun k hk => ⟨hk.2.1, hk.1⟩) (fun k hk => by have := LT.out; have := SZ.out; simp at hk; exact ⟨by omega, by omega, by omega, by omega, by omega⟩) FQ.out.2.2.2 FQ.out.1 t u p k e0 F0.out).mono ?_
          rintro e w7 ⟨A7, c7, rfl, hR, hr7, hr⟩
          rw [← N6.out] at hR ⊢
          have S7 := Lib.hid (S6.out.fr3 hr ⟨fun e => AP.out.n1.1 e.symm, fun e => AP.out.n2.1 e.symm, fun e => AP.out.n2.1 e.symm⟩ ⟨fun e => AP.out.n1.2.1 e.symm, fun e => AP.out.n2.2.1 e.symm, fun e => AP.out.n2.2.1 e.symm⟩ ⟨fun e => AP.out.n1.2.2 e.symm, fun e => AP.out.n2.2.2 e.symm, fun e => AP.out.n2.2.2 e.symm⟩ AP.out.hf AP.out.hg AP.out.hg)
          have T7 := Lib.hid hr7
          have J7 := Lib.hid (J6.out.fr3 hr)
          have K7 := Lib.hid (K6.out.by J7.out)
          have X7 := Lib.hid ((hr.block w6.heap.size (blk_lt X6.out) (by have := LT.out; have := SZ.out; omega) (by have := LT.out; have := SZ.out; omega) (by have := LT.out; have := SZ.out; omega)).trans X6.out)
          have R7 := Lib.hid (Kd.R_step (Kd.R_bound R6.out) (fun k hk hl => hr.block k hl (by have := LT.out; have := hk.2.1; omega) (by have := LT.out; have := hk.2.1; omega) (by have := LT.out; have := hk.2.1; omega)))
          have Q7 := Lib.hid hR
          clear hR hr hr7 S6 T6 J6 K6 X6 R6
          go_upto_region 23 with (fail)
          have ho : Below w7.heap.size w7 (w7.alloc (.cells #[.int .i64 t, .int .i64 u, .slice A7 n6 c7] 60)) := (Below.refl _ _).alloc (Nat.le_refl _) _
          have S8 := Lib.hid (S7.out.below ho)
          have T8 := Lib.hid (T7.out.below ho)
          have K8 := Lib.hid (K7.out.below ho)
          have J8 := Lib.hid (J7.out.below ho)
          have X8 := Lib.hid (blk_below X7.out ho)
          have Y8 := Lib.hid (blk_new w7 (.cells #[.int .i64 t, .int .i64 u, .slice A7 n6 c7] 60 (0, 0)))
          have C6 := Lib.hid (show Kd.C (Kd.int .u8) (w7.alloc (.cells #[.int .i64 t, .int .i64 u, .slice A7 n6 c7] 60)) A6 n6 p from by have := (Kd.R_reads' (Kd.R_below R7.out ho)).2.2; rwa [← N6.out] at this)
          have C7 := Lib.hid (show Kd.C (Kd.int .u8) (w7.alloc (.cells #[.int .i64 t, .int .i64 u, .slice A7 n6 c7] 60)) A7 n6 p from by have := (Kd.R_reads' (Kd.R_below Q7.out ho)).2.2; rwa [← N6.out] at this)
          generalize w7.alloc (.cells #[.int .i64 t, .int .i64 u, .slice A7 n6 c7] 60) = W8 at *
          obtain ⟨g7, hg7⟩ : ∃ g7, g7 = w7.heap.size := ⟨_, rfl⟩
          obtain ⟨g6, hg6⟩ : ∃ g6, g6 = w6.heap.size := ⟨_, rfl⟩
          rw [← hg7] at Y8 ⊢
          rw [← hg6] at X8 ⊢
          obtain ⟨x0, x1, x2⟩ := blkc3 X8.out
          obtain ⟨y0, y1, y2⟩ := blkc3 Y8.out
          have hs1 : (convert 30 9 (.slice A6 n6 c6)).run Try.prog W8 = .ok (.string (strOfNums p)) W8 := Kd.C_string (P := Try.prog) Try.underlying30 Try.underlying5 Try.underlying9 (A := A6) (c := c6) C6.out
          have hs2 : (convert 30 9 (.slice A7 n6 c7)).run Try.prog W8 = .ok (.string (strOfNums p)) W8 := Kd.C_string (P := Try.prog) Try.underlying30 Try.underlying5 Try.underlying9 (A := A7) (c := c7) C7.out
          clear ho S7 T7 J7 K7 X7 R7 Q7 hg7 hg6
          go_wp2
          go_meet
          exact ⟨n, c, A, (nextOf cutl q bad).1, b, (nextOf cutl q bad).2, rfl, ⟨⟨S8.out, T8.out, K8.out, J8.out, next_bad FQ.out.1, FQ.out.2.1, FQ.out.2.2.1⟩⟩⟩
      case rest =>
      obtain ⟨n1, c1, A1, q1, b1, bad1, rfl, HF⟩ := hcut
      obtain ⟨Aq, cq, hg, hR, _, _⟩ := HF.out.r.r.ex
      have GB := Lib.hid hg
      have FK := Lib.hid HF.out.r.f
      obtain ⟨g0_, g1_⟩ := blkc2 hg
      obtain ⟨c0_, c1_⟩ := blkc2 HF.out.r.f
      obtain ⟨r0, hr0⟩ : ∃ r0, r0 = (!((firstOf cutl q1 bad1).2.2.2.2 == 3)) := ⟨_, rfl⟩
      have RR := Lib.hid hr0
      have QF := Lib.hid (And.intro HF.out.s.b8 HF.out.hq)
      clear hg hR hr0
      go_wp2_with (fail)
      refine start_ (n := 27) (S := fun w' => w'.cell? ⟨f, 0, none⟩ = some (.pointer (some ⟨g', 0, none⟩)) ∧ w'.cell? ⟨f, 1, none⟩ = some (.bool bad1) ∧ w'.cell? ⟨g', 1, none⟩ = some (.slice Aq q1.length cq)) (ds := []) #[false, false, false, false, false, false, false, false, false, false, false, false, false, false, false, false, false, false, false, false, false, false, false, false, false, false, false] (by kernel_rfl) rfl rfl ⟨(blkc2 (blk_drew FK.out)).1, (blkc2 (blk_drew FK.out)).2, (blkc2 (blk_drew GB.out)).2⟩ (fun hHeld => ?_)
      refine pure_ (i := 0) (N := some 137) (v := ?_) (a' := ?_) #[true, false, false, false, false, false, false, false, false, false, false, false, false, false, false, false, false, false, false, false, false, false, false, false, false, false, false] rfl rfl (by kernel_rfl) (fun _ _ _ h => h) (Or.inl ⟨by rfl, ?_⟩) ?_ ?_
      rotate_left
      · intro w'
        go_simp
        with_reducible rfl
      rotate_left
      · simp only [Act.put, List.setIfInBounds_toArray, List.set_cons_zero, List.set_cons_succ, i64_w, i32_w]
        rfl
      refine pure_ (i := 2) (N := some 139) (v := ?_) (a' := ?_) #[true, false, true, false, false, false, false, false, false, false, false, false, false, false, false, false, false, false, false, false, false, false, false, false, false, false, false] rfl rfl (by kernel_rfl) (fun _ _ _ h => h) (Or.inl ⟨by rfl, ?_⟩) ?_ ?_
      rotate_left
      · intro w'
        go_simp
        with_reducible rfl
      rotate_left
      · simp only [Act.put, List.setIfInBounds_toArray, List.set_cons_zero, List.set_cons_succ, i64_w, i32_w]
        rfl
      refine pure_ (i := 3) (N := some 140) (v := ?_) (a' := ?_) #[true, false, true, true, false, false, false, false, false, false, false, false, false, false, false, false, false, false, false, false, false, false, false, false, false, false, false] rfl rfl (by kernel_rfl) (fun _ _ _ h => h) (Or.inl ⟨by rfl, ?_⟩) ?_ ?_
      rotate_left
      · intro w'
        go_simp
        with_reducible rfl
      rotate_left
      · simp only [Act.put, List.setIfInBounds_toArray, List.set_cons_zero, List.set_cons_succ, i64_w, i32_w]
        rfl
      refine pure_ (i := 4) (N := some 141) (v := ?_) (a' := ?_) #[true, false, true, true, true, false, false, false, false, false, false, false, false, false, false, false, false, false, false, false, false, false, false, false, false, false, false] rfl rfl (by kernel_rfl) (fun _ _ _ h => h) (Or.inl ⟨by rfl, ?_⟩) ?_ ?_
      rotate_left
      · intro w'
        go_simp
        with_reducible rfl
      rotate_left
      · simp only [Act.put, List.setIfInBounds_toArray, List.set_cons_zero, List.set_cons_succ, i64_w, i32_w]
        rfl
      refine take_ (i := 5) (N := some 142) (v := ?_) (a' := ?_) #[true, false, true, true, true, true, false, false, false, false, false, false, false, false, false, false, false, false, false, false, false, false, false, false, false, false, false] rfl rfl (by kernel_rfl) (fun _ _ _ h => h) (Or.inl ⟨by rfl, ?_⟩) hHeld ?_ ?_
      rotate_left
      · rintro w' ⟨s0, s1, s2⟩
        go_simp
        with_reducible rfl
      rotate_left
      · simp only [Act.put, List.setIfInBounds_toArray, List.set_cons_zero, List.set_cons_succ, i64_w, i32_w]
        rfl
      refine pure_ (i := 6) (N := some 143) (v := ?_) (a' := ?_) #[true, false, true, true, true, true, true, false, false, false, false, false, false, false, false, false, false, false, false, false, false, false, false, false, false, false, false] rfl rfl (by kernel_rfl) (fun _ _ _ h => h) (Or.inl ⟨by rfl, ?_⟩) ?_ ?_
      rotate_left
      · intro w'
        go_simp
        with_reducible rfl
      rotate_left
      · simp only [Act.put, List.setIfInBounds_toArray, List.set_cons_zero, List.set_cons_succ, i64_w, i32_w]
        rfl
      refine pure_ (i := 7) (N := some 144) (v := ?_) (a' := ?_) #[true, false, true, true, true, true, true, true, false, false, false, false, false, false, false, false, false, false, false, false, false, false, false, false, false, false, false] rfl rfl (by kernel_rfl) (fun _ _ _ h => h) (Or.inl ⟨by rfl, ?_⟩) ?_ ?_
      rotate_left
      · intro w'
        go_simp
        with_reducible rfl
      rotate_left
      · simp only [Act.put, List.setIfInBounds_toArray, List.set_cons_zero, List.set_cons_succ, i64_w, i32_w]
        rfl
      refine take_ (i := 8) (N := some 145) (v := ?_) (a' := ?_) #[true, false, true, true, true, true, true, true, true, false, false, false, false, false, false, false, false, false, false, false, false, false, false, false, false, false, false] rfl rfl (by kernel_rfl) (fun _ _ _ h => h) (Or.inl ⟨by rfl, ?_⟩) hHeld ?_ ?_
      rotate_left
      · rintro w' ⟨s0, s1, s2⟩
        go_simp
        with_reducible rfl
      rotate_left
      · simp only [Act.put, List.setIfInBounds_toArray, List.set_cons_zero, List.set_cons_succ, i64_w, i32_w]
        rfl
      refine pure_ (i := 9) (N := some 146) (v := ?_) (a' := ?_) #[true, false, true, true, true, true, true, true, true, true, false, false, false, false, false, false, false, false, false, false, false, false, false, false, false, false, false] rfl rfl (by kernel_rfl) (fun _ _ _ h => h) (Or.inl ⟨by rfl, ?_⟩) ?_ ?_
      rotate_left
      · intro w'
        go_simp
        with_reducible rfl
      rotate_left
      · simp only [Act.put, List.setIfInBounds_toArray, List.set_cons_zero, List.set_cons_succ, i64_w, i32_w]
        rfl
      refine one_ (i := 1) (N := some 138) #[true, true, true, true, true, true, true, true, true, true, false, false, false, false, false, false, false, false, false, false, false, false, false, false, false, false, false] rfl rfl (by kernel_rfl) (by decide) (fun K hK => ?_)
      refine goes_ Try.func37 (by kernel_rfl) rfl #[.pointer (some ⟨gf, 0, none⟩)] (by rfl) rfl rfl (by simp only [List.map_toArray, List.map_cons, List.map_nil]; rfl) ?_
      with_reducible refine (flow_Held _ gf g B M q1 bad1 (HF.out.below (below_drew (Below.refl _ _))).s.f).mono ?_
      rintro e w5 ⟨rfl, hb⟩
      refine ⟨_, rfl, ?_⟩
      have F5 := Lib.hid ((HF.out.below (below_drew (Below.refl _ _))).below hb)
      have GB5 := Lib.hid (blk_below (blk_drew GB.out) hb)
      have FK5 := Lib.hid (blk_below (blk_drew FK.out) hb)
      clear hb
      refine hK.out _ _ ⟨(blkc2 FK5.out).1, (blkc2 FK5.out).2, (blkc2 GB5.out).2⟩ (fun hHeld => ?_)
      clear hK K
      refine norm_ (a' := ?_) ?_ ?_
      rotate_left
      · show Act.put _ (some 138) _ = _
        simp only [Act.put, List.setIfInBounds_toArray, List.set_cons_zero, List.set_cons_succ, i64_w, i32_w]
        rfl
      refine pure_ (i := 10) (N := some 147) (v := ?_) (a' := ?_) #[true, true, true, true, true, true, true, true, true, true, true, false, false, false, false, false, false, false, false, false, false, false, false, false, false, false, false] rfl rfl (by kernel_rfl) (fun _ _ _ h => h) (Or.inl ⟨by rfl, ?_⟩) ?_ ?_
      rotate_left
      · intro w'
        go_simp
        with_reducible rfl
      rotate_left
      · simp only [Act.put, List.setIfInBounds_toArray, List.set_cons_zero, List.set_cons_succ, i64_w, i32_w]
        rfl
      refine pure_ (i := 11) (N := some 148) (v := ?_) (a' := ?_) #[true, true, true, true, true, true, true, true, true, true, true, true, false, false, false, false, false, false, false, false, false, false, false, false, false, false, false] rfl rfl (by kernel_rfl) (fun _ _ _ h => h) (Or.inl ⟨by rfl, ?_⟩) ?_ ?_
      rotate_left
      · intro w'
        go_simp
        with_reducible rfl
      rotate_left
      · simp only [Act.put, List.setIfInBounds_toArray, List.set_cons_zero, List.set_cons_succ, i64_w, i32_w]
        rfl
      refine pure_ (i := 12) (N := some 149) (v := ?_) (a' := ?_) #[true, true, true, true, true, true, true, true, true, true, true, true, true, false, false, false, false, false, false, false, false, false, false, false, false, false, false] rfl rfl (by kernel_rfl) (fun _ _ _ h => h) (Or.inl ⟨by rfl, ?_⟩) ?_ ?_
      rotate_left
      · intro w'
        go_simp
        with_reducible rfl
      rotate_left
      · simp only [Act.put, List.setIfInBounds_toArray, List.set_cons_zero, List.set_cons_succ, i64_w, i32_w]
        rfl
      refine pure_ (i := 14) (N := some 151) (v := ?_) (a' := ?_) #[true, true, true, true, true, true, true, true, true, true, true, true, true, false, true, false, false, false, false, false, false, false, false, false, false, false, false] rfl rfl (by kernel_rfl) (fun _ _ _ h => h) (Or.inl ⟨by rfl, ?_⟩) ?_ ?_
      rotate_left
      · intro w'
        go_simp
        with_reducible rfl
      rotate_left
      · simp only [Act.put, List.setIfInBounds_toArray, List.set_cons_zero, List.set_cons_succ, i64_w, i32_w]
        rfl
      refine pure_ (i := 15) (N := some 152) (v := ?_) (a' := ?_) #[true, true, true, true, true, true, true, true, true, true, true, true, true, false, true, true, false, false, false, false, false, false, false, false, false, false, false] rfl rfl (by kernel_rfl) (fun _ _ _ h => h) (Or.inl ⟨by rfl, ?_⟩) ?_ ?_
      rotate_left
      · intro w'
        go_simp
        with_reducible rfl
      rotate_left
      · simp only [Act.put, List.setIfInBounds_toArray, List.set_cons_zero, List.set_cons_succ, i64_w, i32_w]
        rfl
      refine pure_ (i := 16) (N := some 153) (v := ?_) (a' := ?_) #[true, true, true, true, true, true, true, true, true, true, true, true, true, false, true, true, true, false, false, false, false, false, false, false, false, false, false] rfl rfl (by kernel_rfl) (fun _ _ _ h => h) (Or.inl ⟨by rfl, ?_⟩) ?_ ?_
      rotate_left
      · intro w'
        go_simp
        with_reducible rfl
      rotate_left
      · simp only [Act.put, List.setIfInBounds_toArray, List.set_cons_zero, List.set_cons_succ, i64_w, i32_w]
        rfl
      refine take_ (i := 17) (N := some 154) (v := ?_) (a' := ?_) #[true, true, true, true, true, true, true, true, true, true, true, true, true, false, true, true, true, true, false, false, false, false, false, false, false, false, false] rfl rfl (by kernel_rfl) (fun _ _ _ h => h) (Or.inl ⟨by rfl, ?_⟩) hHeld ?_ ?_
      rotate_left
      · rintro w' ⟨s0, s1, s2⟩
        go_simp
        with_reducible rfl
      rotate_left
      · simp only [Act.put, List.setIfInBounds_toArray, List.set_cons_zero, List.set_cons_succ, i64_w, i32_w]
        rfl
      refine one_ (i := 13) (N := some 150) #[true, true, true, true, true, true, true, true, true, true, true, true, true, true, true, true, true, true, false, false, false, false, false, false, false, false, false] rfl rfl (by kernel_rfl) (by decide) (fun K hK => ?_)
      refine goes_ Try.func42 (by kernel_rfl) rfl #[.pointer (some ⟨gf, 0, none⟩)] (by rfl) rfl rfl (by simp only [List.map_toArray, List.map_cons, List.map_nil]; rfl) ?_
      with_reducible refine (flow_Bad _ gf g B M q1 bad1 F5.out.s.f).mono ?_
      rintro e w6 ⟨rfl, hb⟩
      refine ⟨_, rfl, ?_⟩
      have F6 := Lib.hid (F5.out.below hb)
      have GB6 := Lib.hid (blk_below GB5.out hb)
      have FK6 := Lib.hid (blk_below FK5.out hb)
      clear hb
      refine hK.out _ _ ⟨(blkc2 FK6.out).1, (blkc2 FK6.out).2, (blkc2 GB6.out).2⟩ (fun hHeld => ?_)
      clear hK K
      refine norm_ (a' := ?_) ?_ ?_
      rotate_left
      · show Act.put _ (some 150) _ = _
        simp only [Act.put, List.setIfInBounds_toArray, List.set_cons_zero, List.set_cons_succ, i64_w, i32_w]
        rfl
      refine pure_ (i := 18) (N := some 155) (v := ?_) (a' := ?_) #[true, true, true, true, true, true, true, true, true, true, true, true, true, true, true, true, true, true, true, false, false, false, false, false, false, false, false] rfl rfl (by kernel_rfl) (fun _ _ _ h => h) (Or.inl ⟨by rfl, ?_⟩) ?_ ?_
      rotate_left
      · intro w'
        go_simp
        with_reducible rfl
      rotate_left
      · simp only [Act.put, List.setIfInBounds_toArray, List.set_cons_zero, List.set_cons_succ, i64_w, i32_w]
        rfl
      refine pure_ (i := 19) (N := some 156) (v := ?_) (a' := ?_) #[true, true, true, true, true, true, true, true, true, true, true, true, true, true, true, true, true, true, true, true, false, false, false, false, false, false, false] rfl rfl (by kernel_rfl) (fun _ _ _ h => h) (Or.inl ⟨by rfl, ?_⟩) ?_ ?_
      rotate_left
      · intro w'
        go_simp
        with_reducible rfl
      rotate_left
      · simp only [Act.put, List.setIfInBounds_toArray, List.set_cons_zero, List.set_cons_succ, i64_w, i32_w]
        rfl
      refine pure_ (i := 20) (N := some 157) (v := ?_) (a' := ?_) #[true, true, true, true, true, true, true, true, true, true, true, true, true, true, true, true, true, true, true, true, true, false, false, false, false, false, false] rfl rfl (by kernel_rfl) (fun _ _ _ h => h) (Or.inl ⟨by rfl, ?_⟩) ?_ ?_
      rotate_left
      · intro w'
        go_simp
        with_reducible rfl
      rotate_left
      · simp only [Act.put, List.setIfInBounds_toArray, List.set_cons_zero, List.set_cons_succ, i64_w, i32_w]
        rfl
      refine pure_ (i := 21) (N := some 158) (v := ?_) (a' := ?_) #[true, true, true, true, true, true, true, true, true, true, true, true, true, true, true, true, true, true, true, true, true, true, false, false, false, false, false] rfl rfl (by kernel_rfl) (fun _ _ _ h => h) (Or.inl ⟨by rfl, ?_⟩) ?_ ?_
      rotate_left
      · intro w'
        go_simp
        with_reducible rfl
      rotate_left
      · simp only [Act.put, List.setIfInBounds_toArray, List.set_cons_zero, List.set_cons_succ, i64_w, i32_w]
        rfl
      refine pure_ (i := 23) (N := some 160) (v := ?_) (a' := ?_) #[true, true, true, true, true, true, true, true, true, true, true, true, true, true, true, true, true, true, true, true, true, true, false, true, false, false, false] rfl rfl (by kernel_rfl) (fun _ _ _ h => h) (Or.inl ⟨by rfl, ?_⟩) ?_ ?_
      rotate_left
      · intro w'
        go_simp
        with_reducible rfl
      rotate_left
      · simp only [Act.put, List.setIfInBounds_toArray, List.set_cons_zero, List.set_cons_succ, i64_w, i32_w]
        rfl
      refine one_ (i := 22) (N := some 159) #[true, true, true, true, true, true, true, true, true, true, true, true, true, true, true, true, true, true, true, true, true, true, true, true, false, false, false] rfl rfl (by kernel_rfl) (by decide) (fun K hK => ?_)
      refine goes_ Try.func43 (by kernel_rfl) rfl #[.pointer (some ⟨gf, 0, none⟩)] (by rfl) rfl rfl (by simp only [List.map_toArray, List.map_cons, List.map_nil]; rfl) ?_
      with_reducible refine (Ready_c r0 RR.out _ gf g B M q1 bad1 F6.out.s).mono ?_
      rintro e w7 ⟨rfl, hb⟩
      refine ⟨_, rfl, ?_⟩
      have F7 := Lib.hid (F6.out.below hb)
      have GB7 := Lib.hid (blk_below GB6.out hb)
      have FK7 := Lib.hid (blk_below FK6.out hb)
      clear hb
      refine hK.out _ _ ⟨(blkc2 FK7.out).1, (blkc2 FK7.out).2, (blkc2 GB7.out).2⟩ (fun hHeld => ?_)
      clear hK K
      refine norm_ (a' := ?_) ?_ ?_
      rotate_left
      · show Act.put _ (some 159) _ = _
        simp only [Act.put, List.setIfInBounds_toArray, List.set_cons_zero, List.set_cons_succ, i64_w, i32_w]
        rfl
      refine one_ (i := 24) (N := some 161) #[true, true, true, true, true, true, true, true, true, true, true, true, true, true, true, true, true, true, true, true, true, true, true, true, true, false, false] rfl rfl (by kernel_rfl) (by decide) (fun K hK => ?_)
      refine goes_ Try.func44 (by kernel_rfl) rfl #[.pointer (some ⟨f, 0, none⟩)] (by rfl) rfl rfl (by simp only [List.map_toArray, List.map_cons, List.map_nil]; rfl) ?_
      with_reducible refine (rReady_c r0 RR.out _ _ _ f g' M q1 bad1 F7.out.r QF.out.1).mono ?_
      rintro e w8 ⟨rfl, hb⟩
      refine ⟨_, rfl, ?_⟩
      have F8 := Lib.hid (F7.out.below hb)
      have GB8 := Lib.hid (blk_below GB7.out hb)
      have FK8 := Lib.hid (blk_below FK7.out hb)
      clear hb
      refine hK.out _ _ ⟨(blkc2 FK8.out).1, (blkc2 FK8.out).2, (blkc2 GB8.out).2⟩ (fun hHeld => ?_)
      clear hK K
      refine norm_ (a' := ?_) ?_ ?_
      rotate_left
      · show Act.put _ (some 161) _ = _
        simp only [Act.put, List.setIfInBounds_toArray, List.set_cons_zero, List.set_cons_succ, i64_w, i32_w]
        rfl
      refine pure_ (i := 25) (N := some 162) (v := ?_) (a' := ?_) #[true, true, true, true, true, true, true, true, true, true, true, true, true, true, true, true, true, true, true, true, true, true, true, true, true, true, false] rfl rfl (by kernel_rfl) (fun _ _ _ h => h) (Or.inl ⟨by rfl, ?_⟩) ?_ ?_
      rotate_left
      · intro w'
        go_simp
        with_reducible rfl
      rotate_left
      · simp only [Act.put, List.setIfInBounds_toArray, List.set_cons_zero, List.set_cons_succ, i64_w, i32_w]
        rfl
      refine pure_ (i := 26) (N := some 163) (v := ?_) (a' := ?_) #[true, true, true, true, true, true, true, true, true, true, true, true, true, true, true, true, true, true, true, true, true, true, true, true, true, true, true] rfl rfl (by kernel_rfl) (fun _ _ _ h => h) (Or.inl ⟨by rfl, ?_⟩) ?_ ?_
      rotate_left
      · intro w'
        go_simp
        with_reducible rfl
      rotate_left
      · simp only [Act.put, List.setIfInBounds_toArray, List.set_cons_zero, List.set_cons_succ, i64_w, i32_w]
        rfl
      refine done_ (by kernel_rfl) ?_

      go_wp2
      go_roundg g1
      case measure => omega
      case rel =>
        rw [wrap64_in (by have := HI.out; have := LO.out; omega) (by have := HI.out; have := LO.out; omega)]
        exact ⟨i + 1, n1, c1, j + 1, A1, q1, b1, bad1, rfl, rfl, ⟨by have := HI.out; omega, by have := HI.out; omega⟩, ⟨F8.out⟩⟩
end Go.Proofs.Ytakiojmjalbfpaa.Ring
namespace Go.Proofs.Ytakiojmjalbfpaa.PFlow
open Go.RowKit Go.Proofs.YtakiojmjalbfpaaW.PrintWords Go.Proofs.YtakiojmjalbfpaaW.PrintLast Go.Proofs.YtakiojmjalbfpaaW.PrintMore
attribute [local go_sem] max2_int min2_int max_two min_two max_three min_three max_four min_four plus_setCell_drewN plus_cell_same   -- for this text's walks alone
set_option linter.unusedVariables false
set_option linter.unusedSimpArgs false
def busbarlaw10_FlowPlays.f (a0 : Int) (a1 : Bool) (l2 : List Int) (l3 : List Int) (a4 : Bool) (l5 : List Int) : Option Bool := if l2.all (fun x => (Lit.int .i64 x).wf) && l3.all (fun x => (Lit.int .u8 x).wf) then some true else none
theorem busbarlaw10_FlowPlays.calls (a0 : Int) (a1 : Bool) (A2 : Option Addr) (c2 : Nat) (l2 : List Int) (A3 : Option Addr) (c3 : Nat) (l3 : List Int) (a4 : Bool) (A5 : Option Addr) (c5 : Nat) (l5 : List Int) (r : Bool) (w : World) (hr2 : Kd.C (Kd.int .i64) w A2 l2.length l2) (hc2 : l2.length ≤ c2) (hr3 : Kd.C (Kd.int .u8) w A3 l3.length l3) (hc3 : l3.length ≤ c3) (hr5 : Kd.C (Kd.int .i64) w A5 l5.length l5) (hc5 : l5.length ≤ c5) (h : busbarlaw10_FlowPlays.f a0 a1 l2 l3 a4 l5 = some r) : Calls Try.prog 8 #[.int .i64 a0, .bool a1, .slice A2 l2.length c2, .slice A3 l3.length c3, .bool a4, .slice A5 l5.length c5] w fun e w' => e = .returned (.bool r) ∧ Below w.heap.size w w' := by
 unfold busbarlaw10_FlowPlays.f at h
 split at h
 ·
  rename_i hg
  obtain rfl := Option.some.inj h
  rw [Bool.and_eq_true, List.all_eq_true, List.all_eq_true] at hg
  exact Go.Proofs.Ytakiojmjalbfpaa.Ring.FlowPlays_calls a0 a1 A2 c2 l2 A3 c3 l3 a4 A5 c5 l5 w hr2 hc2 hr3 hc3 hr5 hc5 (fun x hx => Go.Proofs.Ytakiojmjalbfpaa.Num.wf_i64 (hg.1 x hx)) (fun x hx => Go.Proofs.Ytakiojmjalbfpaa.Num.wf_u8 (hg.2 x hx))
 ·
  cases h
def busbarlaw10_FlowPlays.Pure : Prop := ∀ (a0 : Int) (a1 : Bool) (l2 : List Int) (l3 : List Int) (a4 : Bool) (l5 : List Int), (Lit.int .i64 a0).wf = true → l2.length ≤ maxLen → l2.length * 8 ≤ 140737488351232 → (∀ x ∈ l2, (Lit.int .i64 x).wf = true) → l3.length ≤ maxLen → l3.length * 1 ≤ 140737488351232 → (∀ x ∈ l3, (Lit.int .u8 x).wf = true) → l5.length ≤ maxLen → l5.length * 8 ≤ 140737488351232 → (∀ x ∈ l5, (Lit.int .i64 x).wf = true) → busbarlaw10_FlowPlays.f a0 a1 l2 l3 a4 l5 = some true
theorem busbarlaw10_FlowPlays.walk (P : busbarlaw10_FlowPlays.Pure) (a0 : Int) (a1 : Bool) (a2 : Option Addr) (len2 cap2 : Nat) (z2 : List Int) (a3 : Option Addr) (len3 cap3 : Nat) (z3 : List Int) (a4 : Bool) (a5 : Option Addr) (len5 cap5 : Nat) (z5 : List Int) (w : World) (w0 : (Lit.int .i64 a0).wf = true) (w2 : (a2 = none ∧ len2 = 0 ∧ cap2 = 0 ∧ z2 = []) ∨ ∃ x, a2 = some x ∧ len2 ≤ cap2 ∧ cap2 ≤ maxLen ∧ z2.length = cap2 ∧ (∀ i, i < z2.length → w.cell? (x.add i) = some (.int .i64 (z2.getD i 0))) ∧ ∀ n ∈ z2, (Lit.int .i64 n).wf = true) (y2 : len2 * 8 ≤ 140737488351232) (w3 : (a3 = none ∧ len3 = 0 ∧ cap3 = 0 ∧ z3 = []) ∨ ∃ x, a3 = some x ∧ len3 ≤ cap3 ∧ cap3 ≤ maxLen ∧ z3.length = cap3 ∧ (∀ i, i < z3.length → w.cell? (x.add i) = some (.int .u8 (z3.getD i 0))) ∧ ∀ n ∈ z3, (Lit.int .u8 n).wf = true) (y3 : len3 * 1 ≤ 140737488351232) (w5 : (a5 = none ∧ len5 = 0 ∧ cap5 = 0 ∧ z5 = []) ∨ ∃ x, a5 = some x ∧ len5 ≤ cap5 ∧ cap5 ≤ maxLen ∧ z5.length = cap5 ∧ (∀ i, i < z5.length → w.cell? (x.add i) = some (.int .i64 (z5.getD i 0))) ∧ ∀ n ∈ z5, (Lit.int .i64 n).wf = true) (y5 : len5 * 8 ≤ 140737488351232) :
  Calls Try.prog 8 #[.int .i64 a0, .bool a1, .slice a2 len2 cap2, .slice a3 len3 cap3, .bool a4, .slice a5 len5 cap5] w fun e w' => e = .returned (.bool true) ∧ Below w.heap.size w w' := by
 obtain ⟨l2, rfl, hr2, hm2, hw2, hc2⟩ := ReadsInt.ofRowC w2
 obtain ⟨l3, rfl, hr3, hm3, hw3, hc3⟩ := ReadsInt.ofRowC w3
 obtain ⟨l5, rfl, hr5, hm5, hw5, hc5⟩ := ReadsInt.ofRowC w5
 have h := P a0 a1 l2 l3 a4 l5 w0 hm2 y2 hw2 hm3 y3 hw3 hm5 y5 hw5
 refine (busbarlaw10_FlowPlays.calls a0 a1 _ _ l2 _ _ l3 a4 _ _ l5 true w (Kd.C_of_reads (d := (0 : Int)) (h1 := fun _ => rfl) hr2) hc2 (Kd.C_of_reads (d := (0 : Int)) (h1 := fun _ => rfl) hr3) hc3 (Kd.C_of_reads (d := (0 : Int)) (h1 := fun _ => rfl) hr5) hc5 h).mono ?_
 rintro e w' ⟨rfl, hd⟩
 exact ⟨rfl, hd⟩
end Go.Proofs.Ytakiojmjalbfpaa.PFlow
namespace Go.Proofs.Ytakiojmjalbfpaa.Pure
open Go.RowKit Go.Proofs.Ytakiojmjalbfpaa.PFlow
theorem FlowPlays : busbarlaw10_FlowPlays.Pure := by
  unfold busbarlaw10_FlowPlays.Pure
  intro a0 a1 l2 l3 a4 l5 _ _ _ h2 _ _ h3 _ _ _
  unfold busbarlaw10_FlowPlays.f
  rw [if_pos]
  rw [Bool.and_eq_true, List.all_eq_true, List.all_eq_true]
  exact ⟨fun x hx => h2 x hx, fun x hx => h3 x hx⟩
end Go.Proofs.Ytakiojmjalbfpaa.Pure
