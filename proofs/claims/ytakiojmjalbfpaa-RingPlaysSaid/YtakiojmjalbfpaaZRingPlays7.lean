/- Words and walks for RingPlays (made of the session's own texts; each part by itself). -/
import Derived.RowKit
import Derived.Laws.BitsAllLaws
import Derived.Laws.BitsLemmas
import Derived.Deep.DeepCutAuto
import Derived.Test.YtakiojmjalbfpaaZRingPlays6
set_option linter.unusedVariables false
namespace Go.Proofs.Ytakiojmjalbfpaa.Num
open Go.RowKit Go.Proofs.YtakiojmjalbfpaaW.PrintWords Go.Proofs.YtakiojmjalbfpaaW.PrintMore
theorem wrap64_id {x : Int} (h1 : -9223372036854775808 ≤ x) (h2 : x < 9223372036854775808) : wrap64 x = x := by unfold wrap64; omega
def raw (l : List Int) : List Int := l.flatMap fun w => [w / 256, w % 256]
end Go.Proofs.Ytakiojmjalbfpaa.Num
set_option linter.unusedVariables false
set_option linter.unusedSimpArgs false
namespace Go.Proofs.Ytakiojmjalbfpaa.LemLentRing
open Go.RowKit Go.Proofs.Ytakiojmjalbfpaa.PRing Go.Proofs.YtakiojmjalbfpaaW.PrintWords Go.Proofs.YtakiojmjalbfpaaW.PrintLast Go.Proofs.YtakiojmjalbfpaaW.PrintMore Go.Proofs.Ytakiojmjalbfpaa.Num
theorem laid0 {α : Type} (z : α) (l : List α) : Kd.laid (List.replicate (l.length + 3) z) 0 (min l.length (List.replicate (l.length + 3) z).length) l = l ++ [z, z, z] := by
  unfold Kd.laid
  rw [List.length_replicate, Nat.min_eq_left (by omega), List.take_length, Nat.zero_add, List.drop_replicate, Nat.add_sub_cancel_left]
  rfl
theorem marks_eq : Kd.marks (Kd.int .u8) = [165, 165, 165] := rfl
theorem set_mk {α : Type} (l : List α) (a b c m : α) : (l ++ [a, b, c]).set l.length m = l ++ [m, b, c] ∧ (l ++ [a, b, c]).set (l.length + 1) m = l ++ [a, m, c] ∧ (l ++ [a, b, c]).set (l.length + 2) m = l ++ [a, b, m] := by
  refine ⟨?_, ?_, ?_⟩
  · rw [List.set_append_right _ _ (Nat.le_refl _), Nat.sub_self]; rfl
  · rw [List.set_append_right _ _ (by omega), Nat.add_sub_cancel_left]; rfl
  · rw [List.set_append_right _ _ (by omega), Nat.add_sub_cancel_left]; rfl
theorem lent_round (l x : List Int) (k i : Nat) (hl : l.length ≤ 100000) (hi : i < x.length) (hi2 : i ≤ 200000) : busbarlaw0_LentBytes.l0 (k + 1) l x (i : Int) = busbarlaw0_LentBytes.l0 k l (x.set i 165) ((i + 1 : Nat) : Int) := by
  rw [busbarlaw0_LentBytes.l0, if_pos (by omega), if_pos (by omega), Int.toNat_natCast, wrap64_id (by omega) (by omega)]
  rfl
theorem lent_eq (l : List Int) (hl : l.length ≤ 100000) {k : Nat} (hk : 5 ≤ k) : busbarlaw0_LentBytes.f k l = some l := by
  obtain ⟨k, rfl⟩ : ∃ m, k = m + 4 := ⟨k - 4, by omega⟩
  unfold busbarlaw0_LentBytes.f
  have e : ((wrap64 ((l.length : Int) + 3)) : Int).toNat = l.length + 3 := by rw [wrap64_id (by omega) (by omega)]; omega
  have hlen : ∀ a b c : Int, (l ++ [a, b, c]).length = l.length + 3 := fun _ _ _ => by simp
  rw [if_pos (by rw [wrap64_id (by omega) (by omega)]; omega), e, if_pos (by omega), Option.bind_some, if_pos (by simp), laid0,
    lent_round l _ (k + 3) l.length hl (by rw [hlen]; omega) (by omega), (set_mk l _ _ _ _).1,
    lent_round l _ (k + 2) (l.length + 1) hl (by rw [hlen]; omega) (by omega), (set_mk l _ _ _ _).2.1,
    lent_round l _ (k + 1) (l.length + 1 + 1) hl (by rw [hlen]; omega) (by omega), (set_mk l _ _ _ _).2.2,
    busbarlaw0_LentBytes.l0, if_neg (by rw [hlen]; omega), if_pos (by omega), if_pos (by rw [hlen]; omega), Int.toNat_natCast, List.drop_left, if_pos marks_eq.symm, List.take_left]
theorem rd_left (l m : List Int) (i : Nat) (h : i < l.length) : rd (l ++ m) (i : Int) = rd l (i : Int) := by
  simp [rd, List.getD_eq_getElem?_getD, List.getElem?_append_left h]
theorem rd_marks (l : List Int) (i : Nat) (h : l.length ≤ i) (h2 : i < l.length + 3) : rd (l ++ Kd.marks (Kd.int .u8)) (i : Int) = 165 := by
  obtain ⟨j, rfl⟩ : ∃ j, i = l.length + j := ⟨i - l.length, by omega⟩
  unfold rd
  rw [Int.toNat_natCast, List.getD_eq_getElem?_getD, List.getElem?_append_right h, Nat.add_sub_cancel_left, marks_eq]
  obtain rfl | rfl | rfl : j = 0 ∨ j = 1 ∨ j = 2 := by omega
  all_goals rfl
theorem stays_loop (l : List Int) (hl : l.length ≤ 100000) : ∀ (d i k : Nat), i + d = l.length + 3 → d < k → busbarlaw0_StaysBytes.l0 k l (l ++ Kd.marks (Kd.int .u8)) (i : Int) = some true
  | 0, i, k, h, hk => by
    obtain ⟨k, rfl⟩ : ∃ m, k = m + 1 := ⟨k - 1, by omega⟩
    rw [busbarlaw0_StaysBytes.l0, if_neg (by rw [List.length_append, marks_eq]; simp; omega)]
  | d + 1, i, k, h, hk => by
    obtain ⟨k, rfl⟩ : ∃ m, k = m + 1 := ⟨k - 1, by omega⟩
    have ih := stays_loop l hl d (i + 1) k (by omega) (by omega)
    have hw : wrap64 ((i : Int) + 1) = ((i + 1 : Nat) : Int) := by rw [wrap64_id (by omega) (by omega)]; rfl
    rw [busbarlaw0_StaysBytes.l0, if_pos (by rw [List.length_append, marks_eq]; simp; omega), hw, ih]
    by_cases hi : i < l.length
    · rw [if_pos (by omega), if_pos (by omega), if_pos (rd_left l _ i hi), if_neg (by omega)]
    · rw [if_neg (by omega), if_pos (by omega), if_pos (by omega), if_pos (rd_marks l i (by omega) (by omega))]
theorem stays_eq (l : List Int) (hl : l.length ≤ 100000) {k : Nat} (hk : l.length + 4 ≤ k) : busbarlaw0_StaysBytes.f k l l = some true := by
  unfold busbarlaw0_StaysBytes.f
  have e : (l ++ Kd.marks (Kd.int .u8)).length = l.length + 3 := by rw [List.length_append, marks_eq]; rfl
  rw [if_pos rfl, if_pos (by rw [wrap64_id (by omega) (by omega)]; omega), if_pos (by rw [wrap64_id (by omega) (by omega), e]; omega)]
  exact stays_loop l hl (l.length + 3) 0 k (by omega) (by omega)
end Go.Proofs.Ytakiojmjalbfpaa.LemLentRing
set_option linter.unusedVariables false
set_option linter.unusedSimpArgs false
namespace Go.Proofs.Ytakiojmjalbfpaa.Ring
open Go.RowKit Go.Proofs.YtakiojmjalbfpaaW.PrintWords Go.Proofs.YtakiojmjalbfpaaW.PrintLast Go.Proofs.YtakiojmjalbfpaaW.PrintMore Go.Proofs.Ytakiojmjalbfpaa.PRing
attribute [local go_sem] plus_setCell_drewN plus_cell_same
structure Both (w0 : World) (g B M : Nat) (g' : Nat) (q : List Int) (w : World) : Prop where
  s : St w0 g B M q w
  r : RefW w0.heap.size (fun k => k ≠ g' ∧ k ≠ g ∧ k ≠ B) w g' M q
  g1 : w0.heap.size ≤ g'
  n1 : g' ≠ g
  n2 : g' ≠ B
theorem Both.below {w0 w w1 : World} {g B M g' : Nat} {q : List Int} (h : Both w0 g B M g' q w) (hb : Below w.heap.size w w1) : Both w0 g B M g' q w1 := ⟨h.s.below hb, h.r.below hb, h.g1, h.n1, h.n2⟩
theorem lent_b (A : Option Addr) (n c : Nat) (l : List Int) (hn : n = l.length) (hl : l.length ≤ 100000) (w : World) (h : Kd.C (Kd.int .u8) w A n l) (hc : n ≤ c) : Calls Try.prog 17 #[.slice A n c] w fun e w' => ∃ A1 c1, e = .returned (.slice A1 n c1) ∧ Kd.L (Kd.int .u8) 5 w' w.heap.size (fun _ => True) (.slice A1 n c1) l ∧ Below w.heap.size w w' := by
  subst hn
  refine (busbarlaw0_LentBytes.calls 100010 A c l l w h hc (Go.Proofs.Ytakiojmjalbfpaa.LemLentRing.lent_eq l (by omega) (by omega))).mono ?_
  rintro e w1 ⟨v, rfl, hL, hb⟩
  obtain ⟨A1, c1, rfl, _⟩ := Kd.L_slice hL
  exact ⟨A1, c1, rfl, hL, hb⟩
theorem stays_b (A : Option Addr) (n c : Nat) (A1 : Option Addr) (c1 : Nat) (l : List Int) (hn : n = l.length) (hl : l.length ≤ 100000) (w : World) (h : Kd.C (Kd.int .u8) w A (l ++ Kd.marks (Kd.int .u8)).length (l ++ Kd.marks (Kd.int .u8))) (hc : (l ++ Kd.marks (Kd.int .u8)).length ≤ c) (h1 : Kd.C (Kd.int .u8) w A1 n l) (hc1 : n ≤ c1) :
    Calls Try.prog 20 #[.slice A n c, .slice A1 n c1] w fun e w' => e = .returned (.bool true) ∧ Below w.heap.size w w' := by
  subst hn
  refine (busbarlaw0_StaysBytes.calls 100010 A c l A1 c1 l true w h hc h1 hc1 (Go.Proofs.Ytakiojmjalbfpaa.LemLentRing.stays_eq l (by omega) (by omega))).mono ?_
  rintro e w1 ⟨rfl, hd⟩
  obtain ⟨nd, rfl⟩ := hd.out
  exact ⟨rfl, pw_below_drewN (Below.refl _ _) nd⟩
theorem RefW.mono {base : Nat} {ok ok' : Nat → Prop} {w : World} {g M : Nat} {q : List Int} (h : RefW base ok w g M q) (hk : ∀ k, ok k → ok' k) : RefW base ok' w g M q := by
  obtain ⟨A, c, hg, hR, h2⟩ := h.ex
  exact ⟨A, c, hg, Kd.R_mono hR hk, h2⟩
theorem RefW.elder {base : Nat} {ok : Nat → Prop} {w w1 : World} {g M : Nat} {q : List Int} (h : RefW base ok w g M q) (v : Value) (hv : ∀ k, v.ownBlock = some k → w.heap.size ≤ k) (hb : Below w.heap.size w w1) : RefW base (fun k => ok k ∧ some k ≠ v.ownBlock) w1 g M q := by
  obtain ⟨A, c, hg, hR, h2⟩ := h.ex
  exact ⟨A, c, blk_below hg hb, Kd.R_elder' hR hv hb, h2⟩
theorem RefW.fr {base : Nat} {ok : Nat → Prop} {w w1 : World} {g M a b : Nat} {q : List Int} (h : RefW base ok w g M q) (hf : Fr2 a b w w1) (h1 : g ≠ a) (h2 : g ≠ b) (hk : ∀ k, ok k → k ≠ a ∧ k ≠ b) : RefW base ok w1 g M q := by
  obtain ⟨A, c, hg, hR, h3⟩ := h.ex
  exact ⟨A, c, (hf.block g (blk_lt hg) h1 h2).trans hg, Kd.R_step hR (fun k hk_ hl => hf.block k hl (hk k hk_).1 (hk k hk_).2), h3⟩
theorem St.fr {w0 w w1 : World} {g B M a b : Nat} {q : List Int} (h : St w0 g B M q w) (hf : Fr2 a b w w1) (h1 : g ≠ a) (h2 : g ≠ b) (h3 : B ≠ a) (h4 : B ≠ b) (h5 : w0.heap.size ≤ a) (h6 : w0.heap.size ≤ b) : St w0 g B M q w1 := ⟨h.r.fr hf h1 h2 h3 h4, hf.below h.b h.b.size h5 h6, h.g0, h.B0⟩
theorem RefW.lt {base : Nat} {ok : Nat → Prop} {w : World} {g M : Nat} {q : List Int} (h : RefW base ok w g M q) : g < w.heap.size := by
  obtain ⟨A, c, hg, _⟩ := h.ex
  exact blk_lt hg
theorem wr_step {w0 wx : World} {g B M g' gm base : Nat} {q : List Int} {ok : Nat → Prop} {cs : Array Value} (hS : St w0 g B M q wx) (hR : RefW base ok wx g' M q) (hcs : wx.heap[gm]? = some (.cells cs 5 (0, 0))) (h1 : g ≠ gm) (h2 : B ≠ gm) (h3 : g' ≠ gm) (h4 : w0.heap.size ≤ gm) (hok : ∀ k, ok k → k ≠ gm) (i : Nat) (v : Value) :
    St w0 g B M q (wx.setCell ⟨gm, i, none⟩ v) ∧ RefW base ok (wx.setCell ⟨gm, i, none⟩ v) g' M q ∧ (wx.setCell ⟨gm, i, none⟩ v).heap[gm]? = some (.cells (cs.setIfInBounds i v) 5 (0, 0)) := by
  have hf : Fr2 gm gm wx (wx.setCell ⟨gm, i, none⟩ v) := Fr2.set wx i v
  exact ⟨hS.fr hf h1 h1 h2 h2 h4 h4, hR.fr hf h3 h3 (fun k hk => ⟨hok k hk, hok k hk⟩), blk_set hcs i v⟩
theorem L_blk {w : World} {base n c : Nat} {A : Option Addr} {l : List Int} {ok : Nat → Prop} (h : Kd.R (Kd.int .u8) 5 w base ok (.slice A n c) l) (h0 : 0 < n) : ∃ gm cs, A = some ⟨gm, 0, none⟩ ∧ base ≤ gm ∧ w.heap[gm]? = some (.cells cs 5 (0, 0)) ∧ n ≤ cs.size ∧ (Value.slice A n c).ownBlock = some gm := by
  obtain ⟨hok, inner, hown, hr⟩ := h
  rcases hown.2 with ⟨hv, hl⟩ | ⟨gm, cap, cur, hv, hb, hh, hcap, hcm, hcs, htake⟩
  · exfalso
    injection hv with _ e _
    omega
  · injection hv with e1 e2 e3
    subst e1
    subst e3
    refine ⟨gm, cur, rfl, hb, hh, ?_, ?_⟩
    · rw [hcs, show (Kd.int .u8).sz = 1 from rfl, Nat.mul_one]
      omega
    · simp [Value.ownBlock]
theorem RefW.bound {base : Nat} {ok : Nat → Prop} {w : World} {g M : Nat} {q : List Int} (h : RefW base ok w g M q) : RefW base (fun k => ok k ∧ k < w.heap.size) w g M q := by
  obtain ⟨A, c, hg, hR, h2⟩ := h.ex
  exact ⟨A, c, hg, Kd.R_mono (Kd.R_bound hR) (fun k hk => ⟨hk.1, hk.2.2.1⟩), h2⟩
theorem gm_of {w6 w7 : World} {g kk c : Nat} {A : Option Addr} {l : List Int} {ok : Nat → Prop} (hR : Kd.R (Kd.int .u8) 5 w7 w6.heap.size ok (.slice A kk c) l) (hg : g < w6.heap.size) (hs : w6.heap.size ≤ w7.heap.size) :
    ∃ gm, gm < w7.heap.size ∧ (∀ k, k < w6.heap.size → k ≠ g → k ≠ gm) ∧ (0 < kk → A = some ⟨gm, 0, none⟩ ∧ w6.heap.size ≤ gm ∧ ∃ cs, w7.heap[gm]? = some (.cells cs 5 (0, 0)) ∧ kk ≤ cs.size) := by
  rcases Nat.eq_zero_or_pos kk with h0 | h0
  · exact ⟨g, by omega, fun k _ h => h, fun h => by omega⟩
  · obtain ⟨gm, cs, e1, e2, e3, e4, _⟩ := L_blk hR h0
    exact ⟨gm, blk_lt e3, fun k h1 _ => by omega, fun _ => ⟨e1, e2, cs, e3, e4⟩⟩
set_option maxRecDepth 100000 in
set_option maxHeartbeats 8000000 in
theorem RingPlays_calls (p0 : Int) (near : Bool) (A2 : Option Addr) (c2 : Nat) (ks : List Int) (w : World) (hr2 : Kd.C (Kd.int .i64) w A2 ks.length ks) (hc2 : ks.length ≤ c2) :
    Calls Try.prog 3 #[.int .i64 p0, .bool near, .slice A2 ks.length c2] w fun e w' => e = .returned (.bool true) ∧ Below w.heap.size w w' := by
  have hu22 := Try.underlying22
  have hu30 := Try.underlying30
  have hu38 := Try.underlying38
  have hk9 : ks.length ≤ 9223372036854775807 := by have := hr2.2.1; omega
  have HR2 := Lib.hid hr2
  clear hr2
  by_cases h2 : 200 < ks.length
  · have d2 : decide (200 < (ks.length : Int)) = true := decide_eq_true (by omega)
    go_enter Try.func3, Try.ntmps3
    go_wp2_with (fail)
    refine (law9_awake _).mono ?_
    rintro e w1 ⟨rfl, hb⟩
    go_wp2
    go_ret
    exact ⟨rfl, hb⟩
  have d2 : decide (200 < (ks.length : Int)) = false := decide_eq_false (by omega)
  go_enter Try.func3, Try.ntmps3
  go_wp2_with (fail)
  refine (law9_awake _).mono ?_
  rintro e w1 ⟨rfl, hb⟩
  have A1 := Lib.hid hb
  clear hb
  go_upto_if 27 with (fail)
  go_cut [0] (fun v0 wc => ∃ x : Int, v0 = .int .i64 x ∧ Aside0 (Below w.heap.size w wc))
  case first =>
    cases near
    · go_wp2
      go_meet
      exact ⟨p0, rfl, ⟨A1.out⟩⟩
    · go_wp2_with (fail)
      refine (within_b p0 60 (by omega) (by omega) _).mono ?_
      rintro e w2 ⟨rfl, hb⟩
      have A3 := Lib.hid (below_then A1.out A1.out.size hb)
      clear hb
      go_wp2
      go_meet
      exact ⟨_, rfl, ⟨A3.out⟩⟩
  case rest =>
  obtain ⟨x, rfl, HB⟩ := hcut
  obtain ⟨M, hM⟩ : ∃ M, M = (min (max x 0) 65536).toNat := ⟨_, rfl⟩
  have XM := Lib.hid hM
  have hM6 : M ≤ 65536 := by omega
  clear hM A1
  go_wp2_with (fail)
  refine (ring_New x _).mono ?_
  rintro e w3 ⟨g, B, rfl, hr, hg, hB, hb⟩
  rw [← XM.out] at hr
  have S1 := Lib.hid (show St w g B M [] w3 from ⟨hr, below_then HB.out HB.out.size hb, by have := HB.out.size; omega, by have := HB.out.size; omega⟩)
  clear hr hb hg hB HB
  go_wp2_with (fail)
  refine (ref_New x _).mono ?_
  rintro e w4 ⟨rfl, hr, hb⟩
  rw [← XM.out] at hr
  have S2 := Lib.hid (show Both w g B M w3.heap.size [] w4 from ⟨S1.out.below hb, hr _ _, S1.out.b.size, fun e => by have := S1.out.r.lt; omega, fun e => by have := S1.out.r.lt; omega⟩)
  generalize w3.heap.size = g' at *
  clear S1 hr hb
  go_wp2_with (fail)
  go_loopg [9, 10] ks.length (fun g_ v9 v10 wx => ∃ (j a : Int) (q : List Int), 0 ≤ j ∧ j + (g_ : Int) = (ks.length : Int) ∧ v9 = .int .i64 a ∧ v10 = .int .i64 j ∧ Aside0 (Both w g B M g' q wx))
  case atStart => exact ⟨0, 0, [], by omega, by omega, rfl, rfl, ⟨S2.out⟩⟩
  case round =>
    obtain ⟨j, a, q, hj0, hj, rfl, rfl, HS⟩ := hrel
    cases gk with
    | zero =>
      have hd : decide (j < (ks.length : Int)) = false := decide_eq_false (by omega)
      obtain ⟨A, c, hg, hR, hq, _⟩ := HS.out.r.ex
      obtain ⟨c0, c1⟩ := blkc2 hg
      have hrm : wrap64 ((M : Int) - (q.length : Int)) = (M : Int) - q.length := wrap64_in (by omega) (by omega)
      clear hg hR
      go_wp2
      go_quiet (first | (go_at_call 25; refine Calls.quiet_of (ring_Len _ g B M q (HS.out.s.r.below (pw_below_drewN (Below.refl _ _) _)))) | (go_at_call 26; refine Calls.quiet_of (ring_Room _ g B M q (HS.out.s.r.below (pw_below_drewN (Below.refl _ _) _)))))
      go_wp2
      go_ret
      exact ⟨rfl, pw_below_drewN HS.out.s.b _⟩
    | succ g1 =>
      have hd : decide (j < (ks.length : Int)) = true := decide_eq_true (by omega)
      obtain ⟨ad, e, hx⟩ := Kd.at_int (Kd.C_below HR2.out HS.out.s.b) j (by omega) (by omega)
      have p0 : (0 ≤ j) = True := eq_true (by omega)
      have q0 : (j < (ks.length : Int)) = True := eq_true (by omega)
      generalize hxe : rd ks j = y at hx
      have XE := Lib.hid hxe
      have HJ := Lib.hid hj
      clear hxe hj
      subst e
      go_wp2_with (fail)
      refine (digit_b y 4 40 (by omega) (by omega) (by omega) _).mono ?_
      rintro e w5 ⟨rfl, hb⟩
      obtain ⟨u, hu⟩ : ∃ u, u = wrap64 (Int.tdiv y 4) % 40 := ⟨_, rfl⟩
      have hu0 : 0 ≤ u := by have := Int.emod_nonneg (wrap64 (Int.tdiv y 4)) (show (40 : Int) ≠ 0 by omega); omega
      have hu1 : u < 40 := by have := Int.emod_lt_of_pos (wrap64 (Int.tdiv y 4)) (show (0 : Int) < 40 by omega); omega
      rw [← hu]
      clear hu
      have S3 := Lib.hid (HS.out.below hb)
      obtain ⟨ad2, e2, hx5⟩ := Kd.at_int (Kd.C_below HR2.out S3.out.s.b) j (by omega) (of_decide_eq_true hd)
      cases e2
      rw [XE.out] at hx5
      clear HS hb hx
      go_upto_block 2 with (first | (go_at_call 12; refine (within_b y 4 (by omega) (by omega) _).mono ?_; rintro e w6 ⟨rfl, hb⟩; obtain ⟨y4, hy4⟩ : ∃ y4, y4 = y % 4 := ⟨_, rfl⟩; rw [← hy4]; have HY := Lib.hid hy4; clear hy4; have S4 := Lib.hid (S3.out.below hb)))
      have S5 := Lib.hid S4.out
      have hy0 : 0 ≤ y4 := by have := HY.out; omega
      have hy1 : y4 < 4 := by have := HY.out; omega
      clear S3 S4 hb hx5 HY
      go_cut [9] (fun v9 wc => ∃ (a : Int) (q : List Int), v9 = .int .i64 a ∧ Aside0 (Both w g B M g' q wc))
      case first =>
        obtain rfl | rfl | rfl | rfl : y4 = 0 ∨ y4 = 1 ∨ y4 = 2 ∨ y4 = 3 := by omega
        · obtain ⟨l, hll, hsl⟩ := some_calls a (u - 2) (by omega) (u - 2).toNat rfl w
          obtain ⟨m, hm⟩ : ∃ m, m = (u - 2).toNat := ⟨_, rfl⟩
          rw [← hm] at hll hsl
          have hm4 : m ≤ 40 := by omega
          have L1 := Lib.hid hll
          have L2 := Lib.hid hsl
          clear hll hsl hm
          go_wp2_with (fail)
          · refine (L2.out _).mono ?_
            rintro e w7 ⟨Ab, cb, rfl, hR, hb⟩
            have S6 := Lib.hid (S5.out.below hb)
            have R6 := Lib.hid hR
            have Z6 := Lib.hid (And.intro S5.out.s.r.lt.1 (And.intro S5.out.s.r.lt.2 S5.out.r.lt))
            have Y6 := Lib.hid (show w6.heap.size ≤ w7.heap.size from hb.size)
            have S5' := Lib.hid S5.out.s.b.size
            clear S5 hR hb
            go_wp2_with (fail)
            refine (lent_b Ab m cb l L1.out.symm (by have := L1.out; omega) _ (by have := (Kd.R_reads' R6.out).2.2; rwa [L1.out] at this) (Kd.R_reads' R6.out).2.1).mono ?_
            rintro e w8 ⟨Am, cm, rfl, hL, hb⟩
            have S7 := Lib.hid (S6.out.below hb)
            have R7 := Lib.hid (Kd.R_below R6.out hb)
            have LL := Lib.hid hL
            have T7 := Lib.hid (S6.out.r.elder (.slice Am m cm) (fun k hk => Kd.L_base hL k hk) hb)
            have Z7 := Lib.hid S6.out.s.r.lt
            obtain ⟨gm, cs, eA, hgm, hcs, hsz, hown⟩ := L_blk (n := m + 3) (c := cm) LL.out.2 (by omega)
            have hown2 : (Value.slice Am m cm).ownBlock = some gm := (Kd.lng_own (.slice Am m cm)).symm.trans hown
            rw [hown2] at T7
            have G7 := Lib.hid (show gm ≠ g ∧ gm ≠ B ∧ gm ≠ g' ∧ w.heap.size ≤ gm ∧ gm < w8.heap.size by
              have a1 := Z6.out
              have a2 := Y6.out
              have a3 := S5'.out
              have a4 := blk_lt hcs
              omega)
            have EA := Lib.hid eA
            have Y7 := Lib.hid (show w7.heap.size ≤ w8.heap.size from hb.size)
            clear S6 R6 hL hb hown hown2 hgm hcs hsz eA Z7
            go_wp2_with (fail)
            obtain ⟨p, hp⟩ : ∃ p, p = min m (M - q.length) := ⟨_, rfl⟩
            refine (ring_Put_n _ g B M q S7.out.s.r Am m cm l L1.out.symm (by have := (Kd.L_reads' LL.out).2.2; rwa [L1.out] at this) (Kd.L_reads' LL.out).2.1 (fun _ a0 ha => by rw [EA.out] at ha; injection ha with ha; subst ha; exact G7.out.2.1) p hp).mono ?_
            rintro e w9 ⟨rfl, hr, hf⟩
            have S8 := Lib.hid (S7.out.s.next hr hf)
            have T8 := Lib.hid (T7.out.fr hf S7.out.n1 S7.out.n2 (fun k hk => ⟨hk.1.2.1, hk.1.2.2⟩))
            have R8 := Lib.hid (Kd.R_step (Kd.R_bound R7.out) (fun k hk hl => hf.block k hl (by have := Z6.out; have := hk.2.1; omega) (by have := Z6.out; have := hk.2.1; omega)))
            have LL8 := Lib.hid (Kd.L_step (Kd.L_bound LL.out) (fun k hk hl => hf.block k hl (by have := Z6.out; have := Y6.out; have := hk.2.1; omega) (by have := Z6.out; have := Y6.out; have := hk.2.1; omega)))
            have P8 := Lib.hid hp
            have W8 := Lib.hid hf.size
            have NN := Lib.hid (And.intro S7.out.n1 (And.intro S7.out.n2 S7.out.g1))
            clear hr hf S7 T7 R7 LL hp
            go_wp2_with (fail)
            refine (ref_Put _ _ w9 w9 g' M q T8.out S8.out.b.size (fun k hk => hk.1.1) (fun k hk => by
              have a1 := Z6.out
              have a2 := Y6.out
              have a3 := G7.out
              have a4 := W8.out
              have a5 := Y7.out
              exact ⟨⟨by omega, by omega, by omega⟩, fun e => by injection e with e; omega⟩) Ab m cb l L1.out.symm (by have := (Kd.R_reads' R8.out).2.2; rwa [L1.out] at this) (Kd.R_reads' R8.out).2.1 p P8.out).mono ?_
            rintro e w10 ⟨rfl, hr, hf⟩
            have S9 := Lib.hid (S8.out.fr hf (fun e => NN.out.1 e.symm) (fun e => NN.out.1 e.symm) (fun e => NN.out.2.1 e.symm) (fun e => NN.out.2.1 e.symm) NN.out.2.2 NN.out.2.2)
            have T9 := Lib.hid hr
            have R9 := Lib.hid (Kd.R_step R8.out (fun k hk hl => hf.block k hl (by have := Z6.out; have := hk.2.1; omega) (by have := Z6.out; have := hk.2.1; omega)))
            have LL9 := Lib.hid (Kd.L_step LL8.out (fun k hk hl => hf.block k hl (by have := Z6.out; have := Y6.out; have := hk.2.1; omega) (by have := Z6.out; have := Y6.out; have := hk.2.1; omega)))
            clear hr hf S8 T8 R8 LL8
            generalize q ++ l.take p = q1 at *
            go_wp2_with (fail)
            refine (stays_b Am m cm Ab cb l L1.out.symm (by have := L1.out; omega) _ (Kd.L_reads3 LL9.out).2.2 (Kd.L_room3 LL9.out) (by have := (Kd.R_reads' R9.out).2.2; rwa [L1.out] at this) (Kd.R_reads' R9.out).2.1).mono ?_
            rintro e w11 ⟨rfl, hb⟩
            have S10 := Lib.hid (S9.out.below hb)
            have T10 := Lib.hid (T9.out.below hb)
            obtain ⟨gm', cs, eA', _, hcs, hsz, _⟩ := L_blk (n := m + 3) (c := cm) (Kd.L_below LL9.out hb).2 (by omega)
            rw [EA.out] at eA'
            cases eA'
            have K10 := Lib.hid hcs
            have K11 := Lib.hid hsz
            clear hb S9 T9 R9 LL9 hcs hsz
            have hea := EA.out
            subst hea
            have GM := Lib.hid (And.intro G7.out.1 (And.intro G7.out.2.1 (And.intro G7.out.2.2.1 G7.out.2.2.2.1)))
            clear G7 EA Z6 Y6 Y7 S5' W8 P8
            go_wp2
            go_loopg [14] m (fun g_ v14 wx => ∃ (k : Int) (cs : Array Value), 0 ≤ k ∧ k + (g_ : Int) = (m : Int) ∧ v14 = .int .i64 k ∧ Aside0 (St w g B M q1 wx) ∧ Aside0 (RefW w.heap.size (fun k => (k ≠ g' ∧ k ≠ g ∧ k ≠ B) ∧ some k ≠ some gm) wx g' M q1) ∧ Aside0 (wx.heap[gm]? = some (.cells cs 5 (0, 0))) ∧ Aside0 (m + 3 ≤ cs.size))
            case atStart => exact ⟨0, cs, by omega, by omega, rfl, ⟨S10.out⟩, ⟨T10.out⟩, ⟨K10.out⟩, ⟨K11.out⟩⟩
            case round =>
              obtain ⟨k, cs', hk0, hk, rfl, HS, HT, HC, HZ⟩ := hrel
              cases gk with
              | zero =>
                have hd : decide (k < (m : Int)) = false := decide_eq_false (by omega)
                go_wp2
                go_meet
                exact ⟨_, q1, rfl, ⟨⟨HS.out, HT.out.mono (fun _ hk => hk.1), NN.out.2.2, NN.out.1, NN.out.2.1⟩⟩⟩
              | succ g2 =>
                have hd : decide (k < (m : Int)) = true := decide_eq_true (by omega)
                have p0 : (0 ≤ k) = True := eq_true (by omega)
                have q0 : (k < (m : Int)) = True := eq_true (by omega)
                obtain ⟨old, hcell⟩ : ∃ old, wr.cell? ⟨gm, k.toNat, none⟩ = some old := ⟨_, (blk_cell HC.out k.toNat).trans (Array.getElem?_eq_getElem (by have := HZ.out; omega))⟩
                have hfroz : wr.frozen? ⟨gm, k.toNat, none⟩ = false := blk_frozen HC.out k.toNat
                obtain ⟨h1, h2, h3⟩ := wr_step HS.out HT.out HC.out (fun e => GM.out.1 e.symm) (fun e => GM.out.2.1 e.symm) (fun e => GM.out.2.2.1 e.symm) GM.out.2.2.2 (fun k hk e => hk.2 (by rw [e])) k.toNat (.int .u8 238)
                have H1 := Lib.hid h1
                have H2 := Lib.hid h2
                have H3 := Lib.hid h3
                have HK := Lib.hid hk
                clear h1 h2 h3 hk HS HT
                go_wp2
                have hk := HK.out
                have hkm : k < (m : Int) := of_decide_eq_true hd
                go_roundg g2
                case measure => omega
                case rel => exact ⟨k + 1, _, by omega, by omega, by rw [wrap64_in (by omega) (by omega)], ⟨H1.out⟩, ⟨H2.out⟩, ⟨H3.out⟩, ⟨by rw [Array.size_setIfInBounds]; exact HZ.out⟩⟩
        · obtain ⟨l, hll, hsl⟩ := some_calls a (u - 2) (by omega) (u - 2).toNat rfl w
          obtain ⟨m, hm⟩ : ∃ m, m = (u - 2).toNat := ⟨_, rfl⟩
          rw [← hm] at hll hsl
          have hm4 : m ≤ 40 := by omega
          have L1 := Lib.hid hll
          have L2 := Lib.hid hsl
          clear hll hsl hm
          go_wp2_with (fail)
          · refine (L2.out _).mono ?_
            rintro e w7 ⟨Ab, cb, rfl, hR, hb⟩
            have S6 := Lib.hid (S5.out.below hb)
            have R6 := Lib.hid hR
            have Z6 := Lib.hid (And.intro S5.out.s.r.lt.1 (And.intro S5.out.s.r.lt.2 S5.out.r.lt))
            have Y6 := Lib.hid (show w6.heap.size ≤ w7.heap.size from hb.size)
            have S5' := Lib.hid S5.out.s.b.size
            clear S5 hR hb
            go_wp2_with (fail)
            refine (lent_b Ab m cb l L1.out.symm (by have := L1.out; omega) _ (by have := (Kd.R_reads' R6.out).2.2; rwa [L1.out] at this) (Kd.R_reads' R6.out).2.1).mono ?_
            rintro e w8 ⟨Am, cm, rfl, hL, hb⟩
            have S7 := Lib.hid (S6.out.below hb)
            have R7 := Lib.hid (Kd.R_below R6.out hb)
            have LL := Lib.hid hL
            have T7 := Lib.hid (S6.out.r.elder (.slice Am m cm) (fun k hk => Kd.L_base hL k hk) hb)
            have Z7 := Lib.hid S6.out.s.r.lt
            obtain ⟨gm, cs, eA, hgm, hcs, hsz, hown⟩ := L_blk (n := m + 3) (c := cm) LL.out.2 (by omega)
            have hown2 : (Value.slice Am m cm).ownBlock = some gm := (Kd.lng_own (.slice Am m cm)).symm.trans hown
            rw [hown2] at T7
            have G7 := Lib.hid (show gm ≠ g ∧ gm ≠ B ∧ gm ≠ g' ∧ w.heap.size ≤ gm ∧ gm < w8.heap.size by
              have a1 := Z6.out
              have a2 := Y6.out
              have a3 := S5'.out
              have a4 := blk_lt hcs
              omega)
            have EA := Lib.hid eA
            have Y7 := Lib.hid (show w7.heap.size ≤ w8.heap.size from hb.size)
            clear S6 R6 hL hb hown hown2 hgm hcs hsz eA Z7
            go_wp2_with (fail)
            obtain ⟨p, hp⟩ : ∃ p, p = min m (M - q.length) := ⟨_, rfl⟩
            refine (ring_Put_n _ g B M q S7.out.s.r Am m cm l L1.out.symm (by have := (Kd.L_reads' LL.out).2.2; rwa [L1.out] at this) (Kd.L_reads' LL.out).2.1 (fun _ a0 ha => by rw [EA.out] at ha; injection ha with ha; subst ha; exact G7.out.2.1) p hp).mono ?_
            rintro e w9 ⟨rfl, hr, hf⟩
            have S8 := Lib.hid (S7.out.s.next hr hf)
            have T8 := Lib.hid (T7.out.fr hf S7.out.n1 S7.out.n2 (fun k hk => ⟨hk.1.2.1, hk.1.2.2⟩))
            have R8 := Lib.hid (Kd.R_step (Kd.R_bound R7.out) (fun k hk hl => hf.block k hl (by have := Z6.out; have := hk.2.1; omega) (by have := Z6.out; have := hk.2.1; omega)))
            have LL8 := Lib.hid (Kd.L_step (Kd.L_bound LL.out) (fun k hk hl => hf.block k hl (by have := Z6.out; have := Y6.out; have := hk.2.1; omega) (by have := Z6.out; have := Y6.out; have := hk.2.1; omega)))
            have P8 := Lib.hid hp
            have W8 := Lib.hid hf.size
            have NN := Lib.hid (And.intro S7.out.n1 (And.intro S7.out.n2 S7.out.g1))
            clear hr hf S7 T7 R7 LL hp
            go_wp2_with (fail)
            refine (ref_Put _ _ w9 w9 g' M q T8.out S8.out.b.size (fun k hk => hk.1.1) (fun k hk => by
              have a1 := Z6.out
              have a2 := Y6.out
              have a3 := G7.out
              have a4 := W8.out
              have a5 := Y7.out
              exact ⟨⟨by omega, by omega, by omega⟩, fun e => by injection e with e; omega⟩) Ab m cb l L1.out.symm (by have := (Kd.R_reads' R8.out).2.2; rwa [L1.out] at this) (Kd.R_reads' R8.out).2.1 p P8.out).mono ?_
            rintro e w10 ⟨rfl, hr, hf⟩
            have S9 := Lib.hid (S8.out.fr hf (fun e => NN.out.1 e.symm) (fun e => NN.out.1 e.symm) (fun e => NN.out.2.1 e.symm) (fun e => NN.out.2.1 e.symm) NN.out.2.2 NN.out.2.2)
            have T9 := Lib.hid hr
            have R9 := Lib.hid (Kd.R_step R8.out (fun k hk hl => hf.block k hl (by have := Z6.out; have := hk.2.1; omega) (by have := Z6.out; have := hk.2.1; omega)))
            have LL9 := Lib.hid (Kd.L_step LL8.out (fun k hk hl => hf.block k hl (by have := Z6.out; have := Y6.out; have := hk.2.1; omega) (by have := Z6.out; have := Y6.out; have := hk.2.1; omega)))
            clear hr hf S8 T8 R8 LL8
            generalize q ++ l.take p = q1 at *
            go_wp2_with (fail)
            refine (stays_b Am m cm Ab cb l L1.out.symm (by have := L1.out; omega) _ (Kd.L_reads3 LL9.out).2.2 (Kd.L_room3 LL9.out) (by have := (Kd.R_reads' R9.out).2.2; rwa [L1.out] at this) (Kd.R_reads' R9.out).2.1).mono ?_
            rintro e w11 ⟨rfl, hb⟩
            have S10 := Lib.hid (S9.out.below hb)
            have T10 := Lib.hid (T9.out.below hb)
            obtain ⟨gm', cs, eA', _, hcs, hsz, _⟩ := L_blk (n := m + 3) (c := cm) (Kd.L_below LL9.out hb).2 (by omega)
            rw [EA.out] at eA'
            cases eA'
            have K10 := Lib.hid hcs
            have K11 := Lib.hid hsz
            clear hb S9 T9 R9 LL9 hcs hsz
            have hea := EA.out
            subst hea
            have GM := Lib.hid (And.intro G7.out.1 (And.intro G7.out.2.1 (And.intro G7.out.2.2.1 G7.out.2.2.2.1)))
            clear G7 EA Z6 Y6 Y7 S5' W8 P8
            go_wp2
            go_loopg [14] m (fun g_ v14 wx => ∃ (k : Int) (cs : Array Value), 0 ≤ k ∧ k + (g_ : Int) = (m : Int) ∧ v14 = .int .i64 k ∧ Aside0 (St w g B M q1 wx) ∧ Aside0 (RefW w.heap.size (fun k => (k ≠ g' ∧ k ≠ g ∧ k ≠ B) ∧ some k ≠ some gm) wx g' M q1) ∧ Aside0 (wx.heap[gm]? = some (.cells cs 5 (0, 0))) ∧ Aside0 (m + 3 ≤ cs.size))
            case atStart => exact ⟨0, cs, by omega, by omega, rfl, ⟨S10.out⟩, ⟨T10.out⟩, ⟨K10.out⟩, ⟨K11.out⟩⟩
            case round =>
              obtain ⟨k, cs', hk0, hk, rfl, HS, HT, HC, HZ⟩ := hrel
              cases gk with
              | zero =>
                have hd : decide (k < (m : Int)) = false := decide_eq_false (by omega)
                go_wp2
                go_meet
                exact ⟨_, q1, rfl, ⟨⟨HS.out, HT.out.mono (fun _ hk => hk.1), NN.out.2.2, NN.out.1, NN.out.2.1⟩⟩⟩
              | succ g2 =>
                have hd : decide (k < (m : Int)) = true := decide_eq_true (by omega)
                have p0 : (0 ≤ k) = True := eq_true (by omega)
                have q0 : (k < (m : Int)) = True := eq_true (by omega)
                obtain ⟨old, hcell⟩ : ∃ old, wr.cell? ⟨gm, k.toNat, none⟩ = some old := ⟨_, (blk_cell HC.out k.toNat).trans (Array.getElem?_eq_getElem (by have := HZ.out; omega))⟩
                have hfroz : wr.frozen? ⟨gm, k.toNat, none⟩ = false := blk_frozen HC.out k.toNat
                obtain ⟨h1, h2, h3⟩ := wr_step HS.out HT.out HC.out (fun e => GM.out.1 e.symm) (fun e => GM.out.2.1 e.symm) (fun e => GM.out.2.2.1 e.symm) GM.out.2.2.2 (fun k hk e => hk.2 (by rw [e])) k.toNat (.int .u8 238)
                have H1 := Lib.hid h1
                have H2 := Lib.hid h2
                have H3 := Lib.hid h3
                have HK := Lib.hid hk
                clear h1 h2 h3 hk HS HT
                go_wp2
                have hk := HK.out
                have hkm : k < (m : Int) := of_decide_eq_true hd
                go_roundg g2
                case measure => omega
                case rel => exact ⟨k + 1, _, by omega, by omega, by rw [wrap64_in (by omega) (by omega)], ⟨H1.out⟩, ⟨H2.out⟩, ⟨H3.out⟩, ⟨by rw [Array.size_setIfInBounds]; exact HZ.out⟩⟩
        · obtain ⟨q3, hq3⟩ : ∃ q3, q3 = q.take (u - 2).toNat := ⟨_, rfl⟩
          obtain ⟨kk, hkk⟩ : ∃ kk, kk = (q.take (u - 2).toNat).length := ⟨_, rfl⟩
          have hkk6 : kk ≤ 65536 := by have := S5.out.s.r.le; rw [hkk, List.length_take]; omega
          have HK := Lib.hid hkk
          have HQ3 := Lib.hid hq3
          clear hkk hq3
          go_wp2_with (fail)
          refine (ring_Look2 _ g B M q S5.out.s.r (u - 2) kk HK.out).mono ?_
          rintro e w7 ⟨Ao, co, rfl, hR, hb⟩
          rw [← HQ3.out] at hR
          obtain ⟨gm, hgl, hgm, hg0⟩ := gm_of (g := g) hR S5.out.s.r.lt.1 hb.size
          have S7 := Lib.hid (S5.out.below hb)
          have T7 := Lib.hid ((RefW.bound S5.out.r).below hb |>.mono (fun k hk => And.intro hk.1 (hgm k hk.2 hk.1.2.1)))
          have R7 := Lib.hid hR
          have K7 := Lib.hid (fun h0 => (hg0 h0).2.2)
          have GM := Lib.hid (fun h0 => (show Ao = some ⟨gm, 0, none⟩ ∧ gm ≠ g ∧ gm ≠ B ∧ gm ≠ g' ∧ w.heap.size ≤ gm from by
            have h1 := (hg0 h0).1
            have h2 := (hg0 h0).2.1
            have h3 := S5.out.s.r.lt
            have h4 := S5.out.r.lt
            have h5 := S5.out.s.b.size
            exact ⟨h1, by omega, by omega, by omega, by omega⟩))
          have NN := Lib.hid (And.intro S5.out.n1 (And.intro S5.out.n2 S5.out.g1))
          clear S5 hR hb hg0 hgm hgl
          go_wp2
          refine start_ (n := 7) (S := fun w' => (convert 30 9 (.slice Ao kk co)).run Try.prog w' = .ok (.string (strOfNums q3)) w') (ds := []) #[false, false, false, false, false, false, false] (by kernel_rfl) rfl rfl (Kd.C_string (P := Try.prog) Try.underlying30 Try.underlying5 Try.underlying9 (A := Ao) (c := co) (show Kd.C (Kd.int .u8) w7.drew Ao kk q3 by have := (Kd.R_reads' (Kd.R_drew R7.out)).2.2; rwa [← (Kd.R_reads' R7.out).1] at this)) (fun hHeld => ?_)
          refine pure_ (i := 0) (N := some 92) (v := ?_) (a' := ?_) #[true, false, false, false, false, false, false] rfl rfl (by kernel_rfl) (fun _ _ _ h => h) (Or.inl ⟨by rfl, ?_⟩) ?_ ?_
          rotate_left
          · intro w'
            go_simp
            with_reducible rfl
          rotate_left
          · simp only [Act.put, List.setIfInBounds_toArray, List.set_cons_zero, List.set_cons_succ, i64_w, i32_w]
            rfl
          refine pure_ (i := 2) (N := some 94) (v := ?_) (a' := ?_) #[true, false, true, false, false, false, false] rfl rfl (by kernel_rfl) (fun _ _ _ h => h) (Or.inl ⟨by rfl, ?_⟩) ?_ ?_
          rotate_left
          · intro w'
            go_simp
            with_reducible rfl
          rotate_left
          · simp only [Act.put, List.setIfInBounds_toArray, List.set_cons_zero, List.set_cons_succ, i64_w, i32_w]
            rfl
          refine pure_ (i := 3) (N := some 95) (v := ?_) (a' := ?_) #[true, false, true, true, false, false, false] rfl rfl (by kernel_rfl) (fun _ _ _ h => h) (Or.inl ⟨by rfl, ?_⟩) ?_ ?_
          rotate_left
          · intro w'
            go_simp
            with_reducible rfl
          rotate_left
          · simp only [Act.put, List.setIfInBounds_toArray, List.set_cons_zero, List.set_cons_succ, i64_w, i32_w]
            rfl
          refine take_ (i := 1) (N := some 93) (v := ?_) (a' := ?_) #[true, true, true, true, false, false, false] rfl rfl (by kernel_rfl) (fun _ _ _ h => h) (Or.inl ⟨by rfl, ?_⟩) hHeld ?_ ?_
          rotate_left
          · intro w' s0
            go_simp
            with_reducible rfl
          rotate_left
          · simp only [Act.put, List.setIfInBounds_toArray, List.set_cons_zero, List.set_cons_succ, i64_w, i32_w]
            rfl
          refine one_ (i := 4) (N := some 96) #[true, true, true, true, true, false, false] rfl rfl (by kernel_rfl) (by decide) (fun K hK => ?_)
          refine goes_ Try.func22 (by kernel_rfl) rfl #[.pointer (some ⟨g', 0, none⟩), .int .i64 (u - 2)] (by rfl) rfl rfl (by simp only [List.map_toArray, List.map_cons, List.map_nil]; rfl) ?_
          with_reducible refine (ref_Look _ _ w7.drew g' M q (S7.out.r.below (below_drew (Below.refl _ _))) (u - 2) kk HK.out).mono ?_
          rintro e w8 ⟨A8, c8, rfl, hR8, hb8⟩
          refine ⟨_, rfl, ?_⟩
          rw [← HQ3.out] at hR8
          have S8 := Lib.hid ((S7.out.s.below (below_drew (Below.refl _ _))).below hb8)
          have T8 := Lib.hid ((T7.out.below (below_drew (Below.refl _ _))).below hb8)
          have R8 := Lib.hid (Kd.R_below (Kd.R_drew R7.out) hb8)
          have K8 := Lib.hid (fun h0 => (show ∃ cs, w8.heap[gm]? = some (.cells cs 5 (0, 0)) ∧ kk ≤ cs.size from by obtain ⟨cs, h1, h2⟩ := K7.out h0; exact ⟨cs, blk_below (blk_drew h1) hb8, h2⟩))
          have hcv8 := Kd.C_string (P := Try.prog) Try.underlying30 Try.underlying5 Try.underlying9 (A := A8) (c := c8) (show Kd.C (Kd.int .u8) w8 A8 kk q3 by have := (Kd.R_reads' hR8).2.2; rwa [← (Kd.R_reads' hR8).1] at this)
          clear hR8 hb8
          refine hK.out _ _ (Kd.C_string (P := Try.prog) Try.underlying30 Try.underlying5 Try.underlying9 (A := Ao) (c := co) (show Kd.C (Kd.int .u8) w8 Ao kk q3 by have := (Kd.R_reads' R8.out).2.2; rwa [← (Kd.R_reads' R8.out).1] at this)) (fun hHeld => ?_)
          clear hK K
          refine norm_ (a' := ?_) ?_ ?_
          rotate_left
          · show Act.put _ (some 96) _ = _
            simp only [Act.put, List.setIfInBounds_toArray, List.set_cons_zero, List.set_cons_succ, i64_w, i32_w]
            rfl
          refine one_ (i := 5) (N := some 97) #[true, true, true, true, true, true, false] rfl rfl (by kernel_rfl) (by decide) (fun K hK => ?_)
          refine value_ (w1 := ?_) (v := ?_) (by rfl) rfl ?_ ?_
          rotate_left 2
          · go_simp
            constructor
            · rfl
            · rfl
          refine hK.out _ _ (Kd.C_string (P := Try.prog) Try.underlying30 Try.underlying5 Try.underlying9 (A := Ao) (c := co) (show Kd.C (Kd.int .u8) w8 Ao kk q3 by have := (Kd.R_reads' R8.out).2.2; rwa [← (Kd.R_reads' R8.out).1] at this)) (fun hHeld => ?_)
          clear hK K
          refine norm_ (a' := ?_) ?_ ?_
          rotate_left
          · show Act.put _ (some 97) _ = _
            simp only [Act.put, List.setIfInBounds_toArray, List.set_cons_zero, List.set_cons_succ, i64_w, i32_w]
            rfl
          refine pure_ (i := 6) (N := some 98) (v := ?_) (a' := ?_) #[true, true, true, true, true, true, true] rfl rfl (by kernel_rfl) (fun _ _ _ h => h) (Or.inl ⟨by rfl, ?_⟩) ?_ ?_
          rotate_left
          · intro w'
            go_simp
            with_reducible rfl
          rotate_left
          · simp only [Act.put, List.setIfInBounds_toArray, List.set_cons_zero, List.set_cons_succ, i64_w, i32_w]
            rfl
          refine done_ (by kernel_rfl) ?_

          go_wp2
          go_loopg [16] kk (fun g_ v16 wx => ∃ k : Int, 0 ≤ k ∧ k + (g_ : Int) = (kk : Int) ∧ v16 = .int .i64 k ∧ Aside0 (St w g B M q wx) ∧ Aside0 (RefW w.heap.size (fun k => (k ≠ g' ∧ k ≠ g ∧ k ≠ B) ∧ k ≠ gm) wx g' M q) ∧ Aside0 (0 < kk → ∃ cs, wx.heap[gm]? = some (.cells cs 5 (0, 0)) ∧ kk ≤ cs.size))
          case atStart => exact ⟨0, by omega, by omega, rfl, ⟨S8.out⟩, ⟨T8.out⟩, ⟨K8.out⟩⟩
          case round =>
            obtain ⟨k, hk0, hk, rfl, HS, HT, HC⟩ := hrel
            cases gk with
            | zero =>
              have hd : decide (k < (kk : Int)) = false := decide_eq_false (by omega)
              go_wp2
              go_meet
              exact ⟨_, q, rfl, ⟨⟨HS.out, HT.out.mono (fun _ hk => hk.1), NN.out.2.2, NN.out.1, NN.out.2.1⟩⟩⟩
            | succ g2 =>
              have hd : decide (k < (kk : Int)) = true := decide_eq_true (by omega)
              have p0 : (0 ≤ k) = True := eq_true (by omega)
              have q0 : (k < (kk : Int)) = True := eq_true (by omega)
              obtain ⟨cs', hcs', hsz'⟩ := HC.out (by omega)
              have hG := GM.out (by omega)
              have hA := hG.1
              subst hA
              obtain ⟨old, hcell⟩ : ∃ old, wr.cell? ⟨gm, k.toNat, none⟩ = some old := ⟨_, (blk_cell hcs' k.toNat).trans (Array.getElem?_eq_getElem (by omega))⟩
              have hfroz : wr.frozen? ⟨gm, k.toNat, none⟩ = false := blk_frozen hcs' k.toNat
              obtain ⟨h1, h2, h3⟩ := wr_step HS.out HT.out hcs' (fun e => hG.2.1 e.symm) (fun e => hG.2.2.1 e.symm) (fun e => hG.2.2.2.1 e.symm) hG.2.2.2.2 (fun k hk => hk.2) k.toNat (.int .u8 238)
              have H1 := Lib.hid h1
              have H2 := Lib.hid h2
              have H3 := Lib.hid h3
              have HK := Lib.hid hk
              have HZ := Lib.hid hsz'
              clear h1 h2 h3 hk HS HT HC hcs' hsz' hG
              go_wp2
              have hk := HK.out
              have hkm : k < (kk : Int) := of_decide_eq_true hd
              go_roundg g2
              case measure => omega
              case rel => exact ⟨k + 1, by omega, by omega, by rw [wrap64_in (by omega) (by omega)], ⟨H1.out⟩, ⟨H2.out⟩, ⟨fun _ => ⟨_, H3.out, by rw [Array.size_setIfInBounds]; exact HZ.out⟩⟩⟩
        · obtain ⟨q3, hq3⟩ : ∃ q3, q3 = q.take (u - 2).toNat := ⟨_, rfl⟩
          obtain ⟨q4, hq4⟩ : ∃ q4, q4 = q.drop (u - 2).toNat := ⟨_, rfl⟩
          obtain ⟨kk, hkk⟩ : ∃ kk, kk = (q.take (u - 2).toNat).length := ⟨_, rfl⟩
          have hkk6 : kk ≤ 65536 := by have := S5.out.s.r.le; rw [hkk, List.length_take]; omega
          have HK := Lib.hid hkk
          have HQ3 := Lib.hid hq3
          have HQ4 := Lib.hid hq4
          clear hkk hq3 hq4
          go_wp2_with (fail)
          refine (ring_Take _ g B M q S5.out.s.r (u - 2) kk HK.out).mono ?_
          rintro e w7 ⟨Ao, co, rfl, hR, hr, hf⟩
          rw [← HQ3.out] at hR
          rw [← HQ4.out] at hr
          obtain ⟨gm, hgl, hgm, hg0⟩ := gm_of (g := g) hR S5.out.s.r.lt.1 hf.size
          have S7 := Lib.hid (S5.out.s.next hr hf)
          have T7 := Lib.hid (((RefW.bound S5.out.r).fr hf S5.out.n1 S5.out.n2 (fun k hk => ⟨hk.1.2.1, hk.1.2.2⟩)).mono (fun k hk => And.intro hk.1 (hgm k hk.2 hk.1.2.1)))
          have R7 := Lib.hid hR
          have K7 := Lib.hid (fun h0 => (hg0 h0).2.2)
          have Z6 := Lib.hid S5.out.r.lt
          have Z7 := Lib.hid (show g < w7.heap.size ∧ B < w7.heap.size ∧ g' < w7.heap.size ∧ gm < w7.heap.size from by have h1 := S5.out.r.lt; have h2 := hf.size; have h3 := S7.out.r.lt; omega)
          have GM := Lib.hid (fun h0 => (show Ao = some ⟨gm, 0, none⟩ ∧ gm ≠ g ∧ gm ≠ B ∧ gm ≠ g' ∧ w.heap.size ≤ gm from by
            have h1 := (hg0 h0).1
            have h2 := (hg0 h0).2.1
            have h3 := S5.out.s.r.lt
            have h4 := S5.out.r.lt
            have h5 := S5.out.s.b.size
            exact ⟨h1, by omega, by omega, by omega, by omega⟩))
          have NN := Lib.hid (And.intro S5.out.n1 (And.intro S5.out.n2 S5.out.g1))
          clear S5 hR hr hf hg0 hgm hgl
          go_wp2
          refine start_ (n := 7) (S := fun w' => (convert 30 9 (.slice Ao kk co)).run Try.prog w' = .ok (.string (strOfNums q3)) w') (ds := []) #[false, false, false, false, false, false, false] (by kernel_rfl) rfl rfl (Kd.C_string (P := Try.prog) Try.underlying30 Try.underlying5 Try.underlying9 (A := Ao) (c := co) (show Kd.C (Kd.int .u8) w7.drew Ao kk q3 by have := (Kd.R_reads' (Kd.R_drew R7.out)).2.2; rwa [← (Kd.R_reads' R7.out).1] at this)) (fun hHeld => ?_)
          refine pure_ (i := 0) (N := some 113) (v := ?_) (a' := ?_) #[true, false, false, false, false, false, false] rfl rfl (by kernel_rfl) (fun _ _ _ h => h) (Or.inl ⟨by rfl, ?_⟩) ?_ ?_
          rotate_left
          · intro w'
            go_simp
            with_reducible rfl
          rotate_left
          · simp only [Act.put, List.setIfInBounds_toArray, List.set_cons_zero, List.set_cons_succ, i64_w, i32_w]
            rfl
          refine pure_ (i := 2) (N := some 115) (v := ?_) (a' := ?_) #[true, false, true, false, false, false, false] rfl rfl (by kernel_rfl) (fun _ _ _ h => h) (Or.inl ⟨by rfl, ?_⟩) ?_ ?_
          rotate_left
          · intro w'
            go_simp
            with_reducible rfl
          rotate_left
          · simp only [Act.put, List.setIfInBounds_toArray, List.set_cons_zero, List.set_cons_succ, i64_w, i32_w]
            rfl
          refine pure_ (i := 3) (N := some 116) (v := ?_) (a' := ?_) #[true, false, true, true, false, false, false] rfl rfl (by kernel_rfl) (fun _ _ _ h => h) (Or.inl ⟨by rfl, ?_⟩) ?_ ?_
          rotate_left
          · intro w'
            go_simp
            with_reducible rfl
          rotate_left
          · simp only [Act.put, List.setIfInBounds_toArray, List.set_cons_zero, List.set_cons_succ, i64_w, i32_w]
            rfl
          refine take_ (i := 1) (N := some 114) (v := ?_) (a' := ?_) #[true, true, true, true, false, false, false] rfl rfl (by kernel_rfl) (fun _ _ _ h => h) (Or.inl ⟨by rfl, ?_⟩) hHeld ?_ ?_
          rotate_left
          · intro w' s0
            go_simp
            with_reducible rfl
          rotate_left
          · simp only [Act.put, List.setIfInBounds_toArray, List.set_cons_zero, List.set_cons_succ, i64_w, i32_w]
            rfl
          refine one_ (i := 4) (N := some 117) #[true, true, true, true, true, false, false] rfl rfl (by kernel_rfl) (by decide) (fun K hK => ?_)
          refine goes_ Try.func24 (by kernel_rfl) rfl #[.pointer (some ⟨g', 0, none⟩), .int .i64 (u - 2)] (by rfl) rfl rfl (by simp only [List.map_toArray, List.map_cons, List.map_nil]; rfl) ?_
          with_reducible refine (ref_Take _ _ w7.drew g' M q (T7.out.below (below_drew (Below.refl _ _))) (below_drew S7.out.b).size (fun k hk => hk.1.1) (fun k hk => by have h1 := Z7.out; simp only [World.size_drew] at hk; exact ⟨⟨by omega, by omega, by omega⟩, by omega⟩) (u - 2) kk HK.out).mono ?_
          rintro e w8 ⟨A8, c8, rfl, hR8, hr8, hf8⟩
          refine ⟨_, rfl, ?_⟩
          rw [← HQ3.out] at hR8
          rw [← HQ4.out] at hr8
          have S8 := Lib.hid ((S7.out.below (below_drew (Below.refl _ _))).fr hf8 (fun e => NN.out.1 e.symm) (fun e => NN.out.1 e.symm) (fun e => NN.out.2.1 e.symm) (fun e => NN.out.2.1 e.symm) NN.out.2.2 NN.out.2.2)
          have T8 := Lib.hid hr8
          have R8 := Lib.hid (Kd.R_step (Kd.R_bound (Kd.R_drew R7.out)) (fun k hk hl => hf8.block k hl (by have := Z6.out; have := hk.2.1; omega) (by have := Z6.out; have := hk.2.1; omega)))
          have K8 := Lib.hid (fun h0 => (show ∃ cs, w8.heap[gm]? = some (.cells cs 5 (0, 0)) ∧ kk ≤ cs.size from by obtain ⟨cs, h1, h2⟩ := K7.out h0; exact ⟨cs, (hf8.block gm (blk_lt h1) (GM.out h0).2.2.2.1 (GM.out h0).2.2.2.1).trans h1, h2⟩))
          have hcv8 := Kd.C_string (P := Try.prog) Try.underlying30 Try.underlying5 Try.underlying9 (A := A8) (c := c8) (show Kd.C (Kd.int .u8) w8 A8 kk q3 by have := (Kd.R_reads' hR8).2.2; rwa [← (Kd.R_reads' hR8).1] at this)
          clear hR8 hr8 hf8
          refine hK.out _ _ (Kd.C_string (P := Try.prog) Try.underlying30 Try.underlying5 Try.underlying9 (A := Ao) (c := co) (show Kd.C (Kd.int .u8) w8 Ao kk q3 by have := (Kd.R_reads' R8.out).2.2; rwa [← (Kd.R_reads' R8.out).1] at this)) (fun hHeld => ?_)
          clear hK K
          refine norm_ (a' := ?_) ?_ ?_
          rotate_left
          · show Act.put _ (some 117) _ = _
            simp only [Act.put, List.setIfInBounds_toArray, List.set_cons_zero, List.set_cons_succ, i64_w, i32_w]
            rfl
          refine one_ (i := 5) (N := some 118) #[true, true, true, true, true, true, false] rfl rfl (by kernel_rfl) (by decide) (fun K hK => ?_)
          refine value_ (w1 := ?_) (v := ?_) (by rfl) rfl ?_ ?_
          rotate_left 2
          · go_simp
            constructor
            · rfl
            · rfl
          refine hK.out _ _ (Kd.C_string (P := Try.prog) Try.underlying30 Try.underlying5 Try.underlying9 (A := Ao) (c := co) (show Kd.C (Kd.int .u8) w8 Ao kk q3 by have := (Kd.R_reads' R8.out).2.2; rwa [← (Kd.R_reads' R8.out).1] at this)) (fun hHeld => ?_)
          clear hK K
          refine norm_ (a' := ?_) ?_ ?_
          rotate_left
          · show Act.put _ (some 118) _ = _
            simp only [Act.put, List.setIfInBounds_toArray, List.set_cons_zero, List.set_cons_succ, i64_w, i32_w]
            rfl
          refine pure_ (i := 6) (N := some 119) (v := ?_) (a' := ?_) #[true, true, true, true, true, true, true] rfl rfl (by kernel_rfl) (fun _ _ _ h => h) (Or.inl ⟨by rfl, ?_⟩) ?_ ?_
          rotate_left
          · intro w'
            go_simp
            with_reducible rfl
          rotate_left
          · simp only [Act.put, List.setIfInBounds_toArray, List.set_cons_zero, List.set_cons_succ, i64_w, i32_w]
            rfl
          refine done_ (by kernel_rfl) ?_

          go_wp2
          go_loopg [18] kk (fun g_ v18 wx => ∃ k : Int, 0 ≤ k ∧ k + (g_ : Int) = (kk : Int) ∧ v18 = .int .i64 k ∧ Aside0 (St w g B M q4 wx) ∧ Aside0 (RefW w.heap.size (fun k => (k ≠ g' ∧ k ≠ g ∧ k ≠ B) ∧ k ≠ gm) wx g' M q4) ∧ Aside0 (0 < kk → ∃ cs, wx.heap[gm]? = some (.cells cs 5 (0, 0)) ∧ kk ≤ cs.size))
          case atStart => exact ⟨0, by omega, by omega, rfl, ⟨S8.out⟩, ⟨T8.out⟩, ⟨K8.out⟩⟩
          case round =>
            obtain ⟨k, hk0, hk, rfl, HS, HT, HC⟩ := hrel
            cases gk with
            | zero =>
              have hd : decide (k < (kk : Int)) = false := decide_eq_false (by omega)
              go_wp2
              go_meet
              exact ⟨_, q4, rfl, ⟨⟨HS.out, HT.out.mono (fun _ hk => hk.1), NN.out.2.2, NN.out.1, NN.out.2.1⟩⟩⟩
            | succ g2 =>
              have hd : decide (k < (kk : Int)) = true := decide_eq_true (by omega)
              have p0 : (0 ≤ k) = True := eq_true (by omega)
              have q0 : (k < (kk : Int)) = True := eq_true (by omega)
              obtain ⟨cs', hcs', hsz'⟩ := HC.out (by omega)
              have hG := GM.out (by omega)
              have hA := hG.1
              subst hA
              obtain ⟨old, hcell⟩ : ∃ old, wr.cell? ⟨gm, k.toNat, none⟩ = some old := ⟨_, (blk_cell hcs' k.toNat).trans (Array.getElem?_eq_getElem (by omega))⟩
              have hfroz : wr.frozen? ⟨gm, k.toNat, none⟩ = false := blk_frozen hcs' k.toNat
              obtain ⟨h1, h2, h3⟩ := wr_step HS.out HT.out hcs' (fun e => hG.2.1 e.symm) (fun e => hG.2.2.1 e.symm) (fun e => hG.2.2.2.1 e.symm) hG.2.2.2.2 (fun k hk => hk.2) k.toNat (.int .u8 238)
              have H1 := Lib.hid h1
              have H2 := Lib.hid h2
              have H3 := Lib.hid h3
              have HK := Lib.hid hk
              have HZ := Lib.hid hsz'
              clear h1 h2 h3 hk HS HT HC hcs' hsz' hG
              go_wp2
              have hk := HK.out
              have hkm : k < (kk : Int) := of_decide_eq_true hd
              go_roundg g2
              case measure => omega
              case rel => exact ⟨k + 1, by omega, by omega, by rw [wrap64_in (by omega) (by omega)], ⟨H1.out⟩, ⟨H2.out⟩, ⟨fun _ => ⟨_, H3.out, by rw [Array.size_setIfInBounds]; exact HZ.out⟩⟩⟩
      case rest =>
        obtain ⟨a', q', rfl, HS⟩ := hcut
        obtain ⟨A, c, hg, hR, hq, _⟩ := HS.out.r.ex
        have HQL := Lib.hid (show q'.length = (q'.take (q'.length : Int).toNat).length by rw [Int.toNat_natCast, List.take_length])
        have HQT := Lib.hid (show q'.take (q'.length : Int).toNat = q' by rw [Int.toNat_natCast, List.take_length])
        have hrm : wrap64 ((M : Int) - (q'.length : Int)) = (M : Int) - q'.length := wrap64_in (by omega) (by omega)
        have HJK := Lib.hid (And.intro (HJ.out) (of_decide_eq_true hd))
        have HS1 := Lib.hid (HS.out.below (below_drew (Below.refl _ _)))
        have HG1 := Lib.hid (blk_drew hg)
        have HR1 := Lib.hid (Kd.R_drew hR)
        clear hg hR HS hq
        go_wp2
        refine start_ (n := 36) (S := fun w' => w'.cell? ⟨g', 0, none⟩ = some (.int .i64 (M : Int)) ∧ w'.cell? ⟨g', 1, none⟩ = some (.slice A q'.length c) ∧ (convert 30 9 (.slice A q'.length c)).run Try.prog w' = .ok (.string (strOfNums q')) w') (ds := []) #[false, false, false, false, false, false, false, false, false, false, false, false, false, false, false, false, false, false, false, false, false, false, false, false, false, false, false, false, false, false, false, false, false, false, false, false] (by kernel_rfl) rfl rfl ⟨(blk_cell HG1.out 0).trans rfl, (blk_cell HG1.out 1).trans rfl, Kd.C_string (P := Try.prog) Try.underlying30 Try.underlying5 Try.underlying9 (A := A) (c := c) (Kd.R_reads' HR1.out).2.2⟩ (fun hHeld => ?_)
        refine pure_ (i := 0) (N := some 129) (v := ?_) (a' := ?_) #[true, false, false, false, false, false, false, false, false, false, false, false, false, false, false, false, false, false, false, false, false, false, false, false, false, false, false, false, false, false, false, false, false, false, false, false] rfl rfl (by kernel_rfl) (fun _ _ _ h => h) (Or.inl ⟨by rfl, ?_⟩) ?_ ?_
        rotate_left
        · intro w'
          go_simp
          with_reducible rfl
        rotate_left
        · simp only [Act.put, List.setIfInBounds_toArray, List.set_cons_zero, List.set_cons_succ, i64_w, i32_w]
          rfl
        refine pure_ (i := 2) (N := some 131) (v := ?_) (a' := ?_) #[true, false, true, false, false, false, false, false, false, false, false, false, false, false, false, false, false, false, false, false, false, false, false, false, false, false, false, false, false, false, false, false, false, false, false, false] rfl rfl (by kernel_rfl) (fun _ _ _ h => h) (Or.inl ⟨by rfl, ?_⟩) ?_ ?_
        rotate_left
        · intro w'
          go_simp
          with_reducible rfl
        rotate_left
        · simp only [Act.put, List.setIfInBounds_toArray, List.set_cons_zero, List.set_cons_succ, i64_w, i32_w]
          rfl
        refine pure_ (i := 3) (N := some 132) (v := ?_) (a' := ?_) #[true, false, true, true, false, false, false, false, false, false, false, false, false, false, false, false, false, false, false, false, false, false, false, false, false, false, false, false, false, false, false, false, false, false, false, false] rfl rfl (by kernel_rfl) (fun _ _ _ h => h) (Or.inl ⟨by rfl, ?_⟩) ?_ ?_
        rotate_left
        · intro w'
          go_simp
          with_reducible rfl
        rotate_left
        · simp only [Act.put, List.setIfInBounds_toArray, List.set_cons_zero, List.set_cons_succ, i64_w, i32_w]
          rfl
        refine pure_ (i := 4) (N := some 133) (v := ?_) (a' := ?_) #[true, false, true, true, true, false, false, false, false, false, false, false, false, false, false, false, false, false, false, false, false, false, false, false, false, false, false, false, false, false, false, false, false, false, false, false] rfl rfl (by kernel_rfl) (fun _ _ _ h => h) (Or.inl ⟨by rfl, ?_⟩) ?_ ?_
        rotate_left
        · intro w'
          go_simp
          with_reducible rfl
        rotate_left
        · simp only [Act.put, List.setIfInBounds_toArray, List.set_cons_zero, List.set_cons_succ, i64_w, i32_w]
          rfl
        refine take_ (i := 5) (N := some 134) (v := ?_) (a' := ?_) #[true, false, true, true, true, true, false, false, false, false, false, false, false, false, false, false, false, false, false, false, false, false, false, false, false, false, false, false, false, false, false, false, false, false, false, false] rfl rfl (by kernel_rfl) (fun _ _ _ h => h) (Or.inl ⟨by rfl, ?_⟩) hHeld ?_ ?_
        rotate_left
        · rintro w' ⟨s0, s1, s2⟩
          go_simp
          with_reducible rfl
        rotate_left
        · simp only [Act.put, List.setIfInBounds_toArray, List.set_cons_zero, List.set_cons_succ, i64_w, i32_w]
          rfl
        refine pure_ (i := 6) (N := some 135) (v := ?_) (a' := ?_) #[true, false, true, true, true, true, true, false, false, false, false, false, false, false, false, false, false, false, false, false, false, false, false, false, false, false, false, false, false, false, false, false, false, false, false, false] rfl rfl (by kernel_rfl) (fun _ _ _ h => h) (Or.inl ⟨by rfl, ?_⟩) ?_ ?_
        rotate_left
        · intro w'
          go_simp
          with_reducible rfl
        rotate_left
        · simp only [Act.put, List.setIfInBounds_toArray, List.set_cons_zero, List.set_cons_succ, i64_w, i32_w]
          rfl
        refine one_ (i := 1) (N := some 130) #[true, true, true, true, true, true, true, false, false, false, false, false, false, false, false, false, false, false, false, false, false, false, false, false, false, false, false, false, false, false, false, false, false, false, false, false] rfl rfl (by kernel_rfl) (by decide) (fun K hK => ?_)
        refine goes_ Try.func25 (by kernel_rfl) rfl #[.pointer (some ⟨g, 0, none⟩)] (by rfl) rfl rfl (by simp only [List.map_toArray, List.map_cons, List.map_nil]; rfl) ?_
        with_reducible refine (len_b _ g B M q' HS1.out.s.r).mono ?_
        rintro e w21 ⟨rfl, hb⟩
        refine ⟨_, rfl, ?_⟩
        have HS2 := Lib.hid (HS1.out.below hb)
        have HG2 := Lib.hid (blk_below HG1.out hb)
        have HR2 := Lib.hid (Kd.R_below HR1.out hb)
        clear hb
        refine hK.out _ _ ⟨(blk_cell HG2.out 0).trans rfl, (blk_cell HG2.out 1).trans rfl, Kd.C_string (P := Try.prog) Try.underlying30 Try.underlying5 Try.underlying9 (A := A) (c := c) (Kd.R_reads' HR2.out).2.2⟩ (fun hHeld => ?_)
        clear hK K
        refine norm_ (a' := ?_) ?_ ?_
        rotate_left
        · show Act.put _ (some 130) _ = _
          simp only [Act.put, List.setIfInBounds_toArray, List.set_cons_zero, List.set_cons_succ, i64_w, i32_w]
          rfl
        refine pure_ (i := 7) (N := some 136) (v := ?_) (a' := ?_) #[true, true, true, true, true, true, true, true, false, false, false, false, false, false, false, false, false, false, false, false, false, false, false, false, false, false, false, false, false, false, false, false, false, false, false, false] rfl rfl (by kernel_rfl) (fun _ _ _ h => h) (Or.inl ⟨by rfl, ?_⟩) ?_ ?_
        rotate_left
        · intro w'
          go_simp
          with_reducible rfl
        rotate_left
        · simp only [Act.put, List.setIfInBounds_toArray, List.set_cons_zero, List.set_cons_succ, i64_w, i32_w]
          rfl
        refine pure_ (i := 8) (N := some 137) (v := ?_) (a' := ?_) #[true, true, true, true, true, true, true, true, true, false, false, false, false, false, false, false, false, false, false, false, false, false, false, false, false, false, false, false, false, false, false, false, false, false, false, false] rfl rfl (by kernel_rfl) (fun _ _ _ h => h) (Or.inl ⟨by rfl, ?_⟩) ?_ ?_
        rotate_left
        · intro w'
          go_simp
          with_reducible rfl
        rotate_left
        · simp only [Act.put, List.setIfInBounds_toArray, List.set_cons_zero, List.set_cons_succ, i64_w, i32_w]
          rfl
        refine pure_ (i := 9) (N := some 138) (v := ?_) (a' := ?_) #[true, true, true, true, true, true, true, true, true, true, false, false, false, false, false, false, false, false, false, false, false, false, false, false, false, false, false, false, false, false, false, false, false, false, false, false] rfl rfl (by kernel_rfl) (fun _ _ _ h => h) (Or.inl ⟨by rfl, ?_⟩) ?_ ?_
        rotate_left
        · intro w'
          go_simp
          with_reducible rfl
        rotate_left
        · simp only [Act.put, List.setIfInBounds_toArray, List.set_cons_zero, List.set_cons_succ, i64_w, i32_w]
          rfl
        refine pure_ (i := 11) (N := some 140) (v := ?_) (a' := ?_) #[true, true, true, true, true, true, true, true, true, true, false, true, false, false, false, false, false, false, false, false, false, false, false, false, false, false, false, false, false, false, false, false, false, false, false, false] rfl rfl (by kernel_rfl) (fun _ _ _ h => h) (Or.inl ⟨by rfl, ?_⟩) ?_ ?_
        rotate_left
        · intro w'
          go_simp
          with_reducible rfl
        rotate_left
        · simp only [Act.put, List.setIfInBounds_toArray, List.set_cons_zero, List.set_cons_succ, i64_w, i32_w]
          rfl
        refine pure_ (i := 12) (N := some 141) (v := ?_) (a' := ?_) #[true, true, true, true, true, true, true, true, true, true, false, true, true, false, false, false, false, false, false, false, false, false, false, false, false, false, false, false, false, false, false, false, false, false, false, false] rfl rfl (by kernel_rfl) (fun _ _ _ h => h) (Or.inl ⟨by rfl, ?_⟩) ?_ ?_
        rotate_left
        · intro w'
          go_simp
          with_reducible rfl
        rotate_left
        · simp only [Act.put, List.setIfInBounds_toArray, List.set_cons_zero, List.set_cons_succ, i64_w, i32_w]
          rfl
        refine pure_ (i := 13) (N := some 142) (v := ?_) (a' := ?_) #[true, true, true, true, true, true, true, true, true, true, false, true, true, true, false, false, false, false, false, false, false, false, false, false, false, false, false, false, false, false, false, false, false, false, false, false] rfl rfl (by kernel_rfl) (fun _ _ _ h => h) (Or.inl ⟨by rfl, ?_⟩) ?_ ?_
        rotate_left
        · intro w'
          go_simp
          with_reducible rfl
        rotate_left
        · simp only [Act.put, List.setIfInBounds_toArray, List.set_cons_zero, List.set_cons_succ, i64_w, i32_w]
          rfl
        refine pure_ (i := 15) (N := some 144) (v := ?_) (a' := ?_) #[true, true, true, true, true, true, true, true, true, true, false, true, true, true, false, true, false, false, false, false, false, false, false, false, false, false, false, false, false, false, false, false, false, false, false, false] rfl rfl (by kernel_rfl) (fun _ _ _ h => h) (Or.inl ⟨by rfl, ?_⟩) ?_ ?_
        rotate_left
        · intro w'
          go_simp
          with_reducible rfl
        rotate_left
        · simp only [Act.put, List.setIfInBounds_toArray, List.set_cons_zero, List.set_cons_succ, i64_w, i32_w]
          rfl
        refine pure_ (i := 16) (N := some 145) (v := ?_) (a' := ?_) #[true, true, true, true, true, true, true, true, true, true, false, true, true, true, false, true, true, false, false, false, false, false, false, false, false, false, false, false, false, false, false, false, false, false, false, false] rfl rfl (by kernel_rfl) (fun _ _ _ h => h) (Or.inl ⟨by rfl, ?_⟩) ?_ ?_
        rotate_left
        · intro w'
          go_simp
          with_reducible rfl
        rotate_left
        · simp only [Act.put, List.setIfInBounds_toArray, List.set_cons_zero, List.set_cons_succ, i64_w, i32_w]
          rfl
        refine pure_ (i := 17) (N := some 146) (v := ?_) (a' := ?_) #[true, true, true, true, true, true, true, true, true, true, false, true, true, true, false, true, true, true, false, false, false, false, false, false, false, false, false, false, false, false, false, false, false, false, false, false] rfl rfl (by kernel_rfl) (fun _ _ _ h => h) (Or.inl ⟨by rfl, ?_⟩) ?_ ?_
        rotate_left
        · intro w'
          go_simp
          with_reducible rfl
        rotate_left
        · simp only [Act.put, List.setIfInBounds_toArray, List.set_cons_zero, List.set_cons_succ, i64_w, i32_w]
          rfl
        refine take_ (i := 14) (N := some 143) (v := ?_) (a' := ?_) #[true, true, true, true, true, true, true, true, true, true, false, true, true, true, true, true, true, true, false, false, false, false, false, false, false, false, false, false, false, false, false, false, false, false, false, false] rfl rfl (by kernel_rfl) (fun _ _ _ h => h) (Or.inl ⟨by rfl, ?_⟩) hHeld ?_ ?_
        rotate_left
        · rintro w' ⟨s0, s1, s2⟩
          go_simp
          with_reducible rfl
        rotate_left
        · simp only [Act.put, List.setIfInBounds_toArray, List.set_cons_zero, List.set_cons_succ, i64_w, i32_w]
          rfl
        refine take_ (i := 18) (N := some 147) (v := ?_) (a' := ?_) #[true, true, true, true, true, true, true, true, true, true, false, true, true, true, true, true, true, true, true, false, false, false, false, false, false, false, false, false, false, false, false, false, false, false, false, false] rfl rfl (by kernel_rfl) (fun _ _ _ h => h) (Or.inl ⟨by rfl, ?_⟩) hHeld ?_ ?_
        rotate_left
        · rintro w' ⟨s0, s1, s2⟩
          go_simp
          with_reducible rfl
        rotate_left
        · simp only [Act.put, List.setIfInBounds_toArray, List.set_cons_zero, List.set_cons_succ, i64_w, i32_w]
          rfl
        refine pure_ (i := 19) (N := some 148) (v := ?_) (a' := ?_) #[true, true, true, true, true, true, true, true, true, true, false, true, true, true, true, true, true, true, true, true, false, false, false, false, false, false, false, false, false, false, false, false, false, false, false, false] rfl rfl (by kernel_rfl) (fun _ _ _ h => h) (Or.inl ⟨by rfl, ?_⟩) ?_ ?_
        rotate_left
        · intro w'
          go_simp
          with_reducible rfl
        rotate_left
        · simp only [Act.put, List.setIfInBounds_toArray, List.set_cons_zero, List.set_cons_succ, i64_w, i32_w]
          rfl
        refine pure_ (i := 20) (N := some 149) (v := ?_) (a' := ?_) #[true, true, true, true, true, true, true, true, true, true, false, true, true, true, true, true, true, true, true, true, true, false, false, false, false, false, false, false, false, false, false, false, false, false, false, false] rfl rfl (by kernel_rfl) (fun _ _ _ h => h) (Or.inl ⟨by rfl, ?_⟩) ?_ ?_
        rotate_left
        · intro w'
          go_simp
          with_reducible rfl
        rotate_left
        · simp only [Act.put, List.setIfInBounds_toArray, List.set_cons_zero, List.set_cons_succ, i64_w, i32_w]
          rfl
        refine one_ (i := 10) (N := some 139) #[true, true, true, true, true, true, true, true, true, true, true, true, true, true, true, true, true, true, true, true, true, false, false, false, false, false, false, false, false, false, false, false, false, false, false, false] rfl rfl (by kernel_rfl) (by decide) (fun K hK => ?_)
        refine goes_ Try.func26 (by kernel_rfl) rfl #[.pointer (some ⟨g, 0, none⟩)] (by rfl) rfl rfl (by simp only [List.map_toArray, List.map_cons, List.map_nil]; rfl) ?_
        with_reducible refine (room_b _ g B M q' HS2.out.s.r).mono ?_
        rintro e w22 ⟨rfl, hb⟩
        refine ⟨_, rfl, ?_⟩
        have HS3 := Lib.hid (HS2.out.below hb)
        have HG3 := Lib.hid (blk_below HG2.out hb)
        have HR3 := Lib.hid (Kd.R_below HR2.out hb)
        clear hb
        refine hK.out _ _ ⟨(blk_cell HG3.out 0).trans rfl, (blk_cell HG3.out 1).trans rfl, Kd.C_string (P := Try.prog) Try.underlying30 Try.underlying5 Try.underlying9 (A := A) (c := c) (Kd.R_reads' HR3.out).2.2⟩ (fun hHeld => ?_)
        clear hK K
        refine norm_ (a' := ?_) ?_ ?_
        rotate_left
        · show Act.put _ (some 139) _ = _
          simp only [Act.put, List.setIfInBounds_toArray, List.set_cons_zero, List.set_cons_succ, i64_w, i32_w]
          rfl
        refine pure_ (i := 21) (N := some 150) (v := ?_) (a' := ?_) #[true, true, true, true, true, true, true, true, true, true, true, true, true, true, true, true, true, true, true, true, true, true, false, false, false, false, false, false, false, false, false, false, false, false, false, false] rfl rfl (by kernel_rfl) (fun _ _ _ h => h) (Or.inl ⟨by rfl, ?_⟩) ?_ ?_
        rotate_left
        · intro w'
          go_simp
          with_reducible rfl
        rotate_left
        · simp only [Act.put, List.setIfInBounds_toArray, List.set_cons_zero, List.set_cons_succ, i64_w, i32_w]
          rfl
        refine pure_ (i := 22) (N := some 151) (v := ?_) (a' := ?_) #[true, true, true, true, true, true, true, true, true, true, true, true, true, true, true, true, true, true, true, true, true, true, true, false, false, false, false, false, false, false, false, false, false, false, false, false] rfl rfl (by kernel_rfl) (fun _ _ _ h => h) (Or.inl ⟨by rfl, ?_⟩) ?_ ?_
        rotate_left
        · intro w'
          go_simp
          with_reducible rfl
        rotate_left
        · simp only [Act.put, List.setIfInBounds_toArray, List.set_cons_zero, List.set_cons_succ, i64_w, i32_w]
          rfl
        refine pure_ (i := 23) (N := some 152) (v := ?_) (a' := ?_) #[true, true, true, true, true, true, true, true, true, true, true, true, true, true, true, true, true, true, true, true, true, true, true, true, false, false, false, false, false, false, false, false, false, false, false, false] rfl rfl (by kernel_rfl) (fun _ _ _ h => h) (Or.inl ⟨by rfl, ?_⟩) ?_ ?_
        rotate_left
        · intro w'
          go_simp
          with_reducible rfl
        rotate_left
        · simp only [Act.put, List.setIfInBounds_toArray, List.set_cons_zero, List.set_cons_succ, i64_w, i32_w]
          rfl
        refine pure_ (i := 24) (N := some 153) (v := ?_) (a' := ?_) #[true, true, true, true, true, true, true, true, true, true, true, true, true, true, true, true, true, true, true, true, true, true, true, true, true, false, false, false, false, false, false, false, false, false, false, false] rfl rfl (by kernel_rfl) (fun _ _ _ h => h) (Or.inl ⟨by rfl, ?_⟩) ?_ ?_
        rotate_left
        · intro w'
          go_simp
          with_reducible rfl
        rotate_left
        · simp only [Act.put, List.setIfInBounds_toArray, List.set_cons_zero, List.set_cons_succ, i64_w, i32_w]
          rfl
        refine pure_ (i := 25) (N := some 154) (v := ?_) (a' := ?_) #[true, true, true, true, true, true, true, true, true, true, true, true, true, true, true, true, true, true, true, true, true, true, true, true, true, true, false, false, false, false, false, false, false, false, false, false] rfl rfl (by kernel_rfl) (fun _ _ _ h => h) (Or.inl ⟨by rfl, ?_⟩) ?_ ?_
        rotate_left
        · intro w'
          go_simp
          with_reducible rfl
        rotate_left
        · simp only [Act.put, List.setIfInBounds_toArray, List.set_cons_zero, List.set_cons_succ, i64_w, i32_w]
          rfl
        refine pure_ (i := 29) (N := some 158) (v := ?_) (a' := ?_) #[true, true, true, true, true, true, true, true, true, true, true, true, true, true, true, true, true, true, true, true, true, true, true, true, true, true, false, false, false, true, false, false, false, false, false, false] rfl rfl (by kernel_rfl) (fun _ _ _ h => h) (Or.inl ⟨by rfl, ?_⟩) ?_ ?_
        rotate_left
        · intro w'
          go_simp
          with_reducible rfl
        rotate_left
        · simp only [Act.put, List.setIfInBounds_toArray, List.set_cons_zero, List.set_cons_succ, i64_w, i32_w]
          rfl
        refine pure_ (i := 30) (N := some 159) (v := ?_) (a' := ?_) #[true, true, true, true, true, true, true, true, true, true, true, true, true, true, true, true, true, true, true, true, true, true, true, true, true, true, false, false, false, true, true, false, false, false, false, false] rfl rfl (by kernel_rfl) (fun _ _ _ h => h) (Or.inl ⟨by rfl, ?_⟩) ?_ ?_
        rotate_left
        · intro w'
          go_simp
          with_reducible rfl
        rotate_left
        · simp only [Act.put, List.setIfInBounds_toArray, List.set_cons_zero, List.set_cons_succ, i64_w, i32_w]
          rfl
        refine pure_ (i := 31) (N := some 160) (v := ?_) (a' := ?_) #[true, true, true, true, true, true, true, true, true, true, true, true, true, true, true, true, true, true, true, true, true, true, true, true, true, true, false, false, false, true, true, true, false, false, false, false] rfl rfl (by kernel_rfl) (fun _ _ _ h => h) (Or.inl ⟨by rfl, ?_⟩) ?_ ?_
        rotate_left
        · intro w'
          go_simp
          with_reducible rfl
        rotate_left
        · simp only [Act.put, List.setIfInBounds_toArray, List.set_cons_zero, List.set_cons_succ, i64_w, i32_w]
          rfl
        refine take_ (i := 32) (N := some 161) (v := ?_) (a' := ?_) #[true, true, true, true, true, true, true, true, true, true, true, true, true, true, true, true, true, true, true, true, true, true, true, true, true, true, false, false, false, true, true, true, true, false, false, false] rfl rfl (by kernel_rfl) (fun _ _ _ h => h) (Or.inl ⟨by rfl, ?_⟩) hHeld ?_ ?_
        rotate_left
        · rintro w' ⟨s0, s1, s2⟩
          go_simp
          with_reducible rfl
        rotate_left
        · simp only [Act.put, List.setIfInBounds_toArray, List.set_cons_zero, List.set_cons_succ, i64_w, i32_w]
          rfl
        refine take_ (i := 33) (N := some 162) (v := ?_) (a' := ?_) #[true, true, true, true, true, true, true, true, true, true, true, true, true, true, true, true, true, true, true, true, true, true, true, true, true, true, false, false, false, true, true, true, true, true, false, false] rfl rfl (by kernel_rfl) (fun _ _ _ h => h) (Or.inl ⟨by rfl, ?_⟩) hHeld ?_ ?_
        rotate_left
        · rintro w' ⟨s0, s1, s2⟩
          go_simp
          with_reducible rfl
        rotate_left
        · simp only [Act.put, List.setIfInBounds_toArray, List.set_cons_zero, List.set_cons_succ, i64_w, i32_w]
          rfl
        refine one_ (i := 26) (N := some 155) #[true, true, true, true, true, true, true, true, true, true, true, true, true, true, true, true, true, true, true, true, true, true, true, true, true, true, true, false, false, true, true, true, true, true, false, false] rfl rfl (by kernel_rfl) (by decide) (fun K hK => ?_)
        refine goes_ Try.func25 (by kernel_rfl) rfl #[.pointer (some ⟨g, 0, none⟩)] (by rfl) rfl rfl (by simp only [List.map_toArray, List.map_cons, List.map_nil]; rfl) ?_
        with_reducible refine (len_b _ g B M q' HS3.out.s.r).mono ?_
        rintro e w23 ⟨rfl, hb⟩
        refine ⟨_, rfl, ?_⟩
        have HS4 := Lib.hid (HS3.out.below hb)
        have HG4 := Lib.hid (blk_below HG3.out hb)
        have HR4 := Lib.hid (Kd.R_below HR3.out hb)
        clear hb
        refine hK.out _ _ ⟨(blk_cell HG4.out 0).trans rfl, (blk_cell HG4.out 1).trans rfl, Kd.C_string (P := Try.prog) Try.underlying30 Try.underlying5 Try.underlying9 (A := A) (c := c) (Kd.R_reads' HR4.out).2.2⟩ (fun hHeld => ?_)
        clear hK K
        refine norm_ (a' := ?_) ?_ ?_
        rotate_left
        · show Act.put _ (some 155) _ = _
          simp only [Act.put, List.setIfInBounds_toArray, List.set_cons_zero, List.set_cons_succ, i64_w, i32_w]
          rfl
        refine one_ (i := 27) (N := some 156) #[true, true, true, true, true, true, true, true, true, true, true, true, true, true, true, true, true, true, true, true, true, true, true, true, true, true, true, true, false, true, true, true, true, true, false, false] rfl rfl (by kernel_rfl) (by decide) (fun K hK => ?_)
        refine goes_ Try.func21 (by kernel_rfl) rfl #[.pointer (some ⟨g, 0, none⟩), .int .i64 (q'.length : Int)] (by rfl) rfl rfl (by simp only [List.map_toArray, List.map_cons, List.map_nil]; rfl) ?_
        with_reducible refine (ring_Look2 _ g B M q' HS4.out.s.r (q'.length : Int) q'.length HQL.out).mono ?_
        rintro e w24 ⟨A9, c9, rfl, hR9, hb⟩
        refine ⟨_, rfl, ?_⟩
        have HS5 := Lib.hid (HS4.out.below hb)
        have HG5 := Lib.hid (blk_below HG4.out hb)
        have HR5 := Lib.hid (Kd.R_below HR4.out hb)
        clear hb
        rw [HQT.out] at hR9
        have hcv9 := Kd.C_string (P := Try.prog) Try.underlying30 Try.underlying5 Try.underlying9 (A := A9) (c := c9) (Kd.R_reads' hR9).2.2
        clear hR9
        refine hK.out _ _ ⟨(blk_cell HG5.out 0).trans rfl, (blk_cell HG5.out 1).trans rfl, Kd.C_string (P := Try.prog) Try.underlying30 Try.underlying5 Try.underlying9 (A := A) (c := c) (Kd.R_reads' HR5.out).2.2⟩ (fun hHeld => ?_)
        clear hK K
        refine norm_ (a' := ?_) ?_ ?_
        rotate_left
        · show Act.put _ (some 156) _ = _
          simp only [Act.put, List.setIfInBounds_toArray, List.set_cons_zero, List.set_cons_succ, i64_w, i32_w]
          rfl
        refine one_ (i := 28) (N := some 157) #[true, true, true, true, true, true, true, true, true, true, true, true, true, true, true, true, true, true, true, true, true, true, true, true, true, true, true, true, true, true, true, true, true, true, false, false] rfl rfl (by kernel_rfl) (by decide) (fun K hK => ?_)
        refine value_ (w1 := ?_) (v := ?_) (by rfl) rfl ?_ ?_
        rotate_left 2
        · go_simp
          constructor
          · rfl
          · rfl
        refine hK.out _ _ ⟨(blk_cell HG5.out 0).trans rfl, (blk_cell HG5.out 1).trans rfl, Kd.C_string (P := Try.prog) Try.underlying30 Try.underlying5 Try.underlying9 (A := A) (c := c) (Kd.R_reads' HR5.out).2.2⟩ (fun hHeld => ?_)
        clear hK K
        refine norm_ (a' := ?_) ?_ ?_
        rotate_left
        · show Act.put _ (some 157) _ = _
          simp only [Act.put, List.setIfInBounds_toArray, List.set_cons_zero, List.set_cons_succ, i64_w, i32_w]
          rfl
        refine pure_ (i := 34) (N := some 163) (v := ?_) (a' := ?_) #[true, true, true, true, true, true, true, true, true, true, true, true, true, true, true, true, true, true, true, true, true, true, true, true, true, true, true, true, true, true, true, true, true, true, true, false] rfl rfl (by kernel_rfl) (fun _ _ _ h => h) (Or.inl ⟨by rfl, ?_⟩) ?_ ?_
        rotate_left
        · intro w'
          go_simp
          with_reducible rfl
        rotate_left
        · simp only [Act.put, List.setIfInBounds_toArray, List.set_cons_zero, List.set_cons_succ, i64_w, i32_w]
          rfl
        refine pure_ (i := 35) (N := some 164) (v := ?_) (a' := ?_) #[true, true, true, true, true, true, true, true, true, true, true, true, true, true, true, true, true, true, true, true, true, true, true, true, true, true, true, true, true, true, true, true, true, true, true, true] rfl rfl (by kernel_rfl) (fun _ _ _ h => h) (Or.inl ⟨by rfl, ?_⟩) ?_ ?_
        rotate_left
        · intro w'
          go_simp
          with_reducible rfl
        rotate_left
        · simp only [Act.put, List.setIfInBounds_toArray, List.set_cons_zero, List.set_cons_succ, i64_w, i32_w]
          rfl
        refine done_ (by kernel_rfl) ?_

        go_wp2
        have hjk := HJK.out
        go_roundg g1
        case measure => omega
        case rel => exact ⟨j + 1, a', q', by omega, by omega, rfl, by rw [wrap64_in (by omega) (by omega)], ⟨HS5.out⟩⟩
end Go.Proofs.Ytakiojmjalbfpaa.Ring
namespace Go.Proofs.Ytakiojmjalbfpaa.PRing
open Go.RowKit Go.Proofs.YtakiojmjalbfpaaW.PrintWords Go.Proofs.YtakiojmjalbfpaaW.PrintLast Go.Proofs.YtakiojmjalbfpaaW.PrintMore
attribute [local go_sem] max2_int min2_int max_two min_two max_three min_three max_four min_four plus_setCell_drewN plus_cell_same   -- for this text's walks alone
set_option linter.unusedVariables false
set_option linter.unusedSimpArgs false
def busbarlaw9_RingPlays.f (a0 : Int) (a1 : Bool) (l2 : List Int) : Option Bool := some true
theorem busbarlaw9_RingPlays.calls (a0 : Int) (a1 : Bool) (A2 : Option Addr) (c2 : Nat) (l2 : List Int) (r : Bool) (w : World) (hr2 : Kd.C (Kd.int .i64) w A2 l2.length l2) (hc2 : l2.length ≤ c2) (h : busbarlaw9_RingPlays.f a0 a1 l2 = some r) : Calls Try.prog 3 #[.int .i64 a0, .bool a1, .slice A2 l2.length c2] w fun e w' => e = .returned (.bool r) ∧ Below w.heap.size w w' := by
 obtain rfl := Option.some.inj h
 exact Go.Proofs.Ytakiojmjalbfpaa.Ring.RingPlays_calls a0 a1 A2 c2 l2 w hr2 hc2
def busbarlaw9_RingPlays.Pure : Prop := ∀ (a0 : Int) (a1 : Bool) (l2 : List Int), (Lit.int .i64 a0).wf = true → l2.length ≤ maxLen → l2.length * 8 ≤ 140737488351232 → (∀ x ∈ l2, (Lit.int .i64 x).wf = true) → busbarlaw9_RingPlays.f a0 a1 l2 = some true
theorem busbarlaw9_RingPlays.walk (P : busbarlaw9_RingPlays.Pure) (a0 : Int) (a1 : Bool) (a2 : Option Addr) (len2 cap2 : Nat) (z2 : List Int) (w : World) (w0 : (Lit.int .i64 a0).wf = true) (w2 : (a2 = none ∧ len2 = 0 ∧ cap2 = 0 ∧ z2 = []) ∨ ∃ x, a2 = some x ∧ len2 ≤ cap2 ∧ cap2 ≤ maxLen ∧ z2.length = cap2 ∧ (∀ i, i < z2.length → w.cell? (x.add i) = some (.int .i64 (z2.getD i 0))) ∧ ∀ n ∈ z2, (Lit.int .i64 n).wf = true) (y2 : len2 * 8 ≤ 140737488351232) :
  Calls Try.prog 3 #[.int .i64 a0, .bool a1, .slice a2 len2 cap2] w fun e w' => e = .returned (.bool true) ∧ Below w.heap.size w w' := by
 obtain ⟨l2, rfl, hr2, hm2, hw2, hc2⟩ := ReadsInt.ofRowC w2
 have h := P a0 a1 l2 w0 hm2 y2 hw2
 refine (busbarlaw9_RingPlays.calls a0 a1 _ _ l2 true w (Kd.C_of_reads (d := (0 : Int)) (h1 := fun _ => rfl) hr2) hc2 h).mono ?_
 rintro e w' ⟨rfl, hd⟩
 exact ⟨rfl, hd⟩
end Go.Proofs.Ytakiojmjalbfpaa.PRing
namespace Go.Proofs.Ytakiojmjalbfpaa.Pure
open Go.RowKit Go.Proofs.Ytakiojmjalbfpaa.PRing
theorem RingPlays : busbarlaw9_RingPlays.Pure := by
  unfold busbarlaw9_RingPlays.Pure
  intros
  rfl
end Go.Proofs.Ytakiojmjalbfpaa.Pure
