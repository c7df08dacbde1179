/- Words and walks for FlowCuts (made of the session's own texts; each part by itself). -/
import Derived.StillTailTactics
import Derived.Test.YtakiojmjalbfpaaZFlowCuts10
set_option linter.unusedVariables false
set_option linter.unusedSimpArgs false
namespace Go.Proofs.Ytakiojmjalbfpaa.Ring
open Go.RowKit Go.Proofs.YtakiojmjalbfpaaW.PrintWords Go.Proofs.YtakiojmjalbfpaaW.PrintLast Go.Proofs.YtakiojmjalbfpaaW.PrintMore Go.Proofs.Ytakiojmjalbfpaa.PFlow Go.Proofs.Ytakiojmjalbfpaa.Num Go.Proofs.Ytakiojmjalbfpaa.LemPkFlow Go.Proofs.Ytakiojmjalbfpaa.LemAskCFlow Go.Proofs.Ytakiojmjalbfpaa.LemAskDFlow Go.Proofs.Ytakiojmjalbfpaa.LemAduFlow Go.Proofs.Ytakiojmjalbfpaa.LemHeadFlow
attribute [local go_sem] plus_setCell_drewN plus_cell_same
theorem C_same {w w1 : World} {A : Option Addr} {n : Nat} {l : List Int} (h : Kd.C (Kd.int .u8) w A n l) (hk : 0 < n → ∀ a, A = some a → w1.heap[a.block]? = w.heap[a.block]?) : Kd.C (Kd.int .u8) w1 A n l := by
  refine ⟨h.1, h.2.1, fun h0 => ?_⟩
  obtain ⟨ad, rfl, hr⟩ := h.2.2 h0
  refine ⟨ad, rfl, fun j p hp => ?_⟩
  obtain ⟨c, h1, h2, h3⟩ := hr j p hp
  refine ⟨c, h1, h2, fun i u hu => ?_⟩
  have hb : (ad.add (j * (Kd.int .u8).sz + i)).block = ad.block := by unfold Addr.add; split <;> rfl
  exact (cell_of_heap (by rw [hb]; exact hk h0 ad rfl)).trans (h3 i u hu)
theorem cats_pop (F : Nat → List Int) (d i : Nat) (q r : List Int) (h : q ++ r = cats F (d + 1) i) : ((F i).length ≤ q.length → ∃ q2, q = F i ++ q2 ∧ q2 ++ r = cats F d (i + 1)) ∧ (q.length < (F i).length → q = (F i).take q.length) := by
  rw [cats] at h
  constructor
  · intro hl
    refine ⟨q.drop (F i).length, ?_, ?_⟩
    · have h1 := congrArg (List.take (F i).length) h
      rw [List.take_append_of_le_length hl, List.take_left] at h1
      rw [← h1, List.length_take, Nat.min_eq_left hl]
      exact (List.take_append_drop _ q).symm
    · have h1 := congrArg (List.drop (F i).length) h
      rw [List.drop_append_of_le_length hl, List.drop_left] at h1
      exact h1
  · intro hl
    have h1 := congrArg (List.take q.length) h
    rw [List.take_left, List.take_append_of_le_length (by omega)] at h1
    exact h1
theorem not_ready (ks : List Int) (hks : ∀ x ∈ ks, Bd x) (i : Nat) (hi : i < ks.length) (h12 : i < 12) (q : List Int) (hq : q = (rowG ks i).take q.length) (hl : q.length < (rowG ks i).length) : firstOf cutl q false = (0, 0, [], 0, 3) := by
  obtain ⟨f1, f2, f3, f4, f5⟩ := rowG_ok ks hks i hi h12
  show cutl (q.take 260) = _
  rw [List.take_of_length_le (by omega), hq]
  exact cut_front _ _ _ f1 q.length (by omega)
theorem add_block (a : Addr) (m : Nat) : (a.add m).block = a.block := by unfold Addr.add; split <;> rfl
structure Left (w : World) (gf g B : Nat) (A : Option Addr) (n c : Nat) (b : List Int) : Prop where
  C : Kd.C (Kd.int .u8) w A n b
  hc : n ≤ c
  ne : 0 < n → ∀ a, A = some a → a.block ≠ gf ∧ a.block ≠ g ∧ a.block ≠ B
  lt : 0 < n → ∀ a, A = some a → a.block < w.heap.size
theorem Left.below {w w1 : World} {gf g B n c : Nat} {A : Option Addr} {b : List Int} (h : Left w gf g B A n c b) (hb : Below w.heap.size w w1) : Left w1 gf g B A n c b := ⟨Kd.C_below h.C hb, h.hc, h.ne, fun h0 a ha => Nat.lt_of_lt_of_le (h.lt h0 a ha) hb.size⟩
theorem Left.fr2 {w w1 : World} {gf g B n c : Nat} {A : Option Addr} {b : List Int} (h : Left w gf g B A n c b) (hr : Fr2 g B w w1) : Left w1 gf g B A n c b := ⟨C_same h.C (fun h0 a ha => hr.block _ (h.lt h0 a ha) (h.ne h0 a ha).2.1 (h.ne h0 a ha).2.2), h.hc, h.ne, fun h0 a ha => Nat.lt_of_lt_of_le (h.lt h0 a ha) hr.size⟩
theorem Left.fr3 {w w1 : World} {gf g B n c : Nat} {A : Option Addr} {b : List Int} (h : Left w gf g B A n c b) (hr : Fr3 gf g B w w1) : Left w1 gf g B A n c b := ⟨C_same h.C (fun h0 a ha => hr.block _ (h.lt h0 a ha) (h.ne h0 a ha).1 (h.ne h0 a ha).2.1 (h.ne h0 a ha).2.2), h.hc, h.ne, fun h0 a ha => Nat.lt_of_lt_of_le (h.lt h0 a ha) hr.size⟩
theorem Left.skip {w : World} {gf g B n c : Nat} {A : Option Addr} {b : List Int} (h : Left w gf g B A n c b) (m : Nat) (hm : m ≤ n) (A1 : Option Addr) (hA : 0 < n - m → A1 = A.map (·.add m)) : Left w gf g B A1 (n - m) (c - m) (b.drop m) := by
  have hp : 0 < n - m → ∀ a, A1 = some a → ∃ a0, A = some a0 ∧ a.block = a0.block := fun h0 a ha => by
    rw [hA h0] at ha
    obtain ⟨a0, e0, rfl⟩ := Option.map_eq_some_iff.1 ha
    exact ⟨a0, e0, add_block a0 m⟩
  refine ⟨C_skip h.C m hm hA, by have := h.hc; omega, fun h0 a ha => ?_, fun h0 a ha => ?_⟩
  · obtain ⟨a0, e0, e1⟩ := hp h0 a ha
    rw [e1]
    exact h.ne (by omega) a0 e0
  · obtain ⟨a0, e0, e1⟩ := hp h0 a ha
    rw [e1]
    exact h.lt (by omega) a0 e0
structure Cut (w0 : World) (gf g B M : Nat) (ks : List Int) (a : Nat) (q b : List Int) (A : Option Addr) (n c : Nat) (w : World) : Prop where
  s : FSt w0 gf g B M q false w
  l : Left w gf g B A n c b
  e : q ++ b = cats (rowG ks) (ks.length - a) a
  ha : a ≤ ks.length
theorem Cut.below {w0 w w1 : World} {gf g B M a n c : Nat} {ks q b : List Int} {A : Option Addr} (h : Cut w0 gf g B M ks a q b A n c w) (hb : Below w.heap.size w w1) : Cut w0 gf g B M ks a q b A n c w1 := ⟨h.s.below hb, h.l.below hb, h.e, h.ha⟩
theorem Cut.hn {w0 w : World} {gf g B M a n c : Nat} {ks q b : List Int} {A : Option Addr} (h : Cut w0 gf g B M ks a q b A n c w) : n = b.length := h.l.C.1.symm
theorem catsG_ok (ks : List Int) (hks : ∀ x ∈ ks, Bd x) (hk : ks.length ≤ 12) (d i : Nat) (h : i + d ≤ ks.length) : (cats (rowG ks) d i).length ≤ 3120 ∧ B8 (cats (rowG ks) d i) := by
  obtain ⟨h1, h2⟩ := cats_ok (rowG ks) ks.length (fun i hi => by obtain ⟨_, _, _, f4, f5⟩ := rowG_ok ks hks i hi (by omega); exact ⟨f4, f5⟩) d i h
  exact ⟨by omega, h2⟩
theorem b8_left {q b l : List Int} (h : q ++ b = l) (hl : B8 l) : B8 q := fun x hx => hl x (by rw [← h]; exact List.mem_append_left _ hx)
set_option maxRecDepth 100000 in
set_option maxHeartbeats 4000000 in
theorem FlowCuts_calls (A0 : Option Addr) (c0 : Nat) (ks : List Int) (A1 : Option Addr) (c1 : Nat) (ss : List Int) (w : World) (hr0 : Kd.C (Kd.int .i64) w A0 ks.length ks) (hc0 : ks.length ≤ c0) (hr1 : Kd.C (Kd.int .i64) w A1 ss.length ss) (hc1 : ss.length ≤ c1) (hks : ∀ x ∈ ks, Bd x) :
    Calls Try.prog 9 #[.slice A0 ks.length c0, .slice A1 ss.length c1] w fun e w' => e = .returned (.bool true) ∧ Below w.heap.size w w' := by
  have hu22 := Try.underlying22
  have hu30 := Try.underlying30
  have hu53 := Try.underlying53
  have HR0 := Lib.hid hr0
  have HR1 := Lib.hid hr1
  have HKS := Lib.hid hks
  clear hr0 hr1 hks
  by_cases h1 : 12 < ks.length
  · have d1 : decide (12 < (ks.length : Int)) = true := decide_eq_true (by omega)
    go_enter Try.func9, Try.ntmps9
    go_wp2_with (fail)
    refine (law10_awake _).mono ?_
    rintro e w1 ⟨rfl, hb⟩
    go_wp2
    go_ret
    exact ⟨rfl, hb⟩
  have d1 : decide (12 < (ks.length : Int)) = false := decide_eq_false (by omega)
  by_cases h2 : 60 < ss.length
  · have d2 : decide (60 < (ss.length : Int)) = true := decide_eq_true (by omega)
    go_enter Try.func9, Try.ntmps9
    go_wp2_with (fail)
    refine (law10_awake _).mono ?_
    rintro e w1 ⟨rfl, hb⟩
    go_wp2
    go_ret
    exact ⟨rfl, hb⟩
  have d2 : decide (60 < (ss.length : Int)) = false := decide_eq_false (by omega)
  have LK := Lib.hid (show ks.length ≤ 12 by omega)
  have LS := Lib.hid (show ss.length ≤ 60 by omega)
  clear h1 h2
  obtain ⟨M, hM⟩ : ∃ M : Nat, M = 65536 := ⟨_, rfl⟩
  have MM := Lib.hid hM
  clear hM
  go_enter Try.func9, Try.ntmps9
  go_wp2_with (fail)
  refine (law10_awake _).mono ?_
  rintro e w1 ⟨rfl, hb⟩
  have B1 := Lib.hid hb
  clear hb
  go_wp2_with (fail)
  refine (flow_New 65536 M (by have := MM.out; omega) _).mono ?_
  rintro e w4 ⟨gf, g, B, rfl, hf, h1, h2, h3, hb⟩
  have S4 := Lib.hid (show FSt w gf g B M [] false w4 from ⟨hf, below_then B1.out B1.out.size hb, by have := B1.out.size; omega, by have := B1.out.size; omega, by have := B1.out.size; omega, fun x hx => by cases hx⟩)
  clear hf h1 h2 h3 hb B1
  go_wp2_with (fail)
  refine (row_c ks HKS.out A0 c0 _ (Kd.C_below HR0.out S4.out.b) hc0).mono ?_
  rintro e w5 ⟨A5, c5, rfl, hR, hb⟩
  have P5 := R_args hR (show B < _ from S4.out.f.r.lt.2)
  have P6 := R_args hR (show g < _ from S4.out.f.r.lt.1)
  have P7 := R_args hR (show gf < _ from blk_lt S4.out.f.f)
  have S5 := Lib.hid (show Cut w gf g B M ks 0 [] (rowl ks) A5 (rowl ks).length c5 w5 from ⟨S4.out.below hb, ⟨P5.2.2.1, P5.2.1, fun h0 a ha => ⟨P7.2.2.2 h0 a ha, P6.2.2.2 h0 a ha, P5.2.2.2 h0 a ha⟩, C_lt P5.2.2.1⟩, by unfold rowl; rw [List.nil_append, Nat.min_eq_left LK.out]; rfl, by omega⟩)
  obtain ⟨n5, hn5⟩ : ∃ n5, n5 = (rowl ks).length := ⟨_, rfl⟩
  rw [← hn5] at S5 ⊢
  clear hR hb S4 hn5 P5 P6 P7
  go_wp2_with (fail)
  go_loopg [6, 7, 8] (ss.length + 1) (fun g_ v6 v7 v8 wx => ∃ (a i n c : Nat) (x y : Int) (A : Option Addr) (q b : List Int), v6 = .slice A n c ∧ v7 = .int .i64 x ∧ v8 = .int .i64 y ∧ Aside0 (x = (a : Int) ∧ y = (i : Int) ∧ i + g_ = ss.length + 1 ∧ (g_ = 0 → n = 0) ∧ (a < ks.length → q.length < (rowG ks a).length)) ∧ Aside0 (Cut w gf g B M ks a q b A n c wx))
  case atStart =>
    refine ⟨0, 0, n5, c5, 0, 0, A5, [], rowl ks, rfl, rfl, rfl, ⟨rfl, rfl, by omega, fun h => by omega, fun h => ?_⟩, ⟨S5.out⟩⟩
    have := (rowG_ok ks HKS.out 0 h (by omega)).2.2.1
    simp
    omega
  case round =>
    clear S5
    obtain ⟨a, i, n, c, x, y, A, q, b, rfl, rfl, rfl, HI, HC⟩ := hrel
    by_cases hn0 : n = 0
    · have d3 : decide (0 < n) = false := decide_eq_false (by omega)
      have d4 : decide (0 < (n : Int)) = false := decide_eq_false (by omega)
      have hb0 : b = [] := List.length_eq_zero_iff.1 (by have := HC.out.hn; omega)
      have hak : a = ks.length ∧ q = [] := by
        have he := HC.out.e
        rw [hb0, List.append_nil] at he
        rcases Nat.lt_or_ge a ks.length with h | h
        · exfalso
          have h1 := HI.out.2.2.2.2 h
          rw [show ks.length - a = (ks.length - a - 1) + 1 by omega, cats] at he
          have h2 := congrArg List.length he
          rw [List.length_append] at h2
          omega
        · have h1 := HC.out.ha
          refine ⟨by omega, ?_⟩
          rw [he, show ks.length - a = 0 by omega]
          rfl
      obtain rfl : x = (ks.length : Int) := by have := HI.out.1; omega
      have HQ := Lib.hid hak.2
      clear hb0 hak
      go_wp2_with (fail)
      refine (flow_Held _ gf g B M q false HC.out.s.f).mono ?_
      rintro e w2 ⟨rfl, hb⟩
      rw [show (q.length : Int) = 0 by rw [HQ.out]; rfl]
      have S2 := Lib.hid (HC.out.s.below hb)
      clear HC hb
      go_wp2_with (fail)
      refine (flow_Bad _ gf g B M q false S2.out.f).mono ?_
      rintro e w3 ⟨rfl, hb⟩
      have B3 := Lib.hid (below_then S2.out.b S2.out.b.size hb)
      clear hb S2
      go_wp2
      go_ret
      exact ⟨rfl, B3.out⟩
    have hn1 := hn0
    have d3 : decide (0 < n) = true := decide_eq_true (by omega)
    have d4 : decide (0 < (n : Int)) = true := decide_eq_true (by omega)
    cases gk with
    | zero => exact absurd (HI.out.2.2.2.1 rfl) hn0
    | succ g1 =>
      have NP := Lib.hid hn1
      clear hn0 hn1
      go_upto_if 43 with (fail)
      go_cut [9] (fun v9 wc => ∃ m : Nat, v9 = .int .i64 (m : Int) ∧ Aside0 (m ≤ n ∧ (ss.length ≤ i → m = n)) ∧ Aside0 (Cut w gf g B M ks a q b A n c wc))
      case first =>
        have hyi := HI.out.2.1
        cases d5 : decide (y < (ss.length : Int))
        case true =>
          have hs : i < ss.length := by have := of_decide_eq_true d5; omega
          obtain ⟨ad, e, hx⟩ := Kd.at_int (Kd.C_below HR1.out HC.out.s.b) y (by omega) (by omega)
          have p0 : (0 ≤ y) = True := eq_true (by omega)
          have q0 : (y < (ss.length : Int)) = True := eq_true (by omega)
          obtain ⟨z, hz⟩ : ∃ z, z = rd ss y := ⟨_, rfl⟩
          rw [← hz] at hx
          obtain ⟨m, hm⟩ : ∃ m : Nat, (m : Int) = min (z % 40) (n : Int) := ⟨(min (z % 40) (n : Int)).toNat, by have := Int.emod_nonneg z (show (40 : Int) ≠ 0 by omega); omega⟩
          have N1 := Lib.hid hm
          have HS := Lib.hid hs
          clear hm hz hs hyi
          subst e
          go_wp2_with (fail)
          refine (within_b z 40 (by omega) (by omega) _).mono ?_
          rintro e w4 ⟨rfl, hb⟩
          have C4 := Lib.hid (HC.out.below hb)
          clear HC hb hx
          go_wp2_with ((with_reducible refine gate_dst (N := 51) rfl ?_); refine wl_min rfl (.tmp 48) (.tmp 50) _ rfl .i64 (z % 40) (n : Int) m rfl rfl N1.out ?_)
          go_meet
          exact ⟨m, rfl, ⟨by have := N1.out; omega, fun h => by have := HS.out; omega⟩, ⟨C4.out⟩⟩
        case false =>
          clear hyi
          go_wp2
          go_meet
          exact ⟨n, rfl, ⟨Nat.le_refl _, fun _ => rfl⟩, ⟨HC.out⟩⟩
      case rest =>
      obtain ⟨m, rfl, HM, HC2⟩ := hcut
      clear HC
      have hch := cut_high A m n c (by have := HM.out.1; have := HC2.out.l.hc; omega)
      obtain ⟨A9, hA9, hsl⟩ := cut_low_any A m n c HM.out.1 HC2.out.l.hc
      have T9 := Lib.hid hA9
      clear hA9
      have CK := Lib.hid (catsG_ok ks HKS.out LK.out (ks.length - a) a (by have := HC2.out.ha; omega))
      have hlen := congrArg List.length HC2.out.e
      rw [List.length_append] at hlen
      have LE := Lib.hid hlen
      clear hlen
      go_wp2_with (fail)
      refine (flow_Feed _ gf g B M q false HC2.out.s.f A m c (b.take m) (by rw [List.length_take]; have := HC2.out.hn; have := HM.out.1; omega) (C_take HC2.out.l.C m HM.out.1) (by have := HC2.out.l.hc; have := HM.out.1; omega) (fun h0 z hz => (HC2.out.l.ne (by have := HM.out.1; omega) z hz).2.2) m (by have := MM.out; have := CK.out.1; have := LE.out; have := HC2.out.hn; have := HM.out.1; simp; omega)).mono ?_
      rintro e w5 ⟨rfl, hf, hr⟩
      rw [List.take_take, Nat.min_self] at hf
      have he5 : (q ++ b.take m) ++ b.drop m = cats (rowG ks) (ks.length - a) a := by rw [List.append_assoc, List.take_append_drop]; exact HC2.out.e
      have S5 := Lib.hid (show Cut w gf g B M ks a (q ++ b.take m) (b.drop m) A9 (n - m) (c - m) w5 from ⟨HC2.out.s.fed hf hr (b8_left he5 CK.out.2), (HC2.out.l.fr2 hr).skip m HM.out.1 A9 T9.out, he5, HC2.out.ha⟩)
      obtain ⟨q5, hq5⟩ : ∃ q5, q5 = q ++ b.take m := ⟨_, rfl⟩
      obtain ⟨b5, hb5⟩ : ∃ b5, b5 = b.drop m := ⟨_, rfl⟩
      obtain ⟨n5, hn5⟩ : ∃ n5, n5 = n - m := ⟨_, rfl⟩
      obtain ⟨c5, hc5⟩ : ∃ c5, c5 = c - m := ⟨_, rfl⟩
      rw [← hq5, ← hb5, ← hn5, ← hc5] at S5
      rw [← hn5, ← hc5] at hsl
      have N5 := Lib.hid (show ss.length ≤ i → n5 = 0 from fun h => by have := HM.out.2 h; omega)
      clear HC2 hf hr he5 CK LE hq5 hb5 hn5 hc5 T9 hch
      go_wp2_with (fail)
      go_loopg [7, 10] (ks.length - a) (fun g_ v7 v10 wx => ∃ (a2 j : Nat) (x2 j2 : Int) (q2 : List Int), v7 = .int .i64 x2 ∧ v10 = .int .i64 j2 ∧ Aside0 (x2 = (a2 : Int) ∧ j2 = (j : Int) ∧ a2 + g_ = ks.length ∧ j ≤ a2) ∧ Aside0 (Cut w gf g B M ks a2 q2 b5 A9 n5 c5 wx))
      case atStart => exact ⟨a, 0, x, 0, q5, rfl, rfl, ⟨HI.out.1, rfl, by have := S5.out.ha; omega, by omega⟩, ⟨S5.out⟩⟩
      case round =>
        clear S5
        obtain ⟨a2, j, x2, j2, q2, rfl, rfl, HJ, HC⟩ := hrel
        have hj := HJ.out
        have d6 : decide (j2 < 13) = true := decide_eq_true (by have := LK.out; omega)
        by_cases hfull : a2 < ks.length ∧ (rowG ks a2).length ≤ q2.length
        · cases gk with
          | zero => omega
          | succ g2 =>
            have he := HC.out.e
            rw [show ks.length - a2 = g2 + 1 by omega] at he
            obtain ⟨q3, hq3, he3⟩ := (cats_pop (rowG ks) g2 a2 q2 b5 he).1 hfull.2
            obtain ⟨f1, f2⟩ := first_row ks HKS.out a2 hfull.1 (by have := LK.out; omega) q3
            rw [← hq3] at f1 f2
            have F1 := Lib.hid f1
            have F2 := Lib.hid f2
            have E3 := Lib.hid he3
            have HF := Lib.hid hfull
            have DJ := Lib.hid hj
            clear he hq3 he3 f1 f2 hfull hj
            go_wp2_with (fail)
            refine (flow_Ready cutl _ gf g B M q2 false HC.out.s.f (cut_is _ HC.out.s.b8)).mono ?_
            rintro e w6 ⟨rfl, hb⟩
            rw [F1.out]
            have C6 := Lib.hid (HC.out.below hb)
            clear HC hb
            go_wp2_with (fail)
            obtain ⟨z, hz⟩ : ∃ z, z = rd ks (a2 : Int) := ⟨_, rfl⟩
            obtain ⟨u, hu⟩ : ∃ u, u = z % 256 := ⟨_, rfl⟩
            obtain ⟨p, hp⟩ : ∃ p, p = pk z z := ⟨_, rfl⟩
            have hbz := row_bd ks HKS.out a2 HF.out.1
            have G1 := F1.out
            rw [← hz, ← hp, ← hu, ← DJ.out.1] at G1
            rw [← hz] at hbz
            have Z1 := Lib.hid hz
            have Z2 := Lib.hid hu
            have Z3 := Lib.hid hp
            have Z4 := Lib.hid hbz
            have Z5 := Lib.hid G1
            clear hz hu hp hbz G1
            refine (flow_Next cutl _ gf g B M q2 false C6.out.s.f (cut_is _ C6.out.s.b8) _ _ _ _ _ Z5.out).mono ?_
            rintro e w7 ⟨A7, c7, rfl, hR, hf, hr⟩
            rw [F2.out] at hf
            have C7 := Lib.hid (show Cut w gf g B M ks (a2 + 1) q3 b5 A9 n5 c5 w7 from ⟨C6.out.s.next hf hr (b8_left E3.out (catsG_ok ks HKS.out LK.out g2 (a2 + 1) (by have := DJ.out; omega)).2), C6.out.l.fr3 hr, by rw [E3.out, show ks.length - (a2 + 1) = g2 by have := DJ.out; omega], by have := HF.out; omega⟩)
            obtain ⟨n7, hn7⟩ : ∃ n7, n7 = p.length := ⟨_, rfl⟩
            rw [← hn7] at hR ⊢
            have N7 := Lib.hid hn7
            have R7 := Lib.hid (Kd.R_reads' hR)
            clear C6 hR hf hr hn7
            have d7 : decide ((ks.length : Int) ≤ x2) = false := decide_eq_false (by have := DJ.out; have := HF.out; omega)
            go_wp2_with (fail)
            have hzu : z % 256 = u := Z2.out.symm
            have hx20 : 0 ≤ x2 ∧ x2 < (ks.length : Int) := by have := DJ.out; have := HF.out; omega
            obtain ⟨ad, e, hx⟩ := Kd.at_int (Kd.C_alloc (Kd.C_below HR0.out C7.out.s.b) (.cells #[.int .i64 x2, .int .i64 u, .slice A7 n7 c7] 53 (0, 0))) x2 hx20.1 hx20.2
            have p0 : (0 ≤ x2) = True := eq_true hx20.1
            have q0 : (x2 < (ks.length : Int)) = True := eq_true hx20.2
            rw [show rd ks x2 = z by rw [Z1.out, DJ.out.1]] at hx
            clear hx20
            subst e
            go_quiet (first | (go_at_call 12; refine Calls.quiet_of (within_calls z 256 (by omega) (by omega) _)))
            have hb8 : Below w7.heap.size w7 ((w7.alloc (.cells #[.int .i64 x2, .int .i64 u, .slice A7 n7 c7] 53)).drewN nq) := pw_below_drewN ((Below.refl _ _).alloc (Nat.le_refl _) _) nq
            have X8 := Lib.hid (blk_below (blk_new w7 (.cells #[.int .i64 x2, .int .i64 u, .slice A7 n7 c7] 53 (0, 0))) (pw_below_drewN (Below.refl _ _) nq))
            have C8 := Lib.hid (C7.out.below hb8)
            have R8 := Lib.hid (Kd.C_below (show Kd.C (Kd.int .u8) w7 A7 n7 p from by rw [N7.out]; exact R7.out.2.2) hb8)
            generalize (w7.alloc (.cells #[.int .i64 x2, .int .i64 u, .slice A7 n7 c7] 53)).drewN nq = W8 at *
            obtain ⟨g8, hg8⟩ : ∃ g8, g8 = w7.heap.size := ⟨_, rfl⟩
            rw [← hg8] at X8 ⊢
            clear hx hb8 C7 R7 hg8 p0 q0
            have hx20 : 0 ≤ x2 ∧ x2 < (ks.length : Int) := by have := DJ.out; have := HF.out; omega
            obtain ⟨ad8, e, hx⟩ := Kd.at_int (Kd.C_below HR0.out C8.out.s.b) x2 hx20.1 hx20.2
            have p0 : (0 ≤ x2) = True := eq_true hx20.1
            have q0 : (x2 < (ks.length : Int)) = True := eq_true hx20.2
            rw [show rd ks x2 = z by rw [Z1.out, DJ.out.1]] at hx
            clear hx20
            obtain rfl : ad = ad8 := by injection e
            clear e
            go_wp2_with (fail)
            have BD := Lib.hid (below_drew (Below.refl W8.heap.size W8))
            go_region_law (first | (go_simp; go_at_call 29; refine (ask_c z z Z4.out Z4.out _).mono ?_; rintro e w9 ⟨a, rfl, hA, hb⟩; rw [← Z3.out] at hA; have K9 := Lib.hid hA; have B9 := Lib.hid (below_then BD.out BD.out.size hb); clear hA hb) | (go_simp; go_at_call 28; refine (askbytes_c _ a _ K9.out).mono ?_; rintro e wA ⟨A10, c10, rfl, hC, hc, hb⟩; rw [← N7.out] at hC ⊢; have B10 := Lib.hid (below_then B9.out B9.out.size hb); have C10 := Lib.hid hC; clear hC hc hb))
            all_goals
              obtain ⟨y0, y1, y2⟩ := blkc3 (blk_below X8.out B10.out)
              have hs1 : (convert 30 9 (.slice A7 n7 c7)).run Try.prog wA = .ok (.string (strOfNums p)) wA := Kd.C_string (P := Try.prog) Try.underlying30 Try.underlying5 Try.underlying9 (A := A7) (c := c7) (Kd.C_below R8.out B10.out)
              have hs2 : (convert 30 9 (.slice A10 n7 c10)).run Try.prog wA = .ok (.string (strOfNums p)) wA := Kd.C_string (P := Try.prog) Try.underlying30 Try.underlying5 Try.underlying9 (A := A10) (c := c10) C10.out
              clear hx p0 q0
              go_wp2
              go_roundg g2
              case measure => omega
              case rel =>
                have hJ := DJ.out
                have hL := LK.out
                rw [wrap64_in (by omega) (by omega), wrap64_in (by omega) (by omega)]
                exact ⟨a2 + 1, j + 1, x2 + 1, j2 + 1, q3, rfl, rfl, ⟨by omega, by omega, by omega, by omega⟩, ⟨C8.out.below B10.out⟩⟩
        · have hnr : firstOf cutl q2 false = (0, 0, [], 0, 3) ∧ (a2 < ks.length → q2.length < (rowG ks a2).length) := by
            have he := HC.out.e
            rcases Nat.lt_or_ge a2 ks.length with h | h
            · have h1 : q2.length < (rowG ks a2).length := by
                apply Nat.lt_of_not_le
                intro h2
                exact hfull ⟨h, h2⟩
              rw [show ks.length - a2 = (ks.length - a2 - 1) + 1 by omega] at he
              exact ⟨not_ready ks HKS.out a2 h (by have := LK.out; omega) q2 ((cats_pop (rowG ks) _ a2 q2 b5 he).2 h1) h1, fun _ => h1⟩
            · rw [show ks.length - a2 = 0 by omega] at he
              have h2 : q2 = [] := (List.append_eq_nil_iff.1 he).1
              exact ⟨by rw [h2]; rfl, fun h3 => by omega⟩
          have NR := Lib.hid hnr
          have DJ := Lib.hid hj
          clear hfull hnr hj
          go_wp2_with (fail)
          refine (flow_Ready cutl _ gf g B M q2 false HC.out.s.f (cut_is _ HC.out.s.b8)).mono ?_
          rintro e w6 ⟨rfl, hb⟩
          rw [NR.out.1]
          have C6 := Lib.hid (HC.out.below hb)
          clear HC hb
          go_wp2_with (fail)
          go_roundg g1
          case measure => omega
          case rel =>
            have hI := HI.out
            rw [wrap64_in (by have := LS.out; omega) (by have := LS.out; omega)]
            exact ⟨a2, i + 1, n5, c5, x2, y + 1, A9, q2, b5, rfl, rfl, rfl, ⟨DJ.out.1, by omega, by omega, fun h => N5.out (by omega), NR.out.2⟩, ⟨C6.out⟩⟩
end Go.Proofs.Ytakiojmjalbfpaa.Ring
namespace Go.Proofs.Ytakiojmjalbfpaa.PFlow
open Go.RowKit Go.Proofs.YtakiojmjalbfpaaW.PrintWords Go.Proofs.YtakiojmjalbfpaaW.PrintLast Go.Proofs.YtakiojmjalbfpaaW.PrintMore
attribute [local go_sem] max2_int min2_int max_two min_two max_three min_three max_four min_four plus_setCell_drewN plus_cell_same   -- for this text's walks alone
set_option linter.unusedVariables false
set_option linter.unusedSimpArgs false
def busbarlaw10_FlowCuts.f (l0 : List Int) (l1 : List Int) : Option Bool := if l0.all (fun x => (Lit.int .i64 x).wf) then some true else none
theorem busbarlaw10_FlowCuts.calls (A0 : Option Addr) (c0 : Nat) (l0 : List Int) (A1 : Option Addr) (c1 : Nat) (l1 : List Int) (r : Bool) (w : World) (hr0 : Kd.C (Kd.int .i64) w A0 l0.length l0) (hc0 : l0.length ≤ c0) (hr1 : Kd.C (Kd.int .i64) w A1 l1.length l1) (hc1 : l1.length ≤ c1) (h : busbarlaw10_FlowCuts.f l0 l1 = some r) : Calls Try.prog 9 #[.slice A0 l0.length c0, .slice A1 l1.length c1] w fun e w' => e = .returned (.bool r) ∧ Below w.heap.size w w' := by
 unfold busbarlaw10_FlowCuts.f at h
 split at h
 ·
  rename_i hg
  obtain rfl := Option.some.inj h
  rw [List.all_eq_true] at hg
  exact Go.Proofs.Ytakiojmjalbfpaa.Ring.FlowCuts_calls A0 c0 l0 A1 c1 l1 w hr0 hc0 hr1 hc1 (fun x hx => Go.Proofs.Ytakiojmjalbfpaa.Num.wf_i64 (hg x hx))
 ·
  cases h
def busbarlaw10_FlowCuts.Pure : Prop := ∀ (l0 : List Int) (l1 : List Int), l0.length ≤ maxLen → l0.length * 8 ≤ 140737488351232 → (∀ x ∈ l0, (Lit.int .i64 x).wf = true) → l1.length ≤ maxLen → l1.length * 8 ≤ 140737488351232 → (∀ x ∈ l1, (Lit.int .i64 x).wf = true) → busbarlaw10_FlowCuts.f l0 l1 = some true
theorem busbarlaw10_FlowCuts.walk (P : busbarlaw10_FlowCuts.Pure) (a0 : Option Addr) (len0 cap0 : Nat) (z0 : List Int) (a1 : Option Addr) (len1 cap1 : Nat) (z1 : List Int) (w : World) (w0 : (a0 = none ∧ len0 = 0 ∧ cap0 = 0 ∧ z0 = []) ∨ ∃ x, a0 = some x ∧ len0 ≤ cap0 ∧ cap0 ≤ maxLen ∧ z0.length = cap0 ∧ (∀ i, i < z0.length → w.cell? (x.add i) = some (.int .i64 (z0.getD i 0))) ∧ ∀ n ∈ z0, (Lit.int .i64 n).wf = true) (y0 : len0 * 8 ≤ 140737488351232) (w1 : (a1 = none ∧ len1 = 0 ∧ cap1 = 0 ∧ z1 = []) ∨ ∃ x, a1 = some x ∧ len1 ≤ cap1 ∧ cap1 ≤ maxLen ∧ z1.length = cap1 ∧ (∀ i, i < z1.length → w.cell? (x.add i) = some (.int .i64 (z1.getD i 0))) ∧ ∀ n ∈ z1, (Lit.int .i64 n).wf = true) (y1 : len1 * 8 ≤ 140737488351232) :
  Calls Try.prog 9 #[.slice a0 len0 cap0, .slice a1 len1 cap1] w fun e w' => e = .returned (.bool true) ∧ Below w.heap.size w w' := by
 obtain ⟨l0, rfl, hr0, hm0, hw0, hc0⟩ := ReadsInt.ofRowC w0
 obtain ⟨l1, rfl, hr1, hm1, hw1, hc1⟩ := ReadsInt.ofRowC w1
 have h := P l0 l1 hm0 y0 hw0 hm1 y1 hw1
 refine (busbarlaw10_FlowCuts.calls _ _ l0 _ _ l1 true w (Kd.C_of_reads (d := (0 : Int)) (h1 := fun _ => rfl) hr0) hc0 (Kd.C_of_reads (d := (0 : Int)) (h1 := fun _ => rfl) hr1) hc1 h).mono ?_
 rintro e w' ⟨rfl, hd⟩
 exact ⟨rfl, hd⟩
end Go.Proofs.Ytakiojmjalbfpaa.PFlow
namespace Go.Proofs.Ytakiojmjalbfpaa.Pure
open Go.RowKit Go.Proofs.Ytakiojmjalbfpaa.PFlow
theorem FlowCuts : busbarlaw10_FlowCuts.Pure := by
  unfold busbarlaw10_FlowCuts.Pure
  intro l0 l1 _ _ h0 _ _ _
  unfold busbarlaw10_FlowCuts.f
  rw [if_pos]
  rw [List.all_eq_true]
  exact fun x hx => h0 x hx
end Go.Proofs.Ytakiojmjalbfpaa.Pure
