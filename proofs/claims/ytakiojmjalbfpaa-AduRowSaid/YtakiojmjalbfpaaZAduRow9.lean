/- Words and walks for AduRow (made of the session's own texts; each part by itself). -/
import Derived.Test.YtakiojmjalbfpaaZAduRow8
set_option linter.unusedVariables false
set_option linter.unusedSimpArgs false
namespace Go.Proofs.Ytakiojmjalbfpaa.Ring
open Go.RowKit Go.Proofs.YtakiojmjalbfpaaW.PrintWords Go.Proofs.YtakiojmjalbfpaaW.PrintLast Go.Proofs.YtakiojmjalbfpaaW.PrintMore Go.Proofs.Ytakiojmjalbfpaa.PFlow Go.Proofs.Ytakiojmjalbfpaa.Num Go.Proofs.Ytakiojmjalbfpaa.LemPkFlow Go.Proofs.Ytakiojmjalbfpaa.LemAskCFlow Go.Proofs.Ytakiojmjalbfpaa.LemAskDFlow Go.Proofs.Ytakiojmjalbfpaa.LemAduFlow Go.Proofs.Ytakiojmjalbfpaa.LemHeadFlow
attribute [local go_sem] plus_setCell_drewN plus_cell_same
theorem adubytes_c (t u : Int) (x v : Int) (ht : 0 ≤ t ∧ t < 65536) (hu : 0 ≤ u ∧ u < 256) (hx : Bd x) (hv : Bd v) (n : Nat) (hn : n = (pk x v).length) (A : Option Addr) (c : Nat) (w : World) (hC : Kd.C (Kd.int .u8) w A n (pk x v)) (hc : n ≤ c) :
    Calls Try.prog 30 #[.agg #[.int .i64 t, .int .i64 u, .slice A n c]] w fun e w' => ∃ A1 c1, e = .returned (.tuple #[.slice A1 (fr t u (pk x v)).length c1, .int .i64 0]) ∧ Kd.R (Kd.int .u8) 5 w' w.heap.size (fun _ => True) (.slice A1 (fr t u (pk x v)).length c1) (fr t u (pk x v)) ∧ Below w.heap.size w w' := by
  subst hn
  obtain ⟨f1, f2, f3, f4, f5⟩ := fr_ok t u x v ht hu hx hv
  refine (adu_Bytes.calls t u A c (pk x v) _ 0 w hC hc (bytes_ok t u (pk x v) (by omega) f1)).mono ?_
  rintro e w1 ⟨v0, rfl, hR, hb⟩
  obtain ⟨A1, c1, rfl⟩ := Kd.R_slice hR
  exact ⟨A1, c1, rfl, hR, hb⟩
theorem aducut_c (l : List Int) (hl : l.length ≤ 100000) (h8 : B8 l) (n : Nat) (hn : n = l.length) (A : Option Addr) (c : Nat) (w : World) (hC : Kd.C (Kd.int .u8) w A n l) (hc : n ≤ c) (t u : Int) (p : List Int) (k e0 : Int) (he : cutl l = (t, u, p, k, e0)) :
    Calls Try.prog 31 #[.slice A n c] w fun e w' => ∃ A1 c1, e = .returned (.tuple #[.agg #[.int .i64 t, .int .i64 u, .slice A1 p.length c1], .int .i64 k, .int .i64 e0]) ∧ Kd.C (Kd.int .u8) w' A1 p.length p ∧ p.length ≤ c1 ∧ Below w.heap.size w w' := by
  subst hn
  refine (adu_Cut.calls 10 A c l t u p k e0 w hC hc (by rw [cut_eq l hl h8 (by omega), he])).mono ?_
  rintro e w1 ⟨v0, rfl, hR, hb⟩
  obtain ⟨A1, c1, rfl⟩ := Kd.R_slice hR
  exact ⟨A1, c1, rfl, (Kd.R_reads' hR).2.2, (Kd.R_reads' hR).2.1, hb⟩
set_option maxRecDepth 100000 in
set_option maxHeartbeats 4000000 in
theorem AduRow_calls (A0 : Option Addr) (c0 : Nat) (ks : List Int) (v : Int) (w : World) (hr0 : Kd.C (Kd.int .i64) w A0 ks.length ks) (hc0 : ks.length ≤ c0) (hks : ∀ x ∈ ks, Bd x) (hv : Bd v) :
    Calls Try.prog 6 #[.slice A0 ks.length c0, .int .i64 v] w fun e w' => e = .returned (.bool true) ∧ Below w.heap.size w w' := by
  have hu22 := Try.underlying22
  have hu30 := Try.underlying30
  have hu53 := Try.underlying53
  have hk9 : ks.length ≤ 9223372036854775807 := by have := hr0.2.1; omega
  obtain ⟨F, hF⟩ : ∃ F : Nat → List Int, ∀ i, F i = fr (v % 60000 + (i : Int)) (i : Int) (pk (rd ks (i : Int)) v) := ⟨_, fun _ => rfl⟩
  obtain ⟨N, hN⟩ : ∃ N, N = min ks.length 12 := ⟨_, rfl⟩
  have m0 := mod0 v 60000 (by omega)
  have hrd : ∀ i : Nat, i < N → Bd (rd ks (i : Int)) := fun i hi => by rw [rd_get ks i (by omega)]; exact hks _ (List.getElem_mem (by omega))
  have hok : ∀ i : Nat, i < N → Ok (v % 60000 + (i : Int)) (((pk (rd ks (i : Int)) v).length : Int) + 1) (i : Int) ∧ (F i).length = 7 + (pk (rd ks (i : Int)) v).length ∧ 8 ≤ (F i).length ∧ (F i).length ≤ 260 ∧ B8 (F i) := fun i hi => by
    rw [hF]
    exact fr_ok _ _ _ _ (by omega) (by omega) (hrd i hi) hv
  have hcat := cats_ok F N (fun i hi => ⟨(hok i hi).2.2.2.1, (hok i hi).2.2.2.2⟩)
  have HR0 := Lib.hid hr0
  have HF := Lib.hid hF
  have HN := Lib.hid hN
  have M0 := Lib.hid m0
  have HRD := Lib.hid hrd
  have HOK := Lib.hid hok
  have HCAT := Lib.hid hcat
  have HV := Lib.hid hv
  clear hr0 hF hN m0 hrd hok hcat hv
  go_enter Try.func6, Try.ntmps6
  go_wp2_with (fail)
  refine (busbarlaw8_awake.calls true _ adu_awake).mono ?_
  rintro e w1 ⟨rfl, hb⟩
  have A1 := Lib.hid hb
  clear hb
  go_wp2_with (fail)
  go_loopg [5, 6] N (fun g_ v5 v6 wx => ∃ (i : Nat) (j : Int), i + g_ = N ∧ j = (i : Int) ∧ v6 = .int .i64 j ∧ Aside0 (Kd.R (Kd.int .u8) 5 wx w.heap.size (fun _ => True) v5 (cats F i 0)) ∧ Aside0 (Below w.heap.size w wx))
  case atStart => exact ⟨0, 0, by omega, rfl, rfl, ⟨Kd.R_nil _ _ _ _ _⟩, ⟨A1.out⟩⟩
  case round =>
    obtain ⟨i, j, hi, hj, rfl, HO, HB⟩ := hrel
    cases gk with
    | zero =>
      obtain rfl : i = N := by omega
      obtain ⟨An, cn, rfl⟩ := Kd.R_slice HO.out
      obtain ⟨n0, hn0⟩ : ∃ n0, n0 = (cats F i 0).length := ⟨_, rfl⟩
      have hC0 := (Kd.R_reads' HO.out).2
      rw [← hn0] at hC0 ⊢
      have L0 := Lib.hid hn0
      have C0 := Lib.hid hC0
      clear hn0 hC0 HO
      have hd : (decide (j < (ks.length : Int)) = false) ∨ (decide (j < (ks.length : Int)) = true ∧ decide (j < 12) = false) := by
        by_cases h : j < (ks.length : Int)
        · exact Or.inr ⟨decide_eq_true h, decide_eq_false (by have := HN.out; omega)⟩
        · exact Or.inl (decide_eq_false h)
      have HJ := Lib.hid hj
      clear hi hj
      rcases hd with hd | ⟨hd, hd2⟩
      all_goals
        go_wp2_with (fail)
        go_loopg [5, 11] i (fun g_ v5 v11 wx => ∃ (k n c : Nat) (A : Option Addr) (j : Int), v11 = .int .i64 j ∧ v5 = .slice A n c ∧ Aside0 (k + g_ = i ∧ j = (k : Int) ∧ n = (cats F g_ k).length) ∧ Aside0 (Kd.C (Kd.int .u8) wx A n (cats F g_ k) ∧ n ≤ c) ∧ Aside0 (Below w.heap.size w wx))
        case atStart => exact ⟨0, n0, cn, An, 0, rfl, rfl, ⟨by omega, rfl, L0.out⟩, ⟨C0.out.2, C0.out.1⟩, ⟨HB.out⟩⟩
        case round =>
          clear hd
          clear C0 L0 HB HJ
          obtain ⟨k, n, c, A, y, rfl, rfl, HK, HC, HB⟩ := hrel
          cases gk with
          | zero =>
            obtain rfl : k = i := by have := HK.out.1; omega
            have hd : (decide (y < (ks.length : Int)) = false) ∨ (decide (y < (ks.length : Int)) = true ∧ decide (y < 12) = false) := by
              by_cases h : y < (ks.length : Int)
              · exact Or.inr ⟨decide_eq_true h, decide_eq_false (by have := HN.out; have := HK.out.2.1; omega)⟩
              · exact Or.inl (decide_eq_false h)
            obtain rfl : n = 0 := HK.out.2.2
            have K1 := Lib.hid (show cutl [] = (0, 0, [], 0, 3) from rfl)
            clear HK
            rcases hd with hd | ⟨hd, hd2⟩
            all_goals
              go_wp2_with (fail)
              refine (aducut_c [] (by simp) (by intro x hx; cases hx) 0 rfl A c _ HC.out.1 HC.out.2 0 0 [] 0 3 K1.out).mono ?_
              rintro e w2 ⟨A2, c2, rfl, hC, hc, hb⟩
              have B2 := Lib.hid (below_then HB.out HB.out.size hb)
              clear hC hc hb hd
              go_wp2
              go_ret
              exact ⟨rfl, B2.out.alloc B2.out.size _⟩
          | succ g1 =>
            have hkN : k < i ∧ k < ks.length ∧ k < 12 ∧ y = (k : Int) := by have := HN.out; have := HK.out; omega
            have d1 : decide (y < (ks.length : Int)) = true := decide_eq_true (by omega)
            have d2 : decide (y < 12) = true := decide_eq_true (by omega)
            obtain ⟨ad, e, hx⟩ := Kd.at_int (Kd.C_below HR0.out HB.out) y (by omega) (by omega)
            have p0 : (0 ≤ y) = True := eq_true (by omega)
            have q0 : (y < (ks.length : Int)) = True := eq_true (by omega)
            have hbx := HRD.out k (by omega)
            rw [← hkN.2.2.2] at hbx
            obtain ⟨x, hxe⟩ : ∃ x, x = rd ks y := ⟨_, rfl⟩
            rw [← hxe] at hx hbx
            obtain ⟨V, hV⟩ : ∃ V, V = v % 60000 := ⟨_, rfl⟩
            obtain ⟨T, hT⟩ : ∃ T, T = V + y := ⟨_, rfl⟩
            have hTj : 0 ≤ T ∧ T < 65536 := by have := M0.out; omega
            have hTw : wrap64 (V + y) = T := by rw [← hT]; exact wrap64_in (by omega) (by omega)
            have hFk : fr T y (pk x v) = F k := by rw [HF.out k, hT, hV, hkN.2.2.2, hxe, hkN.2.2.2]
            obtain ⟨m6, hm6⟩ : ∃ m6, m6 = (F k).length := ⟨_, rfl⟩
            have hcut : cutl (F k ++ cats F g1 (k + 1)) = (T, y, pk x v, (m6 : Int), 0) := by
              rw [← hFk, cut_fr T y x v hTj (by omega) hbx HV.out, hm6, ← hFk, (fr_ok T y x v hTj (by omega) hbx HV.out).2.1]
              rw [Int.natCast_add]
              rfl
            obtain ⟨n', hn'⟩ : ∃ n', n' = (cats F g1 (k + 1)).length := ⟨_, rfl⟩
            have hnn : n = m6 + n' := by rw [HK.out.2.2, cats, List.length_append, ← hm6, ← hn']
            have hm8 : 8 ≤ m6 ∧ m6 ≤ 260 := by have := HOK.out k hkN.1; omega
            have hall := HCAT.out (g1 + 1) k (by have := HK.out.1; omega)
            have d3 : decide ((n : Int) < (m6 : Int)) = false := decide_eq_false (by omega)
            have d5 : decide (n < m6) = false := decide_eq_false (by omega)
            have d6 : decide (m6 < 8) = false := decide_eq_false (by omega)
            have d4 : decide ((m6 : Int) < 8) = false := decide_eq_false (by omega)
            obtain ⟨A9, hA9, hsl⟩ := cut_low_any A m6 n c (by omega) HC.out.2
            rw [show n - m6 = n' by omega] at hA9 hsl
            have hC9 := C_cut HC.out.1 m6 n' (by omega) A9 hA9
            rw [cats, hm6, List.drop_left, hn', List.take_length, ← hn'] at hC9
            have X1 := Lib.hid hkN
            have X2 := Lib.hid hbx
            have X3 := Lib.hid hV
            have X4 := Lib.hid hcut
            have X5 := Lib.hid hn'
            have X6 := Lib.hid hnn
            have X7 := Lib.hid hall
            have X8 := Lib.hid (And.intro hC9 (show n' ≤ c - m6 from by have := HC.out.2; omega))
            have HKK := Lib.hid HK.out
            clear hkN hbx hxe hV hT hTj hFk hm6 hcut hn' hnn hm8 hall hA9 hC9 HK
            subst e
            go_wp2_with (fail)
            refine (ask_c x v X2.out HV.out _).mono ?_
            rintro e w2 ⟨a, rfl, hA, hb⟩
            have A2 := Lib.hid hA
            have G2 := Lib.hid hb
            clear hA hb
            go_wp2_with (fail)
            refine (askbytes_c _ a _ A2.out).mono ?_
            rintro e w3 ⟨A3, c3, rfl, hC, hc, hb⟩
            have G3 := Lib.hid (below_then G2.out G2.out.size hb)
            have C3 := Lib.hid hC
            obtain ⟨n3, hn3⟩ : ∃ n3, n3 = (pk x v).length := ⟨_, rfl⟩
            rw [← hn3]
            have L3 := Lib.hid hn3
            clear hC hc hb A2 G2 hn3
            go_wp2_with (fail)
            refine (aducut_c (cats F (g1 + 1) k) (by have := X7.out.1; have := HKK.out; have := HN.out; omega) X7.out.2 n HKK.out.2.2 A c _ (Kd.C_below HC.out.1 G3.out) HC.out.2 T y (pk x v) (m6 : Int) 0 X4.out).mono ?_
            rintro e w4 ⟨A4, c4, rfl, hC, hc, hb⟩
            rw [← L3.out]
            have G4 := Lib.hid (below_then G3.out G3.out.size hb)
            have s1 := Kd.C_below C3.out hb
            rw [← L3.out] at s1 hC
            have S1 := Lib.hid s1
            have S2 := Lib.hid hC
            have hs1 : ∀ o n, (convert 30 9 (.slice A4 n3 c4)).run Try.prog ((w4.alloc o).drewN n) = .ok (.string (strOfNums (pk x v))) ((w4.alloc o).drewN n) := fun o n => Kd.C_string (P := Try.prog) Try.underlying30 Try.underlying5 Try.underlying9 (A := A4) (c := c4) (Kd.C_drewN (Kd.C_alloc S2.out o) n)
            have hs2 : ∀ o n, (convert 30 9 (.slice A3 n3 c3)).run Try.prog ((w4.alloc o).drewN n) = .ok (.string (strOfNums (pk x v))) ((w4.alloc o).drewN n) := fun o n => Kd.C_string (P := Try.prog) Try.underlying30 Try.underlying5 Try.underlying9 (A := A3) (c := c3) (Kd.C_drewN (Kd.C_alloc S1.out o) n)
            clear hC hc hb G3 C3 s1
            go_wp2_with (fail)
            have hT2 : IntKind.i64.wrap (v % 60000 + y) = T := by rw [← X3.out, i64_w]; exact hTw
            go_quiet (first | (go_at_call 12; refine Calls.quiet_of (within_calls v 60000 (by omega) (by omega) _)))
            go_wp2
            go_roundg g1
            case measure => omega
            case rel =>
              rw [wrap64_in (by have := X1.out; omega) (by have := X1.out; omega)]
              have hb9 := Kd.C_below X8.out.1 G4.out
              exact ⟨k + 1, n', c - m6, A9, y + 1, rfl, rfl, ⟨by have := HKK.out.1; omega, by have := X1.out; omega, X5.out⟩, ⟨Kd.C_drewN (Kd.C_alloc hb9 _) _, X8.out.2⟩, ⟨pw_below_drewN ((below_then HB.out HB.out.size G4.out).alloc (below_then HB.out HB.out.size G4.out).size _) _⟩⟩
    | succ g1 =>
      have d1 : decide (j < (ks.length : Int)) = true := decide_eq_true (by have := HN.out; omega)
      have d2 : decide (j < 12) = true := decide_eq_true (by have := HN.out; omega)
      obtain ⟨ad, e, hx⟩ := Kd.at_int (Kd.C_below HR0.out HB.out) j (by omega) (by have := HN.out; omega)
      have p0 : (0 ≤ j) = True := eq_true (by omega)
      have q0 : (j < (ks.length : Int)) = True := eq_true (by have := HN.out; omega)
      have hbx := HRD.out i (by omega)
      rw [← hj] at hbx
      obtain ⟨x, hxe⟩ : ∃ x, x = rd ks j := ⟨_, rfl⟩
      rw [← hxe] at hx hbx
      have XE := Lib.hid hxe
      have BX := Lib.hid hbx
      have HI := Lib.hid hi
      have HJ := Lib.hid hj
      clear hxe hbx hi hj
      subst e
      obtain ⟨V, hV⟩ : ∃ V, V = v % 60000 := ⟨_, rfl⟩
      obtain ⟨T, hT⟩ : ∃ T, T = V + j := ⟨_, rfl⟩
      have hTj : 0 ≤ T ∧ T < 65536 := by have := M0.out; have := HJ.out; have := HN.out; have := HI.out; omega
      have hTw : wrap64 (V + j) = T := by rw [← hT]; exact wrap64_in (by omega) (by omega)
      have hTm : T % 65536 = T := Int.emod_eq_of_lt (by omega) (by omega)
      have H1 := Lib.hid hV
      have H2 := Lib.hid hT
      have H3 := Lib.hid hTj
      have H4 := Lib.hid hTm
      clear hV hT hTj hTm
      go_wp2_with (fail)
      refine (ask_c x v BX.out HV.out _).mono ?_
      rintro e w2 ⟨a, rfl, hA, hb⟩
      have A2 := Lib.hid hA
      have B2 := Lib.hid (below_then HB.out HB.out.size hb)
      have O2 := Lib.hid (Kd.R_below HO.out hb)
      clear hA hb HO HB
      go_wp2_with (fail)
      refine (askbytes_c _ a _ A2.out).mono ?_
      rintro e w3 ⟨A3, c3, rfl, hC, hc, hb⟩
      have B3 := Lib.hid (below_then B2.out B2.out.size hb)
      have O3 := Lib.hid (Kd.R_below O2.out hb)
      have C3 := Lib.hid (And.intro hC hc)
      obtain ⟨n3, hn3⟩ : ∃ n3, n3 = (pk x v).length := ⟨_, rfl⟩
      rw [← hn3] at hC ⊢
      have L3 := Lib.hid hn3
      clear hC hc hb A2 B2 O2 hn3
      go_wp2_with (fail)
      refine (within_b v 60000 (by omega) (by omega) _).mono ?_
      rintro e w4 ⟨rfl, hb⟩
      rw [← H1.out]
      have B4 := Lib.hid (below_then B3.out B3.out.size hb)
      have O4 := Lib.hid (Kd.R_below O3.out hb)
      have C4 := Lib.hid (And.intro (Kd.C_below C3.out.1 hb) C3.out.2)
      clear hb B3 O3 C3
      go_wp2_with (fail)
      refine (within_b T 65536 (by omega) (by omega) _).mono ?_
      rintro e w5 ⟨rfl, hb⟩
      rw [H4.out]
      have B5 := Lib.hid (below_then B4.out B4.out.size hb)
      have O5 := Lib.hid (Kd.R_below O4.out hb)
      have C5 := Lib.hid (And.intro (Kd.C_below C4.out.1 hb) C4.out.2)
      clear hb B4 O4 C4
      go_wp2_with (fail)
      refine (adubytes_c T j x v H3.out (by have := HJ.out; have := HN.out; have := HI.out; omega) BX.out HV.out n3 L3.out A3 c3 _ (by have := C5.out.1; rwa [← L3.out] at this) (by have := C5.out.2; rwa [← L3.out] at this)).mono ?_
      rintro e w6 ⟨A6, c6, rfl, hR, hb⟩
      have hFi : fr T j (pk x v) = F i := by rw [HF.out i, H2.out, H1.out, HJ.out, XE.out, HJ.out]
      rw [hFi] at hR ⊢
      have B6 := Lib.hid (below_then B5.out B5.out.size hb)
      have O6 := Lib.hid (Kd.R_below O5.out hb)
      have R6 := Lib.hid hR
      obtain ⟨n6, hn6⟩ : ∃ n6, n6 = (F i).length := ⟨_, rfl⟩
      rw [← hn6] at R6 ⊢
      have L6 := Lib.hid hn6
      have hC6 := (Kd.R_reads' R6.out).2.2
      rw [← L6.out] at hC6
      have C6 := Lib.hid hC6
      have N6 := Lib.hid (show (cats F i 0).length + n6 ≤ 100000 from by have h1 := (HCAT.out i 0 (by have := HI.out; omega)).1; have h2 := (HOK.out i (by have := HI.out; omega)).2.2.2.1; have := HN.out; have := HI.out; have := L6.out; omega)
      clear hb B5 O5 C5 hFi hR hn6 hC6
      go_wp2_with ((with_reducible refine gate_builtin (b := .append) (xs := #[.tmp 56, .tmp 57]) (ts := #[30, 30]) rfl ?_); refine Kd.R_append_rows (Kd.int .u8) (w0 := w) w.heap.size rfl (.tmp 56) (.tmp 57) 30 5 (.int .u8 0) 1 rfl Try.underlying30 (by kernel_rfl) rfl (by decide) (by omega) _ (cats F i 0) (F i) _ _ _ (fun _ => True) (fun _ => False) rfl rfl O6.out C6.out (fun _ _ h => h) (fun _ h => h.elim) (fun _ _ => trivial) B6.out B6.out.size (by have := N6.out; omega) ?_; intro v7 w7 hO hb hg hnew)
      have hsn := cats_snoc F i 0
      rw [Nat.zero_add] at hsn
      rw [← hsn] at hO
      have B7 := Lib.hid hb
      have O7 := Lib.hid hO
      have W7 := Lib.hid (show wrap64 (j + 1) = j + 1 from wrap64_in (by have := HJ.out; omega) (by have := HJ.out; have := HI.out; have := HN.out; omega))
      clear hO hb hg hnew hsn B6 O6 R6 C6
      go_wp2
      go_roundg g1
      case measure => omega
      case rel =>
        rw [W7.out]
        exact ⟨i + 1, j + 1, by have := HI.out; omega, by have := HJ.out; omega, rfl, ⟨O7.out⟩, ⟨B7.out⟩⟩
end Go.Proofs.Ytakiojmjalbfpaa.Ring
namespace Go.Proofs.Ytakiojmjalbfpaa.PFlow
open Go.RowKit Go.Proofs.YtakiojmjalbfpaaW.PrintWords Go.Proofs.YtakiojmjalbfpaaW.PrintLast Go.Proofs.YtakiojmjalbfpaaW.PrintMore
attribute [local go_sem] max2_int min2_int max_two min_two max_three min_three max_four min_four plus_setCell_drewN plus_cell_same   -- for this text's walks alone
set_option linter.unusedVariables false
set_option linter.unusedSimpArgs false
def busbarlaw8_AduRow.f (l0 : List Int) (a1 : Int) : Option Bool := if l0.all (fun x => (Lit.int .i64 x).wf) && (Lit.int .i64 a1).wf then some true else none
theorem busbarlaw8_AduRow.calls (A0 : Option Addr) (c0 : Nat) (l0 : List Int) (a1 : Int) (r : Bool) (w : World) (hr0 : Kd.C (Kd.int .i64) w A0 l0.length l0) (hc0 : l0.length ≤ c0) (h : busbarlaw8_AduRow.f l0 a1 = some r) : Calls Try.prog 6 #[.slice A0 l0.length c0, .int .i64 a1] w fun e w' => e = .returned (.bool r) ∧ Below w.heap.size w w' := by
 unfold busbarlaw8_AduRow.f at h
 split at h
 ·
  rename_i hg
  obtain rfl := Option.some.inj h
  rw [Bool.and_eq_true, List.all_eq_true] at hg
  exact Go.Proofs.Ytakiojmjalbfpaa.Ring.AduRow_calls A0 c0 l0 a1 w hr0 hc0 (fun x hx => Go.Proofs.Ytakiojmjalbfpaa.Num.wf_i64 (hg.1 x hx)) (Go.Proofs.Ytakiojmjalbfpaa.Num.wf_i64 hg.2)
 ·
  cases h
def busbarlaw8_AduRow.Pure : Prop := ∀ (l0 : List Int) (a1 : Int), l0.length ≤ maxLen → l0.length * 8 ≤ 140737488351232 → (∀ x ∈ l0, (Lit.int .i64 x).wf = true) → (Lit.int .i64 a1).wf = true → busbarlaw8_AduRow.f l0 a1 = some true
theorem busbarlaw8_AduRow.walk (P : busbarlaw8_AduRow.Pure) (a0 : Option Addr) (len0 cap0 : Nat) (z0 : List Int) (a1 : Int) (w : World) (w0 : (a0 = none ∧ len0 = 0 ∧ cap0 = 0 ∧ z0 = []) ∨ ∃ x, a0 = some x ∧ len0 ≤ cap0 ∧ cap0 ≤ maxLen ∧ z0.length = cap0 ∧ (∀ i, i < z0.length → w.cell? (x.add i) = some (.int .i64 (z0.getD i 0))) ∧ ∀ n ∈ z0, (Lit.int .i64 n).wf = true) (y0 : len0 * 8 ≤ 140737488351232) (w1 : (Lit.int .i64 a1).wf = true) :
  Calls Try.prog 6 #[.slice a0 len0 cap0, .int .i64 a1] w fun e w' => e = .returned (.bool true) ∧ Below w.heap.size w w' := by
 obtain ⟨l0, rfl, hr0, hm0, hw0, hc0⟩ := ReadsInt.ofRowC w0
 have h := P l0 a1 hm0 y0 hw0 w1
 refine (busbarlaw8_AduRow.calls _ _ l0 a1 true w (Kd.C_of_reads (d := (0 : Int)) (h1 := fun _ => rfl) hr0) hc0 h).mono ?_
 rintro e w' ⟨rfl, hd⟩
 exact ⟨rfl, hd⟩
end Go.Proofs.Ytakiojmjalbfpaa.PFlow
namespace Go.Proofs.Ytakiojmjalbfpaa.Pure
open Go.RowKit Go.Proofs.Ytakiojmjalbfpaa.PFlow
theorem AduRow : busbarlaw8_AduRow.Pure := by
  unfold busbarlaw8_AduRow.Pure
  intro ks v _ _ hks hv
  unfold busbarlaw8_AduRow.f
  rw [if_pos]
  rw [Bool.and_eq_true, List.all_eq_true]
  exact ⟨fun x hx => hks x hx, hv⟩
end Go.Proofs.Ytakiojmjalbfpaa.Pure
