/- Words and walks for TopBlind (made of the session's own texts; each part by itself). -/
import Derived.Deep.DeepCutAuto
import Derived.Deep.DeepMust
import Derived.Deep.RegionLaw
import Derived.Test.YtlalbohhopmpdaaGreatZTopBlind20
set_option maxRecDepth 100000
set_option maxHeartbeats 8000000
set_option linter.unusedVariables false
set_option linter.unusedSimpArgs false
namespace Go.Proofs.YtlalbohhopmpdaaGreat.Top
open Go.RowKit Go.Proofs.YtlalbohhopmpdaaGreat.PTop Go.YW.PrintWords Go.YW.PrintLast Go.YW.PrintMore Go.Proofs.YtlalbohhopmpdaaGreat.Num Go.Proofs.YtlalbohhopmpdaaGreat.LemHeadTop Go.Proofs.YtlalbohhopmpdaaGreat.Tiny
attribute [local go_sem] zk zo
theorem VB (w : World) (u : Int) : Kd.C (Kd.int .u8) (w.alloc (.cells #[.int .u8 u] 5)) (some ⟨w.heap.size, 0, none⟩) 1 [u] :=
  (Kd.zB (Vh (W := w) (Kd.int .u8) 0 5 (xs := [u]) (inner := [.int .u8 u]) (Kd.Yv [u]) (Nat.zero_le _) (by simp))).2.2
theorem ZG (w0 w : World) (A : Option Addr) (c m n : Nat) (l r : List Int) (x : Int) (hm : m = l.length) (hr : Kd.R (Kd.int .u8) 5 w w0.heap.size (fun _ => True) (.slice A m c) l) (hB : Below w0.heap.size w0 w) (h : yH.f l x = some r) (hn : r.length = n) :
    Calls Tryz.prog 118 #[.slice A m c, .int .i64 x] w fun e w' => ∃ A c, e = .returned (.slice A n c) ∧ Kd.R (Kd.int .u8) 5 w' w0.heap.size (fun _ => True) (.slice A n c) r ∧ Below w0.heap.size w0 w' ∧ Below w.heap.size w w' := by
  subst hm hn
  refine (yH.calls A c l x r _ (Kd.zB hr).2.2 (Kd.zB hr).2.1 h).mono ?_
  rintro e w1 ⟨v, rfl, h1, hb⟩
  obtain ⟨A1, c1, rfl⟩ := Kd.yc h1
  exact ⟨A1, c1, rfl, Kd.zU h1 hB.size, zf hB hB.size hb, hb⟩
theorem zaj (w : World) (t l u : Int) (ht : 0 ≤ t ∧ t < 65536) (hl : 2 ≤ l ∧ l ≤ 254) (hu : 0 ≤ u ∧ u < 256) :
    Calls Tryz.prog 122 #[.agg #[.int .i64 t, .int .i64 l, .int .i64 u]] w fun e w' => ∃ A c, e = .returned (.tuple #[.slice A 7 c, .int .i64 0]) ∧ Kd.R (Kd.int .u8) 5 w' w.heap.size (fun _ => True) (.slice A 7 c) [t / 256, t % 256, 0, 0, 0, l, u] ∧ Below w.heap.size w w' := by
  have hu110 := Tryz.underlying110
  have hu59 := Tryz.underlying59
  have X1 := hQ (zi w (.cells #[.int .i64 t, .int .i64 l, .int .i64 u] 110 (0, 0)))
  have B1 := hQ (show Below w.heap.size w (w.alloc (.cells #[.int .i64 t, .int .i64 l, .int .i64 u] 110)) from (Below.refl _ _).alloc (Nat.le_refl _) _)
  obtain ⟨x0, x1, x2⟩ := zS X1.out
  have HT := hQ (zaN t ht)
  have HU := hQ (show xY.f u = some true by unfold xY.f; rw [if_pos (by omega), decide_eq_true (by omega)])
  have d1 : decide (l < 2) = false := decide_eq_false (by omega)
  have d2 : decide (l > 254) = false := decide_eq_false (by omega)
  have hw8 : IntKind.u8.wrap u = u := by show u % 256 = u; omega
  have T2 := hQ (ZC [] t ht (by simp))
  have T3 := hQ (ZC [t / 256, t % 256] 0 (by omega) (by simp))
  have T6 := hQ (show yH.f [t / 256, t % 256, 0, 0] l = some [t / 256, t % 256, 0, 0, 0, l] by rw [ZC [t / 256, t % 256, 0, 0] l (by omega) (by simp), show l / 256 = 0 by omega, show l % 256 = l by omega]; rfl)
  clear ht hl hu
  go_enter Tryz.func122, Tryz.ntmps122
  go_wp2_with (fail)
  refine (qh.calls t true _ HT.out).mono ?_
  rintro e w2 ⟨rfl, hd⟩
  have B2 := hQ (zf B1.out B1.out.size hd.below)
  have X2 := hQ (zb X1.out hd.below)
  clear hd x0 x1 x2
  obtain ⟨x0, x1, x2⟩ := zS X2.out
  go_wp2_with (fail)
  refine (xY.calls u true _ HU.out).mono ?_
  rintro e w3 ⟨rfl, hd⟩
  have B4 := hQ (zf B2.out B2.out.size (Below.trans hd.below (zl (Below.refl _ _))))
  have X4 := hQ (zb (zb X2.out hd.below) (zl (Below.refl w3.heap.size w3)))
  have R4 := hQ (Kd.ql (Kd.int .u8) 5 w3.drew w.heap.size (fun _ => True))
  clear hd x0 x1 x2
  go_wp2_with (fail)
  refine sq_ (ds := [11]) #[false, false, false, false, false, false, false, false, false, false, false, false, false, false] (fun w' => w'.cell? ⟨w.heap.size, 0, none⟩ = some (.int .i64 t) ∧ w'.cell? ⟨w.heap.size, 1, none⟩ = some (.int .i64 l) ∧ w'.cell? ⟨w.heap.size, 2, none⟩ = some (.int .i64 u)) (zS X4.out) (fun hHeld => ?_)
  refine pq_ 0 (some 24) ?_
  refine pq_ 4 (some 28) ?_
  refine pq_ 7 (some 31) ?_
  refine tq_ 1 (some 25) hHeld ?_
  refine tq_ 5 (some 29) hHeld ?_
  refine tq_ 8 (some 32) hHeld ?_
  refine pq_ 9 (some 33) ?_
  refine WZ (σ := Option Addr × Nat × Option Addr × Nat × Option Addr × Nat × Nat) 3 #[true, true, true, true, true, true, true, true, true, true, true, false, false, false] (fun s => [(26, .slice s.1 2 s.2.1), (27, .slice s.2.2.1 4 s.2.2.2.1), (30, .slice s.2.2.2.2.1 6 s.2.2.2.2.2.1), (34, .slice (some ⟨s.2.2.2.2.2.2, 0, none⟩) 1 1)]) (fun s w' => w'.heap[w.heap.size]? = some (.cells #[.int .i64 t, .int .i64 l, .int .i64 u] 110 (0, 0)) ∧ Below w.heap.size w w' ∧ Kd.R (Kd.int .u8) 5 w' w.heap.size (fun _ => True) (.slice s.2.2.2.2.1 6 s.2.2.2.2.2.1) [t / 256, t % 256, 0, 0, 0, l] ∧ Kd.C (Kd.int .u8) w' (some ⟨s.2.2.2.2.2.2, 0, none⟩) 1 [u]) ?_ ?_
  rotate_left
  · intro hCont
    refine zaX (i := 2) (j := 10) (Ni := some 26) (Nj := some 34) #[true, true, true, false, true, true, false, true, true, true, false, false, false, false] #[true, true, false, false, true, true, false, true, true, true, true, false, false, false] rfl rfl rfl rfl (by kernel_rfl) (by decide) (by decide) (fun K hK => ?_) (fun K hK => ?_)
    · skip
      refine yh Tryz.func118 (by kernel_rfl) rfl #[.slice none 0 0, .int .i64 t] (by rfl) rfl rfl (by (try simp only [List.map_toArray, List.map_cons, List.map_nil]); first | done | rfl) ?_
      refine (ZG w _ none 0 0 2 _ _ t rfl R4.out B4.out T2.out rfl).mono ?_
      rintro e w5 ⟨A2, c2, rfl, hr, hB, hb⟩
      refine ⟨_, rfl, ?_⟩
      have X5 := hQ (zb X4.out hb)
      have B5 := hQ hB
      have R5 := hQ hr
      clear hr hB hb
      refine hK.out _ _ (zS X5.out) (fun hHeld => ?_)
      clear hK K
      refine nq_ ?_
      refine zaX (i := 3) (j := 10) (Ni := some 27) (Nj := some 34) #[true, true, true, true, true, true, false, true, true, true, false, false, false, false] #[true, true, true, false, true, true, false, true, true, true, true, false, false, false] rfl rfl rfl rfl (by kernel_rfl) (by decide) (by decide) (fun K hK => ?_) (fun K hK => ?_)
      · skip
        refine yh Tryz.func118 (by kernel_rfl) rfl #[.slice A2 2 c2, .int .i64 0] (by rfl) rfl rfl (by (try simp only [List.map_toArray, List.map_cons, List.map_nil]); first | done | rfl) ?_
        refine (ZG w _ A2 c2 2 4 _ _ 0 rfl R5.out B5.out T3.out rfl).mono ?_
        rintro e w6 ⟨A3, c3, rfl, hr, hB, hb⟩
        refine ⟨_, rfl, ?_⟩
        have X6 := hQ (zb X5.out hb)
        have B6 := hQ hB
        have R6 := hQ hr
        clear hr hB hb
        refine hK.out _ _ (zS X6.out) (fun hHeld => ?_)
        clear hK K
        refine nq_ ?_
        refine zaX (i := 6) (j := 10) (Ni := some 30) (Nj := some 34) #[true, true, true, true, true, true, true, true, true, true, false, false, false, false] #[true, true, true, true, true, true, false, true, true, true, true, false, false, false] rfl rfl rfl rfl (by kernel_rfl) (by decide) (by decide) (fun K hK => ?_) (fun K hK => ?_)
        · skip
          refine yh Tryz.func118 (by kernel_rfl) rfl #[.slice A3 4 c3, .int .i64 l] (by rfl) rfl rfl (by (try simp only [List.map_toArray, List.map_cons, List.map_nil]); first | done | rfl) ?_
          refine (ZG w _ A3 c3 4 6 _ _ l rfl R6.out B6.out T6.out rfl).mono ?_
          rintro e w7 ⟨A6, c6, rfl, hr, hB, hb⟩
          refine ⟨_, rfl, ?_⟩
          have X7 := hQ (zb X6.out hb)
          have B7 := hQ hB
          have R7 := hQ hr
          clear hr hB hb
          refine hK.out _ _ (zS X7.out) (fun hHeld => ?_)
          clear hK K
          refine nq_ ?_
          refine oq_ 10 (some 34) (fun K hK => ?_)
          refine jZ (w1 := ?_) (v := ?_) (by rfl) rfl ?_ ?_
          rotate_left 2
          · go_simp
            constructor
            · rfl
            · rfl
          have hb8 : Below w7.heap.size w7 (w7.alloc (.cells #[.int .u8 u] 5)) := (Below.refl _ _).alloc (Nat.le_refl _) _
          have X8 := hQ (zb X7.out hb8)
          have B8 := hQ (zf B7.out B7.out.size hb8)
          have R8 := hQ (Kd.zz R7.out hb8)
          have D8 := hQ (VB w7 u)
          clear hb8
          refine hK.out _ _ (zS X8.out) (fun hHeld => ?_)
          clear hK K
          refine nq_ ?_
          exact kH (by simp only [je, Act.put, List.setIfInBounds_toArray, List.set_cons_zero, List.set_cons_succ]) (hCont (A2, c2, A3, c3, A6, c6, w7.heap.size) _ ⟨X8.out, B8.out, R8.out, D8.out⟩)
        · skip
          refine jZ (w1 := ?_) (v := ?_) (by rfl) rfl ?_ ?_
          rotate_left 2
          · go_simp
            constructor
            · rfl
            · rfl
          have hb8 : Below w6.heap.size w6 (w6.alloc (.cells #[.int .u8 u] 5)) := (Below.refl _ _).alloc (Nat.le_refl _) _
          have X7 := hQ (zb X6.out hb8)
          have B7 := hQ (zf B6.out B6.out.size hb8)
          have R7 := hQ (Kd.zz R6.out hb8)
          have D7 := hQ (VB w6 u)
          clear hb8
          refine hK.out _ _ (zS X7.out) (fun hHeld => ?_)
          clear hK K
          refine nq_ ?_
          refine oq_ 6 (some 30) (fun K hK => ?_)
          refine yh Tryz.func118 (by kernel_rfl) rfl #[.slice A3 4 c3, .int .i64 l] (by rfl) rfl rfl (by (try simp only [List.map_toArray, List.map_cons, List.map_nil]); first | done | rfl) ?_
          refine (ZG w _ A3 c3 4 6 _ _ l rfl R7.out B7.out T6.out rfl).mono ?_
          rintro e w8 ⟨A6, c6, rfl, hr, hB, hb⟩
          refine ⟨_, rfl, ?_⟩
          have X8 := hQ (zb X7.out hb)
          have B8 := hQ hB
          have R8 := hQ hr
          have D8 := hQ (Kd.zx D7.out hb)
          clear hr hB hb
          refine hK.out _ _ (zS X8.out) (fun hHeld => ?_)
          clear hK K
          refine nq_ ?_
          exact kH (by simp only [je, Act.put, List.setIfInBounds_toArray, List.set_cons_zero, List.set_cons_succ]) (hCont (A2, c2, A3, c3, A6, c6, w6.heap.size) _ ⟨X8.out, B8.out, R8.out, D8.out⟩)
      · skip
        refine jZ (w1 := ?_) (v := ?_) (by rfl) rfl ?_ ?_
        rotate_left 2
        · go_simp
          constructor
          · rfl
          · rfl
        have hb8 : Below w5.heap.size w5 (w5.alloc (.cells #[.int .u8 u] 5)) := (Below.refl _ _).alloc (Nat.le_refl _) _
        have X6 := hQ (zb X5.out hb8)
        have B6 := hQ (zf B5.out B5.out.size hb8)
        have R6 := hQ (Kd.zz R5.out hb8)
        have D6 := hQ (VB w5 u)
        clear hb8
        refine hK.out _ _ (zS X6.out) (fun hHeld => ?_)
        clear hK K
        refine nq_ ?_
        refine oq_ 3 (some 27) (fun K hK => ?_)
        refine yh Tryz.func118 (by kernel_rfl) rfl #[.slice A2 2 c2, .int .i64 0] (by rfl) rfl rfl (by (try simp only [List.map_toArray, List.map_cons, List.map_nil]); first | done | rfl) ?_
        refine (ZG w _ A2 c2 2 4 _ _ 0 rfl R6.out B6.out T3.out rfl).mono ?_
        rintro e w7 ⟨A3, c3, rfl, hr, hB, hb⟩
        refine ⟨_, rfl, ?_⟩
        have X7 := hQ (zb X6.out hb)
        have B7 := hQ hB
        have R7 := hQ hr
        have D7 := hQ (Kd.zx D6.out hb)
        clear hr hB hb
        refine hK.out _ _ (zS X7.out) (fun hHeld => ?_)
        clear hK K
        refine nq_ ?_
        refine oq_ 6 (some 30) (fun K hK => ?_)
        refine yh Tryz.func118 (by kernel_rfl) rfl #[.slice A3 4 c3, .int .i64 l] (by rfl) rfl rfl (by (try simp only [List.map_toArray, List.map_cons, List.map_nil]); first | done | rfl) ?_
        refine (ZG w _ A3 c3 4 6 _ _ l rfl R7.out B7.out T6.out rfl).mono ?_
        rintro e w8 ⟨A6, c6, rfl, hr, hB, hb⟩
        refine ⟨_, rfl, ?_⟩
        have X8 := hQ (zb X7.out hb)
        have B8 := hQ hB
        have R8 := hQ hr
        have D8 := hQ (Kd.zx D7.out hb)
        clear hr hB hb
        refine hK.out _ _ (zS X8.out) (fun hHeld => ?_)
        clear hK K
        refine nq_ ?_
        exact kH (by simp only [je, Act.put, List.setIfInBounds_toArray, List.set_cons_zero, List.set_cons_succ]) (hCont (A2, c2, A3, c3, A6, c6, w5.heap.size) _ ⟨X8.out, B8.out, R8.out, D8.out⟩)
    · skip
      refine jZ (w1 := ?_) (v := ?_) (by rfl) rfl ?_ ?_
      rotate_left 2
      · go_simp
        constructor
        · rfl
        · rfl
      have hb8 : Below w3.drew.heap.size w3.drew (w3.drew.alloc (.cells #[.int .u8 u] 5)) := (Below.refl _ _).alloc (Nat.le_refl _) _
      have X5 := hQ (zb X4.out hb8)
      have B5 := hQ (zf B4.out B4.out.size hb8)
      have R5 := hQ (Kd.zz R4.out hb8)
      have D5 := hQ (VB w3.drew u)
      clear hb8
      refine hK.out _ _ (zS X5.out) (fun hHeld => ?_)
      clear hK K
      refine nq_ ?_
      refine oq_ 2 (some 26) (fun K hK => ?_)
      refine yh Tryz.func118 (by kernel_rfl) rfl #[.slice none 0 0, .int .i64 t] (by rfl) rfl rfl (by (try simp only [List.map_toArray, List.map_cons, List.map_nil]); first | done | rfl) ?_
      refine (ZG w _ none 0 0 2 _ _ t rfl R5.out B5.out T2.out rfl).mono ?_
      rintro e w6 ⟨A2, c2, rfl, hr, hB, hb⟩
      refine ⟨_, rfl, ?_⟩
      have X6 := hQ (zb X5.out hb)
      have B6 := hQ hB
      have R6 := hQ hr
      have D6 := hQ (Kd.zx D5.out hb)
      clear hr hB hb
      refine hK.out _ _ (zS X6.out) (fun hHeld => ?_)
      clear hK K
      refine nq_ ?_
      refine oq_ 3 (some 27) (fun K hK => ?_)
      refine yh Tryz.func118 (by kernel_rfl) rfl #[.slice A2 2 c2, .int .i64 0] (by rfl) rfl rfl (by (try simp only [List.map_toArray, List.map_cons, List.map_nil]); first | done | rfl) ?_
      refine (ZG w _ A2 c2 2 4 _ _ 0 rfl R6.out B6.out T3.out rfl).mono ?_
      rintro e w7 ⟨A3, c3, rfl, hr, hB, hb⟩
      refine ⟨_, rfl, ?_⟩
      have X7 := hQ (zb X6.out hb)
      have B7 := hQ hB
      have R7 := hQ hr
      have D7 := hQ (Kd.zx D6.out hb)
      clear hr hB hb
      refine hK.out _ _ (zS X7.out) (fun hHeld => ?_)
      clear hK K
      refine nq_ ?_
      refine oq_ 6 (some 30) (fun K hK => ?_)
      refine yh Tryz.func118 (by kernel_rfl) rfl #[.slice A3 4 c3, .int .i64 l] (by rfl) rfl rfl (by (try simp only [List.map_toArray, List.map_cons, List.map_nil]); first | done | rfl) ?_
      refine (ZG w _ A3 c3 4 6 _ _ l rfl R7.out B7.out T6.out rfl).mono ?_
      rintro e w8 ⟨A6, c6, rfl, hr, hB, hb⟩
      refine ⟨_, rfl, ?_⟩
      have X8 := hQ (zb X7.out hb)
      have B8 := hQ hB
      have R8 := hQ hr
      have D8 := hQ (Kd.zx D7.out hb)
      clear hr hB hb
      refine hK.out _ _ (zS X8.out) (fun hHeld => ?_)
      clear hK K
      refine nq_ ?_
      exact kH (by simp only [je, Act.put, List.setIfInBounds_toArray, List.set_cons_zero, List.set_cons_succ]) (hCont (A2, c2, A3, c3, A6, c6, w3.heap.size) _ ⟨X8.out, B8.out, R8.out, D8.out⟩)
  rintro ⟨A2, c2, A3, c3, A6, c6, g9⟩ w9 ⟨x9, b9, r9, d9⟩
  have hHeld := zS x9
  have X9 := hQ x9
  have B9 := hQ b9
  have R9 := hQ r9
  have D9 := hQ d9
  clear x9 b9 r9 d9
  simp only [] at R9 D9
  refine kH (a' := ?_) ?_ ?_
  rotate_left
  · simp only [je, Act.put, List.setIfInBounds_toArray, List.set_cons_zero, List.set_cons_succ]
    rfl
  refine kE (i := 11) (N := some 35) #[true, true, true, true, true, true, true, true, true, true, true, true, false, false] rfl rfl (by kernel_rfl) (by decide) (fun K hK => ?_)
  refine Kd.qA (Kd.int .u8) (w0 := w) w.heap.size (by rfl) (.tmp 30) (.tmp 34) 59 5 (.int .u8 0) 1 rfl Tryz.underlying59 info5 rfl (by decide) (by omega) (.slice A6 6 c6) [t / 256, t % 256, 0, 0, 0, l] [u] _ _ _ (fun _ => True) (fun _ => False) rfl rfl R9.out D9.out (fun _ _ h => h) (fun _ h => h.elim) (fun _ _ => trivial) B9.out B9.out.size (by simp) ?_
  intro v9 w10 ho hb hg hat
  have B10 := hQ hb
  have R10 := hQ (show Kd.R (Kd.int .u8) 5 w10 w.heap.size (fun _ => True) v9 [t / 256, t % 256, 0, 0, 0, l, u] from ho)
  clear ho hb hg hat
  refine hK.out _ _ ?_
  clear hK K
  refine nq_ ?_
  refine pq_ 12 (some 2) ?_
  refine pq_ 13 (some 3) ?_
  refine xJ (by kernel_rfl) ?_
  obtain ⟨A9, c9, e9⟩ := Kd.yc R10.out
  have e8 : v9 = .slice A9 7 c9 := e9
  clear e9
  subst e8
  go_wp2
  exact bodyPost_ret (v := .tuple #[.slice A9 7 c9, .int .i64 0]) (by simp [results, Tryz.results122, go_sem]) rfl ⟨A9, c9, rfl, R10.out, B10.out⟩
theorem Yr (w : World) (t u : Int) (A : Option Addr) (c n : Nat) (p : List Int) (hn : n = p.length) (hr : Kd.C (Kd.int .u8) w A n p) (hc : n ≤ c) (h1 : 1 ≤ n ∧ n ≤ 253) (ht : 0 ≤ t ∧ t < 65536) (hu : 0 ≤ u ∧ u < 256) :
    Calls Tryz.prog 80 #[.agg #[.int .i64 t, .int .i64 u, .slice A n c]] w fun e w' => ∃ v, e = .returned (.tuple #[v, .int .i64 0]) ∧ Kd.R (Kd.int .u8) 5 w' w.heap.size (fun _ => True) v (hb t ((n : Int) + 1) u ++ p) ∧ Below w.heap.size w w' := by
  have hu68 := Tryz.underlying68
  have hu110 := Tryz.underlying110
  have hu59 := Tryz.underlying59
  have X1 := hQ (zi w (.cells #[.int .i64 t, .int .i64 u, .slice A n c] 68 (0, 0)))
  have B1 := hQ (show Below w.heap.size w (w.alloc (.cells #[.int .i64 t, .int .i64 u, .slice A n c] 68)) from (Below.refl _ _).alloc (Nat.le_refl _) _)
  obtain ⟨x0, x1, x2⟩ := zS X1.out
  have C1 := hQ (Kd.zx hr B1.out)
  have d1 : decide ((n : Int) < 1) = false := decide_eq_false (by omega)
  have d2 : decide ((n : Int) > 253) = false := decide_eq_false (by omega)
  have hw : wrap64 ((n : Int) + 1) = (n : Int) + 1 := zu (by omega) (by omega)
  have HP := hQ (fun w => zaj w t ((n : Int) + 1) u ht (by omega) hu)
  have HN := hQ hn
  have HH := hQ h1
  clear ht hu h1 hn hr hc
  go_enter Tryz.func80, Tryz.ntmps80
  go_wp2_with (fail)
  refine (HP.out _).mono ?_
  rintro e w2 ⟨A2, c2, rfl, hr, hd⟩
  have B2 := hQ (zf B1.out B1.out.size hd)
  have X2 := hQ (zb X1.out hd)
  have C2 := hQ (Kd.zx C1.out hd)
  have R2 := hQ (Kd.zU hr B1.out.size)
  clear hr hd x0 x1 x2
  obtain ⟨x0, x1, x2⟩ := zS X2.out
  go_wp2_with (first | ((with_reducible refine yj (b := .append) (xs := #[.tmp 32, .tmp 34]) (ts := #[59, 59]) rfl ?_); refine Kd.yD (Kd.int .u8) (w0 := w) w.heap.size rfl (.tmp 32) (.tmp 34) 59 5 (.int .u8 0) 1 rfl Tryz.underlying59 info5 rfl (by decide) (by omega) (.slice A2 7 c2) _ p A n c (fun _ => True) (fun _ => False) rfl rfl R2.out C2.out (fun _ _ h => h) (fun _ h => h.elim) (fun _ _ => trivial) B2.out B2.out.size (by have := HH.out; simp; omega) ?_; intro v9 w3 ho hb hg hat; have HO := hQ ho; have HB := hQ hb; clear ho hb hg hat))
  exact bodyPost_ret (v := .tuple #[v9, .int .i64 0]) (by simp [results, Tryz.results80, go_sem]) rfl ⟨v9, rfl, HO.out, HB.out⟩
open Go.RowKit Go.Proofs.YtlalbohhopmpdaaGreat.PTop Go.YW.PrintWords Go.YW.PrintLast Go.YW.PrintMore Go.Proofs.YtlalbohhopmpdaaGreat.Num Go.Proofs.YtlalbohhopmpdaaGreat.LemHeadTop Go.Proofs.YtlalbohhopmpdaaGreat.LemAduTop
def Zy (cells : Array Value) (t u : Int) (p : List Int) : Prop := ∀ W : World, Calls Tryz.prog 42 #[.agg cells, .int .i64 t, .int .i64 u] W fun e w' => ∃ v0_ : Value, e = .returned v0_ ∧ Kd.R (Kd.int .u8) 5 w' W.heap.size (fun _ => True) v0_ p ∧ Below W.heap.size W w'
theorem ji (a n : Int) (h : 0 ≤ a ∧ a < n) : zK.f a n = some a := by
  unfold zK.f
  have h1 : Int.tmod a n = a := Int.tmod_eq_of_lt h.1 h.2
  rw [if_neg (by omega), h1, if_neg (by omega)]
theorem zaM (a n t u : Int) (ha : 0 ≤ a ∧ a < 65536) (hn : 1 ≤ n ∧ n ≤ 125) (ht : 0 ≤ t ∧ t < 65536) (hu : 0 ≤ u ∧ u < 256) : Zy #[.int .i64 3, .int .i64 a, .int .i64 n, .int .u16 0, .int .u16 0, .int .u16 0, .slice none 0 0, .slice none 0 0, .int .i64 0, .int .i64 0, .int .i64 0, .int .i64 0] t u (hb t 6 u ++ [3, a / 256, a % 256, n / 256, n % 256]) := by
  intro w
  have hu37 := Tryz.underlying37
  have X1 := hQ (zi w (.cells #[.int .i64 3, .int .i64 a, .int .i64 n, .int .u16 0, .int .u16 0, .int .u16 0, .slice none 0 0, .slice none 0 0, .int .i64 0, .int .i64 0, .int .i64 0, .int .i64 0] 37))
  obtain ⟨x0, x1, x2, x3, x4, x5, x6, x7, x8, x9, x10, x11⟩ := zV X1.out
  have B1 := hQ (show Below w.heap.size w (w.alloc (.cells #[.int .i64 3, .int .i64 a, .int .i64 n, .int .u16 0, .int .u16 0, .int .u16 0, .slice none 0 0, .slice none 0 0, .int .i64 0, .int .i64 0, .int .i64 0, .int .i64 0] 37)) from (Below.refl _ _).alloc (Nat.le_refl _) _)
  have hP := fun w => Vo w a n ha hn
  have HT := hQ (ji t 65536 ht)
  have HU := hQ (ji u 256 hu)
  have HF := hQ (fun (w : World) A c hr hc => Yr w t u A c 5 [3, a / 256, a % 256, n / 256, n % 256] rfl hr hc (by omega) ht hu)
  simp only [jF] at hP
  go_enter Tryz.func42, Tryz.ntmps42
  go_wp2_with (fail)
  refine (hP _).mono ?_
  rintro e w3 ⟨A3, c3, rfl, hr, hd⟩
  have B3 := hQ (zf B1.out B1.out.size hd)
  have R3 := hQ (Kd.zU hr B1.out.size)
  clear hr hd
  go_wp2_with (fail)
  refine (zK.calls t 65536 t _ HT.out).mono ?_
  rintro e w4 ⟨rfl, hd⟩
  have B4 := hQ (zf B3.out B3.out.size hd.below)
  have R4 := hQ (Kd.zz R3.out hd.below)
  clear hd
  go_wp2_with (fail)
  refine (zK.calls u 256 u _ HU.out).mono ?_
  rintro e w5 ⟨rfl, hd⟩
  have B5 := hQ (zf B4.out B4.out.size hd.below)
  have R5 := hQ (Kd.zz R4.out hd.below)
  clear hd
  go_wp2_with (fail)
  refine (HF.out _ A3 c3 (Kd.zB R5.out).2.2 (Kd.zB R5.out).2.1).mono ?_
  rintro e w6 ⟨v6, rfl, hr, hd⟩
  have B6 := hQ (zf B5.out B5.out.size hd)
  have R6 := hQ (Kd.zU hr B5.out.size)
  clear hr hd
  go_wp2_with (fail)
  exact bodyPost_ret (v := v6) (by simp [results, Tryz.results42, go_sem]) rfl ⟨v6, rfl, R6.out, B6.out⟩
theorem za5 (a v t u : Int) (ha : 0 ≤ a ∧ a < 65536) (hv : 0 ≤ v ∧ v < 65536) (ht : 0 ≤ t ∧ t < 65536) (hu : 0 ≤ u ∧ u < 256) : Zy #[.int .i64 6, .int .i64 a, .int .i64 0, .int .u16 v, .int .u16 0, .int .u16 0, .slice none 0 0, .slice none 0 0, .int .i64 0, .int .i64 0, .int .i64 0, .int .i64 0] t u (hb t 6 u ++ [6, a / 256, a % 256, v / 256, v % 256]) := by
  intro w
  have hu37 := Tryz.underlying37
  have X1 := hQ (zi w (.cells #[.int .i64 6, .int .i64 a, .int .i64 0, .int .u16 v, .int .u16 0, .int .u16 0, .slice none 0 0, .slice none 0 0, .int .i64 0, .int .i64 0, .int .i64 0, .int .i64 0] 37))
  obtain ⟨x0, x1, x2, x3, x4, x5, x6, x7, x8, x9, x10, x11⟩ := zV X1.out
  have B1 := hQ (show Below w.heap.size w (w.alloc (.cells #[.int .i64 6, .int .i64 a, .int .i64 0, .int .u16 v, .int .u16 0, .int .u16 0, .slice none 0 0, .slice none 0 0, .int .i64 0, .int .i64 0, .int .i64 0, .int .i64 0] 37)) from (Below.refl _ _).alloc (Nat.le_refl _) _)
  have hP := fun w => Kr w a v ha hv
  have HT := hQ (ji t 65536 ht)
  have HU := hQ (ji u 256 hu)
  have HF := hQ (fun (w : World) A c hr hc => Yr w t u A c 5 [6, a / 256, a % 256, v / 256, v % 256] rfl hr hc (by omega) ht hu)
  simp only [qF] at hP
  go_enter Tryz.func42, Tryz.ntmps42
  go_wp2_with (fail)
  refine (hP _).mono ?_
  rintro e w3 ⟨A3, c3, rfl, hr, hd⟩
  have B3 := hQ (zf B1.out B1.out.size hd)
  have R3 := hQ (Kd.zU hr B1.out.size)
  clear hr hd
  go_wp2_with (fail)
  refine (zK.calls t 65536 t _ HT.out).mono ?_
  rintro e w4 ⟨rfl, hd⟩
  have B4 := hQ (zf B3.out B3.out.size hd.below)
  have R4 := hQ (Kd.zz R3.out hd.below)
  clear hd
  go_wp2_with (fail)
  refine (zK.calls u 256 u _ HU.out).mono ?_
  rintro e w5 ⟨rfl, hd⟩
  have B5 := hQ (zf B4.out B4.out.size hd.below)
  have R5 := hQ (Kd.zz R4.out hd.below)
  clear hd
  go_wp2_with (fail)
  refine (HF.out _ A3 c3 (Kd.zB R5.out).2.2 (Kd.zB R5.out).2.1).mono ?_
  rintro e w6 ⟨v6, rfl, hr, hd⟩
  have B6 := hQ (zf B5.out B5.out.size hd)
  have R6 := hQ (Kd.zU hr B5.out.size)
  clear hr hd
  go_wp2_with (fail)
  exact bodyPost_ret (v := v6) (by simp [results, Tryz.results42, go_sem]) rfl ⟨v6, rfl, R6.out, B6.out⟩
open Go.Proofs.YtlalbohhopmpdaaGreat.Tiny
open Go.RowKit Go.Proofs.YtlalbohhopmpdaaGreat.PTop Go.YW.PrintWords Go.YW.PrintLast Go.YW.PrintMore Go.Proofs.YtlalbohhopmpdaaGreat.Num
open Go.Proofs.YtlalbohhopmpdaaGreat.Ring (yT yt xh qj)
open Go.Proofs.YtlalbohhopmpdaaGreat.LemHeadTop Go.Proofs.YtlalbohhopmpdaaGreat.LemAduTop
theorem WV (w : World) (B N N' : Nat) (x : Ix) (g g' : Sg) (tb gb dk n : Nat) (L : Nat → Nat → Nat) (k : Int) (h : xz w B N x g tb gb dk n L k) (hk : 0 ≤ k ∧ k < 1000) (c : Nat) (hc : c < n) (fn at_ nn v : Int) (p bl : List Int) (hp5 : p.length = 5) (hp8 : B8 p) (hfr : Zy #[.int .i64 fn, .int .i64 at_, .int .i64 nn, .int .u16 v, .int .u16 0, .int .u16 0, .slice none 0 0, .slice none 0 0, .int .i64 0, .int .i64 0, .int .i64 0, .int .i64 0] (k + 1) c (hb (k + 1) 6 c ++ p)) (hS : jP B N N' x g g' c p bl) (hOk : Ok (k + 1) ((bl.length : Int) + 1) c) :
    Calls Tryz.prog 17 #[.pointer (some ⟨tb, 0, none⟩), .int .i64 (c : Int), .agg #[.int .i64 fn, .int .i64 at_, .int .i64 nn, .int .u16 v, .int .u16 0, .int .u16 0, .slice none 0 0, .slice none 0 0, .int .i64 0, .int .i64 0, .int .i64 0, .int .i64 0]] w fun e w' => ∃ A c0, e = .returned (.slice A (7 + bl.length) c0) ∧ 7 + bl.length ≤ c0 ∧ Kd.F (Kd.int .u8) w' (fun j => w.heap.size ≤ j) A (7 + bl.length) (hb (k + 1) ((bl.length : Int) + 1) c ++ bl) ∧ xz w' B N' x g' tb gb dk n L (k + 1) ∧ Ch TT (MS x) B w w' := by
  have hu53 := Tryz.underlying53
  have hu37 := Tryz.underlying37
  have hu61 := Tryz.underlying61
  have hf61 : ∀ (i : Int) (A : Option Addr) (m q : Nat) (W : World), (Instr.field 61 (.agg #[.bool true, .int .i64 i, .slice A m q]) 2).run Tryz.prog W = .ok (.slice A m q) W := fun i A m q W => by kernel_rfl
  have hwk : wrap64 (k + 1) = k + 1 := zu (by omega) (by omega)
  have hok1 : Ok (k + 1) ((p.length : Int) + 1) c := by
    have h1 := hOk
    unfold Ok at h1 ⊢
    rw [hp5]
    omega
  have e6 : ((p.length : Int) + 1) = 6 := by rw [hp5]; rfl
  have hlen : (hb (k + 1) 6 c ++ p).length = 12 := by rw [List.length_append, xM, hp5]
  have hlen2 : (hb (k + 1) ((bl.length : Int) + 1) c ++ bl).length = 7 + bl.length := by rw [List.length_append, xM]
  have hcut : xh jH (hb (k + 1) 6 c ++ p) false = (k + 1, (c : Int), p, 12, 0) := by
    have h1 := XK (k + 1) c p [] hok1
    rw [e6, List.append_nil] at h1
    unfold xh
    rw [if_neg (by decide), List.take_of_length_le (by rw [hlen]; omega), h1, hp5]
    rfl
  have hb8 : B8 (hb (k + 1) 6 c ++ p) := by rw [← e6]; exact Jr (k + 1) c p hok1 hp8
  have hnx : (hb (k + 1) 6 c ++ p).drop (12 : Int).toNat = [] := List.drop_eq_nil_of_le (by rw [hlen]; decide)
  obtain ⟨ci, hci⟩ : ∃ ci : Int, ci = (c : Int) := ⟨_, rfl⟩
  have hsz : (w.setCell ⟨tb, 1, none⟩ (.int .i64 (k + 1))).heap.size = w.heap.size := by simp [World.setCell]
  have T1 := h.count (k + 1)
  have B1 : Below (w.setCell ⟨tb, 1, none⟩ (.int .i64 (k + 1))).heap.size (w.setCell ⟨tb, 1, none⟩ (.int .i64 (k + 1))) (((w.setCell ⟨tb, 1, none⟩ (.int .i64 (k + 1))).alloc (.cells #[.int .i64 fn, .int .i64 at_, .int .i64 nn, .int .u16 v, .int .u16 0, .int .u16 0, .slice none 0 0, .slice none 0 0, .int .i64 0, .int .i64 0, .int .i64 0, .int .i64 0] 37)).drew) := zl ((Below.refl _ _).alloc (Nat.le_refl _) _)
  have htb := zF h.blk
  have T2 := hQ (T1.1.below B1)
  have C2 := hQ (T1.2.thenBelow B1 h.gt.slv.lt)
  have x2 := zn (zi (w.setCell ⟨tb, 1, none⟩ (.int .i64 (k + 1))) (.cells #[.int .i64 fn, .int .i64 at_, .int .i64 nn, .int .u16 v, .int .u16 0, .int .u16 0, .slice none 0 0, .slice none 0 0, .int .i64 0, .int .i64 0, .int .i64 0, .int .i64 0] 37))
  rw [hsz] at x2
  have X2 := hQ x2
  have HLE := hQ h.gt.slv.lt
  have HLT := hQ h.le
  have HC := hQ hc
  have HLEN := hQ hlen
  have HFR := hQ hfr
  unfold Zy at HFR
  have HDB := hQ (fun (W : World) (hW : zR W B N x g gb dk n L none_ none_) (A0 : Option Addr) (c0 : Nat) (hr : Kd.C (Kd.int .u8) W A0 12 (hb (k + 1) 6 c ++ p)) (h0 : 12 ≤ c0) (hne : 0 < 12 → ∀ a, A0 = some a → a.block ≠ L c 2) => zaG W B N N' x g g' gb dk n L none_ none_ hW c hc A0 12 c0 _ hlen.symm hr h0 hne (by show 0 + 12 ≤ 1024; omega))
  have HDS := hQ (fun (W : World) (hW : zR W B N x g gb dk n L (ja none_ c ([] ++ (hb (k + 1) 6 c ++ p))) none_) => zak W B N N' x g g' gb dk n L _ none_ hW c hc (k + 1) c 12 p bl (by rw [ZO]; exact hb8) (by rw [ZO]; exact hcut) (by omega) (by rw [ZO]; exact hnx) rfl hS hOk)
  have HDD := hQ (fun (W : World) (hW : zR W B N' x g' gb dk n L none_ (ja none_ c (hb (k + 1) ((bl.length : Int) + 1) c ++ bl))) => zbg W B N' N' x g' g' gb dk n L none_ _ hW c hc (7 + bl.length) (by rw [ZO, hlen2]))
  have q0 := za T2.out.blk 0
  have r0 := za h.blk 0
  have r1 := za h.blk 1
  have r0 : w.cell? ⟨tb, 0, none⟩ = some (.pointer (some ⟨gb, 0, none⟩)) := r0
  have r1 : w.cell? ⟨tb, 1, none⟩ = some (.int .i64 k) := r1
  have fr : ∀ i, w.frozen? ⟨tb, i, none⟩ = false := fun i => zh h.blk i
  have htne : tb ≠ w.heap.size := by omega
  rw [← hci] at HFR HDB HDS HDD HLEN ⊢
  clear h hk hp5 hp8 hfr hS hOk hok1 e6 hlen hlen2 hcut hb8 hnx T1 B1 hsz x2 hci
  go_enter Tryz.func17, Tryz.ntmps17
  go_wp2_with (fail)
  refine sq_ (ds := []) #[false, false, false, false, false, false, false, false, false, false, false, false, false, false] (fun w' => w'.cell? ⟨tb, 0, none⟩ = some (.pointer (some ⟨gb, 0, none⟩)) ∧ w'.cell? ⟨tb, 1, none⟩ = some (.int .i64 (k + 1)) ∧ w'.cell? ⟨w.heap.size, 0, none⟩ = some (.int .i64 fn) ∧ w'.cell? ⟨w.heap.size, 1, none⟩ = some (.int .i64 at_) ∧ w'.cell? ⟨w.heap.size, 2, none⟩ = some (.int .i64 nn) ∧ w'.cell? ⟨w.heap.size, 3, none⟩ = some (.int .u16 v) ∧ w'.cell? ⟨w.heap.size, 4, none⟩ = some (.int .u16 0) ∧ w'.cell? ⟨w.heap.size, 5, none⟩ = some (.int .u16 0) ∧ w'.cell? ⟨w.heap.size, 6, none⟩ = some (.slice none 0 0) ∧ w'.cell? ⟨w.heap.size, 7, none⟩ = some (.slice none 0 0) ∧ w'.cell? ⟨w.heap.size, 8, none⟩ = some (.int .i64 0) ∧ w'.cell? ⟨w.heap.size, 9, none⟩ = some (.int .i64 0) ∧ w'.cell? ⟨w.heap.size, 10, none⟩ = some (.int .i64 0) ∧ w'.cell? ⟨w.heap.size, 11, none⟩ = some (.int .i64 0)) ⟨za T2.out.blk 0, za T2.out.blk 1, za X2.out 0, za X2.out 1, za X2.out 2, za X2.out 3, za X2.out 4, za X2.out 5, za X2.out 6, za X2.out 7, za X2.out 8, za X2.out 9, za X2.out 10, za X2.out 11⟩ (fun hHeld => ?_)
  refine pq_ 0 (some 14) ?_
  refine pq_ 1 (some 15) ?_
  refine pq_ 2 (some 16) ?_
  refine pq_ 4 (some 18) ?_
  refine pq_ 6 (some 20) ?_
  refine pq_ 7 (some 21) ?_
  refine pq_ 8 (some 22) ?_
  refine pq_ 10 (some 24) ?_
  refine tq_ 3 (some 17) hHeld ?_
  refine tq_ 5 (some 19) hHeld ?_
  refine tq_ 9 (some 23) hHeld ?_
  refine oq_ 11 (some 25) (fun K hK => ?_)
  refine yh Tryz.func42 (by kernel_rfl) rfl #[.agg #[.int .i64 fn, .int .i64 at_, .int .i64 nn, .int .u16 v, .int .u16 0, .int .u16 0, .slice none 0 0, .slice none 0 0, .int .i64 0, .int .i64 0, .int .i64 0, .int .i64 0], .int .i64 (k + 1), .int .i64 ci] (by rfl) rfl rfl (by (try simp only [List.map_toArray, List.map_cons, List.map_nil]); first | done | rfl) ?_
  refine (HFR.out _).mono ?_
  rintro e w3 ⟨v0, rfl, hR, hbw⟩
  have T3 := hQ (T2.out.below hbw)
  have C3 := hQ (C2.out.thenBelow hbw HLE.out)
  have X3 := hQ (zb X2.out hbw)
  obtain ⟨A3, c3, hv0⟩ := Kd.yc hR
  rw [HLEN.out] at hv0
  subst hv0
  obtain ⟨g0, cap0, eg, hge, _, _⟩ := Kd.qm hR (by rw [HLEN.out]; omega)
  obtain ⟨rfl, rfl⟩ : A3 = some ⟨g0, 0, none⟩ ∧ c3 = cap0 := by injection eg with h1 h2 h3; exact ⟨h1, h3⟩
  have hR2 := Kd.zB hR
  rw [HLEN.out] at hR2
  have R3 := hQ hR2
  have GE := hQ hge
  clear hR hbw eg hge hR2
  refine ⟨_, rfl, ?_⟩
  refine hK.out _ _ ⟨za T3.out.blk 0, za T3.out.blk 1, za X3.out 0, za X3.out 1, za X3.out 2, za X3.out 3, za X3.out 4, za X3.out 5, za X3.out 6, za X3.out 7, za X3.out 8, za X3.out 9, za X3.out 10, za X3.out 11⟩ (fun hHeld => ?_)
  clear hK K
  refine nq_ ?_
  refine pq_ 12 (some 26) ?_
  refine oq_ 13 (some 27) (fun K hK => ?_)
  refine yh Tryz.func15 (by kernel_rfl) rfl #[.pointer (some ⟨gb, 0, none⟩), .agg #[.int .i64 3, .int .i64 ci, .int .i64 0, .slice (some ⟨g0, 0, none⟩) 12 c3, .int .i64 0, .int .i64 0, .slice none 0 0]] (by rfl) rfl rfl (by (try simp only [List.map_toArray, List.map_cons, List.map_nil]); first | done | rfl) ?_
  refine (HDB.out w3 T3.out.gt (some ⟨g0, 0, none⟩) c3 R3.out.2.2 R3.out.2.1 (fun _ a ha => by injection ha with ha; subst ha; exact Nat.ne_of_gt (Nat.lt_of_lt_of_le (T2.out.gt.lt c 2 HC.out (by omega)) GE.out))).mono ?_
  rintro e w4 ⟨rfl, hg4, hc4⟩
  have G4 := hQ hg4
  have K4 := hQ (hc4.cell T3.out.blk (by decide))
  have C4 := hQ (C3.out.trans (VH hc4))
  have X4 := hQ (hc4.cell X3.out (by decide))
  clear hg4 hc4
  refine ⟨_, rfl, ?_⟩
  refine hK.out _ _ ⟨za K4.out 0, za K4.out 1, za X4.out 0, za X4.out 1, za X4.out 2, za X4.out 3, za X4.out 4, za X4.out 5, za X4.out 6, za X4.out 7, za X4.out 8, za X4.out 9, za X4.out 10, za X4.out 11⟩ (fun hHeld => ?_)
  clear hK K
  refine nq_ ?_
  refine xJ (by kernel_rfl) ?_

  have k0 := za K4.out 0
  have k0 : w4.cell? ⟨tb, 0, none⟩ = some (.pointer (some ⟨gb, 0, none⟩)) := k0
  clear T2 C2 X2 T3 C3 X3 R3 GE hHeld q0 r0 r1 fr
  go_wp2_with (fail)
  refine (HDS.out w4 G4.out).mono ?_
  rintro e w5 ⟨rfl, hg5, hc5⟩
  rw [XM] at hg5
  have G5 := hQ hg5
  have K5 := hQ (hc5.cell K4.out (by decide))
  have C5 := hQ (C4.out.trans (VH hc5))
  clear hg5 hc5 k0
  have k0 := za K5.out 0
  have k0 : w5.cell? ⟨tb, 0, none⟩ = some (.pointer (some ⟨gb, 0, none⟩)) := k0
  go_wp2_with (fail)
  refine (HDD.out w5 G5.out).mono ?_
  rintro e w6 ⟨A6, c6, rfl, hcc, hF6, hg6, hc6⟩
  rw [ZO] at hF6
  rw [XM] at hg6
  have T6 := hQ (show xz w6 B N' x g' tb gb dk n L (k + 1) from ⟨hc6.cell K5.out (by decide), hg6, HLT.out⟩)
  have C6 := hQ (C5.out.trans (VH hc6))
  have F6 := hQ (Kd.qU hF6 (ok' := fun j => w.heap.size ≤ j) (fun j hj => Nat.le_trans C5.out.size hj))
  have HCC := hQ hcc
  clear hg6 hc6 hF6 hcc k0
  go_wp2
  exact bodyPost_ret (v := .slice A6 (7 + bl.length) c6) (by simp [results, Tryz.results17, go_sem]) rfl ⟨A6, c6, rfl, HCC.out, F6.out, T6.out, C6.out⟩
end Go.Proofs.YtlalbohhopmpdaaGreat.Top
namespace Go.Proofs.YtlalbohhopmpdaaGreat.PTop
open Go.RowKit Go.YW.PrintWords Go.YW.PrintLast Go.YW.PrintMore
attribute [local go_sem] yN yO xu xw yP yR xm xq zk zo   -- for this text's walks alone
def zT.l0 : Nat → List Int → Int → Int → List Int → Int → Option (List Int × Bool)
 | 0, _, _, _, _, _ => none
 | k + 1, x0, x1, x2, x8, x9 => if x9 < x2 then ((zP.f x0 (wrap64 (x1 + (wrap64 (2 * x9))))).bind fun t816 => (if x8.length < 70368744177664 then (zT.l0 k x0 x1 x2 (x8 ++ [IntKind.u16.wrap (t816)]) (wrap64 (x9 + 1))) else (none))) else (some (x8, true))
def zT.f (k : Nat) (l0 : List Int) (a1 : Int) (a2 : Int) : Option (List Int × Bool) := if (l0.length : Int) = (wrap64 (a1 + (wrap64 (2 * a2)))) then (zT.l0 k l0 a1 a2 ([] : List Int) 0) else (some (([] : List Int), false))
theorem zT.calls (k : Nat) (A0 : Option Addr) (c0 : Nat) (l0 : List Int) (a1 : Int) (a2 : Int) (r1 : List Int) (r2 : Bool) (w : World) (hr0 : Kd.C (Kd.int .u8) w A0 l0.length l0) (hc0 : l0.length ≤ c0) (h : zT.f k l0 a1 a2 = some (r1, r2)) :
  Calls Tryz.prog 83 #[.slice A0 l0.length c0, .int .i64 a1, .int .i64 a2] w fun e w' => ∃ v0_ : Value, e = .returned (.tuple #[v0_, .bool r2]) ∧ Kd.R (Kd.int .u16) 33 w' w.heap.size (fun _ => True) v0_ r1 ∧ Below w.heap.size w w' := by
 have HR0 := ze.mk hr0
 have HC0 := ze.mk hc0
 clear hr0 hc0
 have HB := ze.mk (Below.refl w.heap.size w)
 have H : (if (l0.length : Int) = (wrap64 (a1 + (wrap64 (2 * a2)))) then (zT.l0 k l0 a1 a2 ([] : List Int) 0) else (some (([] : List Int), false))) = some (r1, r2) := h
 clear h
 by_cases c4 : (l0.length : Int) = (wrap64 (a1 + (wrap64 (2 * a2))))
 ·
  rw [if_pos c4] at H
  have c4b0 : ((l0.length : Int) == (wrap64 (a1 + (wrap64 (2 * a2))))) = true := beq_iff_eq.mpr c4
  have c4b1 : ((l0.length : Int) != (wrap64 (a1 + (wrap64 (2 * a2))))) = false := bne_eq_false_iff_eq.mpr c4
  clear c4
  have H' := ze.mk H
  clear H
  go_enter Tryz.func83, Tryz.ntmps83
  go_wp2
  go_loopg [8, 9] k (fun kq v8 v9 w' => ∃ (x8_1 : List Int) (x9_1 : Int), v9 = .int .i64 x9_1 ∧ ze (zT.l0 kq l0 a1 a2 x8_1 x9_1 = some (r1, r2)) ∧ ze (kq ≤ k) ∧ ze (Kd.R (Kd.int .u16) 33 w' w.heap.size (fun _ => True) v8 x8_1) ∧ ze (Below w.heap.size w w'))
  case atStart => exact ⟨(([] : List Int)), (0), (by first | rfl | (simp; done) | (simp [*]; done)), H', ⟨Nat.le_refl _⟩, ⟨by first | exact Kd.ql _ _ _ _ _ | exact Kd.N_nil _ _ _ _ _ | exact Kd.V_nil _ _ _ _ _ | exact Kd.Q_nil _ _ _ _ _ | exact Kd.S_nil _ _ _ _ _⟩, ⟨by repeat (first | (with_reducible first | exact HB.out | apply zy | apply zq | apply zI) | exact HB.out)⟩⟩
  case round =>
   clear H'
   (try clear c4); (try clear c4b0); (try clear c4b1)
   obtain ⟨x8_1, x9_1, rfl, HA, HK1, HO_8, HB⟩ := hrel
   cases gk with
   | zero => exact absurd HA.out (by simp [zT.l0])
   | succ k1 =>
    have H := HA.out
    clear HA
    simp only [zT.l0] at H
    by_cases c5 : x9_1 < a2
    ·
     rw [if_pos c5] at H
     have c5b0 : decide (x9_1 < a2) = true := dT c5
     clear c5
     replace H := Option.bind_eq_some_iff.mp H
     obtain ⟨t816, A60, H⟩ := H
     have A6 := ze.mk A60
     clear A60
     by_cases c7 : x8_1.length < 70368744177664
     ·
      rw [if_pos c7] at H
      have LMc7 := ze.mk c7
      clear c7
      obtain ⟨y817, hy817⟩ : ∃ y_ : List Int, y_ = (x8_1 ++ [IntKind.u16.wrap (t816)]) := ⟨_, rfl⟩
      replace H : (zT.l0 k1 l0 a1 a2 y817 (wrap64 (x9_1 + 1))) = some (r1, r2) := by first | (rw [hy817]; with_reducible exact H) | (have H2_ := (Option.bind_some _ _).symm.trans H; rw [hy817]; with_reducible exact H2_) | (have H2_ := (Option.bind_some _ _).symm.trans H; with_reducible exact H2_) | with_reducible exact H | (rw [hy817]; exact H) | exact H
      have Ny817 := ze.mk hy817
      clear hy817
      have H' := ze.mk H
      clear H
      go_wp2_with (first | ((with_reducible refine zO (f := 81) rfl ?_); refine yL (some 28) rfl rfl Tryz.func81 (by kernel_rfl) rfl #[.slice A0 l0.length c0, .int .i64 (wrap64 (a1 + (wrap64 (2 * x9_1))))] rfl (by (try simp only [List.map_toArray, List.map_cons, List.map_nil]); first | done | rfl | (simp only [List.length_drop, List.length_take]; rfl)) ?_; (with_reducible refine (zP.calls _ _ l0 (wrap64 (a1 + (wrap64 (2 * x9_1)))) t816 _ ?side1 ?side2 A6.out).mono ?_); (case side1 => repeat (first | exact (Kd.zx HR0.out HB.out) | (with_reducible refine Kd.yC ?_ _) | (with_reducible refine Kd.yF ?_ _) | (with_reducible refine Kd.xe ?_))); (case side2 => exact HC0.out); rintro e w' ⟨rfl, ⟨nd, rfl⟩⟩; refine ⟨_, rfl, ?_⟩) | ((with_reducible refine yj (b := .append) (xs := #[.tmp 22, .tmp 30]) rfl ?_); at_builtin; refine Kd.ZJ (Kd.int .u16) (w0 := w) w.heap.size rfl (.tmp 22) (.tmp 30) 35 33 (.int .u16 0) 2 rfl Tryz.underlying35 zdk rfl (by decide) (by omega) u8 x8_1 (IntKind.u16.wrap (t816)) [.int .u16 (IntKind.u16.wrap (t816))] (fun _ => True) (fun _ => False) rfl rfl ?aP (fun _ hk => hk.elim) ?aF ?aO ?aB ?aS ?aL ?_; (case aP => exact rfl); (case aB => exact (by repeat (first | (with_reducible first | exact HB.out | apply zy | apply zq | apply zI) | exact HB.out))); (case aF => exact (fun _ _ => trivial)); (case aO => exact (by (with_reducible repeat (first | apply Kd.qg | apply Kd.qc | apply Kd.vg)); exact HO_8.out)); (case aS => exact (zt (by repeat (first | (with_reducible first | exact HB.out | apply zy | apply zq | apply zI) | exact HB.out)))); (case aL => have := LMc7.out; omega); intro v818 w8 ho hb hg hat; rw [← Ny817.out] at ho; replace HB := ze.mk (hb); have HO819 := ze.mk (ho); clear HO_8; clear ho hb hg hat))
      go_roundg k1
      case measure => have := HK1.out; omega
      case rel => exact ⟨(y817), (wrap64 (x9_1 + 1)), (by first | rfl | (simp; done) | (simp [*]; done)), H', ⟨by have := HK1.out; omega⟩, ⟨by (with_reducible repeat (first | apply Kd.qg | apply Kd.qc | apply Kd.vg)); exact HO819.out⟩, ⟨by repeat (first | (with_reducible first | exact HB.out | apply zy | apply zq | apply zI) | exact HB.out)⟩⟩
     ·
      rw [if_neg c7] at H
      exact absurd H (by simp)
    ·
     rw [if_neg c5] at H
     have c5b0 : decide (x9_1 < a2) = false := dF c5
     clear c5
     simp only [Option.some.injEq, Prod.mk.injEq] at H
     obtain ⟨rfl, rfl⟩ := H
     go_wp2
     go_ret2
     exact ⟨_, by first | rfl | (simp [zC, zD] <;> rfl) | (simp [*, zC, zD] <;> rfl), by (with_reducible repeat (first | apply Kd.qg | apply Kd.qc | apply Kd.vg)); exact HO_8.out, by repeat (first | (with_reducible first | exact HB.out | apply zy | apply zq | apply zI) | exact HB.out)⟩
 ·
  rw [if_neg c4] at H
  have c4b0 : ((l0.length : Int) == (wrap64 (a1 + (wrap64 (2 * a2))))) = false := beq_eq_false_iff_ne.mpr c4
  have c4b1 : ((l0.length : Int) != (wrap64 (a1 + (wrap64 (2 * a2))))) = true := bne_iff_ne.mpr c4
  simp only [Option.some.injEq, Prod.mk.injEq] at H
  obtain ⟨rfl, rfl⟩ := H
  go_enter Tryz.func83, Tryz.ntmps83
  go_wp2
  go_ret2
  exact ⟨_, by first | rfl | (simp [zC, zD] <;> rfl) | (simp [*, zC, zD] <;> rfl), by first | exact Kd.ql _ _ _ _ _ | exact Kd.N_nil _ _ _ _ _ | exact Kd.V_nil _ _ _ _ _ | exact Kd.Q_nil _ _ _ _ _ | exact Kd.S_nil _ _ _ _ _, by repeat (first | (with_reducible first | exact HB.out | apply zy | apply zq | apply zI) | exact HB.out)⟩
end Go.Proofs.YtlalbohhopmpdaaGreat.PTop
namespace Go.Proofs.YtlalbohhopmpdaaGreat.Top
open Go.RowKit Go.Proofs.YtlalbohhopmpdaaGreat.PTop Go.YW.PrintWords Go.YW.PrintLast Go.YW.PrintMore Go.Proofs.YtlalbohhopmpdaaGreat.Num
theorem Qh (x : Int) (hx : 0 ≤ x ∧ x < 65536) : IntKind.u16.wrap (IntKind.u16.wrap (IntKind.u16.wrap (x / 256 % 256) * 256) + IntKind.u16.wrap (x % 256)) = x := by
  show ((x / 256 % 256 % 65536 * 256) % 65536 + x % 256 % 65536) % 65536 = x
  omega
theorem zdT (a v : Int) (ha : 0 ≤ a ∧ a < 256) (hv : 0 ≤ v ∧ v < 65536) : zP.f [6, 0, a, v / 256, v % 256] 1 = some a ∧ zP.f [6, 0, a, v / 256, v % 256] 3 = some v := by
  have h1 : wrap64 a = a := zu (by omega) (by omega)
  have h2 : wrap64 v = v := zu (by omega) (by omega)
  have w2 : wrap64 2 = 2 := zu (by omega) (by omega)
  have w3 : wrap64 3 = 3 := zu (by omega) (by omega)
  have w4 : wrap64 4 = 4 := zu (by omega) (by omega)
  have u0 : IntKind.u16.wrap 0 = 0 := rfl
  have u1 : IntKind.u16.wrap a = a := by show a % 65536 = a; omega
  have u2 := Qh v hv
  rw [show v / 256 % 256 = v / 256 by omega] at u2
  constructor <;> (unfold zP.f xk.f; simp [rd, w2, w3, w4, u0, u1, u2, h1, h2])
theorem zdV (x : Int) (hx : 0 ≤ x ∧ x < 65536) : zT.f 9 [3, 2, x / 256 % 256, x % 256] 2 1 = some ([x], true) := by
  have w1 : wrap64 1 = 1 := zu (by omega) (by omega)
  have w2 : wrap64 2 = 2 := zu (by omega) (by omega)
  have w3 : wrap64 3 = 3 := zu (by omega) (by omega)
  have w4 : wrap64 4 = 4 := zu (by omega) (by omega)
  have w0 : wrap64 0 = 0 := zu (by omega) (by omega)
  have h1 : wrap64 x = x := zu (by omega) (by omega)
  have h2 : IntKind.u16.wrap x = x := by show x % 65536 = x; omega
  unfold zT.f
  simp [zT.l0, zP.f, xk.f, rd, w0, w1, w2, w3, w4, Qh x hx, h1, h2]
end Go.Proofs.YtlalbohhopmpdaaGreat.Top
namespace Go.Proofs.YtlalbohhopmpdaaGreat.Top
open Go.RowKit Go.Proofs.YtlalbohhopmpdaaGreat.PTop Go.YW.PrintWords Go.YW.PrintLast Go.YW.PrintMore Go.Proofs.YtlalbohhopmpdaaGreat.Num
attribute [local go_sem] zk zo
theorem zb7 (w : World) (g0 c : Nat) (a v nn : Int) (ha : 0 ≤ a ∧ a < 256) (hv : 0 ≤ v ∧ v < 65536) (hC : Kd.C (Kd.int .u8) w (some ⟨g0, 0, none⟩) 5 [6, 0, a, v / 256, v % 256]) (hc : 5 ≤ c) :
    Calls Tryz.prog 45 #[.slice (some ⟨g0, 0, none⟩) 5 c, .int .i64 nn] w fun e w' => e = .returned (.tuple #[yu 6 0 (.slice none 0 0) a v, .bool true]) ∧ Below w.heap.size w w' := by
  have hu41 := Tryz.underlying41
  have i0 := Ring.C_cell hC rfl 0 6 rfl
  have hg : g0 < w.heap.size := World.block_lt_of_cell? _ _ i0
  obtain ⟨W1, hW1⟩ : ∃ W1, W1 = (w.alloc (.cells yl 41)).alloc (.cells (YB 6) 41) := ⟨_, rfl⟩
  have B1 := hQ (show Below w.heap.size w W1 by rw [hW1]; exact ((Below.refl _ _).alloc (Nat.le_refl _) _).alloc (by simp) _)
  have X1 := hQ (show W1.heap[w.heap.size]? = some (.cells yl 41 (0, 0)) by rw [hW1]; exact zg (zi w _) _)
  have Y1 := hQ (show W1.heap[w.heap.size + 1]? = some (.cells (YB 6) 41 (0, 0)) by rw [hW1]; exact yS w _ _)
  have C1 := hQ (Kd.zx hC B1.out)
  rw [hW1] at B1 X1 Y1 C1
  obtain ⟨hw1, hw2⟩ := zdT a v ha hv
  have HW1 := hQ hw1
  have HW2 := hQ hw2
  have HC := hQ hc
  have u2 : IntKind.u16.wrap v = v := by show v % 65536 = v; omega
  clear hC hc ha hv hW1 hw1 hw2
  simp only [yu, zW, yl, YB] at B1 X1 Y1 C1 ⊢
  go_enter Tryz.func45, Tryz.ntmps45
  go_wp2_with (fail)
  refine (zP.calls (some ⟨g0, 0, none⟩) c [6, 0, a, v / 256, v % 256] 1 a _ C1.out HC.out HW1.out).mono ?_
  rintro e w2 ⟨rfl, hd⟩
  have B2 := hQ (zf B1.out B1.out.size hd.below)
  have X2 := hQ (zb X1.out hd.below)
  have Y2 := hQ (zb Y1.out hd.below)
  have C2 := hQ (Kd.zx C1.out hd.below)
  clear hd
  go_wp2_with (fail)
  refine (zP.calls (some ⟨g0, 0, none⟩) c [6, 0, a, v / 256, v % 256] 3 v _ C2.out HC.out HW2.out).mono ?_
  rintro e w3 ⟨rfl, hd⟩
  have B3 := hQ (zf B2.out B2.out.size hd.below)
  have X3 := hQ (zb X2.out hd.below)
  have Y3 := hQ (zb Y2.out hd.below)
  clear hd
  obtain ⟨x0, x1, x2, x3, x4, x5, x6, x7, x8, x9, x10, x11, x12, x13⟩ := yK X3.out
  obtain ⟨y0, y1, y2, y3, y4, y5, y6, y7, y8, y9, y10, y11, y12, y13⟩ := yK Y3.out
  have fx : ∀ i, w3.frozen? ⟨w.heap.size, i, none⟩ = false := fun i => zh X3.out i
  have fy : ∀ i, w3.frozen? ⟨w.heap.size + 1, i, none⟩ = false := fun i => zh Y3.out i
  go_wp2
  refine bodyPost_ret (v := .tuple #[.agg #[.int .i64 6, .int .i64 0, .slice none 0 0, .slice none 0 0, .int .i64 a, .int .i64 0, .int .u16 v, .int .u16 0, .int .u16 0, .int .i64 0, .int .i64 0, .bool false, .int .i64 0, .slice none 0 0], .bool true]) ?_ rfl ⟨rfl, B3.out.trans ?_⟩
  · simp [results, Tryz.results45, go_sem, hu41, x0, x1, x2, x3, x4, x5, x6, x7, x8, x9, x10, x11, x12, x13]
  · (repeat (with_reducible first | exact Below.refl _ _ | (refine jG ?_ (by omega))))
structure RT (base : Nat) (v : Value) (l : List Int) (w : World) (b1 b2 : Nat) : Prop where
  r : Kd.R (Kd.int .u16) 33 w base (fun _ => True) v l
  t1 : ∃ cs t f, w.heap[b1]? = some (.cells cs t f) ∧ t ≠ 33
  t2 : ∃ cs t f, w.heap[b2]? = some (.cells cs t f) ∧ t ≠ 33
theorem RT.mk' {base : Nat} {v : Value} {l : List Int} {w : World} {b1 b2 : Nat} {c1 c2 : Array Value} (h : Kd.R (Kd.int .u16) 33 w base (fun _ => True) v l) (h1 : w.heap[b1]? = some (.cells c1 41 (0, 0))) (h2 : w.heap[b2]? = some (.cells c2 41 (0, 0))) : RT base v l w b1 b2 := ⟨h, ⟨_, _, _, h1, by decide⟩, ⟨_, _, _, h2, by decide⟩⟩
theorem RT.set {base : Nat} {v u : Value} {l : List Int} {w : World} {b1 b2 b j : Nat} (h : RT base v l w b1 b2) (hb : b = b1 ∨ b = b2) : RT base v l (w.setCell ⟨b, j, none⟩ u) b1 b2 := by
  have ht : ∃ cs t f, w.heap[b]? = some (.cells cs t f) ∧ t ≠ 33 := hb.elim (fun e => e ▸ h.t1) (fun e => e ▸ h.t2)
  obtain ⟨cs, t, f, e, hne⟩ := ht
  have kp : ∀ {b' : Nat}, (∃ cs t f, w.heap[b']? = some (.cells cs t f) ∧ t ≠ 33) → ∃ cs t f, (w.setCell ⟨b, j, none⟩ u).heap[b']? = some (.cells cs t f) ∧ t ≠ 33 := fun {b'} ⟨cs', t', f', e', h'⟩ => by
    by_cases hq : b' = b
    · subst hq
      have hlt := zF e'
      have hx := (Array.getElem?_eq_some_iff.1 e').2
      exact ⟨cs'.setIfInBounds j u, t', f', by simp [World.setCell, hlt, Array.getElem_modify, hx], h'⟩
    · exact ⟨cs', t', f', (Below.heap_setCell w ⟨b, j, none⟩ u b' hq).trans e', h'⟩
  exact ⟨(Ch.set (T := [t]) (M := []) (B := 0) (i := j) e (by simp) (Nat.zero_le _) (fun m hm => (by cases hm)) u).R h.r (fun q hq hm => by
    have h1 : q ∈ [33] := hq
    rw [List.mem_singleton] at h1 hm
    exact hne (hm ▸ h1)), kp h.t1, kp h.t2⟩
theorem zaQ (w : World) (g0 c : Nat) (x nn : Int) (hx : 0 ≤ x ∧ x < 65536) (hC : Kd.C (Kd.int .u8) w (some ⟨g0, 0, none⟩) 4 [3, 2, x / 256 % 256, x % 256]) (hc : 4 ≤ c) :
    Calls Tryz.prog 45 #[.slice (some ⟨g0, 0, none⟩) 4 c, .int .i64 nn] w fun e w' => ∃ A k, e = .returned (.tuple #[yu 3 0 (.slice A 1 k) 0 0, .bool true]) ∧ Kd.R (Kd.int .u16) 33 w' w.heap.size (fun _ => True) (.slice A 1 k) [x] ∧ Below w.heap.size w w' := by
  have hu41 := Tryz.underlying41
  have i0 := Ring.C_cell hC rfl 0 3 rfl
  have i1 := Ring.C_cell hC rfl 1 2 rfl
  have hg : g0 < w.heap.size := World.block_lt_of_cell? _ _ i0
  obtain ⟨W1, hW1⟩ : ∃ W1, W1 = (w.alloc (.cells yl 41)).alloc (.cells (YB 3) 41) := ⟨_, rfl⟩
  have B1 := hQ (show Below w.heap.size w W1 by rw [hW1]; exact ((Below.refl _ _).alloc (Nat.le_refl _) _).alloc (by simp) _)
  have X1 := hQ (show W1.heap[w.heap.size]? = some (.cells yl 41 (0, 0)) by rw [hW1]; exact zg (zi w _) _)
  have Y1 := hQ (show W1.heap[w.heap.size + 1]? = some (.cells (YB 3) 41 (0, 0)) by rw [hW1]; exact yS w _ _)
  have C1 := hQ (Kd.zx hC B1.out)
  rw [hW1] at B1 X1 Y1 C1
  have HW := hQ (zdV x hx)
  have HC := hQ hc
  clear hC hc hW1
  simp only [yu, zW, yl, YB] at B1 X1 Y1 C1 ⊢
  go_enter Tryz.func45, Tryz.ntmps45
  go_wp2_with (fail)
  refine (zT.calls 9 (some ⟨g0, 0, none⟩) c [3, 2, x / 256 % 256, x % 256] 2 1 [x] true _ C1.out HC.out HW.out).mono ?_
  rintro e w3 ⟨v0, rfl, hr, hb⟩
  have B3 := hQ (zf B1.out B1.out.size hb)
  have X3 := hQ (zb X1.out hb)
  have Y3 := hQ (zb Y1.out hb)
  obtain ⟨A3, c3, hv0⟩ := Kd.yc hr
  have hv0' : v0 = .slice A3 1 c3 := hv0
  clear hv0
  subst hv0'
  have R3 := hQ (Kd.zU hr B1.out.size)
  clear hr hb
  obtain ⟨x0, x1, x2, x3, x4, x5, x6, x7, x8, x9, x10, x11, x12, x13⟩ := yK X3.out
  obtain ⟨y0, y1, y2, y3, y4, y5, y6, y7, y8, y9, y10, y11, y12, y13⟩ := yK Y3.out
  have fx : ∀ i, w3.frozen? ⟨w.heap.size, i, none⟩ = false := fun i => zh X3.out i
  have fy : ∀ i, w3.frozen? ⟨w.heap.size + 1, i, none⟩ = false := fun i => zh Y3.out i
  go_wp2
  refine bodyPost_ret (v := .tuple #[.agg #[.int .i64 3, .int .i64 0, .slice none 0 0, .slice A3 1 c3, .int .i64 0, .int .i64 0, .int .u16 0, .int .u16 0, .int .u16 0, .int .i64 0, .int .i64 0, .bool false, .int .i64 0, .slice none 0 0], .bool true]) ?_ rfl ⟨A3, c3, rfl, ?_, B3.out.trans ?_⟩
  · simp [results, Tryz.results45, go_sem, hu41, x0, x1, x2, x3, x4, x5, x6, x7, x8, x9, x10, x11, x12, x13]
  · refine RT.r (b1 := w.heap.size) (b2 := w.heap.size + 1) ?_
    repeat (with_reducible first | exact RT.mk' R3.out X3.out Y3.out | (refine RT.set ?_ (by first | exact Or.inl rfl | exact Or.inr rfl)))
  · (repeat (with_reducible first | exact Below.refl _ _ | (refine jG ?_ (by omega))))
theorem zdh (w : World) (a v : Int) : Calls Tryz.prog 85 #[.agg #[.int .i64 6, .int .i64 0, .slice none 0 0, .slice none 0 0, .int .i64 a, .int .i64 0, .int .u16 v, .int .u16 0, .int .u16 0, .int .i64 0, .int .i64 0, .bool false, .int .i64 0, .slice none 0 0]] w fun e w' => e = .returned (.bool true) ∧ Below w.heap.size w w' := by
  have hu41 := Tryz.underlying41
  obtain ⟨x0, x1, x2, x3, x4, x5, x6, x7, x8, x9, x10, x11, x12, x13⟩ := yK (zi w (.cells #[.int .i64 6, .int .i64 0, .slice none 0 0, .slice none 0 0, .int .i64 a, .int .i64 0, .int .u16 v, .int .u16 0, .int .u16 0, .int .i64 0, .int .i64 0, .bool false, .int .i64 0, .slice none 0 0] 41))
  have B1 := hQ (show Below w.heap.size w (w.alloc (.cells #[.int .i64 6, .int .i64 0, .slice none 0 0, .slice none 0 0, .int .i64 a, .int .i64 0, .int .u16 v, .int .u16 0, .int .u16 0, .int .i64 0, .int .i64 0, .bool false, .int .i64 0, .slice none 0 0] 41)) from (Below.refl _ _).alloc (Nat.le_refl _) _)
  go_enter Tryz.func85, Tryz.ntmps85
  go_wp2
  exact bodyPost_ret (v := .bool true) (by simp [results, Tryz.results85, go_sem]) rfl ⟨rfl, B1.out⟩
theorem zao (w : World) (a v : Int) (ha : 0 ≤ a ∧ a < 65536) : Calls Tryz.prog 46 #[.agg #[.int .i64 6, .int .i64 0, .slice none 0 0, .slice none 0 0, .int .i64 a, .int .i64 0, .int .u16 v, .int .u16 0, .int .u16 0, .int .i64 0, .int .i64 0, .bool false, .int .i64 0, .slice none 0 0]] w fun e w' => e = .returned (.bool true) ∧ Below w.heap.size w w' := by
  have hu41 := Tryz.underlying41
  have X1 := hQ (zi w (.cells #[.int .i64 6, .int .i64 0, .slice none 0 0, .slice none 0 0, .int .i64 a, .int .i64 0, .int .u16 v, .int .u16 0, .int .u16 0, .int .i64 0, .int .i64 0, .bool false, .int .i64 0, .slice none 0 0] 41))
  obtain ⟨x0, x1, x2, x3, x4, x5, x6, x7, x8, x9, x10, x11, x12, x13⟩ := yK X1.out
  have B1 := hQ (show Below w.heap.size w (w.alloc (.cells #[.int .i64 6, .int .i64 0, .slice none 0 0, .slice none 0 0, .int .i64 a, .int .i64 0, .int .u16 v, .int .u16 0, .int .u16 0, .int .i64 0, .int .i64 0, .bool false, .int .i64 0, .slice none 0 0] 41)) from (Below.refl _ _).alloc (Nat.le_refl _) _)
  have hP := fun w => zdh w a v
  have hA := hQ ha
  go_enter Tryz.func46, Tryz.ntmps46
  go_wp2_with (fail)
  refine (hP _).mono ?_
  rintro e w2 ⟨rfl, hd⟩
  have B2 := hQ (zf B1.out B1.out.size hd)
  have X2 := hQ (zb X1.out hd)
  clear hd x0 x1 x2 x3 x4 x5 x6 x7 x8 x9 x10 x11 x12 x13
  obtain ⟨x0, x1, x2, x3, x4, x5, x6, x7, x8, x9, x10, x11, x12, x13⟩ := yK X2.out
  go_wp2_with (fail)
  refine (za2 _).mono ?_
  rintro e w3 ⟨rfl, hd⟩
  have B3 := hQ (zf B2.out B2.out.size hd.below)
  have X3 := hQ (zb X2.out hd.below)
  clear hd x0 x1 x2 x3 x4 x5 x6 x7 x8 x9 x10 x11 x12 x13
  obtain ⟨x0, x1, x2, x3, x4, x5, x6, x7, x8, x9, x10, x11, x12, x13⟩ := yK X3.out
  go_wp2_with (fail)
  refine (Xd _ a hA.out).mono ?_
  rintro e w4 ⟨rfl, hd⟩
  have B4 := hQ (zf B3.out B3.out.size hd.below)
  clear hd
  go_wp2_with (fail)
  exact bodyPost_ret (v := .bool true) (by simp [results, Tryz.results46, go_sem]) rfl ⟨rfl, B4.out⟩
theorem zc9 (w : World) (A : Option Addr) (m c : Nat) : Calls Tryz.prog 85 #[.agg #[.int .i64 3, .int .i64 0, .slice none 0 0, .slice A m c, .int .i64 0, .int .i64 0, .int .u16 0, .int .u16 0, .int .u16 0, .int .i64 0, .int .i64 0, .bool false, .int .i64 0, .slice none 0 0]] w fun e w' => e = .returned (.bool true) ∧ Below w.heap.size w w' := by
  have hu41 := Tryz.underlying41
  obtain ⟨x0, x1, x2, x3, x4, x5, x6, x7, x8, x9, x10, x11, x12, x13⟩ := yK (zi w (.cells #[.int .i64 3, .int .i64 0, .slice none 0 0, .slice A m c, .int .i64 0, .int .i64 0, .int .u16 0, .int .u16 0, .int .u16 0, .int .i64 0, .int .i64 0, .bool false, .int .i64 0, .slice none 0 0] 41))
  have B1 := hQ (show Below w.heap.size w (w.alloc (.cells #[.int .i64 3, .int .i64 0, .slice none 0 0, .slice A m c, .int .i64 0, .int .i64 0, .int .u16 0, .int .u16 0, .int .u16 0, .int .i64 0, .int .i64 0, .bool false, .int .i64 0, .slice none 0 0] 41)) from (Below.refl _ _).alloc (Nat.le_refl _) _)
  go_enter Tryz.func85, Tryz.ntmps85
  go_wp2
  exact bodyPost_ret (v := .bool true) (by simp [results, Tryz.results85, go_sem]) rfl ⟨rfl, B1.out⟩
theorem Js (w : World) (A : Option Addr) (m c : Nat) (hm : 1 ≤ m ∧ m ≤ 125) : Calls Tryz.prog 46 #[.agg #[.int .i64 3, .int .i64 0, .slice none 0 0, .slice A m c, .int .i64 0, .int .i64 0, .int .u16 0, .int .u16 0, .int .u16 0, .int .i64 0, .int .i64 0, .bool false, .int .i64 0, .slice none 0 0]] w fun e w' => e = .returned (.bool true) ∧ Below w.heap.size w w' := by
  have hu41 := Tryz.underlying41
  have X1 := hQ (zi w (.cells #[.int .i64 3, .int .i64 0, .slice none 0 0, .slice A m c, .int .i64 0, .int .i64 0, .int .u16 0, .int .u16 0, .int .u16 0, .int .i64 0, .int .i64 0, .bool false, .int .i64 0, .slice none 0 0] 41))
  obtain ⟨x0, x1, x2, x3, x4, x5, x6, x7, x8, x9, x10, x11, x12, x13⟩ := yK X1.out
  have B1 := hQ (show Below w.heap.size w (w.alloc (.cells #[.int .i64 3, .int .i64 0, .slice none 0 0, .slice A m c, .int .i64 0, .int .i64 0, .int .u16 0, .int .u16 0, .int .u16 0, .int .i64 0, .int .i64 0, .bool false, .int .i64 0, .slice none 0 0] 41)) from (Below.refl _ _).alloc (Nat.le_refl _) _)
  have hP := fun w => zc9 w A m c
  have d1 : decide ((m : Int) ≥ 1) = true := decide_eq_true (by omega)
  have d2 : decide ((m : Int) ≤ 125) = true := decide_eq_true (by omega)
  have d3 : ((m : Int) ≥ 1) = True := eq_true (by omega)
  clear hm
  go_enter Tryz.func46, Tryz.ntmps46
  go_wp2_with (fail)
  refine (hP _).mono ?_
  rintro e w2 ⟨rfl, hd⟩
  have B2 := hQ (zf B1.out B1.out.size hd)
  have X2 := hQ (zb X1.out hd)
  clear hd x0 x1 x2 x3 x4 x5 x6 x7 x8 x9 x10 x11 x12 x13
  obtain ⟨x0, x1, x2, x3, x4, x5, x6, x7, x8, x9, x10, x11, x12, x13⟩ := yK X2.out
  go_wp2_with (fail)
  refine (zaW _).mono ?_
  rintro e w3 ⟨rfl, hd⟩
  have B3 := hQ (zf B2.out B2.out.size hd.below)
  have X3 := hQ (zb X2.out hd.below)
  clear hd x0 x1 x2 x3 x4 x5 x6 x7 x8 x9 x10 x11 x12 x13
  obtain ⟨x0, x1, x2, x3, x4, x5, x6, x7, x8, x9, x10, x11, x12, x13⟩ := yK X3.out
  go_wp2
  exact bodyPost_ret (v := .bool true) (by simp [results, Tryz.results46, go_sem]) rfl ⟨rfl, B3.out⟩
theorem zbH (w : World) (g0 c : Nat) (a v nn : Int) (ha : okA a ∨ a = 100) (ha2 : 0 ≤ a ∧ a < 256) (hv : 0 ≤ v ∧ v < 65536) (hC : Kd.C (Kd.int .u8) w (some ⟨g0, 0, none⟩) 5 [6, 0, a, v / 256, v % 256]) (hc : 5 ≤ c) :
    Calls Tryz.prog 19 #[.slice (some ⟨g0, 0, none⟩) 5 c, .int .i64 nn] w fun e w' => e = .returned (.tuple #[yu 6 0 (.slice none 0 0) a v, .int .i64 0]) ∧ Below w.heap.size w w' := by
  have hu41 := Tryz.underlying41
  have i0 := Ring.C_cell hC rfl 0 6 rfl
  have hg : g0 < w.heap.size := World.block_lt_of_cell? _ _ i0
  have B1 := hQ (show Below w.heap.size w (w.alloc (.cells yl 41)) from (Below.refl _ _).alloc (Nat.le_refl _) _)
  have X1 := hQ (zi w (.cells yl 41))
  have C1 := hQ (Kd.zx hC B1.out)
  have HC := hQ hc
  have hH := zb7 _ g0 c a v nn ha2 hv C1.out HC.out
  clear hC hc
  simp only [yu, zW, yl] at B1 X1 C1 hH ⊢
  go_enter Tryz.func19, Tryz.ntmps19
  go_wp2_with (fail)
  refine hH.mono ?_
  rintro e w2 ⟨rfl, hb⟩
  have B2 := hQ (zf B1.out B1.out.size hb)
  have X2 := hQ (zb X1.out hb)
  have B3 := hQ (B2.out.alloc B2.out.size (.cells #[.int .i64 6, .int .i64 0, .slice none 0 0, .slice none 0 0, .int .i64 a, .int .i64 0, .int .u16 v, .int .u16 0, .int .u16 0, .int .i64 0, .int .i64 0, .bool false, .int .i64 0, .slice none 0 0] 41))
  have X3 := hQ (zg X2.out (.cells #[.int .i64 6, .int .i64 0, .slice none 0 0, .slice none 0 0, .int .i64 a, .int .i64 0, .int .u16 v, .int .u16 0, .int .u16 0, .int .i64 0, .int .i64 0, .bool false, .int .i64 0, .slice none 0 0] 41))
  have Y3 := hQ (zi w2 (.cells #[.int .i64 6, .int .i64 0, .slice none 0 0, .slice none 0 0, .int .i64 a, .int .i64 0, .int .u16 v, .int .u16 0, .int .u16 0, .int .i64 0, .int .i64 0, .bool false, .int .i64 0, .slice none 0 0] 41))
  clear hb
  go_wp2_with (fail)
  refine (zao _ a v (by omega)).mono ?_
  rintro e w4 ⟨rfl, hb⟩
  have B4 := hQ (zf B3.out B3.out.size hb)
  have X4 := hQ (zb X3.out hb)
  have Y4 := hQ (zb Y3.out hb)
  have S2 := hQ (zF X2.out)
  clear hb
  obtain ⟨x0, x1, x2, x3, x4, x5, x6, x7, x8, x9, x10, x11, x12, x13⟩ := yK X4.out
  obtain ⟨y0, y1, y2, y3, y4, y5, y6, y7, y8, y9, y10, y11, y12, y13⟩ := yK Y4.out
  have fx : ∀ i, w4.frozen? ⟨w.heap.size, i, none⟩ = false := fun i => zh X4.out i
  go_wp2
  refine bodyPost_ret (v := .tuple #[.agg #[.int .i64 6, .int .i64 0, .slice none 0 0, .slice none 0 0, .int .i64 a, .int .i64 0, .int .u16 v, .int .u16 0, .int .u16 0, .int .i64 0, .int .i64 0, .bool false, .int .i64 0, .slice none 0 0], .int .i64 0]) ?_ rfl ⟨rfl, B4.out.trans ?_⟩
  · simp [results, Tryz.results19, go_sem, hu41, x0, x1, x2, x3, x4, x5, x6, x7, x8, x9, x10, x11, x12, x13]
  · (repeat (with_reducible first | exact Below.refl _ _ | (refine jG ?_ (by omega))))
theorem za8 (w : World) (g0 c : Nat) (x nn : Int) (hx : 0 ≤ x ∧ x < 65536) (hC : Kd.C (Kd.int .u8) w (some ⟨g0, 0, none⟩) 4 [3, 2, x / 256 % 256, x % 256]) (hc : 4 ≤ c) :
    Calls Tryz.prog 19 #[.slice (some ⟨g0, 0, none⟩) 4 c, .int .i64 nn] w fun e w' => ∃ A k, e = .returned (.tuple #[yu 3 0 (.slice A 1 k) 0 0, .int .i64 0]) ∧ Kd.R (Kd.int .u16) 33 w' w.heap.size (fun _ => True) (.slice A 1 k) [x] ∧ Below w.heap.size w w' := by
  have hu41 := Tryz.underlying41
  have i0 := Ring.C_cell hC rfl 0 3 rfl
  have hg : g0 < w.heap.size := World.block_lt_of_cell? _ _ i0
  have B1 := hQ (show Below w.heap.size w (w.alloc (.cells yl 41)) from (Below.refl _ _).alloc (Nat.le_refl _) _)
  have X1 := hQ (zi w (.cells yl 41))
  have C1 := hQ (Kd.zx hC B1.out)
  have HC := hQ hc
  have hH := zaQ _ g0 c x nn hx C1.out HC.out
  clear hC hc
  simp only [yu, zW, yl] at B1 X1 C1 hH ⊢
  go_enter Tryz.func19, Tryz.ntmps19
  go_wp2_with (fail)
  refine hH.mono ?_
  rintro e w2 ⟨A3, k3, rfl, hr, hb⟩
  have B2 := hQ (zf B1.out B1.out.size hb)
  have X2 := hQ (zb X1.out hb)
  have R2 := hQ (Kd.zU hr B1.out.size)
  clear hr
  have B3 := hQ (B2.out.alloc B2.out.size (.cells #[.int .i64 3, .int .i64 0, .slice none 0 0, .slice A3 1 k3, .int .i64 0, .int .i64 0, .int .u16 0, .int .u16 0, .int .u16 0, .int .i64 0, .int .i64 0, .bool false, .int .i64 0, .slice none 0 0] 41))
  have X3 := hQ (zg X2.out (.cells #[.int .i64 3, .int .i64 0, .slice none 0 0, .slice A3 1 k3, .int .i64 0, .int .i64 0, .int .u16 0, .int .u16 0, .int .u16 0, .int .i64 0, .int .i64 0, .bool false, .int .i64 0, .slice none 0 0] 41))
  have Y3 := hQ (zi w2 (.cells #[.int .i64 3, .int .i64 0, .slice none 0 0, .slice A3 1 k3, .int .i64 0, .int .i64 0, .int .u16 0, .int .u16 0, .int .u16 0, .int .i64 0, .int .i64 0, .bool false, .int .i64 0, .slice none 0 0] 41))
  clear hb
  go_wp2_with (fail)
  refine (Js _ A3 1 k3 (by decide)).mono ?_
  rintro e w4 ⟨rfl, hb⟩
  have B4 := hQ (zf B3.out B3.out.size hb)
  have X4 := hQ (zb X3.out hb)
  have Y4 := hQ (zb Y3.out hb)
  have R4 := hQ (Kd.zz (Kd.qg R2.out _) hb)
  have S2 := hQ (zF X2.out)
  clear hb
  obtain ⟨x0, x1, x2, x3, x4, x5, x6, x7, x8, x9, x10, x11, x12, x13⟩ := yK X4.out
  obtain ⟨y0, y1, y2, y3, y4, y5, y6, y7, y8, y9, y10, y11, y12, y13⟩ := yK Y4.out
  have fx : ∀ i, w4.frozen? ⟨w.heap.size, i, none⟩ = false := fun i => zh X4.out i
  go_wp2
  refine bodyPost_ret (v := .tuple #[.agg #[.int .i64 3, .int .i64 0, .slice none 0 0, .slice A3 1 k3, .int .i64 0, .int .i64 0, .int .u16 0, .int .u16 0, .int .u16 0, .int .i64 0, .int .i64 0, .bool false, .int .i64 0, .slice none 0 0], .int .i64 0]) ?_ rfl ⟨A3, k3, rfl, ?_, B4.out.trans ?_⟩
  · simp [results, Tryz.results19, go_sem, hu41, x0, x1, x2, x3, x4, x5, x6, x7, x8, x9, x10, x11, x12, x13]
  · refine RT.r (b1 := w.heap.size) (b2 := w.heap.size) ?_
    repeat (with_reducible first | exact RT.mk' R4.out X4.out X4.out | (refine RT.set ?_ (Or.inl rfl)))
  · (repeat (with_reducible first | exact Below.refl _ _ | (refine jG ?_ (by omega))))
end Go.Proofs.YtlalbohhopmpdaaGreat.Top
