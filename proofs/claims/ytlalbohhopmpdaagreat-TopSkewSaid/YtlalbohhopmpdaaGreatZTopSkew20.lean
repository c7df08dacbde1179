/- Words and walks for TopSkew (made of the session's own texts; each part by itself). -/
import Derived.Deep.DeepCutAuto
import Derived.Deep.DeepMust
import Derived.Deep.RegionLaw
import Derived.Test.YtlalbohhopmpdaaGreatZTopSkew19
set_option maxRecDepth 100000
set_option maxHeartbeats 8000000
set_option linter.unusedVariables false
set_option linter.unusedSimpArgs false
namespace Go.Proofs.YtlalbohhopmpdaaGreat.LemAduTop
open Go.RowKit Go.Proofs.YtlalbohhopmpdaaGreat.PTop Go.YW.PrintWords Go.YW.PrintLast Go.YW.PrintMore Go.Proofs.YtlalbohhopmpdaaGreat.Num Go.Proofs.YtlalbohhopmpdaaGreat.LemHeadTop Go.Proofs.YtlalbohhopmpdaaGreat.LemHead2Top
theorem xy (t l u : Int) : (hb t l u).length = 7 := rfl
theorem zcS (a b : Nat) (h : a ≤ b) : Kd.cnt a b = (a : Int) := by unfold Kd.cnt; rw [Nat.min_eq_left h]
theorem WA (h p : List Int) (n : Nat) (hh : h.length = 7) (hn : n = 7 + p.length) : Kd.laid (Kd.laid (List.replicate n 0) 0 (min h.length n) h) 7 (min p.length (n - 7)) p = h ++ p := by
  subst hn
  have e1 : Kd.laid (List.replicate (7 + p.length) (0 : Int)) 0 (min h.length (7 + p.length)) h = h ++ List.replicate p.length 0 := by
    unfold Kd.laid
    rw [hh, Nat.min_eq_left (by omega), List.take_zero, List.nil_append, Nat.zero_add, List.drop_replicate, List.take_of_length_le (by omega), show 7 + p.length - 7 = p.length by omega]
  rw [e1]
  unfold Kd.laid
  rw [show 7 + p.length - 7 = p.length by omega, Nat.min_self, List.take_length, List.take_append_of_le_length (by omega), List.take_of_length_le (by omega), List.drop_eq_nil_of_le (by rw [List.length_append, List.length_replicate]; omega), List.append_nil]
theorem Xh (t u : Int) (p : List Int) (hp : p.length ≤ 10000) (h : Ok t ((p.length : Int) + 1) u) : xw.f t u p = some (hb t ((p.length : Int) + 1) u ++ p, 0) := by
  unfold xw.f
  have e7 : (wrap64 (7 + (p.length : Int)) : Int).toNat = 7 + p.length := by rw [zA (by omega) (by omega)]; omega
  rw [zA (x := (p.length : Int) + 1) (by omega) (by omega), zc1 _ _ _ h, Option.bind_some, if_pos rfl, if_pos (by rw [zA (by omega) (by omega)]; omega), if_pos (by rw [e7]; omega), Option.bind_some]
  dsimp only
  rw [e7, if_pos (by rw [List.length_replicate]; omega), Option.bind_some, List.length_replicate]
  have hll : (Kd.laid (List.replicate (7 + p.length) 0) 0 (min (hb t ((p.length : Int) + 1) u).length (7 + p.length)) (hb t ((p.length : Int) + 1) u)).length = 7 + p.length := by
    rw [Kd.qG _ _ _ _ (by rw [List.length_replicate, xy]; omega) (by rw [xy]; omega), List.length_replicate]
  rw [hll, List.length_drop, hll, xy, zcS 7 (7 + p.length) (by omega), if_pos (by omega), if_pos (by omega), if_pos (by omega), show ((7 : Nat) : Int).toNat = 7 from rfl]
  have h2 := WA (hb t ((p.length : Int) + 1) u) p (7 + p.length) rfl rfl
  rw [xy] at h2
  rw [h2]
def jF (l : List Int) : Int × Int × List Int × Int × Int :=
  if (qw l).2.2.2 = 0 then (if (l.length : Int) < 6 + (qw l).2.1 then (0, 0, [], 0, 3) else ((qw l).1, (qw l).2.2.1, (l.take (6 + (qw l).2.1).toNat).drop 7, 6 + (qw l).2.1, 0)) else (0, 0, [], 0, (qw l).2.2.2)
theorem JH (l : List Int) (h : (qw l).2.2.2 = 0) : 2 ≤ (qw l).2.1 ∧ (qw l).2.1 ≤ 254 := by
  by_cases h6 : l.length < 6
  · rw [ZU l h6] at h; simp at h
  · obtain ⟨b0, b1, b2, b3, b4, b5, r, rfl⟩ := six l (by omega)
    match r with
    | [] =>
      rw [KQ] at h
      split at h <;> simp at h
    | b6 :: r =>
      rw [Ka] at h ⊢
      split at h
      · rename_i hc
        rw [if_pos hc]
        exact hc.2
      · simp at h
theorem zcT (l : List Int) (hl : l.length ≤ 100000) (hb : B8 l) {k : Nat} (hk : 2 ≤ k) : qD.f k l = some (jF l) := by
  unfold qD.f jF
  rw [zc4 l hl hb hk, Option.bind_some]
  by_cases h0 : (qw l).2.2.2 = 0
  · have h1 := JH l h0
    rw [if_pos h0, if_pos h0, zA (by omega) (by omega)]
    by_cases h2 : (l.length : Int) < 6 + (qw l).2.1
    · rw [if_pos h2, if_pos h2]
    · rw [if_neg h2, if_neg h2, if_pos (by omega), if_pos (by omega)]
      unfold yC.f
      rw [if_pos (by rw [List.length_drop, List.length_take]; omega), Option.bind_some]
  · rw [if_neg h0, if_neg h0]
theorem Wv (l : List Int) (hl : l.length ≤ 100000) (hb : B8 l) {k : Nat} (hk : 2 ≤ k) : yz.f k l = some (jF l) := by
  unfold yz.f jF
  rw [Xq l hl hb hk, Option.bind_some]
  by_cases h0 : (qw l).2.2.2 = 0
  · have h1 := JH l h0
    rw [if_pos h0, if_pos h0, zA (by omega) (by omega)]
    by_cases h2 : (l.length : Int) < 6 + (qw l).2.1
    · rw [if_pos h2, if_pos h2]
    · rw [if_neg h2, if_neg h2, if_pos (by omega), if_pos (by omega), if_pos (by rw [List.length_drop, List.length_take, List.length_nil]; omega), List.nil_append]
  · rw [if_neg h0, if_neg h0]
theorem Xv (t u : Int) (p m : List Int) (h : Ok t ((p.length : Int) + 1) u) : jF (hb t ((p.length : Int) + 1) u ++ p ++ m) = (t, u, p, 7 + (p.length : Int), 0) := by
  unfold jF
  rw [List.append_assoc, zaB _ _ _ h, if_pos rfl, if_neg (by simp only [List.length_append, xy]; omega)]
  have e : (6 + ((p.length : Int) + 1)).toNat = 7 + p.length := by omega
  dsimp only
  rw [e, List.take_append, xy, show 7 + p.length - 7 = p.length by omega, List.take_of_length_le (by rw [xy]; omega), List.take_append_of_le_length (by omega), List.take_length, List.drop_append, xy, Nat.sub_self, List.drop_zero, List.drop_eq_nil_of_le (by rw [xy]; omega), List.nil_append]
  congr 3
  congr 1
  omega
theorem JJ (t u : Int) (p : List Int) (h : Ok t ((p.length : Int) + 1) u) (hp : B8 p) : B8 (hb t ((p.length : Int) + 1) u ++ p) := by
  intro x hx
  rcases List.mem_append.1 hx with h1 | h1
  · exact zdr _ _ _ h x h1
  · exact hp x h1
end Go.Proofs.YtlalbohhopmpdaaGreat.LemAduTop
namespace Go.Proofs.YtlalbohhopmpdaaGreat.Top
open Go.RowKit Go.Proofs.YtlalbohhopmpdaaGreat.PTop Go.YW.PrintWords Go.YW.PrintLast Go.YW.PrintMore Go.Proofs.YtlalbohhopmpdaaGreat.Num
open Go.Proofs.YtlalbohhopmpdaaGreat.Ring (yM yw Fr2 Fr3 kJ vN Qb kS yN xZ)
open Go.Proofs.YtlalbohhopmpdaaGreat.LemHeadTop Go.Proofs.YtlalbohhopmpdaaGreat.LemAduTop
attribute [local go_sem] zm zu
theorem ZX (q : List Int) (hb : B8 q) : Ring.CutIs jF q := by
  intro W A n c hn hC hc
  subst hn
  exact qD.calls 10 A c (q.take 260) _ _ _ _ _ W hC hc (zcT (q.take 260) (by rw [List.length_take]; omega) (fun x hx => hb x (List.mem_of_mem_take hx)) (by omega))
theorem yu {w : World} {cs : Array Value} {m gr o : Value} {dk ss n gb : Nat} {L : Nat → Nat → Nat} (h : w.heap[gb]? = some (.cells cs 98 (0, 0))) (hc : GCs cs m gr o dk ss n L) :
    w.cell? ⟨gb, 0, none⟩ = some m ∧ w.cell? ⟨gb, 1, none⟩ = some gr ∧ w.cell? ⟨gb, 2, none⟩ = some (.int .i64 100) ∧ w.cell? ⟨gb, 3, none⟩ = some (.int .i64 1000) ∧ w.cell? ⟨gb, 4, none⟩ = some (.int .i64 8) ∧ w.cell? ⟨gb, 5, none⟩ = some (.int .i64 8) ∧ w.cell? ⟨gb, 6, none⟩ = some (.int .i64 100000) ∧ w.cell? ⟨gb, 7, none⟩ = some (.int .i64 500) ∧ w.cell? ⟨gb, 8, none⟩ = some (.int .i64 2000) ∧ w.cell? ⟨gb, 9, none⟩ = some (.int .i64 1024) ∧ w.cell? ⟨gb, 10, none⟩ = some (.int .i64 1024) ∧ w.cell? ⟨gb, 11, none⟩ = some (.int .u64 0) ∧ w.cell? ⟨gb, 12, none⟩ = some o ∧ w.cell? ⟨gb, 14, none⟩ = some (.pointer (some ⟨ss, 0, none⟩)) :=
  ⟨(za h 0).trans (hc.cfg 0 (by decide)), (za h 1).trans (hc.cfg 1 (by decide)), (za h 2).trans (hc.cfg 2 (by decide)), (za h 3).trans (hc.cfg 3 (by decide)), (za h 4).trans (hc.cfg 4 (by decide)), (za h 5).trans (hc.cfg 5 (by decide)), (za h 6).trans (hc.cfg 6 (by decide)), (za h 7).trans (hc.cfg 7 (by decide)), (za h 8).trans (hc.cfg 8 (by decide)), (za h 9).trans (hc.cfg 9 (by decide)), (za h 10).trans (hc.cfg 10 (by decide)), (za h 11).trans (hc.cfg 11 (by decide)), (za h 12).trans (hc.cfg 12 (by decide)), (za h 14).trans hc.ss⟩
def jT (B N N' : Nat) (x : Ix) (g g' : Sg) (k : Int) (p bl : List Int) : Prop := ∀ (w1 : World) (m gr o : Value) (g0 cap B0 : Nat), ym w1 B N x g → qF w1 m gr → Kd.R (Kd.int .u8) 5 w1 B0 (fun _ => True) (.slice (some ⟨g0, 0, none⟩) p.length cap) p →
  Calls Tryz.prog 64 #[.pointer (some ⟨x.ss, 0, none⟩), .agg (xA m gr o), .int .i64 k, .slice (some ⟨g0, 0, none⟩) p.length cap] w1 fun e w' => ∃ A c, e = .returned (.slice A bl.length c) ∧ bl.length ≤ c ∧ Kd.F (Kd.int .u8) w' (fun k => w1.heap.size ≤ k) A bl.length bl ∧ ym w' B N' x g' ∧ Ch TS (MS x) B w1 w'
open Go.Proofs.YtlalbohhopmpdaaGreat.Tiny
theorem Qk (w : World) (B N N' : Nat) (x : Ix) (g g' : Sg) (gb dk n : Nat) (L : Nat → Nat → Nat) (Qi Qo : Nat → List Int) (h : zQ w B N x g gb dk n L Qi Qo) (hc : 0 < n) (t u m0 : Int) (p bl : List Int) (hb8 : B8 (Qi 0)) (hf : yN jF (Qi 0) false = (t, u, p, m0, 0)) (hp : 0 < p.length) (hnx : (Qi 0).drop m0.toNat = []) (hqo : Qo 0 = []) (hS : jT B N N' x g g' 0 p bl) (hOk : Ok t ((bl.length : Int) + 1) u) :
    Calls Tryz.prog 33 #[.pointer (some ⟨gb, 0, none⟩), .int .i64 0] w fun e w' => e = .returned (.agg #[.bool true, .int .i64 1, .slice none 0 0]) ∧ zQ w' B N' x g' gb dk n L (qX Qi 0 []) (qX Qo 0 (hb t ((bl.length : Int) + 1) u ++ bl)) ∧ Ch TG (MS x) B w w' := by
  have hu98 := Tryz.underlying98
  have hu96 := Tryz.underlying96
  have hu95 := Tryz.underlying95
  have hu61 := Tryz.underlying61
  have hu141 := Tryz.underlying141
  have hu30 := Tryz.underlying30
  have B1 := hQ (show Below w.heap.size w (w.alloc (.cells #[.bool false, .int .i64 0, .slice none 0 0] 61)) from (Below.refl _ _).alloc (Nat.le_refl _) _)
  have X1 := hQ (zi w (.cells #[.bool false, .int .i64 0, .slice none 0 0] 61))
  have L1 := hQ (xh.mk' h B1.out X1.out X1.out (by omega) (by omega) (by decide) (by decide))
  have HS := fun (W : World) (hW : zQ W B N x g gb dk n L Qi Qo) => jS W B N x g gb dk n L Qi Qo hW 0 hc
  have e1 : (!((yN jF (Qi 0) false).2.2.2.2 == 3)) = true := by rw [hf]; rfl
  have HR := fun (W : World) (hW : zQ W B N x g gb dk n L Qi Qo) => kJ jF W (L 0 0) (L 0 1) (L 0 2) 1024 (Qi 0) false (hW.fl 0 hc) (ZX _ hb8)
  rw [e1] at HR
  have HM := fun (W : World) (hW : zQ W B N x g gb dk n L Qi Qo) => Qb W (L 0 3) (L 0 4) 1024 (Qo 0) (hW.rg 0 hc)
  have e2 : ((1024 : Nat) : Int) - ((Qo 0).length : Int) = 1024 := by rw [hqo]; rfl
  rw [e2] at HM
  have HN := fun (W : World) (hW : zQ W B N x g gb dk n L Qi Qo) => vN jF W (L 0 0) (L 0 1) (L 0 2) 1024 (Qi 0) false (hW.fl 0 hc) (ZX _ hb8) t u p m0 0 hf
  have e3 : xZ jF (Qi 0) false = ([], false) := by unfold xZ; rw [hf]; simp only; rw [if_neg (by decide), hnx]
  rw [e3] at HN
  have HP := hQ hp
  have HV := hQ hS
  have HO := hQ hOk
  have HQ := hQ hqo
  have HC := hQ hc
  have hcells := fun (W : World) (hW : zQ W B N x g gb dk n L Qi Qo) => (hW.cells.2.2 0 hc)
  have hfl := fun (W W' : World) (hW : zQ W B N x g gb dk n L Qi Qo) (q : List Int) (hw : yM W' (L 0 0) (L 0 1) (L 0 2) 1024 q false) (hf : Fr3 (L 0 0) (L 0 1) (L 0 2) W W') => And.intro (hW.flow hc hw hf) (hW.flowC hc hf)
  clear h hc hb8 hf hp hnx hqo hS hOk e1 e2 e3
  go_enter Tryz.func33, Tryz.ntmps33
  go_wp2_with (fail)
  refine (HS _ L1.out.gt).mono ?_
  rintro e w2 ⟨rfl, hb⟩
  have L2 := hQ (L1.out.below hb)
  have X2 := hQ (zb X1.out hb)
  clear hb HS
  have p0 : w2.cell? ⟨gb, 15, none⟩ = some (.pointer (some ⟨L 0 0, 0, none⟩)) := (hcells _ L2.out.gt).1
  go_wp2_with (fail)
  refine (HR _ L2.out.gt).mono ?_
  rintro e w3 ⟨rfl, hb⟩
  have L3 := hQ (L2.out.below hb)
  have X3 := hQ (zb X2.out hb)
  clear hb HR p0
  have p0 : w3.cell? ⟨gb, 16, none⟩ = some (.pointer (some ⟨L 0 3, 0, none⟩)) := (hcells _ L3.out.gt).2
  go_wp2_with (fail)
  refine (HM _ L3.out.gt).mono ?_
  rintro e w3b ⟨rfl, hb⟩
  have L3b := hQ (L3.out.below hb)
  have X3b := hQ (zb X3.out hb)
  clear hb HM p0
  have p0 : w3b.cell? ⟨gb, 15, none⟩ = some (.pointer (some ⟨L 0 0, 0, none⟩)) := (hcells _ L3b.out.gt).1
  go_wp2_with (fail)
  refine (HN _ L3b.out.gt).mono ?_
  rintro e w4 ⟨Ap, cp, rfl, hR4, hw4, hf4⟩
  obtain ⟨hg4, hc4⟩ := hfl _ _ L3b.out.gt _ hw4 hf4
  have L4 := hQ (L3b.out.step hg4 hc4)
  have X4 := hQ (hc4.cell X3b.out (by decide))
  obtain ⟨g0, cap0, eg, _, _, _⟩ := Kd.xX hR4 HP.out
  obtain ⟨rfl, rfl⟩ : Ap = some ⟨g0, 0, none⟩ ∧ cp = cap0 := by injection eg with h1 h2 h3; exact ⟨h1, h3⟩
  have R4 := hQ hR4
  clear hw4 hf4 hg4 hc4 hR4 eg p0 HN hcells hfl
  go_wp2_with (fail)
  have hb5 : Below w4.heap.size w4 ((w4.alloc (.cells #[.int .i64 t, .int .i64 u, .slice (some ⟨g0, 0, none⟩) p.length cp] 141)).drew) := zk ((Below.refl _ _).alloc (Nat.le_refl _) _)
  have L5 := hQ (L4.out.below hb5)
  have X5 := hQ (zb X4.out hb5)
  have R5 := hQ (Kd.zy R4.out hb5)
  have F5 := hQ (zo (zi w4 (.cells #[.int .i64 t, .int .i64 u, .slice (some ⟨g0, 0, none⟩) p.length cp] 141)))
  obtain ⟨cs, m, gr, o, hk5, hg5, hcf5⟩ := L5.out.gt.blk
  have K5 := hQ hk5
  have HG := hQ hg5
  have CF5 := hQ hcf5
  clear hk5 hg5 hcf5 hb5
  simp only [jT, xA] at HV
  refine sq_ (ds := [13]) #[false, false, false, false, false, false, false, false, false, false, false, false, false, false] (fun w' => w'.cell? ⟨gb, 0, none⟩ = some (m) ∧ w'.cell? ⟨gb, 1, none⟩ = some (gr) ∧ w'.cell? ⟨gb, 2, none⟩ = some (.int .i64 100) ∧ w'.cell? ⟨gb, 3, none⟩ = some (.int .i64 1000) ∧ w'.cell? ⟨gb, 4, none⟩ = some (.int .i64 8) ∧ w'.cell? ⟨gb, 5, none⟩ = some (.int .i64 8) ∧ w'.cell? ⟨gb, 6, none⟩ = some (.int .i64 100000) ∧ w'.cell? ⟨gb, 7, none⟩ = some (.int .i64 500) ∧ w'.cell? ⟨gb, 8, none⟩ = some (.int .i64 2000) ∧ w'.cell? ⟨gb, 9, none⟩ = some (.int .i64 1024) ∧ w'.cell? ⟨gb, 10, none⟩ = some (.int .i64 1024) ∧ w'.cell? ⟨gb, 11, none⟩ = some (.int .u64 0) ∧ w'.cell? ⟨gb, 12, none⟩ = some (o) ∧ w'.cell? ⟨gb, 14, none⟩ = some (.pointer (some ⟨x.ss, 0, none⟩)) ∧ w'.cell? ⟨w4.heap.size, 2, none⟩ = some (.slice (some ⟨g0, 0, none⟩) p.length cp)) ⟨(yu K5.out HG.out).1, (yu K5.out HG.out).2.1, (yu K5.out HG.out).2.2.1, (yu K5.out HG.out).2.2.2.1, (yu K5.out HG.out).2.2.2.2.1, (yu K5.out HG.out).2.2.2.2.2.1, (yu K5.out HG.out).2.2.2.2.2.2.1, (yu K5.out HG.out).2.2.2.2.2.2.2.1, (yu K5.out HG.out).2.2.2.2.2.2.2.2.1, (yu K5.out HG.out).2.2.2.2.2.2.2.2.2.1, (yu K5.out HG.out).2.2.2.2.2.2.2.2.2.2.1, (yu K5.out HG.out).2.2.2.2.2.2.2.2.2.2.2.1, (yu K5.out HG.out).2.2.2.2.2.2.2.2.2.2.2.2.1, (yu K5.out HG.out).2.2.2.2.2.2.2.2.2.2.2.2.2, za F5.out 2⟩ (fun hHeld => ?_)
  refine pq_ 0 (some 62) ?_
  refine pq_ 1 (some 63) ?_
  refine pq_ 2 (some 64) ?_
  refine pq_ 4 (some 66) ?_
  refine pq_ 5 (some 67) ?_
  refine pq_ 6 (some 68) ?_
  refine pq_ 8 (some 70) ?_
  refine pq_ 9 (some 71) ?_
  refine tq_ 3 (some 65) hHeld ?_
  refine tq_ 7 (some 69) hHeld ?_
  refine tq_ 10 (some 72) hHeld ?_
  refine oq_ 11 (some 73) (fun K hK => ?_)
  refine yo Tryz.func64 (by kernel_rfl) rfl #[.pointer (some ⟨x.ss, 0, none⟩), .agg #[m, gr, .int .i64 100, .int .i64 1000, .int .i64 8, .int .i64 8, .int .i64 100000, .int .i64 500, .int .i64 2000, .int .i64 1024, .int .i64 1024, .int .u64 0, o], .int .i64 0, .slice (some ⟨g0, 0, none⟩) p.length cp] (by rfl) rfl rfl (by (try simp only [List.map_toArray, List.map_cons, List.map_nil]); first | done | rfl) ?_
  refine (HV.out _ m gr o g0 cp _ L5.out.gt.slv CF5.out R5.out).mono ?_
  rintro e w6 ⟨A6, c6, rfl, hc6, hF6, hs, hc⟩
  have L6 := hQ (L5.out.step (L5.out.gt.step hs hc) (zaF hc))
  have K6 := hQ (hc.cell K5.out (by decide))
  have F6 := hQ (hc.cell F5.out (by decide))
  have Q6 := hQ hF6
  have C6 := hQ hc6
  have S6 := hQ (show w4.heap.size < _ from zF F5.out)
  have X6 := hQ (hc.cell X5.out (by decide))
  clear hF6 hc6 hs hc
  have ff : ∀ i, w6.frozen? ⟨w4.heap.size, i, none⟩ = false := fun i => zh F6.out i
  have f2 := za F6.out 2
  refine ⟨_, rfl, ?_⟩
  refine hK.out _ _ ⟨(yu K6.out HG.out).1, (yu K6.out HG.out).2.1, (yu K6.out HG.out).2.2.1, (yu K6.out HG.out).2.2.2.1, (yu K6.out HG.out).2.2.2.2.1, (yu K6.out HG.out).2.2.2.2.2.1, (yu K6.out HG.out).2.2.2.2.2.2.1, (yu K6.out HG.out).2.2.2.2.2.2.2.1, (yu K6.out HG.out).2.2.2.2.2.2.2.2.1, (yu K6.out HG.out).2.2.2.2.2.2.2.2.2.1, (yu K6.out HG.out).2.2.2.2.2.2.2.2.2.2.1, (yu K6.out HG.out).2.2.2.2.2.2.2.2.2.2.2.1, (yu K6.out HG.out).2.2.2.2.2.2.2.2.2.2.2.2.1, (yu K6.out HG.out).2.2.2.2.2.2.2.2.2.2.2.2.2, za F6.out 2⟩ (fun hHeld => ?_)
  clear hK K
  refine nq_ ?_
  refine pq_ 12 (some 74) ?_
  refine kr (i := 13) (N := none) #[true, true, true, true, true, true, true, true, true, true, true, true, true, true] rfl rfl (by kernel_rfl) (by decide) (fun K hK => ?_)
  refine jJ (w1 := ?_) (by rfl) rfl ?_ ?_
  rotate_left
  · go_simp
    rfl
  refine hK.out _ _ ?_
  clear hK K
  refine xP (by kernel_rfl) ?_

  have L6' : xh B N' x g' gb dk n L (qX Qi 0 []) Qo w w6 w.heap.size w4.heap.size := ⟨L6.out.gt, L6.out.ch, L6.out.le, L6.out.t1, ⟨_, _, _, F6.out, by decide⟩, L6.out.n1, L4.out.ch.size⟩
  have L7 := hQ (L6'.set (j := 2) (v := .slice A6 bl.length c6) (Or.inr rfl))
  have f0 := za F6.out 0
  have f1 := za F6.out 1
  have f0 : w6.cell? ⟨w4.heap.size, 0, none⟩ = some (.int .i64 t) := f0
  have f1 : w6.cell? ⟨w4.heap.size, 1, none⟩ = some (.int .i64 u) := f1
  have hne : w.heap.size ≠ w4.heap.size := by have := zF X4.out; omega
  have X7 := hQ (show (w6.setCell ⟨w4.heap.size, 2, none⟩ (.slice A6 bl.length c6)).heap[w.heap.size]? = _ from (Below.heap_setCell w6 ⟨w4.heap.size, 2, none⟩ (.slice A6 bl.length c6) w.heap.size hne).trans X6.out)
  have Q7 := hQ (Kd.XK (jR (g := w4.heap.size) (j := 2) (u := .slice A6 bl.length c6) Q6.out S6.out))
  clear L6'
  generalize hW7 : w6.setCell ⟨w4.heap.size, 2, none⟩ (.slice A6 bl.length c6) = W7 at *
  have d0 : W7.cell? ⟨w4.heap.size, 0, none⟩ = some (.int .i64 t) := by rw [← hW7]; simp [go_sem, f0]
  have d1 : W7.cell? ⟨w4.heap.size, 1, none⟩ = some (.int .i64 u) := by rw [← hW7]; simp [go_sem, f1]
  have d2 : W7.cell? ⟨w4.heap.size, 2, none⟩ = some (.slice A6 bl.length c6) := by rw [← hW7]; simp [go_sem, f2]
  clear hW7 f0 f1 f2 ff
  go_wp2_with (fail)
  have hbl : bl.length ≤ 253 := by have := HO.out; unfold Ok at this; omega
  refine (xw.calls t u A6 c6 bl _ 0 _ Q7.out C6.out (Xh t u bl (by omega) HO.out)).mono ?_
  rintro e w8 ⟨v0, rfl, hR8, hbw⟩
  have L8 := hQ (L7.out.below hbw)
  have X8 := hQ (zb X7.out hbw)
  obtain ⟨A8, c8, hv8⟩ := Kd.zX hR8
  have hl8 : (hb t ((bl.length : Int) + 1) u ++ bl).length = 7 + bl.length := by rw [List.length_append, xy]
  rw [hl8] at hv8
  subst hv8
  have R8 := hQ hR8
  have HBL := hQ hbl
  have HL8 := hQ hl8
  clear hbw hR8 d0 d1 d2 hbl hl8
  have p0 : w8.cell? ⟨gb, 16, none⟩ = some (.pointer (some ⟨L 0 3, 0, none⟩)) := (L8.out.gt.cells.2.2 0 HC.out).2
  go_wp2_with (fail)
  have hlt := ((L7.out.gt.rg 0 HC.out).lt).2
  have hPut := kS w8 (L 0 3) (L 0 4) 1024 (Qo 0) (L8.out.gt.rg 0 HC.out) A8 (7 + bl.length) c8 _ _ _ R8.out hlt (7 + bl.length) (by rw [HQ.out]; have := HBL.out; simp; omega)
  have ht8 : (hb t ((bl.length : Int) + 1) u ++ bl).take (7 + bl.length) = hb t ((bl.length : Int) + 1) u ++ bl := List.take_of_length_le (by rw [HL8.out]; exact Nat.le_refl _)
  rw [ht8, HQ.out, List.nil_append] at hPut
  refine hPut.mono ?_
  rintro e w9 ⟨rfl, hw9, hf9⟩
  have L9 := hQ (L8.out.step (L8.out.gt.ring HC.out hw9 hf9) (L8.out.gt.ringC HC.out hf9))
  have X9 := hQ ((L8.out.gt.ringC HC.out hf9).cell X8.out (by decide))
  clear hw9 hf9 hPut ht8 hlt p0
  obtain ⟨y0, y1, y2⟩ := kK X9.out
  have fy : ∀ i, w9.frozen? ⟨w.heap.size, i, none⟩ = false := fun i => zh X9.out i
  go_wp2
  refine bodyPost_ret (v := .agg #[.bool true, .int .i64 1, .slice none 0 0]) ?_ rfl ⟨rfl, ?_⟩
  · simp [results, Tryz.results33, go_sem, hu61, y0, y1, y2]
  · refine xh.both (b1 := w.heap.size) (b2 := w4.heap.size) ?_
    repeat (with_reducible first | exact L9.out | (refine xh.set ?_ (Or.inl rfl)))
theorem Ql (w : World) (B N N' : Nat) (x : Ix) (g g' : Sg) (gb dk n : Nat) (L : Nat → Nat → Nat) (Qi Qo : Nat → List Int) (h : zQ w B N x g gb dk n L Qi Qo) (hc : 1 < n) (t u m0 : Int) (p bl : List Int) (hb8 : B8 (Qi 1)) (hf : yN jF (Qi 1) false = (t, u, p, m0, 0)) (hp : 0 < p.length) (hnx : (Qi 1).drop m0.toNat = []) (hqo : Qo 1 = []) (hS : jT B N N' x g g' 1 p bl) (hOk : Ok t ((bl.length : Int) + 1) u) :
    Calls Tryz.prog 33 #[.pointer (some ⟨gb, 0, none⟩), .int .i64 1] w fun e w' => e = .returned (.agg #[.bool true, .int .i64 1, .slice none 0 0]) ∧ zQ w' B N' x g' gb dk n L (qX Qi 1 []) (qX Qo 1 (hb t ((bl.length : Int) + 1) u ++ bl)) ∧ Ch TG (MS x) B w w' := by
  have hu98 := Tryz.underlying98
  have hu96 := Tryz.underlying96
  have hu95 := Tryz.underlying95
  have hu61 := Tryz.underlying61
  have hu141 := Tryz.underlying141
  have hu30 := Tryz.underlying30
  have B1 := hQ (show Below w.heap.size w (w.alloc (.cells #[.bool false, .int .i64 0, .slice none 0 0] 61)) from (Below.refl _ _).alloc (Nat.le_refl _) _)
  have X1 := hQ (zi w (.cells #[.bool false, .int .i64 0, .slice none 0 0] 61))
  have L1 := hQ (xh.mk' h B1.out X1.out X1.out (by omega) (by omega) (by decide) (by decide))
  have HS := fun (W : World) (hW : zQ W B N x g gb dk n L Qi Qo) => jS W B N x g gb dk n L Qi Qo hW 1 hc
  have e1 : (!((yN jF (Qi 1) false).2.2.2.2 == 3)) = true := by rw [hf]; rfl
  have HR := fun (W : World) (hW : zQ W B N x g gb dk n L Qi Qo) => kJ jF W (L 1 0) (L 1 1) (L 1 2) 1024 (Qi 1) false (hW.fl 1 hc) (ZX _ hb8)
  rw [e1] at HR
  have HM := fun (W : World) (hW : zQ W B N x g gb dk n L Qi Qo) => Qb W (L 1 3) (L 1 4) 1024 (Qo 1) (hW.rg 1 hc)
  have e2 : ((1024 : Nat) : Int) - ((Qo 1).length : Int) = 1024 := by rw [hqo]; rfl
  rw [e2] at HM
  have HN := fun (W : World) (hW : zQ W B N x g gb dk n L Qi Qo) => vN jF W (L 1 0) (L 1 1) (L 1 2) 1024 (Qi 1) false (hW.fl 1 hc) (ZX _ hb8) t u p m0 0 hf
  have e3 : xZ jF (Qi 1) false = ([], false) := by unfold xZ; rw [hf]; simp only; rw [if_neg (by decide), hnx]
  rw [e3] at HN
  have HP := hQ hp
  have HV := hQ hS
  have HO := hQ hOk
  have HQ := hQ hqo
  have HC := hQ hc
  have hcells := fun (W : World) (hW : zQ W B N x g gb dk n L Qi Qo) => (hW.cells.2.2 1 hc)
  have hfl := fun (W W' : World) (hW : zQ W B N x g gb dk n L Qi Qo) (q : List Int) (hw : yM W' (L 1 0) (L 1 1) (L 1 2) 1024 q false) (hf : Fr3 (L 1 0) (L 1 1) (L 1 2) W W') => And.intro (hW.flow hc hw hf) (hW.flowC hc hf)
  clear h hc hb8 hf hp hnx hqo hS hOk e1 e2 e3
  go_enter Tryz.func33, Tryz.ntmps33
  go_wp2_with (fail)
  refine (HS _ L1.out.gt).mono ?_
  rintro e w2 ⟨rfl, hb⟩
  have L2 := hQ (L1.out.below hb)
  have X2 := hQ (zb X1.out hb)
  clear hb HS
  have p0 : w2.cell? ⟨gb, 17, none⟩ = some (.pointer (some ⟨L 1 0, 0, none⟩)) := (hcells _ L2.out.gt).1
  go_wp2_with (fail)
  refine (HR _ L2.out.gt).mono ?_
  rintro e w3 ⟨rfl, hb⟩
  have L3 := hQ (L2.out.below hb)
  have X3 := hQ (zb X2.out hb)
  clear hb HR p0
  have p0 : w3.cell? ⟨gb, 18, none⟩ = some (.pointer (some ⟨L 1 3, 0, none⟩)) := (hcells _ L3.out.gt).2
  go_wp2_with (fail)
  refine (HM _ L3.out.gt).mono ?_
  rintro e w3b ⟨rfl, hb⟩
  have L3b := hQ (L3.out.below hb)
  have X3b := hQ (zb X3.out hb)
  clear hb HM p0
  have p0 : w3b.cell? ⟨gb, 17, none⟩ = some (.pointer (some ⟨L 1 0, 0, none⟩)) := (hcells _ L3b.out.gt).1
  go_wp2_with (fail)
  refine (HN _ L3b.out.gt).mono ?_
  rintro e w4 ⟨Ap, cp, rfl, hR4, hw4, hf4⟩
  obtain ⟨hg4, hc4⟩ := hfl _ _ L3b.out.gt _ hw4 hf4
  have L4 := hQ (L3b.out.step hg4 hc4)
  have X4 := hQ (hc4.cell X3b.out (by decide))
  obtain ⟨g0, cap0, eg, _, _, _⟩ := Kd.xX hR4 HP.out
  obtain ⟨rfl, rfl⟩ : Ap = some ⟨g0, 0, none⟩ ∧ cp = cap0 := by injection eg with h1 h2 h3; exact ⟨h1, h3⟩
  have R4 := hQ hR4
  clear hw4 hf4 hg4 hc4 hR4 eg p0 HN hcells hfl
  go_wp2_with (fail)
  have hb5 : Below w4.heap.size w4 ((w4.alloc (.cells #[.int .i64 t, .int .i64 u, .slice (some ⟨g0, 0, none⟩) p.length cp] 141)).drew) := zk ((Below.refl _ _).alloc (Nat.le_refl _) _)
  have L5 := hQ (L4.out.below hb5)
  have X5 := hQ (zb X4.out hb5)
  have R5 := hQ (Kd.zy R4.out hb5)
  have F5 := hQ (zo (zi w4 (.cells #[.int .i64 t, .int .i64 u, .slice (some ⟨g0, 0, none⟩) p.length cp] 141)))
  obtain ⟨cs, m, gr, o, hk5, hg5, hcf5⟩ := L5.out.gt.blk
  have K5 := hQ hk5
  have HG := hQ hg5
  have CF5 := hQ hcf5
  clear hk5 hg5 hcf5 hb5
  simp only [jT, xA] at HV
  refine sq_ (ds := [13]) #[false, false, false, false, false, false, false, false, false, false, false, false, false, false] (fun w' => w'.cell? ⟨gb, 0, none⟩ = some (m) ∧ w'.cell? ⟨gb, 1, none⟩ = some (gr) ∧ w'.cell? ⟨gb, 2, none⟩ = some (.int .i64 100) ∧ w'.cell? ⟨gb, 3, none⟩ = some (.int .i64 1000) ∧ w'.cell? ⟨gb, 4, none⟩ = some (.int .i64 8) ∧ w'.cell? ⟨gb, 5, none⟩ = some (.int .i64 8) ∧ w'.cell? ⟨gb, 6, none⟩ = some (.int .i64 100000) ∧ w'.cell? ⟨gb, 7, none⟩ = some (.int .i64 500) ∧ w'.cell? ⟨gb, 8, none⟩ = some (.int .i64 2000) ∧ w'.cell? ⟨gb, 9, none⟩ = some (.int .i64 1024) ∧ w'.cell? ⟨gb, 10, none⟩ = some (.int .i64 1024) ∧ w'.cell? ⟨gb, 11, none⟩ = some (.int .u64 0) ∧ w'.cell? ⟨gb, 12, none⟩ = some (o) ∧ w'.cell? ⟨gb, 14, none⟩ = some (.pointer (some ⟨x.ss, 0, none⟩)) ∧ w'.cell? ⟨w4.heap.size, 2, none⟩ = some (.slice (some ⟨g0, 0, none⟩) p.length cp)) ⟨(yu K5.out HG.out).1, (yu K5.out HG.out).2.1, (yu K5.out HG.out).2.2.1, (yu K5.out HG.out).2.2.2.1, (yu K5.out HG.out).2.2.2.2.1, (yu K5.out HG.out).2.2.2.2.2.1, (yu K5.out HG.out).2.2.2.2.2.2.1, (yu K5.out HG.out).2.2.2.2.2.2.2.1, (yu K5.out HG.out).2.2.2.2.2.2.2.2.1, (yu K5.out HG.out).2.2.2.2.2.2.2.2.2.1, (yu K5.out HG.out).2.2.2.2.2.2.2.2.2.2.1, (yu K5.out HG.out).2.2.2.2.2.2.2.2.2.2.2.1, (yu K5.out HG.out).2.2.2.2.2.2.2.2.2.2.2.2.1, (yu K5.out HG.out).2.2.2.2.2.2.2.2.2.2.2.2.2, za F5.out 2⟩ (fun hHeld => ?_)
  refine pq_ 0 (some 62) ?_
  refine pq_ 1 (some 63) ?_
  refine pq_ 2 (some 64) ?_
  refine pq_ 4 (some 66) ?_
  refine pq_ 5 (some 67) ?_
  refine pq_ 6 (some 68) ?_
  refine pq_ 8 (some 70) ?_
  refine pq_ 9 (some 71) ?_
  refine tq_ 3 (some 65) hHeld ?_
  refine tq_ 7 (some 69) hHeld ?_
  refine tq_ 10 (some 72) hHeld ?_
  refine oq_ 11 (some 73) (fun K hK => ?_)
  refine yo Tryz.func64 (by kernel_rfl) rfl #[.pointer (some ⟨x.ss, 0, none⟩), .agg #[m, gr, .int .i64 100, .int .i64 1000, .int .i64 8, .int .i64 8, .int .i64 100000, .int .i64 500, .int .i64 2000, .int .i64 1024, .int .i64 1024, .int .u64 0, o], .int .i64 1, .slice (some ⟨g0, 0, none⟩) p.length cp] (by rfl) rfl rfl (by (try simp only [List.map_toArray, List.map_cons, List.map_nil]); first | done | rfl) ?_
  refine (HV.out _ m gr o g0 cp _ L5.out.gt.slv CF5.out R5.out).mono ?_
  rintro e w6 ⟨A6, c6, rfl, hc6, hF6, hs, hc⟩
  have L6 := hQ (L5.out.step (L5.out.gt.step hs hc) (zaF hc))
  have K6 := hQ (hc.cell K5.out (by decide))
  have F6 := hQ (hc.cell F5.out (by decide))
  have Q6 := hQ hF6
  have C6 := hQ hc6
  have S6 := hQ (show w4.heap.size < _ from zF F5.out)
  have X6 := hQ (hc.cell X5.out (by decide))
  clear hF6 hc6 hs hc
  have ff : ∀ i, w6.frozen? ⟨w4.heap.size, i, none⟩ = false := fun i => zh F6.out i
  have f2 := za F6.out 2
  refine ⟨_, rfl, ?_⟩
  refine hK.out _ _ ⟨(yu K6.out HG.out).1, (yu K6.out HG.out).2.1, (yu K6.out HG.out).2.2.1, (yu K6.out HG.out).2.2.2.1, (yu K6.out HG.out).2.2.2.2.1, (yu K6.out HG.out).2.2.2.2.2.1, (yu K6.out HG.out).2.2.2.2.2.2.1, (yu K6.out HG.out).2.2.2.2.2.2.2.1, (yu K6.out HG.out).2.2.2.2.2.2.2.2.1, (yu K6.out HG.out).2.2.2.2.2.2.2.2.2.1, (yu K6.out HG.out).2.2.2.2.2.2.2.2.2.2.1, (yu K6.out HG.out).2.2.2.2.2.2.2.2.2.2.2.1, (yu K6.out HG.out).2.2.2.2.2.2.2.2.2.2.2.2.1, (yu K6.out HG.out).2.2.2.2.2.2.2.2.2.2.2.2.2, za F6.out 2⟩ (fun hHeld => ?_)
  clear hK K
  refine nq_ ?_
  refine pq_ 12 (some 74) ?_
  refine kr (i := 13) (N := none) #[true, true, true, true, true, true, true, true, true, true, true, true, true, true] rfl rfl (by kernel_rfl) (by decide) (fun K hK => ?_)
  refine jJ (w1 := ?_) (by rfl) rfl ?_ ?_
  rotate_left
  · go_simp
    rfl
  refine hK.out _ _ ?_
  clear hK K
  refine xP (by kernel_rfl) ?_

  have L6' : xh B N' x g' gb dk n L (qX Qi 1 []) Qo w w6 w.heap.size w4.heap.size := ⟨L6.out.gt, L6.out.ch, L6.out.le, L6.out.t1, ⟨_, _, _, F6.out, by decide⟩, L6.out.n1, L4.out.ch.size⟩
  have L7 := hQ (L6'.set (j := 2) (v := .slice A6 bl.length c6) (Or.inr rfl))
  have f0 := za F6.out 0
  have f1 := za F6.out 1
  have f0 : w6.cell? ⟨w4.heap.size, 0, none⟩ = some (.int .i64 t) := f0
  have f1 : w6.cell? ⟨w4.heap.size, 1, none⟩ = some (.int .i64 u) := f1
  have hne : w.heap.size ≠ w4.heap.size := by have := zF X4.out; omega
  have X7 := hQ (show (w6.setCell ⟨w4.heap.size, 2, none⟩ (.slice A6 bl.length c6)).heap[w.heap.size]? = _ from (Below.heap_setCell w6 ⟨w4.heap.size, 2, none⟩ (.slice A6 bl.length c6) w.heap.size hne).trans X6.out)
  have Q7 := hQ (Kd.XK (jR (g := w4.heap.size) (j := 2) (u := .slice A6 bl.length c6) Q6.out S6.out))
  clear L6'
  generalize hW7 : w6.setCell ⟨w4.heap.size, 2, none⟩ (.slice A6 bl.length c6) = W7 at *
  have d0 : W7.cell? ⟨w4.heap.size, 0, none⟩ = some (.int .i64 t) := by rw [← hW7]; simp [go_sem, f0]
  have d1 : W7.cell? ⟨w4.heap.size, 1, none⟩ = some (.int .i64 u) := by rw [← hW7]; simp [go_sem, f1]
  have d2 : W7.cell? ⟨w4.heap.size, 2, none⟩ = some (.slice A6 bl.length c6) := by rw [← hW7]; simp [go_sem, f2]
  clear hW7 f0 f1 f2 ff
  go_wp2_with (fail)
  have hbl : bl.length ≤ 253 := by have := HO.out; unfold Ok at this; omega
  refine (xw.calls t u A6 c6 bl _ 0 _ Q7.out C6.out (Xh t u bl (by omega) HO.out)).mono ?_
  rintro e w8 ⟨v0, rfl, hR8, hbw⟩
  have L8 := hQ (L7.out.below hbw)
  have X8 := hQ (zb X7.out hbw)
  obtain ⟨A8, c8, hv8⟩ := Kd.zX hR8
  have hl8 : (hb t ((bl.length : Int) + 1) u ++ bl).length = 7 + bl.length := by rw [List.length_append, xy]
  rw [hl8] at hv8
  subst hv8
  have R8 := hQ hR8
  have HBL := hQ hbl
  have HL8 := hQ hl8
  clear hbw hR8 d0 d1 d2 hbl hl8
  have p0 : w8.cell? ⟨gb, 18, none⟩ = some (.pointer (some ⟨L 1 3, 0, none⟩)) := (L8.out.gt.cells.2.2 1 HC.out).2
  go_wp2_with (fail)
  have hlt := ((L7.out.gt.rg 1 HC.out).lt).2
  have hPut := kS w8 (L 1 3) (L 1 4) 1024 (Qo 1) (L8.out.gt.rg 1 HC.out) A8 (7 + bl.length) c8 _ _ _ R8.out hlt (7 + bl.length) (by rw [HQ.out]; have := HBL.out; simp; omega)
  have ht8 : (hb t ((bl.length : Int) + 1) u ++ bl).take (7 + bl.length) = hb t ((bl.length : Int) + 1) u ++ bl := List.take_of_length_le (by rw [HL8.out]; exact Nat.le_refl _)
  rw [ht8, HQ.out, List.nil_append] at hPut
  refine hPut.mono ?_
  rintro e w9 ⟨rfl, hw9, hf9⟩
  have L9 := hQ (L8.out.step (L8.out.gt.ring HC.out hw9 hf9) (L8.out.gt.ringC HC.out hf9))
  have X9 := hQ ((L8.out.gt.ringC HC.out hf9).cell X8.out (by decide))
  clear hw9 hf9 hPut ht8 hlt p0
  obtain ⟨y0, y1, y2⟩ := kK X9.out
  have fy : ∀ i, w9.frozen? ⟨w.heap.size, i, none⟩ = false := fun i => zh X9.out i
  go_wp2
  refine bodyPost_ret (v := .agg #[.bool true, .int .i64 1, .slice none 0 0]) ?_ rfl ⟨rfl, ?_⟩
  · simp [results, Tryz.results33, go_sem, hu61, y0, y1, y2]
  · refine xh.both (b1 := w.heap.size) (b2 := w4.heap.size) ?_
    repeat (with_reducible first | exact L9.out | (refine xh.set ?_ (Or.inl rfl)))
theorem Qs (w : World) (B N N' : Nat) (x : Ix) (g g' : Sg) (gb dk n : Nat) (L : Nat → Nat → Nat) (Qi Qo : Nat → List Int) (h : zQ w B N x g gb dk n L Qi Qo) (hc : 2 < n) (t u m0 : Int) (p bl : List Int) (hb8 : B8 (Qi 2)) (hf : yN jF (Qi 2) false = (t, u, p, m0, 0)) (hp : 0 < p.length) (hnx : (Qi 2).drop m0.toNat = []) (hqo : Qo 2 = []) (hS : jT B N N' x g g' 2 p bl) (hOk : Ok t ((bl.length : Int) + 1) u) :
    Calls Tryz.prog 33 #[.pointer (some ⟨gb, 0, none⟩), .int .i64 2] w fun e w' => e = .returned (.agg #[.bool true, .int .i64 1, .slice none 0 0]) ∧ zQ w' B N' x g' gb dk n L (qX Qi 2 []) (qX Qo 2 (hb t ((bl.length : Int) + 1) u ++ bl)) ∧ Ch TG (MS x) B w w' := by
  have hu98 := Tryz.underlying98
  have hu96 := Tryz.underlying96
  have hu95 := Tryz.underlying95
  have hu61 := Tryz.underlying61
  have hu141 := Tryz.underlying141
  have hu30 := Tryz.underlying30
  have B1 := hQ (show Below w.heap.size w (w.alloc (.cells #[.bool false, .int .i64 0, .slice none 0 0] 61)) from (Below.refl _ _).alloc (Nat.le_refl _) _)
  have X1 := hQ (zi w (.cells #[.bool false, .int .i64 0, .slice none 0 0] 61))
  have L1 := hQ (xh.mk' h B1.out X1.out X1.out (by omega) (by omega) (by decide) (by decide))
  have HS := fun (W : World) (hW : zQ W B N x g gb dk n L Qi Qo) => jS W B N x g gb dk n L Qi Qo hW 2 hc
  have e1 : (!((yN jF (Qi 2) false).2.2.2.2 == 3)) = true := by rw [hf]; rfl
  have HR := fun (W : World) (hW : zQ W B N x g gb dk n L Qi Qo) => kJ jF W (L 2 0) (L 2 1) (L 2 2) 1024 (Qi 2) false (hW.fl 2 hc) (ZX _ hb8)
  rw [e1] at HR
  have HM := fun (W : World) (hW : zQ W B N x g gb dk n L Qi Qo) => Qb W (L 2 3) (L 2 4) 1024 (Qo 2) (hW.rg 2 hc)
  have e2 : ((1024 : Nat) : Int) - ((Qo 2).length : Int) = 1024 := by rw [hqo]; rfl
  rw [e2] at HM
  have HN := fun (W : World) (hW : zQ W B N x g gb dk n L Qi Qo) => vN jF W (L 2 0) (L 2 1) (L 2 2) 1024 (Qi 2) false (hW.fl 2 hc) (ZX _ hb8) t u p m0 0 hf
  have e3 : xZ jF (Qi 2) false = ([], false) := by unfold xZ; rw [hf]; simp only; rw [if_neg (by decide), hnx]
  rw [e3] at HN
  have HP := hQ hp
  have HV := hQ hS
  have HO := hQ hOk
  have HQ := hQ hqo
  have HC := hQ hc
  have hcells := fun (W : World) (hW : zQ W B N x g gb dk n L Qi Qo) => (hW.cells.2.2 2 hc)
  have hfl := fun (W W' : World) (hW : zQ W B N x g gb dk n L Qi Qo) (q : List Int) (hw : yM W' (L 2 0) (L 2 1) (L 2 2) 1024 q false) (hf : Fr3 (L 2 0) (L 2 1) (L 2 2) W W') => And.intro (hW.flow hc hw hf) (hW.flowC hc hf)
  clear h hc hb8 hf hp hnx hqo hS hOk e1 e2 e3
  go_enter Tryz.func33, Tryz.ntmps33
  go_wp2_with (fail)
  refine (HS _ L1.out.gt).mono ?_
  rintro e w2 ⟨rfl, hb⟩
  have L2 := hQ (L1.out.below hb)
  have X2 := hQ (zb X1.out hb)
  clear hb HS
  have p0 : w2.cell? ⟨gb, 19, none⟩ = some (.pointer (some ⟨L 2 0, 0, none⟩)) := (hcells _ L2.out.gt).1
  go_wp2_with (fail)
  refine (HR _ L2.out.gt).mono ?_
  rintro e w3 ⟨rfl, hb⟩
  have L3 := hQ (L2.out.below hb)
  have X3 := hQ (zb X2.out hb)
  clear hb HR p0
  have p0 : w3.cell? ⟨gb, 20, none⟩ = some (.pointer (some ⟨L 2 3, 0, none⟩)) := (hcells _ L3.out.gt).2
  go_wp2_with (fail)
  refine (HM _ L3.out.gt).mono ?_
  rintro e w3b ⟨rfl, hb⟩
  have L3b := hQ (L3.out.below hb)
  have X3b := hQ (zb X3.out hb)
  clear hb HM p0
  have p0 : w3b.cell? ⟨gb, 19, none⟩ = some (.pointer (some ⟨L 2 0, 0, none⟩)) := (hcells _ L3b.out.gt).1
  go_wp2_with (fail)
  refine (HN _ L3b.out.gt).mono ?_
  rintro e w4 ⟨Ap, cp, rfl, hR4, hw4, hf4⟩
  obtain ⟨hg4, hc4⟩ := hfl _ _ L3b.out.gt _ hw4 hf4
  have L4 := hQ (L3b.out.step hg4 hc4)
  have X4 := hQ (hc4.cell X3b.out (by decide))
  obtain ⟨g0, cap0, eg, _, _, _⟩ := Kd.xX hR4 HP.out
  obtain ⟨rfl, rfl⟩ : Ap = some ⟨g0, 0, none⟩ ∧ cp = cap0 := by injection eg with h1 h2 h3; exact ⟨h1, h3⟩
  have R4 := hQ hR4
  clear hw4 hf4 hg4 hc4 hR4 eg p0 HN hcells hfl
  go_wp2_with (fail)
  have hb5 : Below w4.heap.size w4 ((w4.alloc (.cells #[.int .i64 t, .int .i64 u, .slice (some ⟨g0, 0, none⟩) p.length cp] 141)).drew) := zk ((Below.refl _ _).alloc (Nat.le_refl _) _)
  have L5 := hQ (L4.out.below hb5)
  have X5 := hQ (zb X4.out hb5)
  have R5 := hQ (Kd.zy R4.out hb5)
  have F5 := hQ (zo (zi w4 (.cells #[.int .i64 t, .int .i64 u, .slice (some ⟨g0, 0, none⟩) p.length cp] 141)))
  obtain ⟨cs, m, gr, o, hk5, hg5, hcf5⟩ := L5.out.gt.blk
  have K5 := hQ hk5
  have HG := hQ hg5
  have CF5 := hQ hcf5
  clear hk5 hg5 hcf5 hb5
  simp only [jT, xA] at HV
  refine sq_ (ds := [13]) #[false, false, false, false, false, false, false, false, false, false, false, false, false, false] (fun w' => w'.cell? ⟨gb, 0, none⟩ = some (m) ∧ w'.cell? ⟨gb, 1, none⟩ = some (gr) ∧ w'.cell? ⟨gb, 2, none⟩ = some (.int .i64 100) ∧ w'.cell? ⟨gb, 3, none⟩ = some (.int .i64 1000) ∧ w'.cell? ⟨gb, 4, none⟩ = some (.int .i64 8) ∧ w'.cell? ⟨gb, 5, none⟩ = some (.int .i64 8) ∧ w'.cell? ⟨gb, 6, none⟩ = some (.int .i64 100000) ∧ w'.cell? ⟨gb, 7, none⟩ = some (.int .i64 500) ∧ w'.cell? ⟨gb, 8, none⟩ = some (.int .i64 2000) ∧ w'.cell? ⟨gb, 9, none⟩ = some (.int .i64 1024) ∧ w'.cell? ⟨gb, 10, none⟩ = some (.int .i64 1024) ∧ w'.cell? ⟨gb, 11, none⟩ = some (.int .u64 0) ∧ w'.cell? ⟨gb, 12, none⟩ = some (o) ∧ w'.cell? ⟨gb, 14, none⟩ = some (.pointer (some ⟨x.ss, 0, none⟩)) ∧ w'.cell? ⟨w4.heap.size, 2, none⟩ = some (.slice (some ⟨g0, 0, none⟩) p.length cp)) ⟨(yu K5.out HG.out).1, (yu K5.out HG.out).2.1, (yu K5.out HG.out).2.2.1, (yu K5.out HG.out).2.2.2.1, (yu K5.out HG.out).2.2.2.2.1, (yu K5.out HG.out).2.2.2.2.2.1, (yu K5.out HG.out).2.2.2.2.2.2.1, (yu K5.out HG.out).2.2.2.2.2.2.2.1, (yu K5.out HG.out).2.2.2.2.2.2.2.2.1, (yu K5.out HG.out).2.2.2.2.2.2.2.2.2.1, (yu K5.out HG.out).2.2.2.2.2.2.2.2.2.2.1, (yu K5.out HG.out).2.2.2.2.2.2.2.2.2.2.2.1, (yu K5.out HG.out).2.2.2.2.2.2.2.2.2.2.2.2.1, (yu K5.out HG.out).2.2.2.2.2.2.2.2.2.2.2.2.2, za F5.out 2⟩ (fun hHeld => ?_)
  refine pq_ 0 (some 62) ?_
  refine pq_ 1 (some 63) ?_
  refine pq_ 2 (some 64) ?_
  refine pq_ 4 (some 66) ?_
  refine pq_ 5 (some 67) ?_
  refine pq_ 6 (some 68) ?_
  refine pq_ 8 (some 70) ?_
  refine pq_ 9 (some 71) ?_
  refine tq_ 3 (some 65) hHeld ?_
  refine tq_ 7 (some 69) hHeld ?_
  refine tq_ 10 (some 72) hHeld ?_
  refine oq_ 11 (some 73) (fun K hK => ?_)
  refine yo Tryz.func64 (by kernel_rfl) rfl #[.pointer (some ⟨x.ss, 0, none⟩), .agg #[m, gr, .int .i64 100, .int .i64 1000, .int .i64 8, .int .i64 8, .int .i64 100000, .int .i64 500, .int .i64 2000, .int .i64 1024, .int .i64 1024, .int .u64 0, o], .int .i64 2, .slice (some ⟨g0, 0, none⟩) p.length cp] (by rfl) rfl rfl (by (try simp only [List.map_toArray, List.map_cons, List.map_nil]); first | done | rfl) ?_
  refine (HV.out _ m gr o g0 cp _ L5.out.gt.slv CF5.out R5.out).mono ?_
  rintro e w6 ⟨A6, c6, rfl, hc6, hF6, hs, hc⟩
  have L6 := hQ (L5.out.step (L5.out.gt.step hs hc) (zaF hc))
  have K6 := hQ (hc.cell K5.out (by decide))
  have F6 := hQ (hc.cell F5.out (by decide))
  have Q6 := hQ hF6
  have C6 := hQ hc6
  have S6 := hQ (show w4.heap.size < _ from zF F5.out)
  have X6 := hQ (hc.cell X5.out (by decide))
  clear hF6 hc6 hs hc
  have ff : ∀ i, w6.frozen? ⟨w4.heap.size, i, none⟩ = false := fun i => zh F6.out i
  have f2 := za F6.out 2
  refine ⟨_, rfl, ?_⟩
  refine hK.out _ _ ⟨(yu K6.out HG.out).1, (yu K6.out HG.out).2.1, (yu K6.out HG.out).2.2.1, (yu K6.out HG.out).2.2.2.1, (yu K6.out HG.out).2.2.2.2.1, (yu K6.out HG.out).2.2.2.2.2.1, (yu K6.out HG.out).2.2.2.2.2.2.1, (yu K6.out HG.out).2.2.2.2.2.2.2.1, (yu K6.out HG.out).2.2.2.2.2.2.2.2.1, (yu K6.out HG.out).2.2.2.2.2.2.2.2.2.1, (yu K6.out HG.out).2.2.2.2.2.2.2.2.2.2.1, (yu K6.out HG.out).2.2.2.2.2.2.2.2.2.2.2.1, (yu K6.out HG.out).2.2.2.2.2.2.2.2.2.2.2.2.1, (yu K6.out HG.out).2.2.2.2.2.2.2.2.2.2.2.2.2, za F6.out 2⟩ (fun hHeld => ?_)
  clear hK K
  refine nq_ ?_
  refine pq_ 12 (some 74) ?_
  refine kr (i := 13) (N := none) #[true, true, true, true, true, true, true, true, true, true, true, true, true, true] rfl rfl (by kernel_rfl) (by decide) (fun K hK => ?_)
  refine jJ (w1 := ?_) (by rfl) rfl ?_ ?_
  rotate_left
  · go_simp
    rfl
  refine hK.out _ _ ?_
  clear hK K
  refine xP (by kernel_rfl) ?_

  have L6' : xh B N' x g' gb dk n L (qX Qi 2 []) Qo w w6 w.heap.size w4.heap.size := ⟨L6.out.gt, L6.out.ch, L6.out.le, L6.out.t1, ⟨_, _, _, F6.out, by decide⟩, L6.out.n1, L4.out.ch.size⟩
  have L7 := hQ (L6'.set (j := 2) (v := .slice A6 bl.length c6) (Or.inr rfl))
  have f0 := za F6.out 0
  have f1 := za F6.out 1
  have f0 : w6.cell? ⟨w4.heap.size, 0, none⟩ = some (.int .i64 t) := f0
  have f1 : w6.cell? ⟨w4.heap.size, 1, none⟩ = some (.int .i64 u) := f1
  have hne : w.heap.size ≠ w4.heap.size := by have := zF X4.out; omega
  have X7 := hQ (show (w6.setCell ⟨w4.heap.size, 2, none⟩ (.slice A6 bl.length c6)).heap[w.heap.size]? = _ from (Below.heap_setCell w6 ⟨w4.heap.size, 2, none⟩ (.slice A6 bl.length c6) w.heap.size hne).trans X6.out)
  have Q7 := hQ (Kd.XK (jR (g := w4.heap.size) (j := 2) (u := .slice A6 bl.length c6) Q6.out S6.out))
  clear L6'
  generalize hW7 : w6.setCell ⟨w4.heap.size, 2, none⟩ (.slice A6 bl.length c6) = W7 at *
  have d0 : W7.cell? ⟨w4.heap.size, 0, none⟩ = some (.int .i64 t) := by rw [← hW7]; simp [go_sem, f0]
  have d1 : W7.cell? ⟨w4.heap.size, 1, none⟩ = some (.int .i64 u) := by rw [← hW7]; simp [go_sem, f1]
  have d2 : W7.cell? ⟨w4.heap.size, 2, none⟩ = some (.slice A6 bl.length c6) := by rw [← hW7]; simp [go_sem, f2]
  clear hW7 f0 f1 f2 ff
  go_wp2_with (fail)
  have hbl : bl.length ≤ 253 := by have := HO.out; unfold Ok at this; omega
  refine (xw.calls t u A6 c6 bl _ 0 _ Q7.out C6.out (Xh t u bl (by omega) HO.out)).mono ?_
  rintro e w8 ⟨v0, rfl, hR8, hbw⟩
  have L8 := hQ (L7.out.below hbw)
  have X8 := hQ (zb X7.out hbw)
  obtain ⟨A8, c8, hv8⟩ := Kd.zX hR8
  have hl8 : (hb t ((bl.length : Int) + 1) u ++ bl).length = 7 + bl.length := by rw [List.length_append, xy]
  rw [hl8] at hv8
  subst hv8
  have R8 := hQ hR8
  have HBL := hQ hbl
  have HL8 := hQ hl8
  clear hbw hR8 d0 d1 d2 hbl hl8
  have p0 : w8.cell? ⟨gb, 20, none⟩ = some (.pointer (some ⟨L 2 3, 0, none⟩)) := (L8.out.gt.cells.2.2 2 HC.out).2
  go_wp2_with (fail)
  have hlt := ((L7.out.gt.rg 2 HC.out).lt).2
  have hPut := kS w8 (L 2 3) (L 2 4) 1024 (Qo 2) (L8.out.gt.rg 2 HC.out) A8 (7 + bl.length) c8 _ _ _ R8.out hlt (7 + bl.length) (by rw [HQ.out]; have := HBL.out; simp; omega)
  have ht8 : (hb t ((bl.length : Int) + 1) u ++ bl).take (7 + bl.length) = hb t ((bl.length : Int) + 1) u ++ bl := List.take_of_length_le (by rw [HL8.out]; exact Nat.le_refl _)
  rw [ht8, HQ.out, List.nil_append] at hPut
  refine hPut.mono ?_
  rintro e w9 ⟨rfl, hw9, hf9⟩
  have L9 := hQ (L8.out.step (L8.out.gt.ring HC.out hw9 hf9) (L8.out.gt.ringC HC.out hf9))
  have X9 := hQ ((L8.out.gt.ringC HC.out hf9).cell X8.out (by decide))
  clear hw9 hf9 hPut ht8 hlt p0
  obtain ⟨y0, y1, y2⟩ := kK X9.out
  have fy : ∀ i, w9.frozen? ⟨w.heap.size, i, none⟩ = false := fun i => zh X9.out i
  go_wp2
  refine bodyPost_ret (v := .agg #[.bool true, .int .i64 1, .slice none 0 0]) ?_ rfl ⟨rfl, ?_⟩
  · simp [results, Tryz.results33, go_sem, hu61, y0, y1, y2]
  · refine xh.both (b1 := w.heap.size) (b2 := w4.heap.size) ?_
    repeat (with_reducible first | exact L9.out | (refine xh.set ?_ (Or.inl rfl)))
open Go.Proofs.YtlalbohhopmpdaaGreat.Ring (yM yw Fr2 Fr3 yN xZ)
theorem Wp {w : World} {g t : Nat} {v0 v1 v2 v3 v4 v5 v6 : Value} (h : w.heap[g]? = some (.cells #[v0, v1, v2, v3, v4, v5, v6] t (0, 0))) : w.cell? ⟨g, 0, none⟩ = some v0 ∧ w.cell? ⟨g, 1, none⟩ = some v1 ∧ w.cell? ⟨g, 2, none⟩ = some v2 ∧ w.cell? ⟨g, 3, none⟩ = some v3 ∧ w.cell? ⟨g, 4, none⟩ = some v4 ∧ w.cell? ⟨g, 5, none⟩ = some v5 ∧ w.cell? ⟨g, 6, none⟩ = some v6 :=
  ⟨za h 0, za h 1, za h 2, za h 3, za h 4, za h 5, za h 6⟩
theorem Km (w : World) (B N N' : Nat) (x : Ix) (g g' : Sg) (gb dk n : Nat) (L : Nat → Nat → Nat) (Qi Qo : Nat → List Int) (h : zQ w B N x g gb dk n L Qi Qo) (c : Nat) (hc : c < n) (t u m0 : Int) (p bl : List Int) (hb8 : B8 (Qi c)) (hf : yN jF (Qi c) false = (t, u, p, m0, 0)) (hp : 0 < p.length) (hnx : (Qi c).drop m0.toNat = []) (hqo : Qo c = []) (hS : jT B N N' x g g' c p bl) (hOk : Ok t ((bl.length : Int) + 1) u) :
    Calls Tryz.prog 33 #[.pointer (some ⟨gb, 0, none⟩), .int .i64 (c : Int)] w fun e w' => e = .returned (.agg #[.bool true, .int .i64 1, .slice none 0 0]) ∧ zQ w' B N' x g' gb dk n L (qX Qi c []) (qX Qo c (hb t ((bl.length : Int) + 1) u ++ bl)) ∧ Ch TG (MS x) B w w' := by
  have hn3 := h.desk.le
  obtain rfl | rfl | rfl : c = 0 ∨ c = 1 ∨ c = 2 := by omega
  · exact Qk w B N N' x g g' gb dk n L Qi Qo h hc t u m0 p bl hb8 hf hp hnx hqo hS hOk
  · exact Ql w B N N' x g g' gb dk n L Qi Qo h hc t u m0 p bl hb8 hf hp hnx hqo hS hOk
  · exact Qs w B N N' x g g' gb dk n L Qi Qo h hc t u m0 p bl hb8 hf hp hnx hqo hS hOk
theorem zaa (w : World) (B N N' : Nat) (x : Ix) (g g' : Sg) (gb dk n : Nat) (L : Nat → Nat → Nat) (Qi Qo : Nat → List Int) (h : zQ w B N x g gb dk n L Qi Qo) (c : Nat) (hc : c < n) (A0 : Option Addr) (k c0 : Nat) (l : List Int) (hk : k = l.length) (hr : Kd.C (Kd.int .u8) w A0 k l) (hc0 : k ≤ c0) (hne : 0 < k → ∀ a, A0 = some a → a.block ≠ L c 2) (hroom : (Qi c).length + k ≤ 1024) :
    Calls Tryz.prog 15 #[.pointer (some ⟨gb, 0, none⟩), .agg #[.int .i64 3, .int .i64 (c : Int), .int .i64 0, .slice A0 k c0, .int .i64 0, .int .i64 0, .slice none 0 0]] w fun e w' => e = .returned (.agg #[.bool true, .int .i64 (k : Int), .slice none 0 0]) ∧ zQ w' B N x g gb dk n L (qX Qi c (Qi c ++ l)) Qo ∧ Ch TG (MS x) B w w' := by
  have hu64 := Tryz.underlying64
  have hu61 := Tryz.underlying61
  obtain ⟨ci, hci⟩ : ∃ ci : Int, ci = (c : Int) := ⟨_, rfl⟩
  have B1 := hQ (show Below w.heap.size w ((w.alloc (.cells #[.int .i64 3, .int .i64 (c : Int), .int .i64 0, .slice A0 k c0, .int .i64 0, .int .i64 0, .slice none 0 0] 64)).alloc (.cells #[.bool false, .int .i64 0, .slice none 0 0] 61)) from ((Below.refl _ _).alloc (Nat.le_refl _) _).alloc (by simp) _)
  have Y1 := hQ (zg (zi w (.cells #[.int .i64 3, .int .i64 (c : Int), .int .i64 0, .slice A0 k c0, .int .i64 0, .int .i64 0, .slice none 0 0] 64)) (.cells #[.bool false, .int .i64 0, .slice none 0 0] 61))
  have X1 := hQ (yx w (.cells #[.int .i64 3, .int .i64 (c : Int), .int .i64 0, .slice A0 k c0, .int .i64 0, .int .i64 0, .slice none 0 0] 64) (.cells #[.bool false, .int .i64 0, .slice none 0 0] 61))
  have L1 := hQ (xh.mk' h B1.out X1.out X1.out (by omega) (by omega) (by decide) (by decide))
  have HI := Ky _ B N x g gb dk n L Qi Qo L1.out.gt c hc A0 k c0 l hk (Kd.zz hr B1.out) hc0 hne hroom
  clear hr hk hne hroom
  clear h hc
  rw [← hci] at B1 Y1 X1 L1 HI ⊢
  clear hci
  obtain ⟨y0, y1, y2, y3, y4, y5, y6⟩ := Wp Y1.out
  go_enter Tryz.func15, Tryz.ntmps15
  go_wp2_with (fail)
  refine (HI).mono ?_
  rintro e w3 ⟨rfl, hg3, hc3⟩
  have L3 := hQ (L1.out.step hg3 hc3)
  have X3 := hQ (hc3.cell X1.out (by decide))
  clear hg3 hc3
  obtain ⟨x0, x1, x2⟩ := kK X3.out
  have fx : ∀ i, w3.frozen? ⟨w.heap.size + 1, i, none⟩ = false := fun i => zh X3.out i
  go_wp2
  refine bodyPost_ret (v := .agg #[.bool true, .int .i64 (k : Int), .slice none 0 0]) ?_ rfl ⟨rfl, ?_⟩
  · simp [results, Tryz.results15, go_sem, hu61, x0, x1, x2]
  · refine xh.both (b1 := w.heap.size + 1) (b2 := w.heap.size + 1) ?_
    repeat (with_reducible first | exact L3.out | (refine xh.set ?_ (Or.inl rfl)))
theorem WF (w : World) (B N N' : Nat) (x : Ix) (g g' : Sg) (gb dk n : Nat) (L : Nat → Nat → Nat) (Qi Qo : Nat → List Int) (h : zQ w B N x g gb dk n L Qi Qo) (c : Nat) (hc : c < n) (t u m0 : Int) (p bl : List Int) (hb8 : B8 (Qi c)) (hf : yN jF (Qi c) false = (t, u, p, m0, 0)) (hp : 0 < p.length) (hnx : (Qi c).drop m0.toNat = []) (hqo : Qo c = []) (hS : jT B N N' x g g' c p bl) (hOk : Ok t ((bl.length : Int) + 1) u) :
    Calls Tryz.prog 15 #[.pointer (some ⟨gb, 0, none⟩), .agg #[.int .i64 4, .int .i64 (c : Int), .int .i64 0, .slice none 0 0, .int .i64 0, .int .i64 0, .slice none 0 0]] w fun e w' => e = .returned (.agg #[.bool true, .int .i64 1, .slice none 0 0]) ∧ zQ w' B N' x g' gb dk n L (qX Qi c []) (qX Qo c (hb t ((bl.length : Int) + 1) u ++ bl)) ∧ Ch TG (MS x) B w w' := by
  have hu64 := Tryz.underlying64
  have hu61 := Tryz.underlying61
  obtain ⟨ci, hci⟩ : ∃ ci : Int, ci = (c : Int) := ⟨_, rfl⟩
  have B1 := hQ (show Below w.heap.size w ((w.alloc (.cells #[.int .i64 4, .int .i64 (c : Int), .int .i64 0, .slice none 0 0, .int .i64 0, .int .i64 0, .slice none 0 0] 64)).alloc (.cells #[.bool false, .int .i64 0, .slice none 0 0] 61)) from ((Below.refl _ _).alloc (Nat.le_refl _) _).alloc (by simp) _)
  have Y1 := hQ (zg (zi w (.cells #[.int .i64 4, .int .i64 (c : Int), .int .i64 0, .slice none 0 0, .int .i64 0, .int .i64 0, .slice none 0 0] 64)) (.cells #[.bool false, .int .i64 0, .slice none 0 0] 61))
  have X1 := hQ (yx w (.cells #[.int .i64 4, .int .i64 (c : Int), .int .i64 0, .slice none 0 0, .int .i64 0, .int .i64 0, .slice none 0 0] 64) (.cells #[.bool false, .int .i64 0, .slice none 0 0] 61))
  have L1 := hQ (xh.mk' h B1.out X1.out X1.out (by omega) (by omega) (by decide) (by decide))
  have HI := Km _ B N N' x g g' gb dk n L Qi Qo L1.out.gt c hc t u m0 p bl hb8 hf hp hnx hqo hS hOk
  clear hb8 hf hp hnx hqo hS hOk
  clear h hc
  rw [← hci] at B1 Y1 X1 L1 HI ⊢
  clear hci
  obtain ⟨y0, y1, y2, y3, y4, y5, y6⟩ := Wp Y1.out
  go_enter Tryz.func15, Tryz.ntmps15
  go_wp2_with (fail)
  refine (HI).mono ?_
  rintro e w3 ⟨rfl, hg3, hc3⟩
  have L3 := hQ (L1.out.step hg3 hc3)
  have X3 := hQ (hc3.cell X1.out (by decide))
  clear hg3 hc3
  obtain ⟨x0, x1, x2⟩ := kK X3.out
  have fx : ∀ i, w3.frozen? ⟨w.heap.size + 1, i, none⟩ = false := fun i => zh X3.out i
  go_wp2
  refine bodyPost_ret (v := .agg #[.bool true, .int .i64 1, .slice none 0 0]) ?_ rfl ⟨rfl, ?_⟩
  · simp [results, Tryz.results15, go_sem, hu61, x0, x1, x2]
  · refine xh.both (b1 := w.heap.size + 1) (b2 := w.heap.size + 1) ?_
    repeat (with_reducible first | exact L3.out | (refine xh.set ?_ (Or.inl rfl)))
theorem zaP (w : World) (B N N' : Nat) (x : Ix) (g g' : Sg) (gb dk n : Nat) (L : Nat → Nat → Nat) (Qi Qo : Nat → List Int) (h : zQ w B N x g gb dk n L Qi Qo) (c : Nat) (hc : c < n) (k : Nat) (hk : k = (Qo c).length) :
    Calls Tryz.prog 15 #[.pointer (some ⟨gb, 0, none⟩), .agg #[.int .i64 5, .int .i64 (c : Int), .int .i64 65536, .slice none 0 0, .int .i64 0, .int .i64 0, .slice none 0 0]] w fun e w' => ∃ A c0, e = .returned (.agg #[.bool true, .int .i64 (k : Int), .slice A k c0]) ∧ k ≤ c0 ∧ Kd.F (Kd.int .u8) w' (fun k => w.heap.size ≤ k) A k (Qo c) ∧ zQ w' B N x g gb dk n L Qi (qX Qo c []) ∧ Ch TG (MS x) B w w' := by
  have hu64 := Tryz.underlying64
  have hu61 := Tryz.underlying61
  obtain ⟨ci, hci⟩ : ∃ ci : Int, ci = (c : Int) := ⟨_, rfl⟩
  have B1 := hQ (show Below w.heap.size w ((w.alloc (.cells #[.int .i64 5, .int .i64 (c : Int), .int .i64 65536, .slice none 0 0, .int .i64 0, .int .i64 0, .slice none 0 0] 64)).alloc (.cells #[.bool false, .int .i64 0, .slice none 0 0] 61)) from ((Below.refl _ _).alloc (Nat.le_refl _) _).alloc (by simp) _)
  have Y1 := hQ (zg (zi w (.cells #[.int .i64 5, .int .i64 (c : Int), .int .i64 65536, .slice none 0 0, .int .i64 0, .int .i64 0, .slice none 0 0] 64)) (.cells #[.bool false, .int .i64 0, .slice none 0 0] 61))
  have X1 := hQ (yx w (.cells #[.int .i64 5, .int .i64 (c : Int), .int .i64 65536, .slice none 0 0, .int .i64 0, .int .i64 0, .slice none 0 0] 64) (.cells #[.bool false, .int .i64 0, .slice none 0 0] 61))
  have L1 := hQ (xh.mk' h B1.out X1.out X1.out (by omega) (by omega) (by decide) (by decide))
  have HI := KH _ B N x g gb dk n L Qi Qo L1.out.gt c hc k hk
  clear hk
  clear h hc
  rw [← hci] at B1 Y1 X1 L1 HI ⊢
  clear hci
  obtain ⟨y0, y1, y2, y3, y4, y5, y6⟩ := Wp Y1.out
  go_enter Tryz.func15, Tryz.ntmps15
  go_wp2_with (fail)
  refine (HI).mono ?_
  rintro e w3 ⟨A3, c3, rfl, hc0, hF3, hg3, hc3⟩
  have L3 := hQ (L1.out.step hg3 hc3)
  have X3 := hQ (hc3.cell X1.out (by decide))
  have F3 := hQ (Kd.qx hF3 (ok' := fun k => w.heap.size + 1 + 1 ≤ k) (fun k hk => by simpa using hk))
  have S2 := hQ (zF X1.out)
  have HC0 := hQ hc0
  clear hF3 hc0
  clear hg3 hc3
  obtain ⟨x0, x1, x2⟩ := kK X3.out
  have fx : ∀ i, w3.frozen? ⟨w.heap.size + 1, i, none⟩ = false := fun i => zh X3.out i
  go_wp2
  refine bodyPost_ret (v := .agg #[.bool true, .int .i64 (k : Int), .slice A3 k c3]) ?_ rfl ⟨A3, c3, rfl, HC0.out, ?_, ?_⟩
  · simp [results, Tryz.results15, go_sem, hu61, x0, x1, x2]
  · have s2 := S2.out
    refine Kd.qx (ok := fun k => w.heap.size + 1 + 1 ≤ k) ?_ (fun k hk => by omega)
    repeat (with_reducible first | exact F3.out | (refine jR ?_ (by omega)))
  · refine xh.both (b1 := w.heap.size + 1) (b2 := w.heap.size + 1) ?_
    repeat (with_reducible first | exact L3.out | (refine xh.set ?_ (Or.inl rfl)))
open Go.Proofs.YtlalbohhopmpdaaGreat.Ring (yM yw Fr2 Fr3)
theorem zbq (k : Nat) (hk : k < 3) : (vH k).setIfInBounds (1 + k) (.int .i64 1) = vH (k + 1) := by
  obtain rfl | rfl | rfl : k = 0 ∨ k = 1 ∨ k = 2 := by omega
  all_goals rfl
theorem xD {w : World} {g t i : Nat} {cs : Array Value} {v : Value} (h : w.heap[g]? = some (.cells cs t (0, 0))) : (w.setCell ⟨g, i, none⟩ v).heap[g]? = some (.cells (cs.setIfInBounds i v) t (0, 0)) := by
  have hlt := zF h
  have hx := (Array.getElem?_eq_some_iff.1 h).2
  simp [World.setCell, hlt, Array.getElem_modify, hx]
theorem ZK (w : World) (dk k : Nat) (h : kG w dk k) (hk : k < 3) :
    Calls Tryz.prog 53 #[.pointer (some ⟨dk, 0, none⟩)] w fun e w' => e = .returned (.tuple #[.int .i64 (k : Int), .bool true]) ∧ kG w' dk (k + 1) ∧ w' = w.setCell ⟨dk, 1 + k, none⟩ (.int .i64 1) := by
  have hu128 := Tryz.underlying128
  have hu126 := Tryz.underlying126
  have h0 : w.cell? ⟨dk, 0, none⟩ = some (.int .i64 8) := (za h.blk 0).trans (YB k h.le 0 (by omega)).1
  have hc : ∀ c, c < 8 → w.cell? ⟨dk, 1 + c, none⟩ = some (.int .i64 (if c < k then 1 else 0)) := fun c hc => (za h.blk (1 + c)).trans (YB k h.le c hc).2
  have c0 := hc 0 (by omega)
  have c1 := hc 1 (by omega)
  have c2 := hc 2 (by omega)
  have fd : ∀ i, w.frozen? ⟨dk, i, none⟩ = false := fun i => zh h.blk i
  have hnew : kG (w.setCell ⟨dk, 1 + k, none⟩ (.int .i64 1)) dk (k + 1) := ⟨by rw [← zbq k hk]; exact xD h.blk, by omega⟩
  have HN := hQ hnew
  clear h hc hnew
  obtain rfl | rfl | rfl : k = 0 ∨ k = 1 ∨ k = 2 := by omega
  all_goals
    clear hk
    simp only [Nat.reduceLT, if_true, if_false, Nat.reduceAdd, Nat.lt_irrefl] at c0 c1 c2
    go_enter Tryz.func53, Tryz.ntmps53
    go_wp2_with (fail)
    refine wp_loop_rounds 4 ?_
    repeat (first | (go_wp2_with (fail); done) | (rw [rounds_succ]; go_wp2_with (fail)))
    exact bodyPost_ret (v := .tuple #[.int .i64 _, .bool true]) (by simp [results, Tryz.results53, go_sem]) rfl ⟨rfl, HN.out, rfl⟩
def jP (L : Nat → Nat → Nat) (n : Nat) (gf g1 b1 g2 b2 : Nat) : Nat → Nat → Nat := fun c i => if c = n then (match i with | 0 => gf | 1 => g1 | 2 => b1 | 3 => g2 | _ => b2) else L c i
section
variable {w W : World} {B : Nat} {T M : List Nat}
theorem Ch.setNew {b j : Nat} {v : Value} (h : Ch T M B w W) (hb : w.heap.size ≤ b) (hB : B ≤ w.heap.size) : Ch T M B w (W.setCell ⟨b, j, none⟩ v) :=
  ⟨h.os, h.tape, h.output, by have := h.size; simpa [World.setCell] using this, fun i hi => (Below.heap_setCell W ⟨b, j, none⟩ v i (by show i ≠ b; omega)).trans (h.low i hi), h.isMap, fun i hi hm ht => (Below.heap_setCell W ⟨b, j, none⟩ v i (by show i ≠ b; omega)).trans (h.block i hi hm ht)⟩
theorem Ch.setOld {b j t : Nat} {cs : Array Value} {f : Nat × Nat} {v : Value} (h : Ch T M B w W) (hb : w.heap[b]? = some (.cells cs t f)) (ht : t ∈ T) (hB : B ≤ b) : Ch T M B w (W.setCell ⟨b, j, none⟩ v) :=
  ⟨h.os, h.tape, h.output, by have := h.size; simpa [World.setCell] using this, fun i hi => (Below.heap_setCell W ⟨b, j, none⟩ v i (by show i ≠ b; omega)).trans (h.low i hi), h.isMap, fun i hi hm hq => (Below.heap_setCell W ⟨b, j, none⟩ v i (by
    show i ≠ b
    rintro rfl
    exact hq cs t f hb ht)).trans (h.block i hi hm hq)⟩
theorem Ch.thenBelow {W1 : World} (h : Ch T M B w W) (hb : Below W.heap.size W W1) (hB : B ≤ w.heap.size) : Ch T M B w W1 :=
  ⟨hb.os.trans h.os, hb.tape.trans h.tape, hb.output.trans h.output, Nat.le_trans h.size hb.size, fun i hi => (hb.block i (Nat.lt_of_lt_of_le hi (Nat.le_trans hB h.size))).trans (h.low i hi), h.isMap, fun i hi hm hq => (hb.block i (Nat.lt_of_lt_of_le hi h.size)).trans (h.block i hi hm hq)⟩
theorem yw.farS {g b M0 y j : Nat} {v : Value} {q : List Int} (h : yw W g b M0 q) (h1 : g ≠ y) (h2 : b ≠ y) : yw (W.setCell ⟨y, j, none⟩ v) g b M0 q := h.keep (Below.heap_setCell W ⟨y, j, none⟩ v g h1) (Below.heap_setCell W ⟨y, j, none⟩ v b h2)
end
theorem GCs.add {cs : Array Value} {m gr o : Value} {dk ss n : Nat} {L : Nat → Nat → Nat} (h : GCs cs m gr o dk ss n L) (hn : n < 3) (gf g1 b1 g2 b2 : Nat) :
    GCs ((cs.setIfInBounds (15 + 2 * n) (.pointer (some ⟨gf, 0, none⟩))).setIfInBounds (16 + 2 * n) (.pointer (some ⟨g2, 0, none⟩))) m gr o dk ss (n + 1) (jP L n gf g1 b1 g2 b2) := by
  have hs := h.size
  have other : ∀ i, i ≠ 15 + 2 * n → i ≠ 16 + 2 * n → ((cs.setIfInBounds (15 + 2 * n) (.pointer (some ⟨gf, 0, none⟩))).setIfInBounds (16 + 2 * n) (.pointer (some ⟨g2, 0, none⟩)))[i]? = cs[i]? := fun i h1 h2 => by
    rw [Array.getElem?_setIfInBounds_ne (by omega), Array.getElem?_setIfInBounds_ne (by omega)]
  refine ⟨by simp [hs], fun i hi => (other i (by omega) (by omega)).trans (h.cfg i hi), (other 13 (by omega) (by omega)).trans h.dk, (other 14 (by omega) (by omega)).trans h.ss, fun c hc => ?_⟩
  by_cases e : c = n
  · subst e
    constructor
    · rw [Array.getElem?_setIfInBounds_ne (by omega), Array.getElem?_setIfInBounds_self_of_lt (by omega)]
      simp [jP]
    · rw [Array.getElem?_setIfInBounds_self_of_lt (by simp; omega)]
      simp [jP]
  · obtain ⟨l1, l2⟩ := h.ln c (by omega)
    constructor
    · rw [other _ (by omega) (by omega), l1]
      simp [jP, e]
    · rw [other _ (by omega) (by omega), l2]
      simp [jP, e]
theorem jy (L : Nat → Nat → Nat) (n gf g1 b1 g2 b2 i : Nat) : jP L n gf g1 b1 g2 b2 n i = (match i with | 0 => gf | 1 => g1 | 2 => b1 | 3 => g2 | _ => b2) := if_pos rfl
theorem qL (L : Nat → Nat → Nat) (n gf g1 b1 g2 b2 c i : Nat) (h : c ≠ n) : jP L n gf g1 b1 g2 b2 c i = L c i := if_neg h
theorem zbu {L : Nat → Nat → Nat} {n gf g1 b1 g2 b2 : Nat} (h1 : gf ≠ g1) (h2 : gf ≠ b1) (h3 : g1 ≠ b1) (h4 : g2 ≠ b2) (h5 : gf ≠ g2) (h6 : gf ≠ b2) (h7 : g1 ≠ g2) (h8 : g1 ≠ b2) (h9 : b1 ≠ g2) (h10 : b1 ≠ b2) (i j : Nat) (hi : i < 5) (hj : j < 5) (hne : i ≠ j) : jP L n gf g1 b1 g2 b2 n i ≠ jP L n gf g1 b1 g2 b2 n j := by
  rw [jy, jy]
  obtain rfl | rfl | rfl | rfl | rfl : i = 0 ∨ i = 1 ∨ i = 2 ∨ i = 3 ∨ i = 4 := by omega
  all_goals
    obtain rfl | rfl | rfl | rfl | rfl : j = 0 ∨ j = 1 ∨ j = 2 ∨ j = 3 ∨ j = 4 := by omega
    all_goals first | exact absurd rfl hne | assumption | (apply Ne.symm; assumption)
theorem zQ.lt {w : World} {B N : Nat} {x : Ix} {g : Sg} {gb dk n : Nat} {L : Nat → Nat → Nat} {Qi Qo : Nat → List Int} (h : zQ w B N x g gb dk n L Qi Qo) (c i : Nat) (hc : c < n) (hi : i < 5) : L c i < w.heap.size := by
  obtain ⟨⟨_, _, e0⟩, ⟨_, _, e1⟩, ⟨_, _, e2⟩⟩ := qf (h.fl c hc)
  obtain ⟨⟨_, _, e3⟩, ⟨_, _, e4⟩⟩ := jr (h.rg c hc)
  obtain rfl | rfl | rfl | rfl | rfl : i = 0 ∨ i = 1 ∨ i = 2 ∨ i = 3 ∨ i = 4 := by omega
  · exact zF e0
  · exact zF e1
  · exact zF e2
  · exact zF e3
  · exact zF e4
theorem zbd {L : Nat → Nat → Nat} {n S gf g1 b1 g2 b2 : Nat} (hap : ∀ c c' i j, c < n → c' < n → i < 5 → j < 5 → (c ≠ c' ∨ i ≠ j) → L c i ≠ L c' j) (hlt : ∀ c i, c < n → i < 5 → L c i < S) (hge : ∀ i, i < 5 → S ≤ jP L n gf g1 b1 g2 b2 n i) (h5 : ∀ i j, i < 5 → j < 5 → i ≠ j → jP L n gf g1 b1 g2 b2 n i ≠ jP L n gf g1 b1 g2 b2 n j) (c c' i j : Nat) (hc : c < n + 1) (hc' : c' < n + 1) (hi : i < 5) (hj : j < 5) (hne : c ≠ c' ∨ i ≠ j) : jP L n gf g1 b1 g2 b2 c i ≠ jP L n gf g1 b1 g2 b2 c' j := by
  by_cases e : c = n
  · by_cases e' : c' = n
    · subst e; subst e'
      exact h5 i j hi hj (by omega)
    · subst e
      rw [qL _ _ _ _ _ _ _ c' j e']
      have h1 := hge i hi
      have h2 := hlt c' j (by omega) hj
      omega
  · by_cases e' : c' = n
    · subst e'
      rw [qL _ _ _ _ _ _ _ c i e]
      have h1 := hge j hj
      have h2 := hlt c i (by omega) hi
      omega
    · rw [qL _ _ _ _ _ _ _ c i e, qL _ _ _ _ _ _ _ c' j e']
      exact hap c c' i j (by omega) (by omega) hi hj hne
theorem zQ.add {w w5 : World} {B N : Nat} {x : Ix} {g : Sg} {gb dk n : Nat} {L : Nat → Nat → Nat} {Qi Qo : Nat → List Int} (h : zQ w B N x g gb dk n L Qi Qo) (hch : Ch [98, 128] [] B w w5) {cs : Array Value} {m gr o : Value} {gf g1 b1 g2 b2 : Nat} (hk : w5.heap[gb]? = some (.cells cs 98 (0, 0))) (hg : GCs cs m gr o dk x.ss (n + 1) (jP L n gf g1 b1 g2 b2)) (hcf : qF w m gr) (hd : kG w5 dk (n + 1)) (hF : yM w5 gf g1 b1 1024 (Qi n) false) (hR : yw w5 g2 b2 1024 (Qo n))
    (hge : w.heap.size ≤ gf ∧ w.heap.size ≤ g1 ∧ w.heap.size ≤ b1 ∧ w.heap.size ≤ g2 ∧ w.heap.size ≤ b2) (hgb : gb < w.heap.size) (hdk : dk < w.heap.size) (h5 : gf ≠ g2 ∧ gf ≠ b2 ∧ g1 ≠ g2 ∧ g1 ≠ b2 ∧ b1 ≠ g2 ∧ b1 ≠ b2) : zQ w5 B N x g gb dk (n + 1) (jP L n gf g1 b1 g2 b2) Qi Qo := by
  have kp : ∀ {b t : Nat}, (∃ cs f, w.heap[b]? = some (.cells cs t f)) → t ∉ [98, 128] → w5.heap[b]? = w.heap[b]? := fun ⟨cs, f, e⟩ ht => (hch.cell e ht).trans e.symm
  have hge2 : ∀ i, i < 5 → w.heap.size ≤ jP L n gf g1 b1 g2 b2 n i := fun i hi => by
    rw [jy]
    obtain rfl | rfl | rfl | rfl | rfl : i = 0 ∨ i = 1 ∨ i = 2 ∨ i = 3 ∨ i = 4 := by omega
    · exact hge.1
    · exact hge.2.1
    · exact hge.2.2.1
    · exact hge.2.2.2.1
    · exact hge.2.2.2.2
  refine ⟨⟨cs, m, gr, o, hk, hg, hcf.chT hch (by decide) (by decide)⟩, hd, h.slv.chT hch (by decide), fun c hc => ?_, fun c hc => ?_, fun c i hc hi => ?_, zbd h.ap (h.lt) hge2 (zbu hF.ne.1 hF.ne.2 hF.r.ne hR.ne h5.1 h5.2.1 h5.2.2.1 h5.2.2.2.1 h5.2.2.2.2.1 h5.2.2.2.2.2)⟩
  · by_cases e : c = n
    · subst e
      rw [jy, jy, jy]
      exact hF
    · rw [qL _ _ _ _ _ _ _ c 0 e, qL _ _ _ _ _ _ _ c 1 e, qL _ _ _ _ _ _ _ c 2 e]
      obtain ⟨k0, k1, k2⟩ := qf (h.fl c (by omega))
      exact yM.keep (h.fl c (by omega)) (kp k0 (by decide)) (kp k1 (by decide)) (kp k2 (by decide))
  · by_cases e : c = n
    · subst e
      rw [jy, jy]
      exact hR
    · rw [qL _ _ _ _ _ _ _ c 3 e, qL _ _ _ _ _ _ _ c 4 e]
      obtain ⟨k1, k2⟩ := jr (h.rg c (by omega))
      exact (h.rg c (by omega)).keep (kp k1 (by decide)) (kp k2 (by decide))
  · by_cases e : c = n
    · subst e
      have h1 := hge2 i hi
      have h2 := h.slv.lt
      refine ⟨by omega, by omega, by omega⟩
    · rw [qL _ _ _ _ _ _ _ c i e]
      exact h.lo c i (by omega) hi
open Go.Proofs.YtlalbohhopmpdaaGreat.Ring (yM yw yN xZ)
def TT : List Nat := [133, 125, 118, 182, 210, 184, 186, 5, 98, 128, 53]
def none_ : Nat → List Int := fun _ => []
structure xk (w : World) (B N : Nat) (x : Ix) (g : Sg) (tb gb dk n : Nat) (L : Nat → Nat → Nat) (k : Int) : Prop where
  blk : w.heap[tb]? = some (.cells #[.pointer (some ⟨gb, 0, none⟩), .int .i64 k] 53 (0, 0))
  gt : zQ w B N x g gb dk n L none_ none_
  le : B ≤ tb
theorem VB {B : Nat} {x : Ix} {w w1 : World} (h : Ch TG (MS x) B w w1) : Ch TT (MS x) B w w1 := h.mono (by decide) (fun _ hm => hm) h.isMap
theorem xk.below {w w1 : World} {B N : Nat} {x : Ix} {g : Sg} {tb gb dk n : Nat} {L : Nat → Nat → Nat} {k : Int} (h : xk w B N x g tb gb dk n L k) (hb : Below w.heap.size w w1) : xk w1 B N x g tb gb dk n L k := ⟨zb h.blk hb, h.gt.below hb, h.le⟩
theorem xk.chb {w w1 : World} {B N : Nat} {x : Ix} {g : Sg} {tb gb dk n : Nat} {L : Nat → Nat → Nat} {k : Int} (h : xk w B N x g tb gb dk n L k) (hb : Below w.heap.size w w1) : Ch TT (MS x) B w w1 := VB (h.gt.chb hb)
theorem xk.count {w : World} {B N : Nat} {x : Ix} {g : Sg} {tb gb dk n : Nat} {L : Nat → Nat → Nat} {k : Int} (h : xk w B N x g tb gb dk n L k) (k' : Int) : xk (w.setCell ⟨tb, 1, none⟩ (.int .i64 k')) B N x g tb gb dk n L k' ∧ Ch TT (MS x) B w (w.setCell ⟨tb, 1, none⟩ (.int .i64 k')) :=
  ⟨⟨xD (i := 1) (v := .int .i64 k') h.blk, h.gt.chT (Ch.set (T := [53]) (M := []) h.blk (by decide) h.le (fun m hm => (by cases hm)) _) (by decide), h.le⟩, (Ch.set (T := [53]) (M := []) h.blk (by decide) h.le (fun m hm => (by cases hm)) _).mono (by decide) (fun m hm => (by cases hm)) h.gt.slv.isMap⟩
theorem XJ (c : Nat) (q : List Int) : qX (qX none_ c q) c [] = none_ := by
  funext k
  unfold qX none_
  split <;> rfl
theorem Zx (c : Nat) (q : List Int) : qX none_ c q c = q := if_pos rfl
end Go.Proofs.YtlalbohhopmpdaaGreat.Top
namespace Go.Proofs.YtlalbohhopmpdaaGreat.LemWithinTop
open Go.RowKit Go.Proofs.YtlalbohhopmpdaaGreat.PTop Go.YW.PrintWords Go.YW.PrintLast Go.YW.PrintMore Go.Proofs.YtlalbohhopmpdaaGreat.Num
theorem within_eq (x n : Int) (hn : 0 < n) (hn2 : n < 4611686018427387904) : zG.f x n = some (x % n) := by
  have h0 := Int.emod_nonneg x (show n ≠ 0 by omega)
  have h1 := Int.emod_lt_of_pos x hn
  have ht := Int.tmod_eq_emod (a := x) (b := n)
  have hna : (n.natAbs : Int) = n := by omega
  unfold zG.f
  rw [if_neg (by omega)]
  by_cases hc : 0 ≤ x ∨ n ∣ x
  · rw [if_pos hc] at ht
    rw [if_neg (by omega)]
    congr 1
    omega
  · rw [if_neg hc, hna] at ht
    have hne : x % n ≠ 0 := fun h => hc (.inr (Int.dvd_of_emod_eq_zero h))
    rw [if_pos (by omega), zA (by omega) (by omega)]
    congr 1
    omega
end Go.Proofs.YtlalbohhopmpdaaGreat.LemWithinTop
namespace Go.Proofs.YtlalbohhopmpdaaGreat.LemAskCTop
open Go.RowKit Go.Proofs.YtlalbohhopmpdaaGreat.PTop Go.YW.PrintWords Go.YW.PrintLast Go.YW.PrintMore Go.Proofs.YtlalbohhopmpdaaGreat.Num Go.Proofs.YtlalbohhopmpdaaGreat.LemWithinTop Go.Proofs.YtlalbohhopmpdaaGreat.LemDigitTop Go.Proofs.YtlalbohhopmpdaaGreat.LemHeadTop Go.Proofs.YtlalbohhopmpdaaGreat.LemAskBTop
theorem zcc (l : List Int) (w : Int) (h0 : 0 ≤ w) (h1 : w < 65536) (hl : l.length ≤ 1000) : yI.f l w = some (l ++ [w / 256, w % 256]) := zcW l w h0 h1 (by omega)
end Go.Proofs.YtlalbohhopmpdaaGreat.LemAskCTop
