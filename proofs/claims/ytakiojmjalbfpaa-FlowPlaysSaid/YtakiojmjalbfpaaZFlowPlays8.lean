/- Words and walks for FlowPlays (made of the session's own texts; each part by itself). -/
import Derived.RowKit
import Derived.Laws.BitsAllLaws
import Derived.Laws.BitsLemmas
import Derived.Deep.DeepCutAuto
import Derived.RegionTactic
import Derived.ChangeAlike
import Derived.Laws.CopyOwn
import Derived.Outline
import Derived.Lib.Hide
import Derived.WalkSpells
import Derived.Test.YtakiojmjalbfpaaZFlowPlays7
set_option linter.unusedVariables false
namespace Go.Proofs.Ytakiojmjalbfpaa.Num
open Go.RowKit Go.Proofs.YtakiojmjalbfpaaW.PrintWords Go.Proofs.YtakiojmjalbfpaaW.PrintMore
theorem wf_u8 {x : Int} (h : (Lit.int .u8 x).wf = true) : 0 ≤ x ∧ x < 256 := by
  simp [Lit.wf, IntKind.min, IntKind.max, IntKind.signed, IntKind.bits] at h; omega
theorem wf_i64 {x : Int} (h : (Lit.int .i64 x).wf = true) : -9223372036854775808 ≤ x ∧ x < 9223372036854775808 := by
  simp [Lit.wf, IntKind.min, IntKind.max, IntKind.signed, IntKind.bits] at h; omega
theorem wrap64_id {x : Int} (h1 : -9223372036854775808 ≤ x) (h2 : x < 9223372036854775808) : wrap64 x = x := by unfold wrap64; omega
theorem u16_eq (n : Int) : IntKind.u16.wrap n = n % 65536 := by simp [IntKind.wrap, IntKind.bits, IntKind.signed]
theorem u16_id {x : Int} (h1 : 0 ≤ x) (h2 : x < 65536) : IntKind.u16.wrap x = x := by rw [u16_eq]; omega
theorem tdiv_pos {a b : Int} (h : 0 ≤ a) (hb : 0 ≤ b) : Int.tdiv a b = a / b := Int.tdiv_eq_ediv_of_nonneg h
theorem tmod_pos {a b : Int} (h : 0 ≤ a) : Int.tmod a b = a % b := Int.tmod_eq_emod_of_nonneg h
theorem nat_or_hi (n i b : Nat) (h : i < 2 ^ n) : (2 ^ n * b) ||| i = 2 ^ n * b + i := (Nat.two_pow_add_eq_or_of_lt h b).symm
theorem u16_or_hi (v w : Int) (h0 : 0 ≤ v) (h1 : v < 65536) (hd : v % 256 = 0) (h2 : 0 ≤ w) (h3 : w < 256) : bits .or .u16 v w = v + w := by
  rw [u16_or v w h0 h1 h2 (by omega)]
  obtain ⟨V, rfl⟩ := Int.eq_ofNat_of_zero_le h0
  obtain ⟨U, rfl⟩ := Int.eq_ofNat_of_zero_le h2
  have hd' : V % 2 ^ 8 = 0 := by omega
  obtain ⟨b, hb⟩ := Nat.dvd_of_mod_eq_zero hd'
  simp only [Int.toNat_natCast]
  rw [hb, nat_or_hi 8 U b (by omega)]
  omega
def W16 (l : List Int) : Prop := ∀ x ∈ l, 0 ≤ x ∧ x < 65536
def B8 (l : List Int) : Prop := ∀ x ∈ l, 0 ≤ x ∧ x < 256
theorem rd_get (l : List Int) (i : Nat) (h : i < l.length) : rd l (i : Int) = l[i] := by simp [rd, List.getD_eq_getElem?_getD, List.getElem?_eq_getElem h]
def raw (l : List Int) : List Int := l.flatMap fun w => [w / 256, w % 256]
end Go.Proofs.Ytakiojmjalbfpaa.Num
set_option linter.unusedVariables false
set_option linter.unusedSimpArgs false
namespace Go.Proofs.Ytakiojmjalbfpaa.LemLentRing
open Go.RowKit Go.Proofs.Ytakiojmjalbfpaa.PRing Go.Proofs.YtakiojmjalbfpaaW.PrintWords Go.Proofs.YtakiojmjalbfpaaW.PrintLast Go.Proofs.YtakiojmjalbfpaaW.PrintMore Go.Proofs.Ytakiojmjalbfpaa.Num
theorem laid0 {α : Type} (z : α) (l : List α) : Kd.laid (List.replicate (l.length + 3) z) 0 (min l.length (List.replicate (l.length + 3) z).length) l = l ++ [z, z, z] := by
  unfold Kd.laid
  rw [List.length_replicate, Nat.min_eq_left (by omega), List.take_length, Nat.zero_add, List.drop_replicate, Nat.add_sub_cancel_left]
  rfl
theorem marks_eq : Kd.marks (Kd.int .u8) = [165, 165, 165] := rfl
theorem set_mk {α : Type} (l : List α) (a b c m : α) : (l ++ [a, b, c]).set l.length m = l ++ [m, b, c] ∧ (l ++ [a, b, c]).set (l.length + 1) m = l ++ [a, m, c] ∧ (l ++ [a, b, c]).set (l.length + 2) m = l ++ [a, b, m] := by
  refine ⟨?_, ?_, ?_⟩
  · rw [List.set_append_right _ _ (Nat.le_refl _), Nat.sub_self]; rfl
  · rw [List.set_append_right _ _ (by omega), Nat.add_sub_cancel_left]; rfl
  · rw [List.set_append_right _ _ (by omega), Nat.add_sub_cancel_left]; rfl
theorem lent_round (l x : List Int) (k i : Nat) (hl : l.length ≤ 100000) (hi : i < x.length) (hi2 : i ≤ 200000) : busbarlaw0_LentBytes.l0 (k + 1) l x (i : Int) = busbarlaw0_LentBytes.l0 k l (x.set i 165) ((i + 1 : Nat) : Int) := by
  rw [busbarlaw0_LentBytes.l0, if_pos (by omega), if_pos (by omega), Int.toNat_natCast, wrap64_id (by omega) (by omega)]
  rfl
theorem lent_eq (l : List Int) (hl : l.length ≤ 100000) {k : Nat} (hk : 5 ≤ k) : busbarlaw0_LentBytes.f k l = some l := by
  obtain ⟨k, rfl⟩ : ∃ m, k = m + 4 := ⟨k - 4, by omega⟩
  unfold busbarlaw0_LentBytes.f
  have e : ((wrap64 ((l.length : Int) + 3)) : Int).toNat = l.length + 3 := by rw [wrap64_id (by omega) (by omega)]; omega
  have hlen : ∀ a b c : Int, (l ++ [a, b, c]).length = l.length + 3 := fun _ _ _ => by simp
  rw [if_pos (by rw [wrap64_id (by omega) (by omega)]; omega), e, if_pos (by omega), Option.bind_some, if_pos (by simp), laid0,
    lent_round l _ (k + 3) l.length hl (by rw [hlen]; omega) (by omega), (set_mk l _ _ _ _).1,
    lent_round l _ (k + 2) (l.length + 1) hl (by rw [hlen]; omega) (by omega), (set_mk l _ _ _ _).2.1,
    lent_round l _ (k + 1) (l.length + 1 + 1) hl (by rw [hlen]; omega) (by omega), (set_mk l _ _ _ _).2.2,
    busbarlaw0_LentBytes.l0, if_neg (by rw [hlen]; omega), if_pos (by omega), if_pos (by rw [hlen]; omega), Int.toNat_natCast, List.drop_left, if_pos marks_eq.symm, List.take_left]
theorem rd_left (l m : List Int) (i : Nat) (h : i < l.length) : rd (l ++ m) (i : Int) = rd l (i : Int) := by
  simp [rd, List.getD_eq_getElem?_getD, List.getElem?_append_left h]
theorem rd_marks (l : List Int) (i : Nat) (h : l.length ≤ i) (h2 : i < l.length + 3) : rd (l ++ Kd.marks (Kd.int .u8)) (i : Int) = 165 := by
  obtain ⟨j, rfl⟩ : ∃ j, i = l.length + j := ⟨i - l.length, by omega⟩
  unfold rd
  rw [Int.toNat_natCast, List.getD_eq_getElem?_getD, List.getElem?_append_right h, Nat.add_sub_cancel_left, marks_eq]
  obtain rfl | rfl | rfl : j = 0 ∨ j = 1 ∨ j = 2 := by omega
  all_goals rfl
theorem stays_loop (l : List Int) (hl : l.length ≤ 100000) : ∀ (d i k : Nat), i + d = l.length + 3 → d < k → busbarlaw0_StaysBytes.l0 k l (l ++ Kd.marks (Kd.int .u8)) (i : Int) = some true
  | 0, i, k, h, hk => by
    obtain ⟨k, rfl⟩ : ∃ m, k = m + 1 := ⟨k - 1, by omega⟩
    rw [busbarlaw0_StaysBytes.l0, if_neg (by rw [List.length_append, marks_eq]; simp; omega)]
  | d + 1, i, k, h, hk => by
    obtain ⟨k, rfl⟩ : ∃ m, k = m + 1 := ⟨k - 1, by omega⟩
    have ih := stays_loop l hl d (i + 1) k (by omega) (by omega)
    have hw : wrap64 ((i : Int) + 1) = ((i + 1 : Nat) : Int) := by rw [wrap64_id (by omega) (by omega)]; rfl
    rw [busbarlaw0_StaysBytes.l0, if_pos (by rw [List.length_append, marks_eq]; simp; omega), hw, ih]
    by_cases hi : i < l.length
    · rw [if_pos (by omega), if_pos (by omega), if_pos (rd_left l _ i hi), if_neg (by omega)]
    · rw [if_neg (by omega), if_pos (by omega), if_pos (by omega), if_pos (rd_marks l i (by omega) (by omega))]
theorem stays_eq (l : List Int) (hl : l.length ≤ 100000) {k : Nat} (hk : l.length + 4 ≤ k) : busbarlaw0_StaysBytes.f k l l = some true := by
  unfold busbarlaw0_StaysBytes.f
  have e : (l ++ Kd.marks (Kd.int .u8)).length = l.length + 3 := by rw [List.length_append, marks_eq]; rfl
  rw [if_pos rfl, if_pos (by rw [wrap64_id (by omega) (by omega)]; omega), if_pos (by rw [wrap64_id (by omega) (by omega), e]; omega)]
  exact stays_loop l hl (l.length + 3) 0 k (by omega) (by omega)
end Go.Proofs.Ytakiojmjalbfpaa.LemLentRing
set_option linter.unusedVariables false
set_option linter.unusedSimpArgs false
namespace Go.Proofs.Ytakiojmjalbfpaa.Ring
open Go.RowKit Go.Proofs.YtakiojmjalbfpaaW.PrintWords Go.Proofs.YtakiojmjalbfpaaW.PrintLast Go.Proofs.YtakiojmjalbfpaaW.PrintMore Go.Proofs.Ytakiojmjalbfpaa.PRing
attribute [local go_sem] plus_setCell_drewN plus_cell_same
structure Both (w0 : World) (g B M : Nat) (g' : Nat) (q : List Int) (w : World) : Prop where
  s : St w0 g B M q w
  r : RefW w0.heap.size (fun k => k ≠ g' ∧ k ≠ g ∧ k ≠ B) w g' M q
  g1 : w0.heap.size ≤ g'
  n1 : g' ≠ g
  n2 : g' ≠ B
theorem Both.below {w0 w w1 : World} {g B M g' : Nat} {q : List Int} (h : Both w0 g B M g' q w) (hb : Below w.heap.size w w1) : Both w0 g B M g' q w1 := ⟨h.s.below hb, h.r.below hb, h.g1, h.n1, h.n2⟩
theorem lent_b (A : Option Addr) (n c : Nat) (l : List Int) (hn : n = l.length) (hl : l.length ≤ 100000) (w : World) (h : Kd.C (Kd.int .u8) w A n l) (hc : n ≤ c) : Calls Try.prog 17 #[.slice A n c] w fun e w' => ∃ A1 c1, e = .returned (.slice A1 n c1) ∧ Kd.L (Kd.int .u8) 5 w' w.heap.size (fun _ => True) (.slice A1 n c1) l ∧ Below w.heap.size w w' := by
  subst hn
  refine (busbarlaw0_LentBytes.calls 100010 A c l l w h hc (Go.Proofs.Ytakiojmjalbfpaa.LemLentRing.lent_eq l (by omega) (by omega))).mono ?_
  rintro e w1 ⟨v, rfl, hL, hb⟩
  obtain ⟨A1, c1, rfl, _⟩ := Kd.L_slice hL
  exact ⟨A1, c1, rfl, hL, hb⟩
theorem stays_b (A : Option Addr) (n c : Nat) (A1 : Option Addr) (c1 : Nat) (l : List Int) (hn : n = l.length) (hl : l.length ≤ 100000) (w : World) (h : Kd.C (Kd.int .u8) w A (l ++ Kd.marks (Kd.int .u8)).length (l ++ Kd.marks (Kd.int .u8))) (hc : (l ++ Kd.marks (Kd.int .u8)).length ≤ c) (h1 : Kd.C (Kd.int .u8) w A1 n l) (hc1 : n ≤ c1) :
    Calls Try.prog 20 #[.slice A n c, .slice A1 n c1] w fun e w' => e = .returned (.bool true) ∧ Below w.heap.size w w' := by
  subst hn
  refine (busbarlaw0_StaysBytes.calls 100010 A c l A1 c1 l true w h hc h1 hc1 (Go.Proofs.Ytakiojmjalbfpaa.LemLentRing.stays_eq l (by omega) (by omega))).mono ?_
  rintro e w1 ⟨rfl, hd⟩
  obtain ⟨nd, rfl⟩ := hd.out
  exact ⟨rfl, pw_below_drewN (Below.refl _ _) nd⟩
theorem RefW.mono {base : Nat} {ok ok' : Nat → Prop} {w : World} {g M : Nat} {q : List Int} (h : RefW base ok w g M q) (hk : ∀ k, ok k → ok' k) : RefW base ok' w g M q := by
  obtain ⟨A, c, hg, hR, h2⟩ := h.ex
  exact ⟨A, c, hg, Kd.R_mono hR hk, h2⟩
theorem RefW.fr {base : Nat} {ok : Nat → Prop} {w w1 : World} {g M a b : Nat} {q : List Int} (h : RefW base ok w g M q) (hf : Fr2 a b w w1) (h1 : g ≠ a) (h2 : g ≠ b) (hk : ∀ k, ok k → k ≠ a ∧ k ≠ b) : RefW base ok w1 g M q := by
  obtain ⟨A, c, hg, hR, h3⟩ := h.ex
  exact ⟨A, c, (hf.block g (blk_lt hg) h1 h2).trans hg, Kd.R_step hR (fun k hk_ hl => hf.block k hl (hk k hk_).1 (hk k hk_).2), h3⟩
theorem St.fr {w0 w w1 : World} {g B M a b : Nat} {q : List Int} (h : St w0 g B M q w) (hf : Fr2 a b w w1) (h1 : g ≠ a) (h2 : g ≠ b) (h3 : B ≠ a) (h4 : B ≠ b) (h5 : w0.heap.size ≤ a) (h6 : w0.heap.size ≤ b) : St w0 g B M q w1 := ⟨h.r.fr hf h1 h2 h3 h4, hf.below h.b h.b.size h5 h6, h.g0, h.B0⟩
theorem RefW.lt {base : Nat} {ok : Nat → Prop} {w : World} {g M : Nat} {q : List Int} (h : RefW base ok w g M q) : g < w.heap.size := by
  obtain ⟨A, c, hg, _⟩ := h.ex
  exact blk_lt hg
theorem L_blk {w : World} {base n c : Nat} {A : Option Addr} {l : List Int} {ok : Nat → Prop} (h : Kd.R (Kd.int .u8) 5 w base ok (.slice A n c) l) (h0 : 0 < n) : ∃ gm cs, A = some ⟨gm, 0, none⟩ ∧ base ≤ gm ∧ w.heap[gm]? = some (.cells cs 5 (0, 0)) ∧ n ≤ cs.size ∧ (Value.slice A n c).ownBlock = some gm := by
  obtain ⟨hok, inner, hown, hr⟩ := h
  rcases hown.2 with ⟨hv, hl⟩ | ⟨gm, cap, cur, hv, hb, hh, hcap, hcm, hcs, htake⟩
  · exfalso
    injection hv with _ e _
    omega
  · injection hv with e1 e2 e3
    subst e1
    subst e3
    refine ⟨gm, cur, rfl, hb, hh, ?_, ?_⟩
    · rw [hcs, show (Kd.int .u8).sz = 1 from rfl, Nat.mul_one]
      omega
    · simp [Value.ownBlock]
theorem RefW.bound {base : Nat} {ok : Nat → Prop} {w : World} {g M : Nat} {q : List Int} (h : RefW base ok w g M q) : RefW base (fun k => ok k ∧ k < w.heap.size) w g M q := by
  obtain ⟨A, c, hg, hR, h2⟩ := h.ex
  exact ⟨A, c, hg, Kd.R_mono (Kd.R_bound hR) (fun k hk => ⟨hk.1, hk.2.2.1⟩), h2⟩
end Go.Proofs.Ytakiojmjalbfpaa.Ring
namespace Go.Proofs.Ytakiojmjalbfpaa.PFlow
open Go.RowKit Go.Proofs.YtakiojmjalbfpaaW.PrintWords Go.Proofs.YtakiojmjalbfpaaW.PrintLast Go.Proofs.YtakiojmjalbfpaaW.PrintMore
attribute [local go_sem] max2_int min2_int max_two min_two max_three min_three max_four min_four plus_setCell_drewN plus_cell_same   -- for this text's walks alone
set_option linter.unusedVariables false
set_option linter.unusedSimpArgs false
def slices_Clone_byte_byte.f (l0 : List Int) : Option (List Int) := if l0.length < 140737488355328 then some l0 else none
theorem slices_Clone_byte_byte.calls (A0 : Option Addr) (c0 : Nat) (l0 : List Int) (r : List Int) (w : World) (hr0 : Kd.C (Kd.int .u8) w A0 l0.length l0) (hc0 : l0.length ≤ c0) (h : slices_Clone_byte_byte.f l0 = some r) :
  Calls Try.prog 53 #[.slice A0 l0.length c0] w fun e w' => ∃ v0_ : Value, e = .returned (v0_) ∧ Kd.R (Kd.int .u8) 5 w' w.heap.size (fun _ => True) v0_ r ∧ Below w.heap.size w w' := by
 unfold slices_Clone_byte_byte.f at h
 split at h
 ·
  rename_i hlt
  obtain rfl := Option.some.inj h
  clear h
  cases A0 with
  | none =>
   have hl : l0 = [] := by
    rcases Nat.eq_zero_or_pos l0.length with h0 | h0
    ·
     exact List.eq_nil_of_length_eq_zero h0
    ·
     obtain ⟨ad, e, _⟩ := hr0.2.2 h0
     cases e
   subst hl
   have hnil := @Lib.run_eql_slice_nil Try.prog
   go_enter Try.func53, Try.ntmps53
   go_wp2
   go_ret
   exact ⟨_, rfl, Kd.R_nil _ _ _ _ _, Below.refl _ _⟩
  | some a0 =>
   have hnil := @Lib.run_eql_slice_nil Try.prog
   go_enter Try.func53, Try.ntmps53
   have HR := Aside0.mk hr0
   have HL := Aside0.mk hlt
   clear hr0 hlt
   go_wp2_with (first | ((with_reducible refine gate_dst (N := 5) rfl ?_); refine Kd.R_lit (Kd.int .u8) (w0 := w) w.heap.size 5 ?hg (N := 5) ?hd (xs := ([] : List Int)) (inner := []) (ok := fun _ => True) (okp := fun _ => True) ?hr (Reps.none _ _) (fun _ h => h) trivial (Below.refl _ _) (Nat.le_refl _) (by simp) ?_; (case hd => rfl); (case hg => rfl); (case hr => first | (go_simp; done) | (go_simp; rfl)); intro v1 w1 ho hb hg_ _; have HO := Aside0.mk ho; have HB := Aside0.mk hb; clear ho hb hg_) | ((with_reducible refine gate_builtin (b := .append) (xs := #[.tmp 5, .tmp 6]) (ts := #[30, 30]) rfl ?_); refine Kd.R_append_rows (Kd.int .u8) (w0 := w) w.heap.size rfl (.tmp 5) (.tmp 6) 30 5 (.int .u8 0) 1 rfl Try.underlying30 info5 rfl (by decide) (by omega) _ ([] : List Int) l0 _ _ _ (fun _ => True) (fun _ => False) rfl rfl HO.out (Kd.C_below HR.out HB.out) (fun _ _ h => h) (fun _ h => h.elim) (fun _ _ => trivial) HB.out HB.out.size ?aL ?_; (case aL => have := HL.out; simp; omega); intro v2 w2 ho hb hg_ _; have HO2 := Aside0.mk ho; have HB2 := Aside0.mk hb; clear ho hb hg_))
   go_ret
   exact ⟨_, rfl, by have := HO2.out; simpa using this, HB2.out⟩
 ·
  cases h
end Go.Proofs.Ytakiojmjalbfpaa.PFlow
namespace Go.Proofs.Ytakiojmjalbfpaa.PFlow
open Go.RowKit Go.Proofs.YtakiojmjalbfpaaW.PrintWords Go.Proofs.YtakiojmjalbfpaaW.PrintLast Go.Proofs.YtakiojmjalbfpaaW.PrintMore
attribute [local go_sem] max2_int min2_int max_two min_two max_three min_three max_four min_four plus_setCell_drewN plus_cell_same   -- for this text's walks alone
set_option linter.unusedVariables false
set_option linter.unusedSimpArgs false
theorem eqA85 (d : Nat) (w : World) (x0 y0 : Int) (x1 y1 : Int) (x2 y2 : Int) :
  (Op.equalIn (d + 2) 85 (.agg #[.int .i64 x0, .int .i64 x1, .int .i64 x2]) (.agg #[.int .i64 y0, .int .i64 y1, .int .i64 y2])).run Try.prog w = .ok (x0 == y0 && (x1 == y1 && (x2 == y2))) w := by
 refine eqA_of Try.underlying85 (by kernel_rfl) ?_
 refine eqf_cons (by rfl) (by go_simp; rfl) (by go_simp; rfl) (by go_simp) ?_
 refine eqf_cons (by rfl) (by go_simp; rfl) (by go_simp; rfl) (by go_simp) ?_
 exact eqf_last (by rfl) (by go_simp; rfl) (by go_simp; rfl) (by go_simp)
end Go.Proofs.Ytakiojmjalbfpaa.PFlow
namespace Go.Proofs.Ytakiojmjalbfpaa.PFlow
open Go.RowKit Go.Proofs.YtakiojmjalbfpaaW.PrintWords Go.Proofs.YtakiojmjalbfpaaW.PrintLast Go.Proofs.YtakiojmjalbfpaaW.PrintMore
attribute [local go_sem] max2_int min2_int max_two min_two max_three min_three max_four min_four plus_setCell_drewN plus_cell_same   -- for this text's walks alone
set_option linter.unusedVariables false
set_option linter.unusedSimpArgs false
def head_held.f (a0_0 : Int) (a0_1 : Int) (a0_2 : Int) : Option (Int × Int × Int) := some (mn (mx a0_0 0) 65535, mn (mx a0_1 2) 254, mn (mx a0_2 0) 255)
set_option maxHeartbeats 8000000 in
set_option maxRecDepth 100000 in
theorem head_held.calls (a0_0 : Int) (a0_1 : Int) (a0_2 : Int) (r1 : Int) (r2 : Int) (r3 : Int) (w : World) (h : head_held.f a0_0 a0_1 a0_2 = some (r1, r2, r3)) :
  Calls Try.prog 65 #[.agg #[.int .i64 a0_0, .int .i64 a0_1, .int .i64 a0_2]] w fun e w' => e = .returned (.agg #[.int .i64 r1, .int .i64 r2, .int .i64 r3]) ∧ Below w.heap.size w w' := by
 have hu85 := Try.underlying85
 have HB := Aside0.mk (Below.refl w.heap.size w)
 have H : (some (mn (mx a0_0 0) 65535, mn (mx a0_1 2) 254, mn (mx a0_2 0) 255)) = some (r1, r2, r3) := h
 clear h
 obtain ⟨ji2, hji2⟩ : ∃ j_ : Int, (mx a0_0 0) = j_ := ⟨_, rfl⟩
 replace H : (some (mn (ji2) 65535, mn (mx a0_1 2) 254, mn (mx a0_2 0) 255)) = some (r1, r2, r3) := by first | (rw [hji2] at H; exact H) | (simp only [hji2] at H ⊢; exact H)
 (try (have hji2l : 0 ≤ ji2 := by (rw [← hji2]; unfold mx; (repeat' split) <;> omega)))
 (try (have hji2m : 0 ≤ ji2 := by omega))
 have hji2_ : (if a0_0 < 0 then 0 else a0_0) = ji2 := hji2
 obtain ⟨ji3, hji3⟩ : ∃ j_ : Int, (mn (ji2) 65535) = j_ := ⟨_, rfl⟩
 replace H : (some (ji3, mn (mx a0_1 2) 254, mn (mx a0_2 0) 255)) = some (r1, r2, r3) := by first | (rw [hji3] at H; exact H) | (simp only [hji3] at H ⊢; exact H)
 have hji3_ : (if 65535 < (ji2) then 65535 else (ji2)) = ji3 := hji3
 obtain ⟨ji4, hji4⟩ : ∃ j_ : Int, (mx a0_1 2) = j_ := ⟨_, rfl⟩
 replace H : (some (ji3, mn (ji4) 254, mn (mx a0_2 0) 255)) = some (r1, r2, r3) := by first | (rw [hji4] at H; exact H) | (simp only [hji4] at H ⊢; exact H)
 (try (have hji4l : 2 ≤ ji4 := by (rw [← hji4]; unfold mx; (repeat' split) <;> omega)))
 (try (have hji4m : 0 ≤ ji4 := by omega))
 have hji4_ : (if a0_1 < 2 then 2 else a0_1) = ji4 := hji4
 obtain ⟨ji5, hji5⟩ : ∃ j_ : Int, (mn (ji4) 254) = j_ := ⟨_, rfl⟩
 replace H : (some (ji3, ji5, mn (mx a0_2 0) 255)) = some (r1, r2, r3) := by first | (rw [hji5] at H; exact H) | (simp only [hji5] at H ⊢; exact H)
 have hji5_ : (if 254 < (ji4) then 254 else (ji4)) = ji5 := hji5
 obtain ⟨ji6, hji6⟩ : ∃ j_ : Int, (mx a0_2 0) = j_ := ⟨_, rfl⟩
 replace H : (some (ji3, ji5, mn (ji6) 255)) = some (r1, r2, r3) := by first | (rw [hji6] at H; exact H) | (simp only [hji6] at H ⊢; exact H)
 (try (have hji6l : 0 ≤ ji6 := by (rw [← hji6]; unfold mx; (repeat' split) <;> omega)))
 (try (have hji6m : 0 ≤ ji6 := by omega))
 have hji6_ : (if a0_2 < 0 then 0 else a0_2) = ji6 := hji6
 obtain ⟨ji7, hji7⟩ : ∃ j_ : Int, (mn (ji6) 255) = j_ := ⟨_, rfl⟩
 replace H : (some (ji3, ji5, ji7)) = some (r1, r2, r3) := by first | (rw [hji7] at H; exact H) | (simp only [hji7] at H ⊢; exact H)
 have hji7_ : (if 255 < (ji6) then 255 else (ji6)) = ji7 := hji7
 simp only [Option.some.injEq, Prod.mk.injEq] at H
 obtain ⟨rfl, rfl, rfl⟩ := H
 go_enter Try.func65, Try.ntmps65
 go_wp2_with (first | ((with_reducible refine gate_dst (N := 1) rfl ?_); refine box_event ?hg (N := 1) ?hd (cs := #[.int .i64 a0_0, .int .i64 a0_1, .int .i64 a0_2]) (t := 85) ?hr ?_; (case hd => rfl); (case hg => rfl); (case hr => first | (go_simp; done) | (go_simp; rfl)); intro gb109 hg w8 hbox hb; have n0_ := Aside0.mk (below_step (by repeat (first | (with_reducible first | exact HB.out | apply below_alloc | apply pw_below_drewN | apply below_drew1) | exact HB.out)) hb); have n1_ := Aside0.mk (hbox); have n2_ := Aside0.mk ((by rw [hg]; exact (below_size (by repeat (first | (with_reducible first | exact HB.out | apply below_alloc | apply pw_below_drewN | apply below_drew1) | exact HB.out))) : w.heap.size ≤ gb109)); have n3_ := Aside0.mk ((by rw [hg]; exact (below_size (by repeat (first | (with_reducible first | exact HB.out | apply below_alloc | apply pw_below_drewN | apply below_drew1) | exact HB.out))) : w.heap.size ≤ gb109)); clear HB; have HB := n0_; have BK109 := n1_; have GW109 := n2_; have GE109 := n3_; clear n0_ n1_ n2_ n3_; clear hb hbox hg) | ((with_reducible refine gate_dst (N := 2) rfl ?_); refine box_event ?hg (N := 2) ?hd (cs := #[.int .i64 0, .int .i64 0, .int .i64 0]) (t := 85) ?hr ?_; (case hd => rfl); (case hg => rfl); (case hr => first | (go_simp; done) | (go_simp; rfl)); intro gb110 hg w9 hbox hb; have n0_ := Aside0.mk (blk_below (g := gb109) (o := .cells #[.int .i64 a0_0, .int .i64 a0_1, .int .i64 a0_2] 85 (0, 0)) (by (with_reducible repeat (first | refine blk_drewN ?_ _ | refine blk_drew ?_ | refine blk_alloc ?_ _)); exact BK109.out) hb); have n1_ := Aside0.mk (below_step (by repeat (first | (with_reducible first | exact HB.out | apply below_alloc | apply pw_below_drewN | apply below_drew1 | refine below_set ?_ GE109.out) | exact HB.out)) hb); have n2_ := Aside0.mk (hbox); have n3_ := Aside0.mk ((by rw [hg]; exact (below_size (by repeat (first | (with_reducible first | exact HB.out | apply below_alloc | apply pw_below_drewN | apply below_drew1 | refine below_set ?_ GE109.out) | exact HB.out))) : w.heap.size ≤ gb110)); have n4_ := Aside0.mk ((by rw [hg]; exact (below_size (by repeat (first | (with_reducible first | exact HB.out | apply below_alloc | apply pw_below_drewN | apply below_drew1 | refine below_set ?_ GE109.out) | exact HB.out))) : w.heap.size ≤ gb110)); have n5_ := Aside0.mk ((by rw [hg]; exact Nat.ne_of_lt (blk_lt (g := gb109) (o := .cells #[.int .i64 a0_0, .int .i64 a0_1, .int .i64 a0_2] 85 (0, 0)) (by (with_reducible repeat (first | refine blk_drewN ?_ _ | refine blk_drew ?_ | refine blk_alloc ?_ _)); exact BK109.out)) : gb109 ≠ gb110)); have n6_ := Aside0.mk ((by rw [hg]; exact Nat.ne_of_gt (blk_lt (g := gb109) (o := .cells #[.int .i64 a0_0, .int .i64 a0_1, .int .i64 a0_2] 85 (0, 0)) (by (with_reducible repeat (first | refine blk_drewN ?_ _ | refine blk_drew ?_ | refine blk_alloc ?_ _)); exact BK109.out)) : gb110 ≠ gb109)); clear BK109; clear HB; have BK109 := n0_; have HB := n1_; have BK110 := n2_; have GW110 := n3_; have GE110 := n4_; have NB109_110 := n5_; have NB110_109 := n6_; clear n0_ n1_ n2_ n3_ n4_ n5_ n6_; clear hb hbox hg; have hnb10 := NB109_110.out; have hnc10 := NB110_109.out; have hcz11_0 : w9.cell? ⟨gb109, 0, none⟩ = some (.int .i64 a0_0) := (blk_cell BK109.out 0).trans rfl; have hcz11_1 : w9.cell? ⟨gb109, 1, none⟩ = some (.int .i64 a0_1) := (blk_cell BK109.out 1).trans rfl; have hcz11_2 : w9.cell? ⟨gb109, 2, none⟩ = some (.int .i64 a0_2) := (blk_cell BK109.out 2).trans rfl; have hfz11_0 := blk_frozen BK109.out 0; have hfz11_1 := blk_frozen BK109.out 1; have hfz11_2 := blk_frozen BK109.out 2; have hcz12_0 : w9.cell? ⟨gb110, 0, none⟩ = some (.int .i64 0) := (blk_cell BK110.out 0).trans rfl; have hcz12_1 : w9.cell? ⟨gb110, 1, none⟩ = some (.int .i64 0) := (blk_cell BK110.out 1).trans rfl; have hcz12_2 : w9.cell? ⟨gb110, 2, none⟩ = some (.int .i64 0) := (blk_cell BK110.out 2).trans rfl; have hfz12_0 := blk_frozen BK110.out 0; have hfz12_1 := blk_frozen BK110.out 1; have hfz12_2 := blk_frozen BK110.out 2))
 refine bodyPost_ret (results_cell_row rfl _ _ gb110 85 #[.int .i64 ji3, .int .i64 ji5, .int .i64 ji7] (0, 0) _ rfl (by (with_reducible repeat (first | refine blk_drewN ?_ _ | refine blk_drew ?_ | refine blk_alloc ?_ _)); refine blk_put (cs := #[.int .i64 ji3, .int .i64 ji5, .int .i64 0]) ?_ 2 _ rfl; (with_reducible repeat (first | refine blk_drewN ?_ _ | refine blk_drew ?_ | refine blk_alloc ?_ _)); refine blk_put (cs := #[.int .i64 ji3, .int .i64 0, .int .i64 0]) ?_ 1 _ rfl; (with_reducible repeat (first | refine blk_drewN ?_ _ | refine blk_drew ?_ | refine blk_alloc ?_ _)); refine blk_put (cs := #[.int .i64 0, .int .i64 0, .int .i64 0]) ?_ 0 _ rfl; (with_reducible repeat (first | refine blk_drewN ?_ _ | refine blk_drew ?_ | refine blk_alloc ?_ _)); exact BK110.out) Try.underlying85 rfl (by kernel_rfl)) rfl ?_
 exact ⟨by first | rfl | (simp [errW_none, errW_some] <;> rfl) | (simp only [← hji2, ← hji3, ← hji4, ← hji5, ← hji6, ← hji7]; first | rfl | (simp [errW_none, errW_some] <;> rfl)) | (simp [*, errW_none, errW_some] <;> rfl), by repeat (first | (with_reducible first | exact HB.out | apply below_alloc | apply pw_below_drewN | apply below_drew1 | refine below_set ?_ GE109.out | refine below_set ?_ GE110.out) | exact HB.out)⟩
end Go.Proofs.Ytakiojmjalbfpaa.PFlow
namespace Go.Proofs.Ytakiojmjalbfpaa.PFlow
open Go.RowKit Go.Proofs.YtakiojmjalbfpaaW.PrintWords Go.Proofs.YtakiojmjalbfpaaW.PrintLast Go.Proofs.YtakiojmjalbfpaaW.PrintMore
attribute [local go_sem] max2_int min2_int max_two min_two max_three min_three max_four min_four plus_setCell_drewN plus_cell_same   -- for this text's walks alone
set_option linter.unusedVariables false
set_option linter.unusedSimpArgs false
def word_Get.f (l0 : List Int) (a1 : Int) : Option (Int × Bool) := if a1 < 0 then (some (0, false)) else (if (wrap64 ((l0.length : Int) - a1)) < 2 then (some (0, false)) else (if 0 ≤ a1 then (if a1 < (l0.length : Int) then (if 0 ≤ (wrap64 (a1 + 1)) then (if (wrap64 (a1 + 1)) < (l0.length : Int) then (some (Go.bits .or .u16 (IntKind.u16.wrap ((IntKind.u16.wrap (rd l0 a1)) * 256)) (IntKind.u16.wrap (rd l0 (wrap64 (a1 + 1)))), true)) else (none)) else (none)) else (none)) else (none)))
set_option maxHeartbeats 8000000 in
set_option maxRecDepth 100000 in
theorem word_Get.calls (A0 : Option Addr) (c0 : Nat) (l0 : List Int) (a1 : Int) (r1 : Int) (r2 : Bool) (w : World) (hr0 : Kd.C (Kd.int .u8) w A0 l0.length l0) (hc0 : l0.length ≤ c0) (h : word_Get.f l0 a1 = some (r1, r2)) :
  Calls Try.prog 67 #[.slice A0 l0.length c0, .int .i64 a1] w fun e w' => e = .returned (.tuple #[.int .u16 r1, .bool r2]) ∧ Drawn0 w w' := by
 have HR0 := Aside0.mk hr0
 have HC0 := Aside0.mk hc0
 clear hr0 hc0
 have H : (if a1 < 0 then (some (0, false)) else (if (wrap64 ((l0.length : Int) - a1)) < 2 then (some (0, false)) else (if 0 ≤ a1 then (if a1 < (l0.length : Int) then (if 0 ≤ (wrap64 (a1 + 1)) then (if (wrap64 (a1 + 1)) < (l0.length : Int) then (some (Go.bits .or .u16 (IntKind.u16.wrap ((IntKind.u16.wrap (rd l0 a1)) * 256)) (IntKind.u16.wrap (rd l0 (wrap64 (a1 + 1)))), true)) else (none)) else (none)) else (none)) else (none)))) = some (r1, r2) := h
 clear h
 by_cases c3 : a1 < 0
 ·
  rw [if_pos c3] at H
  have c3b0 : decide (a1 < 0) = true := decide_eq_true c3
  clear c3
  simp only [Option.some.injEq, Prod.mk.injEq] at H
  obtain ⟨rfl, rfl⟩ := H
  go_enter Try.func67, Try.ntmps67
  go_wp2
  repeat (go_quiet (fail); try go_wp2)
  go_ret2
  exact ⟨by first | rfl | (simp; done) | (simp [*]; done), by repeat (first | exact Drawn0.refl _ | apply Drawn0.step)⟩
 ·
  rw [if_neg c3] at H
  have c3b0 : decide (a1 < 0) = false := decide_eq_false c3
  clear c3
  by_cases c4 : (wrap64 ((l0.length : Int) - a1)) < 2
  ·
   rw [if_pos c4] at H
   have c4b0 : decide ((wrap64 ((l0.length : Int) - a1)) < 2) = true := decide_eq_true c4
   clear c4
   simp only [Option.some.injEq, Prod.mk.injEq] at H
   obtain ⟨rfl, rfl⟩ := H
   go_enter Try.func67, Try.ntmps67
   go_wp2
   repeat (go_quiet (fail); try go_wp2)
   go_ret2
   exact ⟨by first | rfl | (simp; done) | (simp [*]; done), by repeat (first | exact Drawn0.refl _ | apply Drawn0.step)⟩
  ·
   rw [if_neg c4] at H
   have c4b0 : decide ((wrap64 ((l0.length : Int) - a1)) < 2) = false := decide_eq_false c4
   clear c4
   by_cases c5 : 0 ≤ a1
   ·
    rw [if_pos c5] at H
    have c5b0 : decide (0 ≤ a1) = true := decide_eq_true c5
    clear c5
    by_cases c6 : a1 < (l0.length : Int)
    ·
     rw [if_pos c6] at H
     have c6b0 : decide (a1 < (l0.length : Int)) = true := decide_eq_true c6
     clear c6
     obtain ⟨ji7, hji7⟩ : ∃ j_ : Int, (wrap64 (a1 + 1)) = j_ := ⟨_, rfl⟩
     replace H : (if 0 ≤ (ji7) then (if (ji7) < (l0.length : Int) then (some (Go.bits .or .u16 (IntKind.u16.wrap ((IntKind.u16.wrap (rd l0 a1)) * 256)) (IntKind.u16.wrap (rd l0 (ji7))), true)) else (none)) else (none)) = some (r1, r2) := by first | (rw [hji7] at H; exact H) | (simp only [hji7] at H ⊢; exact H)
     have hji7w : (IntKind.i64.wrap (a1 + 1)) = ji7 := (i64_w _).trans hji7
     by_cases c8 : 0 ≤ (ji7)
     ·
      rw [if_pos c8] at H
      have c8b0 : decide (0 ≤ (ji7)) = true := decide_eq_true c8
      clear c8
      by_cases c9 : (ji7) < (l0.length : Int)
      ·
       rw [if_pos c9] at H
       have c9b0 : decide ((ji7) < (l0.length : Int)) = true := decide_eq_true c9
       clear c9
       simp only [Option.some.injEq, Prod.mk.injEq] at H
       obtain ⟨rfl, rfl⟩ := H
       have p111 : 0 ≤ (a1 : Int) := of_decide_eq_true (by first | (with_reducible assumption) | assumption)
       have q111 : a1 < (l0.length : Int) := of_decide_eq_true (by first | (with_reducible assumption) | assumption)
       obtain ⟨ad111, e111, hx111_0⟩ := Kd.at_int HR0.out a1 p111 q111
       cases e111
       replace p111 := eq_true p111
       replace q111 := eq_true q111
       have p112 : 0 ≤ ((ji7) : Int) := of_decide_eq_true (by first | (with_reducible assumption) | assumption)
       have q112 : (ji7) < (l0.length : Int) := of_decide_eq_true (by first | (with_reducible assumption) | assumption)
       obtain ⟨ad112, e112, hx112_0⟩ := Kd.at_int HR0.out (ji7) p112 q112
       obtain rfl : ad111 = ad112 := (by injection e112)
       replace p112 := eq_true p112
       replace q112 := eq_true q112
       go_enter Try.func67, Try.ntmps67
       go_wp2
       repeat (go_quiet (fail); try go_wp2)
       go_ret2
       exact ⟨by first | rfl | (simp; done) | (simp only [← hji7] <;> (first | rfl | simp)) | (simp [*]; done), by repeat (first | exact Drawn0.refl _ | apply Drawn0.step)⟩
      ·
       rw [if_neg c9] at H
       exact absurd H (by simp)
     ·
      rw [if_neg c8] at H
      exact absurd H (by simp)
    ·
     rw [if_neg c6] at H
     exact absurd H (by simp)
   ·
    rw [if_neg c5] at H
    exact absurd H (by simp)
end Go.Proofs.Ytakiojmjalbfpaa.PFlow
namespace Go.Proofs.Ytakiojmjalbfpaa.PFlow
open Go.RowKit Go.Proofs.YtakiojmjalbfpaaW.PrintWords Go.Proofs.YtakiojmjalbfpaaW.PrintLast Go.Proofs.YtakiojmjalbfpaaW.PrintMore
attribute [local go_sem] max2_int min2_int max_two min_two max_three min_three max_four min_four plus_setCell_drewN plus_cell_same   -- for this text's walks alone
set_option linter.unusedVariables false
set_option linter.unusedSimpArgs false
attribute [local go_sem high] eqA85
def head_Get.j0 : Nat → List Int → Bool → Int → Int → Int → Option (Int × Int × Int × Int)
 | 0, _, _, _, _, _ => none
 | k + 1, x0, x42, x121000, x121001, x121002 => if x42 = true then (some (0, 0, 0, 2)) else (if (x0.length : Int) < 7 then (some (0, 0, 0, 3)) else (if 6 < (x0.length : Int) then (some (x121000, x121001, wrap64 (rd x0 6), 0)) else (none)))
def head_Get.f (k : Nat) (l0 : List Int) : Option (Int × Int × Int × Int) := if (l0.length : Int) < 6 then (some (0, 0, 0, 3)) else ((word_Get.f l0 0).bind fun bt114 => ((word_Get.f l0 2).bind fun bt116 => ((word_Get.f l0 4).bind fun bt118 => (if bt116.1 = 0 then ((head_held.f (wrap64 (bt114.1)) (wrap64 (bt118.1)) 0).bind fun bt121 => (head_Get.j0 k l0 (!((wrap64 (bt114.1)) == bt121.1) || (!((wrap64 (bt118.1)) == bt121.2.1) || (!(0 == bt121.2.2)))) (wrap64 (bt114.1)) (wrap64 (bt118.1)) 0)) else (head_Get.j0 k l0 true (wrap64 (bt114.1)) (wrap64 (bt118.1)) 0)))))
theorem head_Get.mono_l : ∀ k, (∀ y0 y1 y2 y3 y4, LeO (head_Get.j0 k y0 y1 y2 y3 y4) (head_Get.j0 (k + 1) y0 y1 y2 y3 y4))
 | 0 => fun _ _ _ _ _ r h => by simp [head_Get.j0] at h
 | k + 1 => by
  have ih0 := head_Get.mono_l k
  ·
   intro y0 y1 y2 y3 y4
   unfold head_Get.j0
   repeat' first
   | (with_reducible exact ih0 _ _ _ _ _)
   | (with_reducible exact LeO.refl _)
   | (with_reducible exact LeO.none _)
   | (with_reducible refine LeO.ite ?_ ?_)
   | (with_reducible refine LeO.bind ?_ (fun _ => ?_))
   | exact ih0 _ _ _ _ _
   | exact LeO.none _
   | refine LeO.ite ?_ ?_
   | refine LeO.bind ?_ (fun _ => ?_)
theorem head_Get.mono : ∀ a0 k, LeO (head_Get.f k a0) (head_Get.f (k + 1) a0) := by
 intro a0 k
 have ih0 := head_Get.mono_l k
 unfold head_Get.f
 repeat' first
   | (with_reducible exact ih0 _ _ _ _ _)
   | (with_reducible exact LeO.refl _)
   | (with_reducible exact LeO.none _)
   | (with_reducible refine LeO.ite ?_ ?_)
   | (with_reducible refine LeO.bind ?_ (fun _ => ?_))
   | exact ih0 _ _ _ _ _
   | exact LeO.none _
   | refine LeO.ite ?_ ?_
   | refine LeO.bind ?_ (fun _ => ?_)
def head_Get.T7 : Bool × List (List Nat × List Nat) := (true, [([], []), ([0], [0]), ([1], [1]), ([2], [2]), ([2], [2]), ([4, 2, 2], [2, 4]), ([3, 5, 2], [2, 3, 5]), ([2, 6], [2, 6])])
def head_Get.B7 : List Nat := [0, 1, 3, 7, 7, 23, 63, 127]
theorem head_Get.tab7 : rtab .any (opsOf Try.f52 7) = head_Get.T7 := by kernel_rfl
theorem head_Get.bits7 : waitsOk head_Get.T7.2 head_Get.B7 = true := by kernel_rfl
set_option maxHeartbeats 8000000 in
set_option maxRecDepth 100000 in
theorem head_Get.calls (k : Nat) (A0 : Option Addr) (c0 : Nat) (l0 : List Int) (r1 : Int) (r2 : Int) (r3 : Int) (r4 : Int) (w : World) (hr0 : Kd.C (Kd.int .u8) w A0 l0.length l0) (hc0 : l0.length ≤ c0) (h : head_Get.f k l0 = some (r1, r2, r3, r4)) :
  Calls Try.prog 52 #[.slice A0 l0.length c0] w fun e w' => e = .returned (.tuple #[.agg #[.int .i64 r1, .int .i64 r2, .int .i64 r3], .int .i64 r4]) ∧ Below w.heap.size w w' := by
 have hu85 := Try.underlying85
 have HR0 := Aside0.mk hr0
 have HC0 := Aside0.mk hc0
 clear hr0 hc0
 have HB := Aside0.mk (Below.refl w.heap.size w)
 have H : (if (l0.length : Int) < 6 then (some (0, 0, 0, 3)) else ((word_Get.f l0 0).bind fun bt114 => ((word_Get.f l0 2).bind fun bt116 => ((word_Get.f l0 4).bind fun bt118 => (if bt116.1 = 0 then ((head_held.f (wrap64 (bt114.1)) (wrap64 (bt118.1)) 0).bind fun bt121 => (head_Get.j0 k l0 (!((wrap64 (bt114.1)) == bt121.1) || (!((wrap64 (bt118.1)) == bt121.2.1) || (!(0 == bt121.2.2)))) (wrap64 (bt114.1)) (wrap64 (bt118.1)) 0)) else (head_Get.j0 k l0 true (wrap64 (bt114.1)) (wrap64 (bt118.1)) 0)))))) = some (r1, r2, r3, r4) := h
 clear h
 by_cases c2 : (l0.length : Int) < 6
 ·
  rw [if_pos c2] at H
  have c2b0 : decide ((l0.length : Int) < 6) = true := decide_eq_true c2
  have c2b1 : decide (l0.length < 6) = true := decide_eq_true (by omega)
  clear c2
  simp only [Option.some.injEq, Prod.mk.injEq] at H
  obtain ⟨rfl, rfl, rfl, rfl⟩ := H
  go_enter Try.func52, Try.ntmps52
  go_wp2_with (first | ((with_reducible refine gate_dst (N := 2) rfl ?_); refine box_event ?hg (N := 2) ?hd (cs := #[.int .i64 0, .int .i64 0, .int .i64 0]) (t := 85) ?hr ?_; (case hd => rfl); (case hg => rfl); (case hr => first | (go_simp; done) | (go_simp; rfl)); intro gb113 hg w3 hbox hb; have n0_ := Aside0.mk (below_step (by repeat (first | (with_reducible first | exact HB.out | apply below_alloc | apply pw_below_drewN | apply below_drew1) | exact HB.out)) hb); have n1_ := Aside0.mk (hbox); have n2_ := Aside0.mk ((by rw [hg]; exact (below_size (by repeat (first | (with_reducible first | exact HB.out | apply below_alloc | apply pw_below_drewN | apply below_drew1) | exact HB.out))) : w.heap.size ≤ gb113)); have n3_ := Aside0.mk ((by rw [hg]; exact (below_size (by repeat (first | (with_reducible first | exact HB.out | apply below_alloc | apply pw_below_drewN | apply below_drew1) | exact HB.out))) : w.heap.size ≤ gb113)); clear HB; have HB := n0_; have BK113 := n1_; have GW113 := n2_; have GE113 := n3_; clear n0_ n1_ n2_ n3_; clear hb hbox hg; have hcz4_0 : w3.cell? ⟨gb113, 0, none⟩ = some (.int .i64 0) := (blk_cell BK113.out 0).trans rfl; have hcz4_1 : w3.cell? ⟨gb113, 1, none⟩ = some (.int .i64 0) := (blk_cell BK113.out 1).trans rfl; have hcz4_2 : w3.cell? ⟨gb113, 2, none⟩ = some (.int .i64 0) := (blk_cell BK113.out 2).trans rfl; have hfz4_0 := blk_frozen BK113.out 0; have hfz4_1 := blk_frozen BK113.out 1; have hfz4_2 := blk_frozen BK113.out 2))
  refine bodyPost_ret (results_ct rfl _ _ gb113 85 #[.int .i64 0, .int .i64 0, .int .i64 0] (0, 0) _ rfl (by (with_reducible repeat (first | refine blk_drewN ?_ _ | refine blk_drew ?_ | refine blk_alloc ?_ _)); refine blk_put (cs := #[.int .i64 0, .int .i64 0, .int .i64 0]) ?_ 2 _ rfl; (with_reducible repeat (first | refine blk_drewN ?_ _ | refine blk_drew ?_ | refine blk_alloc ?_ _)); refine blk_put (cs := #[.int .i64 0, .int .i64 0, .int .i64 0]) ?_ 1 _ rfl; (with_reducible repeat (first | refine blk_drewN ?_ _ | refine blk_drew ?_ | refine blk_alloc ?_ _)); refine blk_put (cs := #[.int .i64 0, .int .i64 0, .int .i64 0]) ?_ 0 _ rfl; (with_reducible repeat (first | refine blk_drewN ?_ _ | refine blk_drew ?_ | refine blk_alloc ?_ _)); exact BK113.out) Try.underlying85 rfl (by kernel_rfl)) rfl ?_
  exact ⟨by first | rfl | (simp [errW_none, errW_some] <;> rfl) | (simp [*, errW_none, errW_some] <;> rfl), by repeat (first | (with_reducible first | exact HB.out | apply below_alloc | apply pw_below_drewN | apply below_drew1 | refine below_set ?_ GE113.out) | exact HB.out)⟩
 ·
  rw [if_neg c2] at H
  have c2b0 : decide ((l0.length : Int) < 6) = false := decide_eq_false c2
  have c2b1 : decide (l0.length < 6) = false := decide_eq_false (by omega)
  clear c2
  replace H := Option.bind_eq_some_iff.mp H
  obtain ⟨⟨t114, t115⟩, A50, H⟩ := H
  replace H : ((word_Get.f l0 2).bind fun bt116 => ((word_Get.f l0 4).bind fun bt118 => (if bt116.1 = 0 then ((head_held.f (wrap64 (t114)) (wrap64 (bt118.1)) 0).bind fun bt121 => (head_Get.j0 k l0 (!((wrap64 (t114)) == bt121.1) || (!((wrap64 (bt118.1)) == bt121.2.1) || (!(0 == bt121.2.2)))) (wrap64 (t114)) (wrap64 (bt118.1)) 0)) else (head_Get.j0 k l0 true (wrap64 (t114)) (wrap64 (bt118.1)) 0)))) = some (r1, r2, r3, r4) := H
  have A5 := Aside0.mk A50
  clear A50
  replace H := Option.bind_eq_some_iff.mp H
  obtain ⟨⟨t116, t117⟩, A60, H⟩ := H
  replace H : ((word_Get.f l0 4).bind fun bt118 => (if t116 = 0 then ((head_held.f (wrap64 (t114)) (wrap64 (bt118.1)) 0).bind fun bt121 => (head_Get.j0 k l0 (!((wrap64 (t114)) == bt121.1) || (!((wrap64 (bt118.1)) == bt121.2.1) || (!(0 == bt121.2.2)))) (wrap64 (t114)) (wrap64 (bt118.1)) 0)) else (head_Get.j0 k l0 true (wrap64 (t114)) (wrap64 (bt118.1)) 0))) = some (r1, r2, r3, r4) := H
  have A6 := Aside0.mk A60
  clear A60
  replace H := Option.bind_eq_some_iff.mp H
  obtain ⟨⟨t118, t119⟩, A70, H⟩ := H
  replace H : (if t116 = 0 then ((head_held.f (wrap64 (t114)) (wrap64 (t118)) 0).bind fun bt121 => (head_Get.j0 k l0 (!((wrap64 (t114)) == bt121.1) || (!((wrap64 (t118)) == bt121.2.1) || (!(0 == bt121.2.2)))) (wrap64 (t114)) (wrap64 (t118)) 0)) else (head_Get.j0 k l0 true (wrap64 (t114)) (wrap64 (t118)) 0)) = some (r1, r2, r3, r4) := H
  have A7 := Aside0.mk A70
  clear A70
  have HC8 := Aside0.mk H
  clear H
  go_enter Try.func52, Try.ntmps52
  go_upto_region 7 with (first | ((with_reducible refine gate_dst (N := 2) rfl ?_); refine box_event ?hg (N := 2) ?hd (cs := #[.int .i64 0, .int .i64 0, .int .i64 0]) (t := 85) ?hr ?_; (case hd => rfl); (case hg => rfl); (case hr => first | (go_simp; done) | (go_simp; rfl)); intro gb113 hg w9 hbox hb; have n0_ := Aside0.mk (below_step (by repeat (first | (with_reducible first | exact HB.out | apply below_alloc | apply pw_below_drewN | apply below_drew1) | exact HB.out)) hb); have n1_ := Aside0.mk (hbox); have n2_ := Aside0.mk ((by rw [hg]; exact (below_size (by repeat (first | (with_reducible first | exact HB.out | apply below_alloc | apply pw_below_drewN | apply below_drew1) | exact HB.out))) : w.heap.size ≤ gb113)); have n3_ := Aside0.mk ((by rw [hg]; exact (below_size (by repeat (first | (with_reducible first | exact HB.out | apply below_alloc | apply pw_below_drewN | apply below_drew1) | exact HB.out))) : w.heap.size ≤ gb113)); clear HB; have HB := n0_; have BK113 := n1_; have GW113 := n2_; have GE113 := n3_; clear n0_ n1_ n2_ n3_; clear hb hbox hg) | ((with_reducible refine gate_callee (f := 67) rfl ?_); refine goesL_ (some 17) rfl rfl Try.func67 (by kernel_rfl) rfl #[.slice A0 l0.length c0, .int .i64 0] rfl (by (try simp only [List.map_toArray, List.map_cons, List.map_nil]); first | done | rfl | (simp only [List.length_drop, List.length_take]; rfl)) ?_; (with_reducible refine (word_Get.calls _ _ l0 0 t114 t115 _ ?side1 ?side2 A5.out).mono ?_); (case side1 => repeat (first | exact (Kd.C_below HR0.out HB.out) | (with_reducible refine Kd.C_alloc ?_ _) | (with_reducible refine Kd.C_drewN ?_ _) | (with_reducible refine Kd.C_drew ?_))); (case side2 => exact HC0.out); rintro e w' ⟨rfl, ⟨nd, rfl⟩⟩; refine ⟨_, rfl, ?_⟩; (try (rw [drewN_self w9]; generalize hq_ : World.drewN w9 _ = w9; have n0_ : Aside0 (w9.heap[gb113]? = some (.cells #[.int .i64 0, .int .i64 0, .int .i64 0] 85 (0, 0))) := ⟨by rw [← hq_]; exact (by (with_reducible repeat (first | refine blk_drewN ?_ _ | refine blk_drew ?_ | refine blk_alloc ?_ _)); exact BK113.out)⟩; have n1_ : Aside0 (Below w.heap.size w w9) := ⟨by rw [← hq_]; exact (by repeat (first | (with_reducible first | exact HB.out | apply below_alloc | apply pw_below_drewN | apply below_drew1 | refine below_set ?_ GE113.out) | exact HB.out))⟩; clear BK113 HB hq_; have BK113 := n0_; have HB := n1_; clear n0_ n1_))) | ((with_reducible refine gate_callee (f := 67) rfl ?_); refine goesL_ (some 22) rfl rfl Try.func67 (by kernel_rfl) rfl #[.slice A0 l0.length c0, .int .i64 2] rfl (by (try simp only [List.map_toArray, List.map_cons, List.map_nil]); first | done | rfl | (simp only [List.length_drop, List.length_take]; rfl)) ?_; (with_reducible refine (word_Get.calls _ _ l0 2 t116 t117 _ ?side1 ?side2 A6.out).mono ?_); (case side1 => repeat (first | exact (Kd.C_below HR0.out HB.out) | (with_reducible refine Kd.C_alloc ?_ _) | (with_reducible refine Kd.C_drewN ?_ _) | (with_reducible refine Kd.C_drew ?_))); (case side2 => exact HC0.out); rintro e w' ⟨rfl, ⟨nd, rfl⟩⟩; refine ⟨_, rfl, ?_⟩; (try (rw [drewN_self w9]; generalize hq_ : World.drewN w9 _ = w9; have n0_ : Aside0 (w9.heap[gb113]? = some (.cells #[.int .i64 0, .int .i64 0, .int .i64 0] 85 (0, 0))) := ⟨by rw [← hq_]; exact (by (with_reducible repeat (first | refine blk_drewN ?_ _ | refine blk_drew ?_ | refine blk_alloc ?_ _)); exact BK113.out)⟩; have n1_ : Aside0 (Below w.heap.size w w9) := ⟨by rw [← hq_]; exact (by repeat (first | (with_reducible first | exact HB.out | apply below_alloc | apply pw_below_drewN | apply below_drew1 | refine below_set ?_ GE113.out) | exact HB.out))⟩; clear BK113 HB hq_; have BK113 := n0_; have HB := n1_; clear n0_ n1_))) | ((with_reducible refine gate_callee (f := 67) rfl ?_); refine goesL_ (some 27) rfl rfl Try.func67 (by kernel_rfl) rfl #[.slice A0 l0.length c0, .int .i64 4] rfl (by (try simp only [List.map_toArray, List.map_cons, List.map_nil]); first | done | rfl | (simp only [List.length_drop, List.length_take]; rfl)) ?_; (with_reducible refine (word_Get.calls _ _ l0 4 t118 t119 _ ?side1 ?side2 A7.out).mono ?_); (case side1 => repeat (first | exact (Kd.C_below HR0.out HB.out) | (with_reducible refine Kd.C_alloc ?_ _) | (with_reducible refine Kd.C_drewN ?_ _) | (with_reducible refine Kd.C_drew ?_))); (case side2 => exact HC0.out); rintro e w' ⟨rfl, ⟨nd, rfl⟩⟩; refine ⟨_, rfl, ?_⟩; (try (rw [drewN_self w9]; generalize hq_ : World.drewN w9 _ = w9; have n0_ : Aside0 (w9.heap[gb113]? = some (.cells #[.int .i64 0, .int .i64 0, .int .i64 0] 85 (0, 0))) := ⟨by rw [← hq_]; exact (by (with_reducible repeat (first | refine blk_drewN ?_ _ | refine blk_drew ?_ | refine blk_alloc ?_ _)); exact BK113.out)⟩; have n1_ : Aside0 (Below w.heap.size w w9) := ⟨by rw [← hq_]; exact (by repeat (first | (with_reducible first | exact HB.out | apply below_alloc | apply pw_below_drewN | apply below_drew1 | refine below_set ?_ GE113.out) | exact HB.out))⟩; clear BK113 HB hq_; have BK113 := n0_; have HB := n1_; clear n0_ n1_))) | ((with_reducible refine gate_dst (N := 10) rfl ?_); refine box_event ?hg (N := 10) ?hd (cs := #[.int .i64 0, .int .i64 0, .int .i64 0]) (t := 85) ?hr ?_; (case hd => rfl); (case hg => rfl); (case hr => first | (go_simp; done) | (go_simp; rfl)); intro gb120 hg w10 hbox hb; have n0_ := Aside0.mk (blk_below (g := gb113) (o := .cells #[.int .i64 0, .int .i64 0, .int .i64 0] 85 (0, 0)) (by (with_reducible repeat (first | refine blk_drewN ?_ _ | refine blk_drew ?_ | refine blk_alloc ?_ _)); exact BK113.out) hb); have n1_ := Aside0.mk (below_step (by repeat (first | (with_reducible first | exact HB.out | apply below_alloc | apply pw_below_drewN | apply below_drew1 | refine below_set ?_ GE113.out) | exact HB.out)) hb); have n2_ := Aside0.mk (hbox); have n3_ := Aside0.mk ((by rw [hg]; exact (below_size (by repeat (first | (with_reducible first | exact HB.out | apply below_alloc | apply pw_below_drewN | apply below_drew1 | refine below_set ?_ GE113.out) | exact HB.out))) : w.heap.size ≤ gb120)); have n4_ := Aside0.mk ((by rw [hg]; exact (below_size (by repeat (first | (with_reducible first | exact HB.out | apply below_alloc | apply pw_below_drewN | apply below_drew1 | refine below_set ?_ GE113.out) | exact HB.out))) : w.heap.size ≤ gb120)); have n5_ := Aside0.mk ((by rw [hg]; exact Nat.ne_of_lt (blk_lt (g := gb113) (o := .cells #[.int .i64 0, .int .i64 0, .int .i64 0] 85 (0, 0)) (by (with_reducible repeat (first | refine blk_drewN ?_ _ | refine blk_drew ?_ | refine blk_alloc ?_ _)); exact BK113.out)) : gb113 ≠ gb120)); have n6_ := Aside0.mk ((by rw [hg]; exact Nat.ne_of_gt (blk_lt (g := gb113) (o := .cells #[.int .i64 0, .int .i64 0, .int .i64 0] 85 (0, 0)) (by (with_reducible repeat (first | refine blk_drewN ?_ _ | refine blk_drew ?_ | refine blk_alloc ?_ _)); exact BK113.out)) : gb120 ≠ gb113)); clear BK113; clear HB; have BK113 := n0_; have HB := n1_; have BK120 := n2_; have GW120 := n3_; have GE120 := n4_; have NB113_120 := n5_; have NB120_113 := n6_; clear n0_ n1_ n2_ n3_ n4_ n5_ n6_; clear hb hbox hg; have hnb11 := NB120_113.out; have hnc11 := NB113_120.out; have hcz12_0 : w10.cell? ⟨gb120, 0, none⟩ = some (.int .i64 0) := (blk_cell BK120.out 0).trans rfl; have hcz12_1 : w10.cell? ⟨gb120, 1, none⟩ = some (.int .i64 0) := (blk_cell BK120.out 1).trans rfl; have hcz12_2 : w10.cell? ⟨gb120, 2, none⟩ = some (.int .i64 0) := (blk_cell BK120.out 2).trans rfl; have hfz12_0 := blk_frozen BK120.out 0; have hfz12_1 := blk_frozen BK120.out 1; have hfz12_2 := blk_frozen BK120.out 2))
  (try simp only [Act.put, List.setIfInBounds_toArray, List.set_cons_zero, List.set_cons_succ])
  go_cut [42] (fun v42 wc => ∃ (kq : Nat) (x42_7 : Bool), v42 = .bool x42_7 ∧ Aside0 (head_Get.j0 kq l0 x42_7 (wrap64 (t114)) (wrap64 (t118)) 0 = some (r1, r2, r3, r4)) ∧ Aside0 (kq ≤ k) ∧ Aside0 (wc.heap[gb113]? = some (.cells #[.int .i64 0, .int .i64 0, .int .i64 0] 85 (0, 0))) ∧ Aside0 (wc.heap[gb120]? = some (.cells #[.int .i64 (wrap64 (t114)), .int .i64 (wrap64 (t118)), .int .i64 0] 85 (0, 0))) ∧ Aside0 (Below w.heap.size w wc))
  case first =>
   have H := HC8.out
   clear HC8
   by_cases c13 : t116 = 0
   ·
    rw [if_pos c13] at H
    have c13b0 : (t116 == 0) = true := beq_iff_eq.mpr c13
    have c13b1 : (t116 != 0) = false := bne_eq_false_iff_eq.mpr c13
    clear c13
    (first | rw [c13b0] | (simp only [i64_w, i32_w]; rw [c13b0]) | skip)
    replace H := Option.bind_eq_some_iff.mp H
    obtain ⟨⟨t121, t122, t123⟩, A140, H⟩ := H
    replace H : (head_Get.j0 k l0 (!((wrap64 (t114)) == t121) || (!((wrap64 (t118)) == t122) || (!(0 == t123)))) (wrap64 (t114)) (wrap64 (t118)) 0) = some (r1, r2, r3, r4) := H
    have A14 := Aside0.mk A140
    clear A140
    have H' := Aside0.mk H
    clear H
    try go_wp2
    have n0_ : Aside0 ((((w10.setCell ⟨gb120, 0, none⟩ (.int .i64 (wrap64 (t114)))).setCell ⟨gb120, 1, none⟩ (.int .i64 (wrap64 (t118)))).setCell ⟨gb120, 2, none⟩ (.int .i64 0)).heap[gb113]? = some (.cells #[.int .i64 0, .int .i64 0, .int .i64 0] 85 (0, 0))) := ⟨by (with_reducible repeat (first | refine blk_drewN ?_ _ | refine blk_drew ?_ | refine blk_alloc ?_ _)); refine blk_far ?_ NB113_120.out _; (with_reducible repeat (first | refine blk_drewN ?_ _ | refine blk_drew ?_ | refine blk_alloc ?_ _)); refine blk_far ?_ NB113_120.out _; (with_reducible repeat (first | refine blk_drewN ?_ _ | refine blk_drew ?_ | refine blk_alloc ?_ _)); refine blk_far ?_ NB113_120.out _; (with_reducible repeat (first | refine blk_drewN ?_ _ | refine blk_drew ?_ | refine blk_alloc ?_ _)); exact BK113.out⟩
    have n1_ : Aside0 ((((w10.setCell ⟨gb120, 0, none⟩ (.int .i64 (wrap64 (t114)))).setCell ⟨gb120, 1, none⟩ (.int .i64 (wrap64 (t118)))).setCell ⟨gb120, 2, none⟩ (.int .i64 0)).heap[gb120]? = some (.cells #[.int .i64 (wrap64 (t114)), .int .i64 (wrap64 (t118)), .int .i64 0] 85 (0, 0))) := ⟨by (with_reducible repeat (first | refine blk_drewN ?_ _ | refine blk_drew ?_ | refine blk_alloc ?_ _)); refine blk_put (cs := #[.int .i64 (wrap64 (t114)), .int .i64 (wrap64 (t118)), .int .i64 0]) ?_ 2 _ rfl; (with_reducible repeat (first | refine blk_drewN ?_ _ | refine blk_drew ?_ | refine blk_alloc ?_ _)); refine blk_put (cs := #[.int .i64 (wrap64 (t114)), .int .i64 0, .int .i64 0]) ?_ 1 _ rfl; (with_reducible repeat (first | refine blk_drewN ?_ _ | refine blk_drew ?_ | refine blk_alloc ?_ _)); refine blk_put (cs := #[.int .i64 0, .int .i64 0, .int .i64 0]) ?_ 0 _ rfl; (with_reducible repeat (first | refine blk_drewN ?_ _ | refine blk_drew ?_ | refine blk_alloc ?_ _)); exact BK120.out⟩
    have n2_ : Aside0 (Below w.heap.size w (((w10.setCell ⟨gb120, 0, none⟩ (.int .i64 (wrap64 (t114)))).setCell ⟨gb120, 1, none⟩ (.int .i64 (wrap64 (t118)))).setCell ⟨gb120, 2, none⟩ (.int .i64 0))) := ⟨by repeat (first | (with_reducible first | exact HB.out | apply below_alloc | apply pw_below_drewN | apply below_drew1 | refine below_set ?_ GE113.out | refine below_set ?_ GE120.out) | exact HB.out)⟩
    (try clear BK113)
    (try clear BK120)
    (try clear HB)
    first | (rw [drewN_self (((w10.setCell ⟨gb120, 0, none⟩ (.int .i64 (wrap64 (t114)))).setCell ⟨gb120, 1, none⟩ (.int .i64 (wrap64 (t118)))).setCell ⟨gb120, 2, none⟩ (.int .i64 0))]; generalize hq_ : World.drewN (((w10.setCell ⟨gb120, 0, none⟩ (.int .i64 (wrap64 (t114)))).setCell ⟨gb120, 1, none⟩ (.int .i64 (wrap64 (t118)))).setCell ⟨gb120, 2, none⟩ (.int .i64 0)) _ = w15; have m0_ : Aside0 (w15.heap[gb113]? = some (.cells #[.int .i64 0, .int .i64 0, .int .i64 0] 85 (0, 0))) := ⟨by rw [← hq_]; first | exact Kd.R_drewN n0_.out _ | exact Kd.Q_drewN n0_.out _ | exact blk_drewN n0_.out _ | exact pw_below_drewN n0_.out _ | exact Kd.S_drewN n0_.out _ | exact n0_.out⟩; have m1_ : Aside0 (w15.heap[gb120]? = some (.cells #[.int .i64 (wrap64 (t114)), .int .i64 (wrap64 (t118)), .int .i64 0] 85 (0, 0))) := ⟨by rw [← hq_]; first | exact Kd.R_drewN n1_.out _ | exact Kd.Q_drewN n1_.out _ | exact blk_drewN n1_.out _ | exact pw_below_drewN n1_.out _ | exact Kd.S_drewN n1_.out _ | exact n1_.out⟩; have m2_ : Aside0 (Below w.heap.size w w15) := ⟨by rw [← hq_]; first | exact Kd.R_drewN n2_.out _ | exact Kd.Q_drewN n2_.out _ | exact blk_drewN n2_.out _ | exact pw_below_drewN n2_.out _ | exact Kd.S_drewN n2_.out _ | exact n2_.out⟩; clear hq_ n0_ n1_ n2_; have n0_ := m0_; have n1_ := m1_; have n2_ := m2_; clear m0_ m1_ m2_) | (generalize (((w10.setCell ⟨gb120, 0, none⟩ (.int .i64 (wrap64 (t114)))).setCell ⟨gb120, 1, none⟩ (.int .i64 (wrap64 (t118)))).setCell ⟨gb120, 2, none⟩ (.int .i64 0)) = w15 at n0_ n1_ n2_ ⊢)
    have BK113 := n0_
    have BK120 := n1_
    have HB := n2_
    clear n0_ n1_ n2_
    have n0_ := Aside0.mk (blk_drew BK113.out)
    have n1_ := Aside0.mk (blk_drew BK120.out)
    have n2_ := Aside0.mk (below_drew1 HB.out)
    clear BK113
    clear BK120
    clear HB
    have BK113 := n0_
    have BK120 := n1_
    have HB := n2_
    clear n0_ n1_ n2_
    refine start_ (n := 8) (S := fun w' => w'.cell? ⟨gb120, 0, none⟩ = some (.int .i64 (wrap64 (t114))) ∧ w'.cell? ⟨gb120, 1, none⟩ = some (.int .i64 (wrap64 (t118))) ∧ w'.cell? ⟨gb120, 2, none⟩ = some (.int .i64 0)) (ds := []) #[false,false,false,false,false,false,false,false] (by kernel_rfl) rfl rfl ⟨(blk_cell BK120.out 0).trans rfl, (blk_cell BK120.out 1).trans rfl, (blk_cell BK120.out 2).trans rfl⟩ (fun hHeld => ?_); refine with_tabW head_Get.tab7 head_Get.bits7 (fun HT_ HW_ => ?_)
    generalize w15.drew = w16 at BK113 BK120 HB hHeld ⊢
    refine pure_ (i := 0) (N := some 35) (v := ?_) (a' := ?_) #[true,false,false,false,false,false,false,false] rfl rfl (any_of HT_.out (by kernel_rfl)) (fun _ _ _ h => h) (Or.inl ⟨by rfl, ?_⟩) ?_ ?_
    rotate_left
    ·
     intro w'
     go_simp
     with_reducible rfl
    rotate_left
    ·
     simp only [Act.put, List.setIfInBounds_toArray, List.set_cons_zero, List.set_cons_succ, i64_w, i32_w]
     rfl
    refine pure_ (i := 1) (N := some 36) (v := ?_) (a' := ?_) #[true,true,false,false,false,false,false,false] rfl rfl (any_of HT_.out (by kernel_rfl)) (fun _ _ _ h => h) (Or.inl ⟨by rfl, ?_⟩) ?_ ?_
    rotate_left
    ·
     intro w'
     go_simp
     with_reducible rfl
    rotate_left
    ·
     simp only [Act.put, List.setIfInBounds_toArray, List.set_cons_zero, List.set_cons_succ, i64_w, i32_w]
     rfl
    refine pure_ (i := 2) (N := some 37) (v := ?_) (a' := ?_) #[true,true,true,false,false,false,false,false] rfl rfl (any_of HT_.out (by kernel_rfl)) (fun _ _ _ h => h) (Or.inl ⟨by rfl, ?_⟩) ?_ ?_
    rotate_left
    ·
     intro w'
     go_simp
     with_reducible rfl
    rotate_left
    ·
     simp only [Act.put, List.setIfInBounds_toArray, List.set_cons_zero, List.set_cons_succ, i64_w, i32_w]
     rfl
    refine take_ (i := 3) (N := some 38) (v := ?_) (a' := ?_) #[true,true,true,true,false,false,false,false] rfl rfl (take_ofW HT_.out HW_.out (by kernel_rfl)) (fun _ _ _ h => h) (Or.inl ⟨by rfl, ?_⟩) hHeld ?_ ?_
    rotate_left
    ·
     rintro w' ⟨s0, s1, s2⟩
     go_simp
     with_reducible rfl
    rotate_left
    ·
     simp only [Act.put, List.setIfInBounds_toArray, List.set_cons_zero, List.set_cons_succ, i64_w, i32_w]
     rfl
    refine take_ (i := 4) (N := some 39) (v := ?_) (a' := ?_) #[true,true,true,true,true,false,false,false] rfl rfl (take_ofW HT_.out HW_.out (by kernel_rfl)) (fun _ _ _ h => h) (Or.inl ⟨by rfl, ?_⟩) hHeld ?_ ?_
    rotate_left
    ·
     rintro w' ⟨s0, s1, s2⟩
     go_simp
     with_reducible rfl
    rotate_left
    ·
     simp only [Act.put, List.setIfInBounds_toArray, List.set_cons_zero, List.set_cons_succ, i64_w, i32_w]
     rfl
    refine one_ (i := 5) (N := some 40) #[true,true,true,true,true,true,false,false] rfl rfl (one_of HT_.out (by kernel_rfl)) (by decide) (fun K hK => ?_)
    refine goes_ Try.func65 (by kernel_rfl) rfl #[.agg #[.int .i64 (wrap64 (t114)), .int .i64 (wrap64 (t118)), .int .i64 0]] (by rfl) rfl rfl (by (try simp only [List.map_toArray, List.map_cons, List.map_nil]); first | done | rfl | (simp only [List.length_drop, List.length_take]; rfl)) ?_
    with_reducible refine (head_held.calls (wrap64 (t114)) (wrap64 (t118)) 0 t121 t122 t123 _ A14.out).mono ?_
    rintro e w17 ⟨rfl, hb⟩
    refine ⟨_, rfl, ?_⟩
    have n0_ := Aside0.mk (blk_below (g := gb113) (o := .cells #[.int .i64 0, .int .i64 0, .int .i64 0] 85 (0, 0)) (by (with_reducible repeat (first | refine blk_drewN ?_ _ | refine blk_drew ?_ | refine blk_alloc ?_ _)); exact BK113.out) hb)
    have n1_ := Aside0.mk (blk_below (g := gb120) (o := .cells #[.int .i64 (wrap64 (t114)), .int .i64 (wrap64 (t118)), .int .i64 0] 85 (0, 0)) (by (with_reducible repeat (first | refine blk_drewN ?_ _ | refine blk_drew ?_ | refine blk_alloc ?_ _)); exact BK120.out) hb)
    have n2_ := Aside0.mk (below_step (by repeat (first | (with_reducible first | exact HB.out | apply below_alloc | apply pw_below_drewN | apply below_drew1 | refine below_set ?_ GE113.out | refine below_set ?_ GE120.out) | exact HB.out)) hb)
    clear BK113
    clear BK120
    clear HB
    have BK113 := n0_
    have BK120 := n1_
    have HB := n2_
    clear n0_ n1_ n2_
    (try clear hb)
    (try clear hb2)
    (try clear hk)
    (try clear hi)
    refine hK.out _ _ ⟨(blk_cell BK120.out 0).trans rfl, (blk_cell BK120.out 1).trans rfl, (blk_cell BK120.out 2).trans rfl⟩ (fun hHeld => ?_)
    clear hK K
    refine norm_ (a' := ?_) ?_ ?_
    rotate_left
    ·
     show Act.put _ (some 40) _ = _
     simp only [Act.put, List.setIfInBounds_toArray, List.set_cons_zero, List.set_cons_succ, i64_w, i32_w]
     rfl
    refine pure_ (i := 6) (N := some 41) (v := ?_) (a' := ?_) #[true,true,true,true,true,true,true,false] rfl rfl (any_of HT_.out (by kernel_rfl)) (fun _ _ _ h => h) (Or.inl ⟨by rfl, ?_⟩) ?_ ?_
    rotate_left
    ·
     intro w'
     go_simp
     with_reducible rfl
    rotate_left
    ·
     simp only [Act.put, List.setIfInBounds_toArray, List.set_cons_zero, List.set_cons_succ, i64_w, i32_w]
     rfl
    refine pure_ (i := 7) (N := some 42) (v := ?_) (a' := ?_) #[true,true,true,true,true,true,true,true] rfl rfl (any_of HT_.out (by kernel_rfl)) (fun _ _ _ h => h) (Or.inl ⟨by rfl, ?_⟩) ?_ ?_
    rotate_left
    ·
     intro w'
     go_simp
     with_reducible rfl
    rotate_left
    ·
     simp only [Act.put, List.setIfInBounds_toArray, List.set_cons_zero, List.set_cons_succ, i64_w, i32_w]
     rfl
    refine done_ (done_of HT_.out (by kernel_rfl)) ?_
    try go_wp2
    go_meet
    case rel => exact ⟨_, ((!((wrap64 (t114)) == t121) || (!((wrap64 (t118)) == t122) || (!(0 == t123))))), (by first | rfl | (simp; done) | (simp [*]; done)), H', ⟨by first | omega | exact Nat.le_refl _⟩, ⟨by (with_reducible repeat (first | refine blk_drewN ?_ _ | refine blk_drew ?_ | refine blk_alloc ?_ _)); exact BK113.out⟩, ⟨by (with_reducible repeat (first | refine blk_drewN ?_ _ | refine blk_drew ?_ | refine blk_alloc ?_ _)); exact BK120.out⟩, ⟨by repeat (first | (with_reducible first | exact HB.out | apply below_alloc | apply pw_below_drewN | apply below_drew1 | refine below_set ?_ GE113.out | refine below_set ?_ GE120.out) | exact HB.out)⟩⟩
   ·
    rw [if_neg c13] at H
    have c13b0 : (t116 == 0) = false := beq_eq_false_iff_ne.mpr c13
    have c13b1 : (t116 != 0) = true := bne_iff_ne.mpr c13
    (first | rw [c13b0] | (simp only [i64_w, i32_w]; rw [c13b0]) | skip)
    have H' := Aside0.mk H
    clear H
    try go_wp2
    have n0_ : Aside0 ((((w10.setCell ⟨gb120, 0, none⟩ (.int .i64 (wrap64 (t114)))).setCell ⟨gb120, 1, none⟩ (.int .i64 (wrap64 (t118)))).setCell ⟨gb120, 2, none⟩ (.int .i64 0)).heap[gb113]? = some (.cells #[.int .i64 0, .int .i64 0, .int .i64 0] 85 (0, 0))) := ⟨by (with_reducible repeat (first | refine blk_drewN ?_ _ | refine blk_drew ?_ | refine blk_alloc ?_ _)); refine blk_far ?_ NB113_120.out _; (with_reducible repeat (first | refine blk_drewN ?_ _ | refine blk_drew ?_ | refine blk_alloc ?_ _)); refine blk_far ?_ NB113_120.out _; (with_reducible repeat (first | refine blk_drewN ?_ _ | refine blk_drew ?_ | refine blk_alloc ?_ _)); refine blk_far ?_ NB113_120.out _; (with_reducible repeat (first | refine blk_drewN ?_ _ | refine blk_drew ?_ | refine blk_alloc ?_ _)); exact BK113.out⟩
    have n1_ : Aside0 ((((w10.setCell ⟨gb120, 0, none⟩ (.int .i64 (wrap64 (t114)))).setCell ⟨gb120, 1, none⟩ (.int .i64 (wrap64 (t118)))).setCell ⟨gb120, 2, none⟩ (.int .i64 0)).heap[gb120]? = some (.cells #[.int .i64 (wrap64 (t114)), .int .i64 (wrap64 (t118)), .int .i64 0] 85 (0, 0))) := ⟨by (with_reducible repeat (first | refine blk_drewN ?_ _ | refine blk_drew ?_ | refine blk_alloc ?_ _)); refine blk_put (cs := #[.int .i64 (wrap64 (t114)), .int .i64 (wrap64 (t118)), .int .i64 0]) ?_ 2 _ rfl; (with_reducible repeat (first | refine blk_drewN ?_ _ | refine blk_drew ?_ | refine blk_alloc ?_ _)); refine blk_put (cs := #[.int .i64 (wrap64 (t114)), .int .i64 0, .int .i64 0]) ?_ 1 _ rfl; (with_reducible repeat (first | refine blk_drewN ?_ _ | refine blk_drew ?_ | refine blk_alloc ?_ _)); refine blk_put (cs := #[.int .i64 0, .int .i64 0, .int .i64 0]) ?_ 0 _ rfl; (with_reducible repeat (first | refine blk_drewN ?_ _ | refine blk_drew ?_ | refine blk_alloc ?_ _)); exact BK120.out⟩
    have n2_ : Aside0 (Below w.heap.size w (((w10.setCell ⟨gb120, 0, none⟩ (.int .i64 (wrap64 (t114)))).setCell ⟨gb120, 1, none⟩ (.int .i64 (wrap64 (t118)))).setCell ⟨gb120, 2, none⟩ (.int .i64 0))) := ⟨by repeat (first | (with_reducible first | exact HB.out | apply below_alloc | apply pw_below_drewN | apply below_drew1 | refine below_set ?_ GE113.out | refine below_set ?_ GE120.out) | exact HB.out)⟩
    (try clear BK113)
    (try clear BK120)
    (try clear HB)
    first | (rw [drewN_self (((w10.setCell ⟨gb120, 0, none⟩ (.int .i64 (wrap64 (t114)))).setCell ⟨gb120, 1, none⟩ (.int .i64 (wrap64 (t118)))).setCell ⟨gb120, 2, none⟩ (.int .i64 0))]; generalize hq_ : World.drewN (((w10.setCell ⟨gb120, 0, none⟩ (.int .i64 (wrap64 (t114)))).setCell ⟨gb120, 1, none⟩ (.int .i64 (wrap64 (t118)))).setCell ⟨gb120, 2, none⟩ (.int .i64 0)) _ = w18; have m0_ : Aside0 (w18.heap[gb113]? = some (.cells #[.int .i64 0, .int .i64 0, .int .i64 0] 85 (0, 0))) := ⟨by rw [← hq_]; first | exact Kd.R_drewN n0_.out _ | exact Kd.Q_drewN n0_.out _ | exact blk_drewN n0_.out _ | exact pw_below_drewN n0_.out _ | exact Kd.S_drewN n0_.out _ | exact n0_.out⟩; have m1_ : Aside0 (w18.heap[gb120]? = some (.cells #[.int .i64 (wrap64 (t114)), .int .i64 (wrap64 (t118)), .int .i64 0] 85 (0, 0))) := ⟨by rw [← hq_]; first | exact Kd.R_drewN n1_.out _ | exact Kd.Q_drewN n1_.out _ | exact blk_drewN n1_.out _ | exact pw_below_drewN n1_.out _ | exact Kd.S_drewN n1_.out _ | exact n1_.out⟩; have m2_ : Aside0 (Below w.heap.size w w18) := ⟨by rw [← hq_]; first | exact Kd.R_drewN n2_.out _ | exact Kd.Q_drewN n2_.out _ | exact blk_drewN n2_.out _ | exact pw_below_drewN n2_.out _ | exact Kd.S_drewN n2_.out _ | exact n2_.out⟩; clear hq_ n0_ n1_ n2_; have n0_ := m0_; have n1_ := m1_; have n2_ := m2_; clear m0_ m1_ m2_) | (generalize (((w10.setCell ⟨gb120, 0, none⟩ (.int .i64 (wrap64 (t114)))).setCell ⟨gb120, 1, none⟩ (.int .i64 (wrap64 (t118)))).setCell ⟨gb120, 2, none⟩ (.int .i64 0)) = w18 at n0_ n1_ n2_ ⊢)
    have BK113 := n0_
    have BK120 := n1_
    have HB := n2_
    clear n0_ n1_ n2_
    have n0_ := Aside0.mk (blk_drew BK113.out)
    have n1_ := Aside0.mk (blk_drew BK120.out)
    have n2_ := Aside0.mk (below_drew1 HB.out)
    clear BK113
    clear BK120
    clear HB
    have BK113 := n0_
    have BK120 := n1_
    have HB := n2_
    clear n0_ n1_ n2_
    refine start_ (n := 8) (S := fun w' => True) (ds := []) #[false,false,false,false,false,false,false,false] (by kernel_rfl) rfl rfl trivial (fun hHeld => ?_); refine with_tabW head_Get.tab7 head_Get.bits7 (fun HT_ HW_ => ?_)
    generalize w18.drew = w19 at BK113 BK120 HB hHeld ⊢
    refine pure_ (i := 0) (N := some 35) (v := ?_) (a' := ?_) #[true,false,false,false,false,false,false,false] rfl rfl (any_of HT_.out (by kernel_rfl)) (fun _ _ _ h => h) (Or.inl ⟨by rfl, ?_⟩) ?_ ?_
    rotate_left
    ·
     intro w'
     go_simp
     with_reducible rfl
    rotate_left
    ·
     simp only [Act.put, List.setIfInBounds_toArray, List.set_cons_zero, List.set_cons_succ, i64_w, i32_w]
     rfl
    refine pure_ (i := 1) (N := some 36) (v := ?_) (a' := ?_) #[true,true,false,false,false,false,false,false] rfl rfl (any_of HT_.out (by kernel_rfl)) (fun _ _ _ h => h) (Or.inl ⟨by rfl, ?_⟩) ?_ ?_
    rotate_left
    ·
     intro w'
     go_simp
     with_reducible rfl
    rotate_left
    ·
     simp only [Act.put, List.setIfInBounds_toArray, List.set_cons_zero, List.set_cons_succ, i64_w, i32_w]
     rfl
    refine pure_ (i := 2) (N := some 37) (v := ?_) (a' := ?_) #[true,true,true,false,false,false,false,false] rfl rfl (any_of HT_.out (by kernel_rfl)) (fun _ _ _ h => h) (Or.inl ⟨by rfl, ?_⟩) ?_ ?_
    rotate_left
    ·
     intro w'
     go_simp
     with_reducible rfl
    rotate_left
    ·
     simp only [Act.put, List.setIfInBounds_toArray, List.set_cons_zero, List.set_cons_succ, i64_w, i32_w]
     rfl
    refine pure_ (i := 3) (N := some 38) (v := undef) (a' := ?_) #[true,true,true,true,false,false,false,false] rfl rfl (any_of HT_.out (by kernel_rfl)) (fun _ _ _ h => h) (Or.inr ⟨by rfl, rfl⟩) ?_ ?_
    rotate_left
    ·
     simp only [Act.put, List.setIfInBounds_toArray, List.set_cons_zero, List.set_cons_succ, i64_w, i32_w]
     rfl
    refine pure_ (i := 4) (N := some 39) (v := undef) (a' := ?_) #[true,true,true,true,true,false,false,false] rfl rfl (any_of HT_.out (by kernel_rfl)) (fun _ _ _ h => h) (Or.inr ⟨by rfl, rfl⟩) ?_ ?_
    rotate_left
    ·
     simp only [Act.put, List.setIfInBounds_toArray, List.set_cons_zero, List.set_cons_succ, i64_w, i32_w]
     rfl
    refine pure_ (i := 5) (N := some 40) (v := undef) (a' := ?_) #[true,true,true,true,true,true,false,false] rfl rfl (any_of HT_.out (by kernel_rfl)) (fun _ _ _ h => h) (Or.inr ⟨by rfl, rfl⟩) ?_ ?_
    rotate_left
    ·
     simp only [Act.put, List.setIfInBounds_toArray, List.set_cons_zero, List.set_cons_succ, i64_w, i32_w]
     rfl
    refine pure_ (i := 6) (N := some 41) (v := undef) (a' := ?_) #[true,true,true,true,true,true,true,false] rfl rfl (any_of HT_.out (by kernel_rfl)) (fun _ _ _ h => h) (Or.inr ⟨by rfl, rfl⟩) ?_ ?_
    rotate_left
    ·
     simp only [Act.put, List.setIfInBounds_toArray, List.set_cons_zero, List.set_cons_succ, i64_w, i32_w]
     rfl
    refine pure_ (i := 7) (N := some 42) (v := ?_) (a' := ?_) #[true,true,true,true,true,true,true,true] rfl rfl (any_of HT_.out (by kernel_rfl)) (fun _ _ _ h => h) (Or.inl ⟨by rfl, ?_⟩) ?_ ?_
    rotate_left
    ·
     intro w'
     go_simp
     with_reducible rfl
    rotate_left
    ·
     simp only [Act.put, List.setIfInBounds_toArray, List.set_cons_zero, List.set_cons_succ, i64_w, i32_w]
     rfl
    refine done_ (done_of HT_.out (by kernel_rfl)) ?_
    try go_wp2
    go_meet
    case rel => exact ⟨_, (true), (by first | rfl | (simp; done) | (simp [*]; done)), H', ⟨by first | omega | exact Nat.le_refl _⟩, ⟨by (with_reducible repeat (first | refine blk_drewN ?_ _ | refine blk_drew ?_ | refine blk_alloc ?_ _)); exact BK113.out⟩, ⟨by (with_reducible repeat (first | refine blk_drewN ?_ _ | refine blk_drew ?_ | refine blk_alloc ?_ _)); exact BK120.out⟩, ⟨by repeat (first | (with_reducible first | exact HB.out | apply below_alloc | apply pw_below_drewN | apply below_drew1 | refine below_set ?_ GE113.out | refine below_set ?_ GE120.out) | exact HB.out)⟩⟩
  case rest =>
   clear HC8
   try clear c1
   try clear c2
   try clear c2b0
   try clear c2b1
   try clear p2
   try clear c5
   try clear c6
   try clear p6
   try clear c11
   try clear c13
   try clear c13b0
   try clear c13b1
   try clear hcz12_0
   try clear hcz12_1
   try clear hcz12_2
   try clear hcz4_0
   try clear hcz4_1
   try clear hcz4_2
   try clear hfz12_0
   try clear hfz12_1
   try clear hfz12_2
   try clear hfz4_0
   try clear hfz4_1
   try clear hfz4_2
   obtain ⟨kq, x42_7, rfl, HA, HJ7, BK113, BK120, HB⟩ := hcut
   cases kq with
   | zero => exact absurd HA.out (by simp [head_Get.j0])
   | succ kj7 =>
    have H := HA.out
    clear HA
    simp only [head_Get.j0] at H
    by_cases c20 : x42_7 = true
    ·
     subst c20
     have H1 : (some (0, 0, 0, 2)) = some (r1, r2, r3, r4) := by rw [if_pos rfl] at H; exact H
     clear H
     have H := H1
     clear H1
     simp only [Option.some.injEq, Prod.mk.injEq] at H
     obtain ⟨rfl, rfl, rfl, rfl⟩ := H
     have hnb21 := NB113_120.out
     have hnc21 := NB120_113.out
     have hcz22_0 : wc.cell? ⟨gb113, 0, none⟩ = some (.int .i64 0) := (blk_cell BK113.out 0).trans rfl
     have hcz22_1 : wc.cell? ⟨gb113, 1, none⟩ = some (.int .i64 0) := (blk_cell BK113.out 1).trans rfl
     have hcz22_2 : wc.cell? ⟨gb113, 2, none⟩ = some (.int .i64 0) := (blk_cell BK113.out 2).trans rfl
     have hfz22_0 := blk_frozen BK113.out 0
     have hfz22_1 := blk_frozen BK113.out 1
     have hfz22_2 := blk_frozen BK113.out 2
     go_wp2
     refine bodyPost_ret (results_ct rfl _ _ gb113 85 #[.int .i64 0, .int .i64 0, .int .i64 0] (0, 0) _ rfl (by (with_reducible repeat (first | refine blk_drewN ?_ _ | refine blk_drew ?_ | refine blk_alloc ?_ _)); refine blk_put (cs := #[.int .i64 0, .int .i64 0, .int .i64 0]) ?_ 2 _ rfl; (with_reducible repeat (first | refine blk_drewN ?_ _ | refine blk_drew ?_ | refine blk_alloc ?_ _)); refine blk_put (cs := #[.int .i64 0, .int .i64 0, .int .i64 0]) ?_ 1 _ rfl; (with_reducible repeat (first | refine blk_drewN ?_ _ | refine blk_drew ?_ | refine blk_alloc ?_ _)); refine blk_put (cs := #[.int .i64 0, .int .i64 0, .int .i64 0]) ?_ 0 _ rfl; (with_reducible repeat (first | refine blk_drewN ?_ _ | refine blk_drew ?_ | refine blk_alloc ?_ _)); exact BK113.out) Try.underlying85 rfl (by kernel_rfl)) rfl ?_
     exact ⟨by first | rfl | (simp [errW_none, errW_some] <;> rfl) | (simp [*, errW_none, errW_some] <;> rfl), by repeat (first | (with_reducible first | exact HB.out | apply below_alloc | apply pw_below_drewN | apply below_drew1 | refine below_set ?_ GE113.out | refine below_set ?_ GE120.out) | exact HB.out)⟩
    ·
     replace c20 := Bool.eq_false_iff.mpr c20
     subst c20
     have H1 : (if (l0.length : Int) < 7 then (some (0, 0, 0, 3)) else (if 6 < (l0.length : Int) then (some ((wrap64 (t114)), (wrap64 (t118)), wrap64 (rd l0 6), 0)) else (none))) = some (r1, r2, r3, r4) := by rw [if_neg (show ¬ (false = true) by decide)] at H; exact H
     clear H
     have H := H1
     clear H1
     by_cases c23 : (l0.length : Int) < 7
     ·
      rw [if_pos c23] at H
      have c23b0 : decide ((l0.length : Int) < 7) = true := decide_eq_true c23
      have c23b1 : decide (l0.length < 7) = true := decide_eq_true (by omega)
      clear c23
      simp only [Option.some.injEq, Prod.mk.injEq] at H
      obtain ⟨rfl, rfl, rfl, rfl⟩ := H
      have hnb24 := NB113_120.out
      have hnc24 := NB120_113.out
      have hcz25_0 : wc.cell? ⟨gb113, 0, none⟩ = some (.int .i64 0) := (blk_cell BK113.out 0).trans rfl
      have hcz25_1 : wc.cell? ⟨gb113, 1, none⟩ = some (.int .i64 0) := (blk_cell BK113.out 1).trans rfl
      have hcz25_2 : wc.cell? ⟨gb113, 2, none⟩ = some (.int .i64 0) := (blk_cell BK113.out 2).trans rfl
      have hfz25_0 := blk_frozen BK113.out 0
      have hfz25_1 := blk_frozen BK113.out 1
      have hfz25_2 := blk_frozen BK113.out 2
      go_wp2
      refine bodyPost_ret (results_ct rfl _ _ gb113 85 #[.int .i64 0, .int .i64 0, .int .i64 0] (0, 0) _ rfl (by (with_reducible repeat (first | refine blk_drewN ?_ _ | refine blk_drew ?_ | refine blk_alloc ?_ _)); refine blk_put (cs := #[.int .i64 0, .int .i64 0, .int .i64 0]) ?_ 2 _ rfl; (with_reducible repeat (first | refine blk_drewN ?_ _ | refine blk_drew ?_ | refine blk_alloc ?_ _)); refine blk_put (cs := #[.int .i64 0, .int .i64 0, .int .i64 0]) ?_ 1 _ rfl; (with_reducible repeat (first | refine blk_drewN ?_ _ | refine blk_drew ?_ | refine blk_alloc ?_ _)); refine blk_put (cs := #[.int .i64 0, .int .i64 0, .int .i64 0]) ?_ 0 _ rfl; (with_reducible repeat (first | refine blk_drewN ?_ _ | refine blk_drew ?_ | refine blk_alloc ?_ _)); exact BK113.out) Try.underlying85 rfl (by kernel_rfl)) rfl ?_
      exact ⟨by first | rfl | (simp [errW_none, errW_some] <;> rfl) | (simp [*, errW_none, errW_some] <;> rfl), by repeat (first | (with_reducible first | exact HB.out | apply below_alloc | apply pw_below_drewN | apply below_drew1 | refine below_set ?_ GE113.out | refine below_set ?_ GE120.out) | exact HB.out)⟩
     ·
      rw [if_neg c23] at H
      have c23b0 : decide ((l0.length : Int) < 7) = false := decide_eq_false c23
      have c23b1 : decide (l0.length < 7) = false := decide_eq_false (by omega)
      clear c23
      by_cases c26 : 6 < (l0.length : Int)
      ·
       rw [if_pos c26] at H
       have c26b0 : decide (6 < (l0.length : Int)) = true := decide_eq_true c26
       have c26b1 : decide (6 < l0.length) = true := decide_eq_true (by omega)
       clear c26
       simp only [Option.some.injEq, Prod.mk.injEq] at H
       obtain ⟨rfl, rfl, rfl, rfl⟩ := H
       have p124 : 0 ≤ (6 : Int) := (by omega)
       have q124 : 6 < (l0.length : Int) := of_decide_eq_true (by first | (with_reducible assumption) | assumption)
       obtain ⟨ad124, e124, hx124_0⟩ := Kd.at_int HR0.out 6 p124 q124
       cases e124
       (try simp only [show (6 : Int).toNat = 6 from rfl, Nat.reduceMul, Nat.reduceEqDiff, Go.Addr.add, ↓reduceIte] at hx124_0)
       have qi124 : (6 < l0.length) = True := eq_true (by omega)
       (try rw [show ((6 : Int)).toNat = 6 from rfl] at hx124_0)
       replace hx124_0 := (HB.out.cell (World.block_lt_of_cell? w _ hx124_0)).trans hx124_0
       replace p124 := eq_true p124
       replace q124 := eq_true q124
       have hnb27 := NB120_113.out
       have hnc27 := NB113_120.out
       have hcz28_0 : wc.cell? ⟨gb120, 0, none⟩ = some (.int .i64 (wrap64 (t114))) := (blk_cell BK120.out 0).trans rfl
       have hcz28_1 : wc.cell? ⟨gb120, 1, none⟩ = some (.int .i64 (wrap64 (t118))) := (blk_cell BK120.out 1).trans rfl
       have hcz28_2 : wc.cell? ⟨gb120, 2, none⟩ = some (.int .i64 0) := (blk_cell BK120.out 2).trans rfl
       have hfz28_0 := blk_frozen BK120.out 0
       have hfz28_1 := blk_frozen BK120.out 1
       have hfz28_2 := blk_frozen BK120.out 2
       have hcz29_0 : wc.cell? ⟨gb113, 0, none⟩ = some (.int .i64 0) := (blk_cell BK113.out 0).trans rfl
       have hcz29_1 : wc.cell? ⟨gb113, 1, none⟩ = some (.int .i64 0) := (blk_cell BK113.out 1).trans rfl
       have hcz29_2 : wc.cell? ⟨gb113, 2, none⟩ = some (.int .i64 0) := (blk_cell BK113.out 2).trans rfl
       have hfz29_0 := blk_frozen BK113.out 0
       have hfz29_1 := blk_frozen BK113.out 1
       have hfz29_2 := blk_frozen BK113.out 2
       go_wp2
       refine bodyPost_ret (results_ct rfl _ _ gb113 85 #[.int .i64 (wrap64 (t114)), .int .i64 (wrap64 (t118)), .int .i64 (wrap64 (rd l0 6))] (0, 0) _ rfl (by (with_reducible repeat (first | refine blk_drewN ?_ _ | refine blk_drew ?_ | refine blk_alloc ?_ _)); refine blk_put (cs := #[.int .i64 (wrap64 (t114)), .int .i64 (wrap64 (t118)), .int .i64 0]) ?_ 2 _ rfl; (with_reducible repeat (first | refine blk_drewN ?_ _ | refine blk_drew ?_ | refine blk_alloc ?_ _)); refine blk_put (cs := #[.int .i64 (wrap64 (t114)), .int .i64 0, .int .i64 0]) ?_ 1 _ rfl; (with_reducible repeat (first | refine blk_drewN ?_ _ | refine blk_drew ?_ | refine blk_alloc ?_ _)); refine blk_put (cs := #[.int .i64 0, .int .i64 0, .int .i64 0]) ?_ 0 _ rfl; (with_reducible repeat (first | refine blk_drewN ?_ _ | refine blk_drew ?_ | refine blk_alloc ?_ _)); refine blk_far ?_ NB113_120.out _; (with_reducible repeat (first | refine blk_drewN ?_ _ | refine blk_drew ?_ | refine blk_alloc ?_ _)); exact BK113.out) Try.underlying85 rfl (by kernel_rfl)) rfl ?_
       exact ⟨by first | rfl | (simp [errW_none, errW_some] <;> rfl) | (simp [*, errW_none, errW_some] <;> rfl), by repeat (first | (with_reducible first | exact HB.out | apply below_alloc | apply pw_below_drewN | apply below_drew1 | refine below_set ?_ GE113.out | refine below_set ?_ GE120.out) | exact HB.out)⟩
      ·
       rw [if_neg c26] at H
       exact absurd H (by simp)
end Go.Proofs.Ytakiojmjalbfpaa.PFlow
namespace Go.Proofs.Ytakiojmjalbfpaa.PFlow
open Go.RowKit Go.Proofs.YtakiojmjalbfpaaW.PrintWords Go.Proofs.YtakiojmjalbfpaaW.PrintLast Go.Proofs.YtakiojmjalbfpaaW.PrintMore
attribute [local go_sem] max2_int min2_int max_two min_two max_three min_three max_four min_four plus_setCell_drewN plus_cell_same   -- for this text's walks alone
set_option linter.unusedVariables false
set_option linter.unusedSimpArgs false
def adu_Cut.f (k : Nat) (l0 : List Int) : Option (Int × Int × List Int × Int × Int) := (head_Get.f k l0).bind fun bt126 => (if bt126.2.2.2 = 0 then (if (l0.length : Int) < (wrap64 (6 + bt126.2.1)) then (some (0, 0, ([] : List Int), 0, 3)) else (if 7 ≤ (wrap64 (6 + bt126.2.1)) then (if (wrap64 (6 + bt126.2.1)) ≤ (l0.length : Int) then ((slices_Clone_byte_byte.f ((l0.take ((wrap64 (6 + bt126.2.1)) : Int).toNat).drop 7)).bind fun t132 => (some (bt126.1, bt126.2.2.1, t132, wrap64 (6 + bt126.2.1), 0))) else (none)) else (none))) else (some (0, 0, ([] : List Int), 0, bt126.2.2.2)))
theorem adu_Cut.mono : ∀ a0 k, LeO (adu_Cut.f k a0) (adu_Cut.f (k + 1) a0) := by
 intro a0 k
 unfold adu_Cut.f
 repeat' first
   | (with_reducible exact head_Get.mono _ _)
   | (with_reducible exact LeO.refl _)
   | (with_reducible exact LeO.none _)
   | (with_reducible refine LeO.ite ?_ ?_)
   | (with_reducible refine LeO.bind ?_ (fun _ => ?_))
   | exact head_Get.mono _ _
   | exact LeO.none _
   | refine LeO.ite ?_ ?_
   | refine LeO.bind ?_ (fun _ => ?_)
def adu_Cut.T7 : Bool × List (List Nat × List Nat) := (true, [([], []), ([0], [0]), ([], []), ([2], [2]), ([], []), ([], []), ([4, 5], [4, 5]), ([6], [6]), ([1, 3, 7], [1, 3, 7]), ([], []), ([8, 7, 0, 1, 2, 3, 4, 5, 6, 7, 8], [8]), ([9, 10, 0, 1, 2, 3, 4, 5, 6, 7, 8, 9, 10], [9]), ([11, 0, 1, 2, 3, 4, 5, 6, 7, 8, 9, 10, 11], [])])
def adu_Cut.B7 : List Nat := [0, 1, 0, 4, 0, 0, 48, 112, 255, 0, 511, 2047, 4095]
theorem adu_Cut.tab7 : rtab .any (opsOf Try.f31 7) = adu_Cut.T7 := by kernel_rfl
theorem adu_Cut.bits7 : waitsOk adu_Cut.T7.2 adu_Cut.B7 = true := by kernel_rfl
set_option maxHeartbeats 8000000 in
set_option maxRecDepth 100000 in
theorem adu_Cut.calls (k : Nat) (A0 : Option Addr) (c0 : Nat) (l0 : List Int) (r1 : Int) (r2 : Int) (r3 : List Int) (r4 : Int) (r5 : Int) (w : World) (hr0 : Kd.C (Kd.int .u8) w A0 l0.length l0) (hc0 : l0.length ≤ c0) (h : adu_Cut.f k l0 = some (r1, r2, r3, r4, r5)) :
  Calls Try.prog 31 #[.slice A0 l0.length c0] w fun e w' => ∃ v2_ : Value, e = .returned (.tuple #[.agg #[.int .i64 r1, .int .i64 r2, v2_], .int .i64 r4, .int .i64 r5]) ∧ Kd.R (Kd.int .u8) 5 w' w.heap.size (fun _ => True) v2_ r3 ∧ Below w.heap.size w w' := by
 have hu53 := Try.underlying53
 have hu85 := Try.underlying85
 have HR0 := Aside0.mk hr0
 have HC0 := Aside0.mk hc0
 clear hr0 hc0
 have HB := Aside0.mk (Below.refl w.heap.size w)
 have H : ((head_Get.f k l0).bind fun bt126 => (if bt126.2.2.2 = 0 then (if (l0.length : Int) < (wrap64 (6 + bt126.2.1)) then (some (0, 0, ([] : List Int), 0, 3)) else (if 7 ≤ (wrap64 (6 + bt126.2.1)) then (if (wrap64 (6 + bt126.2.1)) ≤ (l0.length : Int) then ((slices_Clone_byte_byte.f ((l0.take ((wrap64 (6 + bt126.2.1)) : Int).toNat).drop 7)).bind fun t132 => (some (bt126.1, bt126.2.2.1, t132, wrap64 (6 + bt126.2.1), 0))) else (none)) else (none))) else (some (0, 0, ([] : List Int), 0, bt126.2.2.2)))) = some (r1, r2, r3, r4, r5) := h
 clear h
 replace H := Option.bind_eq_some_iff.mp H
 obtain ⟨⟨t126, t127, t128, t129⟩, A20, H⟩ := H
 replace H : (if t129 = 0 then (if (l0.length : Int) < (wrap64 (6 + t127)) then (some (0, 0, ([] : List Int), 0, 3)) else (if 7 ≤ (wrap64 (6 + t127)) then (if (wrap64 (6 + t127)) ≤ (l0.length : Int) then ((slices_Clone_byte_byte.f ((l0.take ((wrap64 (6 + t127)) : Int).toNat).drop 7)).bind fun t132 => (some (t126, t128, t132, wrap64 (6 + t127), 0))) else (none)) else (none))) else (some (0, 0, ([] : List Int), 0, t129))) = some (r1, r2, r3, r4, r5) := H
 have A2 := Aside0.mk A20
 clear A20
 by_cases c3 : t129 = 0
 ·
  rw [if_pos c3] at H
  have c3b0 : (t129 == 0) = true := beq_iff_eq.mpr c3
  have c3b1 : (t129 != 0) = false := bne_eq_false_iff_eq.mpr c3
  clear c3
  by_cases c4 : (l0.length : Int) < (wrap64 (6 + t127))
  ·
   rw [if_pos c4] at H
   have c4b0 : decide ((l0.length : Int) < (wrap64 (6 + t127))) = true := decide_eq_true c4
   clear c4
   simp only [Option.some.injEq, Prod.mk.injEq] at H
   obtain ⟨rfl, rfl, rfl, rfl, rfl⟩ := H
   go_enter Try.func31, Try.ntmps31
   go_wp2_with (first | ((with_reducible refine gate_dst (N := 2) rfl ?_); refine box_event ?hg (N := 2) ?hd (cs := #[.int .i64 0, .int .i64 0, .slice none 0 0]) (t := 53) ?hr ?_; (case hd => rfl); (case hg => rfl); (case hr => first | (go_simp; done) | (go_simp; rfl)); intro gb125 hg w5 hbox hb; have n0_ := Aside0.mk (below_step (by repeat (first | (with_reducible first | exact HB.out | apply below_alloc | apply pw_below_drewN | apply below_drew1) | exact HB.out)) hb); have n1_ := Aside0.mk (hbox); have n2_ := Aside0.mk ((by rw [hg]; exact (below_size (by repeat (first | (with_reducible first | exact HB.out | apply below_alloc | apply pw_below_drewN | apply below_drew1) | exact HB.out))) : w.heap.size ≤ gb125)); have n3_ := Aside0.mk ((by rw [hg]; exact (below_size (by repeat (first | (with_reducible first | exact HB.out | apply below_alloc | apply pw_below_drewN | apply below_drew1) | exact HB.out))) : w.heap.size ≤ gb125)); clear HB; have HB := n0_; have BK125 := n1_; have GW125 := n2_; have GE125 := n3_; clear n0_ n1_ n2_ n3_; clear hb hbox hg) | ((with_reducible refine gate_callee (f := 52) rfl ?_); refine goesL_ (some 10) rfl rfl Try.func52 (by kernel_rfl) rfl #[.slice A0 l0.length c0] rfl (by (try simp only [List.map_toArray, List.map_cons, List.map_nil]); first | done | rfl | (simp only [List.length_drop, List.length_take]; rfl)) ?_; (with_reducible refine (head_Get.calls k _ _ l0 t126 t127 t128 t129 _ ?side1 ?side2 A2.out).mono ?_); (case side1 => repeat (first | exact (Kd.C_below HR0.out HB.out) | (with_reducible refine Kd.C_alloc ?_ _) | (with_reducible refine Kd.C_drewN ?_ _) | (with_reducible refine Kd.C_drew ?_))); (case side2 => exact HC0.out); rintro e w6 ⟨rfl, hb⟩; refine ⟨_, rfl, ?_⟩; have n0_ := Aside0.mk (blk_below (g := gb125) (o := .cells #[.int .i64 0, .int .i64 0, .slice none 0 0] 53 (0, 0)) (by (with_reducible repeat (first | refine blk_drewN ?_ _ | refine blk_drew ?_ | refine blk_alloc ?_ _)); exact BK125.out) hb); have n1_ := Aside0.mk (below_step (by repeat (first | (with_reducible first | exact HB.out | apply below_alloc | apply pw_below_drewN | apply below_drew1 | refine below_set ?_ GE125.out) | exact HB.out)) hb); clear BK125; clear HB; have BK125 := n0_; have HB := n1_; clear n0_ n1_; (try clear hb); (try clear hb2); (try clear hk); (try clear hi)) | ((with_reducible refine gate_dst (N := 5) rfl ?_); refine box_event ?hg (N := 5) ?hd (cs := #[.int .i64 0, .int .i64 0, .int .i64 0]) (t := 85) ?hr ?_; (case hd => rfl); (case hg => rfl); (case hr => first | (go_simp; done) | (go_simp; rfl)); intro gb130 hg w7 hbox hb; have n0_ := Aside0.mk (blk_below (g := gb125) (o := .cells #[.int .i64 0, .int .i64 0, .slice none 0 0] 53 (0, 0)) (by (with_reducible repeat (first | refine blk_drewN ?_ _ | refine blk_drew ?_ | refine blk_alloc ?_ _)); exact BK125.out) hb); have n1_ := Aside0.mk (below_step (by repeat (first | (with_reducible first | exact HB.out | apply below_alloc | apply pw_below_drewN | apply below_drew1 | refine below_set ?_ GE125.out) | exact HB.out)) hb); have n2_ := Aside0.mk (hbox); have n3_ := Aside0.mk ((by rw [hg]; exact (below_size (by repeat (first | (with_reducible first | exact HB.out | apply below_alloc | apply pw_below_drewN | apply below_drew1 | refine below_set ?_ GE125.out) | exact HB.out))) : w.heap.size ≤ gb130)); have n4_ := Aside0.mk ((by rw [hg]; exact (below_size (by repeat (first | (with_reducible first | exact HB.out | apply below_alloc | apply pw_below_drewN | apply below_drew1 | refine below_set ?_ GE125.out) | exact HB.out))) : w.heap.size ≤ gb130)); have n5_ := Aside0.mk ((by rw [hg]; exact Nat.ne_of_lt (blk_lt (g := gb125) (o := .cells #[.int .i64 0, .int .i64 0, .slice none 0 0] 53 (0, 0)) (by (with_reducible repeat (first | refine blk_drewN ?_ _ | refine blk_drew ?_ | refine blk_alloc ?_ _)); exact BK125.out)) : gb125 ≠ gb130)); have n6_ := Aside0.mk ((by rw [hg]; exact Nat.ne_of_gt (blk_lt (g := gb125) (o := .cells #[.int .i64 0, .int .i64 0, .slice none 0 0] 53 (0, 0)) (by (with_reducible repeat (first | refine blk_drewN ?_ _ | refine blk_drew ?_ | refine blk_alloc ?_ _)); exact BK125.out)) : gb130 ≠ gb125)); clear BK125; clear HB; have BK125 := n0_; have HB := n1_; have BK130 := n2_; have GW130 := n3_; have GE130 := n4_; have NB125_130 := n5_; have NB130_125 := n6_; clear n0_ n1_ n2_ n3_ n4_ n5_ n6_; clear hb hbox hg; have hnb8 := NB130_125.out; have hnc8 := NB125_130.out; have hcz9_0 : w7.cell? ⟨gb130, 0, none⟩ = some (.int .i64 0) := (blk_cell BK130.out 0).trans rfl; have hcz9_1 : w7.cell? ⟨gb130, 1, none⟩ = some (.int .i64 0) := (blk_cell BK130.out 1).trans rfl; have hcz9_2 : w7.cell? ⟨gb130, 2, none⟩ = some (.int .i64 0) := (blk_cell BK130.out 2).trans rfl; have hfz9_0 := blk_frozen BK130.out 0; have hfz9_1 := blk_frozen BK130.out 1; have hfz9_2 := blk_frozen BK130.out 2; have hcz10_0 : w7.cell? ⟨gb125, 0, none⟩ = some (.int .i64 0) := (blk_cell BK125.out 0).trans rfl; have hcz10_1 : w7.cell? ⟨gb125, 1, none⟩ = some (.int .i64 0) := (blk_cell BK125.out 1).trans rfl; have hcz10_2 : w7.cell? ⟨gb125, 2, none⟩ = some (.slice none 0 0) := (blk_cell BK125.out 2).trans rfl; have hfz10_0 := blk_frozen BK125.out 0; have hfz10_1 := blk_frozen BK125.out 1; have hfz10_2 := blk_frozen BK125.out 2))
   refine bodyPost_ret (results_ctt rfl _ _ gb125 53 #[.int .i64 0, .int .i64 0, .slice none 0 0] (0, 0) _ rfl (by (with_reducible repeat (first | refine blk_drewN ?_ _ | refine blk_drew ?_ | refine blk_alloc ?_ _)); refine blk_put (cs := #[.int .i64 0, .int .i64 0, .slice none 0 0]) ?_ 2 _ rfl; (with_reducible repeat (first | refine blk_drewN ?_ _ | refine blk_drew ?_ | refine blk_alloc ?_ _)); refine blk_put (cs := #[.int .i64 0, .int .i64 0, .slice none 0 0]) ?_ 1 _ rfl; (with_reducible repeat (first | refine blk_drewN ?_ _ | refine blk_drew ?_ | refine blk_alloc ?_ _)); refine blk_put (cs := #[.int .i64 0, .int .i64 0, .slice none 0 0]) ?_ 0 _ rfl; (with_reducible repeat (first | refine blk_drewN ?_ _ | refine blk_drew ?_ | refine blk_alloc ?_ _)); refine blk_far ?_ NB125_130.out _; (with_reducible repeat (first | refine blk_drewN ?_ _ | refine blk_drew ?_ | refine blk_alloc ?_ _)); refine blk_far ?_ NB125_130.out _; (with_reducible repeat (first | refine blk_drewN ?_ _ | refine blk_drew ?_ | refine blk_alloc ?_ _)); refine blk_far ?_ NB125_130.out _; (with_reducible repeat (first | refine blk_drewN ?_ _ | refine blk_drew ?_ | refine blk_alloc ?_ _)); exact BK125.out) Try.underlying53 rfl (by kernel_rfl)) rfl ?_
   exact ⟨_, by first | rfl | (simp [errW_none, errW_some] <;> rfl) | (simp [*, errW_none, errW_some] <;> rfl), by first | exact Kd.R_nil _ _ _ _ _ | exact Kd.N_nil _ _ _ _ _ | exact Kd.V_nil _ _ _ _ _ | exact Kd.Q_nil _ _ _ _ _ | exact Kd.S_nil _ _ _ _ _, by repeat (first | (with_reducible first | exact HB.out | apply below_alloc | apply pw_below_drewN | apply below_drew1 | refine below_set ?_ GE125.out | refine below_set ?_ GE130.out) | exact HB.out)⟩
  ·
   rw [if_neg c4] at H
   have c4b0 : decide ((l0.length : Int) < (wrap64 (6 + t127))) = false := decide_eq_false c4
   clear c4
   by_cases c11 : 7 ≤ (wrap64 (6 + t127))
   ·
    rw [if_pos c11] at H
    have c11b0 := eq_true c11
    have c11b1 : decide (7 ≤ (wrap64 (6 + t127))) = true := decide_eq_true c11
    by_cases c12 : (wrap64 (6 + t127)) ≤ (l0.length : Int)
    ·
     rw [if_pos c12] at H
     have c12b0 := eq_true c12
     have c12b1 : decide ((wrap64 (6 + t127)) ≤ (l0.length : Int)) = true := decide_eq_true c12
     replace H := Option.bind_eq_some_iff.mp H
     obtain ⟨t132, A130, H⟩ := H
     replace H : (some (t126, t128, t132, wrap64 (6 + t127), 0)) = some (r1, r2, r3, r4, r5) := H
     have A13 := Aside0.mk A130
     clear A130
     simp only [Option.some.injEq, Prod.mk.injEq] at H
     obtain ⟨rfl, rfl, rfl, rfl, rfl⟩ := H
     go_enter Try.func31, Try.ntmps31
     try go_wp2_with (first | ((with_reducible refine gate_dst (N := 2) rfl ?_); refine box_event ?hg (N := 2) ?hd (cs := #[.int .i64 0, .int .i64 0, .slice none 0 0]) (t := 53) ?hr ?_; (case hd => rfl); (case hg => rfl); (case hr => first | (go_simp; done) | (go_simp; rfl)); intro gb125 hg w14 hbox hb; have n0_ := Aside0.mk (below_step (by repeat (first | (with_reducible first | exact HB.out | apply below_alloc | apply pw_below_drewN | apply below_drew1) | exact HB.out)) hb); have n1_ := Aside0.mk (hbox); have n2_ := Aside0.mk ((by rw [hg]; exact (below_size (by repeat (first | (with_reducible first | exact HB.out | apply below_alloc | apply pw_below_drewN | apply below_drew1) | exact HB.out))) : w.heap.size ≤ gb125)); have n3_ := Aside0.mk ((by rw [hg]; exact (below_size (by repeat (first | (with_reducible first | exact HB.out | apply below_alloc | apply pw_below_drewN | apply below_drew1) | exact HB.out))) : w.heap.size ≤ gb125)); clear HB; have HB := n0_; have BK125 := n1_; have GW125 := n2_; have GE125 := n3_; clear n0_ n1_ n2_ n3_; clear hb hbox hg) | ((with_reducible refine gate_callee (f := 52) rfl ?_); refine goesL_ (some 10) rfl rfl Try.func52 (by kernel_rfl) rfl #[.slice A0 l0.length c0] rfl (by (try simp only [List.map_toArray, List.map_cons, List.map_nil]); first | done | rfl | (simp only [List.length_drop, List.length_take]; rfl)) ?_; (with_reducible refine (head_Get.calls k _ _ l0 t126 t127 t128 t129 _ ?side1 ?side2 A2.out).mono ?_); (case side1 => repeat (first | exact (Kd.C_below HR0.out HB.out) | (with_reducible refine Kd.C_alloc ?_ _) | (with_reducible refine Kd.C_drewN ?_ _) | (with_reducible refine Kd.C_drew ?_))); (case side2 => exact HC0.out); rintro e w15 ⟨rfl, hb⟩; refine ⟨_, rfl, ?_⟩; have n0_ := Aside0.mk (blk_below (g := gb125) (o := .cells #[.int .i64 0, .int .i64 0, .slice none 0 0] 53 (0, 0)) (by (with_reducible repeat (first | refine blk_drewN ?_ _ | refine blk_drew ?_ | refine blk_alloc ?_ _)); exact BK125.out) hb); have n1_ := Aside0.mk (below_step (by repeat (first | (with_reducible first | exact HB.out | apply below_alloc | apply pw_below_drewN | apply below_drew1 | refine below_set ?_ GE125.out) | exact HB.out)) hb); clear BK125; clear HB; have BK125 := n0_; have HB := n1_; clear n0_ n1_; (try clear hb); (try clear hb2); (try clear hk); (try clear hi)) | ((with_reducible refine gate_dst (N := 5) rfl ?_); refine box_event ?hg (N := 5) ?hd (cs := #[.int .i64 0, .int .i64 0, .int .i64 0]) (t := 85) ?hr ?_; (case hd => rfl); (case hg => rfl); (case hr => first | (go_simp; done) | (go_simp; rfl)); intro gb130 hg w16 hbox hb; have n0_ := Aside0.mk (blk_below (g := gb125) (o := .cells #[.int .i64 0, .int .i64 0, .slice none 0 0] 53 (0, 0)) (by (with_reducible repeat (first | refine blk_drewN ?_ _ | refine blk_drew ?_ | refine blk_alloc ?_ _)); exact BK125.out) hb); have n1_ := Aside0.mk (below_step (by repeat (first | (with_reducible first | exact HB.out | apply below_alloc | apply pw_below_drewN | apply below_drew1 | refine below_set ?_ GE125.out) | exact HB.out)) hb); have n2_ := Aside0.mk (hbox); have n3_ := Aside0.mk ((by rw [hg]; exact (below_size (by repeat (first | (with_reducible first | exact HB.out | apply below_alloc | apply pw_below_drewN | apply below_drew1 | refine below_set ?_ GE125.out) | exact HB.out))) : w.heap.size ≤ gb130)); have n4_ := Aside0.mk ((by rw [hg]; exact (below_size (by repeat (first | (with_reducible first | exact HB.out | apply below_alloc | apply pw_below_drewN | apply below_drew1 | refine below_set ?_ GE125.out) | exact HB.out))) : w.heap.size ≤ gb130)); have n5_ := Aside0.mk ((by rw [hg]; exact Nat.ne_of_lt (blk_lt (g := gb125) (o := .cells #[.int .i64 0, .int .i64 0, .slice none 0 0] 53 (0, 0)) (by (with_reducible repeat (first | refine blk_drewN ?_ _ | refine blk_drew ?_ | refine blk_alloc ?_ _)); exact BK125.out)) : gb125 ≠ gb130)); have n6_ := Aside0.mk ((by rw [hg]; exact Nat.ne_of_gt (blk_lt (g := gb125) (o := .cells #[.int .i64 0, .int .i64 0, .slice none 0 0] 53 (0, 0)) (by (with_reducible repeat (first | refine blk_drewN ?_ _ | refine blk_drew ?_ | refine blk_alloc ?_ _)); exact BK125.out)) : gb130 ≠ gb125)); clear BK125; clear HB; have BK125 := n0_; have HB := n1_; have BK130 := n2_; have GW130 := n3_; have GE130 := n4_; have NB125_130 := n5_; have NB130_125 := n6_; clear n0_ n1_ n2_ n3_ n4_ n5_ n6_; clear hb hbox hg; have hnb17 := NB130_125.out; have hnc17 := NB125_130.out; have hcz18_0 : w16.cell? ⟨gb130, 0, none⟩ = some (.int .i64 0) := (blk_cell BK130.out 0).trans rfl; have hcz18_1 : w16.cell? ⟨gb130, 1, none⟩ = some (.int .i64 0) := (blk_cell BK130.out 1).trans rfl; have hcz18_2 : w16.cell? ⟨gb130, 2, none⟩ = some (.int .i64 0) := (blk_cell BK130.out 2).trans rfl; have hfz18_0 := blk_frozen BK130.out 0; have hfz18_1 := blk_frozen BK130.out 1; have hfz18_2 := blk_frozen BK130.out 2))
     have n0_ : Aside0 ((((w16.setCell ⟨gb130, 0, none⟩ (.int .i64 t126)).setCell ⟨gb130, 1, none⟩ (.int .i64 t127)).setCell ⟨gb130, 2, none⟩ (.int .i64 t128)).heap[gb125]? = some (.cells #[.int .i64 0, .int .i64 0, .slice none 0 0] 53 (0, 0))) := ⟨by (with_reducible repeat (first | refine blk_drewN ?_ _ | refine blk_drew ?_ | refine blk_alloc ?_ _)); refine blk_far ?_ NB125_130.out _; (with_reducible repeat (first | refine blk_drewN ?_ _ | refine blk_drew ?_ | refine blk_alloc ?_ _)); refine blk_far ?_ NB125_130.out _; (with_reducible repeat (first | refine blk_drewN ?_ _ | refine blk_drew ?_ | refine blk_alloc ?_ _)); refine blk_far ?_ NB125_130.out _; (with_reducible repeat (first | refine blk_drewN ?_ _ | refine blk_drew ?_ | refine blk_alloc ?_ _)); exact BK125.out⟩
     have n1_ : Aside0 ((((w16.setCell ⟨gb130, 0, none⟩ (.int .i64 t126)).setCell ⟨gb130, 1, none⟩ (.int .i64 t127)).setCell ⟨gb130, 2, none⟩ (.int .i64 t128)).heap[gb130]? = some (.cells #[.int .i64 t126, .int .i64 t127, .int .i64 t128] 85 (0, 0))) := ⟨by (with_reducible repeat (first | refine blk_drewN ?_ _ | refine blk_drew ?_ | refine blk_alloc ?_ _)); refine blk_put (cs := #[.int .i64 t126, .int .i64 t127, .int .i64 0]) ?_ 2 _ rfl; (with_reducible repeat (first | refine blk_drewN ?_ _ | refine blk_drew ?_ | refine blk_alloc ?_ _)); refine blk_put (cs := #[.int .i64 t126, .int .i64 0, .int .i64 0]) ?_ 1 _ rfl; (with_reducible repeat (first | refine blk_drewN ?_ _ | refine blk_drew ?_ | refine blk_alloc ?_ _)); refine blk_put (cs := #[.int .i64 0, .int .i64 0, .int .i64 0]) ?_ 0 _ rfl; (with_reducible repeat (first | refine blk_drewN ?_ _ | refine blk_drew ?_ | refine blk_alloc ?_ _)); exact BK130.out⟩
     have n2_ : Aside0 (Below w.heap.size w (((w16.setCell ⟨gb130, 0, none⟩ (.int .i64 t126)).setCell ⟨gb130, 1, none⟩ (.int .i64 t127)).setCell ⟨gb130, 2, none⟩ (.int .i64 t128))) := ⟨by repeat (first | (with_reducible first | exact HB.out | apply below_alloc | apply pw_below_drewN | apply below_drew1 | refine below_set ?_ GE125.out | refine below_set ?_ GE130.out) | exact HB.out)⟩
     (try clear BK125)
     (try clear BK130)
     (try clear HB)
     first | (rw [drewN_self (((w16.setCell ⟨gb130, 0, none⟩ (.int .i64 t126)).setCell ⟨gb130, 1, none⟩ (.int .i64 t127)).setCell ⟨gb130, 2, none⟩ (.int .i64 t128))]; generalize hq_ : World.drewN (((w16.setCell ⟨gb130, 0, none⟩ (.int .i64 t126)).setCell ⟨gb130, 1, none⟩ (.int .i64 t127)).setCell ⟨gb130, 2, none⟩ (.int .i64 t128)) _ = w19; have m0_ : Aside0 (w19.heap[gb125]? = some (.cells #[.int .i64 0, .int .i64 0, .slice none 0 0] 53 (0, 0))) := ⟨by rw [← hq_]; first | exact Kd.R_drewN n0_.out _ | exact Kd.Q_drewN n0_.out _ | exact blk_drewN n0_.out _ | exact pw_below_drewN n0_.out _ | exact Kd.S_drewN n0_.out _ | exact n0_.out⟩; have m1_ : Aside0 (w19.heap[gb130]? = some (.cells #[.int .i64 t126, .int .i64 t127, .int .i64 t128] 85 (0, 0))) := ⟨by rw [← hq_]; first | exact Kd.R_drewN n1_.out _ | exact Kd.Q_drewN n1_.out _ | exact blk_drewN n1_.out _ | exact pw_below_drewN n1_.out _ | exact Kd.S_drewN n1_.out _ | exact n1_.out⟩; have m2_ : Aside0 (Below w.heap.size w w19) := ⟨by rw [← hq_]; first | exact Kd.R_drewN n2_.out _ | exact Kd.Q_drewN n2_.out _ | exact blk_drewN n2_.out _ | exact pw_below_drewN n2_.out _ | exact Kd.S_drewN n2_.out _ | exact n2_.out⟩; clear hq_ n0_ n1_ n2_; have n0_ := m0_; have n1_ := m1_; have n2_ := m2_; clear m0_ m1_ m2_) | (generalize (((w16.setCell ⟨gb130, 0, none⟩ (.int .i64 t126)).setCell ⟨gb130, 1, none⟩ (.int .i64 t127)).setCell ⟨gb130, 2, none⟩ (.int .i64 t128)) = w19 at n0_ n1_ n2_ ⊢)
     have BK125 := n0_
     have BK130 := n1_
     have HB := n2_
     clear n0_ n1_ n2_
     have n0_ := Aside0.mk (blk_drew BK125.out)
     have n1_ := Aside0.mk (blk_drew BK130.out)
     have n2_ := Aside0.mk (below_drew1 HB.out)
     clear BK125
     clear BK130
     clear HB
     have BK125 := n0_
     have BK130 := n1_
     have HB := n2_
     clear n0_ n1_ n2_
     obtain ⟨i021, hi021, _, hsz21, _⟩ := info_parts info5
     obtain ⟨A21, hcut21, hA21, hC21⟩ := print_mid_of (P := Try.prog) (Value.int .u8) 0 30 5 .i64 .i64 Try.underlying30 hi021 hsz21 A0 c0 l0 7 (wrap64 (6 + t127)) (by omega) (by first | omega | exact of_decide_eq_true (by first | (with_reducible assumption) | assumption)) (of_decide_eq_true (by first | (with_reducible assumption) | assumption)) HC0.out
     have HR131 := Aside0.mk (Kd.C_of_reads (h1 := fun _ => rfl) (hA21 _ (Kd.reads_of_C HR0.out)))
     have HC131 := Aside0.mk hC21
     clear hA21 hC21 hi021 hsz21
     refine start_ (n := 13) (S := fun w' => w'.cell? ⟨gb130, 0, none⟩ = some (.int .i64 t126) ∧ w'.cell? ⟨gb130, 1, none⟩ = some (.int .i64 t127) ∧ w'.cell? ⟨gb130, 2, none⟩ = some (.int .i64 t128)) (ds := []) #[false,false,false,false,false,false,false,false,false,false,false,false,false] (by kernel_rfl) rfl rfl ⟨(blk_cell BK130.out 0).trans rfl, (blk_cell BK130.out 1).trans rfl, (blk_cell BK130.out 2).trans rfl⟩ (fun hHeld => ?_); refine with_tabW adu_Cut.tab7 adu_Cut.bits7 (fun HT_ HW_ => ?_)
     generalize w19.drew = w20 at BK125 BK130 HB HR131 hHeld ⊢
     refine pure_ (i := 0) (N := some 25) (v := ?_) (a' := ?_) #[true,false,false,false,false,false,false,false,false,false,false,false,false] rfl rfl (any_of HT_.out (by kernel_rfl)) (fun _ _ _ h => h) (Or.inl ⟨by rfl, ?_⟩) ?_ ?_
     rotate_left
     ·
      intro w'
      go_simp
      with_reducible rfl
     rotate_left
     ·
      simp only [Act.put, List.setIfInBounds_toArray, List.set_cons_zero, List.set_cons_succ, i64_w, i32_w]
      rfl
     refine pure_ (i := 2) (N := some 27) (v := ?_) (a' := ?_) #[true,false,true,false,false,false,false,false,false,false,false,false,false] rfl rfl (any_of HT_.out (by kernel_rfl)) (fun _ _ _ h => h) (Or.inl ⟨by rfl, ?_⟩) ?_ ?_
     rotate_left
     ·
      intro w'
      go_simp
      with_reducible rfl
     rotate_left
     ·
      simp only [Act.put, List.setIfInBounds_toArray, List.set_cons_zero, List.set_cons_succ, i64_w, i32_w]
      rfl
     refine pure_ (i := 4) (N := some 29) (v := ?_) (a' := ?_) #[true,false,true,false,true,false,false,false,false,false,false,false,false] rfl rfl (any_of HT_.out (by kernel_rfl)) (fun _ _ _ h => h) (Or.inl ⟨by rfl, ?_⟩) ?_ ?_
     rotate_left
     ·
      intro w'
      go_simp
      with_reducible rfl
     rotate_left
     ·
      simp only [Act.put, List.setIfInBounds_toArray, List.set_cons_zero, List.set_cons_succ, i64_w, i32_w]
      rfl
     refine pure_ (i := 5) (N := some 30) (v := ?_) (a' := ?_) #[true,false,true,false,true,true,false,false,false,false,false,false,false] rfl rfl (any_of HT_.out (by kernel_rfl)) (fun _ _ _ h => h) (Or.inl ⟨by rfl, ?_⟩) ?_ ?_
     rotate_left
     ·
      intro w'
      go_simp
      with_reducible rfl
     rotate_left
     ·
      simp only [Act.put, List.setIfInBounds_toArray, List.set_cons_zero, List.set_cons_succ, i64_w, i32_w]
      rfl
     refine pure_ (i := 6) (N := some 31) (v := ?_) (a' := ?_) #[true,false,true,false,true,true,true,false,false,false,false,false,false] rfl rfl (any_of HT_.out (by kernel_rfl)) (fun _ _ _ h => h) (Or.inl ⟨by rfl, ?_⟩) ?_ ?_
     rotate_left
     ·
      intro w'
      go_simp
      with_reducible rfl
     rotate_left
     ·
      simp only [Act.put, List.setIfInBounds_toArray, List.set_cons_zero, List.set_cons_succ, i64_w, i32_w]
      rfl
     refine pure_ (i := 9) (N := some 34) (v := ?_) (a' := ?_) #[true,false,true,false,true,true,true,false,false,true,false,false,false] rfl rfl (any_of HT_.out (by kernel_rfl)) (fun _ _ _ h => h) (Or.inl ⟨by rfl, ?_⟩) ?_ ?_
     rotate_left
     ·
      intro w'
      go_simp
      with_reducible rfl
     rotate_left
     ·
      simp only [Act.put, List.setIfInBounds_toArray, List.set_cons_zero, List.set_cons_succ, i64_w, i32_w]
      rfl
     refine take_ (i := 1) (N := some 26) (v := ?_) (a' := ?_) #[true,true,true,false,true,true,true,false,false,true,false,false,false] rfl rfl (take_ofW HT_.out HW_.out (by kernel_rfl)) (fun _ _ _ h => h) (Or.inl ⟨by rfl, ?_⟩) hHeld ?_ ?_
     rotate_left
     ·
      rintro w' ⟨s0, s1, s2⟩
      go_simp
      with_reducible rfl
     rotate_left
     ·
      simp only [Act.put, List.setIfInBounds_toArray, List.set_cons_zero, List.set_cons_succ, i64_w, i32_w]
      rfl
     refine take_ (i := 3) (N := some 28) (v := ?_) (a' := ?_) #[true,true,true,true,true,true,true,false,false,true,false,false,false] rfl rfl (take_ofW HT_.out HW_.out (by kernel_rfl)) (fun _ _ _ h => h) (Or.inl ⟨by rfl, ?_⟩) hHeld ?_ ?_
     rotate_left
     ·
      rintro w' ⟨s0, s1, s2⟩
      go_simp
      with_reducible rfl
     rotate_left
     ·
      simp only [Act.put, List.setIfInBounds_toArray, List.set_cons_zero, List.set_cons_succ, i64_w, i32_w]
      rfl
     refine one_ (i := 7) (N := some 32) #[true,true,true,true,true,true,true,true,false,true,false,false,false] rfl rfl (one_of HT_.out (by kernel_rfl)) (by decide) (fun K hK => ?_)
     refine goes_ Try.func53 (by kernel_rfl) rfl #[.slice A21 ((l0.take ((wrap64 (6 + t127)) : Int).toNat).drop 7).length (c0 - 7)] (by rfl) rfl rfl (by (try simp only [List.map_toArray, List.map_cons, List.map_nil]); first | done | (rw [show ((l0.take ((wrap64 (6 + t127)) : Int).toNat).drop 7).length = ((wrap64 (6 + t127)).toNat - 7) from (by rw [List.length_drop, List.length_take]; have h_ : ((wrap64 (6 + t127)) : Int) ≤ (l0.length : Int) := of_decide_eq_true (by first | (with_reducible assumption) | assumption); omega)] <;> rfl) | rfl | (simp only [List.length_drop, List.length_take]; rfl)) ?_
     with_reducible refine (slices_Clone_byte_byte.calls _ _ ((l0.take ((wrap64 (6 + t127)) : Int).toNat).drop 7) t132 _ ?side1 ?side2 A13.out).mono ?_
     (case side1 => repeat (first | exact (Kd.C_below HR131.out HB.out) | (with_reducible refine Kd.C_alloc ?_ _) | (with_reducible refine Kd.C_drewN ?_ _) | (with_reducible refine Kd.C_drew ?_)))
     (case side2 => exact HC131.out)
     rintro e w22 ⟨v133, rfl, ho0, hb⟩
     refine ⟨_, rfl, ?_⟩
     have n0_ := Aside0.mk (Kd.R_lower ho0 (below_size (by repeat (first | (with_reducible first | exact HB.out | apply below_alloc | apply pw_below_drewN | apply below_drew1 | refine below_set ?_ GE125.out | refine below_set ?_ GE130.out) | exact HB.out))))
     have n1_ := Aside0.mk (blk_below (g := gb125) (o := .cells #[.int .i64 0, .int .i64 0, .slice none 0 0] 53 (0, 0)) (by (with_reducible repeat (first | refine blk_drewN ?_ _ | refine blk_drew ?_ | refine blk_alloc ?_ _)); exact BK125.out) hb)
     have n2_ := Aside0.mk (blk_below (g := gb130) (o := .cells #[.int .i64 t126, .int .i64 t127, .int .i64 t128] 85 (0, 0)) (by (with_reducible repeat (first | refine blk_drewN ?_ _ | refine blk_drew ?_ | refine blk_alloc ?_ _)); exact BK130.out) hb)
     have n3_ := Aside0.mk (below_step (by repeat (first | (with_reducible first | exact HB.out | apply below_alloc | apply pw_below_drewN | apply below_drew1 | refine below_set ?_ GE125.out | refine below_set ?_ GE130.out) | exact HB.out)) hb)
     clear BK125
     clear BK130
     clear HB
     have HO134 := n0_
     have BK125 := n1_
     have BK130 := n2_
     have HB := n3_
     clear n0_ n1_ n2_ n3_
     (try clear hb)
     (try clear hb2)
     (try clear hk)
     (try clear hi)
     (try clear ho0)
     obtain ⟨Ao23, co23, eo23⟩ := Kd.R_slice HO134.out
     (first | subst eo23 | (injection eo23 with f1_ f2_ f3_; have f4_ := f1_.symm; have f5_ := f3_.symm; clear f1_ f2_ f3_; subst f4_; subst f5_))
     refine hK.out _ _ ⟨(blk_cell BK130.out 0).trans rfl, (blk_cell BK130.out 1).trans rfl, (blk_cell BK130.out 2).trans rfl⟩ (fun hHeld => ?_)
     clear hK K
     refine norm_ (a' := ?_) ?_ ?_
     rotate_left
     ·
      show Act.put _ (some 32) _ = _
      simp only [Act.put, List.setIfInBounds_toArray, List.set_cons_zero, List.set_cons_succ, i64_w, i32_w]
      rfl
     refine pure_ (i := 8) (N := some 33) (v := ?_) (a' := ?_) #[true,true,true,true,true,true,true,true,true,true,false,false,false] rfl rfl (any_of HT_.out (by kernel_rfl)) (fun _ _ _ h => h) (Or.inl ⟨by rfl, ?_⟩) ?_ ?_
     rotate_left
     ·
      intro w'
      go_simp
      with_reducible rfl
     rotate_left
     ·
      simp only [Act.put, List.setIfInBounds_toArray, List.set_cons_zero, List.set_cons_succ, i64_w, i32_w]
      rfl
     refine one_ (i := 10) (N := none) #[true,true,true,true,true,true,true,true,true,true,true,false,false] rfl rfl (one_of HT_.out (by kernel_rfl)) (by decide) (fun K hK => ?_)
     have hs24 : w22.cell? ⟨gb125, 0, none⟩ = some (.int .i64 0) := (blk_cell BK125.out 0).trans rfl
     have hfs24 := blk_frozen BK125.out 0
     have hns24_1 := NB130_125.out
     have hms24_1 := NB125_130.out
     have hs25 : w22.cell? ⟨gb125, 1, none⟩ = some (.int .i64 0) := (blk_cell BK125.out 1).trans rfl
     have hfs25 := blk_frozen BK125.out 1
     have hns25_1 := NB130_125.out
     have hms25_1 := NB125_130.out
     have hs26 : w22.cell? ⟨gb125, 2, none⟩ = some (.slice none 0 0) := (blk_cell BK125.out 2).trans rfl
     have hfs26 := blk_frozen BK125.out 2
     have hns26_1 := NB130_125.out
     have hms26_1 := NB125_130.out
     refine skip_ (w1 := ?_) (by rfl) rfl ?_ ?_
     rotate_left
     ·
      go_simp
      rfl
     refine hK.out _ _ ⟨((cell_far (p := ⟨gb125, _, none⟩) NB130_125.out _).trans (((cell_far (p := ⟨gb125, _, none⟩) NB130_125.out _).trans (((cell_far (p := ⟨gb125, _, none⟩) NB130_125.out _).trans (hHeld.1)))))), ((cell_far (p := ⟨gb125, _, none⟩) NB130_125.out _).trans (((cell_far (p := ⟨gb125, _, none⟩) NB130_125.out _).trans (((cell_far (p := ⟨gb125, _, none⟩) NB130_125.out _).trans (hHeld.2.1)))))), ((cell_far (p := ⟨gb125, _, none⟩) NB130_125.out _).trans (((cell_far (p := ⟨gb125, _, none⟩) NB130_125.out _).trans (((cell_far (p := ⟨gb125, _, none⟩) NB130_125.out _).trans (hHeld.2.2))))))⟩ (fun hHeld => ?_)
     clear hK K
     refine pure_ (i := 11) (N := some 3) (v := ?_) (a' := ?_) #[true,true,true,true,true,true,true,true,true,true,true,true,false] rfl rfl (any_of HT_.out (by kernel_rfl)) (fun _ _ _ h => h) (Or.inl ⟨by rfl, ?_⟩) ?_ ?_
     rotate_left
     ·
      intro w'
      go_simp
      with_reducible rfl
     rotate_left
     ·
      simp only [Act.put, List.setIfInBounds_toArray, List.set_cons_zero, List.set_cons_succ, i64_w, i32_w]
      rfl
     refine pure_ (i := 12) (N := some 4) (v := ?_) (a' := ?_) #[true,true,true,true,true,true,true,true,true,true,true,true,true] rfl rfl (any_of HT_.out (by kernel_rfl)) (fun _ _ _ h => h) (Or.inl ⟨by rfl, ?_⟩) ?_ ?_
     rotate_left
     ·
      intro w'
      go_simp
      with_reducible rfl
     rotate_left
     ·
      simp only [Act.put, List.setIfInBounds_toArray, List.set_cons_zero, List.set_cons_succ, i64_w, i32_w]
      rfl
     refine done_ (done_of HT_.out (by kernel_rfl)) ?_
     try go_wp2
     refine bodyPost_ret (results_ctt rfl _ _ gb125 53 #[.int .i64 t126, .int .i64 t128, .slice Ao23 t132.length co23] (0, 0) _ rfl (by (with_reducible repeat (first | refine blk_drewN ?_ _ | refine blk_drew ?_ | refine blk_alloc ?_ _)); refine blk_put (cs := #[.int .i64 t126, .int .i64 t128, .slice none 0 0]) ?_ 2 _ rfl; (with_reducible repeat (first | refine blk_drewN ?_ _ | refine blk_drew ?_ | refine blk_alloc ?_ _)); refine blk_put (cs := #[.int .i64 t126, .int .i64 0, .slice none 0 0]) ?_ 1 _ rfl; (with_reducible repeat (first | refine blk_drewN ?_ _ | refine blk_drew ?_ | refine blk_alloc ?_ _)); refine blk_put (cs := #[.int .i64 0, .int .i64 0, .slice none 0 0]) ?_ 0 _ rfl; (with_reducible repeat (first | refine blk_drewN ?_ _ | refine blk_drew ?_ | refine blk_alloc ?_ _)); exact BK125.out) Try.underlying53 rfl (by kernel_rfl)) rfl ?_
     exact ⟨_, by first | rfl | (simp [errW_none, errW_some] <;> rfl) | (simp [*, errW_none, errW_some] <;> rfl), by (with_reducible repeat (first | apply Kd.R_alloc | apply Kd.R_drewN | apply Kd.R_drew)); exact Kd.R_mono (Kd.R_far (p := ⟨gb125, 2, none⟩) (Kd.R_far (p := ⟨gb125, 1, none⟩) (Kd.R_far (p := ⟨gb125, 0, none⟩) (Kd.R_types HO134.out BK125.out (by decide)) (fun _ hk => hk.2) (.int .i64 t126)) (fun _ hk => hk.2) (.int .i64 t128)) (fun _ hk => hk.2) (.slice Ao23 t132.length co23)) (fun _ hk => trivial), by repeat (first | (with_reducible first | exact HB.out | apply below_alloc | apply pw_below_drewN | apply below_drew1 | refine below_set ?_ GE125.out | refine below_set ?_ GE130.out) | exact HB.out)⟩
    ·
     rw [if_neg c12] at H
     exact absurd H (by simp)
   ·
    rw [if_neg c11] at H
    exact absurd H (by simp)
 ·
  rw [if_neg c3] at H
  have c3b0 : (t129 == 0) = false := beq_eq_false_iff_ne.mpr c3
  have c3b1 : (t129 != 0) = true := bne_iff_ne.mpr c3
  simp only [Option.some.injEq, Prod.mk.injEq] at H
  obtain ⟨rfl, rfl, rfl, rfl, rfl⟩ := H
  go_enter Try.func31, Try.ntmps31
  go_wp2_with (first | ((with_reducible refine gate_dst (N := 2) rfl ?_); refine box_event ?hg (N := 2) ?hd (cs := #[.int .i64 0, .int .i64 0, .slice none 0 0]) (t := 53) ?hr ?_; (case hd => rfl); (case hg => rfl); (case hr => first | (go_simp; done) | (go_simp; rfl)); intro gb125 hg w27 hbox hb; have n0_ := Aside0.mk (below_step (by repeat (first | (with_reducible first | exact HB.out | apply below_alloc | apply pw_below_drewN | apply below_drew1) | exact HB.out)) hb); have n1_ := Aside0.mk (hbox); have n2_ := Aside0.mk ((by rw [hg]; exact (below_size (by repeat (first | (with_reducible first | exact HB.out | apply below_alloc | apply pw_below_drewN | apply below_drew1) | exact HB.out))) : w.heap.size ≤ gb125)); have n3_ := Aside0.mk ((by rw [hg]; exact (below_size (by repeat (first | (with_reducible first | exact HB.out | apply below_alloc | apply pw_below_drewN | apply below_drew1) | exact HB.out))) : w.heap.size ≤ gb125)); clear HB; have HB := n0_; have BK125 := n1_; have GW125 := n2_; have GE125 := n3_; clear n0_ n1_ n2_ n3_; clear hb hbox hg) | ((with_reducible refine gate_callee (f := 52) rfl ?_); refine goesL_ (some 10) rfl rfl Try.func52 (by kernel_rfl) rfl #[.slice A0 l0.length c0] rfl (by (try simp only [List.map_toArray, List.map_cons, List.map_nil]); first | done | rfl | (simp only [List.length_drop, List.length_take]; rfl)) ?_; (with_reducible refine (head_Get.calls k _ _ l0 t126 t127 t128 t129 _ ?side1 ?side2 A2.out).mono ?_); (case side1 => repeat (first | exact (Kd.C_below HR0.out HB.out) | (with_reducible refine Kd.C_alloc ?_ _) | (with_reducible refine Kd.C_drewN ?_ _) | (with_reducible refine Kd.C_drew ?_))); (case side2 => exact HC0.out); rintro e w28 ⟨rfl, hb⟩; refine ⟨_, rfl, ?_⟩; have n0_ := Aside0.mk (blk_below (g := gb125) (o := .cells #[.int .i64 0, .int .i64 0, .slice none 0 0] 53 (0, 0)) (by (with_reducible repeat (first | refine blk_drewN ?_ _ | refine blk_drew ?_ | refine blk_alloc ?_ _)); exact BK125.out) hb); have n1_ := Aside0.mk (below_step (by repeat (first | (with_reducible first | exact HB.out | apply below_alloc | apply pw_below_drewN | apply below_drew1 | refine below_set ?_ GE125.out) | exact HB.out)) hb); clear BK125; clear HB; have BK125 := n0_; have HB := n1_; clear n0_ n1_; (try clear hb); (try clear hb2); (try clear hk); (try clear hi)) | ((with_reducible refine gate_dst (N := 5) rfl ?_); refine box_event ?hg (N := 5) ?hd (cs := #[.int .i64 0, .int .i64 0, .int .i64 0]) (t := 85) ?hr ?_; (case hd => rfl); (case hg => rfl); (case hr => first | (go_simp; done) | (go_simp; rfl)); intro gb130 hg w29 hbox hb; have n0_ := Aside0.mk (blk_below (g := gb125) (o := .cells #[.int .i64 0, .int .i64 0, .slice none 0 0] 53 (0, 0)) (by (with_reducible repeat (first | refine blk_drewN ?_ _ | refine blk_drew ?_ | refine blk_alloc ?_ _)); exact BK125.out) hb); have n1_ := Aside0.mk (below_step (by repeat (first | (with_reducible first | exact HB.out | apply below_alloc | apply pw_below_drewN | apply below_drew1 | refine below_set ?_ GE125.out) | exact HB.out)) hb); have n2_ := Aside0.mk (hbox); have n3_ := Aside0.mk ((by rw [hg]; exact (below_size (by repeat (first | (with_reducible first | exact HB.out | apply below_alloc | apply pw_below_drewN | apply below_drew1 | refine below_set ?_ GE125.out) | exact HB.out))) : w.heap.size ≤ gb130)); have n4_ := Aside0.mk ((by rw [hg]; exact (below_size (by repeat (first | (with_reducible first | exact HB.out | apply below_alloc | apply pw_below_drewN | apply below_drew1 | refine below_set ?_ GE125.out) | exact HB.out))) : w.heap.size ≤ gb130)); have n5_ := Aside0.mk ((by rw [hg]; exact Nat.ne_of_lt (blk_lt (g := gb125) (o := .cells #[.int .i64 0, .int .i64 0, .slice none 0 0] 53 (0, 0)) (by (with_reducible repeat (first | refine blk_drewN ?_ _ | refine blk_drew ?_ | refine blk_alloc ?_ _)); exact BK125.out)) : gb125 ≠ gb130)); have n6_ := Aside0.mk ((by rw [hg]; exact Nat.ne_of_gt (blk_lt (g := gb125) (o := .cells #[.int .i64 0, .int .i64 0, .slice none 0 0] 53 (0, 0)) (by (with_reducible repeat (first | refine blk_drewN ?_ _ | refine blk_drew ?_ | refine blk_alloc ?_ _)); exact BK125.out)) : gb130 ≠ gb125)); clear BK125; clear HB; have BK125 := n0_; have HB := n1_; have BK130 := n2_; have GW130 := n3_; have GE130 := n4_; have NB125_130 := n5_; have NB130_125 := n6_; clear n0_ n1_ n2_ n3_ n4_ n5_ n6_; clear hb hbox hg; have hnb30 := NB130_125.out; have hnc30 := NB125_130.out; have hcz31_0 : w29.cell? ⟨gb130, 0, none⟩ = some (.int .i64 0) := (blk_cell BK130.out 0).trans rfl; have hcz31_1 : w29.cell? ⟨gb130, 1, none⟩ = some (.int .i64 0) := (blk_cell BK130.out 1).trans rfl; have hcz31_2 : w29.cell? ⟨gb130, 2, none⟩ = some (.int .i64 0) := (blk_cell BK130.out 2).trans rfl; have hfz31_0 := blk_frozen BK130.out 0; have hfz31_1 := blk_frozen BK130.out 1; have hfz31_2 := blk_frozen BK130.out 2; have hcz32_0 : w29.cell? ⟨gb125, 0, none⟩ = some (.int .i64 0) := (blk_cell BK125.out 0).trans rfl; have hcz32_1 : w29.cell? ⟨gb125, 1, none⟩ = some (.int .i64 0) := (blk_cell BK125.out 1).trans rfl; have hcz32_2 : w29.cell? ⟨gb125, 2, none⟩ = some (.slice none 0 0) := (blk_cell BK125.out 2).trans rfl; have hfz32_0 := blk_frozen BK125.out 0; have hfz32_1 := blk_frozen BK125.out 1; have hfz32_2 := blk_frozen BK125.out 2))
  refine bodyPost_ret (results_ctt rfl _ _ gb125 53 #[.int .i64 0, .int .i64 0, .slice none 0 0] (0, 0) _ rfl (by (with_reducible repeat (first | refine blk_drewN ?_ _ | refine blk_drew ?_ | refine blk_alloc ?_ _)); refine blk_put (cs := #[.int .i64 0, .int .i64 0, .slice none 0 0]) ?_ 2 _ rfl; (with_reducible repeat (first | refine blk_drewN ?_ _ | refine blk_drew ?_ | refine blk_alloc ?_ _)); refine blk_put (cs := #[.int .i64 0, .int .i64 0, .slice none 0 0]) ?_ 1 _ rfl; (with_reducible repeat (first | refine blk_drewN ?_ _ | refine blk_drew ?_ | refine blk_alloc ?_ _)); refine blk_put (cs := #[.int .i64 0, .int .i64 0, .slice none 0 0]) ?_ 0 _ rfl; (with_reducible repeat (first | refine blk_drewN ?_ _ | refine blk_drew ?_ | refine blk_alloc ?_ _)); refine blk_far ?_ NB125_130.out _; (with_reducible repeat (first | refine blk_drewN ?_ _ | refine blk_drew ?_ | refine blk_alloc ?_ _)); refine blk_far ?_ NB125_130.out _; (with_reducible repeat (first | refine blk_drewN ?_ _ | refine blk_drew ?_ | refine blk_alloc ?_ _)); refine blk_far ?_ NB125_130.out _; (with_reducible repeat (first | refine blk_drewN ?_ _ | refine blk_drew ?_ | refine blk_alloc ?_ _)); exact BK125.out) Try.underlying53 rfl (by kernel_rfl)) rfl ?_
  exact ⟨_, by first | rfl | (simp [errW_none, errW_some] <;> rfl) | (simp [*, errW_none, errW_some] <;> rfl), by first | exact Kd.R_nil _ _ _ _ _ | exact Kd.N_nil _ _ _ _ _ | exact Kd.V_nil _ _ _ _ _ | exact Kd.Q_nil _ _ _ _ _ | exact Kd.S_nil _ _ _ _ _, by repeat (first | (with_reducible first | exact HB.out | apply below_alloc | apply pw_below_drewN | apply below_drew1 | refine below_set ?_ GE125.out | refine below_set ?_ GE130.out) | exact HB.out)⟩
end Go.Proofs.Ytakiojmjalbfpaa.PFlow
namespace Go.Proofs.Ytakiojmjalbfpaa.PFlow
open Go.RowKit Go.Proofs.YtakiojmjalbfpaaW.PrintWords Go.Proofs.YtakiojmjalbfpaaW.PrintLast Go.Proofs.YtakiojmjalbfpaaW.PrintMore
attribute [local go_sem] max2_int min2_int max_two min_two max_three min_three max_four min_four plus_setCell_drewN plus_cell_same   -- for this text's walks alone
set_option linter.unusedVariables false
set_option linter.unusedSimpArgs false
def busbarref1_Put.f (l0 : List Int) (a1 : Int) : Option (List Int) := if ([] : List Int).length + l0.length < 140737488355328 then ((some (([] : List Int) ++ l0 : List Int)).bind fun y135 => ((some (([(IntKind.u16.wrap (Int.tdiv a1 256)) % 256, (Int.tmod a1 256) % 256] : List Int) : List Int)).bind fun y138 => (if y135.length + y138.length < 140737488355328 then (some (y135 ++ y138)) else (none)))) else (none)
set_option maxHeartbeats 8000000 in
set_option maxRecDepth 100000 in
theorem busbarref1_Put.calls (A0 : Option Addr) (c0 : Nat) (l0 : List Int) (a1 : Int) (r : List Int) (w : World) (hr0 : Kd.C (Kd.int .u8) w A0 l0.length l0) (hc0 : l0.length ≤ c0) (h : busbarref1_Put.f l0 a1 = some r) :
  Calls Try.prog 63 #[.slice A0 l0.length c0, .int .u16 a1] w fun e w' => ∃ v0_ : Value, e = .returned (v0_) ∧ Kd.R (Kd.int .u8) 5 w' w.heap.size (fun _ => True) v0_ r ∧ Below w.heap.size w w' := by
 have HR0 := Aside0.mk hr0
 have HC0 := Aside0.mk hc0
 clear hr0 hc0
 have HB := Aside0.mk (Below.refl w.heap.size w)
 have H : (if ([] : List Int).length + l0.length < 140737488355328 then ((some (([] : List Int) ++ l0 : List Int)).bind fun y135 => ((some (([(IntKind.u16.wrap (Int.tdiv a1 256)) % 256, (Int.tmod a1 256) % 256] : List Int) : List Int)).bind fun y138 => (if y135.length + y138.length < 140737488355328 then (some (y135 ++ y138)) else (none)))) else (none)) = some r := h
 clear h
 by_cases c3 : ([] : List Int).length + l0.length < 140737488355328
 ·
  rw [if_pos c3] at H
  have LMc3 := Aside0.mk c3
  clear c3
  obtain ⟨y135, hy135⟩ : ∃ y_ : List Int, y_ = (([] : List Int) ++ l0) := ⟨_, rfl⟩
  replace H : ((some (([(IntKind.u16.wrap (Int.tdiv a1 256)) % 256, (Int.tmod a1 256) % 256] : List Int) : List Int)).bind fun y138 => (if y135.length + y138.length < 140737488355328 then (some (y135 ++ y138)) else (none))) = some r := by first | (rw [hy135]; with_reducible exact H) | (have H2_ := (Option.bind_some _ _).symm.trans H; rw [hy135]; with_reducible exact H2_) | (have H2_ := (Option.bind_some _ _).symm.trans H; with_reducible exact H2_) | with_reducible exact H | (rw [hy135]; exact H) | exact H
  have Ny135 := Aside0.mk hy135
  clear hy135
  obtain ⟨y138, hy138⟩ : ∃ y_ : List Int, y_ = (([(IntKind.u16.wrap (Int.tdiv a1 256)) % 256, (Int.tmod a1 256) % 256] : List Int)) := ⟨_, rfl⟩
  replace H : (if y135.length + y138.length < 140737488355328 then (some (y135 ++ y138)) else (none)) = some r := by first | (rw [hy138]; with_reducible exact H) | (have H2_ := (Option.bind_some _ _).symm.trans H; rw [hy138]; with_reducible exact H2_) | (have H2_ := (Option.bind_some _ _).symm.trans H; with_reducible exact H2_) | with_reducible exact H | (rw [hy138]; exact H) | exact H
  have Ny138 := Aside0.mk hy138
  clear hy138
  by_cases c4 : y135.length + y138.length < 140737488355328
  ·
   rw [if_pos c4] at H
   have LMc4 := Aside0.mk c4
   clear c4
   obtain ⟨y141, hy141⟩ : ∃ y_ : List Int, y_ = (y135 ++ y138) := ⟨_, rfl⟩
   replace H : (some y141) = some r := by first | (rw [hy141]; with_reducible exact H) | (have H2_ := (Option.bind_some _ _).symm.trans H; rw [hy141]; with_reducible exact H2_) | (have H2_ := (Option.bind_some _ _).symm.trans H; with_reducible exact H2_) | with_reducible exact H | (rw [hy141]; exact H) | exact H
   have Ny141 := Aside0.mk hy141
   clear hy141
   obtain rfl := Option.some.inj H
   go_enter Try.func63, Try.ntmps63
   go_wp2_with (first | ((with_reducible refine gate_builtin (b := .append) (xs := #[.const (.slice none 0 0), .tmp 5]) rfl ?_); at_builtin; refine Kd.R_append_rows (Kd.int .u8) (w0 := w) w.heap.size rfl (.const (.slice none 0 0)) (.tmp 5) 30 5 (.int .u8 0) 1 rfl Try.underlying30 info5 rfl (by decide) (by omega) (.slice none 0 0) ([] : List Int) l0 _ _ _ (fun _ => True) (fun _ => False) rfl rfl ?aO ?aR (fun _ _ h => h) (fun _ h => h.elim) ?aF ?aB ?aS ?aL ?_; (case aR => repeat (first | exact HR0.out | (with_reducible refine Kd.C_alloc ?_ _) | (with_reducible refine Kd.C_drewN ?_ _) | (with_reducible refine Kd.C_drew ?_))); (case aB => exact (by repeat (first | (with_reducible first | exact HB.out | apply below_alloc | apply pw_below_drewN | apply below_drew1) | exact HB.out))); (case aF => exact (fun _ _ => trivial)); (case aO => exact ((Kd.R_nil _ _ _ _ (fun _ => True)))); (case aS => exact (below_size (by repeat (first | (with_reducible first | exact HB.out | apply below_alloc | apply pw_below_drewN | apply below_drew1) | exact HB.out)))); (case aL => have := LMc3.out; omega); intro v136 w5 ho hb hg hat; rw [← Ny135.out] at ho; have n0_ := Aside0.mk (hb); have n1_ := Aside0.mk (ho); clear HB; have HB := n0_; have HO137 := n1_; clear n0_ n1_; clear ho hb hg hat) | ((with_reducible refine gate_dst (N := 13) rfl ?_); refine Kd.R_lit (Kd.int .u8) _ 5 ?hg (N := 13) ?hd (xs := ([(IntKind.u16.wrap (Int.tdiv a1 256)) % 256, (Int.tmod a1 256) % 256] : List Int)) (inner := [.int .u8 ((IntKind.u16.wrap (Int.tdiv a1 256)) % 256), .int .u8 ((Int.tmod a1 256) % 256)]) (ok := fun _ => True) (okp := fun _ => True) ?hr ?hp (fun _ hk => hk) trivial (Below.refl _ _) (Nat.le_refl _) (by simp) ?_; (case hd => rfl); (case hg => rfl); (case hr => first | (go_simp; done) | (go_simp; rfl)); (case hp => exact (Reps.one (show Kd.M (Kd.int .u8) _ _ _ ((IntKind.u16.wrap (Int.tdiv a1 256)) % 256) [.int .u8 ((IntKind.u16.wrap (Int.tdiv a1 256)) % 256)] from rfl) (Reps.one (show Kd.M (Kd.int .u8) _ _ _ ((Int.tmod a1 256) % 256) [.int .u8 ((Int.tmod a1 256) % 256)] from rfl) (Reps.none _ _)))); intro v139 w6 ho7 hb hg_ hnew_; clear hg_ hnew_; (first | rw [← Ny138.out] at ho7 | (simp only [Int.reduceToNat] at ho7; rw [← Ny138.out] at ho7)); have n0_ := Aside0.mk (Kd.R_elder' (by (with_reducible repeat (first | apply Kd.R_alloc | apply Kd.R_drewN | apply Kd.R_drew)); exact HO137.out) (Kd.R_base ho7) hb); have n1_ := Aside0.mk (Kd.R_lower (Kd.R_new' ho7 (Kd.R_lt (by (with_reducible repeat (first | apply Kd.R_alloc | apply Kd.R_drewN | apply Kd.R_drew)); exact HO137.out))) (below_size (by repeat (first | (with_reducible first | exact HB.out | apply below_alloc | apply pw_below_drewN | apply below_drew1) | exact HB.out)))); have n2_ := Aside0.mk (below_step (by repeat (first | (with_reducible first | exact HB.out | apply below_alloc | apply pw_below_drewN | apply below_drew1) | exact HB.out)) hb); clear HO137; clear HB; have HO137 := n0_; have HO140 := n1_; have HB := n2_; clear n0_ n1_ n2_; clear hb ho7; obtain ⟨Ao9, co9, eo9⟩ := Kd.R_slice HO140.out; subst eo9) | ((with_reducible refine gate_builtin (b := .append) (xs := #[.tmp 6, .tmp 13]) rfl ?_); at_builtin; refine Kd.R_append_rows (Kd.int .u8) (w0 := w) w.heap.size rfl (.tmp 6) (.tmp 13) 30 5 (.int .u8 0) 1 rfl Try.underlying30 info5 rfl (by decide) (by omega) v136 y135 y138 _ _ _ (fun k_ => some k_ ≠ (.slice Ao9 y138.length co9 : Value).ownBlock) (fun _ => False) rfl rfl ?aO ?aR (fun _ _ h => h) (fun _ h => h.elim) ?aF ?aB ?aS ?aL ?_; (case aR => repeat (first | exact (Kd.R_reads' HO140.out).2.2 | (with_reducible refine Kd.C_alloc ?_ _) | (with_reducible refine Kd.C_drewN ?_ _) | (with_reducible refine Kd.C_drew ?_))); (case aB => exact (by repeat (first | (with_reducible first | exact HB.out | apply below_alloc | apply pw_below_drewN | apply below_drew1) | exact HB.out))); (case aF => exact (fun k_ hk => Kd.fresh' (Kd.R_lt (by (with_reducible repeat (first | apply Kd.R_alloc | apply Kd.R_drewN | apply Kd.R_drew)); exact HO140.out)) k_ hk)); (case aO => exact (by (with_reducible repeat (first | apply Kd.R_alloc | apply Kd.R_drewN | apply Kd.R_drew)); exact Kd.R_mono HO137.out (fun _ hk => by first | exact hk.2 | exact hk))); (case aS => exact (below_size (by repeat (first | (with_reducible first | exact HB.out | apply below_alloc | apply pw_below_drewN | apply below_drew1) | exact HB.out)))); (case aL => have := LMc4.out; omega); intro v142 w8 ho hb hg hat; rw [← Ny141.out] at ho; have n0_ := Aside0.mk (Kd.R_after (ok := (fun _ => True)) (by (with_reducible repeat (first | apply Kd.R_alloc | apply Kd.R_drewN | apply Kd.R_drew)); exact HO140.out) hg hat); have n1_ := Aside0.mk (hb); have n2_ := Aside0.mk (ho); clear HO140; clear HB; clear HO137; have HO140 := n0_; have HB := n1_; have HO143 := n2_; clear n0_ n1_ n2_; clear ho hb hg hat))
   go_ret
   exact ⟨_, by first | rfl | (simp [errW_none, errW_some] <;> rfl) | (simp [*, errW_none, errW_some] <;> rfl), by (with_reducible repeat (first | apply Kd.R_alloc | apply Kd.R_drewN | apply Kd.R_drew)); exact Kd.R_mono HO143.out (fun _ hk => trivial), by repeat (first | (with_reducible first | exact HB.out | apply below_alloc | apply pw_below_drewN | apply below_drew1) | exact HB.out)⟩
  ·
   rw [if_neg c4] at H
   exact absurd H (by simp)
 ·
  rw [if_neg c3] at H
  exact absurd H (by simp)
end Go.Proofs.Ytakiojmjalbfpaa.PFlow
namespace Go.Proofs.Ytakiojmjalbfpaa.PFlow
open Go.RowKit Go.Proofs.YtakiojmjalbfpaaW.PrintWords Go.Proofs.YtakiojmjalbfpaaW.PrintLast Go.Proofs.YtakiojmjalbfpaaW.PrintMore
attribute [local go_sem] max2_int min2_int max_two min_two max_three min_three max_four min_four plus_setCell_drewN plus_cell_same   -- for this text's walks alone
set_option linter.unusedVariables false
set_option linter.unusedSimpArgs false
def busbarref5_two.f (l0 : List Int) (a1 : Int) : Option (List Int) := (busbarref1_Put.f l0 (IntKind.u16.wrap (a1))).bind fun t144 => (some t144)
set_option maxHeartbeats 8000000 in
set_option maxRecDepth 100000 in
theorem busbarref5_two.calls (A0 : Option Addr) (c0 : Nat) (l0 : List Int) (a1 : Int) (r : List Int) (w : World) (hr0 : Kd.C (Kd.int .u8) w A0 l0.length l0) (hc0 : l0.length ≤ c0) (h : busbarref5_two.f l0 a1 = some r) :
  Calls Try.prog 46 #[.slice A0 l0.length c0, .int .i64 a1] w fun e w' => ∃ v0_ : Value, e = .returned (v0_) ∧ Kd.R (Kd.int .u8) 5 w' w.heap.size (fun _ => True) v0_ r ∧ Below w.heap.size w w' := by
 have HR0 := Aside0.mk hr0
 have HC0 := Aside0.mk hc0
 clear hr0 hc0
 have HB := Aside0.mk (Below.refl w.heap.size w)
 have H : ((busbarref1_Put.f l0 (IntKind.u16.wrap (a1))).bind fun t144 => (some t144)) = some r := h
 clear h
 replace H := Option.bind_eq_some_iff.mp H
 obtain ⟨t144, A30, H⟩ := H
 replace H : (some t144) = some r := H
 have A3 := Aside0.mk A30
 clear A30
 obtain rfl := Option.some.inj H
 go_enter Try.func46, Try.ntmps46
 go_wp2_with (first | ((with_reducible refine gate_callee (f := 63) rfl ?_); refine goesL_ (some 8) rfl rfl Try.func63 (by kernel_rfl) rfl #[.slice A0 l0.length c0, .int .u16 (IntKind.u16.wrap (a1))] rfl (by (try simp only [List.map_toArray, List.map_cons, List.map_nil]); first | done | rfl | (simp only [List.length_drop, List.length_take]; rfl)) ?_; (with_reducible refine (busbarref1_Put.calls _ _ l0 (IntKind.u16.wrap (a1)) t144 _ ?side1 ?side2 A3.out).mono ?_); (case side1 => repeat (first | exact HR0.out | (with_reducible refine Kd.C_alloc ?_ _) | (with_reducible refine Kd.C_drewN ?_ _) | (with_reducible refine Kd.C_drew ?_))); (case side2 => exact HC0.out); rintro e w4 ⟨v145, rfl, ho0, hb⟩; refine ⟨_, rfl, ?_⟩; have n0_ := Aside0.mk (Kd.R_lower ho0 (below_size (by repeat (first | (with_reducible first | exact HB.out | apply below_alloc | apply pw_below_drewN | apply below_drew1) | exact HB.out)))); have n1_ := Aside0.mk (below_step (by repeat (first | (with_reducible first | exact HB.out | apply below_alloc | apply pw_below_drewN | apply below_drew1) | exact HB.out)) hb); clear HB; have HO146 := n0_; have HB := n1_; clear n0_ n1_; (try clear hb); (try clear hb2); (try clear hk); (try clear hi); (try clear ho0)))
 go_ret
 exact ⟨_, by first | rfl | (simp [errW_none, errW_some] <;> rfl) | (simp [*, errW_none, errW_some] <;> rfl), by (with_reducible repeat (first | apply Kd.R_alloc | apply Kd.R_drewN | apply Kd.R_drew)); exact HO146.out, by repeat (first | (with_reducible first | exact HB.out | apply below_alloc | apply pw_below_drewN | apply below_drew1) | exact HB.out)⟩
end Go.Proofs.Ytakiojmjalbfpaa.PFlow
namespace Go.Proofs.Ytakiojmjalbfpaa.PFlow
open Go.RowKit Go.Proofs.YtakiojmjalbfpaaW.PrintWords Go.Proofs.YtakiojmjalbfpaaW.PrintLast Go.Proofs.YtakiojmjalbfpaaW.PrintMore
attribute [local go_sem] max2_int min2_int max_two min_two max_three min_three max_four min_four plus_setCell_drewN plus_cell_same   -- for this text's walks alone
set_option linter.unusedVariables false
set_option linter.unusedSimpArgs false
def busbarref5_place.f (a0 : Int) : Option (Bool) := if a0 ≥ 0 then (some (decide (a0 ≤ 65535))) else (some false)
set_option maxHeartbeats 8000000 in
set_option maxRecDepth 100000 in
theorem busbarref5_place.calls (a0 : Int) (r : Bool) (w : World) (h : busbarref5_place.f a0 = some r) :
  Calls Try.prog 60 #[.int .i64 a0] w fun e w' => e = .returned (.bool r) ∧ Drawn0 w w' := by
 have H : (if a0 ≥ 0 then (some (decide (a0 ≤ 65535))) else (some false)) = some r := h
 clear h
 by_cases c2 : a0 ≥ 0
 ·
  rw [if_pos c2] at H
  have c2b0 : decide (0 ≤ a0) = true := decide_eq_true c2
  clear c2
  obtain rfl := Option.some.inj H
  go_enter Try.func60, Try.ntmps60
  go_wp2
  go_ret
  exact ⟨by first | rfl | (simp; done) | (simp [*]; done), by repeat (first | exact Drawn0.refl _ | apply Drawn0.step)⟩
 ·
  rw [if_neg c2] at H
  have c2b0 : decide (0 ≤ a0) = false := decide_eq_false c2
  clear c2
  obtain rfl := Option.some.inj H
  go_enter Try.func60, Try.ntmps60
  go_wp2
  go_ret
  exact ⟨by first | rfl | (simp; done) | (simp [*]; done), by repeat (first | exact Drawn0.refl _ | apply Drawn0.step)⟩
end Go.Proofs.Ytakiojmjalbfpaa.PFlow
namespace Go.Proofs.Ytakiojmjalbfpaa.PFlow
open Go.RowKit Go.Proofs.YtakiojmjalbfpaaW.PrintWords Go.Proofs.YtakiojmjalbfpaaW.PrintLast Go.Proofs.YtakiojmjalbfpaaW.PrintMore
attribute [local go_sem] max2_int min2_int max_two min_two max_three min_three max_four min_four plus_setCell_drewN plus_cell_same   -- for this text's walks alone
set_option linter.unusedVariables false
set_option linter.unusedSimpArgs false
def busbarref5_byteful.f (a0 : Int) : Option (Bool) := if a0 ≥ 0 then (some (decide (a0 ≤ 255))) else (some false)
set_option maxHeartbeats 8000000 in
set_option maxRecDepth 100000 in
theorem busbarref5_byteful.calls (a0 : Int) (r : Bool) (w : World) (h : busbarref5_byteful.f a0 = some r) :
  Calls Try.prog 62 #[.int .i64 a0] w fun e w' => e = .returned (.bool r) ∧ Drawn0 w w' := by
 have H : (if a0 ≥ 0 then (some (decide (a0 ≤ 255))) else (some false)) = some r := h
 clear h
 by_cases c2 : a0 ≥ 0
 ·
  rw [if_pos c2] at H
  have c2b0 : decide (0 ≤ a0) = true := decide_eq_true c2
  clear c2
  obtain rfl := Option.some.inj H
  go_enter Try.func62, Try.ntmps62
  go_wp2
  go_ret
  exact ⟨by first | rfl | (simp; done) | (simp [*]; done), by repeat (first | exact Drawn0.refl _ | apply Drawn0.step)⟩
 ·
  rw [if_neg c2] at H
  have c2b0 : decide (0 ≤ a0) = false := decide_eq_false c2
  clear c2
  obtain rfl := Option.some.inj H
  go_enter Try.func62, Try.ntmps62
  go_wp2
  go_ret
  exact ⟨by first | rfl | (simp; done) | (simp [*]; done), by repeat (first | exact Drawn0.refl _ | apply Drawn0.step)⟩
end Go.Proofs.Ytakiojmjalbfpaa.PFlow
namespace Go.Proofs.Ytakiojmjalbfpaa.PFlow
open Go.RowKit Go.Proofs.YtakiojmjalbfpaaW.PrintWords Go.Proofs.YtakiojmjalbfpaaW.PrintLast Go.Proofs.YtakiojmjalbfpaaW.PrintMore
attribute [local go_sem] max2_int min2_int max_two min_two max_three min_three max_four min_four plus_setCell_drewN plus_cell_same   -- for this text's walks alone
set_option linter.unusedVariables false
set_option linter.unusedSimpArgs false
def busbarref5_PutHead.j0 : Nat → Bool → Int → Int → Int → Option (List Int × Int)
 | 0, _, _, _, _ => none
 | k + 1, x23, x148000, x148001, x148002 => if x23 = true then (some (([] : List Int), 1)) else ((busbarref5_two.f ([] : List Int) x148000).bind fun t150 => ((busbarref5_two.f t150 0).bind fun t153 => ((busbarref5_two.f t153 x148001).bind fun t156 => ((some (([(x148002) % 256] : List Int) : List Int)).bind fun y159 => (if t156.length + y159.length < 140737488355328 then (some ((t156 ++ y159), 0)) else (none))))))
def busbarref5_PutHead.f (k : Nat) (a0_0 : Int) (a0_1 : Int) (a0_2 : Int) : Option (List Int × Int) := (busbarref5_place.f a0_0).bind fun t148 => (if t148 = true then (if a0_1 < 2 then (busbarref5_PutHead.j0 k true a0_0 a0_1 a0_2) else (if a0_1 > 254 then (busbarref5_PutHead.j0 k true a0_0 a0_1 a0_2) else ((busbarref5_byteful.f a0_2).bind fun t149 => (busbarref5_PutHead.j0 k (!t149) a0_0 a0_1 a0_2)))) else (busbarref5_PutHead.j0 k true a0_0 a0_1 a0_2))
theorem busbarref5_PutHead.mono_l : ∀ k, (∀ y0 y1 y2 y3, LeO (busbarref5_PutHead.j0 k y0 y1 y2 y3) (busbarref5_PutHead.j0 (k + 1) y0 y1 y2 y3))
 | 0 => fun _ _ _ _ r h => by simp [busbarref5_PutHead.j0] at h
 | k + 1 => by
  have ih0 := busbarref5_PutHead.mono_l k
  ·
   intro y0 y1 y2 y3
   unfold busbarref5_PutHead.j0
   repeat' first
   | (with_reducible exact ih0 _ _ _ _)
   | (with_reducible exact LeO.refl _)
   | (with_reducible exact LeO.none _)
   | (with_reducible refine LeO.ite ?_ ?_)
   | (with_reducible refine LeO.bind ?_ (fun _ => ?_))
   | exact ih0 _ _ _ _
   | exact LeO.none _
   | refine LeO.ite ?_ ?_
   | refine LeO.bind ?_ (fun _ => ?_)
theorem busbarref5_PutHead.mono : ∀ a0 a1 a2 k, LeO (busbarref5_PutHead.f k a0 a1 a2) (busbarref5_PutHead.f (k + 1) a0 a1 a2) := by
 intro a0 a1 a2 k
 have ih0 := busbarref5_PutHead.mono_l k
 unfold busbarref5_PutHead.f
 repeat' first
   | (with_reducible exact ih0 _ _ _ _)
   | (with_reducible exact LeO.refl _)
   | (with_reducible exact LeO.none _)
   | (with_reducible refine LeO.ite ?_ ?_)
   | (with_reducible refine LeO.bind ?_ (fun _ => ?_))
   | exact ih0 _ _ _ _
   | exact LeO.none _
   | refine LeO.ite ?_ ?_
   | refine LeO.bind ?_ (fun _ => ?_)
def busbarref5_PutHead.T3 : Bool × List (List Nat × List Nat) := (true, [([], []), ([0], [0]), ([1], [1]), ([2, 2], [2]), ([], []), ([4], [4]), ([3, 5, 3], [3, 5]), ([], []), ([7], [7]), ([8], [8]), ([9], [9]), ([6, 10, 6], [6, 10]), ([11, 11, 0, 1, 2, 3, 4, 5, 6, 7, 8, 9, 10, 11], [11]), ([12, 0, 1, 2, 3, 4, 5, 6, 7, 8, 9, 10, 11, 12], [])])
def busbarref5_PutHead.B3 : List Nat := [0, 1, 3, 7, 0, 16, 63, 0, 128, 384, 896, 2047, 4095, 8191]
theorem busbarref5_PutHead.tab3 : rtab .any (opsOf Try.f54 3) = busbarref5_PutHead.T3 := by kernel_rfl
theorem busbarref5_PutHead.bits3 : waitsOk busbarref5_PutHead.T3.2 busbarref5_PutHead.B3 = true := by kernel_rfl
set_option maxHeartbeats 8000000 in
set_option maxRecDepth 100000 in
theorem busbarref5_PutHead.calls (k : Nat) (a0_0 : Int) (a0_1 : Int) (a0_2 : Int) (r1 : List Int) (r2 : Int) (w : World) (h : busbarref5_PutHead.f k a0_0 a0_1 a0_2 = some (r1, r2)) :
  Calls Try.prog 54 #[.agg #[.int .i64 a0_0, .int .i64 a0_1, .int .i64 a0_2]] w fun e w' => ∃ v0_ : Value, e = .returned (.tuple #[v0_, .int .i64 r2]) ∧ Kd.R (Kd.int .u8) 5 w' w.heap.size (fun _ => True) v0_ r1 ∧ Below w.heap.size w w' := by
 have hu91 := Try.underlying91
 have HB := Aside0.mk (Below.refl w.heap.size w)
 have H : ((busbarref5_place.f a0_0).bind fun t148 => (if t148 = true then (if a0_1 < 2 then (busbarref5_PutHead.j0 k true a0_0 a0_1 a0_2) else (if a0_1 > 254 then (busbarref5_PutHead.j0 k true a0_0 a0_1 a0_2) else ((busbarref5_byteful.f a0_2).bind fun t149 => (busbarref5_PutHead.j0 k (!t149) a0_0 a0_1 a0_2)))) else (busbarref5_PutHead.j0 k true a0_0 a0_1 a0_2))) = some (r1, r2) := h
 clear h
 have HC2 := Aside0.mk H
 clear H
 go_enter Try.func54, Try.ntmps54
 go_upto_region 1 with (first | ((with_reducible refine gate_dst (N := 1) rfl ?_); refine box_event ?hg (N := 1) ?hd (cs := #[.int .i64 a0_0, .int .i64 a0_1, .int .i64 a0_2]) (t := 91) ?hr ?_; (case hd => rfl); (case hg => rfl); (case hr => first | (go_simp; done) | (go_simp; rfl)); intro gb147 hg w3 hbox hb; have BK147 := Aside0.mk (hbox); have GW147 := Aside0.mk ((by rw [hg]; exact (below_size (HB.out)) : w.heap.size ≤ gb147)); have GE147 := Aside0.mk ((by rw [hg]; exact (below_size (HB.out)) : w.heap.size ≤ gb147)); replace HB := Aside0.mk (below_step (HB.out) hb); clear hb hbox hg))
 (try simp only [Act.put, List.setIfInBounds_toArray, List.set_cons_zero, List.set_cons_succ])
 go_cut [23] (fun v23 wc => ∃ (kq : Nat) (x23_1 : Bool), v23 = .bool x23_1 ∧ Aside0 (busbarref5_PutHead.j0 kq x23_1 a0_0 a0_1 a0_2 = some (r1, r2)) ∧ Aside0 (kq ≤ k) ∧ Aside0 (wc.heap[gb147]? = some (.cells #[.int .i64 a0_0, .int .i64 a0_1, .int .i64 a0_2] 91 (0, 0))) ∧ Aside0 (Below w.heap.size w wc))
 case first =>
  have H := HC2.out
  clear HC2
  replace H := Option.bind_eq_some_iff.mp H
  obtain ⟨t148, A40, H⟩ := H
  have A4 := Aside0.mk A40
  clear A40
  by_cases c5 : t148 = true
  ·
   subst c5
   have H1 : (if a0_1 < 2 then (busbarref5_PutHead.j0 k true a0_0 a0_1 a0_2) else (if a0_1 > 254 then (busbarref5_PutHead.j0 k true a0_0 a0_1 a0_2) else ((busbarref5_byteful.f a0_2).bind fun t149 => (busbarref5_PutHead.j0 k (!t149) a0_0 a0_1 a0_2)))) = some (r1, r2) := by rw [if_pos rfl] at H; exact H
   clear H
   have H := H1
   clear H1
   by_cases c6 : a0_1 < 2
   ·
    rw [if_pos c6] at H
    have c6b0 : decide (a0_1 < 2) = true := decide_eq_true c6
    clear c6
    (first | rw [c6b0] | (simp only [i64_w, i32_w]; rw [c6b0]) | skip)
    have H' := Aside0.mk H
    clear H
    obtain ⟨hcz7_0, hcz7_1, hcz7_2⟩ := blkc3 BK147.out
    obtain ⟨hfz7_0, hfz7_1, hfz7_2⟩ := blkf3 BK147.out
    go_wp2_with (first | ((with_reducible refine gate_callee (f := 60) rfl ?_); refine goesL_ (some 6) rfl rfl Try.func60 (by kernel_rfl) rfl #[.int .i64 a0_0] rfl (by (try simp only [List.map_toArray, List.map_cons, List.map_nil]); first | done | rfl | (simp only [List.length_drop, List.length_take]; rfl)) ?_; (with_reducible refine (busbarref5_place.calls a0_0 true _ A4.out).mono ?_); rintro e w' ⟨rfl, ⟨nd, rfl⟩⟩; refine ⟨_, rfl, ?_⟩))
    go_meet
    case rel => exact ⟨_, (true), (by first | rfl | (simp; done) | (simp [*]; done)), H', ⟨by first | omega | exact Nat.le_refl _⟩, ⟨by (with_reducible repeat (first | refine blk_drewN ?_ _ | refine blk_drew ?_ | refine blk_alloc ?_ _)); exact BK147.out⟩, ⟨by repeat (first | (with_reducible first | exact HB.out | apply below_alloc | apply pw_below_drewN | apply below_drew1 | refine below_set ?_ GE147.out) | exact HB.out)⟩⟩
   ·
    rw [if_neg c6] at H
    have c6b0 : decide (a0_1 < 2) = false := decide_eq_false c6
    clear c6
    (first | rw [c6b0] | (simp only [i64_w, i32_w]; rw [c6b0]) | skip)
    by_cases c8 : a0_1 > 254
    ·
     rw [if_pos c8] at H
     have c8b0 : decide (254 < a0_1) = true := decide_eq_true c8
     clear c8
     have H' := Aside0.mk H
     clear H
     obtain ⟨hcz9_0, hcz9_1, hcz9_2⟩ := blkc3 BK147.out
     obtain ⟨hfz9_0, hfz9_1, hfz9_2⟩ := blkf3 BK147.out
     go_wp2_with (first | ((with_reducible refine gate_callee (f := 60) rfl ?_); refine goesL_ (some 6) rfl rfl Try.func60 (by kernel_rfl) rfl #[.int .i64 a0_0] rfl (by (try simp only [List.map_toArray, List.map_cons, List.map_nil]); first | done | rfl | (simp only [List.length_drop, List.length_take]; rfl)) ?_; (with_reducible refine (busbarref5_place.calls a0_0 true _ A4.out).mono ?_); rintro e w' ⟨rfl, ⟨nd, rfl⟩⟩; refine ⟨_, rfl, ?_⟩))
     go_meet
     case rel => exact ⟨_, (true), (by first | rfl | (simp; done) | (simp [*]; done)), H', ⟨by first | omega | exact Nat.le_refl _⟩, ⟨by (with_reducible repeat (first | refine blk_drewN ?_ _ | refine blk_drew ?_ | refine blk_alloc ?_ _)); exact BK147.out⟩, ⟨by repeat (first | (with_reducible first | exact HB.out | apply below_alloc | apply pw_below_drewN | apply below_drew1 | refine below_set ?_ GE147.out) | exact HB.out)⟩⟩
    ·
     rw [if_neg c8] at H
     have c8b0 : decide (254 < a0_1) = false := decide_eq_false c8
     clear c8
     replace H := Option.bind_eq_some_iff.mp H
     obtain ⟨t149, A100, H⟩ := H
     have A10 := Aside0.mk A100
     clear A100
     have H' := Aside0.mk H
     clear H
     obtain ⟨hcz11_0, hcz11_1, hcz11_2⟩ := blkc3 BK147.out
     obtain ⟨hfz11_0, hfz11_1, hfz11_2⟩ := blkf3 BK147.out
     go_wp2_with (first | ((with_reducible refine gate_callee (f := 60) rfl ?_); refine goesL_ (some 6) rfl rfl Try.func60 (by kernel_rfl) rfl #[.int .i64 a0_0] rfl (by (try simp only [List.map_toArray, List.map_cons, List.map_nil]); first | done | rfl | (simp only [List.length_drop, List.length_take]; rfl)) ?_; (with_reducible refine (busbarref5_place.calls a0_0 true _ A4.out).mono ?_); rintro e w' ⟨rfl, ⟨nd, rfl⟩⟩; refine ⟨_, rfl, ?_⟩) | (go_at_call 62; (with_reducible refine (busbarref5_byteful.calls a0_2 t149 _ A10.out).mono ?_); rintro e w' ⟨rfl, ⟨nd, rfl⟩⟩))
     go_meet
     case rel => exact ⟨_, (!t149), (by first | rfl | (simp; done) | (simp [*]; done)), H', ⟨by first | omega | exact Nat.le_refl _⟩, ⟨by (with_reducible repeat (first | refine blk_drewN ?_ _ | refine blk_drew ?_ | refine blk_alloc ?_ _)); exact BK147.out⟩, ⟨by repeat (first | (with_reducible first | exact HB.out | apply below_alloc | apply pw_below_drewN | apply below_drew1 | refine below_set ?_ GE147.out) | exact HB.out)⟩⟩
  ·
   replace c5 := Bool.eq_false_iff.mpr c5
   subst c5
   have H1 : (busbarref5_PutHead.j0 k true a0_0 a0_1 a0_2) = some (r1, r2) := by rw [if_neg (show ¬ (false = true) by decide)] at H; exact H
   clear H
   have H := H1
   clear H1
   have H' := Aside0.mk H
   clear H
   obtain ⟨hcz12_0, hcz12_1, hcz12_2⟩ := blkc3 BK147.out
   obtain ⟨hfz12_0, hfz12_1, hfz12_2⟩ := blkf3 BK147.out
   go_wp2_with (first | ((with_reducible refine gate_callee (f := 60) rfl ?_); refine goesL_ (some 6) rfl rfl Try.func60 (by kernel_rfl) rfl #[.int .i64 a0_0] rfl (by (try simp only [List.map_toArray, List.map_cons, List.map_nil]); first | done | rfl | (simp only [List.length_drop, List.length_take]; rfl)) ?_; (with_reducible refine (busbarref5_place.calls a0_0 false _ A4.out).mono ?_); rintro e w' ⟨rfl, ⟨nd, rfl⟩⟩; refine ⟨_, rfl, ?_⟩))
   go_meet
   case rel => exact ⟨_, (true), (by first | rfl | (simp; done) | (simp [*]; done)), H', ⟨by first | omega | exact Nat.le_refl _⟩, ⟨by (with_reducible repeat (first | refine blk_drewN ?_ _ | refine blk_drew ?_ | refine blk_alloc ?_ _)); exact BK147.out⟩, ⟨by repeat (first | (with_reducible first | exact HB.out | apply below_alloc | apply pw_below_drewN | apply below_drew1 | refine below_set ?_ GE147.out) | exact HB.out)⟩⟩
 case rest =>
  clear HC2
  obtain ⟨kq, x23_1, rfl, HA, HJ1, BK147, HB⟩ := hcut
  cases kq with
  | zero => exact absurd HA.out (by simp [busbarref5_PutHead.j0])
  | succ kj1 =>
   have H := HA.out
   clear HA
   simp only [busbarref5_PutHead.j0] at H
   by_cases c13 : x23_1 = true
   ·
    subst c13
    have H1 : (some (([] : List Int), 1)) = some (r1, r2) := by rw [if_pos rfl] at H; exact H
    clear H
    have H := H1
    clear H1
    simp only [Option.some.injEq, Prod.mk.injEq] at H
    obtain ⟨rfl, rfl⟩ := H
    go_wp2
    go_ret2
    exact ⟨_, by first | rfl | (simp [errW_none, errW_some] <;> rfl) | (simp [*, errW_none, errW_some] <;> rfl), by first | exact Kd.R_nil _ _ _ _ _ | exact Kd.N_nil _ _ _ _ _ | exact Kd.V_nil _ _ _ _ _ | exact Kd.Q_nil _ _ _ _ _ | exact Kd.S_nil _ _ _ _ _, HB.out⟩
   ·
    replace c13 := Bool.eq_false_iff.mpr c13
    subst c13
    have H1 : ((busbarref5_two.f ([] : List Int) a0_0).bind fun t150 => ((busbarref5_two.f t150 0).bind fun t153 => ((busbarref5_two.f t153 a0_1).bind fun t156 => ((some (([(a0_2) % 256] : List Int) : List Int)).bind fun y159 => (if t156.length + y159.length < 140737488355328 then (some ((t156 ++ y159), 0)) else (none)))))) = some (r1, r2) := by rw [if_neg (show ¬ (false = true) by decide)] at H; exact H
    clear H
    have H := H1
    clear H1
    replace H := Option.bind_eq_some_iff.mp H
    obtain ⟨t150, A140, H⟩ := H
    have A14 := Aside0.mk A140
    clear A140
    replace H := Option.bind_eq_some_iff.mp H
    obtain ⟨t153, A150, H⟩ := H
    have A15 := Aside0.mk A150
    clear A150
    replace H := Option.bind_eq_some_iff.mp H
    obtain ⟨t156, A160, H⟩ := H
    have A16 := Aside0.mk A160
    clear A160
    obtain ⟨y159, hy159⟩ : ∃ y_ : List Int, y_ = (([(a0_2) % 256] : List Int)) := ⟨_, rfl⟩
    replace H : (if t156.length + y159.length < 140737488355328 then (some ((t156 ++ y159), 0)) else (none)) = some (r1, r2) := by first | (rw [hy159]; with_reducible exact H) | (have H2_ := (Option.bind_some _ _).symm.trans H; rw [hy159]; with_reducible exact H2_) | (have H2_ := (Option.bind_some _ _).symm.trans H; with_reducible exact H2_) | with_reducible exact H | (rw [hy159]; exact H) | exact H
    have Ny159 := Aside0.mk hy159
    clear hy159
    by_cases c17 : t156.length + y159.length < 140737488355328
    ·
     rw [if_pos c17] at H
     have LMc17 := Aside0.mk c17
     clear c17
     obtain ⟨y162, hy162⟩ : ∃ y_ : List Int, y_ = (t156 ++ y159) := ⟨_, rfl⟩
     replace H : (some (y162, 0)) = some (r1, r2) := by first | (rw [hy162]; with_reducible exact H) | (have H2_ := (Option.bind_some _ _).symm.trans H; rw [hy162]; with_reducible exact H2_) | (have H2_ := (Option.bind_some _ _).symm.trans H; with_reducible exact H2_) | with_reducible exact H | (rw [hy162]; exact H) | exact H
     have Ny162 := Aside0.mk hy162
     clear hy162
     simp only [Option.some.injEq, Prod.mk.injEq] at H
     obtain ⟨rfl, rfl⟩ := H
     try go_wp2
     have n0_ := Aside0.mk (blk_drew BK147.out)
     have n1_ := Aside0.mk (below_drew1 HB.out)
     clear BK147
     clear HB
     have BK147 := n0_
     have HB := n1_
     clear n0_ n1_
     refine start_ (n := 14) (S := fun w' => w'.cell? ⟨gb147, 0, none⟩ = some (.int .i64 a0_0) ∧ w'.cell? ⟨gb147, 1, none⟩ = some (.int .i64 a0_1) ∧ w'.cell? ⟨gb147, 2, none⟩ = some (.int .i64 a0_2)) (ds := []) #[false,false,false,false,false,false,false,false,false,false,false,false,false,false] (by kernel_rfl) rfl rfl ⟨(blk_cell BK147.out 0).trans rfl, (blk_cell BK147.out 1).trans rfl, (blk_cell BK147.out 2).trans rfl⟩ (fun hHeld => ?_); refine with_tabW busbarref5_PutHead.tab3 busbarref5_PutHead.bits3 (fun HT_ HW_ => ?_)
     generalize wc.drew = w18 at BK147 HB hHeld ⊢
     refine pure_ (i := 0) (N := some 24) (v := ?_) (a' := ?_) #[true,false,false,false,false,false,false,false,false,false,false,false,false,false] rfl rfl (any_of HT_.out (by kernel_rfl)) (fun _ _ _ h => h) (Or.inl ⟨by rfl, ?_⟩) ?_ ?_
     rotate_left
     ·
      intro w'
      go_simp
      with_reducible rfl
     rotate_left
     ·
      simp only [Act.put, List.setIfInBounds_toArray, List.set_cons_zero, List.set_cons_succ, i64_w, i32_w]
      rfl
     refine pure_ (i := 4) (N := some 28) (v := ?_) (a' := ?_) #[true,false,false,false,true,false,false,false,false,false,false,false,false,false] rfl rfl (any_of HT_.out (by kernel_rfl)) (fun _ _ _ h => h) (Or.inl ⟨by rfl, ?_⟩) ?_ ?_
     rotate_left
     ·
      intro w'
      go_simp
      with_reducible rfl
     rotate_left
     ·
      simp only [Act.put, List.setIfInBounds_toArray, List.set_cons_zero, List.set_cons_succ, i64_w, i32_w]
      rfl
     refine pure_ (i := 7) (N := some 31) (v := ?_) (a' := ?_) #[true,false,false,false,true,false,false,true,false,false,false,false,false,false] rfl rfl (any_of HT_.out (by kernel_rfl)) (fun _ _ _ h => h) (Or.inl ⟨by rfl, ?_⟩) ?_ ?_
     rotate_left
     ·
      intro w'
      go_simp
      with_reducible rfl
     rotate_left
     ·
      simp only [Act.put, List.setIfInBounds_toArray, List.set_cons_zero, List.set_cons_succ, i64_w, i32_w]
      rfl
     refine take_ (i := 1) (N := some 25) (v := ?_) (a' := ?_) #[true,true,false,false,true,false,false,true,false,false,false,false,false,false] rfl rfl (take_ofW HT_.out HW_.out (by kernel_rfl)) (fun _ _ _ h => h) (Or.inl ⟨by rfl, ?_⟩) hHeld ?_ ?_
     rotate_left
     ·
      rintro w' ⟨s0, s1, s2⟩
      go_simp
      with_reducible rfl
     rotate_left
     ·
      simp only [Act.put, List.setIfInBounds_toArray, List.set_cons_zero, List.set_cons_succ, i64_w, i32_w]
      rfl
     refine take_ (i := 5) (N := some 29) (v := ?_) (a' := ?_) #[true,true,false,false,true,true,false,true,false,false,false,false,false,false] rfl rfl (take_ofW HT_.out HW_.out (by kernel_rfl)) (fun _ _ _ h => h) (Or.inl ⟨by rfl, ?_⟩) hHeld ?_ ?_
     rotate_left
     ·
      rintro w' ⟨s0, s1, s2⟩
      go_simp
      with_reducible rfl
     rotate_left
     ·
      simp only [Act.put, List.setIfInBounds_toArray, List.set_cons_zero, List.set_cons_succ, i64_w, i32_w]
      rfl
     refine take_ (i := 8) (N := some 32) (v := ?_) (a' := ?_) #[true,true,false,false,true,true,false,true,true,false,false,false,false,false] rfl rfl (take_ofW HT_.out HW_.out (by kernel_rfl)) (fun _ _ _ h => h) (Or.inl ⟨by rfl, ?_⟩) hHeld ?_ ?_
     rotate_left
     ·
      rintro w' ⟨s0, s1, s2⟩
      go_simp
      with_reducible rfl
     rotate_left
     ·
      simp only [Act.put, List.setIfInBounds_toArray, List.set_cons_zero, List.set_cons_succ, i64_w, i32_w]
      rfl
     refine pure_ (i := 9) (N := some 33) (v := ?_) (a' := ?_) #[true,true,false,false,true,true,false,true,true,true,false,false,false,false] rfl rfl (any_of HT_.out (by kernel_rfl)) (fun _ _ _ h => h) (Or.inl ⟨by rfl, ?_⟩) ?_ ?_
     rotate_left
     ·
      intro w'
      go_simp
      with_reducible rfl
     rotate_left
     ·
      simp only [Act.put, List.setIfInBounds_toArray, List.set_cons_zero, List.set_cons_succ, i64_w, i32_w]
      rfl
     refine join_ (σ := Value × Value × Value × Value) 3 #[true,true,true,true,true,true,true,true,true,true,true,false,false,false] (fun s_ => [(26, s_.1), (27, s_.2.1), (30, s_.2.2.1), (34, s_.2.2.2)]) (fun s_ w' => (w'.cell? ⟨gb147, 0, none⟩ = some (.int .i64 a0_0) ∧ w'.cell? ⟨gb147, 1, none⟩ = some (.int .i64 a0_1) ∧ w'.cell? ⟨gb147, 2, none⟩ = some (.int .i64 a0_2)) ∧ (Kd.R (Kd.int .u8) 5 w' w.heap.size (fun k_ => some k_ ≠ (s_.2.1 : Value).ownBlock ∧ some k_ ≠ (s_.2.2.1 : Value).ownBlock ∧ some k_ ≠ (s_.2.2.2 : Value).ownBlock) s_.1 t150) ∧ (Kd.R (Kd.int .u8) 5 w' w.heap.size (fun k_ => some k_ ≠ (s_.1 : Value).ownBlock ∧ some k_ ≠ (s_.2.2.1 : Value).ownBlock ∧ some k_ ≠ (s_.2.2.2 : Value).ownBlock) s_.2.1 t153) ∧ (Kd.R (Kd.int .u8) 5 w' w.heap.size (fun k_ => some k_ ≠ (s_.1 : Value).ownBlock ∧ some k_ ≠ (s_.2.1 : Value).ownBlock ∧ some k_ ≠ (s_.2.2.2 : Value).ownBlock) s_.2.2.1 t156) ∧ (Kd.R (Kd.int .u8) 5 w' w.heap.size (fun k_ => some k_ ≠ (s_.1 : Value).ownBlock ∧ some k_ ≠ (s_.2.1 : Value).ownBlock ∧ some k_ ≠ (s_.2.2.1 : Value).ownBlock) s_.2.2.2 y159) ∧ (w'.heap[gb147]? = some (.cells #[.int .i64 a0_0, .int .i64 a0_1, .int .i64 a0_2] 91 (0, 0))) ∧ (Below w.heap.size w w')) ?_ ?_
     rotate_left
     ·
      intro hCont
      refine two_ (i := 2) (j := 10) (Ni := some 26) (Nj := some 34) #[true,true,true,false,true,true,false,true,true,true,false,false,false,false] #[true,true,false,false,true,true,false,true,true,true,true,false,false,false] rfl rfl rfl rfl (two_of HT_.out (by kernel_rfl)) (by decide) (by decide) (fun K hK => ?_) (fun K hK => ?_)
      ·
       skip
       refine goes_ Try.func46 (by kernel_rfl) rfl #[.slice none 0 0, .int .i64 a0_0] (by rfl) rfl rfl (by (try simp only [List.map_toArray, List.map_cons, List.map_nil]); first | done | rfl | (simp only [List.length_drop, List.length_take]; rfl)) ?_
       refine (busbarref5_two.calls _ _ ([] : List Int) a0_0 t150 _ ?side1 ?side2 A14.out).mono ?_
       (case side1 => exact Kd.C_nil _ _)
       (case side2 => exact Nat.le_refl _)
       rintro e w19 ⟨v151, rfl, ho0, hb⟩
       refine ⟨_, rfl, ?_⟩
       have n0_ := Aside0.mk (Kd.R_lower ho0 (below_size (HB.out)))
       have n1_ := Aside0.mk (blk_below BK147.out hb)
       have n2_ := Aside0.mk (below_step (HB.out) hb)
       clear BK147
       clear HB
       have HO152 := n0_
       have BK147 := n1_
       have HB := n2_
       clear n0_ n1_ n2_
       (try clear hb)
       (try clear hb2)
       (try clear hk)
       (try clear hi)
       (try clear ho0)
       obtain ⟨Ao20, co20, eo20⟩ := Kd.R_slice HO152.out
       (first | subst eo20 | (injection eo20 with f1_ f2_ f3_; have f4_ := f1_.symm; have f5_ := f3_.symm; clear f1_ f2_ f3_; subst f4_; subst f5_))
       refine hK.out _ _ ⟨(blk_cell BK147.out 0).trans rfl, (blk_cell BK147.out 1).trans rfl, (blk_cell BK147.out 2).trans rfl⟩ (fun hHeld => ?_)
       clear hK K
       refine norm_ (a' := ?_) ?_ ?_
       rotate_left
       ·
        show Act.put _ (some 26) _ = _
        simp only [Act.put, List.setIfInBounds_toArray, List.set_cons_zero, List.set_cons_succ, i64_w, i32_w]
        rfl
       refine two_ (i := 3) (j := 10) (Ni := some 27) (Nj := some 34) #[true,true,true,true,true,true,false,true,true,true,false,false,false,false] #[true,true,true,false,true,true,false,true,true,true,true,false,false,false] rfl rfl rfl rfl (two_of HT_.out (by kernel_rfl)) (by decide) (by decide) (fun K hK => ?_) (fun K hK => ?_)
       ·
        skip
        refine goes_ Try.func46 (by kernel_rfl) rfl #[.slice Ao20 t150.length co20, .int .i64 0] (by rfl) rfl rfl (by (try simp only [List.map_toArray, List.map_cons, List.map_nil]); first | done | rfl | (simp only [List.length_drop, List.length_take]; rfl)) ?_
        with_reducible refine (busbarref5_two.calls _ _ t150 0 t153 _ ?side1 ?side2 A15.out).mono ?_
        (case side1 => repeat (first | exact (Kd.R_reads' HO152.out).2.2 | (with_reducible refine Kd.C_alloc ?_ _) | (with_reducible refine Kd.C_drewN ?_ _) | (with_reducible refine Kd.C_drew ?_)))
        (case side2 => exact (Kd.R_reads' HO152.out).2.1)
        rintro e w21 ⟨v154, rfl, ho0, hb⟩
        refine ⟨_, rfl, ?_⟩
        have n0_ := Aside0.mk (Kd.R_elder' (HO152.out) (Kd.R_base ho0) hb)
        have n1_ := Aside0.mk (Kd.R_lower (Kd.R_new' ho0 (Kd.R_lt (HO152.out))) (below_size (HB.out)))
        have n2_ := Aside0.mk (blk_below BK147.out hb)
        have n3_ := Aside0.mk (below_step (HB.out) hb)
        clear HO152
        clear BK147
        clear HB
        have HO152 := n0_
        have HO155 := n1_
        have BK147 := n2_
        have HB := n3_
        clear n0_ n1_ n2_ n3_
        (try clear hb)
        (try clear hb2)
        (try clear hk)
        (try clear hi)
        (try clear ho0)
        obtain ⟨Ao22, co22, eo22⟩ := Kd.R_slice HO155.out
        (first | subst eo22 | (injection eo22 with f1_ f2_ f3_; have f4_ := f1_.symm; have f5_ := f3_.symm; clear f1_ f2_ f3_; subst f4_; subst f5_))
        refine hK.out _ _ ⟨(blk_cell BK147.out 0).trans rfl, (blk_cell BK147.out 1).trans rfl, (blk_cell BK147.out 2).trans rfl⟩ (fun hHeld => ?_)
        clear hK K
        refine norm_ (a' := ?_) ?_ ?_
        rotate_left
        ·
         show Act.put _ (some 27) _ = _
         simp only [Act.put, List.setIfInBounds_toArray, List.set_cons_zero, List.set_cons_succ, i64_w, i32_w]
         rfl
        refine two_ (i := 6) (j := 10) (Ni := some 30) (Nj := some 34) #[true,true,true,true,true,true,true,true,true,true,false,false,false,false] #[true,true,true,true,true,true,false,true,true,true,true,false,false,false] rfl rfl rfl rfl (two_of HT_.out (by kernel_rfl)) (by decide) (by decide) (fun K hK => ?_) (fun K hK => ?_)
        ·
         skip
         refine goes_ Try.func46 (by kernel_rfl) rfl #[.slice Ao22 t153.length co22, .int .i64 a0_1] (by rfl) rfl rfl (by (try simp only [List.map_toArray, List.map_cons, List.map_nil]); first | done | rfl | (simp only [List.length_drop, List.length_take]; rfl)) ?_
         with_reducible refine (busbarref5_two.calls _ _ t153 a0_1 t156 _ ?side1 ?side2 A16.out).mono ?_
         (case side1 => repeat (first | exact (Kd.R_reads' HO155.out).2.2 | (with_reducible refine Kd.C_alloc ?_ _) | (with_reducible refine Kd.C_drewN ?_ _) | (with_reducible refine Kd.C_drew ?_)))
         (case side2 => exact (Kd.R_reads' HO155.out).2.1)
         rintro e w23 ⟨v157, rfl, ho0, hb⟩
         refine ⟨_, rfl, ?_⟩
         have n0_ := Aside0.mk (Kd.R_elder' (HO152.out) (Kd.R_base ho0) hb)
         have n1_ := Aside0.mk (Kd.R_elder' (HO155.out) (Kd.R_base ho0) hb)
         have n2_ := Aside0.mk (Kd.R_lower (Kd.R_new' (Kd.R_new' ho0 (Kd.R_lt (HO152.out))) (Kd.R_lt (HO155.out))) (below_size (HB.out)))
         have n3_ := Aside0.mk (blk_below BK147.out hb)
         have n4_ := Aside0.mk (below_step (HB.out) hb)
         clear HO152
         clear HO155
         clear BK147
         clear HB
         have HO152 := n0_
         have HO155 := n1_
         have HO158 := n2_
         have BK147 := n3_
         have HB := n4_
         clear n0_ n1_ n2_ n3_ n4_
         (try clear hb)
         (try clear hb2)
         (try clear hk)
         (try clear hi)
         (try clear ho0)
         refine hK.out _ _ ⟨(blk_cell BK147.out 0).trans rfl, (blk_cell BK147.out 1).trans rfl, (blk_cell BK147.out 2).trans rfl⟩ (fun hHeld => ?_)
         clear hK K
         refine norm_ (a' := ?_) ?_ ?_
         rotate_left
         ·
          show Act.put _ (some 30) _ = _
          simp only [Act.put, List.setIfInBounds_toArray, List.set_cons_zero, List.set_cons_succ, i64_w, i32_w]
          rfl
         refine one_ (i := 10) (N := some 34) #[true,true,true,true,true,true,true,true,true,true,true,false,false,false] rfl rfl (one_of HT_.out (by kernel_rfl)) (by decide) (fun K hK => ?_)
         refine Kd.R_lit_step (Kd.int .u8) _ 5 ?hg (N := 34) ?hd (xs := ([(a0_2) % 256] : List Int)) (inner := [.int .u8 ((a0_2) % 256)]) (ok := fun _ => True) (okp := fun _ => True) ?hr ?hp (fun _ hk => hk) trivial (Below.refl _ _) (Nat.le_refl _) (by simp) ?_; (case hd => rfl); (case hg => rfl); (case hr => first | (go_simp; done) | (go_simp; rfl)); (case hp => exact (Reps.one (show Kd.M (Kd.int .u8) _ _ _ ((a0_2) % 256) [.int .u8 ((a0_2) % 256)] from rfl) (Reps.none _ _)))
         intro v160 w24 ho25 hb hg_ hnew_
         clear hg_ hnew_
         (first | rw [← Ny159.out] at ho25 | (simp only [Int.reduceToNat] at ho25; rw [← Ny159.out] at ho25))
         have n0_ := Aside0.mk (Kd.R_elder' (HO152.out) (Kd.R_base ho25) hb)
         have n1_ := Aside0.mk (Kd.R_elder' (HO155.out) (Kd.R_base ho25) hb)
         have n2_ := Aside0.mk (Kd.R_elder' (HO158.out) (Kd.R_base ho25) hb)
         have n3_ := Aside0.mk (Kd.R_lower (Kd.R_new' (Kd.R_new' (Kd.R_new' ho25 (Kd.R_lt (HO152.out))) (Kd.R_lt (HO155.out))) (Kd.R_lt (HO158.out))) (below_size (HB.out)))
         have n4_ := Aside0.mk (blk_below BK147.out hb)
         have n5_ := Aside0.mk (below_step (HB.out) hb)
         clear HO152
         clear HO155
         clear HO158
         clear BK147
         clear HB
         have HO152 := n0_
         have HO155 := n1_
         have HO158 := n2_
         have HO161 := n3_
         have BK147 := n4_
         have HB := n5_
         clear n0_ n1_ n2_ n3_ n4_ n5_
         clear hb ho25
         refine hK.out _ _ ⟨(blk_cell BK147.out 0).trans rfl, (blk_cell BK147.out 1).trans rfl, (blk_cell BK147.out 2).trans rfl⟩ (fun hHeld => ?_)
         clear hK K
         refine norm_ (a' := ?_) ?_ ?_
         rotate_left
         ·
          show Act.put _ (some 34) _ = _
          simp only [Act.put, List.setIfInBounds_toArray, List.set_cons_zero, List.set_cons_succ, i64_w, i32_w]
          rfl
         exact norm_ (by simp only [putAll, Act.put, List.setIfInBounds_toArray, List.set_cons_zero, List.set_cons_succ]) (hCont (.slice Ao20 t150.length co20, .slice Ao22 t153.length co22, v157, v160) _ ⟨hHeld, (Kd.R_mono HO152.out (fun _ hk => ⟨hk.1.1.2, ⟨hk.1.2, hk.2⟩⟩)), (Kd.R_mono HO155.out (fun _ hk => ⟨hk.1.1.2, ⟨hk.1.2, hk.2⟩⟩)), (Kd.R_mono HO158.out (fun _ hk => ⟨hk.1.1.2, ⟨hk.1.2, hk.2⟩⟩)), (Kd.R_mono HO161.out (fun _ hk => ⟨hk.1.1.2, ⟨hk.1.2, hk.2⟩⟩)), (BK147.out), (HB.out)⟩)
        ·
         skip
         refine Kd.R_lit_step (Kd.int .u8) _ 5 ?hg (N := 34) ?hd (xs := ([(a0_2) % 256] : List Int)) (inner := [.int .u8 ((a0_2) % 256)]) (ok := fun _ => True) (okp := fun _ => True) ?hr ?hp (fun _ hk => hk) trivial (Below.refl _ _) (Nat.le_refl _) (by simp) ?_; (case hd => rfl); (case hg => rfl); (case hr => first | (go_simp; done) | (go_simp; rfl)); (case hp => exact (Reps.one (show Kd.M (Kd.int .u8) _ _ _ ((a0_2) % 256) [.int .u8 ((a0_2) % 256)] from rfl) (Reps.none _ _)))
         intro v160 w22 ho23 hb hg_ hnew_
         clear hg_ hnew_
         (first | rw [← Ny159.out] at ho23 | (simp only [Int.reduceToNat] at ho23; rw [← Ny159.out] at ho23))
         have n0_ := Aside0.mk (Kd.R_elder' (HO152.out) (Kd.R_base ho23) hb)
         have n1_ := Aside0.mk (Kd.R_elder' (HO155.out) (Kd.R_base ho23) hb)
         have n2_ := Aside0.mk (Kd.R_lower (Kd.R_new' (Kd.R_new' ho23 (Kd.R_lt (HO152.out))) (Kd.R_lt (HO155.out))) (below_size (HB.out)))
         have n3_ := Aside0.mk (blk_below BK147.out hb)
         have n4_ := Aside0.mk (below_step (HB.out) hb)
         clear HO152
         clear HO155
         clear BK147
         clear HB
         have HO152 := n0_
         have HO155 := n1_
         have HO161 := n2_
         have BK147 := n3_
         have HB := n4_
         clear n0_ n1_ n2_ n3_ n4_
         clear hb ho23
         obtain ⟨Ao24, co24, eo24⟩ := Kd.R_slice HO155.out
         (first | subst eo24 | (injection eo24 with f1_ f2_ f3_; have f4_ := f1_.symm; have f5_ := f3_.symm; clear f1_ f2_ f3_; subst f4_; subst f5_))
         refine hK.out _ _ ⟨(blk_cell BK147.out 0).trans rfl, (blk_cell BK147.out 1).trans rfl, (blk_cell BK147.out 2).trans rfl⟩ (fun hHeld => ?_)
         clear hK K
         refine norm_ (a' := ?_) ?_ ?_
         rotate_left
         ·
          show Act.put _ (some 34) _ = _
          simp only [Act.put, List.setIfInBounds_toArray, List.set_cons_zero, List.set_cons_succ, i64_w, i32_w]
          rfl
         refine one_ (i := 6) (N := some 30) #[true,true,true,true,true,true,true,true,true,true,true,false,false,false] rfl rfl (one_of HT_.out (by kernel_rfl)) (by decide) (fun K hK => ?_)
         refine goes_ Try.func46 (by kernel_rfl) rfl #[.slice Ao24 t153.length co24, .int .i64 a0_1] (by rfl) rfl rfl (by (try simp only [List.map_toArray, List.map_cons, List.map_nil]); first | done | rfl | (simp only [List.length_drop, List.length_take]; rfl)) ?_
         with_reducible refine (busbarref5_two.calls _ _ t153 a0_1 t156 _ ?side1 ?side2 A16.out).mono ?_
         (case side1 => repeat (first | exact (Kd.R_reads' HO155.out).2.2 | (with_reducible refine Kd.C_alloc ?_ _) | (with_reducible refine Kd.C_drewN ?_ _) | (with_reducible refine Kd.C_drew ?_)))
         (case side2 => exact (Kd.R_reads' HO155.out).2.1)
         rintro e w25 ⟨v157, rfl, ho0, hb⟩
         refine ⟨_, rfl, ?_⟩
         have n0_ := Aside0.mk (Kd.R_elder' (HO152.out) (Kd.R_base ho0) hb)
         have n1_ := Aside0.mk (Kd.R_elder' (HO155.out) (Kd.R_base ho0) hb)
         have n2_ := Aside0.mk (Kd.R_elder' (HO161.out) (Kd.R_base ho0) hb)
         have n3_ := Aside0.mk (Kd.R_lower (Kd.R_new' (Kd.R_new' (Kd.R_new' ho0 (Kd.R_lt (HO152.out))) (Kd.R_lt (HO155.out))) (Kd.R_lt (HO161.out))) (below_size (HB.out)))
         have n4_ := Aside0.mk (blk_below BK147.out hb)
         have n5_ := Aside0.mk (below_step (HB.out) hb)
         clear HO152
         clear HO155
         clear HO161
         clear BK147
         clear HB
         have HO152 := n0_
         have HO155 := n1_
         have HO161 := n2_
         have HO158 := n3_
         have BK147 := n4_
         have HB := n5_
         clear n0_ n1_ n2_ n3_ n4_ n5_
         (try clear hb)
         (try clear hb2)
         (try clear hk)
         (try clear hi)
         (try clear ho0)
         refine hK.out _ _ ⟨(blk_cell BK147.out 0).trans rfl, (blk_cell BK147.out 1).trans rfl, (blk_cell BK147.out 2).trans rfl⟩ (fun hHeld => ?_)
         clear hK K
         refine norm_ (a' := ?_) ?_ ?_
         rotate_left
         ·
          show Act.put _ (some 30) _ = _
          simp only [Act.put, List.setIfInBounds_toArray, List.set_cons_zero, List.set_cons_succ, i64_w, i32_w]
          rfl
         exact norm_ (by simp only [putAll, Act.put, List.setIfInBounds_toArray, List.set_cons_zero, List.set_cons_succ]) (hCont (.slice Ao20 t150.length co20, .slice Ao24 t153.length co24, v157, v160) _ ⟨hHeld, (Kd.R_mono HO152.out (fun _ hk => ⟨hk.1.1.2, ⟨hk.2, hk.1.2⟩⟩)), (Kd.R_mono HO155.out (fun _ hk => ⟨hk.1.1.2, ⟨hk.2, hk.1.2⟩⟩)), (Kd.R_mono HO158.out (fun _ hk => ⟨hk.1.1.2, ⟨hk.1.2, hk.2⟩⟩)), (Kd.R_mono HO161.out (fun _ hk => ⟨hk.1.1.2, ⟨hk.1.2, hk.2⟩⟩)), (BK147.out), (HB.out)⟩)
       ·
        skip
        refine Kd.R_lit_step (Kd.int .u8) _ 5 ?hg (N := 34) ?hd (xs := ([(a0_2) % 256] : List Int)) (inner := [.int .u8 ((a0_2) % 256)]) (ok := fun _ => True) (okp := fun _ => True) ?hr ?hp (fun _ hk => hk) trivial (Below.refl _ _) (Nat.le_refl _) (by simp) ?_; (case hd => rfl); (case hg => rfl); (case hr => first | (go_simp; done) | (go_simp; rfl)); (case hp => exact (Reps.one (show Kd.M (Kd.int .u8) _ _ _ ((a0_2) % 256) [.int .u8 ((a0_2) % 256)] from rfl) (Reps.none _ _)))
        intro v160 w20 ho21 hb hg_ hnew_
        clear hg_ hnew_
        (first | rw [← Ny159.out] at ho21 | (simp only [Int.reduceToNat] at ho21; rw [← Ny159.out] at ho21))
        have n0_ := Aside0.mk (Kd.R_elder' (HO152.out) (Kd.R_base ho21) hb)
        have n1_ := Aside0.mk (Kd.R_lower (Kd.R_new' ho21 (Kd.R_lt (HO152.out))) (below_size (HB.out)))
        have n2_ := Aside0.mk (blk_below BK147.out hb)
        have n3_ := Aside0.mk (below_step (HB.out) hb)
        clear HO152
        clear BK147
        clear HB
        have HO152 := n0_
        have HO161 := n1_
        have BK147 := n2_
        have HB := n3_
        clear n0_ n1_ n2_ n3_
        clear hb ho21
        obtain ⟨Ao22, co22, eo22⟩ := Kd.R_slice HO152.out
        (first | subst eo22 | (injection eo22 with f1_ f2_ f3_; have f4_ := f1_.symm; have f5_ := f3_.symm; clear f1_ f2_ f3_; subst f4_; subst f5_))
        refine hK.out _ _ ⟨(blk_cell BK147.out 0).trans rfl, (blk_cell BK147.out 1).trans rfl, (blk_cell BK147.out 2).trans rfl⟩ (fun hHeld => ?_)
        clear hK K
        refine norm_ (a' := ?_) ?_ ?_
        rotate_left
        ·
         show Act.put _ (some 34) _ = _
         simp only [Act.put, List.setIfInBounds_toArray, List.set_cons_zero, List.set_cons_succ, i64_w, i32_w]
         rfl
        refine one_ (i := 3) (N := some 27) #[true,true,true,true,true,true,false,true,true,true,true,false,false,false] rfl rfl (one_of HT_.out (by kernel_rfl)) (by decide) (fun K hK => ?_)
        refine goes_ Try.func46 (by kernel_rfl) rfl #[.slice Ao22 t150.length co22, .int .i64 0] (by rfl) rfl rfl (by (try simp only [List.map_toArray, List.map_cons, List.map_nil]); first | done | rfl | (simp only [List.length_drop, List.length_take]; rfl)) ?_
        with_reducible refine (busbarref5_two.calls _ _ t150 0 t153 _ ?side1 ?side2 A15.out).mono ?_
        (case side1 => repeat (first | exact (Kd.R_reads' HO152.out).2.2 | (with_reducible refine Kd.C_alloc ?_ _) | (with_reducible refine Kd.C_drewN ?_ _) | (with_reducible refine Kd.C_drew ?_)))
        (case side2 => exact (Kd.R_reads' HO152.out).2.1)
        rintro e w23 ⟨v154, rfl, ho0, hb⟩
        refine ⟨_, rfl, ?_⟩
        have n0_ := Aside0.mk (Kd.R_elder' (HO152.out) (Kd.R_base ho0) hb)
        have n1_ := Aside0.mk (Kd.R_elder' (HO161.out) (Kd.R_base ho0) hb)
        have n2_ := Aside0.mk (Kd.R_lower (Kd.R_new' (Kd.R_new' ho0 (Kd.R_lt (HO152.out))) (Kd.R_lt (HO161.out))) (below_size (HB.out)))
        have n3_ := Aside0.mk (blk_below BK147.out hb)
        have n4_ := Aside0.mk (below_step (HB.out) hb)
        clear HO152
        clear HO161
        clear BK147
        clear HB
        have HO152 := n0_
        have HO161 := n1_
        have HO155 := n2_
        have BK147 := n3_
        have HB := n4_
        clear n0_ n1_ n2_ n3_ n4_
        (try clear hb)
        (try clear hb2)
        (try clear hk)
        (try clear hi)
        (try clear ho0)
        obtain ⟨Ao24, co24, eo24⟩ := Kd.R_slice HO155.out
        (first | subst eo24 | (injection eo24 with f1_ f2_ f3_; have f4_ := f1_.symm; have f5_ := f3_.symm; clear f1_ f2_ f3_; subst f4_; subst f5_))
        refine hK.out _ _ ⟨(blk_cell BK147.out 0).trans rfl, (blk_cell BK147.out 1).trans rfl, (blk_cell BK147.out 2).trans rfl⟩ (fun hHeld => ?_)
        clear hK K
        refine norm_ (a' := ?_) ?_ ?_
        rotate_left
        ·
         show Act.put _ (some 27) _ = _
         simp only [Act.put, List.setIfInBounds_toArray, List.set_cons_zero, List.set_cons_succ, i64_w, i32_w]
         rfl
        refine one_ (i := 6) (N := some 30) #[true,true,true,true,true,true,true,true,true,true,true,false,false,false] rfl rfl (one_of HT_.out (by kernel_rfl)) (by decide) (fun K hK => ?_)
        refine goes_ Try.func46 (by kernel_rfl) rfl #[.slice Ao24 t153.length co24, .int .i64 a0_1] (by rfl) rfl rfl (by (try simp only [List.map_toArray, List.map_cons, List.map_nil]); first | done | rfl | (simp only [List.length_drop, List.length_take]; rfl)) ?_
        with_reducible refine (busbarref5_two.calls _ _ t153 a0_1 t156 _ ?side1 ?side2 A16.out).mono ?_
        (case side1 => repeat (first | exact (Kd.R_reads' HO155.out).2.2 | (with_reducible refine Kd.C_alloc ?_ _) | (with_reducible refine Kd.C_drewN ?_ _) | (with_reducible refine Kd.C_drew ?_)))
        (case side2 => exact (Kd.R_reads' HO155.out).2.1)
        rintro e w25 ⟨v157, rfl, ho0, hb⟩
        refine ⟨_, rfl, ?_⟩
        have n0_ := Aside0.mk (Kd.R_elder' (HO152.out) (Kd.R_base ho0) hb)
        have n1_ := Aside0.mk (Kd.R_elder' (HO161.out) (Kd.R_base ho0) hb)
        have n2_ := Aside0.mk (Kd.R_elder' (HO155.out) (Kd.R_base ho0) hb)
        have n3_ := Aside0.mk (Kd.R_lower (Kd.R_new' (Kd.R_new' (Kd.R_new' ho0 (Kd.R_lt (HO152.out))) (Kd.R_lt (HO161.out))) (Kd.R_lt (HO155.out))) (below_size (HB.out)))
        have n4_ := Aside0.mk (blk_below BK147.out hb)
        have n5_ := Aside0.mk (below_step (HB.out) hb)
        clear HO152
        clear HO161
        clear HO155
        clear BK147
        clear HB
        have HO152 := n0_
        have HO161 := n1_
        have HO155 := n2_
        have HO158 := n3_
        have BK147 := n4_
        have HB := n5_
        clear n0_ n1_ n2_ n3_ n4_ n5_
        (try clear hb)
        (try clear hb2)
        (try clear hk)
        (try clear hi)
        (try clear ho0)
        refine hK.out _ _ ⟨(blk_cell BK147.out 0).trans rfl, (blk_cell BK147.out 1).trans rfl, (blk_cell BK147.out 2).trans rfl⟩ (fun hHeld => ?_)
        clear hK K
        refine norm_ (a' := ?_) ?_ ?_
        rotate_left
        ·
         show Act.put _ (some 30) _ = _
         simp only [Act.put, List.setIfInBounds_toArray, List.set_cons_zero, List.set_cons_succ, i64_w, i32_w]
         rfl
        exact norm_ (by simp only [putAll, Act.put, List.setIfInBounds_toArray, List.set_cons_zero, List.set_cons_succ]) (hCont (.slice Ao22 t150.length co22, .slice Ao24 t153.length co24, v157, v160) _ ⟨hHeld, (Kd.R_mono HO152.out (fun _ hk => ⟨hk.1.2, ⟨hk.2, hk.1.1.2⟩⟩)), (Kd.R_mono HO155.out (fun _ hk => ⟨hk.1.1.2, ⟨hk.2, hk.1.2⟩⟩)), (Kd.R_mono HO158.out (fun _ hk => ⟨hk.1.1.2, ⟨hk.2, hk.1.2⟩⟩)), (Kd.R_mono HO161.out (fun _ hk => ⟨hk.1.1.2, ⟨hk.1.2, hk.2⟩⟩)), (BK147.out), (HB.out)⟩)
      ·
       skip
       refine Kd.R_lit_step (Kd.int .u8) _ 5 ?hg (N := 34) ?hd (xs := ([(a0_2) % 256] : List Int)) (inner := [.int .u8 ((a0_2) % 256)]) (ok := fun _ => True) (okp := fun _ => True) ?hr ?hp (fun _ hk => hk) trivial (Below.refl _ _) (Nat.le_refl _) (by simp) ?_; (case hd => rfl); (case hg => rfl); (case hr => first | (go_simp; done) | (go_simp; rfl)); (case hp => exact (Reps.one (show Kd.M (Kd.int .u8) _ _ _ ((a0_2) % 256) [.int .u8 ((a0_2) % 256)] from rfl) (Reps.none _ _)))
       intro v160 w19 ho20 hb hg_ hnew_
       clear hg_ hnew_
       (first | rw [← Ny159.out] at ho20 | (simp only [Int.reduceToNat] at ho20; rw [← Ny159.out] at ho20))
       have n0_ := Aside0.mk (Kd.R_lower ho20 (below_size (HB.out)))
       have n1_ := Aside0.mk (blk_below BK147.out hb)
       have n2_ := Aside0.mk (below_step (HB.out) hb)
       clear BK147
       clear HB
       have HO161 := n0_
       have BK147 := n1_
       have HB := n2_
       clear n0_ n1_ n2_
       clear hb ho20
       refine hK.out _ _ ⟨(blk_cell BK147.out 0).trans rfl, (blk_cell BK147.out 1).trans rfl, (blk_cell BK147.out 2).trans rfl⟩ (fun hHeld => ?_)
       clear hK K
       refine norm_ (a' := ?_) ?_ ?_
       rotate_left
       ·
        show Act.put _ (some 34) _ = _
        simp only [Act.put, List.setIfInBounds_toArray, List.set_cons_zero, List.set_cons_succ, i64_w, i32_w]
        rfl
       refine one_ (i := 2) (N := some 26) #[true,true,true,false,true,true,false,true,true,true,true,false,false,false] rfl rfl (one_of HT_.out (by kernel_rfl)) (by decide) (fun K hK => ?_)
       refine goes_ Try.func46 (by kernel_rfl) rfl #[.slice none 0 0, .int .i64 a0_0] (by rfl) rfl rfl (by (try simp only [List.map_toArray, List.map_cons, List.map_nil]); first | done | rfl | (simp only [List.length_drop, List.length_take]; rfl)) ?_
       refine (busbarref5_two.calls _ _ ([] : List Int) a0_0 t150 _ ?side1 ?side2 A14.out).mono ?_
       (case side1 => exact Kd.C_nil _ _)
       (case side2 => exact Nat.le_refl _)
       rintro e w21 ⟨v151, rfl, ho0, hb⟩
       refine ⟨_, rfl, ?_⟩
       have n0_ := Aside0.mk (Kd.R_elder' (HO161.out) (Kd.R_base ho0) hb)
       have n1_ := Aside0.mk (Kd.R_lower (Kd.R_new' ho0 (Kd.R_lt (HO161.out))) (below_size (HB.out)))
       have n2_ := Aside0.mk (blk_below BK147.out hb)
       have n3_ := Aside0.mk (below_step (HB.out) hb)
       clear HO161
       clear BK147
       clear HB
       have HO161 := n0_
       have HO152 := n1_
       have BK147 := n2_
       have HB := n3_
       clear n0_ n1_ n2_ n3_
       (try clear hb)
       (try clear hb2)
       (try clear hk)
       (try clear hi)
       (try clear ho0)
       obtain ⟨Ao22, co22, eo22⟩ := Kd.R_slice HO152.out
       (first | subst eo22 | (injection eo22 with f1_ f2_ f3_; have f4_ := f1_.symm; have f5_ := f3_.symm; clear f1_ f2_ f3_; subst f4_; subst f5_))
       refine hK.out _ _ ⟨(blk_cell BK147.out 0).trans rfl, (blk_cell BK147.out 1).trans rfl, (blk_cell BK147.out 2).trans rfl⟩ (fun hHeld => ?_)
       clear hK K
       refine norm_ (a' := ?_) ?_ ?_
       rotate_left
       ·
        show Act.put _ (some 26) _ = _
        simp only [Act.put, List.setIfInBounds_toArray, List.set_cons_zero, List.set_cons_succ, i64_w, i32_w]
        rfl
       refine one_ (i := 3) (N := some 27) #[true,true,true,true,true,true,false,true,true,true,true,false,false,false] rfl rfl (one_of HT_.out (by kernel_rfl)) (by decide) (fun K hK => ?_)
       refine goes_ Try.func46 (by kernel_rfl) rfl #[.slice Ao22 t150.length co22, .int .i64 0] (by rfl) rfl rfl (by (try simp only [List.map_toArray, List.map_cons, List.map_nil]); first | done | rfl | (simp only [List.length_drop, List.length_take]; rfl)) ?_
       with_reducible refine (busbarref5_two.calls _ _ t150 0 t153 _ ?side1 ?side2 A15.out).mono ?_
       (case side1 => repeat (first | exact (Kd.R_reads' HO152.out).2.2 | (with_reducible refine Kd.C_alloc ?_ _) | (with_reducible refine Kd.C_drewN ?_ _) | (with_reducible refine Kd.C_drew ?_)))
       (case side2 => exact (Kd.R_reads' HO152.out).2.1)
       rintro e w23 ⟨v154, rfl, ho0, hb⟩
       refine ⟨_, rfl, ?_⟩
       have n0_ := Aside0.mk (Kd.R_elder' (HO161.out) (Kd.R_base ho0) hb)
       have n1_ := Aside0.mk (Kd.R_elder' (HO152.out) (Kd.R_base ho0) hb)
       have n2_ := Aside0.mk (Kd.R_lower (Kd.R_new' (Kd.R_new' ho0 (Kd.R_lt (HO161.out))) (Kd.R_lt (HO152.out))) (below_size (HB.out)))
       have n3_ := Aside0.mk (blk_below BK147.out hb)
       have n4_ := Aside0.mk (below_step (HB.out) hb)
       clear HO161
       clear HO152
       clear BK147
       clear HB
       have HO161 := n0_
       have HO152 := n1_
       have HO155 := n2_
       have BK147 := n3_
       have HB := n4_
       clear n0_ n1_ n2_ n3_ n4_
       (try clear hb)
       (try clear hb2)
       (try clear hk)
       (try clear hi)
       (try clear ho0)
       obtain ⟨Ao24, co24, eo24⟩ := Kd.R_slice HO155.out
       (first | subst eo24 | (injection eo24 with f1_ f2_ f3_; have f4_ := f1_.symm; have f5_ := f3_.symm; clear f1_ f2_ f3_; subst f4_; subst f5_))
       refine hK.out _ _ ⟨(blk_cell BK147.out 0).trans rfl, (blk_cell BK147.out 1).trans rfl, (blk_cell BK147.out 2).trans rfl⟩ (fun hHeld => ?_)
       clear hK K
       refine norm_ (a' := ?_) ?_ ?_
       rotate_left
       ·
        show Act.put _ (some 27) _ = _
        simp only [Act.put, List.setIfInBounds_toArray, List.set_cons_zero, List.set_cons_succ, i64_w, i32_w]
        rfl
       refine one_ (i := 6) (N := some 30) #[true,true,true,true,true,true,true,true,true,true,true,false,false,false] rfl rfl (one_of HT_.out (by kernel_rfl)) (by decide) (fun K hK => ?_)
       refine goes_ Try.func46 (by kernel_rfl) rfl #[.slice Ao24 t153.length co24, .int .i64 a0_1] (by rfl) rfl rfl (by (try simp only [List.map_toArray, List.map_cons, List.map_nil]); first | done | rfl | (simp only [List.length_drop, List.length_take]; rfl)) ?_
       with_reducible refine (busbarref5_two.calls _ _ t153 a0_1 t156 _ ?side1 ?side2 A16.out).mono ?_
       (case side1 => repeat (first | exact (Kd.R_reads' HO155.out).2.2 | (with_reducible refine Kd.C_alloc ?_ _) | (with_reducible refine Kd.C_drewN ?_ _) | (with_reducible refine Kd.C_drew ?_)))
       (case side2 => exact (Kd.R_reads' HO155.out).2.1)
       rintro e w25 ⟨v157, rfl, ho0, hb⟩
       refine ⟨_, rfl, ?_⟩
       have n0_ := Aside0.mk (Kd.R_elder' (HO161.out) (Kd.R_base ho0) hb)
       have n1_ := Aside0.mk (Kd.R_elder' (HO152.out) (Kd.R_base ho0) hb)
       have n2_ := Aside0.mk (Kd.R_elder' (HO155.out) (Kd.R_base ho0) hb)
       have n3_ := Aside0.mk (Kd.R_lower (Kd.R_new' (Kd.R_new' (Kd.R_new' ho0 (Kd.R_lt (HO161.out))) (Kd.R_lt (HO152.out))) (Kd.R_lt (HO155.out))) (below_size (HB.out)))
       have n4_ := Aside0.mk (blk_below BK147.out hb)
       have n5_ := Aside0.mk (below_step (HB.out) hb)
       clear HO161
       clear HO152
       clear HO155
       clear BK147
       clear HB
       have HO161 := n0_
       have HO152 := n1_
       have HO155 := n2_
       have HO158 := n3_
       have BK147 := n4_
       have HB := n5_
       clear n0_ n1_ n2_ n3_ n4_ n5_
       (try clear hb)
       (try clear hb2)
       (try clear hk)
       (try clear hi)
       (try clear ho0)
       refine hK.out _ _ ⟨(blk_cell BK147.out 0).trans rfl, (blk_cell BK147.out 1).trans rfl, (blk_cell BK147.out 2).trans rfl⟩ (fun hHeld => ?_)
       clear hK K
       refine norm_ (a' := ?_) ?_ ?_
       rotate_left
       ·
        show Act.put _ (some 30) _ = _
        simp only [Act.put, List.setIfInBounds_toArray, List.set_cons_zero, List.set_cons_succ, i64_w, i32_w]
        rfl
       exact norm_ (by simp only [putAll, Act.put, List.setIfInBounds_toArray, List.set_cons_zero, List.set_cons_succ]) (hCont (.slice Ao22 t150.length co22, .slice Ao24 t153.length co24, v157, v160) _ ⟨hHeld, (Kd.R_mono HO152.out (fun _ hk => ⟨hk.1.2, ⟨hk.2, hk.1.1.2⟩⟩)), (Kd.R_mono HO155.out (fun _ hk => ⟨hk.1.2, ⟨hk.2, hk.1.1.2⟩⟩)), (Kd.R_mono HO158.out (fun _ hk => ⟨hk.1.2, ⟨hk.2, hk.1.1.2⟩⟩)), (Kd.R_mono HO161.out (fun _ hk => ⟨hk.1.1.2, ⟨hk.1.2, hk.2⟩⟩)), (BK147.out), (HB.out)⟩)
     rintro ⟨v151, v154, v157, v160⟩ w26 ⟨hS_, h0_, h1_, h2_, h3_, h4_, h5_⟩
     have n0_ : Aside0 (Kd.R (Kd.int .u8) 5 w26 w.heap.size (fun k_ => some k_ ≠ (v154 : Value).ownBlock ∧ some k_ ≠ (v157 : Value).ownBlock ∧ some k_ ≠ (v160 : Value).ownBlock) v151 t150) := ⟨h0_⟩
     have n1_ : Aside0 (Kd.R (Kd.int .u8) 5 w26 w.heap.size (fun k_ => some k_ ≠ (v151 : Value).ownBlock ∧ some k_ ≠ (v157 : Value).ownBlock ∧ some k_ ≠ (v160 : Value).ownBlock) v154 t153) := ⟨h1_⟩
     have n2_ : Aside0 (Kd.R (Kd.int .u8) 5 w26 w.heap.size (fun k_ => some k_ ≠ (v151 : Value).ownBlock ∧ some k_ ≠ (v154 : Value).ownBlock ∧ some k_ ≠ (v160 : Value).ownBlock) v157 t156) := ⟨h2_⟩
     have n3_ : Aside0 (Kd.R (Kd.int .u8) 5 w26 w.heap.size (fun k_ => some k_ ≠ (v151 : Value).ownBlock ∧ some k_ ≠ (v154 : Value).ownBlock ∧ some k_ ≠ (v157 : Value).ownBlock) v160 y159) := ⟨h3_⟩
     have n4_ : Aside0 (w26.heap[gb147]? = some (.cells #[.int .i64 a0_0, .int .i64 a0_1, .int .i64 a0_2] 91 (0, 0))) := ⟨h4_⟩
     have n5_ : Aside0 (Below w.heap.size w w26) := ⟨h5_⟩
     clear BK147
     clear HB
     clear h0_ h1_ h2_ h3_ h4_ h5_
     have HO152 := n0_
     have HO155 := n1_
     have HO158 := n2_
     have HO161 := n3_
     have BK147 := n4_
     have HB := n5_
     clear n0_ n1_ n2_ n3_ n4_ n5_
     have hHeld : w26.cell? ⟨gb147, 0, none⟩ = some (.int .i64 a0_0) ∧ w26.cell? ⟨gb147, 1, none⟩ = some (.int .i64 a0_1) ∧ w26.cell? ⟨gb147, 2, none⟩ = some (.int .i64 a0_2) := hS_
     obtain ⟨Ao28, co28, eo28⟩ := Kd.R_slice HO161.out
     (first | subst eo28 | (injection eo28 with f1_ f2_ f3_; have f4_ := f1_.symm; have f5_ := f3_.symm; clear f1_ f2_ f3_; subst f4_; subst f5_))
     refine norm_ (a' := ?_) ?_ ?_
     rotate_left
     ·
      simp only [putAll, Act.put, List.setIfInBounds_toArray, List.set_cons_zero, List.set_cons_succ]
      rfl
     refine one_ (i := 11) (N := some 35) #[true,true,true,true,true,true,true,true,true,true,true,true,false,false] rfl rfl (one_of HT_.out (by kernel_rfl)) (by decide) (fun K hK => ?_)
     refine Kd.R_append_rows_step (Kd.int .u8) (w0 := w) w.heap.size (by rfl) (.tmp 30) (.tmp 34) 30 5 (.int .u8 0) 1 rfl Try.underlying30 info5 rfl (by decide) (by omega) v157 t156 y159 _ _ _ (fun k_ => some k_ ≠ (v151 : Value).ownBlock ∧ some k_ ≠ (v154 : Value).ownBlock ∧ some k_ ≠ (.slice Ao28 y159.length co28 : Value).ownBlock) (fun _ => False) rfl rfl ?aO ?aR (fun _ _ h => h) (fun _ h => h.elim) ?aF ?aB ?aS ?aL ?_
     (case aR => repeat (first | exact (Kd.R_reads' HO161.out).2.2 | (with_reducible refine Kd.C_alloc ?_ _) | (with_reducible refine Kd.C_drewN ?_ _) | (with_reducible refine Kd.C_drew ?_)))
     (case aB => exact (HB.out))
     (case aF => exact (fun k_ hk => ⟨Kd.fresh' (Kd.R_lt (HO152.out)) k_ hk, Kd.fresh' (Kd.R_lt (HO155.out)) k_ hk, Kd.fresh' (Kd.R_lt (HO161.out)) k_ hk⟩))
     (case aO => exact (HO158.out))
     (case aS => exact (below_size (HB.out)))
     (case aL => have := LMc17.out; omega)
     intro v163 w27 ho hb hg hat
     rw [← Ny162.out] at ho
     have n0_ := Aside0.mk (blk_grown (g := gb147) (o := .cells #[.int .i64 a0_0, .int .i64 a0_1, .int .i64 a0_2] 91 (0, 0)) (BK147.out) hg (Kd.R_ne HO158.out BK147.out (by decide)))
     have n1_ := Aside0.mk (Kd.R_after (ok := (fun k_ => some k_ ≠ (v154 : Value).ownBlock ∧ some k_ ≠ (.slice Ao28 y159.length co28 : Value).ownBlock)) (Kd.R_mono HO152.out (fun _ hk => ⟨⟨hk.1, hk.2.2⟩, hk.2.1⟩)) hg hat)
     have n2_ := Aside0.mk (Kd.R_after (ok := (fun k_ => some k_ ≠ (v151 : Value).ownBlock ∧ some k_ ≠ (.slice Ao28 y159.length co28 : Value).ownBlock)) (Kd.R_mono HO155.out (fun _ hk => ⟨⟨hk.1, hk.2.2⟩, hk.2.1⟩)) hg hat)
     have n3_ := Aside0.mk (Kd.R_after (ok := (fun k_ => some k_ ≠ (v151 : Value).ownBlock ∧ some k_ ≠ (v154 : Value).ownBlock)) (Kd.R_mono HO161.out (fun _ hk => ⟨⟨hk.1, hk.2.1⟩, hk.2.2⟩)) hg hat)
     have n4_ := Aside0.mk (hb)
     have n5_ := Aside0.mk (ho)
     clear BK147
     clear HO152
     clear HO155
     clear HO161
     clear HB
     clear HO158
     have BK147 := n0_
     have HO152 := n1_
     have HO155 := n2_
     have HO161 := n3_
     have HB := n4_
     have HO164 := n5_
     clear n0_ n1_ n2_ n3_ n4_ n5_
     clear ho hb hg hat
     refine hK.out _ _ ⟨(blk_cell BK147.out 0).trans rfl, (blk_cell BK147.out 1).trans rfl, (blk_cell BK147.out 2).trans rfl⟩ (fun hHeld => ?_)
     clear hK K
     refine norm_ (a' := ?_) ?_ ?_
     rotate_left
     ·
      show Act.put _ (some 35) _ = _
      simp only [Act.put, List.setIfInBounds_toArray, List.set_cons_zero, List.set_cons_succ, i64_w, i32_w]
      rfl
     refine pure_ (i := 12) (N := some 2) (v := ?_) (a' := ?_) #[true,true,true,true,true,true,true,true,true,true,true,true,true,false] rfl rfl (any_of HT_.out (by kernel_rfl)) (fun _ _ _ h => h) (Or.inl ⟨by rfl, ?_⟩) ?_ ?_
     rotate_left
     ·
      intro w'
      go_simp
      with_reducible rfl
     rotate_left
     ·
      simp only [Act.put, List.setIfInBounds_toArray, List.set_cons_zero, List.set_cons_succ, i64_w, i32_w]
      rfl
     refine pure_ (i := 13) (N := some 3) (v := ?_) (a' := ?_) #[true,true,true,true,true,true,true,true,true,true,true,true,true,true] rfl rfl (any_of HT_.out (by kernel_rfl)) (fun _ _ _ h => h) (Or.inl ⟨by rfl, ?_⟩) ?_ ?_
     rotate_left
     ·
      intro w'
      go_simp
      with_reducible rfl
     rotate_left
     ·
      simp only [Act.put, List.setIfInBounds_toArray, List.set_cons_zero, List.set_cons_succ, i64_w, i32_w]
      rfl
     refine done_ (done_of HT_.out (by kernel_rfl)) ?_
     try go_wp2
     go_ret2
     exact ⟨_, by first | rfl | (simp [errW_none, errW_some] <;> rfl) | (simp [*, errW_none, errW_some] <;> rfl), Kd.R_mono HO164.out (fun _ hk => trivial), HB.out⟩
    ·
     rw [if_neg c17] at H
     exact absurd H (by simp)
end Go.Proofs.Ytakiojmjalbfpaa.PFlow
namespace Go.Proofs.Ytakiojmjalbfpaa.PFlow
open Go.RowKit Go.Proofs.YtakiojmjalbfpaaW.PrintWords Go.Proofs.YtakiojmjalbfpaaW.PrintLast Go.Proofs.YtakiojmjalbfpaaW.PrintMore
attribute [local go_sem] max2_int min2_int max_two min_two max_three min_three max_four min_four plus_setCell_drewN plus_cell_same   -- for this text's walks alone
set_option linter.unusedVariables false
set_option linter.unusedSimpArgs false
def busbarref5_FrameBytes.j0 : Nat → Bool → Int → Int → List Int → Option (List Int × Int)
 | 0, _, _, _, _ => none
 | k + 1, x15, x166000, x166001, x166002 => if x15 = true then (some (([] : List Int), 1)) else ((busbarref5_PutHead.f k x166000 (wrap64 ((x166002.length : Int) + 1)) x166001).bind fun bt166 => (if bt166.2 = 0 then (if bt166.1.length + x166002.length < 140737488355328 then (some ((bt166.1 ++ x166002), 0)) else (none)) else (some (([] : List Int), bt166.2))))
def busbarref5_FrameBytes.f (k : Nat) (a0_0 : Int) (a0_1 : Int) (l0_2 : List Int) : Option (List Int × Int) := if (l0_2.length : Int) < 1 then (busbarref5_FrameBytes.j0 k true a0_0 a0_1 l0_2) else (busbarref5_FrameBytes.j0 k (decide ((l0_2.length : Int) > 253)) a0_0 a0_1 l0_2)
theorem busbarref5_FrameBytes.mono_l : ∀ k, (∀ y0 y1 y2 y3, LeO (busbarref5_FrameBytes.j0 k y0 y1 y2 y3) (busbarref5_FrameBytes.j0 (k + 1) y0 y1 y2 y3))
 | 0 => fun _ _ _ _ r h => by simp [busbarref5_FrameBytes.j0] at h
 | k + 1 => by
  have ih0 := busbarref5_FrameBytes.mono_l k
  ·
   intro y0 y1 y2 y3
   unfold busbarref5_FrameBytes.j0
   repeat' first
   | (with_reducible exact ih0 _ _ _ _)
   | (with_reducible exact busbarref5_PutHead.mono _ _ _ _)
   | (with_reducible exact LeO.refl _)
   | (with_reducible exact LeO.none _)
   | (with_reducible refine LeO.ite ?_ ?_)
   | (with_reducible refine LeO.bind ?_ (fun _ => ?_))
   | exact ih0 _ _ _ _
   | exact busbarref5_PutHead.mono _ _ _ _
   | exact LeO.none _
   | refine LeO.ite ?_ ?_
   | refine LeO.bind ?_ (fun _ => ?_)
theorem busbarref5_FrameBytes.mono : ∀ a0 a1 a2 k, LeO (busbarref5_FrameBytes.f k a0 a1 a2) (busbarref5_FrameBytes.f (k + 1) a0 a1 a2) := by
 intro a0 a1 a2 k
 have ih0 := busbarref5_FrameBytes.mono_l k
 unfold busbarref5_FrameBytes.f
 repeat' first
   | (with_reducible exact ih0 _ _ _ _)
   | (with_reducible exact busbarref5_PutHead.mono _ _ _ _)
   | (with_reducible exact LeO.refl _)
   | (with_reducible exact LeO.none _)
   | (with_reducible refine LeO.ite ?_ ?_)
   | (with_reducible refine LeO.bind ?_ (fun _ => ?_))
   | exact ih0 _ _ _ _
   | exact busbarref5_PutHead.mono _ _ _ _
   | exact LeO.none _
   | refine LeO.ite ?_ ?_
   | refine LeO.bind ?_ (fun _ => ?_)
set_option maxHeartbeats 8000000 in
set_option maxRecDepth 100000 in
theorem busbarref5_FrameBytes.calls (k : Nat) (a0_0 : Int) (a0_1 : Int) (A0_2 : Option Addr) (c0_2 : Nat) (l0_2 : List Int) (r1 : List Int) (r2 : Int) (w : World) (hr0_2 : Kd.C (Kd.int .u8) w A0_2 l0_2.length l0_2) (hc0_2 : l0_2.length ≤ c0_2) (h : busbarref5_FrameBytes.f k a0_0 a0_1 l0_2 = some (r1, r2)) :
  Calls Try.prog 34 #[.agg #[.int .i64 a0_0, .int .i64 a0_1, .slice A0_2 l0_2.length c0_2]] w fun e w' => ∃ v0_ : Value, e = .returned (.tuple #[v0_, .int .i64 r2]) ∧ Kd.R (Kd.int .u8) 5 w' w.heap.size (fun _ => True) v0_ r1 ∧ Below w.heap.size w w' := by
 have hu60 := Try.underlying60
 have hu91 := Try.underlying91
 have HR0_2 := Aside0.mk hr0_2
 have HC0_2 := Aside0.mk hc0_2
 clear hr0_2 hc0_2
 have HB := Aside0.mk (Below.refl w.heap.size w)
 have H : (if (l0_2.length : Int) < 1 then (busbarref5_FrameBytes.j0 k true a0_0 a0_1 l0_2) else (busbarref5_FrameBytes.j0 k (decide ((l0_2.length : Int) > 253)) a0_0 a0_1 l0_2)) = some (r1, r2) := h
 clear h
 have HC2 := Aside0.mk H
 clear H
 go_enter Try.func34, Try.ntmps34
 go_upto_region 1 with (first | ((with_reducible refine gate_dst (N := 1) rfl ?_); (try (refine gate_guard (by rfl) ?_; dsimp only)); refine box_event ?hg (N := 1) ?hd (cs := #[.int .i64 a0_0, .int .i64 a0_1, .slice A0_2 l0_2.length c0_2]) (t := 60) ?hr ?_; (case hd => rfl); (case hg => rfl); (case hr => first | (go_simp; done) | (go_simp; rfl)); intro gb165 hg w3 hbox hb; have n0_ := Aside0.mk (below_step (by repeat (first | (with_reducible first | exact HB.out | apply below_alloc | apply pw_below_drewN | apply below_drew1) | exact HB.out)) hb); have n1_ := Aside0.mk (hbox); have n2_ := Aside0.mk ((by rw [hg]; exact (below_size (by repeat (first | (with_reducible first | exact HB.out | apply below_alloc | apply pw_below_drewN | apply below_drew1) | exact HB.out))) : w.heap.size ≤ gb165)); have n3_ := Aside0.mk ((by rw [hg]; exact (below_size (by repeat (first | (with_reducible first | exact HB.out | apply below_alloc | apply pw_below_drewN | apply below_drew1) | exact HB.out))) : w.heap.size ≤ gb165)); clear HB; have HB := n0_; have BK165 := n1_; have GW165 := n2_; have GE165 := n3_; clear n0_ n1_ n2_ n3_; clear hb hbox hg))
 (try simp only [Act.put, List.setIfInBounds_toArray, List.set_cons_zero, List.set_cons_succ])
 go_cut [15] (fun v15 wc => ∃ (kq : Nat) (x15_1 : Bool), v15 = .bool x15_1 ∧ Aside0 (busbarref5_FrameBytes.j0 kq x15_1 a0_0 a0_1 l0_2 = some (r1, r2)) ∧ Aside0 (kq ≤ k) ∧ Aside0 (wc.heap[gb165]? = some (.cells #[.int .i64 a0_0, .int .i64 a0_1, (.slice A0_2 l0_2.length c0_2)] 60 (0, 0))) ∧ Aside0 (Below w.heap.size w wc))
 case first =>
  have H := HC2.out
  clear HC2
  by_cases c4 : (l0_2.length : Int) < 1
  ·
   rw [if_pos c4] at H
   have c4b0 : decide ((l0_2.length : Int) < 1) = true := decide_eq_true c4
   have c4b1 : decide (l0_2.length < 1) = true := decide_eq_true (by omega)
   clear c4
   (first | rw [c4b0] | (simp only [i64_w, i32_w]; rw [c4b0]) | skip)
   have H' := Aside0.mk H
   clear H
   have hcz5_0 : w3.cell? ⟨gb165, 0, none⟩ = some (.int .i64 a0_0) := (blk_cell BK165.out 0).trans rfl
   have hcz5_1 : w3.cell? ⟨gb165, 1, none⟩ = some (.int .i64 a0_1) := (blk_cell BK165.out 1).trans rfl
   have hcz5_2 : w3.cell? ⟨gb165, 2, none⟩ = some (.slice A0_2 l0_2.length c0_2) := (blk_cell BK165.out 2).trans rfl
   have hfz5_0 := blk_frozen BK165.out 0
   have hfz5_1 := blk_frozen BK165.out 1
   have hfz5_2 := blk_frozen BK165.out 2
   go_wp2
   go_meet
   case rel => exact ⟨_, (true), (by first | rfl | (simp; done) | (simp [*]; done)), H', ⟨by first | omega | exact Nat.le_refl _⟩, ⟨by (with_reducible repeat (first | refine blk_drewN ?_ _ | refine blk_drew ?_ | refine blk_alloc ?_ _)); exact BK165.out⟩, ⟨by repeat (first | (with_reducible first | exact HB.out | apply below_alloc | apply pw_below_drewN | apply below_drew1 | refine below_set ?_ GE165.out) | exact HB.out)⟩⟩
  ·
   rw [if_neg c4] at H
   have c4b0 : decide ((l0_2.length : Int) < 1) = false := decide_eq_false c4
   have c4b1 : decide (l0_2.length < 1) = false := decide_eq_false (by omega)
   clear c4
   (first | rw [c4b0] | (simp only [i64_w, i32_w]; rw [c4b0]) | skip)
   have H' := Aside0.mk H
   clear H
   have hcz6_0 : w3.cell? ⟨gb165, 0, none⟩ = some (.int .i64 a0_0) := (blk_cell BK165.out 0).trans rfl
   have hcz6_1 : w3.cell? ⟨gb165, 1, none⟩ = some (.int .i64 a0_1) := (blk_cell BK165.out 1).trans rfl
   have hcz6_2 : w3.cell? ⟨gb165, 2, none⟩ = some (.slice A0_2 l0_2.length c0_2) := (blk_cell BK165.out 2).trans rfl
   have hfz6_0 := blk_frozen BK165.out 0
   have hfz6_1 := blk_frozen BK165.out 1
   have hfz6_2 := blk_frozen BK165.out 2
   go_wp2
   go_meet
   case rel => exact ⟨_, (decide ((l0_2.length : Int) > 253)), (by first | rfl | (simp; done) | (simp [*]; done)), H', ⟨by first | omega | exact Nat.le_refl _⟩, ⟨by (with_reducible repeat (first | refine blk_drewN ?_ _ | refine blk_drew ?_ | refine blk_alloc ?_ _)); exact BK165.out⟩, ⟨by repeat (first | (with_reducible first | exact HB.out | apply below_alloc | apply pw_below_drewN | apply below_drew1 | refine below_set ?_ GE165.out) | exact HB.out)⟩⟩
 case rest =>
  clear HC2
  try clear p2
  try clear c3
  try clear c4
  try clear c4b0
  try clear c4b1
  try clear hcz5_0
  try clear hcz5_1
  try clear hcz5_2
  try clear hcz6_0
  try clear hcz6_1
  try clear hcz6_2
  try clear hfz5_0
  try clear hfz5_1
  try clear hfz5_2
  try clear hfz6_0
  try clear hfz6_1
  try clear hfz6_2
  obtain ⟨kq, x15_1, rfl, HA, HJ1, BK165, HB⟩ := hcut
  cases kq with
  | zero => exact absurd HA.out (by simp [busbarref5_FrameBytes.j0])
  | succ kj1 =>
   have H := HA.out
   clear HA
   simp only [busbarref5_FrameBytes.j0] at H
   by_cases c7 : x15_1 = true
   ·
    subst c7
    have H1 : (some (([] : List Int), 1)) = some (r1, r2) := by rw [if_pos rfl] at H; exact H
    clear H
    have H := H1
    clear H1
    simp only [Option.some.injEq, Prod.mk.injEq] at H
    obtain ⟨rfl, rfl⟩ := H
    go_wp2
    go_ret2
    exact ⟨_, by first | rfl | (simp [errW_none, errW_some] <;> rfl) | (simp [*, errW_none, errW_some] <;> rfl), by first | exact Kd.R_nil _ _ _ _ _ | exact Kd.N_nil _ _ _ _ _ | exact Kd.V_nil _ _ _ _ _ | exact Kd.Q_nil _ _ _ _ _ | exact Kd.S_nil _ _ _ _ _, by repeat (first | (with_reducible first | exact HB.out | apply below_alloc | apply pw_below_drewN | apply below_drew1 | refine below_set ?_ GE165.out) | exact HB.out)⟩
   ·
    replace c7 := Bool.eq_false_iff.mpr c7
    subst c7
    have H1 : ((busbarref5_PutHead.f kj1 a0_0 (wrap64 ((l0_2.length : Int) + 1)) a0_1).bind fun bt166 => (if bt166.2 = 0 then (if bt166.1.length + l0_2.length < 140737488355328 then (some ((bt166.1 ++ l0_2), 0)) else (none)) else (some (([] : List Int), bt166.2)))) = some (r1, r2) := by rw [if_neg (show ¬ (false = true) by decide)] at H; exact H
    clear H
    have H := H1
    clear H1
    replace H := Option.bind_eq_some_iff.mp H
    obtain ⟨⟨t166, t169⟩, A80, H⟩ := H
    replace H : (if t169 = 0 then (if t166.length + l0_2.length < 140737488355328 then (some ((t166 ++ l0_2), 0)) else (none)) else (some (([] : List Int), t169))) = some (r1, r2) := H
    have A8 := Aside0.mk A80
    clear A80
    by_cases c9 : t169 = 0
    ·
     rw [if_pos c9] at H
     have c9b0 : (t169 == 0) = true := beq_iff_eq.mpr c9
     have c9b1 : (t169 != 0) = false := bne_eq_false_iff_eq.mpr c9
     clear c9
     by_cases c10 : t166.length + l0_2.length < 140737488355328
     ·
      rw [if_pos c10] at H
      have LMc10 := Aside0.mk c10
      clear c10
      obtain ⟨y170, hy170⟩ : ∃ y_ : List Int, y_ = (t166 ++ l0_2) := ⟨_, rfl⟩
      replace H : (some (y170, 0)) = some (r1, r2) := by first | (rw [hy170]; with_reducible exact H) | (have H2_ := (Option.bind_some _ _).symm.trans H; rw [hy170]; with_reducible exact H2_) | (have H2_ := (Option.bind_some _ _).symm.trans H; with_reducible exact H2_) | with_reducible exact H | (rw [hy170]; exact H) | exact H
      have Ny170 := Aside0.mk hy170
      clear hy170
      simp only [Option.some.injEq, Prod.mk.injEq] at H
      obtain ⟨rfl, rfl⟩ := H
      have hcz11_0 : wc.cell? ⟨gb165, 0, none⟩ = some (.int .i64 a0_0) := (blk_cell BK165.out 0).trans rfl
      have hcz11_1 : wc.cell? ⟨gb165, 1, none⟩ = some (.int .i64 a0_1) := (blk_cell BK165.out 1).trans rfl
      have hcz11_2 : wc.cell? ⟨gb165, 2, none⟩ = some (.slice A0_2 l0_2.length c0_2) := (blk_cell BK165.out 2).trans rfl
      have hfz11_0 := blk_frozen BK165.out 0
      have hfz11_1 := blk_frozen BK165.out 1
      have hfz11_2 := blk_frozen BK165.out 2
      go_wp2_with (first | ((with_reducible refine gate_callee (f := 54) rfl ?_); refine goesL_ (some 26) rfl rfl Try.func54 (by kernel_rfl) rfl #[.agg #[.int .i64 a0_0, .int .i64 (wrap64 ((l0_2.length : Int) + 1)), .int .i64 a0_1]] rfl (by (try simp only [List.map_toArray, List.map_cons, List.map_nil]); first | done | rfl | (simp only [List.length_drop, List.length_take]; rfl)) ?_; (with_reducible refine (busbarref5_PutHead.calls kj1 a0_0 (wrap64 ((l0_2.length : Int) + 1)) a0_1 t166 t169 _ A8.out).mono ?_); rintro e w12 ⟨v167, rfl, ho0, hb⟩; refine ⟨_, rfl, ?_⟩; have n0_ := Aside0.mk (Kd.R_lower ho0 (below_size (by repeat (first | (with_reducible first | exact HB.out | apply below_alloc | apply pw_below_drewN | apply below_drew1 | refine below_set ?_ GE165.out) | exact HB.out)))); have n1_ := Aside0.mk (blk_below (g := gb165) (o := .cells #[.int .i64 a0_0, .int .i64 a0_1, .slice A0_2 l0_2.length c0_2] 60 (0, 0)) (by (with_reducible repeat (first | refine blk_drewN ?_ _ | refine blk_drew ?_ | refine blk_alloc ?_ _)); exact BK165.out) hb); have n2_ := Aside0.mk (below_step (by repeat (first | (with_reducible first | exact HB.out | apply below_alloc | apply pw_below_drewN | apply below_drew1 | refine below_set ?_ GE165.out) | exact HB.out)) hb); clear BK165; clear HB; have HO168 := n0_; have BK165 := n1_; have HB := n2_; clear n0_ n1_ n2_; (try clear hb); (try clear hb2); (try clear hk); (try clear hi); (try clear ho0); have hcz13_0 : w12.cell? ⟨gb165, 0, none⟩ = some (.int .i64 a0_0) := (blk_cell BK165.out 0).trans rfl; have hcz13_1 : w12.cell? ⟨gb165, 1, none⟩ = some (.int .i64 a0_1) := (blk_cell BK165.out 1).trans rfl; have hcz13_2 : w12.cell? ⟨gb165, 2, none⟩ = some (.slice A0_2 l0_2.length c0_2) := (blk_cell BK165.out 2).trans rfl; have hfz13_0 := blk_frozen BK165.out 0; have hfz13_1 := blk_frozen BK165.out 1; have hfz13_2 := blk_frozen BK165.out 2) | ((with_reducible refine gate_builtin (b := .append) (xs := #[.tmp 32, .tmp 34]) rfl ?_); (try (refine gate_guard (by rfl) ?_; dsimp only)); at_builtin; refine Kd.R_append_rows (Kd.int .u8) (w0 := w) w.heap.size rfl (.tmp 32) (.tmp 34) 30 5 (.int .u8 0) 1 rfl Try.underlying30 info5 rfl (by decide) (by omega) v167 t166 l0_2 _ _ _ (fun _ => True) (fun _ => False) rfl rfl ?aO ?aR (fun _ _ h => h) (fun _ h => h.elim) ?aF ?aB ?aS ?aL ?_; (case aR => repeat (first | exact (Kd.C_below HR0_2.out HB.out) | (with_reducible refine Kd.C_alloc ?_ _) | (with_reducible refine Kd.C_drewN ?_ _) | (with_reducible refine Kd.C_drew ?_))); (case aB => exact (by repeat (first | (with_reducible first | exact HB.out | apply below_alloc | apply pw_below_drewN | apply below_drew1 | refine below_set ?_ GE165.out) | exact HB.out))); (case aF => exact (fun _ _ => trivial)); (case aO => exact (by (with_reducible repeat (first | apply Kd.R_alloc | apply Kd.R_drewN | apply Kd.R_drew)); exact HO168.out)); (case aS => exact (below_size (by repeat (first | (with_reducible first | exact HB.out | apply below_alloc | apply pw_below_drewN | apply below_drew1 | refine below_set ?_ GE165.out) | exact HB.out)))); (case aL => have := LMc10.out; omega); intro v171 w14 ho hb hg hat; rw [← Ny170.out] at ho; have n0_ := Aside0.mk (blk_grown (g := gb165) (o := .cells #[.int .i64 a0_0, .int .i64 a0_1, .slice A0_2 l0_2.length c0_2] 60 (0, 0)) (by (with_reducible repeat (first | refine blk_drewN ?_ _ | refine blk_drew ?_ | refine blk_alloc ?_ _)); exact BK165.out) hg (Kd.R_ne HO168.out BK165.out (by decide))); have n1_ := Aside0.mk (hb); have n2_ := Aside0.mk (ho); clear BK165; clear HB; clear HO168; have BK165 := n0_; have HB := n1_; have HO172 := n2_; clear n0_ n1_ n2_; clear ho hb hg hat))
      go_ret2
      exact ⟨_, by first | rfl | (simp [errW_none, errW_some] <;> rfl) | (simp [*, errW_none, errW_some] <;> rfl), by (with_reducible repeat (first | apply Kd.R_alloc | apply Kd.R_drewN | apply Kd.R_drew)); exact HO172.out, by repeat (first | (with_reducible first | exact HB.out | apply below_alloc | apply pw_below_drewN | apply below_drew1 | refine below_set ?_ GE165.out) | exact HB.out)⟩
     ·
      rw [if_neg c10] at H
      exact absurd H (by simp)
    ·
     rw [if_neg c9] at H
     have c9b0 : (t169 == 0) = false := beq_eq_false_iff_ne.mpr c9
     have c9b1 : (t169 != 0) = true := bne_iff_ne.mpr c9
     simp only [Option.some.injEq, Prod.mk.injEq] at H
     obtain ⟨rfl, rfl⟩ := H
     have hcz15_0 : wc.cell? ⟨gb165, 0, none⟩ = some (.int .i64 a0_0) := (blk_cell BK165.out 0).trans rfl
     have hcz15_1 : wc.cell? ⟨gb165, 1, none⟩ = some (.int .i64 a0_1) := (blk_cell BK165.out 1).trans rfl
     have hcz15_2 : wc.cell? ⟨gb165, 2, none⟩ = some (.slice A0_2 l0_2.length c0_2) := (blk_cell BK165.out 2).trans rfl
     have hfz15_0 := blk_frozen BK165.out 0
     have hfz15_1 := blk_frozen BK165.out 1
     have hfz15_2 := blk_frozen BK165.out 2
     go_wp2_with (first | ((with_reducible refine gate_callee (f := 54) rfl ?_); refine goesL_ (some 26) rfl rfl Try.func54 (by kernel_rfl) rfl #[.agg #[.int .i64 a0_0, .int .i64 (wrap64 ((l0_2.length : Int) + 1)), .int .i64 a0_1]] rfl (by (try simp only [List.map_toArray, List.map_cons, List.map_nil]); first | done | rfl | (simp only [List.length_drop, List.length_take]; rfl)) ?_; (with_reducible refine (busbarref5_PutHead.calls kj1 a0_0 (wrap64 ((l0_2.length : Int) + 1)) a0_1 t166 t169 _ A8.out).mono ?_); rintro e w16 ⟨v167, rfl, ho0, hb⟩; refine ⟨_, rfl, ?_⟩; have n0_ := Aside0.mk (Kd.R_lower ho0 (below_size (by repeat (first | (with_reducible first | exact HB.out | apply below_alloc | apply pw_below_drewN | apply below_drew1 | refine below_set ?_ GE165.out) | exact HB.out)))); have n1_ := Aside0.mk (blk_below (g := gb165) (o := .cells #[.int .i64 a0_0, .int .i64 a0_1, .slice A0_2 l0_2.length c0_2] 60 (0, 0)) (by (with_reducible repeat (first | refine blk_drewN ?_ _ | refine blk_drew ?_ | refine blk_alloc ?_ _)); exact BK165.out) hb); have n2_ := Aside0.mk (below_step (by repeat (first | (with_reducible first | exact HB.out | apply below_alloc | apply pw_below_drewN | apply below_drew1 | refine below_set ?_ GE165.out) | exact HB.out)) hb); clear BK165; clear HB; have HO168 := n0_; have BK165 := n1_; have HB := n2_; clear n0_ n1_ n2_; (try clear hb); (try clear hb2); (try clear hk); (try clear hi); (try clear ho0)))
     go_ret2
     exact ⟨_, by first | rfl | (simp [errW_none, errW_some] <;> rfl) | (simp [*, errW_none, errW_some] <;> rfl), by first | exact Kd.R_nil _ _ _ _ _ | exact Kd.N_nil _ _ _ _ _ | exact Kd.V_nil _ _ _ _ _ | exact Kd.Q_nil _ _ _ _ _ | exact Kd.S_nil _ _ _ _ _, by repeat (first | (with_reducible first | exact HB.out | apply below_alloc | apply pw_below_drewN | apply below_drew1 | refine below_set ?_ GE165.out) | exact HB.out)⟩
end Go.Proofs.Ytakiojmjalbfpaa.PFlow
namespace Go.Proofs.Ytakiojmjalbfpaa.PFlow
open Go.RowKit Go.Proofs.YtakiojmjalbfpaaW.PrintWords Go.Proofs.YtakiojmjalbfpaaW.PrintLast Go.Proofs.YtakiojmjalbfpaaW.PrintMore
attribute [local go_sem] max2_int min2_int max_two min_two max_three min_three max_four min_four plus_setCell_drewN plus_cell_same   -- for this text's walks alone
set_option linter.unusedVariables false
set_option linter.unusedSimpArgs false
def busbarref1_Get.f (l0 : List Int) (a1 : Int) : Option (Int × Bool) := if a1 < 0 then (some (0, false)) else (if a1 > (wrap64 ((l0.length : Int) - 2)) then (some (0, false)) else (if 0 ≤ a1 then (if a1 < (l0.length : Int) then (if 0 ≤ (wrap64 (a1 + 1)) then (if (wrap64 (a1 + 1)) < (l0.length : Int) then (some (IntKind.u16.wrap ((IntKind.u16.wrap ((IntKind.u16.wrap (rd l0 a1)) * 256)) + (IntKind.u16.wrap (rd l0 (wrap64 (a1 + 1))))), true)) else (none)) else (none)) else (none)) else (none)))
set_option maxHeartbeats 8000000 in
set_option maxRecDepth 100000 in
theorem busbarref1_Get.calls (A0 : Option Addr) (c0 : Nat) (l0 : List Int) (a1 : Int) (r1 : Int) (r2 : Bool) (w : World) (hr0 : Kd.C (Kd.int .u8) w A0 l0.length l0) (hc0 : l0.length ≤ c0) (h : busbarref1_Get.f l0 a1 = some (r1, r2)) :
  Calls Try.prog 70 #[.slice A0 l0.length c0, .int .i64 a1] w fun e w' => e = .returned (.tuple #[.int .u16 r1, .bool r2]) ∧ Drawn0 w w' := by
 have HR0 := Aside0.mk hr0
 have HC0 := Aside0.mk hc0
 clear hr0 hc0
 have H : (if a1 < 0 then (some (0, false)) else (if a1 > (wrap64 ((l0.length : Int) - 2)) then (some (0, false)) else (if 0 ≤ a1 then (if a1 < (l0.length : Int) then (if 0 ≤ (wrap64 (a1 + 1)) then (if (wrap64 (a1 + 1)) < (l0.length : Int) then (some (IntKind.u16.wrap ((IntKind.u16.wrap ((IntKind.u16.wrap (rd l0 a1)) * 256)) + (IntKind.u16.wrap (rd l0 (wrap64 (a1 + 1))))), true)) else (none)) else (none)) else (none)) else (none)))) = some (r1, r2) := h
 clear h
 by_cases c3 : a1 < 0
 ·
  rw [if_pos c3] at H
  have c3b0 : decide (a1 < 0) = true := decide_eq_true c3
  clear c3
  simp only [Option.some.injEq, Prod.mk.injEq] at H
  obtain ⟨rfl, rfl⟩ := H
  go_enter Try.func70, Try.ntmps70
  go_wp2
  repeat (go_quiet (fail); try go_wp2)
  go_ret2
  exact ⟨by first | rfl | (simp; done) | (simp [*]; done), by repeat (first | exact Drawn0.refl _ | apply Drawn0.step)⟩
 ·
  rw [if_neg c3] at H
  have c3b0 : decide (a1 < 0) = false := decide_eq_false c3
  clear c3
  by_cases c4 : a1 > (wrap64 ((l0.length : Int) - 2))
  ·
   rw [if_pos c4] at H
   have c4b0 : decide ((wrap64 ((l0.length : Int) - 2)) < a1) = true := decide_eq_true c4
   clear c4
   simp only [Option.some.injEq, Prod.mk.injEq] at H
   obtain ⟨rfl, rfl⟩ := H
   go_enter Try.func70, Try.ntmps70
   go_wp2
   repeat (go_quiet (fail); try go_wp2)
   go_ret2
   exact ⟨by first | rfl | (simp; done) | (simp [*]; done), by repeat (first | exact Drawn0.refl _ | apply Drawn0.step)⟩
  ·
   rw [if_neg c4] at H
   have c4b0 : decide ((wrap64 ((l0.length : Int) - 2)) < a1) = false := decide_eq_false c4
   clear c4
   by_cases c5 : 0 ≤ a1
   ·
    rw [if_pos c5] at H
    have c5b0 : decide (0 ≤ a1) = true := decide_eq_true c5
    clear c5
    by_cases c6 : a1 < (l0.length : Int)
    ·
     rw [if_pos c6] at H
     have c6b0 : decide (a1 < (l0.length : Int)) = true := decide_eq_true c6
     clear c6
     obtain ⟨ji7, hji7⟩ : ∃ j_ : Int, (wrap64 (a1 + 1)) = j_ := ⟨_, rfl⟩
     replace H : (if 0 ≤ (ji7) then (if (ji7) < (l0.length : Int) then (some (IntKind.u16.wrap ((IntKind.u16.wrap ((IntKind.u16.wrap (rd l0 a1)) * 256)) + (IntKind.u16.wrap (rd l0 (ji7)))), true)) else (none)) else (none)) = some (r1, r2) := by first | (rw [hji7] at H; exact H) | (simp only [hji7] at H ⊢; exact H)
     have hji7w : (IntKind.i64.wrap (a1 + 1)) = ji7 := (i64_w _).trans hji7
     by_cases c8 : 0 ≤ (ji7)
     ·
      rw [if_pos c8] at H
      have c8b0 : decide (0 ≤ (ji7)) = true := decide_eq_true c8
      clear c8
      by_cases c9 : (ji7) < (l0.length : Int)
      ·
       rw [if_pos c9] at H
       have c9b0 : decide ((ji7) < (l0.length : Int)) = true := decide_eq_true c9
       clear c9
       simp only [Option.some.injEq, Prod.mk.injEq] at H
       obtain ⟨rfl, rfl⟩ := H
       have p374 : 0 ≤ (a1 : Int) := of_decide_eq_true (by first | (with_reducible assumption) | assumption)
       have q374 : a1 < (l0.length : Int) := of_decide_eq_true (by first | (with_reducible assumption) | assumption)
       obtain ⟨ad374, e374, hx374_0⟩ := Kd.at_int HR0.out a1 p374 q374
       cases e374
       replace p374 := eq_true p374
       replace q374 := eq_true q374
       have p375 : 0 ≤ ((ji7) : Int) := of_decide_eq_true (by first | (with_reducible assumption) | assumption)
       have q375 : (ji7) < (l0.length : Int) := of_decide_eq_true (by first | (with_reducible assumption) | assumption)
       obtain ⟨ad375, e375, hx375_0⟩ := Kd.at_int HR0.out (ji7) p375 q375
       obtain rfl : ad374 = ad375 := (by injection e375)
       replace p375 := eq_true p375
       replace q375 := eq_true q375
       go_enter Try.func70, Try.ntmps70
       go_wp2
       repeat (go_quiet (fail); try go_wp2)
       go_ret2
       exact ⟨by first | rfl | (simp; done) | (simp only [← hji7] <;> (first | rfl | simp)) | (simp [*]; done), by repeat (first | exact Drawn0.refl _ | apply Drawn0.step)⟩
      ·
       rw [if_neg c9] at H
       exact absurd H (by simp)
     ·
      rw [if_neg c8] at H
      exact absurd H (by simp)
    ·
     rw [if_neg c6] at H
     exact absurd H (by simp)
   ·
    rw [if_neg c5] at H
    exact absurd H (by simp)
end Go.Proofs.Ytakiojmjalbfpaa.PFlow
namespace Go.Proofs.Ytakiojmjalbfpaa.PFlow
open Go.RowKit Go.Proofs.YtakiojmjalbfpaaW.PrintWords Go.Proofs.YtakiojmjalbfpaaW.PrintLast Go.Proofs.YtakiojmjalbfpaaW.PrintMore
attribute [local go_sem] max2_int min2_int max_two min_two max_three min_three max_four min_four plus_setCell_drewN plus_cell_same   -- for this text's walks alone
set_option linter.unusedVariables false
set_option linter.unusedSimpArgs false
def busbarref5_word.f (l0 : List Int) (a1 : Int) : Option (Int) := (busbarref1_Get.f l0 a1).bind fun bt376 => (some (wrap64 (bt376.1)))
set_option maxHeartbeats 8000000 in
set_option maxRecDepth 100000 in
theorem busbarref5_word.calls (A0 : Option Addr) (c0 : Nat) (l0 : List Int) (a1 : Int) (r : Int) (w : World) (hr0 : Kd.C (Kd.int .u8) w A0 l0.length l0) (hc0 : l0.length ≤ c0) (h : busbarref5_word.f l0 a1 = some r) :
  Calls Try.prog 69 #[.slice A0 l0.length c0, .int .i64 a1] w fun e w' => e = .returned (.int .i64 r) ∧ Drawn0 w w' := by
 have HR0 := Aside0.mk hr0
 have HC0 := Aside0.mk hc0
 clear hr0 hc0
 have H : ((busbarref1_Get.f l0 a1).bind fun bt376 => (some (wrap64 (bt376.1)))) = some r := h
 clear h
 replace H := Option.bind_eq_some_iff.mp H
 obtain ⟨⟨t376, t377⟩, A30, H⟩ := H
 replace H : (some (wrap64 (t376))) = some r := H
 have A3 := Aside0.mk A30
 clear A30
 obtain rfl := Option.some.inj H
 go_enter Try.func69, Try.ntmps69
 go_wp2_with (first | ((with_reducible refine gate_callee (f := 70) rfl ?_); refine goesL_ (some 10) rfl rfl Try.func70 (by kernel_rfl) rfl #[.slice A0 l0.length c0, .int .i64 a1] rfl (by (try simp only [List.map_toArray, List.map_cons, List.map_nil]); first | done | rfl | (simp only [List.length_drop, List.length_take]; rfl)) ?_; (with_reducible refine (busbarref1_Get.calls _ _ l0 a1 t376 t377 _ ?side1 ?side2 A3.out).mono ?_); (case side1 => repeat (first | exact HR0.out | (with_reducible refine Kd.C_alloc ?_ _) | (with_reducible refine Kd.C_drewN ?_ _) | (with_reducible refine Kd.C_drew ?_))); (case side2 => exact HC0.out); rintro e w' ⟨rfl, ⟨nd, rfl⟩⟩; refine ⟨_, rfl, ?_⟩))
 go_ret
 exact ⟨by first | rfl | (simp; done) | (simp [*]; done), by repeat (first | exact Drawn0.refl _ | apply Drawn0.step)⟩
end Go.Proofs.Ytakiojmjalbfpaa.PFlow
namespace Go.Proofs.Ytakiojmjalbfpaa.PFlow
open Go.RowKit Go.Proofs.YtakiojmjalbfpaaW.PrintWords Go.Proofs.YtakiojmjalbfpaaW.PrintLast Go.Proofs.YtakiojmjalbfpaaW.PrintMore
attribute [local go_sem] max2_int min2_int max_two min_two max_three min_three max_four min_four plus_setCell_drewN plus_cell_same   -- for this text's walks alone
set_option linter.unusedVariables false
set_option linter.unusedSimpArgs false
def busbarref5_GetHead.j0 : Nat → List Int → Int → Bool → Option (Int × Int × Int × Int)
 | 0, _, _, _ => none
 | k + 1, x0, x4, x21 => if x21 = true then (some (0, 0, 0, 2)) else (if (x0.length : Int) = 6 then (some (0, 0, 0, 3)) else ((busbarref5_word.f x0 0).bind fun t381 => (if 6 < (x0.length : Int) then (some (t381, x4, wrap64 (rd x0 6), 0)) else (none))))
def busbarref5_GetHead.f (k : Nat) (l0 : List Int) : Option (Int × Int × Int × Int) := if (l0.length : Int) < 6 then (some (0, 0, 0, 3)) else ((busbarref5_word.f l0 4).bind fun t379 => ((busbarref5_word.f l0 2).bind fun t380 => (if t380 = 0 then (if t379 < 2 then (busbarref5_GetHead.j0 k l0 t379 true) else (busbarref5_GetHead.j0 k l0 t379 (decide (t379 > 254)))) else (busbarref5_GetHead.j0 k l0 t379 true))))
theorem busbarref5_GetHead.mono_l : ∀ k, (∀ y0 y1 y2, LeO (busbarref5_GetHead.j0 k y0 y1 y2) (busbarref5_GetHead.j0 (k + 1) y0 y1 y2))
 | 0 => fun _ _ _ r h => by simp [busbarref5_GetHead.j0] at h
 | k + 1 => by
  have ih0 := busbarref5_GetHead.mono_l k
  ·
   intro y0 y1 y2
   unfold busbarref5_GetHead.j0
   repeat' first
   | (with_reducible exact ih0 _ _ _)
   | (with_reducible exact LeO.refl _)
   | (with_reducible exact LeO.none _)
   | (with_reducible refine LeO.ite ?_ ?_)
   | (with_reducible refine LeO.bind ?_ (fun _ => ?_))
   | exact ih0 _ _ _
   | exact LeO.none _
   | refine LeO.ite ?_ ?_
   | refine LeO.bind ?_ (fun _ => ?_)
theorem busbarref5_GetHead.mono : ∀ a0 k, LeO (busbarref5_GetHead.f k a0) (busbarref5_GetHead.f (k + 1) a0) := by
 intro a0 k
 have ih0 := busbarref5_GetHead.mono_l k
 unfold busbarref5_GetHead.f
 repeat' first
   | (with_reducible exact ih0 _ _ _)
   | (with_reducible exact LeO.refl _)
   | (with_reducible exact LeO.none _)
   | (with_reducible refine LeO.ite ?_ ?_)
   | (with_reducible refine LeO.bind ?_ (fun _ => ?_))
   | exact ih0 _ _ _
   | exact LeO.none _
   | refine LeO.ite ?_ ?_
   | refine LeO.bind ?_ (fun _ => ?_)
def busbarref5_GetHead.T8 : Bool × List (List Nat × List Nat) := (true, [([], []), ([0], [0]), ([], []), ([], []), ([3], [3]), ([4], [4]), ([5], [5]), ([1, 2, 6], [1, 2, 6]), ([7, 1, 0, 1, 2, 3, 4, 5, 6, 7], [7]), ([8, 0, 1, 2, 3, 4, 5, 6, 7, 8], [])])
def busbarref5_GetHead.B8 : List Nat := [0, 1, 0, 0, 8, 24, 56, 127, 255, 511]
theorem busbarref5_GetHead.tab8 : rtab .any (opsOf Try.f68 8) = busbarref5_GetHead.T8 := by kernel_rfl
theorem busbarref5_GetHead.bits8 : waitsOk busbarref5_GetHead.T8.2 busbarref5_GetHead.B8 = true := by kernel_rfl
set_option maxHeartbeats 8000000 in
set_option maxRecDepth 100000 in
theorem busbarref5_GetHead.calls (k : Nat) (A0 : Option Addr) (c0 : Nat) (l0 : List Int) (r1 : Int) (r2 : Int) (r3 : Int) (r4 : Int) (w : World) (hr0 : Kd.C (Kd.int .u8) w A0 l0.length l0) (hc0 : l0.length ≤ c0) (h : busbarref5_GetHead.f k l0 = some (r1, r2, r3, r4)) :
  Calls Try.prog 68 #[.slice A0 l0.length c0] w fun e w' => e = .returned (.tuple #[.agg #[.int .i64 r1, .int .i64 r2, .int .i64 r3], .int .i64 r4]) ∧ Below w.heap.size w w' := by
 have hu91 := Try.underlying91
 have HR0 := Aside0.mk hr0
 have HC0 := Aside0.mk hc0
 clear hr0 hc0
 have HB := Aside0.mk (Below.refl w.heap.size w)
 have H : (if (l0.length : Int) < 6 then (some (0, 0, 0, 3)) else ((busbarref5_word.f l0 4).bind fun t379 => ((busbarref5_word.f l0 2).bind fun t380 => (if t380 = 0 then (if t379 < 2 then (busbarref5_GetHead.j0 k l0 t379 true) else (busbarref5_GetHead.j0 k l0 t379 (decide (t379 > 254)))) else (busbarref5_GetHead.j0 k l0 t379 true))))) = some (r1, r2, r3, r4) := h
 clear h
 by_cases c2 : (l0.length : Int) < 6
 ·
  rw [if_pos c2] at H
  have c2b0 : decide ((l0.length : Int) < 6) = true := decide_eq_true c2
  have c2b1 : decide (l0.length < 6) = true := decide_eq_true (by omega)
  clear c2
  simp only [Option.some.injEq, Prod.mk.injEq] at H
  obtain ⟨rfl, rfl, rfl, rfl⟩ := H
  go_enter Try.func68, Try.ntmps68
  go_wp2_with (first | ((with_reducible refine gate_dst (N := 2) rfl ?_); refine box_event ?hg (N := 2) ?hd (cs := #[.int .i64 0, .int .i64 0, .int .i64 0]) (t := 91) ?hr ?_; (case hd => rfl); (case hg => rfl); (case hr => first | (go_simp; done) | (go_simp; rfl)); intro gb378 hg w3 hbox hb; have n0_ := Aside0.mk (below_step (by repeat (first | (with_reducible first | exact HB.out | apply below_alloc | apply pw_below_drewN | apply below_drew1) | exact HB.out)) hb); have n1_ := Aside0.mk (hbox); have n2_ := Aside0.mk ((by rw [hg]; exact (below_size (by repeat (first | (with_reducible first | exact HB.out | apply below_alloc | apply pw_below_drewN | apply below_drew1) | exact HB.out))) : w.heap.size ≤ gb378)); have n3_ := Aside0.mk ((by rw [hg]; exact (below_size (by repeat (first | (with_reducible first | exact HB.out | apply below_alloc | apply pw_below_drewN | apply below_drew1) | exact HB.out))) : w.heap.size ≤ gb378)); clear HB; have HB := n0_; have BK378 := n1_; have GW378 := n2_; have GE378 := n3_; clear n0_ n1_ n2_ n3_; clear hb hbox hg; have hcz4_0 : w3.cell? ⟨gb378, 0, none⟩ = some (.int .i64 0) := (blk_cell BK378.out 0).trans rfl; have hcz4_1 : w3.cell? ⟨gb378, 1, none⟩ = some (.int .i64 0) := (blk_cell BK378.out 1).trans rfl; have hcz4_2 : w3.cell? ⟨gb378, 2, none⟩ = some (.int .i64 0) := (blk_cell BK378.out 2).trans rfl; have hfz4_0 := blk_frozen BK378.out 0; have hfz4_1 := blk_frozen BK378.out 1; have hfz4_2 := blk_frozen BK378.out 2))
  refine bodyPost_ret (results_ct rfl _ _ gb378 91 #[.int .i64 0, .int .i64 0, .int .i64 0] (0, 0) _ rfl (by (with_reducible repeat (first | refine blk_drewN ?_ _ | refine blk_drew ?_ | refine blk_alloc ?_ _)); refine blk_put (cs := #[.int .i64 0, .int .i64 0, .int .i64 0]) ?_ 2 _ rfl; (with_reducible repeat (first | refine blk_drewN ?_ _ | refine blk_drew ?_ | refine blk_alloc ?_ _)); refine blk_put (cs := #[.int .i64 0, .int .i64 0, .int .i64 0]) ?_ 1 _ rfl; (with_reducible repeat (first | refine blk_drewN ?_ _ | refine blk_drew ?_ | refine blk_alloc ?_ _)); refine blk_put (cs := #[.int .i64 0, .int .i64 0, .int .i64 0]) ?_ 0 _ rfl; (with_reducible repeat (first | refine blk_drewN ?_ _ | refine blk_drew ?_ | refine blk_alloc ?_ _)); exact BK378.out) Try.underlying91 rfl (by kernel_rfl)) rfl ?_
  exact ⟨by first | rfl | (simp [errW_none, errW_some] <;> rfl) | (simp [*, errW_none, errW_some] <;> rfl), by repeat (first | (with_reducible first | exact HB.out | apply below_alloc | apply pw_below_drewN | apply below_drew1 | refine below_set ?_ GE378.out) | exact HB.out)⟩
 ·
  rw [if_neg c2] at H
  have c2b0 : decide ((l0.length : Int) < 6) = false := decide_eq_false c2
  have c2b1 : decide (l0.length < 6) = false := decide_eq_false (by omega)
  clear c2
  replace H := Option.bind_eq_some_iff.mp H
  obtain ⟨t379, A50, H⟩ := H
  replace H : ((busbarref5_word.f l0 2).bind fun t380 => (if t380 = 0 then (if t379 < 2 then (busbarref5_GetHead.j0 k l0 t379 true) else (busbarref5_GetHead.j0 k l0 t379 (decide (t379 > 254)))) else (busbarref5_GetHead.j0 k l0 t379 true))) = some (r1, r2, r3, r4) := H
  have A5 := Aside0.mk A50
  clear A50
  have HC6 := Aside0.mk H
  clear H
  go_enter Try.func68, Try.ntmps68
  go_upto_region 4 with (first | ((with_reducible refine gate_dst (N := 2) rfl ?_); refine box_event ?hg (N := 2) ?hd (cs := #[.int .i64 0, .int .i64 0, .int .i64 0]) (t := 91) ?hr ?_; (case hd => rfl); (case hg => rfl); (case hr => first | (go_simp; done) | (go_simp; rfl)); intro gb378 hg w7 hbox hb; have n0_ := Aside0.mk (below_step (by repeat (first | (with_reducible first | exact HB.out | apply below_alloc | apply pw_below_drewN | apply below_drew1) | exact HB.out)) hb); have n1_ := Aside0.mk (hbox); have n2_ := Aside0.mk ((by rw [hg]; exact (below_size (by repeat (first | (with_reducible first | exact HB.out | apply below_alloc | apply pw_below_drewN | apply below_drew1) | exact HB.out))) : w.heap.size ≤ gb378)); have n3_ := Aside0.mk ((by rw [hg]; exact (below_size (by repeat (first | (with_reducible first | exact HB.out | apply below_alloc | apply pw_below_drewN | apply below_drew1) | exact HB.out))) : w.heap.size ≤ gb378)); clear HB; have HB := n0_; have BK378 := n1_; have GW378 := n2_; have GE378 := n3_; clear n0_ n1_ n2_ n3_; clear hb hbox hg) | ((with_reducible refine gate_callee (f := 69) rfl ?_); refine goesL_ (some 10) rfl rfl Try.func69 (by kernel_rfl) rfl #[.slice A0 l0.length c0, .int .i64 4] rfl (by (try simp only [List.map_toArray, List.map_cons, List.map_nil]); first | done | rfl | (simp only [List.length_drop, List.length_take]; rfl)) ?_; (with_reducible refine (busbarref5_word.calls _ _ l0 4 t379 _ ?side1 ?side2 A5.out).mono ?_); (case side1 => repeat (first | exact (Kd.C_below HR0.out HB.out) | (with_reducible refine Kd.C_alloc ?_ _) | (with_reducible refine Kd.C_drewN ?_ _) | (with_reducible refine Kd.C_drew ?_))); (case side2 => exact HC0.out); rintro e w' ⟨rfl, ⟨nd, rfl⟩⟩; refine ⟨_, rfl, ?_⟩))
  (try simp only [Act.put, List.setIfInBounds_toArray, List.set_cons_zero, List.set_cons_succ])
  go_cut [21] (fun v21 wc => ∃ (kq : Nat) (x21_5 : Bool), v21 = .bool x21_5 ∧ Aside0 (busbarref5_GetHead.j0 kq l0 t379 x21_5 = some (r1, r2, r3, r4)) ∧ Aside0 (kq ≤ k) ∧ Aside0 (wc.heap[gb378]? = some (.cells #[.int .i64 0, .int .i64 0, .int .i64 0] 91 (0, 0))) ∧ Aside0 (Below w.heap.size w wc))
  case first =>
   have H := HC6.out
   clear HC6
   replace H := Option.bind_eq_some_iff.mp H
   obtain ⟨t380, A80, H⟩ := H
   replace H : (if t380 = 0 then (if t379 < 2 then (busbarref5_GetHead.j0 k l0 t379 true) else (busbarref5_GetHead.j0 k l0 t379 (decide (t379 > 254)))) else (busbarref5_GetHead.j0 k l0 t379 true)) = some (r1, r2, r3, r4) := H
   have A8 := Aside0.mk A80
   clear A80
   by_cases c9 : t380 = 0
   ·
    rw [if_pos c9] at H
    have c9b0 : (t380 == 0) = true := beq_iff_eq.mpr c9
    have c9b1 : (t380 != 0) = false := bne_eq_false_iff_eq.mpr c9
    clear c9
    (first | rw [c9b0] | (simp only [i64_w, i32_w]; rw [c9b0]) | skip)
    by_cases c10 : t379 < 2
    ·
     rw [if_pos c10] at H
     have c10b0 : decide (t379 < 2) = true := decide_eq_true c10
     clear c10
     have H' := Aside0.mk H
     clear H
     go_wp2_with (first | ((with_reducible refine gate_callee (f := 69) rfl ?_); refine goesL_ (some 12) rfl rfl Try.func69 (by kernel_rfl) rfl #[.slice A0 l0.length c0, .int .i64 2] rfl (by (try simp only [List.map_toArray, List.map_cons, List.map_nil]); first | done | rfl | (simp only [List.length_drop, List.length_take]; rfl)) ?_; (with_reducible refine (busbarref5_word.calls _ _ l0 2 t380 _ ?side1 ?side2 A8.out).mono ?_); (case side1 => repeat (first | exact (Kd.C_below HR0.out HB.out) | (with_reducible refine Kd.C_alloc ?_ _) | (with_reducible refine Kd.C_drewN ?_ _) | (with_reducible refine Kd.C_drew ?_))); (case side2 => exact HC0.out); rintro e w' ⟨rfl, ⟨nd, rfl⟩⟩; refine ⟨_, rfl, ?_⟩))
     go_meet
     case rel => exact ⟨_, (true), (by first | rfl | (simp; done) | (simp [*]; done)), H', ⟨by first | omega | exact Nat.le_refl _⟩, ⟨by (with_reducible repeat (first | refine blk_drewN ?_ _ | refine blk_drew ?_ | refine blk_alloc ?_ _)); exact BK378.out⟩, ⟨by repeat (first | (with_reducible first | exact HB.out | apply below_alloc | apply pw_below_drewN | apply below_drew1 | refine below_set ?_ GE378.out) | exact HB.out)⟩⟩
    ·
     rw [if_neg c10] at H
     have c10b0 : decide (t379 < 2) = false := decide_eq_false c10
     clear c10
     have H' := Aside0.mk H
     clear H
     go_wp2_with (first | ((with_reducible refine gate_callee (f := 69) rfl ?_); refine goesL_ (some 12) rfl rfl Try.func69 (by kernel_rfl) rfl #[.slice A0 l0.length c0, .int .i64 2] rfl (by (try simp only [List.map_toArray, List.map_cons, List.map_nil]); first | done | rfl | (simp only [List.length_drop, List.length_take]; rfl)) ?_; (with_reducible refine (busbarref5_word.calls _ _ l0 2 t380 _ ?side1 ?side2 A8.out).mono ?_); (case side1 => repeat (first | exact (Kd.C_below HR0.out HB.out) | (with_reducible refine Kd.C_alloc ?_ _) | (with_reducible refine Kd.C_drewN ?_ _) | (with_reducible refine Kd.C_drew ?_))); (case side2 => exact HC0.out); rintro e w' ⟨rfl, ⟨nd, rfl⟩⟩; refine ⟨_, rfl, ?_⟩))
     go_meet
     case rel => exact ⟨_, (decide (t379 > 254)), (by first | rfl | (simp; done) | (simp [*]; done)), H', ⟨by first | omega | exact Nat.le_refl _⟩, ⟨by (with_reducible repeat (first | refine blk_drewN ?_ _ | refine blk_drew ?_ | refine blk_alloc ?_ _)); exact BK378.out⟩, ⟨by repeat (first | (with_reducible first | exact HB.out | apply below_alloc | apply pw_below_drewN | apply below_drew1 | refine below_set ?_ GE378.out) | exact HB.out)⟩⟩
   ·
    rw [if_neg c9] at H
    have c9b0 : (t380 == 0) = false := beq_eq_false_iff_ne.mpr c9
    have c9b1 : (t380 != 0) = true := bne_iff_ne.mpr c9
    (first | rw [c9b0] | (simp only [i64_w, i32_w]; rw [c9b0]) | skip)
    have H' := Aside0.mk H
    clear H
    go_wp2_with (first | ((with_reducible refine gate_callee (f := 69) rfl ?_); refine goesL_ (some 12) rfl rfl Try.func69 (by kernel_rfl) rfl #[.slice A0 l0.length c0, .int .i64 2] rfl (by (try simp only [List.map_toArray, List.map_cons, List.map_nil]); first | done | rfl | (simp only [List.length_drop, List.length_take]; rfl)) ?_; (with_reducible refine (busbarref5_word.calls _ _ l0 2 t380 _ ?side1 ?side2 A8.out).mono ?_); (case side1 => repeat (first | exact (Kd.C_below HR0.out HB.out) | (with_reducible refine Kd.C_alloc ?_ _) | (with_reducible refine Kd.C_drewN ?_ _) | (with_reducible refine Kd.C_drew ?_))); (case side2 => exact HC0.out); rintro e w' ⟨rfl, ⟨nd, rfl⟩⟩; refine ⟨_, rfl, ?_⟩))
    go_meet
    case rel => exact ⟨_, (true), (by first | rfl | (simp; done) | (simp [*]; done)), H', ⟨by first | omega | exact Nat.le_refl _⟩, ⟨by (with_reducible repeat (first | refine blk_drewN ?_ _ | refine blk_drew ?_ | refine blk_alloc ?_ _)); exact BK378.out⟩, ⟨by repeat (first | (with_reducible first | exact HB.out | apply below_alloc | apply pw_below_drewN | apply below_drew1 | refine below_set ?_ GE378.out) | exact HB.out)⟩⟩
  case rest =>
   clear HC6
   try clear c1
   try clear c2
   try clear c2b0
   try clear c2b1
   try clear p2
   try clear c6
   try clear c9
   try clear c9b0
   try clear c9b1
   try clear c10
   try clear c10b0
   try clear hcz4_0
   try clear hcz4_1
   try clear hcz4_2
   try clear hfz4_0
   try clear hfz4_1
   try clear hfz4_2
   obtain ⟨kq, x21_5, rfl, HA, HJ5, BK378, HB⟩ := hcut
   cases kq with
   | zero => exact absurd HA.out (by simp [busbarref5_GetHead.j0])
   | succ kj5 =>
    have H := HA.out
    clear HA
    simp only [busbarref5_GetHead.j0] at H
    by_cases c11 : x21_5 = true
    ·
     subst c11
     have H1 : (some (0, 0, 0, 2)) = some (r1, r2, r3, r4) := by rw [if_pos rfl] at H; exact H
     clear H
     have H := H1
     clear H1
     simp only [Option.some.injEq, Prod.mk.injEq] at H
     obtain ⟨rfl, rfl, rfl, rfl⟩ := H
     have hcz12_0 : wc.cell? ⟨gb378, 0, none⟩ = some (.int .i64 0) := (blk_cell BK378.out 0).trans rfl
     have hcz12_1 : wc.cell? ⟨gb378, 1, none⟩ = some (.int .i64 0) := (blk_cell BK378.out 1).trans rfl
     have hcz12_2 : wc.cell? ⟨gb378, 2, none⟩ = some (.int .i64 0) := (blk_cell BK378.out 2).trans rfl
     have hfz12_0 := blk_frozen BK378.out 0
     have hfz12_1 := blk_frozen BK378.out 1
     have hfz12_2 := blk_frozen BK378.out 2
     go_wp2
     refine bodyPost_ret (results_ct rfl _ _ gb378 91 #[.int .i64 0, .int .i64 0, .int .i64 0] (0, 0) _ rfl (by (with_reducible repeat (first | refine blk_drewN ?_ _ | refine blk_drew ?_ | refine blk_alloc ?_ _)); refine blk_put (cs := #[.int .i64 0, .int .i64 0, .int .i64 0]) ?_ 2 _ rfl; (with_reducible repeat (first | refine blk_drewN ?_ _ | refine blk_drew ?_ | refine blk_alloc ?_ _)); refine blk_put (cs := #[.int .i64 0, .int .i64 0, .int .i64 0]) ?_ 1 _ rfl; (with_reducible repeat (first | refine blk_drewN ?_ _ | refine blk_drew ?_ | refine blk_alloc ?_ _)); refine blk_put (cs := #[.int .i64 0, .int .i64 0, .int .i64 0]) ?_ 0 _ rfl; (with_reducible repeat (first | refine blk_drewN ?_ _ | refine blk_drew ?_ | refine blk_alloc ?_ _)); exact BK378.out) Try.underlying91 rfl (by kernel_rfl)) rfl ?_
     exact ⟨by first | rfl | (simp [errW_none, errW_some] <;> rfl) | (simp [*, errW_none, errW_some] <;> rfl), by repeat (first | (with_reducible first | exact HB.out | apply below_alloc | apply pw_below_drewN | apply below_drew1 | refine below_set ?_ GE378.out) | exact HB.out)⟩
    ·
     replace c11 := Bool.eq_false_iff.mpr c11
     subst c11
     have H1 : (if (l0.length : Int) = 6 then (some (0, 0, 0, 3)) else ((busbarref5_word.f l0 0).bind fun t381 => (if 6 < (l0.length : Int) then (some (t381, t379, wrap64 (rd l0 6), 0)) else (none)))) = some (r1, r2, r3, r4) := by rw [if_neg (show ¬ (false = true) by decide)] at H; exact H
     clear H
     have H := H1
     clear H1
     by_cases c13 : (l0.length : Int) = 6
     ·
      rw [if_pos c13] at H
      have c13b0 : ((l0.length : Int) == 6) = true := beq_iff_eq.mpr c13
      have c13b1 : ((l0.length : Int) != 6) = false := bne_eq_false_iff_eq.mpr c13
      clear c13
      simp only [Option.some.injEq, Prod.mk.injEq] at H
      obtain ⟨rfl, rfl, rfl, rfl⟩ := H
      have hcz14_0 : wc.cell? ⟨gb378, 0, none⟩ = some (.int .i64 0) := (blk_cell BK378.out 0).trans rfl
      have hcz14_1 : wc.cell? ⟨gb378, 1, none⟩ = some (.int .i64 0) := (blk_cell BK378.out 1).trans rfl
      have hcz14_2 : wc.cell? ⟨gb378, 2, none⟩ = some (.int .i64 0) := (blk_cell BK378.out 2).trans rfl
      have hfz14_0 := blk_frozen BK378.out 0
      have hfz14_1 := blk_frozen BK378.out 1
      have hfz14_2 := blk_frozen BK378.out 2
      go_wp2
      refine bodyPost_ret (results_ct rfl _ _ gb378 91 #[.int .i64 0, .int .i64 0, .int .i64 0] (0, 0) _ rfl (by (with_reducible repeat (first | refine blk_drewN ?_ _ | refine blk_drew ?_ | refine blk_alloc ?_ _)); refine blk_put (cs := #[.int .i64 0, .int .i64 0, .int .i64 0]) ?_ 2 _ rfl; (with_reducible repeat (first | refine blk_drewN ?_ _ | refine blk_drew ?_ | refine blk_alloc ?_ _)); refine blk_put (cs := #[.int .i64 0, .int .i64 0, .int .i64 0]) ?_ 1 _ rfl; (with_reducible repeat (first | refine blk_drewN ?_ _ | refine blk_drew ?_ | refine blk_alloc ?_ _)); refine blk_put (cs := #[.int .i64 0, .int .i64 0, .int .i64 0]) ?_ 0 _ rfl; (with_reducible repeat (first | refine blk_drewN ?_ _ | refine blk_drew ?_ | refine blk_alloc ?_ _)); exact BK378.out) Try.underlying91 rfl (by kernel_rfl)) rfl ?_
      exact ⟨by first | rfl | (simp [errW_none, errW_some] <;> rfl) | (simp [*, errW_none, errW_some] <;> rfl), by repeat (first | (with_reducible first | exact HB.out | apply below_alloc | apply pw_below_drewN | apply below_drew1 | refine below_set ?_ GE378.out) | exact HB.out)⟩
     ·
      rw [if_neg c13] at H
      have c13b0 : ((l0.length : Int) == 6) = false := beq_eq_false_iff_ne.mpr c13
      have c13b1 : ((l0.length : Int) != 6) = true := bne_iff_ne.mpr c13
      replace H := Option.bind_eq_some_iff.mp H
      obtain ⟨t381, A150, H⟩ := H
      replace H : (if 6 < (l0.length : Int) then (some (t381, t379, wrap64 (rd l0 6), 0)) else (none)) = some (r1, r2, r3, r4) := H
      have A15 := Aside0.mk A150
      clear A150
      by_cases c16 : 6 < (l0.length : Int)
      ·
       rw [if_pos c16] at H
       have c16b0 : decide (6 < (l0.length : Int)) = true := decide_eq_true c16
       have c16b1 : decide (6 < l0.length) = true := decide_eq_true (by omega)
       clear c16
       simp only [Option.some.injEq, Prod.mk.injEq] at H
       obtain ⟨rfl, rfl, rfl, rfl⟩ := H
       try go_wp2
       have n0_ := Aside0.mk (blk_drew BK378.out)
       have n1_ := Aside0.mk (below_drew1 HB.out)
       clear BK378
       clear HB
       have BK378 := n0_
       have HB := n1_
       clear n0_ n1_
       have p382 : 0 ≤ (6 : Int) := (by omega)
       have q382 : 6 < (l0.length : Int) := of_decide_eq_true (by first | (with_reducible assumption) | assumption)
       obtain ⟨ad382, e382, hx382_0⟩ := Kd.at_int HR0.out 6 p382 q382
       have hw382_0 := hx382_0
       (try rw [show ((6 : Int)).toNat = 6 from rfl] at hw382_0)
       (try rw [show 6 * 1 = 6 from rfl] at hw382_0)
       (try simp only [Nat.reduceMul, Nat.reduceEqDiff, Go.Addr.add, ↓reduceIte] at hw382_0)
       cases e382
       (try simp only [show (6 : Int).toNat = 6 from rfl, Nat.reduceMul, Nat.reduceEqDiff, Go.Addr.add, ↓reduceIte] at hx382_0)
       have qi382 : (6 < l0.length) = True := eq_true (by omega)
       (try rw [show ((6 : Int)).toNat = 6 from rfl] at hx382_0)
       replace hx382_0 := (HB.out.cell (World.block_lt_of_cell? w _ hx382_0)).trans hx382_0
       replace p382 := eq_true p382
       replace q382 := eq_true q382
       refine start_ (n := 10) (S := fun w' => w'.cell? ⟨ad382.block, ad382.off + 6, none⟩ = some (.int .u8 (rd l0 6))) (ds := []) #[false,false,false,false,false,false,false,false,false,false] (by kernel_rfl) rfl rfl (((HB.out.cell (World.block_lt_of_cell? w _ hw382_0)).trans hw382_0)) (fun hHeld => ?_); refine with_tabW busbarref5_GetHead.tab8 busbarref5_GetHead.bits8 (fun HT_ HW_ => ?_)
       generalize wc.drew = w17 at BK378 HB hx382_0 hHeld ⊢
       refine pure_ (i := 0) (N := some 27) (v := ?_) (a' := ?_) #[true,false,false,false,false,false,false,false,false,false] rfl rfl (any_of HT_.out (by kernel_rfl)) (fun _ _ _ h => h) (Or.inl ⟨by rfl, ?_⟩) ?_ ?_
       rotate_left
       ·
        intro w'
        go_simp
        with_reducible rfl
       rotate_left
       ·
        simp only [Act.put, List.setIfInBounds_toArray, List.set_cons_zero, List.set_cons_succ, i64_w, i32_w]
        rfl
       refine pure_ (i := 2) (N := some 29) (v := ?_) (a' := ?_) #[true,false,true,false,false,false,false,false,false,false] rfl rfl (any_of HT_.out (by kernel_rfl)) (fun _ _ _ h => h) (Or.inl ⟨by rfl, ?_⟩) ?_ ?_
       rotate_left
       ·
        intro w'
        go_simp
        with_reducible rfl
       rotate_left
       ·
        simp only [Act.put, List.setIfInBounds_toArray, List.set_cons_zero, List.set_cons_succ, i64_w, i32_w]
        rfl
       refine pure_ (i := 3) (N := some 30) (v := ?_) (a' := ?_) #[true,false,true,true,false,false,false,false,false,false] rfl rfl (any_of HT_.out (by kernel_rfl)) (fun _ _ _ h => h) (Or.inl ⟨by rfl, ?_⟩) ?_ ?_
       rotate_left
       ·
        intro w'
        go_simp
        with_reducible rfl
       rotate_left
       ·
        simp only [Act.put, List.setIfInBounds_toArray, List.set_cons_zero, List.set_cons_succ, i64_w, i32_w]
        rfl
       refine pure_ (i := 4) (N := some 31) (v := ?_) (a' := ?_) #[true,false,true,true,true,false,false,false,false,false] rfl rfl (any_of HT_.out (by kernel_rfl)) (fun _ _ _ h => h) (Or.inl ⟨by rfl, ?_⟩) ?_ ?_
       rotate_left
       ·
        intro w'
        go_simp
        with_reducible rfl
       rotate_left
       ·
        simp only [Act.put, List.setIfInBounds_toArray, List.set_cons_zero, List.set_cons_succ, i64_w, i32_w]
        rfl
       refine take_ (i := 5) (N := some 32) (v := ?_) (a' := ?_) #[true,false,true,true,true,true,false,false,false,false] rfl rfl (take_ofW HT_.out HW_.out (by kernel_rfl)) (fun _ _ _ h => h) (Or.inl ⟨by rfl, ?_⟩) hHeld ?_ ?_
       rotate_left
       ·
        intro w' s0
        go_simp
        with_reducible rfl
       rotate_left
       ·
        simp only [Act.put, List.setIfInBounds_toArray, List.set_cons_zero, List.set_cons_succ, i64_w, i32_w]
        rfl
       refine pure_ (i := 6) (N := some 33) (v := ?_) (a' := ?_) #[true,false,true,true,true,true,true,false,false,false] rfl rfl (any_of HT_.out (by kernel_rfl)) (fun _ _ _ h => h) (Or.inl ⟨by rfl, ?_⟩) ?_ ?_
       rotate_left
       ·
        intro w'
        go_simp
        with_reducible rfl
       rotate_left
       ·
        simp only [Act.put, List.setIfInBounds_toArray, List.set_cons_zero, List.set_cons_succ, i64_w, i32_w]
        rfl
       refine one_ (i := 1) (N := some 28) #[true,true,true,true,true,true,true,false,false,false] rfl rfl (one_of HT_.out (by kernel_rfl)) (by decide) (fun K hK => ?_)
       refine goes_ Try.func69 (by kernel_rfl) rfl #[.slice (some ad382) l0.length c0, .int .i64 0] (by rfl) rfl rfl (by (try simp only [List.map_toArray, List.map_cons, List.map_nil]); first | done | rfl | (simp only [List.length_drop, List.length_take]; rfl)) ?_
       with_reducible refine (busbarref5_word.calls _ _ l0 0 t381 _ ?side1 ?side2 A15.out).mono ?_
       (case side1 => repeat (first | exact (Kd.C_below HR0.out HB.out) | (with_reducible refine Kd.C_alloc ?_ _) | (with_reducible refine Kd.C_drewN ?_ _) | (with_reducible refine Kd.C_drew ?_)))
       (case side2 => exact HC0.out)
       rintro e w' ⟨rfl, ⟨nd, rfl⟩⟩
       refine ⟨_, rfl, ?_⟩
       refine hK.out _ _ (((HB.out.cell (World.block_lt_of_cell? w _ hw382_0)).trans hw382_0)) (fun hHeld => ?_)
       clear hK K
       refine norm_ (a' := ?_) ?_ ?_
       rotate_left
       ·
        show Act.put _ (some 28) _ = _
        simp only [Act.put, List.setIfInBounds_toArray, List.set_cons_zero, List.set_cons_succ, i64_w, i32_w]
        rfl
       refine pure_ (i := 7) (N := some 34) (v := ?_) (a' := ?_) #[true,true,true,true,true,true,true,true,false,false] rfl rfl (any_of HT_.out (by kernel_rfl)) (fun _ _ _ h => h) (Or.inl ⟨by rfl, ?_⟩) ?_ ?_
       rotate_left
       ·
        intro w'
        go_simp
        with_reducible rfl
       rotate_left
       ·
        simp only [Act.put, List.setIfInBounds_toArray, List.set_cons_zero, List.set_cons_succ, i64_w, i32_w]
        rfl
       refine one_ (i := 8) (N := none) #[true,true,true,true,true,true,true,true,true,false] rfl rfl (one_of HT_.out (by kernel_rfl)) (by decide) (fun K hK => ?_)
       have hs18 : w17.cell? ⟨gb378, 0, none⟩ = some (.int .i64 0) := (blk_cell BK378.out 0).trans rfl
       have hfs18 := blk_frozen BK378.out 0
       have hs19 : w17.cell? ⟨gb378, 1, none⟩ = some (.int .i64 0) := (blk_cell BK378.out 1).trans rfl
       have hfs19 := blk_frozen BK378.out 1
       have hs20 : w17.cell? ⟨gb378, 2, none⟩ = some (.int .i64 0) := (blk_cell BK378.out 2).trans rfl
       have hfs20 := blk_frozen BK378.out 2
       refine skip_ (w1 := ?_) (by rfl) rfl ?_ ?_
       rotate_left
       ·
        go_simp
        rfl
       refine hK.out _ _ (((cell_far (p := ⟨gb378, _, none⟩) (by first | exact Nat.ne_of_lt (Nat.lt_of_lt_of_le (by have := World.block_lt_of_cell? _ _ hw382_0; first | rwa [add_block] at this | exact this) GW378.out) | (rw [add_block]; exact Nat.ne_of_lt (Nat.lt_of_lt_of_le (by have := World.block_lt_of_cell? _ _ hw382_0; first | rwa [add_block] at this | exact this) GW378.out)) | (show (Addr.add _ _).block ≠ _; rw [add_block]; exact Nat.ne_of_lt (Nat.lt_of_lt_of_le (by have := World.block_lt_of_cell? _ _ hw382_0; first | rwa [add_block] at this | exact this) GW378.out)) | (dsimp only; exact Nat.ne_of_lt (Nat.lt_of_lt_of_le (by have := World.block_lt_of_cell? _ _ hw382_0; first | rwa [add_block] at this | exact this) GW378.out))) _).trans (((cell_far (p := ⟨gb378, _, none⟩) (by first | exact Nat.ne_of_lt (Nat.lt_of_lt_of_le (by have := World.block_lt_of_cell? _ _ hw382_0; first | rwa [add_block] at this | exact this) GW378.out) | (rw [add_block]; exact Nat.ne_of_lt (Nat.lt_of_lt_of_le (by have := World.block_lt_of_cell? _ _ hw382_0; first | rwa [add_block] at this | exact this) GW378.out)) | (show (Addr.add _ _).block ≠ _; rw [add_block]; exact Nat.ne_of_lt (Nat.lt_of_lt_of_le (by have := World.block_lt_of_cell? _ _ hw382_0; first | rwa [add_block] at this | exact this) GW378.out)) | (dsimp only; exact Nat.ne_of_lt (Nat.lt_of_lt_of_le (by have := World.block_lt_of_cell? _ _ hw382_0; first | rwa [add_block] at this | exact this) GW378.out))) _).trans (((cell_far (p := ⟨gb378, _, none⟩) (by first | exact Nat.ne_of_lt (Nat.lt_of_lt_of_le (by have := World.block_lt_of_cell? _ _ hw382_0; first | rwa [add_block] at this | exact this) GW378.out) | (rw [add_block]; exact Nat.ne_of_lt (Nat.lt_of_lt_of_le (by have := World.block_lt_of_cell? _ _ hw382_0; first | rwa [add_block] at this | exact this) GW378.out)) | (show (Addr.add _ _).block ≠ _; rw [add_block]; exact Nat.ne_of_lt (Nat.lt_of_lt_of_le (by have := World.block_lt_of_cell? _ _ hw382_0; first | rwa [add_block] at this | exact this) GW378.out)) | (dsimp only; exact Nat.ne_of_lt (Nat.lt_of_lt_of_le (by have := World.block_lt_of_cell? _ _ hw382_0; first | rwa [add_block] at this | exact this) GW378.out))) _).trans (hHeld))))))) (fun hHeld => ?_)
       clear hK K
       refine pure_ (i := 9) (N := some 3) (v := ?_) (a' := ?_) #[true,true,true,true,true,true,true,true,true,true] rfl rfl (any_of HT_.out (by kernel_rfl)) (fun _ _ _ h => h) (Or.inl ⟨by rfl, ?_⟩) ?_ ?_
       rotate_left
       ·
        intro w'
        go_simp
        with_reducible rfl
       rotate_left
       ·
        simp only [Act.put, List.setIfInBounds_toArray, List.set_cons_zero, List.set_cons_succ, i64_w, i32_w]
        rfl
       refine done_ (done_of HT_.out (by kernel_rfl)) ?_
       try go_wp2
       refine bodyPost_ret (results_ct rfl _ _ gb378 91 #[.int .i64 t381, .int .i64 t379, .int .i64 (wrap64 (rd l0 6))] (0, 0) _ rfl (by (with_reducible repeat (first | refine blk_drewN ?_ _ | refine blk_drew ?_ | refine blk_alloc ?_ _)); refine blk_put (cs := #[.int .i64 t381, .int .i64 t379, .int .i64 0]) ?_ 2 _ rfl; (with_reducible repeat (first | refine blk_drewN ?_ _ | refine blk_drew ?_ | refine blk_alloc ?_ _)); refine blk_put (cs := #[.int .i64 t381, .int .i64 0, .int .i64 0]) ?_ 1 _ rfl; (with_reducible repeat (first | refine blk_drewN ?_ _ | refine blk_drew ?_ | refine blk_alloc ?_ _)); refine blk_put (cs := #[.int .i64 0, .int .i64 0, .int .i64 0]) ?_ 0 _ rfl; (with_reducible repeat (first | refine blk_drewN ?_ _ | refine blk_drew ?_ | refine blk_alloc ?_ _)); exact BK378.out) Try.underlying91 rfl (by kernel_rfl)) rfl ?_
       exact ⟨by first | rfl | (simp [errW_none, errW_some] <;> rfl) | (simp [*, errW_none, errW_some] <;> rfl), by repeat (first | (with_reducible first | exact HB.out | apply below_alloc | apply pw_below_drewN | apply below_drew1 | refine below_set ?_ GE378.out) | exact HB.out)⟩
      ·
       rw [if_neg c16] at H
       exact absurd H (by simp)
end Go.Proofs.Ytakiojmjalbfpaa.PFlow
