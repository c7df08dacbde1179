-- written by a program of this session (wip/pp) over the kit's print.py; Lean checks it
import Derived.Test.YtkioalfallhegaaPCtrlx0
import Derived.Test.YtkioalfallhegaaPCtrlx2
import Derived.RegionTactic
import Derived.ChangeAlike
import Derived.Laws.CopyOwn
import Derived.Outline
import Derived.Lib.Hide
import Derived.WalkSpells
namespace Go.Proofs.Ytkioalfallhegaa.PCtrl
open Go.RowKit Go.Proofs.YtkioalfallhegaaW.PrintWords Go.Proofs.YtkioalfallhegaaW.PrintLast Go.Proofs.YtkioalfallhegaaW.PrintMore
attribute [local go_sem] max2_int min2_int max_two min_two max_three min_three max_four min_four plus_setCell_drewN plus_cell_same   -- for this text's walks alone
set_option linter.unusedVariables false
set_option linter.unusedSimpArgs false

/-! ### ctrl_Regs: function 19 -/
-- IMPORT Derived.RegionTactic
-- IMPORT Derived.ChangeAlike
-- IMPORT Derived.Laws.CopyOwn
-- IMPORT Derived.Outline
-- IMPORT Derived.Lib.Hide
-- IMPORT Derived.WalkSpells
theorem blk_at_new (W : World) (o : Obj) (g : Nat) (h : g = W.heap.size) : (W.alloc o).heap[g]? = some o := by subst h; exact blk_new W o
theorem registers_calls (k : Nat) (a b c s : Int) (x0 x1 x2 x3 : Int) (ok : Bool) (w : World) (h : word_Split.f k s 4 false = some ([x0, x1, x2, x3], ok)) :
  Calls Try.prog 48 #[.agg #[.int .i64 a, .int .i64 b, .int .i64 c, .int .u64 s]] w fun e w' => e = .returned (.agg #[.int .u16 0, .int .u16 (IntKind.u16.wrap a), .int .u16 (IntKind.u16.wrap b), .int .u16 (IntKind.u16.wrap c), .int .u16 x0, .int .u16 x1, .int .u16 x2, .int .u16 x3]) ∧ Below w.heap.size w w' := by
 have hu36 := Try.underlying36
 have hu69 := Try.underlying69
 have H := Lib.hid h; clear h
 go_enter Try.func48, Try.ntmps48
 go_wp2
 go_region
 go_wp2_with (fail)
 refine (word_Split.calls k s 4 false _ ok _ H.out).mono ?_
 rintro e w1 ⟨v, rfl, hR, hb⟩
 obtain ⟨g, cap, rfl, hg1, hg2, hg3⟩ := Kd.R_form hR (by simp)
 have hC := (Kd.R_reads' hR).2.2
 have hcc := (Kd.R_reads' hR).2.1
 have hsrc : ∀ (j : Nat) (v : Value), [Value.int .u16 x0, .int .u16 x1, .int .u16 x2, .int .u16 x3][j]? = some v → w1.cell? ((⟨g, 0, none⟩ : Addr).add j) = some v := by
  obtain ⟨_, _, h3⟩ := hC
  obtain ⟨ad, ea, h4⟩ := h3 (by simp)
  injection ea with ea
  subst ea
  intro j v hj
  have hlt : j < 4 := by
   have := (List.getElem?_eq_some_iff.1 hj).1
   simpa using this
  obtain ⟨c, hc1, hc2, hc3⟩ := h4 j _ (List.getElem?_eq_getElem (by simpa using hlt))
  obtain rfl : c = [Value.int .u16 ([x0, x1, x2, x3][j]'(by simpa using hlt))] := hc2
  have h5 := hc3 0 _ rfl
  rw [show (Kd.int IntKind.u16).sz = 1 from rfl, Nat.mul_one, Nat.add_zero] at h5
  rw [h5, ← hj]
  obtain rfl | rfl | rfl | rfl : j = 0 ∨ j = 1 ∨ j = 2 ∨ j = 3 := by omega
  all_goals rfl
 have b2 := blk_below (g := w.heap.size + 1 + 1) (o := .cells #[.int .u16 0, .int .u16 (IntKind.u16.wrap a), .int .u16 (IntKind.u16.wrap b), .int .u16 (IntKind.u16.wrap c), .int .u16 0, .int .u16 0, .int .u16 0, .int .u16 0] 69 (0, 0)) (blk_drew (blk_at_new _ _ _ (by simp))) hb
 have b1 := blk_below (g := w.heap.size + 1) (o := .cells #[.int .u16 0, .int .u16 0, .int .u16 0, .int .u16 0, .int .u16 0, .int .u16 0, .int .u16 0, .int .u16 0] 69 (0, 0)) (blk_drew (blk_alloc (blk_at_new _ _ _ (by simp)) _)) hb
 have hbw : Below w.heap.size w w1 := (below_drew ((((Below.refl _ _).alloc (Nat.le_refl _) _).alloc (by simp) _).alloc (by simp; omega) _)).trans (hb.mono (by simp; omega))
 have B1 := Lib.hid b1
 have B2 := Lib.hid b2
 have HBW := Lib.hid hbw
 have HS := Lib.hid hsrc
 clear b1 b2 hbw hsrc hC hR hb hg1 hg2 hg3 hcc
 obtain ⟨w2, hcp, c2, c1, hb2⟩ : ∃ w2 : World, (Builtin.copy_ #[24, 24] 3 #[.slice (some ⟨w.heap.size + 1 + 1, 4, none⟩) 4 4, .slice (some ⟨g, 0, none⟩) 4 cap]).run Try.prog w1 = .ok (.int .i64 4) w2 ∧
   w2.heap[w.heap.size + 1 + 1]? = some (.cells #[.int .u16 0, .int .u16 (IntKind.u16.wrap a), .int .u16 (IntKind.u16.wrap b), .int .u16 (IntKind.u16.wrap c), .int .u16 x0, .int .u16 x1, .int .u16 x2, .int .u16 x3] 69 (0, 0)) ∧
   w2.heap[w.heap.size + 1]? = some (.cells #[.int .u16 0, .int .u16 0, .int .u16 0, .int .u16 0, .int .u16 0, .int .u16 0, .int .u16 0, .int .u16 0] 69 (0, 0)) ∧ Below w.heap.size w w2 :=
  ⟨_, run_copy_row (P := Try.prog) w1 24 24 3 22 (w.heap.size + 1 + 1) 4 4 4 ⟨g, 0, none⟩ 4 cap _ 69 [.int .u16 x0, .int .u16 x1, .int .u16 x2, .int .u16 x3] Try.underlying24 (by kernel_rfl) B2.out rfl HS.out (by simp) (by simp [Value.oneCell']),
   setRow_heap _ _ _ _ _ _ B2.out, (setRow_other _ _ _ _ (by omega)).trans B1.out, below_setRow HBW.out (by omega) _⟩
 have hc2_0 := (blk_cell c2 0).trans rfl
 have hc2_1 := (blk_cell c2 1).trans rfl
 have hc2_2 := (blk_cell c2 2).trans rfl
 have hc2_3 := (blk_cell c2 3).trans rfl
 have hc2_4 := (blk_cell c2 4).trans rfl
 have hc2_5 := (blk_cell c2 5).trans rfl
 have hc2_6 := (blk_cell c2 6).trans rfl
 have hc2_7 := (blk_cell c2 7).trans rfl
 have hc1_0 := (blk_cell c1 0).trans rfl
 have hf1_0 := blk_frozen c1 0
 have hc1_1 := (blk_cell c1 1).trans rfl
 have hf1_1 := blk_frozen c1 1
 have hc1_2 := (blk_cell c1 2).trans rfl
 have hf1_2 := blk_frozen c1 2
 have hc1_3 := (blk_cell c1 3).trans rfl
 have hf1_3 := blk_frozen c1 3
 have hc1_4 := (blk_cell c1 4).trans rfl
 have hf1_4 := blk_frozen c1 4
 have hc1_5 := (blk_cell c1 5).trans rfl
 have hf1_5 := blk_frozen c1 5
 have hc1_6 := (blk_cell c1 6).trans rfl
 have hf1_6 := blk_frozen c1 6
 have hc1_7 := (blk_cell c1 7).trans rfl
 have hf1_7 := blk_frozen c1 7
 have HB2 := Lib.hid hb2
 clear c1 c2 hb2 B1 B2 HBW HS
 simp only [List.getElem_toArray, List.getElem_cons_zero, List.getElem_cons_succ] at *
 go_wp2_with (fail)
 exact bodyPost_ret (v := .agg #[.int .u16 0, .int .u16 (IntKind.u16.wrap a), .int .u16 (IntKind.u16.wrap b), .int .u16 (IntKind.u16.wrap c), .int .u16 x0, .int .u16 x1, .int .u16 x2, .int .u16 x3]) (by simp [results, Try.results48, go_sem, hc1_0, hc1_1, hc1_2, hc1_3, hc1_4, hc1_5, hc1_6, hc1_7]) rfl ⟨rfl, by (repeat refine below_set ?_ (show w.heap.size ≤ w.heap.size + 1 by omega)); exact HB2.out⟩
def slices_Clone.f (l0 : List Int) : Option (List Int) := if l0.length < 70368744177664 then some l0 else none
theorem slices_Clone.calls (A0 : Option Addr) (c0 : Nat) (l0 : List Int) (r : List Int) (w : World) (hr0 : Kd.C (Kd.int .u16) w A0 l0.length l0) (hc0 : l0.length ≤ c0) (h : slices_Clone.f l0 = some r) :
  Calls Try.prog 49 #[.slice A0 l0.length c0] w fun e w' => ∃ v0_ : Value, e = .returned (v0_) ∧ Kd.R (Kd.int .u16) 22 w' w.heap.size (fun _ => True) v0_ r ∧ Below w.heap.size w w' := by
 unfold slices_Clone.f at h
 split at h
 ·
  rename_i hlt
  obtain rfl := Option.some.inj h
  clear h
  cases A0 with
  | none =>
   have hl : l0 = [] := by
    rcases Nat.eq_zero_or_pos l0.length with h0 | h0
    ·
     exact List.eq_nil_of_length_eq_zero h0
    ·
     obtain ⟨ad, e, _⟩ := hr0.2.2 h0
     cases e
   subst hl
   have hnil := @Lib.run_eql_slice_nil Try.prog
   go_enter Try.func49, Try.ntmps49
   go_wp2
   go_ret
   exact ⟨_, rfl, Kd.R_nil _ _ _ _ _, Below.refl _ _⟩
  | some a0 =>
   have hnil := @Lib.run_eql_slice_nil Try.prog
   go_enter Try.func49, Try.ntmps49
   have HR := Aside0.mk hr0
   have HL := Aside0.mk hlt
   clear hr0 hlt
   go_wp2_with (first | ((with_reducible refine gate_dst (N := 5) rfl ?_); refine Kd.R_lit (Kd.int .u16) (w0 := w) w.heap.size 22 ?hg (N := 5) ?hd (xs := ([] : List Int)) (inner := []) (ok := fun _ => True) (okp := fun _ => True) ?hr (Reps.none _ _) (fun _ h => h) trivial (Below.refl _ _) (Nat.le_refl _) (by simp) ?_; (case hd => rfl); (case hg => rfl); (case hr => first | (go_simp; done) | (go_simp; rfl)); intro v1 w1 ho hb hg_ _; have HO := Aside0.mk ho; have HB := Aside0.mk hb; clear ho hb hg_) | ((with_reducible refine gate_builtin (b := .append) (xs := #[.tmp 5, .tmp 6]) (ts := #[24, 24]) rfl ?_); refine Kd.R_append_rows (Kd.int .u16) (w0 := w) w.heap.size rfl (.tmp 5) (.tmp 6) 24 22 (.int .u16 0) 2 rfl Try.underlying24 info22 rfl (by decide) (by omega) _ ([] : List Int) l0 _ _ _ (fun _ => True) (fun _ => False) rfl rfl HO.out (Kd.C_below HR.out HB.out) (fun _ _ h => h) (fun _ h => h.elim) (fun _ _ => trivial) HB.out HB.out.size ?aL ?_; (case aL => have := HL.out; simp; omega); intro v2 w2 ho hb hg_ _; have HO2 := Aside0.mk ho; have HB2 := Aside0.mk hb; clear ho hb hg_))
   go_ret
   exact ⟨_, rfl, by have := HO2.out; simpa using this, HB2.out⟩
 ·
  cases h
theorem C_block {k : IntKind} {w : World} {g t : Nat} {fr : Nat × Nat} (l : List Int) (h : w.heap[g]? = some (.cells (l.map (Value.int k)).toArray t fr)) (f n : Nat) (hf : f + n ≤ l.length) (hl : l.length ≤ 100000) :
  Kd.C (Kd.int k) w (some ⟨g, f, none⟩) n ((l.drop f).take n) := by
 refine ⟨by simp; omega, by omega, fun _ => ⟨_, rfl, fun j p hp => ?_⟩⟩
 have hj : j < n := by
  have := (List.getElem?_eq_some_iff.1 hp).1
  simp at this
  omega
 rw [List.getElem?_take_of_lt hj, List.getElem?_drop] at hp
 refine ⟨[.int k p], rfl, rfl, fun i u hu => ?_⟩
 have hi : i = 0 := by
  have := (List.getElem?_eq_some_iff.1 hu).1
  simp at this
  omega
 subst hi
 simp only [List.getElem?_cons_zero, Option.some.injEq] at hu
 subst hu
 rw [show (Kd.int k).sz = 1 from rfl, Nat.mul_one, Nat.add_zero, show (⟨g, f, none⟩ : Addr).add j = ⟨g, f + j, none⟩ by unfold Addr.add; split <;> simp_all, cell_of_row w g (f + j) _ t fr h]
 simp [hp]
def regsOf (a b c : Int) (l : List Int) : List Int := [0, IntKind.u16.wrap a, IntKind.u16.wrap b, IntKind.u16.wrap c] ++ l
def ctrl_Regs.f (k : Nat) (a0_0 a0_1 a0_2 a0_3 : Int) : Option (List Int) := (word_Split.f k a0_3 4 false).bind fun b => if b.1.length = 4 then some (regsOf a0_0 a0_1 a0_2 b.1) else none
theorem ctrl_Regs.calls (k : Nat) (a0_0 a0_1 a0_2 a0_3 : Int) (r : List Int) (w : World) (h : ctrl_Regs.f k a0_0 a0_1 a0_2 a0_3 = some r) :
  Calls Try.prog 19 #[.agg #[.int .i64 a0_0, .int .i64 a0_1, .int .i64 a0_2, .int .u64 a0_3]] w fun e w' => ∃ v0_ : Value, e = .returned (v0_) ∧ Kd.R (Kd.int .u16) 22 w' w.heap.size (fun _ => True) v0_ r ∧ Below w.heap.size w w' := by
 unfold ctrl_Regs.f at h
 obtain ⟨⟨l, ok⟩, hs, h⟩ := Option.bind_eq_some_iff.mp h
 split at h
 ·
  rename_i hl
  obtain rfl := Option.some.inj h
  clear h
  match l, hl, hs with
  | [x0, x1, x2, x3], _, hs =>
  have HS := Lib.hid hs
  clear hs
  have hu36 := Try.underlying36
  have hu69 := Try.underlying69
  go_enter Try.func19, Try.ntmps19
  go_wp2_with (fail)
  refine (registers_calls k _ _ _ _ x0 x1 x2 x3 ok _ HS.out).mono ?_
  rintro e w1 ⟨rfl, hb⟩
  have hz : w.heap.size ≤ w1.heap.size := by have := hb.size; simp at this; omega
  have HB := Lib.hid ((((Below.refl _ _).alloc (Nat.le_refl _) _)).trans (hb.mono (show w.heap.size ≤ _ by simp)))
  clear hb
  go_wp2_with (fail)
  refine (slices_Clone.calls (some ⟨w1.heap.size, 0, none⟩) 8 [0, IntKind.u16.wrap a0_0, IntKind.u16.wrap a0_1, IntKind.u16.wrap a0_2, x0, x1, x2, x3] (regsOf a0_0 a0_1 a0_2 [x0, x1, x2, x3]) _ ?hC (by simp) rfl).mono ?_
  case hC => exact C_block [0, IntKind.u16.wrap a0_0, IntKind.u16.wrap a0_1, IntKind.u16.wrap a0_2, x0, x1, x2, x3] (blk_at_new w1 _ _ rfl) 0 8 (by simp) (by simp)
  rintro e w2 ⟨v, rfl, hR, hb2⟩
  have HR := Lib.hid hR
  have HB2 := Lib.hid hb2
  clear hR hb2
  go_wp2_with (fail)
  go_ret
  exact ⟨_, rfl, Kd.R_lower HR.out (by simp; omega), (HB.out.alloc hz _).trans (HB2.out.mono (by simp; omega))⟩
 ·
  cases h
theorem ctrl_Regs.mono : ∀ a0 a1 a2 a3 k, LeO (ctrl_Regs.f k a0 a1 a2 a3) (ctrl_Regs.f (k + 1) a0 a1 a2 a3) := by
 intro a0 a1 a2 a3 k
 unfold ctrl_Regs.f
 exact LeO.bind (word_Split.mono _ _ _ _) (fun _ => LeO.refl _)
end Go.Proofs.Ytkioalfallhegaa.PCtrl
