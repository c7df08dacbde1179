/- Any groups upon any map, and such as may be with one thing turned, may be or not, as the document says: for all groups and numbers. -/
import Derived.Test.YtmbkbpaoiilicaaSayGroupChecks
import Derived.Test.YtmbkbpaoiilicaaLemGChkGroupC
import Derived.Test.YtmbkbpaoiilicaaLemAwakeGroupC
import Derived.Test.YtmbkbpaoiilicaaPGroupCx0
import Derived.Test.YtmbkbpaoiilicaaPGroupCx14
import Derived.Test.YtmbkbpaoiilicaaPGroupCx16
import Derived.Test.YtmbkbpaoiilicaaPGroupCx17
namespace Go.Proofs.Ytmbkbpaoiilicaa.Pure
open Go.RowKit Go.Proofs.Ytmbkbpaoiilicaa.PGroupC Go.Proofs.YtmbkbpaoiilicaaW.PrintWords Go.Proofs.YtmbkbpaoiilicaaW.PrintLast Go.Proofs.Ytmbkbpaoiilicaa.Num Go.Proofs.Ytmbkbpaoiilicaa.LemWithinGroupC Go.Proofs.Ytmbkbpaoiilicaa.LemDigitGroupC Go.Proofs.Ytmbkbpaoiilicaa.LemGroupGroupC Go.Proofs.Ytmbkbpaoiilicaa.LemGChkGroupC Go.Proofs.Ytmbkbpaoiilicaa.LemSpanFmGroupC

theorem gc_both (l : List Gr) (hl : l.length ≤ 24) (k : Nat) (hk : 200 ≤ k) : ((some l).bind fun y => ((group_Check.f k y whole).bind fun t => ((busbarref12_Groups.f k y whole).bind fun u => (some (t == u))))) = some true := by
  have hw : whole.length = 2 := rfl
  rw [Option.bind_some, gcheck_eq l whole (by omega) (by omega) (by omega), Option.bind_some, refgroups_eq l whole (by omega) (by omega) (by omega), Option.bind_some, beq_self_eq_true]
theorem gc_j1 (l : List Gr) (hl : l.length ≤ 24) (w n : Int) (hw : -9223372036854775808 ≤ w ∧ w < 9223372036854775808) (k : Nat) (hk : 200 ≤ k) : busbarlaw14_GroupChecks.j1 (k + 1) w n l whole false = some true := by
  rw [busbarlaw14_GroupChecks.j1, if_neg (by decide)]
  by_cases h0 : l.length = 0
  · rw [if_pos (by omega)]
  · rw [if_neg (by omega), LemDigitGroupC.digit_eq w 4 _ hw (by omega) (by omega) (by omega), Option.bind_some, within_eq w 4 (by omega) (by omega), Option.bind_some]
    have d1 := Int.emod_nonneg (Int.tdiv w 4) (show (l.length : Int) ≠ 0 by omega)
    have d2 := Int.emod_lt_of_pos (Int.tdiv w 4) (show (0 : Int) < l.length by omega)
    generalize Int.tdiv w 4 % (l.length : Int) = d at d1 d2 ⊢
    rw [within_eq n 6 (by omega) (by omega), within_eq n 7 (by omega) (by omega), within_eq n 60 (by omega) (by omega)]
    rw [Option.bind_some, Option.bind_some, Option.bind_some, if_pos d1, if_pos d2]
    have hs : ∀ s : Gr, (l.set d.toNat s).length ≤ 24 := fun s => by rw [List.length_set]; omega
    split
    · exact gc_both _ (hs _) k (by omega)
    · split
      · exact gc_both _ (hs _) k (by omega)
      · split
        · exact gc_both _ (hs _) k (by omega)
        · split
          · exact gc_both _ (hs _) k (by omega)
          · exfalso; omega
theorem GroupChecks : busbarlaw14_GroupChecks.Pure := by
  intro l ks w n _ hk hw _
  have hks : ∀ x ∈ ks, -9223372036854775808 ≤ x ∧ x < 9223372036854775808 := fun x hx => wf_i64 (hk.2 x hx)
  have hm : ks.length ≤ 9223372036854775807 := by have := hk.1; unfold maxLen at this; omega
  have hw := wf_i64 hw
  have hs := spans_len ks
  obtain ⟨g, he, hg, hl⟩ := all_eq ks hks
  have hwl : whole.length = 2 := rfl
  refine ⟨1000, ?_⟩
  unfold busbarlaw14_GroupChecks.f
  by_cases h : (l.length : Int) > 40
  · rw [if_pos h, busbarlaw14_GroupChecks.j0, if_pos rfl, LemAwakeGroupC.awake_ev (by omega)]
    rfl
  · rw [if_neg h, LemAwakeGroupC.awake_ev (by omega), Option.bind_some, busbarlaw14_GroupChecks.j0, if_neg (by decide), spans_eq ks hks hm (by omega), Option.bind_some, gcheck_eq l _ (by omega) (by omega) (by omega), Option.bind_some, refgroups_eq l _ (by omega) (by omega) (by omega), Option.bind_some, if_pos rfl,
      he 999 (by omega), Option.bind_some]
    dsimp only
    rw [gcheck_eq g whole (by omega) (by omega) (by omega), Option.bind_some, gchk_whole g hg, if_pos rfl, gcheck_eq g _ (by omega) (by omega) (by omega), Option.bind_some, refgroups_eq g _ (by omega) (by omega) (by omega), Option.bind_some, bne_self_eq_false]
    exact gc_j1 g hl w n hw 998 (by omega)
end Go.Proofs.Ytmbkbpaoiilicaa.Pure
