/- By hand: slices.Delete of one envelope, in a slice of the call's own. -/
import Derived.Test.YtfafeeobjlkjnaaK0
import Derived.Test.YtfafeeobjlkjnaaGW
import Derived.Deep.RegionLaw
namespace Go.Proofs.Ytfafeeobjlkjnaa.K
open Go.RowKit Go.Proofs.YtfafeeobjlkjnaaW.PrintWords Go.Proofs.YtfafeeobjlkjnaaW.PrintLast Go.Proofs.YtfafeeobjlkjnaaW.PrintMore Go.Proofs.Ytfafeeobjlkjnaa.GW
set_option linter.unusedVariables false
set_option linter.unusedSimpArgs false

theorem zv33 (w : World) : (zeroValue 33).run Try.prog w = .ok (.agg #[(.int .i64 0), (.int .i64 0), (.int .i64 0), (.int .i64 0), (.int .i64 0), (.int .i64 0), (.int .i64 0), (.int .i64 0), (.int .i64 0), (.int .i64 0)]) w := by kernel_rfl

set_option maxHeartbeats 4000000 in
set_option maxRecDepth 100000 in
theorem del33.calls (g c : Nat) (j j1 : Int) (xs : List S33) (base : Nat) (ok : Nat → Prop) (w : World) (HO : Kd.R k33 33 w base ok (.slice (some ⟨g, 0, none⟩) xs.length c) xs) (h0 : 0 ≤ j) (hj : j < xs.length) (hj1 : j1 = j + 1) :
    Calls Try.prog 49 #[.slice (some ⟨g, 0, none⟩) xs.length c, .int .i64 j, .int .i64 j1] w fun e w' => e = .returned (.slice (some ⟨g, 0, none⟩) (xs.length - 1) c) ∧ Kd.R k33 33 w' base ok (.slice (some ⟨g, 0, none⟩) (xs.length - 1) c) (xs.eraseIdx j.toNat) ∧ w.grownBy w' (some g) := by
  obtain ⟨i, rfl⟩ := Int.eq_ofNat_of_zero_le h0
  obtain ⟨i1, hi1⟩ : ∃ i1 : Nat, i1 = i + 1 := ⟨_, rfl⟩
  obtain rfl : j1 = (i1 : Int) := by omega
  have hin : i < xs.length := by omega
  obtain ⟨_, hnc, hcm⟩ := Kd.R_reads' HO
  have t22 := Try.underlying22
  have s1 := fun W => sl_lhm t22 (size_of_info info33) (some ⟨g, 0, none⟩) xs.length c i i1 xs.length (by omega) (by omega) hnc W
  have s2 := fun W => sl_h t22 (size_of_info info33) (some ⟨g, 0, none⟩) xs.length c i (by omega) W
  have s3 := fun W => sl_l t22 (size_of_info info33) (some ⟨g, 0, none⟩) xs.length c i1 (by omega) W
  have s4 := fun W => sl_lh t22 (size_of_info info33) (some ⟨g, 0, none⟩) (xs.length - 1) c (xs.length - 1) xs.length (by omega) hnc W
  rw [if_neg (show ¬ (c = xs.length - 1) by omega), Option.map_some, show xs.length - (xs.length - 1) = 1 by omega, show (⟨g, 0, none⟩ : Addr).add ((xs.length - 1) * 10) = ⟨g, 0 + (xs.length - 1) * 10, none⟩ from add_at _ _ _] at s4
  obtain ⟨A, hA⟩ : ∃ A, A = (if c = i1 then some ⟨g, 0, none⟩ else (some (⟨g, 0, none⟩ : Addr)).map (·.add (i1 * 10))) := ⟨_, rfl⟩
  rw [← hA] at s3
  obtain ⟨A1, hA1⟩ : ∃ A1, A1 = (if xs.length = i then some ⟨g, 0, none⟩ else (some (⟨g, 0, none⟩ : Addr)).map (·.add (i * 10))) := ⟨_, rfl⟩
  rw [← hA1] at s1
  clear hA1
  have c3 : ((i : Int) == (i1 : Int)) = false := by simp; omega
  have c4 : (i == i1) = false := by simp; omega
  rw [hi1] at hA
  have HA := Aside0.mk hA
  have HI := Aside0.mk hi1
  have hm : xs.length - i1 = xs.length - (i + 1) := by omega
  have HM := Aside0.mk hm
  clear hi1 hm
  have HL := Aside0.mk (And.intro hin hnc)
  have HO' := Aside0.mk HO
  have HS : Aside0 (base ≤ w.drew.heap.size) := ⟨by have h1 := Kd.R_base HO g (by simp [Value.ownBlock]); have h2 := Kd.R_lt HO g (by simp [Value.ownBlock]); show base ≤ w.heap.size; omega⟩
  clear HO h0 hj hj1 hA hin hnc hcm
  go_enter Try.func49, Try.ntmps49
  go_wp2_with fail
  go_region_law ((refine Kd.R_delete_step k33 (w0 := w) (g := g) (n := xs.length) (c := c) (c2 := c - i1) (m := xs.length - i1) (A := A) (xs := xs) (ok := ok) base ?hw (.tmp 22) (.tmp 25) 22 33 rfl Try.underlying22 ?hi ?hs ?hx HA.out HM.out ?HO HL.out.1 ?HB ?hbase ?h; (case hw => simp [Region.wanted]); (case hi => kernel_rfl); (case hs => simp [Act.eval, Act.put]); (case hx => simp [Act.eval, Act.put]); (case HO => exact Kd.R_drew HO'.out); (case HB => exact (Below.refl base w).drew); (case hbase => exact HS.out); intro w1 hR hb hg; obtain ⟨w2, hcl, hR2, hg2⟩ := clear_run k33 t22 zv33 rfl (by decide) (m := 1) hR (by omega) (by have := HL.out; omega); simp only [Nat.zero_add, show k33.sz = 10 from rfl] at hcl; have HR2 := Aside0.mk hR2; have HG := Aside0.mk (World.grownBy.trans (World.grownBy.trans (grown_drew w _) hg) hg2); clear hR hb hg hR2 hg2))
  go_wp2
  go_ret
  exact ⟨rfl, HR2.out, HG.out⟩
end Go.Proofs.Ytfafeeobjlkjnaa.K
