/- Functions of the program that some laws reach, as Lean functions, and proofs that the program's calls come to what they say: written by a program, for the texts that import it; each theorem bears its own conditions. -/
import Derived.Test.YteckjmejngieeaaPTnumTwox0
import Derived.Test.YteckjmejngieeaaPTnumTwox2
namespace Go.Proofs.Yteckjmejngieeaa.PTnumTwo
open Go.RowKit Go.Proofs.YteckjmejngieeaaW.PrintWords Go.Proofs.YteckjmejngieeaaW.PrintLast Go.Proofs.YteckjmejngieeaaW.PrintMore
attribute [local go_sem] max2_int min2_int max_two min_two max_three min_three max_four min_four   -- for this text's walks alone
set_option linter.unusedVariables false
set_option linter.unusedSimpArgs false

/-! ### tnum_Sub: function 42 -/
def tnum_Sub.f (a0_0 : Int) (a0_1 : Int) (a1_0 : Int) (a1_1 : Int) : Option (Int × Int) := (tnum_right.f a0_0 a0_1).bind fun bt153 => ((tnum_right.f a1_0 a1_1).bind fun bt155 => ((tnum_right.f (IntKind.u64.wrap (bt153.1 - bt155.1)) (Go.bits .or .u64 (Go.bits .or .u64 (Go.bits .xor .u64 (IntKind.u64.wrap ((IntKind.u64.wrap (bt153.1 - bt155.1)) + bt153.2)) (IntKind.u64.wrap ((IntKind.u64.wrap (bt153.1 - bt155.1)) - bt155.2))) bt153.2) bt155.2)).bind fun bt157 => (some (bt157.1, bt157.2))))
set_option maxHeartbeats 8000000 in
set_option maxRecDepth 100000 in
theorem tnum_Sub.calls (a0_0 : Int) (a0_1 : Int) (a1_0 : Int) (a1_1 : Int) (r1 : Int) (r2 : Int) (w : World) (h : tnum_Sub.f a0_0 a0_1 a1_0 a1_1 = some (r1, r2)) :
    Calls Try.prog 42 #[.agg #[.int .u64 a0_0, .int .u64 a0_1], .agg #[.int .u64 a1_0, .int .u64 a1_1]] w fun e w' => e = .returned (.agg #[.int .u64 r1, .int .u64 r2]) ∧ Below w.heap.size w w' := by
  have hu43 := Try.underlying43
  have HB := Aside0.mk (Below.refl w.heap.size w)
  have H : ((tnum_right.f a0_0 a0_1).bind fun bt153 => ((tnum_right.f a1_0 a1_1).bind fun bt155 => ((tnum_right.f (IntKind.u64.wrap (bt153.1 - bt155.1)) (Go.bits .or .u64 (Go.bits .or .u64 (Go.bits .xor .u64 (IntKind.u64.wrap ((IntKind.u64.wrap (bt153.1 - bt155.1)) + bt153.2)) (IntKind.u64.wrap ((IntKind.u64.wrap (bt153.1 - bt155.1)) - bt155.2))) bt153.2) bt155.2)).bind fun bt157 => (some (bt157.1, bt157.2))))) = some (r1, r2) := h
  clear h
  replace H := Option.bind_eq_some_iff.mp H
  obtain ⟨⟨t153, t154⟩, A30, H⟩ := H
  replace H : ((tnum_right.f a1_0 a1_1).bind fun bt155 => ((tnum_right.f (IntKind.u64.wrap (t153 - bt155.1)) (Go.bits .or .u64 (Go.bits .or .u64 (Go.bits .xor .u64 (IntKind.u64.wrap ((IntKind.u64.wrap (t153 - bt155.1)) + t154)) (IntKind.u64.wrap ((IntKind.u64.wrap (t153 - bt155.1)) - bt155.2))) t154) bt155.2)).bind fun bt157 => (some (bt157.1, bt157.2)))) = some (r1, r2) := H
  have A3 := Aside0.mk A30
  clear A30
  replace H := Option.bind_eq_some_iff.mp H
  obtain ⟨⟨t155, t156⟩, A40, H⟩ := H
  replace H : ((tnum_right.f (IntKind.u64.wrap (t153 - t155)) (Go.bits .or .u64 (Go.bits .or .u64 (Go.bits .xor .u64 (IntKind.u64.wrap ((IntKind.u64.wrap (t153 - t155)) + t154)) (IntKind.u64.wrap ((IntKind.u64.wrap (t153 - t155)) - t156))) t154) t156)).bind fun bt157 => (some (bt157.1, bt157.2))) = some (r1, r2) := H
  have A4 := Aside0.mk A40
  clear A40
  replace H := Option.bind_eq_some_iff.mp H
  obtain ⟨⟨t157, t158⟩, A50, H⟩ := H
  replace H : (some (t157, t158)) = some (r1, r2) := H
  have A5 := Aside0.mk A50
  clear A50
  simp only [Option.some.injEq, Prod.mk.injEq] at H
  obtain ⟨rfl, rfl⟩ := H
  go_enter Try.func42, Try.ntmps42
  try go_wp2_with (first | ((with_reducible refine gate_dst (N := 2) rfl ?_); refine box_event ?hg (N := 2) ?hd (cs := #[.int .u64 a0_0, .int .u64 a0_1]) (t := 43) ?hr ?_; (case hd => rfl); (case hg => rfl); (case hr => first | (go_simp; done) | (go_simp; rfl)); intro gb150 hg w6 hbox hb; have n0_ := Aside0.mk (below_step (by repeat (first | (with_reducible first | exact HB.out | apply below_alloc | apply pw_below_drewN | apply below_drew1) | exact HB.out)) hb); have n1_ := Aside0.mk (hbox); have n2_ := Aside0.mk ((by rw [hg]; exact (below_size (by repeat (first | (with_reducible first | exact HB.out | apply below_alloc | apply pw_below_drewN | apply below_drew1) | exact HB.out))) : w.heap.size ≤ gb150)); have n3_ := Aside0.mk ((by rw [hg]; exact (below_size (by repeat (first | (with_reducible first | exact HB.out | apply below_alloc | apply pw_below_drewN | apply below_drew1) | exact HB.out))) : w.heap.size ≤ gb150)); clear HB; have HB := n0_; have BK150 := n1_; have GW150 := n2_; have GE150 := n3_; clear n0_ n1_ n2_ n3_; clear hb hbox hg) | ((with_reducible refine gate_dst (N := 3) rfl ?_); refine box_event ?hg (N := 3) ?hd (cs := #[.int .u64 a1_0, .int .u64 a1_1]) (t := 43) ?hr ?_; (case hd => rfl); (case hg => rfl); (case hr => first | (go_simp; done) | (go_simp; rfl)); intro gb151 hg w7 hbox hb; have n0_ := Aside0.mk (blk_below (g := gb150) (o := .cells #[.int .u64 a0_0, .int .u64 a0_1] 43 (0, 0)) (by (with_reducible repeat (first | refine blk_drewN ?_ _ | refine blk_drew ?_ | refine blk_alloc ?_ _)); exact BK150.out) hb); have n1_ := Aside0.mk (below_step (by repeat (first | (with_reducible first | exact HB.out | apply below_alloc | apply pw_below_drewN | apply below_drew1 | refine below_set ?_ GE150.out) | exact HB.out)) hb); have n2_ := Aside0.mk (hbox); have n3_ := Aside0.mk ((by rw [hg]; exact (below_size (by repeat (first | (with_reducible first | exact HB.out | apply below_alloc | apply pw_below_drewN | apply below_drew1 | refine below_set ?_ GE150.out) | exact HB.out))) : w.heap.size ≤ gb151)); have n4_ := Aside0.mk ((by rw [hg]; exact (below_size (by repeat (first | (with_reducible first | exact HB.out | apply below_alloc | apply pw_below_drewN | apply below_drew1 | refine below_set ?_ GE150.out) | exact HB.out))) : w.heap.size ≤ gb151)); have n5_ := Aside0.mk ((by rw [hg]; exact Nat.ne_of_lt (blk_lt (g := gb150) (o := .cells #[.int .u64 a0_0, .int .u64 a0_1] 43 (0, 0)) (by (with_reducible repeat (first | refine blk_drewN ?_ _ | refine blk_drew ?_ | refine blk_alloc ?_ _)); exact BK150.out)) : gb150 ≠ gb151)); have n6_ := Aside0.mk ((by rw [hg]; exact Nat.ne_of_gt (blk_lt (g := gb150) (o := .cells #[.int .u64 a0_0, .int .u64 a0_1] 43 (0, 0)) (by (with_reducible repeat (first | refine blk_drewN ?_ _ | refine blk_drew ?_ | refine blk_alloc ?_ _)); exact BK150.out)) : gb151 ≠ gb150)); clear BK150; clear HB; have BK150 := n0_; have HB := n1_; have BK151 := n2_; have GW151 := n3_; have GE151 := n4_; have NB150_151 := n5_; have NB151_150 := n6_; clear n0_ n1_ n2_ n3_ n4_ n5_ n6_; clear hb hbox hg) | ((with_reducible refine gate_dst (N := 4) rfl ?_); refine box_event ?hg (N := 4) ?hd (cs := #[.int .u64 0, .int .u64 0]) (t := 43) ?hr ?_; (case hd => rfl); (case hg => rfl); (case hr => first | (go_simp; done) | (go_simp; rfl)); intro gb152 hg w8 hbox hb; have n0_ := Aside0.mk (blk_below (g := gb150) (o := .cells #[.int .u64 a0_0, .int .u64 a0_1] 43 (0, 0)) (by (with_reducible repeat (first | refine blk_drewN ?_ _ | refine blk_drew ?_ | refine blk_alloc ?_ _)); exact BK150.out) hb); have n1_ := Aside0.mk (blk_below (g := gb151) (o := .cells #[.int .u64 a1_0, .int .u64 a1_1] 43 (0, 0)) (by (with_reducible repeat (first | refine blk_drewN ?_ _ | refine blk_drew ?_ | refine blk_alloc ?_ _)); exact BK151.out) hb); have n2_ := Aside0.mk (below_step (by repeat (first | (with_reducible first | exact HB.out | apply below_alloc | apply pw_below_drewN | apply below_drew1 | refine below_set ?_ GE150.out | refine below_set ?_ GE151.out) | exact HB.out)) hb); have n3_ := Aside0.mk (hbox); have n4_ := Aside0.mk ((by rw [hg]; exact (below_size (by repeat (first | (with_reducible first | exact HB.out | apply below_alloc | apply pw_below_drewN | apply below_drew1 | refine below_set ?_ GE150.out | refine below_set ?_ GE151.out) | exact HB.out))) : w.heap.size ≤ gb152)); have n5_ := Aside0.mk ((by rw [hg]; exact (below_size (by repeat (first | (with_reducible first | exact HB.out | apply below_alloc | apply pw_below_drewN | apply below_drew1 | refine below_set ?_ GE150.out | refine below_set ?_ GE151.out) | exact HB.out))) : w.heap.size ≤ gb152)); have n6_ := Aside0.mk ((by rw [hg]; exact Nat.ne_of_lt (blk_lt (g := gb150) (o := .cells #[.int .u64 a0_0, .int .u64 a0_1] 43 (0, 0)) (by (with_reducible repeat (first | refine blk_drewN ?_ _ | refine blk_drew ?_ | refine blk_alloc ?_ _)); exact BK150.out)) : gb150 ≠ gb152)); have n7_ := Aside0.mk ((by rw [hg]; exact Nat.ne_of_gt (blk_lt (g := gb150) (o := .cells #[.int .u64 a0_0, .int .u64 a0_1] 43 (0, 0)) (by (with_reducible repeat (first | refine blk_drewN ?_ _ | refine blk_drew ?_ | refine blk_alloc ?_ _)); exact BK150.out)) : gb152 ≠ gb150)); have n8_ := Aside0.mk ((by rw [hg]; exact Nat.ne_of_lt (blk_lt (g := gb151) (o := .cells #[.int .u64 a1_0, .int .u64 a1_1] 43 (0, 0)) (by (with_reducible repeat (first | refine blk_drewN ?_ _ | refine blk_drew ?_ | refine blk_alloc ?_ _)); exact BK151.out)) : gb151 ≠ gb152)); have n9_ := Aside0.mk ((by rw [hg]; exact Nat.ne_of_gt (blk_lt (g := gb151) (o := .cells #[.int .u64 a1_0, .int .u64 a1_1] 43 (0, 0)) (by (with_reducible repeat (first | refine blk_drewN ?_ _ | refine blk_drew ?_ | refine blk_alloc ?_ _)); exact BK151.out)) : gb152 ≠ gb151)); clear BK150; clear BK151; clear HB; have BK150 := n0_; have BK151 := n1_; have HB := n2_; have BK152 := n3_; have GW152 := n4_; have GE152 := n5_; have NB150_152 := n6_; have NB152_150 := n7_; have NB151_152 := n8_; have NB152_151 := n9_; clear n0_ n1_ n2_ n3_ n4_ n5_ n6_ n7_ n8_ n9_; clear hb hbox hg))
  have n0_ := Aside0.mk (blk_drew BK150.out)
  have n1_ := Aside0.mk (blk_drew BK151.out)
  have n2_ := Aside0.mk (blk_drew BK152.out)
  have n3_ := Aside0.mk (below_drew1 HB.out)
  clear BK150
  clear BK151
  clear BK152
  clear HB
  have BK150 := n0_
  have BK151 := n1_
  have BK152 := n2_
  have HB := n3_
  clear n0_ n1_ n2_ n3_
  refine start_ (n := 6) (S := fun w' => w'.cell? ⟨gb150, 0, none⟩ = some (.int .u64 a0_0) ∧ w'.cell? ⟨gb150, 1, none⟩ = some (.int .u64 a0_1) ∧ w'.cell? ⟨gb151, 0, none⟩ = some (.int .u64 a1_0) ∧ w'.cell? ⟨gb151, 1, none⟩ = some (.int .u64 a1_1)) (ds := [4, 5]) #[false, false, false, false, false, false] (by kernel_rfl) rfl rfl ⟨(blk_cell BK150.out 0).trans rfl, (blk_cell BK150.out 1).trans rfl, (blk_cell BK151.out 0).trans rfl, (blk_cell BK151.out 1).trans rfl⟩ (fun hHeld => ?_)
  generalize w8.drew = w9 at BK150 BK151 BK152 HB hHeld ⊢
  refine take_ (i := 0) (N := some 6) (v := ?_) (a' := ?_) #[true, false, false, false, false, false] rfl rfl (by kernel_rfl) (fun _ _ _ h => h) (Or.inl ⟨by rfl, ?_⟩) hHeld ?_ ?_
  rotate_left
  · rintro w' ⟨s0, s1, s2, s3⟩
    go_simp
    with_reducible rfl
  rotate_left
  · simp only [Act.put, List.setIfInBounds_toArray, List.set_cons_zero, List.set_cons_succ, i64_w, i32_w]
    rfl
  refine take_ (i := 2) (N := some 8) (v := ?_) (a' := ?_) #[true, false, true, false, false, false] rfl rfl (by kernel_rfl) (fun _ _ _ h => h) (Or.inl ⟨by rfl, ?_⟩) hHeld ?_ ?_
  rotate_left
  · rintro w' ⟨s0, s1, s2, s3⟩
    go_simp
    with_reducible rfl
  rotate_left
  · simp only [Act.put, List.setIfInBounds_toArray, List.set_cons_zero, List.set_cons_succ, i64_w, i32_w]
    rfl
  refine one_ (i := 1) (N := some 7) #[true, true, true, false, false, false] rfl rfl (by kernel_rfl) (by decide) (fun K hK => ?_)
  refine goes_ Try.func61 (by kernel_rfl) rfl #[.agg #[.int .u64 a0_0, .int .u64 a0_1]] (by rfl) rfl rfl (by (try simp only [List.map_toArray, List.map_cons, List.map_nil]); first | done | rfl | (simp only [List.length_drop, List.length_take]; rfl)) ?_
  with_reducible refine (tnum_right.calls a0_0 a0_1 t153 t154 _ A3.out).mono ?_
  rintro e w10 ⟨rfl, hb⟩
  refine ⟨_, rfl, ?_⟩
  have n0_ := Aside0.mk (blk_below (g := gb150) (o := .cells #[.int .u64 a0_0, .int .u64 a0_1] 43 (0, 0)) (by (with_reducible repeat (first | refine blk_drewN ?_ _ | refine blk_drew ?_ | refine blk_alloc ?_ _)); exact BK150.out) hb)
  have n1_ := Aside0.mk (blk_below (g := gb151) (o := .cells #[.int .u64 a1_0, .int .u64 a1_1] 43 (0, 0)) (by (with_reducible repeat (first | refine blk_drewN ?_ _ | refine blk_drew ?_ | refine blk_alloc ?_ _)); exact BK151.out) hb)
  have n2_ := Aside0.mk (blk_below (g := gb152) (o := .cells #[.int .u64 0, .int .u64 0] 43 (0, 0)) (by (with_reducible repeat (first | refine blk_drewN ?_ _ | refine blk_drew ?_ | refine blk_alloc ?_ _)); exact BK152.out) hb)
  have n3_ := Aside0.mk (below_step (by repeat (first | (with_reducible first | exact HB.out | apply below_alloc | apply pw_below_drewN | apply below_drew1 | refine below_set ?_ GE150.out | refine below_set ?_ GE151.out | refine below_set ?_ GE152.out) | exact HB.out)) hb)
  clear BK150
  clear BK151
  clear BK152
  clear HB
  have BK150 := n0_
  have BK151 := n1_
  have BK152 := n2_
  have HB := n3_
  clear n0_ n1_ n2_ n3_
  (try clear hb)
  (try clear hb2)
  (try clear hk)
  (try clear hi)
  refine hK.out _ _ ⟨(blk_cell BK150.out 0).trans rfl, (blk_cell BK150.out 1).trans rfl, (blk_cell BK151.out 0).trans rfl, (blk_cell BK151.out 1).trans rfl⟩ (fun hHeld => ?_)
  clear hK K
  refine norm_ (a' := ?_) ?_ ?_
  rotate_left
  · show Act.put _ (some 7) _ = _
    simp only [Act.put, List.setIfInBounds_toArray, List.set_cons_zero, List.set_cons_succ, i64_w, i32_w]
    rfl
  refine one_ (i := 3) (N := some 9) #[true, true, true, true, false, false] rfl rfl (by kernel_rfl) (by decide) (fun K hK => ?_)
  refine goes_ Try.func61 (by kernel_rfl) rfl #[.agg #[.int .u64 a1_0, .int .u64 a1_1]] (by rfl) rfl rfl (by (try simp only [List.map_toArray, List.map_cons, List.map_nil]); first | done | rfl | (simp only [List.length_drop, List.length_take]; rfl)) ?_
  with_reducible refine (tnum_right.calls a1_0 a1_1 t155 t156 _ A4.out).mono ?_
  rintro e w11 ⟨rfl, hb⟩
  refine ⟨_, rfl, ?_⟩
  have n0_ := Aside0.mk (blk_below (g := gb150) (o := .cells #[.int .u64 a0_0, .int .u64 a0_1] 43 (0, 0)) (by (with_reducible repeat (first | refine blk_drewN ?_ _ | refine blk_drew ?_ | refine blk_alloc ?_ _)); exact BK150.out) hb)
  have n1_ := Aside0.mk (blk_below (g := gb151) (o := .cells #[.int .u64 a1_0, .int .u64 a1_1] 43 (0, 0)) (by (with_reducible repeat (first | refine blk_drewN ?_ _ | refine blk_drew ?_ | refine blk_alloc ?_ _)); exact BK151.out) hb)
  have n2_ := Aside0.mk (blk_below (g := gb152) (o := .cells #[.int .u64 0, .int .u64 0] 43 (0, 0)) (by (with_reducible repeat (first | refine blk_drewN ?_ _ | refine blk_drew ?_ | refine blk_alloc ?_ _)); exact BK152.out) hb)
  have n3_ := Aside0.mk (below_step (by repeat (first | (with_reducible first | exact HB.out | apply below_alloc | apply pw_below_drewN | apply below_drew1 | refine below_set ?_ GE150.out | refine below_set ?_ GE151.out | refine below_set ?_ GE152.out) | exact HB.out)) hb)
  clear BK150
  clear BK151
  clear BK152
  clear HB
  have BK150 := n0_
  have BK151 := n1_
  have BK152 := n2_
  have HB := n3_
  clear n0_ n1_ n2_ n3_
  (try clear hb)
  (try clear hb2)
  (try clear hk)
  (try clear hi)
  refine hK.out _ _ ⟨(blk_cell BK150.out 0).trans rfl, (blk_cell BK150.out 1).trans rfl, (blk_cell BK151.out 0).trans rfl, (blk_cell BK151.out 1).trans rfl⟩ (fun hHeld => ?_)
  clear hK K
  refine norm_ (a' := ?_) ?_ ?_
  rotate_left
  · show Act.put _ (some 9) _ = _
    simp only [Act.put, List.setIfInBounds_toArray, List.set_cons_zero, List.set_cons_succ, i64_w, i32_w]
    rfl
  refine last_ (i := 4) (N := none) #[true, true, true, true, true, false] rfl rfl (by kernel_rfl) (by decide) (fun K hK => ?_)
  have hs12 : w11.cell? ⟨gb150, 0, none⟩ = some (.int .u64 a0_0) := (blk_cell BK150.out 0).trans rfl
  have hfs12 := blk_frozen BK150.out 0
  have hns12_1 := NB151_150.out
  have hns12_2 := NB152_150.out
  have hms12_1 := NB150_151.out
  have hms12_2 := NB150_152.out
  have hs13 : w11.cell? ⟨gb150, 1, none⟩ = some (.int .u64 a0_1) := (blk_cell BK150.out 1).trans rfl
  have hfs13 := blk_frozen BK150.out 1
  have hns13_1 := NB151_150.out
  have hns13_2 := NB152_150.out
  have hms13_1 := NB150_151.out
  have hms13_2 := NB150_152.out
  refine skip_ (w1 := ?_) (by rfl) rfl ?_ ?_
  rotate_left
  · go_simp
    rfl
  refine hK.out _ _ ?_
  clear hK K
  refine last_ (i := 5) (N := none) #[true, true, true, true, true, true] rfl rfl (by kernel_rfl) (by decide) (fun K hK => ?_)
  have hs14 : w11.cell? ⟨gb151, 0, none⟩ = some (.int .u64 a1_0) := (blk_cell BK151.out 0).trans rfl
  have hfs14 := blk_frozen BK151.out 0
  have hns14_0 := NB150_151.out
  have hns14_2 := NB152_151.out
  have hms14_0 := NB151_150.out
  have hms14_2 := NB151_152.out
  have hs15 : w11.cell? ⟨gb151, 1, none⟩ = some (.int .u64 a1_1) := (blk_cell BK151.out 1).trans rfl
  have hfs15 := blk_frozen BK151.out 1
  have hns15_0 := NB150_151.out
  have hns15_2 := NB152_151.out
  have hms15_0 := NB151_150.out
  have hms15_2 := NB151_152.out
  refine skip_ (w1 := ?_) (by rfl) rfl ?_ ?_
  rotate_left
  · go_simp
    rfl
  refine hK.out _ _ ?_
  clear hK K
  refine done_ (by kernel_rfl) ?_
  have hnb16 := NB150_151.out
  have hnc16 := NB151_150.out
  have hnb17 := NB150_152.out
  have hnc17 := NB152_150.out
  have hcz18_0 : w11.cell? ⟨gb150, 0, none⟩ = some (.int .u64 a0_0) := (blk_cell BK150.out 0).trans rfl
  have hcz18_1 : w11.cell? ⟨gb150, 1, none⟩ = some (.int .u64 a0_1) := (blk_cell BK150.out 1).trans rfl
  have hfz18_0 := blk_frozen BK150.out 0
  have hfz18_1 := blk_frozen BK150.out 1
  have hnb19 := NB151_152.out
  have hnc19 := NB152_151.out
  have hcz20_0 : w11.cell? ⟨gb151, 0, none⟩ = some (.int .u64 a1_0) := (blk_cell BK151.out 0).trans rfl
  have hcz20_1 : w11.cell? ⟨gb151, 1, none⟩ = some (.int .u64 a1_1) := (blk_cell BK151.out 1).trans rfl
  have hfz20_0 := blk_frozen BK151.out 0
  have hfz20_1 := blk_frozen BK151.out 1
  try go_wp2_with (first | ((with_reducible refine gate_callee (f := 61) rfl ?_); refine goesL_ (some 32) rfl rfl Try.func61 (by kernel_rfl) rfl #[.agg #[.int .u64 (IntKind.u64.wrap (t153 - t155)), .int .u64 (Go.bits .or .u64 (Go.bits .or .u64 (Go.bits .xor .u64 (IntKind.u64.wrap ((IntKind.u64.wrap (t153 - t155)) + t154)) (IntKind.u64.wrap ((IntKind.u64.wrap (t153 - t155)) - t156))) t154) t156)]] rfl (by (try simp only [List.map_toArray, List.map_cons, List.map_nil]); first | done | rfl | (simp only [List.length_drop, List.length_take]; rfl)) ?_; (with_reducible refine (tnum_right.calls (IntKind.u64.wrap (t153 - t155)) (Go.bits .or .u64 (Go.bits .or .u64 (Go.bits .xor .u64 (IntKind.u64.wrap ((IntKind.u64.wrap (t153 - t155)) + t154)) (IntKind.u64.wrap ((IntKind.u64.wrap (t153 - t155)) - t156))) t154) t156) t157 t158 _ A5.out).mono ?_); rintro e w21 ⟨rfl, hb⟩; refine ⟨_, rfl, ?_⟩; have n0_ := Aside0.mk (blk_below (g := gb150) (o := .cells #[.int .u64 t153, .int .u64 t154] 43 (0, 0)) (by (with_reducible repeat (first | refine blk_drewN ?_ _ | refine blk_drew ?_ | refine blk_alloc ?_ _)); refine blk_far ?_ NB150_151.out _; (with_reducible repeat (first | refine blk_drewN ?_ _ | refine blk_drew ?_ | refine blk_alloc ?_ _)); refine blk_far ?_ NB150_151.out _; (with_reducible repeat (first | refine blk_drewN ?_ _ | refine blk_drew ?_ | refine blk_alloc ?_ _)); refine blk_put (cs := #[.int .u64 t153, .int .u64 a0_1]) ?_ 1 _ rfl; (with_reducible repeat (first | refine blk_drewN ?_ _ | refine blk_drew ?_ | refine blk_alloc ?_ _)); refine blk_put (cs := #[.int .u64 a0_0, .int .u64 a0_1]) ?_ 0 _ rfl; (with_reducible repeat (first | refine blk_drewN ?_ _ | refine blk_drew ?_ | refine blk_alloc ?_ _)); exact BK150.out) hb); have n1_ := Aside0.mk (blk_below (g := gb151) (o := .cells #[.int .u64 t155, .int .u64 t156] 43 (0, 0)) (by (with_reducible repeat (first | refine blk_drewN ?_ _ | refine blk_drew ?_ | refine blk_alloc ?_ _)); refine blk_put (cs := #[.int .u64 t155, .int .u64 a1_1]) ?_ 1 _ rfl; (with_reducible repeat (first | refine blk_drewN ?_ _ | refine blk_drew ?_ | refine blk_alloc ?_ _)); refine blk_put (cs := #[.int .u64 a1_0, .int .u64 a1_1]) ?_ 0 _ rfl; (with_reducible repeat (first | refine blk_drewN ?_ _ | refine blk_drew ?_ | refine blk_alloc ?_ _)); refine blk_far ?_ NB151_150.out _; (with_reducible repeat (first | refine blk_drewN ?_ _ | refine blk_drew ?_ | refine blk_alloc ?_ _)); refine blk_far ?_ NB151_150.out _; (with_reducible repeat (first | refine blk_drewN ?_ _ | refine blk_drew ?_ | refine blk_alloc ?_ _)); exact BK151.out) hb); have n2_ := Aside0.mk (blk_below (g := gb152) (o := .cells #[.int .u64 0, .int .u64 0] 43 (0, 0)) (by (with_reducible repeat (first | refine blk_drewN ?_ _ | refine blk_drew ?_ | refine blk_alloc ?_ _)); refine blk_far ?_ NB152_151.out _; (with_reducible repeat (first | refine blk_drewN ?_ _ | refine blk_drew ?_ | refine blk_alloc ?_ _)); refine blk_far ?_ NB152_151.out _; (with_reducible repeat (first | refine blk_drewN ?_ _ | refine blk_drew ?_ | refine blk_alloc ?_ _)); refine blk_far ?_ NB152_150.out _; (with_reducible repeat (first | refine blk_drewN ?_ _ | refine blk_drew ?_ | refine blk_alloc ?_ _)); refine blk_far ?_ NB152_150.out _; (with_reducible repeat (first | refine blk_drewN ?_ _ | refine blk_drew ?_ | refine blk_alloc ?_ _)); exact BK152.out) hb); have n3_ := Aside0.mk (below_step (by repeat (first | (with_reducible first | exact HB.out | apply below_alloc | apply pw_below_drewN | apply below_drew1 | refine below_set ?_ GE150.out | refine below_set ?_ GE151.out | refine below_set ?_ GE152.out) | exact HB.out)) hb); clear BK150; clear BK151; clear BK152; clear HB; have BK150 := n0_; have BK151 := n1_; have BK152 := n2_; have HB := n3_; clear n0_ n1_ n2_ n3_; (try clear hb); (try clear hb2); (try clear hk); (try clear hi); have hcz22_0 : w21.cell? ⟨gb152, 0, none⟩ = some (.int .u64 0) := (blk_cell BK152.out 0).trans rfl; have hcz22_1 : w21.cell? ⟨gb152, 1, none⟩ = some (.int .u64 0) := (blk_cell BK152.out 1).trans rfl; have hfz22_0 := blk_frozen BK152.out 0; have hfz22_1 := blk_frozen BK152.out 1))
  refine bodyPost_ret (results_cell_row rfl _ _ gb152 43 #[.int .u64 t157, .int .u64 t158] (0, 0) _ rfl (by (with_reducible repeat (first | refine blk_drewN ?_ _ | refine blk_drew ?_ | refine blk_alloc ?_ _)); refine blk_put (cs := #[.int .u64 t157, .int .u64 0]) ?_ 1 _ rfl; (with_reducible repeat (first | refine blk_drewN ?_ _ | refine blk_drew ?_ | refine blk_alloc ?_ _)); refine blk_put (cs := #[.int .u64 0, .int .u64 0]) ?_ 0 _ rfl; (with_reducible repeat (first | refine blk_drewN ?_ _ | refine blk_drew ?_ | refine blk_alloc ?_ _)); exact BK152.out) Try.underlying43 rfl (by kernel_rfl)) rfl ?_
  exact ⟨by first | rfl | (simp [errW_none, errW_some] <;> rfl) | (simp [*, errW_none, errW_some] <;> rfl), by repeat (first | (with_reducible first | exact HB.out | apply below_alloc | apply pw_below_drewN | apply below_drew1 | refine below_set ?_ GE150.out | refine below_set ?_ GE151.out | refine below_set ?_ GE152.out) | exact HB.out)⟩

/-! ### tnum_And: function 43 -/
def tnum_And.f (a0_0 : Int) (a0_1 : Int) (a1_0 : Int) (a1_1 : Int) : Option (Int × Int) := (tnum_right.f a0_0 a0_1).bind fun bt162 => ((tnum_right.f a1_0 a1_1).bind fun bt164 => (some (Go.bits .and .u64 bt162.1 bt164.1, Go.bits .andNot .u64 (Go.bits .and .u64 (Go.bits .or .u64 bt162.1 bt162.2) (Go.bits .or .u64 bt164.1 bt164.2)) (Go.bits .and .u64 bt162.1 bt164.1))))
set_option maxHeartbeats 8000000 in
set_option maxRecDepth 100000 in
theorem tnum_And.calls (a0_0 : Int) (a0_1 : Int) (a1_0 : Int) (a1_1 : Int) (r1 : Int) (r2 : Int) (w : World) (h : tnum_And.f a0_0 a0_1 a1_0 a1_1 = some (r1, r2)) :
    Calls Try.prog 43 #[.agg #[.int .u64 a0_0, .int .u64 a0_1], .agg #[.int .u64 a1_0, .int .u64 a1_1]] w fun e w' => e = .returned (.agg #[.int .u64 r1, .int .u64 r2]) ∧ Below w.heap.size w w' := by
  have hu43 := Try.underlying43
  have HB := Aside0.mk (Below.refl w.heap.size w)
  have H : ((tnum_right.f a0_0 a0_1).bind fun bt162 => ((tnum_right.f a1_0 a1_1).bind fun bt164 => (some (Go.bits .and .u64 bt162.1 bt164.1, Go.bits .andNot .u64 (Go.bits .and .u64 (Go.bits .or .u64 bt162.1 bt162.2) (Go.bits .or .u64 bt164.1 bt164.2)) (Go.bits .and .u64 bt162.1 bt164.1))))) = some (r1, r2) := h
  clear h
  replace H := Option.bind_eq_some_iff.mp H
  obtain ⟨⟨t162, t163⟩, A30, H⟩ := H
  replace H : ((tnum_right.f a1_0 a1_1).bind fun bt164 => (some (Go.bits .and .u64 t162 bt164.1, Go.bits .andNot .u64 (Go.bits .and .u64 (Go.bits .or .u64 t162 t163) (Go.bits .or .u64 bt164.1 bt164.2)) (Go.bits .and .u64 t162 bt164.1)))) = some (r1, r2) := H
  have A3 := Aside0.mk A30
  clear A30
  replace H := Option.bind_eq_some_iff.mp H
  obtain ⟨⟨t164, t165⟩, A40, H⟩ := H
  replace H : (some (Go.bits .and .u64 t162 t164, Go.bits .andNot .u64 (Go.bits .and .u64 (Go.bits .or .u64 t162 t163) (Go.bits .or .u64 t164 t165)) (Go.bits .and .u64 t162 t164))) = some (r1, r2) := H
  have A4 := Aside0.mk A40
  clear A40
  simp only [Option.some.injEq, Prod.mk.injEq] at H
  obtain ⟨rfl, rfl⟩ := H
  go_enter Try.func43, Try.ntmps43
  try go_wp2_with (first | ((with_reducible refine gate_dst (N := 2) rfl ?_); refine box_event ?hg (N := 2) ?hd (cs := #[.int .u64 a0_0, .int .u64 a0_1]) (t := 43) ?hr ?_; (case hd => rfl); (case hg => rfl); (case hr => first | (go_simp; done) | (go_simp; rfl)); intro gb159 hg w5 hbox hb; have n0_ := Aside0.mk (below_step (by repeat (first | (with_reducible first | exact HB.out | apply below_alloc | apply pw_below_drewN | apply below_drew1) | exact HB.out)) hb); have n1_ := Aside0.mk (hbox); have n2_ := Aside0.mk ((by rw [hg]; exact (below_size (by repeat (first | (with_reducible first | exact HB.out | apply below_alloc | apply pw_below_drewN | apply below_drew1) | exact HB.out))) : w.heap.size ≤ gb159)); have n3_ := Aside0.mk ((by rw [hg]; exact (below_size (by repeat (first | (with_reducible first | exact HB.out | apply below_alloc | apply pw_below_drewN | apply below_drew1) | exact HB.out))) : w.heap.size ≤ gb159)); clear HB; have HB := n0_; have BK159 := n1_; have GW159 := n2_; have GE159 := n3_; clear n0_ n1_ n2_ n3_; clear hb hbox hg) | ((with_reducible refine gate_dst (N := 3) rfl ?_); refine box_event ?hg (N := 3) ?hd (cs := #[.int .u64 a1_0, .int .u64 a1_1]) (t := 43) ?hr ?_; (case hd => rfl); (case hg => rfl); (case hr => first | (go_simp; done) | (go_simp; rfl)); intro gb160 hg w6 hbox hb; have n0_ := Aside0.mk (blk_below (g := gb159) (o := .cells #[.int .u64 a0_0, .int .u64 a0_1] 43 (0, 0)) (by (with_reducible repeat (first | refine blk_drewN ?_ _ | refine blk_drew ?_ | refine blk_alloc ?_ _)); exact BK159.out) hb); have n1_ := Aside0.mk (below_step (by repeat (first | (with_reducible first | exact HB.out | apply below_alloc | apply pw_below_drewN | apply below_drew1 | refine below_set ?_ GE159.out) | exact HB.out)) hb); have n2_ := Aside0.mk (hbox); have n3_ := Aside0.mk ((by rw [hg]; exact (below_size (by repeat (first | (with_reducible first | exact HB.out | apply below_alloc | apply pw_below_drewN | apply below_drew1 | refine below_set ?_ GE159.out) | exact HB.out))) : w.heap.size ≤ gb160)); have n4_ := Aside0.mk ((by rw [hg]; exact (below_size (by repeat (first | (with_reducible first | exact HB.out | apply below_alloc | apply pw_below_drewN | apply below_drew1 | refine below_set ?_ GE159.out) | exact HB.out))) : w.heap.size ≤ gb160)); have n5_ := Aside0.mk ((by rw [hg]; exact Nat.ne_of_lt (blk_lt (g := gb159) (o := .cells #[.int .u64 a0_0, .int .u64 a0_1] 43 (0, 0)) (by (with_reducible repeat (first | refine blk_drewN ?_ _ | refine blk_drew ?_ | refine blk_alloc ?_ _)); exact BK159.out)) : gb159 ≠ gb160)); have n6_ := Aside0.mk ((by rw [hg]; exact Nat.ne_of_gt (blk_lt (g := gb159) (o := .cells #[.int .u64 a0_0, .int .u64 a0_1] 43 (0, 0)) (by (with_reducible repeat (first | refine blk_drewN ?_ _ | refine blk_drew ?_ | refine blk_alloc ?_ _)); exact BK159.out)) : gb160 ≠ gb159)); clear BK159; clear HB; have BK159 := n0_; have HB := n1_; have BK160 := n2_; have GW160 := n3_; have GE160 := n4_; have NB159_160 := n5_; have NB160_159 := n6_; clear n0_ n1_ n2_ n3_ n4_ n5_ n6_; clear hb hbox hg) | ((with_reducible refine gate_dst (N := 4) rfl ?_); refine box_event ?hg (N := 4) ?hd (cs := #[.int .u64 0, .int .u64 0]) (t := 43) ?hr ?_; (case hd => rfl); (case hg => rfl); (case hr => first | (go_simp; done) | (go_simp; rfl)); intro gb161 hg w7 hbox hb; have n0_ := Aside0.mk (blk_below (g := gb159) (o := .cells #[.int .u64 a0_0, .int .u64 a0_1] 43 (0, 0)) (by (with_reducible repeat (first | refine blk_drewN ?_ _ | refine blk_drew ?_ | refine blk_alloc ?_ _)); exact BK159.out) hb); have n1_ := Aside0.mk (blk_below (g := gb160) (o := .cells #[.int .u64 a1_0, .int .u64 a1_1] 43 (0, 0)) (by (with_reducible repeat (first | refine blk_drewN ?_ _ | refine blk_drew ?_ | refine blk_alloc ?_ _)); exact BK160.out) hb); have n2_ := Aside0.mk (below_step (by repeat (first | (with_reducible first | exact HB.out | apply below_alloc | apply pw_below_drewN | apply below_drew1 | refine below_set ?_ GE159.out | refine below_set ?_ GE160.out) | exact HB.out)) hb); have n3_ := Aside0.mk (hbox); have n4_ := Aside0.mk ((by rw [hg]; exact (below_size (by repeat (first | (with_reducible first | exact HB.out | apply below_alloc | apply pw_below_drewN | apply below_drew1 | refine below_set ?_ GE159.out | refine below_set ?_ GE160.out) | exact HB.out))) : w.heap.size ≤ gb161)); have n5_ := Aside0.mk ((by rw [hg]; exact (below_size (by repeat (first | (with_reducible first | exact HB.out | apply below_alloc | apply pw_below_drewN | apply below_drew1 | refine below_set ?_ GE159.out | refine below_set ?_ GE160.out) | exact HB.out))) : w.heap.size ≤ gb161)); have n6_ := Aside0.mk ((by rw [hg]; exact Nat.ne_of_lt (blk_lt (g := gb159) (o := .cells #[.int .u64 a0_0, .int .u64 a0_1] 43 (0, 0)) (by (with_reducible repeat (first | refine blk_drewN ?_ _ | refine blk_drew ?_ | refine blk_alloc ?_ _)); exact BK159.out)) : gb159 ≠ gb161)); have n7_ := Aside0.mk ((by rw [hg]; exact Nat.ne_of_gt (blk_lt (g := gb159) (o := .cells #[.int .u64 a0_0, .int .u64 a0_1] 43 (0, 0)) (by (with_reducible repeat (first | refine blk_drewN ?_ _ | refine blk_drew ?_ | refine blk_alloc ?_ _)); exact BK159.out)) : gb161 ≠ gb159)); have n8_ := Aside0.mk ((by rw [hg]; exact Nat.ne_of_lt (blk_lt (g := gb160) (o := .cells #[.int .u64 a1_0, .int .u64 a1_1] 43 (0, 0)) (by (with_reducible repeat (first | refine blk_drewN ?_ _ | refine blk_drew ?_ | refine blk_alloc ?_ _)); exact BK160.out)) : gb160 ≠ gb161)); have n9_ := Aside0.mk ((by rw [hg]; exact Nat.ne_of_gt (blk_lt (g := gb160) (o := .cells #[.int .u64 a1_0, .int .u64 a1_1] 43 (0, 0)) (by (with_reducible repeat (first | refine blk_drewN ?_ _ | refine blk_drew ?_ | refine blk_alloc ?_ _)); exact BK160.out)) : gb161 ≠ gb160)); clear BK159; clear BK160; clear HB; have BK159 := n0_; have BK160 := n1_; have HB := n2_; have BK161 := n3_; have GW161 := n4_; have GE161 := n5_; have NB159_161 := n6_; have NB161_159 := n7_; have NB160_161 := n8_; have NB161_160 := n9_; clear n0_ n1_ n2_ n3_ n4_ n5_ n6_ n7_ n8_ n9_; clear hb hbox hg))
  have n0_ := Aside0.mk (blk_drew BK159.out)
  have n1_ := Aside0.mk (blk_drew BK160.out)
  have n2_ := Aside0.mk (blk_drew BK161.out)
  have n3_ := Aside0.mk (below_drew1 HB.out)
  clear BK159
  clear BK160
  clear BK161
  clear HB
  have BK159 := n0_
  have BK160 := n1_
  have BK161 := n2_
  have HB := n3_
  clear n0_ n1_ n2_ n3_
  refine start_ (n := 6) (S := fun w' => w'.cell? ⟨gb159, 0, none⟩ = some (.int .u64 a0_0) ∧ w'.cell? ⟨gb159, 1, none⟩ = some (.int .u64 a0_1) ∧ w'.cell? ⟨gb160, 0, none⟩ = some (.int .u64 a1_0) ∧ w'.cell? ⟨gb160, 1, none⟩ = some (.int .u64 a1_1)) (ds := [4, 5]) #[false, false, false, false, false, false] (by kernel_rfl) rfl rfl ⟨(blk_cell BK159.out 0).trans rfl, (blk_cell BK159.out 1).trans rfl, (blk_cell BK160.out 0).trans rfl, (blk_cell BK160.out 1).trans rfl⟩ (fun hHeld => ?_)
  generalize w7.drew = w8 at BK159 BK160 BK161 HB hHeld ⊢
  refine take_ (i := 0) (N := some 6) (v := ?_) (a' := ?_) #[true, false, false, false, false, false] rfl rfl (by kernel_rfl) (fun _ _ _ h => h) (Or.inl ⟨by rfl, ?_⟩) hHeld ?_ ?_
  rotate_left
  · rintro w' ⟨s0, s1, s2, s3⟩
    go_simp
    with_reducible rfl
  rotate_left
  · simp only [Act.put, List.setIfInBounds_toArray, List.set_cons_zero, List.set_cons_succ, i64_w, i32_w]
    rfl
  refine take_ (i := 2) (N := some 8) (v := ?_) (a' := ?_) #[true, false, true, false, false, false] rfl rfl (by kernel_rfl) (fun _ _ _ h => h) (Or.inl ⟨by rfl, ?_⟩) hHeld ?_ ?_
  rotate_left
  · rintro w' ⟨s0, s1, s2, s3⟩
    go_simp
    with_reducible rfl
  rotate_left
  · simp only [Act.put, List.setIfInBounds_toArray, List.set_cons_zero, List.set_cons_succ, i64_w, i32_w]
    rfl
  refine one_ (i := 1) (N := some 7) #[true, true, true, false, false, false] rfl rfl (by kernel_rfl) (by decide) (fun K hK => ?_)
  refine goes_ Try.func61 (by kernel_rfl) rfl #[.agg #[.int .u64 a0_0, .int .u64 a0_1]] (by rfl) rfl rfl (by (try simp only [List.map_toArray, List.map_cons, List.map_nil]); first | done | rfl | (simp only [List.length_drop, List.length_take]; rfl)) ?_
  with_reducible refine (tnum_right.calls a0_0 a0_1 t162 t163 _ A3.out).mono ?_
  rintro e w9 ⟨rfl, hb⟩
  refine ⟨_, rfl, ?_⟩
  have n0_ := Aside0.mk (blk_below (g := gb159) (o := .cells #[.int .u64 a0_0, .int .u64 a0_1] 43 (0, 0)) (by (with_reducible repeat (first | refine blk_drewN ?_ _ | refine blk_drew ?_ | refine blk_alloc ?_ _)); exact BK159.out) hb)
  have n1_ := Aside0.mk (blk_below (g := gb160) (o := .cells #[.int .u64 a1_0, .int .u64 a1_1] 43 (0, 0)) (by (with_reducible repeat (first | refine blk_drewN ?_ _ | refine blk_drew ?_ | refine blk_alloc ?_ _)); exact BK160.out) hb)
  have n2_ := Aside0.mk (blk_below (g := gb161) (o := .cells #[.int .u64 0, .int .u64 0] 43 (0, 0)) (by (with_reducible repeat (first | refine blk_drewN ?_ _ | refine blk_drew ?_ | refine blk_alloc ?_ _)); exact BK161.out) hb)
  have n3_ := Aside0.mk (below_step (by repeat (first | (with_reducible first | exact HB.out | apply below_alloc | apply pw_below_drewN | apply below_drew1 | refine below_set ?_ GE159.out | refine below_set ?_ GE160.out | refine below_set ?_ GE161.out) | exact HB.out)) hb)
  clear BK159
  clear BK160
  clear BK161
  clear HB
  have BK159 := n0_
  have BK160 := n1_
  have BK161 := n2_
  have HB := n3_
  clear n0_ n1_ n2_ n3_
  (try clear hb)
  (try clear hb2)
  (try clear hk)
  (try clear hi)
  refine hK.out _ _ ⟨(blk_cell BK159.out 0).trans rfl, (blk_cell BK159.out 1).trans rfl, (blk_cell BK160.out 0).trans rfl, (blk_cell BK160.out 1).trans rfl⟩ (fun hHeld => ?_)
  clear hK K
  refine norm_ (a' := ?_) ?_ ?_
  rotate_left
  · show Act.put _ (some 7) _ = _
    simp only [Act.put, List.setIfInBounds_toArray, List.set_cons_zero, List.set_cons_succ, i64_w, i32_w]
    rfl
  refine one_ (i := 3) (N := some 9) #[true, true, true, true, false, false] rfl rfl (by kernel_rfl) (by decide) (fun K hK => ?_)
  refine goes_ Try.func61 (by kernel_rfl) rfl #[.agg #[.int .u64 a1_0, .int .u64 a1_1]] (by rfl) rfl rfl (by (try simp only [List.map_toArray, List.map_cons, List.map_nil]); first | done | rfl | (simp only [List.length_drop, List.length_take]; rfl)) ?_
  with_reducible refine (tnum_right.calls a1_0 a1_1 t164 t165 _ A4.out).mono ?_
  rintro e w10 ⟨rfl, hb⟩
  refine ⟨_, rfl, ?_⟩
  have n0_ := Aside0.mk (blk_below (g := gb159) (o := .cells #[.int .u64 a0_0, .int .u64 a0_1] 43 (0, 0)) (by (with_reducible repeat (first | refine blk_drewN ?_ _ | refine blk_drew ?_ | refine blk_alloc ?_ _)); exact BK159.out) hb)
  have n1_ := Aside0.mk (blk_below (g := gb160) (o := .cells #[.int .u64 a1_0, .int .u64 a1_1] 43 (0, 0)) (by (with_reducible repeat (first | refine blk_drewN ?_ _ | refine blk_drew ?_ | refine blk_alloc ?_ _)); exact BK160.out) hb)
  have n2_ := Aside0.mk (blk_below (g := gb161) (o := .cells #[.int .u64 0, .int .u64 0] 43 (0, 0)) (by (with_reducible repeat (first | refine blk_drewN ?_ _ | refine blk_drew ?_ | refine blk_alloc ?_ _)); exact BK161.out) hb)
  have n3_ := Aside0.mk (below_step (by repeat (first | (with_reducible first | exact HB.out | apply below_alloc | apply pw_below_drewN | apply below_drew1 | refine below_set ?_ GE159.out | refine below_set ?_ GE160.out | refine below_set ?_ GE161.out) | exact HB.out)) hb)
  clear BK159
  clear BK160
  clear BK161
  clear HB
  have BK159 := n0_
  have BK160 := n1_
  have BK161 := n2_
  have HB := n3_
  clear n0_ n1_ n2_ n3_
  (try clear hb)
  (try clear hb2)
  (try clear hk)
  (try clear hi)
  refine hK.out _ _ ⟨(blk_cell BK159.out 0).trans rfl, (blk_cell BK159.out 1).trans rfl, (blk_cell BK160.out 0).trans rfl, (blk_cell BK160.out 1).trans rfl⟩ (fun hHeld => ?_)
  clear hK K
  refine norm_ (a' := ?_) ?_ ?_
  rotate_left
  · show Act.put _ (some 9) _ = _
    simp only [Act.put, List.setIfInBounds_toArray, List.set_cons_zero, List.set_cons_succ, i64_w, i32_w]
    rfl
  refine last_ (i := 4) (N := none) #[true, true, true, true, true, false] rfl rfl (by kernel_rfl) (by decide) (fun K hK => ?_)
  have hs11 : w10.cell? ⟨gb159, 0, none⟩ = some (.int .u64 a0_0) := (blk_cell BK159.out 0).trans rfl
  have hfs11 := blk_frozen BK159.out 0
  have hns11_1 := NB160_159.out
  have hns11_2 := NB161_159.out
  have hms11_1 := NB159_160.out
  have hms11_2 := NB159_161.out
  have hs12 : w10.cell? ⟨gb159, 1, none⟩ = some (.int .u64 a0_1) := (blk_cell BK159.out 1).trans rfl
  have hfs12 := blk_frozen BK159.out 1
  have hns12_1 := NB160_159.out
  have hns12_2 := NB161_159.out
  have hms12_1 := NB159_160.out
  have hms12_2 := NB159_161.out
  refine skip_ (w1 := ?_) (by rfl) rfl ?_ ?_
  rotate_left
  · go_simp
    rfl
  refine hK.out _ _ ?_
  clear hK K
  refine last_ (i := 5) (N := none) #[true, true, true, true, true, true] rfl rfl (by kernel_rfl) (by decide) (fun K hK => ?_)
  have hs13 : w10.cell? ⟨gb160, 0, none⟩ = some (.int .u64 a1_0) := (blk_cell BK160.out 0).trans rfl
  have hfs13 := blk_frozen BK160.out 0
  have hns13_0 := NB159_160.out
  have hns13_2 := NB161_160.out
  have hms13_0 := NB160_159.out
  have hms13_2 := NB160_161.out
  have hs14 : w10.cell? ⟨gb160, 1, none⟩ = some (.int .u64 a1_1) := (blk_cell BK160.out 1).trans rfl
  have hfs14 := blk_frozen BK160.out 1
  have hns14_0 := NB159_160.out
  have hns14_2 := NB161_160.out
  have hms14_0 := NB160_159.out
  have hms14_2 := NB160_161.out
  refine skip_ (w1 := ?_) (by rfl) rfl ?_ ?_
  rotate_left
  · go_simp
    rfl
  refine hK.out _ _ ?_
  clear hK K
  refine done_ (by kernel_rfl) ?_
  have hnb15 := NB159_160.out
  have hnc15 := NB160_159.out
  have hnb16 := NB159_161.out
  have hnc16 := NB161_159.out
  have hcz17_0 : w10.cell? ⟨gb159, 0, none⟩ = some (.int .u64 a0_0) := (blk_cell BK159.out 0).trans rfl
  have hcz17_1 : w10.cell? ⟨gb159, 1, none⟩ = some (.int .u64 a0_1) := (blk_cell BK159.out 1).trans rfl
  have hfz17_0 := blk_frozen BK159.out 0
  have hfz17_1 := blk_frozen BK159.out 1
  have hnb18 := NB160_161.out
  have hnc18 := NB161_160.out
  have hcz19_0 : w10.cell? ⟨gb160, 0, none⟩ = some (.int .u64 a1_0) := (blk_cell BK160.out 0).trans rfl
  have hcz19_1 : w10.cell? ⟨gb160, 1, none⟩ = some (.int .u64 a1_1) := (blk_cell BK160.out 1).trans rfl
  have hfz19_0 := blk_frozen BK160.out 0
  have hfz19_1 := blk_frozen BK160.out 1
  have hcz20_0 : w10.cell? ⟨gb161, 0, none⟩ = some (.int .u64 0) := (blk_cell BK161.out 0).trans rfl
  have hcz20_1 : w10.cell? ⟨gb161, 1, none⟩ = some (.int .u64 0) := (blk_cell BK161.out 1).trans rfl
  have hfz20_0 := blk_frozen BK161.out 0
  have hfz20_1 := blk_frozen BK161.out 1
  try go_wp2
  refine bodyPost_ret (results_cell_row rfl _ _ gb161 43 #[.int .u64 (Go.bits .and .u64 t162 t164), .int .u64 (Go.bits .andNot .u64 (Go.bits .and .u64 (Go.bits .or .u64 t162 t163) (Go.bits .or .u64 t164 t165)) (Go.bits .and .u64 t162 t164))] (0, 0) _ rfl (by (with_reducible repeat (first | refine blk_drewN ?_ _ | refine blk_drew ?_ | refine blk_alloc ?_ _)); refine blk_put (cs := #[.int .u64 (Go.bits .and .u64 t162 t164), .int .u64 0]) ?_ 1 _ rfl; (with_reducible repeat (first | refine blk_drewN ?_ _ | refine blk_drew ?_ | refine blk_alloc ?_ _)); refine blk_put (cs := #[.int .u64 0, .int .u64 0]) ?_ 0 _ rfl; (with_reducible repeat (first | refine blk_drewN ?_ _ | refine blk_drew ?_ | refine blk_alloc ?_ _)); refine blk_far ?_ NB161_160.out _; (with_reducible repeat (first | refine blk_drewN ?_ _ | refine blk_drew ?_ | refine blk_alloc ?_ _)); refine blk_far ?_ NB161_160.out _; (with_reducible repeat (first | refine blk_drewN ?_ _ | refine blk_drew ?_ | refine blk_alloc ?_ _)); refine blk_far ?_ NB161_159.out _; (with_reducible repeat (first | refine blk_drewN ?_ _ | refine blk_drew ?_ | refine blk_alloc ?_ _)); refine blk_far ?_ NB161_159.out _; (with_reducible repeat (first | refine blk_drewN ?_ _ | refine blk_drew ?_ | refine blk_alloc ?_ _)); exact BK161.out) Try.underlying43 rfl (by kernel_rfl)) rfl ?_
  exact ⟨by first | rfl | (simp [errW_none, errW_some] <;> rfl) | (simp [*, errW_none, errW_some] <;> rfl), by repeat (first | (with_reducible first | exact HB.out | apply below_alloc | apply pw_below_drewN | apply below_drew1 | refine below_set ?_ GE159.out | refine below_set ?_ GE160.out | refine below_set ?_ GE161.out) | exact HB.out)⟩

/-! ### tnum_Or: function 44 -/
def tnum_Or.f (a0_0 : Int) (a0_1 : Int) (a1_0 : Int) (a1_1 : Int) : Option (Int × Int) := (tnum_right.f a0_0 a0_1).bind fun bt169 => ((tnum_right.f a1_0 a1_1).bind fun bt171 => (some (Go.bits .or .u64 bt169.1 bt171.1, Go.bits .andNot .u64 (Go.bits .or .u64 bt169.2 bt171.2) (Go.bits .or .u64 bt169.1 bt171.1))))
set_option maxHeartbeats 8000000 in
set_option maxRecDepth 100000 in
theorem tnum_Or.calls (a0_0 : Int) (a0_1 : Int) (a1_0 : Int) (a1_1 : Int) (r1 : Int) (r2 : Int) (w : World) (h : tnum_Or.f a0_0 a0_1 a1_0 a1_1 = some (r1, r2)) :
    Calls Try.prog 44 #[.agg #[.int .u64 a0_0, .int .u64 a0_1], .agg #[.int .u64 a1_0, .int .u64 a1_1]] w fun e w' => e = .returned (.agg #[.int .u64 r1, .int .u64 r2]) ∧ Below w.heap.size w w' := by
  have hu43 := Try.underlying43
  have HB := Aside0.mk (Below.refl w.heap.size w)
  have H : ((tnum_right.f a0_0 a0_1).bind fun bt169 => ((tnum_right.f a1_0 a1_1).bind fun bt171 => (some (Go.bits .or .u64 bt169.1 bt171.1, Go.bits .andNot .u64 (Go.bits .or .u64 bt169.2 bt171.2) (Go.bits .or .u64 bt169.1 bt171.1))))) = some (r1, r2) := h
  clear h
  replace H := Option.bind_eq_some_iff.mp H
  obtain ⟨⟨t169, t170⟩, A30, H⟩ := H
  replace H : ((tnum_right.f a1_0 a1_1).bind fun bt171 => (some (Go.bits .or .u64 t169 bt171.1, Go.bits .andNot .u64 (Go.bits .or .u64 t170 bt171.2) (Go.bits .or .u64 t169 bt171.1)))) = some (r1, r2) := H
  have A3 := Aside0.mk A30
  clear A30
  replace H := Option.bind_eq_some_iff.mp H
  obtain ⟨⟨t171, t172⟩, A40, H⟩ := H
  replace H : (some (Go.bits .or .u64 t169 t171, Go.bits .andNot .u64 (Go.bits .or .u64 t170 t172) (Go.bits .or .u64 t169 t171))) = some (r1, r2) := H
  have A4 := Aside0.mk A40
  clear A40
  simp only [Option.some.injEq, Prod.mk.injEq] at H
  obtain ⟨rfl, rfl⟩ := H
  go_enter Try.func44, Try.ntmps44
  try go_wp2_with (first | ((with_reducible refine gate_dst (N := 2) rfl ?_); refine box_event ?hg (N := 2) ?hd (cs := #[.int .u64 a0_0, .int .u64 a0_1]) (t := 43) ?hr ?_; (case hd => rfl); (case hg => rfl); (case hr => first | (go_simp; done) | (go_simp; rfl)); intro gb166 hg w5 hbox hb; have n0_ := Aside0.mk (below_step (by repeat (first | (with_reducible first | exact HB.out | apply below_alloc | apply pw_below_drewN | apply below_drew1) | exact HB.out)) hb); have n1_ := Aside0.mk (hbox); have n2_ := Aside0.mk ((by rw [hg]; exact (below_size (by repeat (first | (with_reducible first | exact HB.out | apply below_alloc | apply pw_below_drewN | apply below_drew1) | exact HB.out))) : w.heap.size ≤ gb166)); have n3_ := Aside0.mk ((by rw [hg]; exact (below_size (by repeat (first | (with_reducible first | exact HB.out | apply below_alloc | apply pw_below_drewN | apply below_drew1) | exact HB.out))) : w.heap.size ≤ gb166)); clear HB; have HB := n0_; have BK166 := n1_; have GW166 := n2_; have GE166 := n3_; clear n0_ n1_ n2_ n3_; clear hb hbox hg) | ((with_reducible refine gate_dst (N := 3) rfl ?_); refine box_event ?hg (N := 3) ?hd (cs := #[.int .u64 a1_0, .int .u64 a1_1]) (t := 43) ?hr ?_; (case hd => rfl); (case hg => rfl); (case hr => first | (go_simp; done) | (go_simp; rfl)); intro gb167 hg w6 hbox hb; have n0_ := Aside0.mk (blk_below (g := gb166) (o := .cells #[.int .u64 a0_0, .int .u64 a0_1] 43 (0, 0)) (by (with_reducible repeat (first | refine blk_drewN ?_ _ | refine blk_drew ?_ | refine blk_alloc ?_ _)); exact BK166.out) hb); have n1_ := Aside0.mk (below_step (by repeat (first | (with_reducible first | exact HB.out | apply below_alloc | apply pw_below_drewN | apply below_drew1 | refine below_set ?_ GE166.out) | exact HB.out)) hb); have n2_ := Aside0.mk (hbox); have n3_ := Aside0.mk ((by rw [hg]; exact (below_size (by repeat (first | (with_reducible first | exact HB.out | apply below_alloc | apply pw_below_drewN | apply below_drew1 | refine below_set ?_ GE166.out) | exact HB.out))) : w.heap.size ≤ gb167)); have n4_ := Aside0.mk ((by rw [hg]; exact (below_size (by repeat (first | (with_reducible first | exact HB.out | apply below_alloc | apply pw_below_drewN | apply below_drew1 | refine below_set ?_ GE166.out) | exact HB.out))) : w.heap.size ≤ gb167)); have n5_ := Aside0.mk ((by rw [hg]; exact Nat.ne_of_lt (blk_lt (g := gb166) (o := .cells #[.int .u64 a0_0, .int .u64 a0_1] 43 (0, 0)) (by (with_reducible repeat (first | refine blk_drewN ?_ _ | refine blk_drew ?_ | refine blk_alloc ?_ _)); exact BK166.out)) : gb166 ≠ gb167)); have n6_ := Aside0.mk ((by rw [hg]; exact Nat.ne_of_gt (blk_lt (g := gb166) (o := .cells #[.int .u64 a0_0, .int .u64 a0_1] 43 (0, 0)) (by (with_reducible repeat (first | refine blk_drewN ?_ _ | refine blk_drew ?_ | refine blk_alloc ?_ _)); exact BK166.out)) : gb167 ≠ gb166)); clear BK166; clear HB; have BK166 := n0_; have HB := n1_; have BK167 := n2_; have GW167 := n3_; have GE167 := n4_; have NB166_167 := n5_; have NB167_166 := n6_; clear n0_ n1_ n2_ n3_ n4_ n5_ n6_; clear hb hbox hg) | ((with_reducible refine gate_dst (N := 4) rfl ?_); refine box_event ?hg (N := 4) ?hd (cs := #[.int .u64 0, .int .u64 0]) (t := 43) ?hr ?_; (case hd => rfl); (case hg => rfl); (case hr => first | (go_simp; done) | (go_simp; rfl)); intro gb168 hg w7 hbox hb; have n0_ := Aside0.mk (blk_below (g := gb166) (o := .cells #[.int .u64 a0_0, .int .u64 a0_1] 43 (0, 0)) (by (with_reducible repeat (first | refine blk_drewN ?_ _ | refine blk_drew ?_ | refine blk_alloc ?_ _)); exact BK166.out) hb); have n1_ := Aside0.mk (blk_below (g := gb167) (o := .cells #[.int .u64 a1_0, .int .u64 a1_1] 43 (0, 0)) (by (with_reducible repeat (first | refine blk_drewN ?_ _ | refine blk_drew ?_ | refine blk_alloc ?_ _)); exact BK167.out) hb); have n2_ := Aside0.mk (below_step (by repeat (first | (with_reducible first | exact HB.out | apply below_alloc | apply pw_below_drewN | apply below_drew1 | refine below_set ?_ GE166.out | refine below_set ?_ GE167.out) | exact HB.out)) hb); have n3_ := Aside0.mk (hbox); have n4_ := Aside0.mk ((by rw [hg]; exact (below_size (by repeat (first | (with_reducible first | exact HB.out | apply below_alloc | apply pw_below_drewN | apply below_drew1 | refine below_set ?_ GE166.out | refine below_set ?_ GE167.out) | exact HB.out))) : w.heap.size ≤ gb168)); have n5_ := Aside0.mk ((by rw [hg]; exact (below_size (by repeat (first | (with_reducible first | exact HB.out | apply below_alloc | apply pw_below_drewN | apply below_drew1 | refine below_set ?_ GE166.out | refine below_set ?_ GE167.out) | exact HB.out))) : w.heap.size ≤ gb168)); have n6_ := Aside0.mk ((by rw [hg]; exact Nat.ne_of_lt (blk_lt (g := gb166) (o := .cells #[.int .u64 a0_0, .int .u64 a0_1] 43 (0, 0)) (by (with_reducible repeat (first | refine blk_drewN ?_ _ | refine blk_drew ?_ | refine blk_alloc ?_ _)); exact BK166.out)) : gb166 ≠ gb168)); have n7_ := Aside0.mk ((by rw [hg]; exact Nat.ne_of_gt (blk_lt (g := gb166) (o := .cells #[.int .u64 a0_0, .int .u64 a0_1] 43 (0, 0)) (by (with_reducible repeat (first | refine blk_drewN ?_ _ | refine blk_drew ?_ | refine blk_alloc ?_ _)); exact BK166.out)) : gb168 ≠ gb166)); have n8_ := Aside0.mk ((by rw [hg]; exact Nat.ne_of_lt (blk_lt (g := gb167) (o := .cells #[.int .u64 a1_0, .int .u64 a1_1] 43 (0, 0)) (by (with_reducible repeat (first | refine blk_drewN ?_ _ | refine blk_drew ?_ | refine blk_alloc ?_ _)); exact BK167.out)) : gb167 ≠ gb168)); have n9_ := Aside0.mk ((by rw [hg]; exact Nat.ne_of_gt (blk_lt (g := gb167) (o := .cells #[.int .u64 a1_0, .int .u64 a1_1] 43 (0, 0)) (by (with_reducible repeat (first | refine blk_drewN ?_ _ | refine blk_drew ?_ | refine blk_alloc ?_ _)); exact BK167.out)) : gb168 ≠ gb167)); clear BK166; clear BK167; clear HB; have BK166 := n0_; have BK167 := n1_; have HB := n2_; have BK168 := n3_; have GW168 := n4_; have GE168 := n5_; have NB166_168 := n6_; have NB168_166 := n7_; have NB167_168 := n8_; have NB168_167 := n9_; clear n0_ n1_ n2_ n3_ n4_ n5_ n6_ n7_ n8_ n9_; clear hb hbox hg))
  have n0_ := Aside0.mk (blk_drew BK166.out)
  have n1_ := Aside0.mk (blk_drew BK167.out)
  have n2_ := Aside0.mk (blk_drew BK168.out)
  have n3_ := Aside0.mk (below_drew1 HB.out)
  clear BK166
  clear BK167
  clear BK168
  clear HB
  have BK166 := n0_
  have BK167 := n1_
  have BK168 := n2_
  have HB := n3_
  clear n0_ n1_ n2_ n3_
  refine start_ (n := 6) (S := fun w' => w'.cell? ⟨gb166, 0, none⟩ = some (.int .u64 a0_0) ∧ w'.cell? ⟨gb166, 1, none⟩ = some (.int .u64 a0_1) ∧ w'.cell? ⟨gb167, 0, none⟩ = some (.int .u64 a1_0) ∧ w'.cell? ⟨gb167, 1, none⟩ = some (.int .u64 a1_1)) (ds := [4, 5]) #[false, false, false, false, false, false] (by kernel_rfl) rfl rfl ⟨(blk_cell BK166.out 0).trans rfl, (blk_cell BK166.out 1).trans rfl, (blk_cell BK167.out 0).trans rfl, (blk_cell BK167.out 1).trans rfl⟩ (fun hHeld => ?_)
  generalize w7.drew = w8 at BK166 BK167 BK168 HB hHeld ⊢
  refine take_ (i := 0) (N := some 6) (v := ?_) (a' := ?_) #[true, false, false, false, false, false] rfl rfl (by kernel_rfl) (fun _ _ _ h => h) (Or.inl ⟨by rfl, ?_⟩) hHeld ?_ ?_
  rotate_left
  · rintro w' ⟨s0, s1, s2, s3⟩
    go_simp
    with_reducible rfl
  rotate_left
  · simp only [Act.put, List.setIfInBounds_toArray, List.set_cons_zero, List.set_cons_succ, i64_w, i32_w]
    rfl
  refine take_ (i := 2) (N := some 8) (v := ?_) (a' := ?_) #[true, false, true, false, false, false] rfl rfl (by kernel_rfl) (fun _ _ _ h => h) (Or.inl ⟨by rfl, ?_⟩) hHeld ?_ ?_
  rotate_left
  · rintro w' ⟨s0, s1, s2, s3⟩
    go_simp
    with_reducible rfl
  rotate_left
  · simp only [Act.put, List.setIfInBounds_toArray, List.set_cons_zero, List.set_cons_succ, i64_w, i32_w]
    rfl
  refine one_ (i := 1) (N := some 7) #[true, true, true, false, false, false] rfl rfl (by kernel_rfl) (by decide) (fun K hK => ?_)
  refine goes_ Try.func61 (by kernel_rfl) rfl #[.agg #[.int .u64 a0_0, .int .u64 a0_1]] (by rfl) rfl rfl (by (try simp only [List.map_toArray, List.map_cons, List.map_nil]); first | done | rfl | (simp only [List.length_drop, List.length_take]; rfl)) ?_
  with_reducible refine (tnum_right.calls a0_0 a0_1 t169 t170 _ A3.out).mono ?_
  rintro e w9 ⟨rfl, hb⟩
  refine ⟨_, rfl, ?_⟩
  have n0_ := Aside0.mk (blk_below (g := gb166) (o := .cells #[.int .u64 a0_0, .int .u64 a0_1] 43 (0, 0)) (by (with_reducible repeat (first | refine blk_drewN ?_ _ | refine blk_drew ?_ | refine blk_alloc ?_ _)); exact BK166.out) hb)
  have n1_ := Aside0.mk (blk_below (g := gb167) (o := .cells #[.int .u64 a1_0, .int .u64 a1_1] 43 (0, 0)) (by (with_reducible repeat (first | refine blk_drewN ?_ _ | refine blk_drew ?_ | refine blk_alloc ?_ _)); exact BK167.out) hb)
  have n2_ := Aside0.mk (blk_below (g := gb168) (o := .cells #[.int .u64 0, .int .u64 0] 43 (0, 0)) (by (with_reducible repeat (first | refine blk_drewN ?_ _ | refine blk_drew ?_ | refine blk_alloc ?_ _)); exact BK168.out) hb)
  have n3_ := Aside0.mk (below_step (by repeat (first | (with_reducible first | exact HB.out | apply below_alloc | apply pw_below_drewN | apply below_drew1 | refine below_set ?_ GE166.out | refine below_set ?_ GE167.out | refine below_set ?_ GE168.out) | exact HB.out)) hb)
  clear BK166
  clear BK167
  clear BK168
  clear HB
  have BK166 := n0_
  have BK167 := n1_
  have BK168 := n2_
  have HB := n3_
  clear n0_ n1_ n2_ n3_
  (try clear hb)
  (try clear hb2)
  (try clear hk)
  (try clear hi)
  refine hK.out _ _ ⟨(blk_cell BK166.out 0).trans rfl, (blk_cell BK166.out 1).trans rfl, (blk_cell BK167.out 0).trans rfl, (blk_cell BK167.out 1).trans rfl⟩ (fun hHeld => ?_)
  clear hK K
  refine norm_ (a' := ?_) ?_ ?_
  rotate_left
  · show Act.put _ (some 7) _ = _
    simp only [Act.put, List.setIfInBounds_toArray, List.set_cons_zero, List.set_cons_succ, i64_w, i32_w]
    rfl
  refine one_ (i := 3) (N := some 9) #[true, true, true, true, false, false] rfl rfl (by kernel_rfl) (by decide) (fun K hK => ?_)
  refine goes_ Try.func61 (by kernel_rfl) rfl #[.agg #[.int .u64 a1_0, .int .u64 a1_1]] (by rfl) rfl rfl (by (try simp only [List.map_toArray, List.map_cons, List.map_nil]); first | done | rfl | (simp only [List.length_drop, List.length_take]; rfl)) ?_
  with_reducible refine (tnum_right.calls a1_0 a1_1 t171 t172 _ A4.out).mono ?_
  rintro e w10 ⟨rfl, hb⟩
  refine ⟨_, rfl, ?_⟩
  have n0_ := Aside0.mk (blk_below (g := gb166) (o := .cells #[.int .u64 a0_0, .int .u64 a0_1] 43 (0, 0)) (by (with_reducible repeat (first | refine blk_drewN ?_ _ | refine blk_drew ?_ | refine blk_alloc ?_ _)); exact BK166.out) hb)
  have n1_ := Aside0.mk (blk_below (g := gb167) (o := .cells #[.int .u64 a1_0, .int .u64 a1_1] 43 (0, 0)) (by (with_reducible repeat (first | refine blk_drewN ?_ _ | refine blk_drew ?_ | refine blk_alloc ?_ _)); exact BK167.out) hb)
  have n2_ := Aside0.mk (blk_below (g := gb168) (o := .cells #[.int .u64 0, .int .u64 0] 43 (0, 0)) (by (with_reducible repeat (first | refine blk_drewN ?_ _ | refine blk_drew ?_ | refine blk_alloc ?_ _)); exact BK168.out) hb)
  have n3_ := Aside0.mk (below_step (by repeat (first | (with_reducible first | exact HB.out | apply below_alloc | apply pw_below_drewN | apply below_drew1 | refine below_set ?_ GE166.out | refine below_set ?_ GE167.out | refine below_set ?_ GE168.out) | exact HB.out)) hb)
  clear BK166
  clear BK167
  clear BK168
  clear HB
  have BK166 := n0_
  have BK167 := n1_
  have BK168 := n2_
  have HB := n3_
  clear n0_ n1_ n2_ n3_
  (try clear hb)
  (try clear hb2)
  (try clear hk)
  (try clear hi)
  refine hK.out _ _ ⟨(blk_cell BK166.out 0).trans rfl, (blk_cell BK166.out 1).trans rfl, (blk_cell BK167.out 0).trans rfl, (blk_cell BK167.out 1).trans rfl⟩ (fun hHeld => ?_)
  clear hK K
  refine norm_ (a' := ?_) ?_ ?_
  rotate_left
  · show Act.put _ (some 9) _ = _
    simp only [Act.put, List.setIfInBounds_toArray, List.set_cons_zero, List.set_cons_succ, i64_w, i32_w]
    rfl
  refine last_ (i := 4) (N := none) #[true, true, true, true, true, false] rfl rfl (by kernel_rfl) (by decide) (fun K hK => ?_)
  have hs11 : w10.cell? ⟨gb166, 0, none⟩ = some (.int .u64 a0_0) := (blk_cell BK166.out 0).trans rfl
  have hfs11 := blk_frozen BK166.out 0
  have hns11_1 := NB167_166.out
  have hns11_2 := NB168_166.out
  have hms11_1 := NB166_167.out
  have hms11_2 := NB166_168.out
  have hs12 : w10.cell? ⟨gb166, 1, none⟩ = some (.int .u64 a0_1) := (blk_cell BK166.out 1).trans rfl
  have hfs12 := blk_frozen BK166.out 1
  have hns12_1 := NB167_166.out
  have hns12_2 := NB168_166.out
  have hms12_1 := NB166_167.out
  have hms12_2 := NB166_168.out
  refine skip_ (w1 := ?_) (by rfl) rfl ?_ ?_
  rotate_left
  · go_simp
    rfl
  refine hK.out _ _ ?_
  clear hK K
  refine last_ (i := 5) (N := none) #[true, true, true, true, true, true] rfl rfl (by kernel_rfl) (by decide) (fun K hK => ?_)
  have hs13 : w10.cell? ⟨gb167, 0, none⟩ = some (.int .u64 a1_0) := (blk_cell BK167.out 0).trans rfl
  have hfs13 := blk_frozen BK167.out 0
  have hns13_0 := NB166_167.out
  have hns13_2 := NB168_167.out
  have hms13_0 := NB167_166.out
  have hms13_2 := NB167_168.out
  have hs14 : w10.cell? ⟨gb167, 1, none⟩ = some (.int .u64 a1_1) := (blk_cell BK167.out 1).trans rfl
  have hfs14 := blk_frozen BK167.out 1
  have hns14_0 := NB166_167.out
  have hns14_2 := NB168_167.out
  have hms14_0 := NB167_166.out
  have hms14_2 := NB167_168.out
  refine skip_ (w1 := ?_) (by rfl) rfl ?_ ?_
  rotate_left
  · go_simp
    rfl
  refine hK.out _ _ ?_
  clear hK K
  refine done_ (by kernel_rfl) ?_
  have hnb15 := NB166_167.out
  have hnc15 := NB167_166.out
  have hnb16 := NB166_168.out
  have hnc16 := NB168_166.out
  have hcz17_0 : w10.cell? ⟨gb166, 0, none⟩ = some (.int .u64 a0_0) := (blk_cell BK166.out 0).trans rfl
  have hcz17_1 : w10.cell? ⟨gb166, 1, none⟩ = some (.int .u64 a0_1) := (blk_cell BK166.out 1).trans rfl
  have hfz17_0 := blk_frozen BK166.out 0
  have hfz17_1 := blk_frozen BK166.out 1
  have hnb18 := NB167_168.out
  have hnc18 := NB168_167.out
  have hcz19_0 : w10.cell? ⟨gb167, 0, none⟩ = some (.int .u64 a1_0) := (blk_cell BK167.out 0).trans rfl
  have hcz19_1 : w10.cell? ⟨gb167, 1, none⟩ = some (.int .u64 a1_1) := (blk_cell BK167.out 1).trans rfl
  have hfz19_0 := blk_frozen BK167.out 0
  have hfz19_1 := blk_frozen BK167.out 1
  have hcz20_0 : w10.cell? ⟨gb168, 0, none⟩ = some (.int .u64 0) := (blk_cell BK168.out 0).trans rfl
  have hcz20_1 : w10.cell? ⟨gb168, 1, none⟩ = some (.int .u64 0) := (blk_cell BK168.out 1).trans rfl
  have hfz20_0 := blk_frozen BK168.out 0
  have hfz20_1 := blk_frozen BK168.out 1
  try go_wp2
  refine bodyPost_ret (results_cell_row rfl _ _ gb168 43 #[.int .u64 (Go.bits .or .u64 t169 t171), .int .u64 (Go.bits .andNot .u64 (Go.bits .or .u64 t170 t172) (Go.bits .or .u64 t169 t171))] (0, 0) _ rfl (by (with_reducible repeat (first | refine blk_drewN ?_ _ | refine blk_drew ?_ | refine blk_alloc ?_ _)); refine blk_put (cs := #[.int .u64 (Go.bits .or .u64 t169 t171), .int .u64 0]) ?_ 1 _ rfl; (with_reducible repeat (first | refine blk_drewN ?_ _ | refine blk_drew ?_ | refine blk_alloc ?_ _)); refine blk_put (cs := #[.int .u64 0, .int .u64 0]) ?_ 0 _ rfl; (with_reducible repeat (first | refine blk_drewN ?_ _ | refine blk_drew ?_ | refine blk_alloc ?_ _)); refine blk_far ?_ NB168_167.out _; (with_reducible repeat (first | refine blk_drewN ?_ _ | refine blk_drew ?_ | refine blk_alloc ?_ _)); refine blk_far ?_ NB168_167.out _; (with_reducible repeat (first | refine blk_drewN ?_ _ | refine blk_drew ?_ | refine blk_alloc ?_ _)); refine blk_far ?_ NB168_166.out _; (with_reducible repeat (first | refine blk_drewN ?_ _ | refine blk_drew ?_ | refine blk_alloc ?_ _)); refine blk_far ?_ NB168_166.out _; (with_reducible repeat (first | refine blk_drewN ?_ _ | refine blk_drew ?_ | refine blk_alloc ?_ _)); exact BK168.out) Try.underlying43 rfl (by kernel_rfl)) rfl ?_
  exact ⟨by first | rfl | (simp [errW_none, errW_some] <;> rfl) | (simp [*, errW_none, errW_some] <;> rfl), by repeat (first | (with_reducible first | exact HB.out | apply below_alloc | apply pw_below_drewN | apply below_drew1 | refine below_set ?_ GE166.out | refine below_set ?_ GE167.out | refine below_set ?_ GE168.out) | exact HB.out)⟩

/-! ### tnum_Xor: function 45 -/
def tnum_Xor.f (a0_0 : Int) (a0_1 : Int) (a1_0 : Int) (a1_1 : Int) : Option (Int × Int) := (tnum_right.f a0_0 a0_1).bind fun bt176 => ((tnum_right.f a1_0 a1_1).bind fun bt178 => ((tnum_right.f (Go.bits .xor .u64 bt176.1 bt178.1) (Go.bits .or .u64 bt176.2 bt178.2)).bind fun bt180 => (some (bt180.1, bt180.2))))
set_option maxHeartbeats 8000000 in
set_option maxRecDepth 100000 in
theorem tnum_Xor.calls (a0_0 : Int) (a0_1 : Int) (a1_0 : Int) (a1_1 : Int) (r1 : Int) (r2 : Int) (w : World) (h : tnum_Xor.f a0_0 a0_1 a1_0 a1_1 = some (r1, r2)) :
    Calls Try.prog 45 #[.agg #[.int .u64 a0_0, .int .u64 a0_1], .agg #[.int .u64 a1_0, .int .u64 a1_1]] w fun e w' => e = .returned (.agg #[.int .u64 r1, .int .u64 r2]) ∧ Below w.heap.size w w' := by
  have hu43 := Try.underlying43
  have HB := Aside0.mk (Below.refl w.heap.size w)
  have H : ((tnum_right.f a0_0 a0_1).bind fun bt176 => ((tnum_right.f a1_0 a1_1).bind fun bt178 => ((tnum_right.f (Go.bits .xor .u64 bt176.1 bt178.1) (Go.bits .or .u64 bt176.2 bt178.2)).bind fun bt180 => (some (bt180.1, bt180.2))))) = some (r1, r2) := h
  clear h
  replace H := Option.bind_eq_some_iff.mp H
  obtain ⟨⟨t176, t177⟩, A30, H⟩ := H
  replace H : ((tnum_right.f a1_0 a1_1).bind fun bt178 => ((tnum_right.f (Go.bits .xor .u64 t176 bt178.1) (Go.bits .or .u64 t177 bt178.2)).bind fun bt180 => (some (bt180.1, bt180.2)))) = some (r1, r2) := H
  have A3 := Aside0.mk A30
  clear A30
  replace H := Option.bind_eq_some_iff.mp H
  obtain ⟨⟨t178, t179⟩, A40, H⟩ := H
  replace H : ((tnum_right.f (Go.bits .xor .u64 t176 t178) (Go.bits .or .u64 t177 t179)).bind fun bt180 => (some (bt180.1, bt180.2))) = some (r1, r2) := H
  have A4 := Aside0.mk A40
  clear A40
  replace H := Option.bind_eq_some_iff.mp H
  obtain ⟨⟨t180, t181⟩, A50, H⟩ := H
  replace H : (some (t180, t181)) = some (r1, r2) := H
  have A5 := Aside0.mk A50
  clear A50
  simp only [Option.some.injEq, Prod.mk.injEq] at H
  obtain ⟨rfl, rfl⟩ := H
  go_enter Try.func45, Try.ntmps45
  try go_wp2_with (first | ((with_reducible refine gate_dst (N := 2) rfl ?_); refine box_event ?hg (N := 2) ?hd (cs := #[.int .u64 a0_0, .int .u64 a0_1]) (t := 43) ?hr ?_; (case hd => rfl); (case hg => rfl); (case hr => first | (go_simp; done) | (go_simp; rfl)); intro gb173 hg w6 hbox hb; have n0_ := Aside0.mk (below_step (by repeat (first | (with_reducible first | exact HB.out | apply below_alloc | apply pw_below_drewN | apply below_drew1) | exact HB.out)) hb); have n1_ := Aside0.mk (hbox); have n2_ := Aside0.mk ((by rw [hg]; exact (below_size (by repeat (first | (with_reducible first | exact HB.out | apply below_alloc | apply pw_below_drewN | apply below_drew1) | exact HB.out))) : w.heap.size ≤ gb173)); have n3_ := Aside0.mk ((by rw [hg]; exact (below_size (by repeat (first | (with_reducible first | exact HB.out | apply below_alloc | apply pw_below_drewN | apply below_drew1) | exact HB.out))) : w.heap.size ≤ gb173)); clear HB; have HB := n0_; have BK173 := n1_; have GW173 := n2_; have GE173 := n3_; clear n0_ n1_ n2_ n3_; clear hb hbox hg) | ((with_reducible refine gate_dst (N := 3) rfl ?_); refine box_event ?hg (N := 3) ?hd (cs := #[.int .u64 a1_0, .int .u64 a1_1]) (t := 43) ?hr ?_; (case hd => rfl); (case hg => rfl); (case hr => first | (go_simp; done) | (go_simp; rfl)); intro gb174 hg w7 hbox hb; have n0_ := Aside0.mk (blk_below (g := gb173) (o := .cells #[.int .u64 a0_0, .int .u64 a0_1] 43 (0, 0)) (by (with_reducible repeat (first | refine blk_drewN ?_ _ | refine blk_drew ?_ | refine blk_alloc ?_ _)); exact BK173.out) hb); have n1_ := Aside0.mk (below_step (by repeat (first | (with_reducible first | exact HB.out | apply below_alloc | apply pw_below_drewN | apply below_drew1 | refine below_set ?_ GE173.out) | exact HB.out)) hb); have n2_ := Aside0.mk (hbox); have n3_ := Aside0.mk ((by rw [hg]; exact (below_size (by repeat (first | (with_reducible first | exact HB.out | apply below_alloc | apply pw_below_drewN | apply below_drew1 | refine below_set ?_ GE173.out) | exact HB.out))) : w.heap.size ≤ gb174)); have n4_ := Aside0.mk ((by rw [hg]; exact (below_size (by repeat (first | (with_reducible first | exact HB.out | apply below_alloc | apply pw_below_drewN | apply below_drew1 | refine below_set ?_ GE173.out) | exact HB.out))) : w.heap.size ≤ gb174)); have n5_ := Aside0.mk ((by rw [hg]; exact Nat.ne_of_lt (blk_lt (g := gb173) (o := .cells #[.int .u64 a0_0, .int .u64 a0_1] 43 (0, 0)) (by (with_reducible repeat (first | refine blk_drewN ?_ _ | refine blk_drew ?_ | refine blk_alloc ?_ _)); exact BK173.out)) : gb173 ≠ gb174)); have n6_ := Aside0.mk ((by rw [hg]; exact Nat.ne_of_gt (blk_lt (g := gb173) (o := .cells #[.int .u64 a0_0, .int .u64 a0_1] 43 (0, 0)) (by (with_reducible repeat (first | refine blk_drewN ?_ _ | refine blk_drew ?_ | refine blk_alloc ?_ _)); exact BK173.out)) : gb174 ≠ gb173)); clear BK173; clear HB; have BK173 := n0_; have HB := n1_; have BK174 := n2_; have GW174 := n3_; have GE174 := n4_; have NB173_174 := n5_; have NB174_173 := n6_; clear n0_ n1_ n2_ n3_ n4_ n5_ n6_; clear hb hbox hg) | ((with_reducible refine gate_dst (N := 4) rfl ?_); refine box_event ?hg (N := 4) ?hd (cs := #[.int .u64 0, .int .u64 0]) (t := 43) ?hr ?_; (case hd => rfl); (case hg => rfl); (case hr => first | (go_simp; done) | (go_simp; rfl)); intro gb175 hg w8 hbox hb; have n0_ := Aside0.mk (blk_below (g := gb173) (o := .cells #[.int .u64 a0_0, .int .u64 a0_1] 43 (0, 0)) (by (with_reducible repeat (first | refine blk_drewN ?_ _ | refine blk_drew ?_ | refine blk_alloc ?_ _)); exact BK173.out) hb); have n1_ := Aside0.mk (blk_below (g := gb174) (o := .cells #[.int .u64 a1_0, .int .u64 a1_1] 43 (0, 0)) (by (with_reducible repeat (first | refine blk_drewN ?_ _ | refine blk_drew ?_ | refine blk_alloc ?_ _)); exact BK174.out) hb); have n2_ := Aside0.mk (below_step (by repeat (first | (with_reducible first | exact HB.out | apply below_alloc | apply pw_below_drewN | apply below_drew1 | refine below_set ?_ GE173.out | refine below_set ?_ GE174.out) | exact HB.out)) hb); have n3_ := Aside0.mk (hbox); have n4_ := Aside0.mk ((by rw [hg]; exact (below_size (by repeat (first | (with_reducible first | exact HB.out | apply below_alloc | apply pw_below_drewN | apply below_drew1 | refine below_set ?_ GE173.out | refine below_set ?_ GE174.out) | exact HB.out))) : w.heap.size ≤ gb175)); have n5_ := Aside0.mk ((by rw [hg]; exact (below_size (by repeat (first | (with_reducible first | exact HB.out | apply below_alloc | apply pw_below_drewN | apply below_drew1 | refine below_set ?_ GE173.out | refine below_set ?_ GE174.out) | exact HB.out))) : w.heap.size ≤ gb175)); have n6_ := Aside0.mk ((by rw [hg]; exact Nat.ne_of_lt (blk_lt (g := gb173) (o := .cells #[.int .u64 a0_0, .int .u64 a0_1] 43 (0, 0)) (by (with_reducible repeat (first | refine blk_drewN ?_ _ | refine blk_drew ?_ | refine blk_alloc ?_ _)); exact BK173.out)) : gb173 ≠ gb175)); have n7_ := Aside0.mk ((by rw [hg]; exact Nat.ne_of_gt (blk_lt (g := gb173) (o := .cells #[.int .u64 a0_0, .int .u64 a0_1] 43 (0, 0)) (by (with_reducible repeat (first | refine blk_drewN ?_ _ | refine blk_drew ?_ | refine blk_alloc ?_ _)); exact BK173.out)) : gb175 ≠ gb173)); have n8_ := Aside0.mk ((by rw [hg]; exact Nat.ne_of_lt (blk_lt (g := gb174) (o := .cells #[.int .u64 a1_0, .int .u64 a1_1] 43 (0, 0)) (by (with_reducible repeat (first | refine blk_drewN ?_ _ | refine blk_drew ?_ | refine blk_alloc ?_ _)); exact BK174.out)) : gb174 ≠ gb175)); have n9_ := Aside0.mk ((by rw [hg]; exact Nat.ne_of_gt (blk_lt (g := gb174) (o := .cells #[.int .u64 a1_0, .int .u64 a1_1] 43 (0, 0)) (by (with_reducible repeat (first | refine blk_drewN ?_ _ | refine blk_drew ?_ | refine blk_alloc ?_ _)); exact BK174.out)) : gb175 ≠ gb174)); clear BK173; clear BK174; clear HB; have BK173 := n0_; have BK174 := n1_; have HB := n2_; have BK175 := n3_; have GW175 := n4_; have GE175 := n5_; have NB173_175 := n6_; have NB175_173 := n7_; have NB174_175 := n8_; have NB175_174 := n9_; clear n0_ n1_ n2_ n3_ n4_ n5_ n6_ n7_ n8_ n9_; clear hb hbox hg))
  have n0_ := Aside0.mk (blk_drew BK173.out)
  have n1_ := Aside0.mk (blk_drew BK174.out)
  have n2_ := Aside0.mk (blk_drew BK175.out)
  have n3_ := Aside0.mk (below_drew1 HB.out)
  clear BK173
  clear BK174
  clear BK175
  clear HB
  have BK173 := n0_
  have BK174 := n1_
  have BK175 := n2_
  have HB := n3_
  clear n0_ n1_ n2_ n3_
  refine start_ (n := 6) (S := fun w' => w'.cell? ⟨gb173, 0, none⟩ = some (.int .u64 a0_0) ∧ w'.cell? ⟨gb173, 1, none⟩ = some (.int .u64 a0_1) ∧ w'.cell? ⟨gb174, 0, none⟩ = some (.int .u64 a1_0) ∧ w'.cell? ⟨gb174, 1, none⟩ = some (.int .u64 a1_1)) (ds := [4, 5]) #[false, false, false, false, false, false] (by kernel_rfl) rfl rfl ⟨(blk_cell BK173.out 0).trans rfl, (blk_cell BK173.out 1).trans rfl, (blk_cell BK174.out 0).trans rfl, (blk_cell BK174.out 1).trans rfl⟩ (fun hHeld => ?_)
  generalize w8.drew = w9 at BK173 BK174 BK175 HB hHeld ⊢
  refine take_ (i := 0) (N := some 5) (v := ?_) (a' := ?_) #[true, false, false, false, false, false] rfl rfl (by kernel_rfl) (fun _ _ _ h => h) (Or.inl ⟨by rfl, ?_⟩) hHeld ?_ ?_
  rotate_left
  · rintro w' ⟨s0, s1, s2, s3⟩
    go_simp
    with_reducible rfl
  rotate_left
  · simp only [Act.put, List.setIfInBounds_toArray, List.set_cons_zero, List.set_cons_succ, i64_w, i32_w]
    rfl
  refine take_ (i := 2) (N := some 7) (v := ?_) (a' := ?_) #[true, false, true, false, false, false] rfl rfl (by kernel_rfl) (fun _ _ _ h => h) (Or.inl ⟨by rfl, ?_⟩) hHeld ?_ ?_
  rotate_left
  · rintro w' ⟨s0, s1, s2, s3⟩
    go_simp
    with_reducible rfl
  rotate_left
  · simp only [Act.put, List.setIfInBounds_toArray, List.set_cons_zero, List.set_cons_succ, i64_w, i32_w]
    rfl
  refine one_ (i := 1) (N := some 6) #[true, true, true, false, false, false] rfl rfl (by kernel_rfl) (by decide) (fun K hK => ?_)
  refine goes_ Try.func61 (by kernel_rfl) rfl #[.agg #[.int .u64 a0_0, .int .u64 a0_1]] (by rfl) rfl rfl (by (try simp only [List.map_toArray, List.map_cons, List.map_nil]); first | done | rfl | (simp only [List.length_drop, List.length_take]; rfl)) ?_
  with_reducible refine (tnum_right.calls a0_0 a0_1 t176 t177 _ A3.out).mono ?_
  rintro e w10 ⟨rfl, hb⟩
  refine ⟨_, rfl, ?_⟩
  have n0_ := Aside0.mk (blk_below (g := gb173) (o := .cells #[.int .u64 a0_0, .int .u64 a0_1] 43 (0, 0)) (by (with_reducible repeat (first | refine blk_drewN ?_ _ | refine blk_drew ?_ | refine blk_alloc ?_ _)); exact BK173.out) hb)
  have n1_ := Aside0.mk (blk_below (g := gb174) (o := .cells #[.int .u64 a1_0, .int .u64 a1_1] 43 (0, 0)) (by (with_reducible repeat (first | refine blk_drewN ?_ _ | refine blk_drew ?_ | refine blk_alloc ?_ _)); exact BK174.out) hb)
  have n2_ := Aside0.mk (blk_below (g := gb175) (o := .cells #[.int .u64 0, .int .u64 0] 43 (0, 0)) (by (with_reducible repeat (first | refine blk_drewN ?_ _ | refine blk_drew ?_ | refine blk_alloc ?_ _)); exact BK175.out) hb)
  have n3_ := Aside0.mk (below_step (by repeat (first | (with_reducible first | exact HB.out | apply below_alloc | apply pw_below_drewN | apply below_drew1 | refine below_set ?_ GE173.out | refine below_set ?_ GE174.out | refine below_set ?_ GE175.out) | exact HB.out)) hb)
  clear BK173
  clear BK174
  clear BK175
  clear HB
  have BK173 := n0_
  have BK174 := n1_
  have BK175 := n2_
  have HB := n3_
  clear n0_ n1_ n2_ n3_
  (try clear hb)
  (try clear hb2)
  (try clear hk)
  (try clear hi)
  refine hK.out _ _ ⟨(blk_cell BK173.out 0).trans rfl, (blk_cell BK173.out 1).trans rfl, (blk_cell BK174.out 0).trans rfl, (blk_cell BK174.out 1).trans rfl⟩ (fun hHeld => ?_)
  clear hK K
  refine norm_ (a' := ?_) ?_ ?_
  rotate_left
  · show Act.put _ (some 6) _ = _
    simp only [Act.put, List.setIfInBounds_toArray, List.set_cons_zero, List.set_cons_succ, i64_w, i32_w]
    rfl
  refine one_ (i := 3) (N := some 8) #[true, true, true, true, false, false] rfl rfl (by kernel_rfl) (by decide) (fun K hK => ?_)
  refine goes_ Try.func61 (by kernel_rfl) rfl #[.agg #[.int .u64 a1_0, .int .u64 a1_1]] (by rfl) rfl rfl (by (try simp only [List.map_toArray, List.map_cons, List.map_nil]); first | done | rfl | (simp only [List.length_drop, List.length_take]; rfl)) ?_
  with_reducible refine (tnum_right.calls a1_0 a1_1 t178 t179 _ A4.out).mono ?_
  rintro e w11 ⟨rfl, hb⟩
  refine ⟨_, rfl, ?_⟩
  have n0_ := Aside0.mk (blk_below (g := gb173) (o := .cells #[.int .u64 a0_0, .int .u64 a0_1] 43 (0, 0)) (by (with_reducible repeat (first | refine blk_drewN ?_ _ | refine blk_drew ?_ | refine blk_alloc ?_ _)); exact BK173.out) hb)
  have n1_ := Aside0.mk (blk_below (g := gb174) (o := .cells #[.int .u64 a1_0, .int .u64 a1_1] 43 (0, 0)) (by (with_reducible repeat (first | refine blk_drewN ?_ _ | refine blk_drew ?_ | refine blk_alloc ?_ _)); exact BK174.out) hb)
  have n2_ := Aside0.mk (blk_below (g := gb175) (o := .cells #[.int .u64 0, .int .u64 0] 43 (0, 0)) (by (with_reducible repeat (first | refine blk_drewN ?_ _ | refine blk_drew ?_ | refine blk_alloc ?_ _)); exact BK175.out) hb)
  have n3_ := Aside0.mk (below_step (by repeat (first | (with_reducible first | exact HB.out | apply below_alloc | apply pw_below_drewN | apply below_drew1 | refine below_set ?_ GE173.out | refine below_set ?_ GE174.out | refine below_set ?_ GE175.out) | exact HB.out)) hb)
  clear BK173
  clear BK174
  clear BK175
  clear HB
  have BK173 := n0_
  have BK174 := n1_
  have BK175 := n2_
  have HB := n3_
  clear n0_ n1_ n2_ n3_
  (try clear hb)
  (try clear hb2)
  (try clear hk)
  (try clear hi)
  refine hK.out _ _ ⟨(blk_cell BK173.out 0).trans rfl, (blk_cell BK173.out 1).trans rfl, (blk_cell BK174.out 0).trans rfl, (blk_cell BK174.out 1).trans rfl⟩ (fun hHeld => ?_)
  clear hK K
  refine norm_ (a' := ?_) ?_ ?_
  rotate_left
  · show Act.put _ (some 8) _ = _
    simp only [Act.put, List.setIfInBounds_toArray, List.set_cons_zero, List.set_cons_succ, i64_w, i32_w]
    rfl
  refine last_ (i := 4) (N := none) #[true, true, true, true, true, false] rfl rfl (by kernel_rfl) (by decide) (fun K hK => ?_)
  have hs12 : w11.cell? ⟨gb173, 0, none⟩ = some (.int .u64 a0_0) := (blk_cell BK173.out 0).trans rfl
  have hfs12 := blk_frozen BK173.out 0
  have hns12_1 := NB174_173.out
  have hns12_2 := NB175_173.out
  have hms12_1 := NB173_174.out
  have hms12_2 := NB173_175.out
  have hs13 : w11.cell? ⟨gb173, 1, none⟩ = some (.int .u64 a0_1) := (blk_cell BK173.out 1).trans rfl
  have hfs13 := blk_frozen BK173.out 1
  have hns13_1 := NB174_173.out
  have hns13_2 := NB175_173.out
  have hms13_1 := NB173_174.out
  have hms13_2 := NB173_175.out
  refine skip_ (w1 := ?_) (by rfl) rfl ?_ ?_
  rotate_left
  · go_simp
    rfl
  refine hK.out _ _ ?_
  clear hK K
  refine last_ (i := 5) (N := none) #[true, true, true, true, true, true] rfl rfl (by kernel_rfl) (by decide) (fun K hK => ?_)
  have hs14 : w11.cell? ⟨gb174, 0, none⟩ = some (.int .u64 a1_0) := (blk_cell BK174.out 0).trans rfl
  have hfs14 := blk_frozen BK174.out 0
  have hns14_0 := NB173_174.out
  have hns14_2 := NB175_174.out
  have hms14_0 := NB174_173.out
  have hms14_2 := NB174_175.out
  have hs15 : w11.cell? ⟨gb174, 1, none⟩ = some (.int .u64 a1_1) := (blk_cell BK174.out 1).trans rfl
  have hfs15 := blk_frozen BK174.out 1
  have hns15_0 := NB173_174.out
  have hns15_2 := NB175_174.out
  have hms15_0 := NB174_173.out
  have hms15_2 := NB174_175.out
  refine skip_ (w1 := ?_) (by rfl) rfl ?_ ?_
  rotate_left
  · go_simp
    rfl
  refine hK.out _ _ ?_
  clear hK K
  refine done_ (by kernel_rfl) ?_
  have hnb16 := NB173_174.out
  have hnc16 := NB174_173.out
  have hnb17 := NB173_175.out
  have hnc17 := NB175_173.out
  have hcz18_0 : w11.cell? ⟨gb173, 0, none⟩ = some (.int .u64 a0_0) := (blk_cell BK173.out 0).trans rfl
  have hcz18_1 : w11.cell? ⟨gb173, 1, none⟩ = some (.int .u64 a0_1) := (blk_cell BK173.out 1).trans rfl
  have hfz18_0 := blk_frozen BK173.out 0
  have hfz18_1 := blk_frozen BK173.out 1
  have hnb19 := NB174_175.out
  have hnc19 := NB175_174.out
  have hcz20_0 : w11.cell? ⟨gb174, 0, none⟩ = some (.int .u64 a1_0) := (blk_cell BK174.out 0).trans rfl
  have hcz20_1 : w11.cell? ⟨gb174, 1, none⟩ = some (.int .u64 a1_1) := (blk_cell BK174.out 1).trans rfl
  have hfz20_0 := blk_frozen BK174.out 0
  have hfz20_1 := blk_frozen BK174.out 1
  try go_wp2_with (first | ((with_reducible refine gate_callee (f := 61) rfl ?_); refine goesL_ (some 20) rfl rfl Try.func61 (by kernel_rfl) rfl #[.agg #[.int .u64 (Go.bits .xor .u64 t176 t178), .int .u64 (Go.bits .or .u64 t177 t179)]] rfl (by (try simp only [List.map_toArray, List.map_cons, List.map_nil]); first | done | rfl | (simp only [List.length_drop, List.length_take]; rfl)) ?_; (with_reducible refine (tnum_right.calls (Go.bits .xor .u64 t176 t178) (Go.bits .or .u64 t177 t179) t180 t181 _ A5.out).mono ?_); rintro e w21 ⟨rfl, hb⟩; refine ⟨_, rfl, ?_⟩; have n0_ := Aside0.mk (blk_below (g := gb173) (o := .cells #[.int .u64 t176, .int .u64 t177] 43 (0, 0)) (by (with_reducible repeat (first | refine blk_drewN ?_ _ | refine blk_drew ?_ | refine blk_alloc ?_ _)); refine blk_far ?_ NB173_174.out _; (with_reducible repeat (first | refine blk_drewN ?_ _ | refine blk_drew ?_ | refine blk_alloc ?_ _)); refine blk_far ?_ NB173_174.out _; (with_reducible repeat (first | refine blk_drewN ?_ _ | refine blk_drew ?_ | refine blk_alloc ?_ _)); refine blk_put (cs := #[.int .u64 t176, .int .u64 a0_1]) ?_ 1 _ rfl; (with_reducible repeat (first | refine blk_drewN ?_ _ | refine blk_drew ?_ | refine blk_alloc ?_ _)); refine blk_put (cs := #[.int .u64 a0_0, .int .u64 a0_1]) ?_ 0 _ rfl; (with_reducible repeat (first | refine blk_drewN ?_ _ | refine blk_drew ?_ | refine blk_alloc ?_ _)); exact BK173.out) hb); have n1_ := Aside0.mk (blk_below (g := gb174) (o := .cells #[.int .u64 t178, .int .u64 t179] 43 (0, 0)) (by (with_reducible repeat (first | refine blk_drewN ?_ _ | refine blk_drew ?_ | refine blk_alloc ?_ _)); refine blk_put (cs := #[.int .u64 t178, .int .u64 a1_1]) ?_ 1 _ rfl; (with_reducible repeat (first | refine blk_drewN ?_ _ | refine blk_drew ?_ | refine blk_alloc ?_ _)); refine blk_put (cs := #[.int .u64 a1_0, .int .u64 a1_1]) ?_ 0 _ rfl; (with_reducible repeat (first | refine blk_drewN ?_ _ | refine blk_drew ?_ | refine blk_alloc ?_ _)); refine blk_far ?_ NB174_173.out _; (with_reducible repeat (first | refine blk_drewN ?_ _ | refine blk_drew ?_ | refine blk_alloc ?_ _)); refine blk_far ?_ NB174_173.out _; (with_reducible repeat (first | refine blk_drewN ?_ _ | refine blk_drew ?_ | refine blk_alloc ?_ _)); exact BK174.out) hb); have n2_ := Aside0.mk (blk_below (g := gb175) (o := .cells #[.int .u64 0, .int .u64 0] 43 (0, 0)) (by (with_reducible repeat (first | refine blk_drewN ?_ _ | refine blk_drew ?_ | refine blk_alloc ?_ _)); refine blk_far ?_ NB175_174.out _; (with_reducible repeat (first | refine blk_drewN ?_ _ | refine blk_drew ?_ | refine blk_alloc ?_ _)); refine blk_far ?_ NB175_174.out _; (with_reducible repeat (first | refine blk_drewN ?_ _ | refine blk_drew ?_ | refine blk_alloc ?_ _)); refine blk_far ?_ NB175_173.out _; (with_reducible repeat (first | refine blk_drewN ?_ _ | refine blk_drew ?_ | refine blk_alloc ?_ _)); refine blk_far ?_ NB175_173.out _; (with_reducible repeat (first | refine blk_drewN ?_ _ | refine blk_drew ?_ | refine blk_alloc ?_ _)); exact BK175.out) hb); have n3_ := Aside0.mk (below_step (by repeat (first | (with_reducible first | exact HB.out | apply below_alloc | apply pw_below_drewN | apply below_drew1 | refine below_set ?_ GE173.out | refine below_set ?_ GE174.out | refine below_set ?_ GE175.out) | exact HB.out)) hb); clear BK173; clear BK174; clear BK175; clear HB; have BK173 := n0_; have BK174 := n1_; have BK175 := n2_; have HB := n3_; clear n0_ n1_ n2_ n3_; (try clear hb); (try clear hb2); (try clear hk); (try clear hi); have hcz22_0 : w21.cell? ⟨gb175, 0, none⟩ = some (.int .u64 0) := (blk_cell BK175.out 0).trans rfl; have hcz22_1 : w21.cell? ⟨gb175, 1, none⟩ = some (.int .u64 0) := (blk_cell BK175.out 1).trans rfl; have hfz22_0 := blk_frozen BK175.out 0; have hfz22_1 := blk_frozen BK175.out 1))
  refine bodyPost_ret (results_cell_row rfl _ _ gb175 43 #[.int .u64 t180, .int .u64 t181] (0, 0) _ rfl (by (with_reducible repeat (first | refine blk_drewN ?_ _ | refine blk_drew ?_ | refine blk_alloc ?_ _)); refine blk_put (cs := #[.int .u64 t180, .int .u64 0]) ?_ 1 _ rfl; (with_reducible repeat (first | refine blk_drewN ?_ _ | refine blk_drew ?_ | refine blk_alloc ?_ _)); refine blk_put (cs := #[.int .u64 0, .int .u64 0]) ?_ 0 _ rfl; (with_reducible repeat (first | refine blk_drewN ?_ _ | refine blk_drew ?_ | refine blk_alloc ?_ _)); exact BK175.out) Try.underlying43 rfl (by kernel_rfl)) rfl ?_
  exact ⟨by first | rfl | (simp [errW_none, errW_some] <;> rfl) | (simp [*, errW_none, errW_some] <;> rfl), by repeat (first | (with_reducible first | exact HB.out | apply below_alloc | apply pw_below_drewN | apply below_drew1 | refine below_set ?_ GE173.out | refine below_set ?_ GE174.out | refine below_set ?_ GE175.out) | exact HB.out)⟩

end Go.Proofs.Yteckjmejngieeaa.PTnumTwo
