/- Functions of the program that some laws reach, as Lean functions, and proofs that the program's calls come to what they say: written by a program, for the texts that import it; each theorem bears its own conditions. -/
import Derived.Test.YtgkdbhkbkpfbpaaPRingToldx0
namespace Go.Proofs.Ytgkdbhkbkpfbpaa.PRingTold
open Go.RowKit Go.Proofs.YtgkdbhkbkpfbpaaW.PrintWords Go.Proofs.YtgkdbhkbkpfbpaaW.PrintLast Go.Proofs.YtgkdbhkbkpfbpaaW.PrintMore
attribute [local go_sem] max2_int min2_int max_two min_two max_three min_three max_four min_four   -- for this text's walks alone
set_option linter.unusedVariables false
set_option linter.unusedSimpArgs false

/-! ### halberdlaw13_RingTold: function 5 -/
open Go.Proofs.Hp Go.Proofs.Ev Go.Proofs.Ar Go.Proofs.Rg
attribute [local go_sem] eql_slice_nil
section
variable {P : Program} {ops : Array Oper} {rest : List Oper} {o : Oper} {a : Act} {Q : Exit → Act → World → Prop} {w0 W : World} {L L' : Hl} {b : Nat}
/-- Cells are copied into a block of the list. -/
theorem rown_copy (HO : Own w0 W L) (hgd : o.guard = none) {d s : Operand} {dT sT elem : TypeId} (ho : o.op = .call { callee := .builtin .copy, args := #[d, s], argTypes := #[dT, sT] }) (hu : P.underlying dT = some (.slice elem)) (hsz : (P.info? elem).map (·.size) = some 1)
    {off dLen dCap sLen sCap : Nat} {ad : Addr} (hd : a.eval d = .slice (some ⟨b, off, none⟩) dLen dCap) (hs : a.eval s = .slice (some ad) sLen sCap) {vs : List Value} (hn : vs.length = Nat.min sLen dLen) (hsrc : ∀ j v, vs[j]? = some v → W.cell? (ad.add j) = some v) (h1 : ∀ v ∈ vs, v.oneCell' = true)
    {cs cs' : Array Value} {t : TypeId} (he : Ext L b (.cells cs t (0, 0)) L') (hfit : off + vs.length ≤ cs.size) (hc : putAt cs off vs = cs') (h : ∀ w1, Own w0 w1 ((b, .cells cs' t (0, 0)) :: L') → wpList P ops Q rest (a.put o.dst (goInt vs.length)) w1) : wpList P ops Q (o :: rest) a W := by
  have hth := HO.there he off vs.length hfit
  have hrun := run_copy_cells (P := P) W dT sT o.type elem b off dLen dCap ad sLen sCap vs hu hsz hn hsrc (fun j hj => (hth j hj).1) (fun j hj => (hth j hj).2) h1
  refine Kd.event_run hgd (w1 := W.setCells b off vs) (v := goInt vs.length) ?_ (h _ (HO.setCells he off vs hc))
  unfold execOp
  rw [ho]
  simp [resolve, invoke, Deferred.ofValue, builtin, hd, hs, hrun, Sem.run_bind, Result.andThen]
end
theorem _root_.Go.Proofs.Hp.Own.backmid {w0 W : World} {x a : Nat × Obj} {P Q L : Hl} (h : Own w0 W (x :: a :: ((P ++ Q) ++ L))) : Own w0 W (a :: ((P ++ x :: Q) ++ L)) := by
  refine h.perm ((List.Perm.swap _ _ _).trans (List.Perm.cons a ?_))
  exact (List.perm_middle (a := x) (l₁ := P) (l₂ := Q)).symm.append_right L
theorem record_has2 (w0 w : World) (L X : Hl) (gr : Nat) (room drops nxt : Int) (A : Option Addr) (n c : Nat) (R : List Rc) (i : Nat) (r : Rc) (gs gb cb : Nat) (cr cur : Array Value) (hP : ROpen X A n c R i r gs gb cb cr cur) (x : Int) (hf : rfind x R 0 = (i : Int)) (m : Nat) (hm : r.b.length = m) (hO : Own w0 w ((gr, .cells #[.int .i64 room, .int .i64 drops, .int .i64 nxt, .slice A n c] 133 (0, 0)) :: (X ++ L))) : Calls Try.prog 30 #[.pointer (some ⟨gr, 0, none⟩), .int .i64 x] w fun e w' => e = .returned (.tuple #[.slice (some ⟨gb, 0, none⟩) m m, .bool true]) ∧ Own w0 w' ((gr, .cells #[.int .i64 room, .int .i64 drops, .int .i64 nxt, .slice A n c] 133 (0, 0)) :: (X ++ L)) := by
  subst hm
  exact record_has w0 w L X gr room drops nxt A n c R i r gs gb cb cr cur hP x hf hO
theorem used_zero (w0 w : World) (L X : Hl) (gr : Nat) (room drops nxt : Int) (A : Option Addr) (n c : Nat) (R : List Rc) (hS : RSt X A n c R) (hu : used R = 0) (hO : Own w0 w ((gr, .cells #[.int .i64 room, .int .i64 drops, .int .i64 nxt, .slice A n c] 133 (0, 0)) :: (X ++ L))) : Calls Try.prog 32 #[.pointer (some ⟨gr, 0, none⟩)] w fun e w' => e = .returned (.int .i64 0) ∧ Own w0 w' ((gr, .cells #[.int .i64 room, .int .i64 drops, .int .i64 nxt, .slice A n c] 133 (0, 0)) :: (X ++ L)) := by
  have h := used_calls w0 w L X gr room drops nxt A n c R hS hO
  rw [hu] at h
  exact h
theorem told_facts {AR T1 : Hl} {V1 : List Value} {Av : Option Addr} {cv k : Nat} {r : Rc} (h1 : RowOf 51 2 AR (.slice Av k cv) k (tolds [r] V1)) (hk : k = ntold [r]) (hB : BSt T1 V1 [r]) (hs : r.st = 1) (hb : 1 ≤ r.b.length) :
    ∃ ga gd cd ca cc, Av = some ⟨ga, 0, none⟩ ∧ k = 1 ∧ AR = [(ga, .cells ca 51 (0, 0))] ∧ T1 = [(gd, .cells cc 5 (0, 0))] ∧ ca[0]? = some (.int .i64 r.ow) ∧ ca[1]? = some (.slice (some ⟨gd, 0, none⟩) r.b.length cd) ∧ RowOf 5 1 [(gd, .cells cc 5 (0, 0))] (.slice (some ⟨gd, 0, none⟩) r.b.length cd) r.b.length (r.b.map (Value.int .u8)) := by
  have hk1 : k = 1 := by rw [hk]; simp [ntold, hs]
  subst hk1
  generalize hRe : [r] = R1 at hB h1
  cases hB with
  | nil => cases hRe
  | @cons B T v V q Q hrow hrest =>
    simp only [List.cons.injEq] at hRe
    obtain ⟨rfl, rfl⟩ := hRe
    obtain ⟨rfl, rfl⟩ : T = [] ∧ V = [] := by cases hrest; exact ⟨rfl, rfl⟩
    simp only [tolds, hs, if_true] at h1
    obtain ⟨Ad, cd, rfl⟩ := RowOf.shape hrow
    obtain ⟨gd, cc, rfl, rfl, _⟩ := RowOf.setAt hrow hb
    obtain ⟨ga, ca, rfl, rfl, h3, h4, h5, h6, _⟩ := RowOf.setAt h1 (by decide)
    have e0 : (ca.toList.take (1 * 2))[0]? = some (Value.int .i64 r.ow) := by rw [h6]; rfl
    have e1 : (ca.toList.take (1 * 2))[1]? = some (Value.slice (some ⟨gd, 0, none⟩) r.b.length cd) := by rw [h6]; rfl
    rw [List.getElem?_take, if_pos (by decide)] at e0 e1
    refine ⟨ga, gd, cd, ca, cc, rfl, rfl, rfl, by simp, ?_, ?_, hrow⟩
    · rw [← Array.getElem?_toList]; exact e0
    · rw [← Array.getElem?_toList]; exact e1
set_option maxHeartbeats 8000000 in
set_option maxRecDepth 100000 in
theorem told_ok (w : World) (A0 : Option Addr) (c0 : Nat) (l0 : List Int) (m : Nat) (hl : l0.length = m) (a1 : Int) (hm : 1 ≤ m ∧ m ≤ 32) (hr0 : Kd.C (Kd.int .u8) w A0 l0.length l0) :
    Calls Try.prog 5 #[.slice A0 m c0, .int .u8 a1] w fun e w' => e = .returned (.bool true) ∧ Below w.heap.size w w' := by
  have hui := Try.underlying3
  have hul := Try.underlying32
  have hu8 := Try.underlying5
  have hur := Try.underlying135
  have hurs := Try.underlying131
  have hus := Try.underlying9
  obtain ⟨ad, hA0, _⟩ := Kd.at_int hr0 0 (by decide) (by omega)
  subst hA0
  have HL := Aside0.mk hl
  have HL1 : Aside0 (1 ≤ l0.length) := ⟨by omega⟩
  have HM := Aside0.mk hm
  have HDAT : Aside0 (Kd.C (Kd.int .u8) w (some ad) m l0) := ⟨by subst hl; exact hr0⟩
  have HSRC : Aside0 (∀ j v, (l0.map (Value.int .u8))[j]? = some v → w.cell? (ad.add j) = some v) := ⟨fun j v hj => by
    have hjl : j < l0.length := by
      rcases Nat.lt_or_ge j l0.length with h | h
      · exact h
      · rw [List.getElem?_eq_none (by simpa using h)] at hj; cases hj
    obtain ⟨ad', e, hc⟩ := Kd.at_int hr0 (j : Int) (by omega) (by omega)
    cases e
    rw [Int.toNat_natCast] at hc
    rw [hc]
    rw [List.getElem?_map, List.getElem?_eq_getElem hjl] at hj
    simp only [Option.map_some] at hj
    rw [← hj]
    simp [rd, List.getD_eq_getElem?_getD, List.getElem?_eq_getElem hjl]⟩
  have m1 : decide ((m : Int) < 1) = false := decide_eq_false (by omega)
  have m2 : decide (32 < (m : Int)) = false := decide_eq_false (by omega)
  have m1n : decide (m < 1) = false := decide_eq_false (by omega)
  have m2n : decide (32 < m) = false := decide_eq_false (by omega)
  have p1 : (0 < m) = True := eq_true (by omega)
  have p2 : ((0 : Int) < (m : Int)) = True := eq_true (by omega)
  have HO := Aside0.mk (Own.refl w)
  clear hm hr0 hl
  go_enter Try.func5, Try.ntmps5
  go_wp2_with (first | ((with_reducible refine gate_callee (f := 24) rfl ?_); (with_reducible refine gate_dst (N := 12) rfl ?_); refine goesL_ (some 12) rfl rfl Try.func24 (by kernel_rfl) rfl #[] rfl (by (try simp only [List.map_toArray, List.map_cons, List.map_nil]); first | done | rfl) ?_; (with_reducible refine (ring_alive _).mono ?_); rintro e wx ⟨rfl, hb⟩; refine ⟨_, rfl, ?_⟩; have hO_ := HO.out.below hb; clear hb; clear HO; have HO := Aside0.mk hO_; clear hO_) | ((with_reducible refine gate_callee (f := 25) rfl ?_); (with_reducible refine gate_dst (N := 23) rfl ?_); refine goesL_ (some 23) rfl rfl Try.func25 (by kernel_rfl) rfl #[.int .i64 256] rfl (by (try simp only [List.map_toArray, List.map_cons, List.map_nil]); first | done | rfl) ?_; (with_reducible refine (rnew_ok w _ [] 256 (by decide) HO.out).mono ?_); rintro e wx ⟨gr, rfl, hO_⟩; refine ⟨_, rfl, ?_⟩; clear HO; have HO := Aside0.mk hO_; clear hO_) | ((with_reducible refine gate_callee (f := 26) rfl ?_); (with_reducible refine gate_dst (N := 36) rfl ?_); refine goesL_ (some 36) rfl rfl Try.func26 (by kernel_rfl) rfl #[.pointer (some ⟨gr, 0, none⟩), .int .i64 7, .int .i64 (m : Int)] rfl (by (try simp only [List.map_toArray, List.map_cons, List.map_nil]); first | done | rfl) ?_; (with_reducible refine (reserve_ok2 w _ [] [] gr 256 0 0 none 0 0 [] RSt.nil 7 m HM.out (m : Int) rfl 1 rfl (by decide) (by have := HM.out; simp only [used]; omega) (by decide) HO.out).mono ?_); rintro e wx ⟨rfl, X2, A2, n2, c2, R2, hn2, hR2, hS2, hO_⟩; refine ⟨_, rfl, ?_⟩; have HR2 := Aside0.mk hR2; (obtain ⟨gs, gb, cb, cr, cur, hP⟩ := hS2.open (i := 0) (r := ⟨0, 7, 0, List.replicate m 0⟩) (by rw [hR2]; rfl) (by rw [List.length_replicate]; exact HM.out.1)); (obtain ⟨X1, Y1, hX1, hwr⟩ := hP.write); subst hX1; have HP := Aside0.mk hP; have HW := Aside0.mk hwr; clear hn2 hR2 hS2 hP hwr; (have HFIT : Aside0 (0 + (l0.map (Value.int .u8)).length ≤ cur.size) := ⟨by rw [List.length_map, HL.out, Nat.zero_add, HP.out.hcur]; have := HP.out.hcb; rw [List.length_replicate] at this; exact this⟩); (have HR2b : Aside0 (R2.set 0 { (⟨0, 7, 0, List.replicate m 0⟩ : Rc) with b := l0 } = [⟨0, 7, 0, l0⟩]) := ⟨by rw [HR2.out]; rfl⟩); (have HP2 := Aside0.mk (HW.out (putAt cur 0 (l0.map (Value.int .u8))) l0 (putAt_size _ _ _) (by rw [List.length_replicate]; exact HL.out) (by rw [List.length_replicate, putAt_list _ _ _ HFIT.out]; simp [HL.out]))); rw [HR2b.out] at HP2; clear HO; have HO := Aside0.mk hO_; clear hO_) | ((with_reducible refine gate_callee (f := 30) rfl ?_); (with_reducible refine gate_dst (N := 42) rfl ?_); refine goesL_ (some 42) rfl rfl Try.func30 (by kernel_rfl) rfl #[.pointer (some ⟨gr, 0, none⟩), .int .i64 0] rfl (by (try simp only [List.map_toArray, List.map_cons, List.map_nil]); first | done | rfl) ?_; (with_reducible refine (record_has2 w _ [] _ gr 256 0 1 A2 n2 c2 R2 0 ⟨0, 7, 0, List.replicate m 0⟩ gs gb cb cr cur HP.out 0 (by rw [HR2.out]; simp [rfind]) m (by simp) HO.out).mono ?_); rintro e wx ⟨rfl, hO_⟩; refine ⟨_, rfl, ?_⟩; clear HO; have HO := Aside0.mk hO_; clear hO_) | ((with_reducible refine gate_dst (N := 60) rfl ?_); refine rown_copy (elem := 5) (b := gb) (off := 0) (dLen := m) (dCap := m) (sLen := m) (sCap := c0) (ad := ad) (vs := l0.map (Value.int .u8)) HO.out rfl rfl hul (by kernel_rfl) (by rfl) (by rfl) (by rw [List.length_map, HL.out]; simp [Nat.min_def]) (fun j v hj => (HO.out.bel.cell (World.block_lt_of_cell? w _ (HSRC.out j v hj))).trans (HSRC.out j v hj)) (u8s_one _) (.tail (Ext.left [] (Ext.app .head X1))) HFIT.out rfl ?_; intro wc hO_; have hO_ := Own.backmid (P := X1) (Q := Y1) (L := []) hO_; clear HO; have HO := Aside0.mk hO_; clear hO_) | ((with_reducible refine gate_callee (f := 31) rfl ?_); (with_reducible refine gate_dst (N := 63) rfl ?_); refine goesL_ (some 63) rfl rfl Try.func31 (by kernel_rfl) rfl #[.pointer (some ⟨gr, 0, none⟩), .int .i64 0] rfl (by (try simp only [List.map_toArray, List.map_cons, List.map_nil]); first | done | rfl) ?_; (with_reducible refine (commit_has2 w _ [] _ gr 256 0 1 A2 n2 c2 [⟨0, 7, 0, l0⟩] 0 ⟨0, 7, 0, l0⟩ gs gb cb cr (putAt cur 0 (l0.map (Value.int .u8))) HP2.out 0 (by simp [rfind]) HO.out).mono ?_); rintro e wx ⟨rfl, X3, R3, hR3, hS3, hO_⟩; refine ⟨_, rfl, ?_⟩; (have HR3 : Aside0 (R3 = [⟨0, 7, 1, l0⟩]) := ⟨by rw [hR3]; rfl⟩); have HS3 := Aside0.mk hS3; clear hR3 hS3; (have HJ : Aside0 (0 < (putAt cur 0 (l0.map (Value.int .u8))).size) := ⟨by rw [putAt_size]; have := HFIT.out; rw [List.length_map, HL.out] at this; have := HM.out; omega⟩); clear HO; have HO := Aside0.mk hO_; clear hO_) | ((with_reducible refine gate_store (p := 67) rfl ?_); refine own_store HO.out rfl (ty := 5) (x := .tmp 67) (y := .tmp 66) (v := .int .u8 a1) (cs' := (putAt cur 0 (l0.map (Value.int .u8))).setIfInBounds 0 (.int .u8 a1)) rfl (by rfl) (by rfl) (.tail (Ext.app .head X3)) (by kernel_rfl) (by rfl) HJ.out rfl ?_; intro wc hO_; have hO_ := hO_.drop; have hO_ : Own w wc ((gr, .cells #[.int .i64 256, .int .i64 0, .int .i64 1, .slice A2 n2 c2] 133 (0, 0)) :: (X3 ++ [])) := hO_; clear HO; have HO := Aside0.mk hO_; clear hO_) | ((with_reducible refine gate_callee (f := 29) rfl ?_); (with_reducible refine gate_dst (N := 69) rfl ?_); refine goesL_ (some 69) rfl rfl Try.func29 (by kernel_rfl) rfl #[.pointer (some ⟨gr, 0, none⟩)] rfl (by (try simp only [List.map_toArray, List.map_cons, List.map_nil]); first | done | rfl) ?_; (with_reducible refine (drain_calls2 w _ [] X3 gr 256 0 1 A2 n2 c2 R3 HS3.out 1 (by rw [HR3.out]; simp [gone]) HO.out).mono ?_); rintro e wx ⟨Av, k4, cv, rfl, AR, X4, A4, n4, c4, R4, T1, V1, hA4, hk4, hB4, hR4, hS4, hO_⟩; refine ⟨_, rfl, ?_⟩; (rw [HR3.out] at hA4 hk4 hB4 hR4); (obtain ⟨ga, gd, cd, ca, cc, hAv, hk1, hAR, hT1, hca0, hca1, hrow⟩ := told_facts (r := ⟨0, 7, 1, l0⟩) hA4 hk4 hB4 rfl HL1.out); subst hAv; subst hk1; subst hAR; subst hT1; (have HR4 : Aside0 (used R4 = 0) := ⟨by rw [hR4]; rfl⟩); have HS4 := Aside0.mk hS4; have HROW := Aside0.mk hrow; (have HC0 : Aside0 (ca[0]? = some (.int .i64 7)) := ⟨hca0⟩); (have HC1 : Aside0 (ca[1]? = some (.slice (some ⟨gd, 0, none⟩) l0.length cd)) := ⟨hca1⟩); clear hA4 hk4 hB4 hR4 hS4 hca0 hca1 hrow; have hO_ := Own.swap3 (B := (gr, .cells #[.int .i64 256, .int .i64 0, .int .i64 1, .slice A4 n4 c4] 133 (0, 0)) :: X4) (R := [(ga, .cells ca 51 (0, 0)), (gd, .cells cc 5 (0, 0))]) (L := []) hO_; have hO_ : Own w wx ((ga, .cells ca 51 (0, 0)) :: (gd, .cells cc 5 (0, 0)) :: (gr, .cells #[.int .i64 256, .int .i64 0, .int .i64 1, .slice A4 n4 c4] 133 (0, 0)) :: (X4 ++ [])) := hO_; clear HO; have HO := Aside0.mk hO_; clear hO_))
  refine start_ (n := 26) (S := fun W => Own w W ((ga, .cells ca 51 (0, 0)) :: (gd, .cells cc 5 (0, 0)) :: [])) (ds := []) #[false, false, false, false, false, false, false, false, false, false, false, false, false, false, false, false, false, false, false, false, false, false, false, false, false, false] (by kernel_rfl) rfl rfl (Own.drew (HO.out.picks (.cons (by (repeat (first | exact .head | apply Ext.tail))) (.cons (by (repeat (first | exact .head | apply Ext.tail))) (.nil))))) (fun hHeld => ?_)
  have HO_ := Aside0.mk HO.out.drew
  clear HO
  have HO := HO_
  clear HO_
  generalize World.drew _ = wr at HO hHeld ⊢
  refine Hp.pu_ 0 70 (Hp.up 26 1) ?_
  refine Hp.pu_ 1 71 (Hp.up 26 2) ?_
  refine Hp.pu_ 2 72 (Hp.up 26 3) ?_
  refine Hp.pu_ 3 73 (Hp.up 26 4) ?_
  refine Hp.pu_ 4 74 (Hp.up 26 5) ?_
  refine Hp.pu_ 5 75 (Hp.up 26 6) ?_
  refine Hp.pu_ 6 76 (Hp.up 26 7) ?_
  refine take_ (i := 7) (N := some 77) (v := .int .i64 7) (a' := ?_) (Hp.up 26 8) rfl rfl (by kernel_rfl) (fun _ _ _ h => h) (own_yield1 (by rfl) (x := .tmp 76) rfl (by rfl) (.head) hui (by rfl) HC0.out) hHeld ?_ ?_
  rotate_left
  · simp only [Act.put, List.setIfInBounds_toArray, List.set_cons_zero, List.set_cons_succ, i64_w, i32_w]
    rfl
  refine Hp.pu_ 8 78 (Hp.up 26 9) ?_
  refine Hp.pu_ 9 79 (Hp.up 26 10) ?_
  refine Hp.pu_ 10 80 (Hp.up 26 11) ?_
  refine Hp.pu_ 11 81 (Hp.up 26 12) ?_
  refine Hp.pu_ 12 82 (Hp.up 26 13) ?_
  refine Hp.pu_ 13 83 (Hp.up 26 14) ?_
  refine take_ (i := 14) (N := some 84) (v := .slice (some ⟨gd, 0, none⟩) l0.length cd) (a' := ?_) (Hp.up 26 15) rfl rfl (by kernel_rfl) (fun _ _ _ h => h) (own_yield1 (by rfl) (x := .tmp 83) rfl (by rfl) (.head) hul (by rfl) HC1.out) hHeld ?_ ?_
  rotate_left
  · simp only [Act.put, List.setIfInBounds_toArray, List.set_cons_zero, List.set_cons_succ, i64_w, i32_w]
    rfl
  refine take_ (i := 15) (N := some 85) (v := .string (strOfNums l0)) (a' := ?_) (Hp.up 26 16) rfl rfl (by kernel_rfl) (fun _ _ _ h => h) (Or.inl ⟨by rfl, fun w' hS => exec_conv rfl (by rfl) (RowOf.string (P := Try.prog) (L := []) hul hu8 hus HROW.out hS.drop)⟩) hHeld ?_ ?_
  rotate_left
  · simp only [Act.put, List.setIfInBounds_toArray, List.set_cons_zero, List.set_cons_succ, i64_w, i32_w]
    rfl
  refine Hp.pu_ 16 86 (Hp.up 26 17) ?_
  refine take_ (i := 17) (N := some 87) (v := .string (strOfNums l0)) (a' := ?_) (Hp.up 26 18) rfl rfl (by kernel_rfl) (fun _ _ _ h => h) (Or.inl ⟨by rfl, fun w' hS => exec_conv rfl (by rfl) (Kd.C_string hul hu8 hus (Kd.C_below HDAT.out hS.bel))⟩) hHeld ?_ ?_
  rotate_left
  · simp only [Act.put, List.setIfInBounds_toArray, List.set_cons_zero, List.set_cons_succ, i64_w, i32_w]
    rfl
  refine Hp.pu_ 18 88 (Hp.up 26 19) ?_
  refine Hp.pu_ 19 89 (Hp.up 26 20) ?_
  refine Hp.pu_ 20 90 (Hp.up 26 21) ?_
  refine Hp.pu_ 21 91 (Hp.up 26 22) ?_
  refine one_ (i := 22) (N := some 92) (Hp.up 26 23) rfl rfl (by kernel_rfl) (by decide) (fun K hK => ?_)
  refine goes_ Try.func32 (by kernel_rfl) rfl #[.pointer (some ⟨gr, 0, none⟩)] (by rfl) rfl rfl (by (try simp only [List.map_toArray, List.map_cons, List.map_nil]); first | done | rfl) ?_
  have hQ_ : Own w _ ((gr, .cells #[.int .i64 256, .int .i64 0, .int .i64 1, .slice A4 n4 c4] 133 (0, 0)) :: (X4 ++ ([(ga, .cells ca 51 (0, 0)), (gd, .cells cc 5 (0, 0))] ++ []))) := Own.swap3 (B := [(ga, .cells ca 51 (0, 0)), (gd, .cells cc 5 (0, 0))]) (R := (gr, .cells #[.int .i64 256, .int .i64 0, .int .i64 1, .slice A4 n4 c4] 133 (0, 0)) :: X4) (L := []) HO.out
  refine (used_zero w _ _ X4 gr 256 0 1 A4 n4 c4 R4 HS4.out HR4.out hQ_).mono ?_
  rintro e wx2 ⟨rfl, hO_⟩
  refine ⟨_, rfl, ?_⟩
  have hO_ := Own.swap3 (B := (gr, .cells #[.int .i64 256, .int .i64 0, .int .i64 1, .slice A4 n4 c4] 133 (0, 0)) :: X4) (R := [(ga, .cells ca 51 (0, 0)), (gd, .cells cc 5 (0, 0))]) (L := []) hO_
  have hO_ : Own w wx2 ((ga, .cells ca 51 (0, 0)) :: (gd, .cells cc 5 (0, 0)) :: (gr, .cells #[.int .i64 256, .int .i64 0, .int .i64 1, .slice A4 n4 c4] 133 (0, 0)) :: (X4 ++ [])) := hO_
  clear hQ_
  clear HO; have HO := Aside0.mk hO_; clear hO_
  refine hK.out _ _ (HO.out.picks (.cons (by (repeat (first | exact .head | apply Ext.tail))) (.cons (by (repeat (first | exact .head | apply Ext.tail))) (.nil)))) (fun hHeld => ?_)
  clear hK K
  refine norm_ (a' := ?_) ?_ ?_
  rotate_left
  · show Act.put _ (some 92) _ = _
    simp only [Act.put, List.setIfInBounds_toArray, List.set_cons_zero, List.set_cons_succ, i64_w, i32_w]
    rfl
  refine Hp.pu_ 23 93 (Hp.up 26 24) ?_
  refine Hp.pu_ 24 94 (Hp.up 26 25) ?_
  refine Hp.pu_ 25 4 (Hp.up 26 26) ?_
  refine done_ (by kernel_rfl) ?_
  clear hHeld
  go_wp2
  go_ret
  exact ⟨rfl, HO.out.bel⟩
def halberdlaw13_RingTold.f (l0 : List Int) (a1 : Int) : Option Bool := some true
set_option maxHeartbeats 8000000 in
set_option maxRecDepth 100000 in
theorem halberdlaw13_RingTold.calls (A0 : Option Addr) (c0 : Nat) (l0 : List Int) (a1 : Int) (r : Bool) (w : World) (hr0 : Kd.C (Kd.int .u8) w A0 l0.length l0) (hc0 : l0.length ≤ c0) (hr_ : Aside0 (r = true)) (h : halberdlaw13_RingTold.f l0 a1 = some r) :
    Calls Try.prog 5 #[.slice A0 l0.length c0, .int .u8 a1] w fun e w' => e = .returned (.bool r) ∧ Below w.heap.size w w' := by
  obtain rfl := hr_.out
  clear h hr_
  by_cases hm : 1 ≤ l0.length ∧ l0.length ≤ 32
  · exact told_ok w A0 c0 l0 l0.length rfl a1 hm hr0
  · have HO := Aside0.mk (Own.refl w)
    generalize hn : l0.length = n at hm
    clear hr0 hc0 hn
    by_cases h1 : n < 1
    · have m1 : decide ((n : Int) < 1) = true := decide_eq_true (by omega)
      have m1n : decide (n < 1) = true := decide_eq_true h1
      clear hm h1
      go_enter Try.func5, Try.ntmps5
      go_wp2_with (first | ((with_reducible refine gate_callee (f := 24) rfl ?_); (with_reducible refine gate_dst (N := 12) rfl ?_); refine goesL_ (some 12) rfl rfl Try.func24 (by kernel_rfl) rfl #[] rfl (by (try simp only [List.map_toArray, List.map_cons, List.map_nil]); first | done | rfl) ?_; (with_reducible refine (ring_alive _).mono ?_); rintro e wx ⟨rfl, hb⟩; refine ⟨_, rfl, ?_⟩; have hO_ := HO.out.below hb; clear hb; clear HO; have HO := Aside0.mk hO_; clear hO_))
      go_ret
      exact ⟨rfl, HO.out.bel⟩
    · have m1 : decide ((n : Int) < 1) = false := decide_eq_false (by omega)
      have m1n : decide (n < 1) = false := decide_eq_false h1
      have m2 : decide (32 < (n : Int)) = true := decide_eq_true (by omega)
      have m2n : decide (32 < n) = true := decide_eq_true (by omega)
      clear hm h1
      go_enter Try.func5, Try.ntmps5
      go_wp2_with (first | ((with_reducible refine gate_callee (f := 24) rfl ?_); (with_reducible refine gate_dst (N := 12) rfl ?_); refine goesL_ (some 12) rfl rfl Try.func24 (by kernel_rfl) rfl #[] rfl (by (try simp only [List.map_toArray, List.map_cons, List.map_nil]); first | done | rfl) ?_; (with_reducible refine (ring_alive _).mono ?_); rintro e wx ⟨rfl, hb⟩; refine ⟨_, rfl, ?_⟩; have hO_ := HO.out.below hb; clear hb; clear HO; have HO := Aside0.mk hO_; clear hO_))
      go_ret
      exact ⟨rfl, HO.out.bel⟩

/-- THE ONE PURE STATEMENT of halberdlaw13_RingTold. -/
def halberdlaw13_RingTold.Pure : Prop := ∀ (l0 : List Int) (a1 : Int), (l0.length ≤ maxLen ∧ l0.length * 1 ≤ 140737488351232 ∧ ∀ y_ ∈ l0, (Lit.int .u8 y_).wf = true) → ((Lit.int .u8 a1).wf = true) → halberdlaw13_RingTold.f l0 a1 = some true

end Go.Proofs.Ytgkdbhkbkpfbpaa.PRingTold
