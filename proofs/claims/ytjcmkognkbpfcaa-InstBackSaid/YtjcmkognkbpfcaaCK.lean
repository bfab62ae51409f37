/- The contract of the closure that slices.Chunk hands out, at a row of bytes cut into eights: for every loop body that keeps what lay ahead. -/
import Derived.Test.YtjcmkognkbpfcaaFN
import Derived.Test.YtjcmkognkbpfcaaProg
set_option linter.unusedVariables false
set_option linter.unusedSimpArgs false
namespace Go.Proofs.Ck
open Go.RowKit Go.Proofs.Ev Go.Proofs.Hp Go.Proofs.YtjcmkognkbpfcaaW.PrintWords Go.Proofs.YtjcmkognkbpfcaaW.PrintLast Go.Proofs.YtjcmkognkbpfcaaW.PrintMore
attribute [local go_sem] max2_int min2_int max_two min_two max_three min_three max_four min_four eql_slice_nil
attribute [local go_sem] Oper.semAt_some
section
variable {P : Program} {ops : Array Oper} {rest : List Oper} {o : Oper} {a : Act} {W : World}
theorem exec_slicey {t e : TypeId} {x : Operand} {lo hi mx : Option Operand} {A : Option Addr} {n cap size : Nat} {l h m : Nat} (ho : o.op = .slice t x lo hi mx) (ht : P.underlying t = some (.slice e)) (hi' : (P.info? e).map (·.size) = some size)
    (hx : a.eval x = .slice A n cap) (hb : (Instr.sliceBounds true n cap (lo.map a.eval) (hi.map a.eval) (mx.map a.eval)).run P W = .ok (l, h, m) W) {v : Value} (hv : .slice (if m = l then A else A.map (·.add (l * size))) (h - l) (m - l) = v) :
    (execOp a.eval o).run P W = .ok (.value v) W := by
  subst hv
  have hel : P.elem t = e := by unfold Program.elem; rw [ht]
  have ht' : P.underlying t = some (.slice (P.elem t)) := by rw [hel]; exact ht
  obtain ⟨ti, ht1, ht2⟩ : ∃ ti, P.info? e = some ti ∧ ti.size = size := by
    cases hq : P.info? e with
    | none => rw [hq] at hi'; simp at hi'
    | some ti => exact ⟨ti, rfl, by rw [hq] at hi'; simpa using hi'⟩
  have hs : (sizeOf e).run P W = .ok size W := by
    have := run_sizeOf W ht1
    rw [this]
    simp [Program.cellsOf, ht1, ht2]
  have hrun : (Instr.sliceAt t (.slice A n cap) (lo.map a.eval) (hi.map a.eval) (mx.map a.eval)).run P W = .ok (.slice (if m = l then A else A.map (·.add (l * size))) (h - l) (m - l)) W := by
    rw [run_sliceAt_slice W t _ _ _ _ ht', run_slice_any W t A n cap ht', hb, hel]
    simp only [Result.andThen, hs, sliced]
  unfold execOp
  rw [ho]
  simp only [hx, hrun, Sem.run_bind, Result.andThen]
  rfl
theorem sbk_l {n cap : Nat} {k : IntKind} {l : Nat} (h2 : l ≤ n) : (Instr.sliceBounds true n cap (some (.int k (l : Int))) none none).run P W = .ok (l, n, cap) W := by
  simp [Instr.sliceBounds, run_sliceBound, *, (by omega : 0 ≤ (l : Int))]
theorem sbk_lhm {n cap : Nat} {k : IntKind} {l h : Nat} (h1 : l ≤ h) (h2 : h ≤ cap) : (Instr.sliceBounds true n cap (some (.int k (l : Int))) (some (.int k (h : Int))) (some (.int k (h : Int)))).run P W = .ok (l, h, h) W := by
  simp [Instr.sliceBounds, run_sliceBound, *, (by omega : 0 ≤ (l : Int)), (by omega : 0 ≤ (h : Int))]
theorem old_loadk {ty : TypeId} {x : Operand} {d : TypeDesc} (ho : o.op = .load ty x) {ad : Addr} {v : Value} (hx : a.eval x = .pointer (some ad)) (hu : P.underlying ty = some d) (hd : (match d with | .struct _ | .array _ _ => true | _ => false) = false) (hc : W.cell? ad = some v) : (execOp a.eval o).run P W = .ok (.value v) W := by
  unfold execOp
  rw [ho]
  simp only [hx, Instr.loadAt, Instr.sureAddr, Sem.run_bind, Sem.run_pure, Result.andThen_ok]
  unfold loadVar
  simp [Sem.run_bind, run_isAgg_plain hu hd, Result.andThen, hc]
end
/-- What comes ahead of a part comes with it. -/
theorem C_sub {k : IntKind} {w : World} {ad : Addr} {n : Nat} {xs : List Int} (h : Kd.C (Kd.int k) w (some ad) n xs) (i m : Nat) (him : i + m ≤ n) : Kd.C (Kd.int k) w (some (ad.add i)) m ((xs.drop i).take m) := by
  have h1 := Kd.reads_of_C (enc := Value.int k) (d := (0 : Int)) (h1 := fun _ => rfl) h
  refine Kd.C_of_reads (enc := Value.int k) (d := (0 : Int)) ⟨by rw [List.length_take, List.length_drop, h1.1]; omega, by have := h1.2.1; omega, fun hm => ⟨_, rfl, fun j hj => ?_⟩⟩
  obtain ⟨ad', e, hc⟩ := h1.2.2 (by omega)
  cases e
  have h2 := hc (i + j) (by omega)
  rw [Addr.add_add, h2]
  have e1 : ((xs.drop i).take m).getD j 0 = xs.getD (i + j) 0 := by
    rw [List.getD_eq_getElem?_getD, List.getElem?_take, if_pos hj, List.getElem?_drop, ← List.getD_eq_getElem?_getD]
  rw [e1]
set_option maxHeartbeats 8000000 in
set_option maxRecDepth 100000 in
theorem chunk_calls (w : World) (A : Option Addr) (m cap : Nat) : Calls Try.prog 10 #[.slice A m cap, .int .i64 8] w fun e w' => ∃ Bs Bn, e = .returned (.func (.func 15) #[] #[.pointer (some ⟨Bs, 0, none⟩), .pointer (some ⟨Bn, 0, none⟩)]) ∧ Hp.Own w w' [(Bn, .cells #[.int .i64 8] 3 (0, 0)), (Bs, .cells #[.slice A m cap] 22 (0, 0))] := by
  have hui := Try.underlying3
  have HO := Aside0.mk (Hp.Own.refl w)
  go_enter Try.func10, Try.ntmps10
  go_wp2_with (first | ((with_reducible refine gate_dst (N := 2) rfl ?_); refine own_box HO.out ?hg (N := 2) ?hd (cs := #[.slice A m cap]) (t := 22) ?hr ?_; (case hd => rfl); (case hg => rfl); (case hr => first | (go_simp; done) | (go_simp; rfl) | kernel_rfl); intro g2 w2 hO_; clear HO; have HO := Aside0.mk hO_; clear hO_) | ((with_reducible refine gate_dst (N := 3) rfl ?_); refine own_box HO.out ?hg (N := 3) ?hd (cs := #[.int .i64 8]) (t := 3) ?hr ?_; (case hd => rfl); (case hg => rfl); (case hr => first | (go_simp; done) | (go_simp; rfl) | kernel_rfl); intro g3 w3 hO_; clear HO; have HO := Aside0.mk hO_; clear hO_) | ((with_reducible refine gate_dst (N := 5) rfl ?_); refine own_load HO.out rfl (x := .tmp 3) (v := .int .i64 8) rfl (by rfl) (by (repeat (first | exact .head | apply Ext.tail))) hui (by rfl) (by rfl) ?_))
  go_ret
  exact ⟨g2, g3, rfl, HO.out⟩
/-- What a round keeps: the closure's two variables. -/
structure Keep2 (Bs Bn : Nat) (A B : World) : Prop where
  s : B.heap[Bs]? = A.heap[Bs]?
  n : B.heap[Bn]? = A.heap[Bn]?
theorem Keep2.trans {Bs Bn : Nat} {A B C : World} (h : Keep2 Bs Bn A B) (k : Keep2 Bs Bn B C) : Keep2 Bs Bn A C := ⟨k.s.trans h.s, k.n.trans h.n⟩
theorem Keep2.b {Bs Bn : Nat} {w : World} (h1 : Bs < w.heap.size) (h2 : Bn < w.heap.size) (W : World) (l : Nat) (o o' : Obj) (hl : w.heap.size ≤ l) (_ : W.heap[l]? = some o) (_ : o.isCells = false) (_ : o.isWalk = false) : Keep2 Bs Bn W (W.putObj l o') :=
  ⟨World.putObj_heap_other (by omega), World.putObj_heap_other (by omega)⟩
theorem chunk_facts {q k m k8 k9 : Nat} (hm : m = 8 * q) (hk : k < q) (hk8 : k8 = 8 * k) (hk9 : k9 = k8 + 8) {ad : Addr} {cap : Nat} (hcap : m ≤ cap) : (Value.slice (if k9 = k8 then some ad else (some ad).map (·.add (k8 * 1))) (k9 - k8) (k9 - k8) = .slice (some (ad.add k8)) 8 8) ∧ k8 ≤ k9 ∧ k9 ≤ cap := by
  refine ⟨?_, by omega, by omega⟩
  rw [if_neg (by omega), hk9, Nat.add_sub_cancel_left, Nat.mul_one]
  rfl
theorem wk_of {x y : Int} (h : x = y) (hb : -1000000 ≤ y ∧ y ≤ 1000000) : Aside0 (IntKind.i64.wrap x = y ∧ wrap64 x = y) := by
  subst h
  have h1 : IntKind.i64.wrap x = x := IntWalk.i64_in _ (by omega)
  exact ⟨h1, (i64_w _).symm.trans h1⟩
set_option maxHeartbeats 8000000 in
set_option maxRecDepth 100000 in
theorem chunk1_in (n : Nat) (hn : 1 ≤ n) (l Bs Bn : Nat) (ad : Addr) (b₀ q m cap : Nat) (hm : m = 8 * q) (hcap : m ≤ cap) (hq : q ≤ 64) (J Jx : List (Fin q) → World → Prop) (hJA : AbidesFrom b₀ J)
    (hY : ∀ pre x W, J pre W → pre.length < q → YieldAt Fence.wide (n - 1) Try.prog l #[.slice (some (ad.add (8 * x.val))) 8 8] W fun e W' => (e = .returned (.bool true) ∧ J (pre ++ [x]) W' ∧ Keep2 Bs Bn W W') ∨ (e = .returned (.bool false) ∧ Jx (pre ++ [x]) W'))
    (W : World) (hBs : W.cell? ⟨Bs, 0, none⟩ = some (.slice (some ad) m cap)) (hBn : W.cell? ⟨Bn, 0, none⟩ = some (.int .i64 8)) (h0 : J [] W) :
    CallsIn Fence.wide n Try.prog 15 #[.func (.yield l) #[] #[], .pointer (some ⟨Bs, 0, none⟩), .pointer (some ⟨Bn, 0, none⟩)] W fun e W' => (∃ v, e = .returned v) ∧ ((∃ ys : List (Fin q), ys.map (·.val) = List.range q ∧ J ys W') ∨ (∃ pre, True ∧ Jx pre W')) := by
  have hui := Try.underlying3
  have hul := Try.underlying22
  have HY := Aside0.mk hY
  have HJA := Aside0.mk hJA
  have HQ := Aside0.mk hq
  have HM := Aside0.mk hm
  have HCAP := Aside0.mk hcap
  have HC1 := Aside0.mk hBs
  have HC2 := Aside0.mk hBn
  have HJ0 := Aside0.mk h0
  clear hY hJA hq hm hcap hBs hBn h0
  refine callsIn_of_wp Try.func15 rfl trivial ?_ rfl
  simp only [Try.ntmps15, List.size_toArray, List.length_cons, List.length_nil, Nat.reduceAdd, Nat.reduceSub, Array.replicate_succ, Array.replicate_zero, List.push_toArray, List.append_toArray, List.nil_append, List.cons_append]
  gi_wp2
  gi_loopw [4] (fun i wr => ∃ (k : Nat) (ys : List (Fin q)), i = .int .i64 ((8 * k : Nat) : Int) ∧ Aside0 (k ≤ q ∧ ys.map (·.val) = List.range k ∧ J ys wr ∧ Keep2 Bs Bn W wr)) (fun i _ => 8 * q + 8 - (intOf i).toNat)
  case atStart => exact ⟨0, [], rfl, ⟨Nat.zero_le _, rfl, HJ0.out, ⟨rfl, rfl⟩⟩⟩
  case round =>
    obtain ⟨k, ys, rfl, HR⟩ := hrel
    have hcs := (World.cell?_of_block (a := ⟨Bs, 0, none⟩) HR.out.2.2.2.s).trans HC1.out
    have hcn := (World.cell?_of_block (a := ⟨Bn, 0, none⟩) HR.out.2.2.2.n).trans HC2.out
    obtain ⟨k8, hk8⟩ : ∃ k8 : Nat, k8 = 8 * k := ⟨_, rfl⟩
    have HK8 := Aside0.mk hk8
    rw [← hk8]
    by_cases hlt : k < q
    · have HLT := Aside0.mk hlt
      have c1 : decide ((k8 : Int) < (m : Int)) = true := decide_eq_true (by have := HM.out; omega)
      have c1n : decide (k8 < m) = true := decide_eq_true (by have := HM.out; omega)
      obtain ⟨k9, hk9⟩ : ∃ k9 : Nat, k9 = k8 + 8 := ⟨_, rfl⟩
      have HCF := Aside0.mk (chunk_facts HM.out hlt hk8 hk9 (ad := ad) HCAP.out)
      have HW := wk_of (x := (k8 : Int) + 8) (y := (k9 : Int)) (by omega) (by have := HQ.out; omega)
      have HK9 : Aside0 (k9 = 8 * (k + 1)) := ⟨by omega⟩
      clear hk9
      obtain ⟨x, hx⟩ : ∃ x : Fin q, x.val = k := ⟨⟨k, hlt⟩, rfl⟩
      have HX := Aside0.mk hx
      obtain ⟨r, hr⟩ : ∃ r : Nat, r = m - k8 := ⟨_, rfl⟩
      obtain ⟨c1_, hc1_⟩ : ∃ c1_ : Nat, c1_ = cap - k8 := ⟨_, rfl⟩
      have HSV : Aside0 (∃ A', Value.slice (if cap = k8 then some ad else (some ad).map (·.add (k8 * 1))) (m - k8) (cap - k8) = .slice A' r c1_) := ⟨⟨_, by rw [hr, hc1_]⟩⟩
      have HK8M : Aside0 (k8 ≤ m) := ⟨by have := HM.out; omega⟩
      have HMN : Aside0 ((8 : Int) ≤ (r : Int)) := ⟨by have := HM.out; omega⟩
      obtain ⟨A', hA'⟩ := HSV.out
      have HSV2 := Aside0.mk hA'
      clear hk8 hlt hr hc1_ hA' HSV
      gi_wp2
      refine start_w (m := 7) (S := fun W' => W'.cell? ⟨Bs, 0, none⟩ = some (.slice (some ad) m cap) ∧ W'.cell? ⟨Bn, 0, none⟩ = some (.int .i64 8)) (ds := []) #[false, false, false, false, false, false, false] (by kernel_rfl) (by rintro ⟨a, w, ⟨v, hv⟩, _⟩; cases hv) (by kernel_rfl) rfl rfl ⟨hcs, hcn⟩ (fun hHeld => ?_)
      have HRQ : Aside0 (J ys wr.drew ∧ Keep2 Bs Bn W wr.drew) := ⟨HJA.out _ _ _ none HR.out.2.2.1 ⟨rfl, rfl, rfl, Nat.le_refl _, fun _ _ _ => rfl⟩ (fun r e => by cases e), HR.out.2.2.2.trans ⟨rfl, rfl⟩⟩
      generalize World.drew wr = wq at hHeld HRQ ⊢
      clear hcs hcn
      refine take_ (i := 0) (N := some 13) (v := .int .i64 8) (a' := ?_) (Hp.up 7 1) rfl rfl (by kernel_rfl) (fun _ _ _ h => h) (Or.inl ⟨by rfl, fun w' hS => old_loadk rfl (by rfl) hui rfl hS.2⟩) hHeld ?_ ?_
      rotate_left
      · simp only [Act.put, List.setIfInBounds_toArray, List.set_cons_zero, List.set_cons_succ, i64_w, i32_w]
        rfl
      refine take_ (i := 1) (N := some 14) (v := .slice (some ad) m cap) (a' := ?_) (Hp.up 7 2) rfl rfl (by kernel_rfl) (fun _ _ _ h => h) (Or.inl ⟨by rfl, fun w' hS => old_loadk rfl (by rfl) hul rfl hS.1⟩) hHeld ?_ ?_
      rotate_left
      · simp only [Act.put, List.setIfInBounds_toArray, List.set_cons_zero, List.set_cons_succ, i64_w, i32_w]
        rfl
      refine Hp.pu_ 2 15 (Hp.up 7 3) ?_
      refine pure_ (i := 3) (N := some 16) (v := .slice A' r c1_) (a' := ?_) (Hp.up 7 4) rfl rfl (by kernel_rfl) (fun _ _ _ h => h) (Or.inl ⟨by rfl, fun w' => exec_slicey (size := 1) (l := k8) (h := m) (m := cap) rfl hul (by kernel_rfl) (by rfl) (sbk_l HK8M.out) HSV2.out⟩) ?_ ?_
      rotate_left
      · simp only [Act.put, List.setIfInBounds_toArray, List.set_cons_zero, List.set_cons_succ, i64_w, i32_w]
        rfl
      refine Hp.pu_ 4 17 (Hp.up 7 5) ?_
      refine Hp.pu_ 5 18 (Hp.up 7 6) ?_
      refine Hp.pu_ 6 5 (Hp.up 7 7) ?_
      refine done_ (by kernel_rfl) ?_
      obtain ⟨hcs, hcn⟩ := hHeld
      rw [if_neg (Int.not_lt.mpr HMN.out)]
      obtain ⟨fn, tmps, assign, body, hy, hR⟩ := HY.out ys x wq HRQ.out.1 (by have e := congrArg List.length HR.out.2.1; rw [List.length_map, List.length_range] at e; have := HLT.out; omega)
      rw [HX.out, ← HK8.out] at hy
      have hw1 := HW.out.1
      have hw2 := HW.out.2
      gi_wp2_with (refine eventIn_run (v := .slice (some (ad.add k8)) 8 8) rfl rfl (by rfl) (exec_slicey (size := 1) (l := k8) (h := k9) (m := k9) rfl hul (by kernel_rfl) (by rfl) (sbk_lhm HCF.out.2.1 HCF.out.2.2) HCF.out.1) ?_)
      refine hR.mono ?_
      rintro e W3 (⟨rfl, hJ3, hk3⟩ | ⟨rfl, hJx3⟩)
      · have hcn3 := (World.cell?_of_block (a := ⟨Bn, 0, none⟩) hk3.n).trans hcn
        clear hcs hcn
        gi_wp2
        go_roundw
        case rel => exact ⟨k + 1, ys ++ [x], by rw [← HK9.out], ⟨by have := HLT.out; omega, by rw [List.map_append, HR.out.2.1, List.range_succ]; simp [HX.out], hJ3, HRQ.out.2.trans hk3⟩⟩
        case measure => simp [intOf]; have := HLT.out; have := HK8.out; have := HK9.out; omega
      · gi_wp2
        refine bodyPost_ret (results_none rfl _ _ _) rfl ?_
        exact ⟨⟨_, rfl⟩, .inr ⟨_, trivial, hJx3⟩⟩
    · obtain rfl : k = q := by have := HR.out.1; omega
      have c1 : decide ((k8 : Int) < (m : Int)) = false := decide_eq_false (by have := HM.out; omega)
      have c1n : decide (k8 < m) = false := decide_eq_false (by have := HM.out; omega)
      clear hk8
      gi_wp2
      go_end0
      exact ⟨⟨_, rfl⟩, .inl ⟨ys, HR.out.2.1, HR.out.2.2.1⟩⟩
theorem chunk_stops (n : Nat) (hn : 1 ≤ n) (Bs Bn : Nat) (ad : Addr) (q m cap : Nat) (hm : m = 8 * q) (hcap : m ≤ cap) (hq : q ≤ 64) (w : World) (hbs : Bs < w.heap.size) (hbn : Bn < w.heap.size) (hBs : w.cell? ⟨Bs, 0, none⟩ = some (.slice (some ad) m cap)) (hBn : w.cell? ⟨Bn, 0, none⟩ = some (.int .i64 8)) :
    SeqStopsK Fence.wide n Try.prog 15 #[.pointer (some ⟨Bs, 0, none⟩), .pointer (some ⟨Bn, 0, none⟩)] (fun x : Fin q => #[.slice (some (ad.add (8 * x.val))) 8 8]) (Keep2 Bs Bn) (fun ys => ys.map (·.val) = List.range q) (fun _ => True) q w := fun l J Jx W hW hJ hJx hY h0 =>
  chunk1_in n hn l Bs Bn ad W.heap.size q m cap hm hcap hq J Jx hJ hY W ((hW.cell (p := ⟨Bs, 0, none⟩) hbs).trans hBs) ((hW.cell (p := ⟨Bn, 0, none⟩) hbn).trans hBn) h0
end Go.Proofs.Ck
