/- Contracts of the storage's methods (local.Local), the second half: New, Bytes, slices.Delete, Drop. -/
import Derived.Test.YtgkdbhkbkpfbpaaLC
set_option linter.unusedVariables false
set_option linter.unusedSimpArgs false
namespace Go.Proofs.Lc
open Go.RowKit Go.Proofs.Ev Go.Proofs.Hp Go.Proofs.Ar Go.Proofs.YtgkdbhkbkpfbpaaW.PrintWords Go.Proofs.YtgkdbhkbkpfbpaaW.PrintLast Go.Proofs.YtgkdbhkbkpfbpaaW.PrintMore
attribute [local go_sem] max2_int min2_int max_two min_two max_three min_three max_four min_four eql_slice_nil
section
variable {P : Program} {ops : Array Oper} {rest : List Oper} {o : Oper} {a : Act} {Q : Exit → Act → World → Prop} {w0 W : World} {L L' : Hl} {b : Nat}
theorem exec_slicex {t e : TypeId} {x : Operand} {lo hi mx : Option Operand} {A : Option Addr} {n cap size : Nat} {l h m : Nat} (ho : o.op = .slice t x lo hi mx) (ht : P.underlying t = some (.slice e)) (hi' : (P.info? e).map (·.size) = some size)
    (hx : a.eval x = .slice A n cap) (hb : (Instr.sliceBounds true n cap (lo.map a.eval) (hi.map a.eval) (mx.map a.eval)).run P W = .ok (l, h, m) W) {v : Value} (hv : .slice (if m = l then A else A.map (·.add (l * size))) (h - l) (m - l) = v) :
    (execOp a.eval o).run P W = .ok (.value v) W := by
  subst hv
  have hel : P.elem t = e := by unfold Program.elem; rw [ht]
  have ht' : P.underlying t = some (.slice (P.elem t)) := by rw [hel]; exact ht
  obtain ⟨ti, ht1, ht2⟩ : ∃ ti, P.info? e = some ti ∧ ti.size = size := by
    cases hq : P.info? e with
    | none => rw [hq] at hi'; simp at hi'
    | some ti => exact ⟨ti, rfl, by rw [hq] at hi'; simpa using hi'⟩
  have hs : (sizeOf e).run P W = .ok size W := by
    have := run_sizeOf W ht1
    rw [this]
    simp [Program.cellsOf, ht1, ht2]
  have hrun : (Instr.sliceAt t (.slice A n cap) (lo.map a.eval) (hi.map a.eval) (mx.map a.eval)).run P W = .ok (.slice (if m = l then A else A.map (·.add (l * size))) (h - l) (m - l)) W := by
    rw [run_sliceAt_slice W t _ _ _ _ ht', run_slice_any W t A n cap ht', hb, hel]
    simp only [Result.andThen, hs, sliced]
  unfold execOp
  rw [ho]
  simp only [hx, hrun, Sem.run_bind, Result.andThen]
  rfl
theorem sb_h {n cap : Nat} {k : IntKind} {h : Nat} (h2 : h ≤ cap) : (Instr.sliceBounds true n cap none (some (.int k (h : Int))) none).run P W = .ok (0, h, cap) W := by
  simp [Instr.sliceBounds, run_sliceBound, *, (by omega : 0 ≤ (h : Int))]
theorem sb_l {n cap : Nat} {k : IntKind} {l : Nat} (h2 : l ≤ n) : (Instr.sliceBounds true n cap (some (.int k (l : Int))) none none).run P W = .ok (l, n, cap) W := by
  simp [Instr.sliceBounds, run_sliceBound, *, (by omega : 0 ≤ (l : Int))]
theorem sb_lh {n cap : Nat} {k k' : IntKind} {l h : Nat} (h1 : l ≤ h) (h2 : h ≤ cap) : (Instr.sliceBounds true n cap (some (.int k (l : Int))) (some (.int k' (h : Int))) none).run P W = .ok (l, h, cap) W := by
  simp [Instr.sliceBounds, run_sliceBound, *, (by omega : 0 ≤ (l : Int)), (by omega : 0 ≤ (h : Int))]
/-- append into a block of the list that has room. -/
theorem own_put_k {Kc : Act → World → Prop} (HO : Own w0 W L) (hw : Region.wanted o (yielded ops a.tmps) = true) {N : Tmp} (hN : o.dst = some N) {s x : Operand} {t tx : TypeId} (ho : o.op = .call { callee := .builtin .append, args := #[s, x], argTypes := #[t, tx] })
    {e : TypeId} {size : Nat} (ht : P.underlying t = some (.slice e)) (hin : (P.info? e).map (·.size) = some size) {sLen sCap : Nat} {cs cs' : Array Value} {tt : TypeId} (hs : a.eval s = .slice (some ⟨b, 0, none⟩) sLen sCap) {xv : Value} (hx : a.eval x = xv) {m : Nat} {news : List Value} (hsrc : Src P size tx xv m news W)
    (hroom : sLen + m ≤ sCap) (he : Ext L b (.cells cs tt (0, 0)) L') (hfit : sLen * size + news.length ≤ cs.size) (hc : putAt cs (sLen * size) news = cs') {l2 : Nat} (hl2 : sLen + m = l2)
    (h : ∀ w1, Own w0 w1 ((b, .cells cs' tt (0, 0)) :: L') → Kc (a.put (some N) (.slice (some ⟨b, 0, none⟩) l2 sCap)) w1) : if Region.wanted o (yielded ops a.tmps) = true then Oper.wp P o a W Kc Q else Kc (a.put (some N) undef) W := by
  subst hl2
  obtain ⟨ti, hi, hsz⟩ : ∃ ti, P.info? e = some ti ∧ ti.size = size := by
    cases hq : P.info? e with
    | none => rw [hq] at hin; simp at hin
    | some ti => exact ⟨ti, rfl, by rw [hq] at hin; simpa using hin⟩
  subst hsz
  have hth := HO.there he (sLen * ti.size) news.length hfit
  have hrun := run_append_room_src (P := P) W t tx o.type e ti ht hi b 0 sLen sCap xv m news hsrc hroom (fun j hj => by rw [Nat.zero_add]; exact (hth j hj).1) (fun j hj => by rw [Nat.zero_add]; exact (hth j hj).2)
  rw [Nat.zero_add] at hrun
  have hrun2 : (execOp a.eval o).run P W = .ok (.value (.slice (some ⟨b, 0, none⟩) (sLen + m) sCap)) (W.setCells b (sLen * ti.size) news) := by
    unfold execOp
    rw [ho]
    simp [resolve, invoke, Deferred.ofValue, builtin, hs, hx, hrun, Sem.run_bind, Result.andThen]
  rw [← hN] at h ⊢
  exact event_step hw hrun2 (h _ (HO.setCells he _ _ hc))
/-- clear of one element of two cells. -/
theorem own_clear2 (HO : Own w0 W L) (hgd : o.guard = none) {x : Operand} {t e : TypeId} (ho : o.op = .call { callee := .builtin .clear, args := #[x], argTypes := #[t] }) (ht : P.underlying t = some (.slice e)) {z u1 u2 : Value} (hz : (P.info? e).map (·.zero) = some (some z)) (hzc : z.cells = #[u1, u2]) (h1 : u1.oneCell' = true) (h2 : u2.oneCell' = true)
    {off n c : Nat} (hn : n = 1) (hx : a.eval x = .slice (some ⟨b, off, none⟩) n c) {cs cs' : Array Value} {tt : TypeId} (he : Ext L b (.cells cs tt (0, 0)) L') (hfit : off + 2 ≤ cs.size) (hc : putAt cs off [u1, u2] = cs')
    (h : ∀ w1, Own w0 w1 ((b, .cells cs' tt (0, 0)) :: L') → wpList P ops Q rest (a.put o.dst (.tuple #[])) w1) : wpList P ops Q (o :: rest) a W := by
  subst hn
  have hth := HO.there he off 2 hfit
  obtain ⟨ti, hi, hzi⟩ : ∃ ti, P.info? e = some ti ∧ ti.zero = some z := by
    cases hq : P.info? e with
    | none => rw [hq] at hz; simp at hz
    | some ti => exact ⟨ti, rfl, by rw [hq] at hz; simpa using hz⟩
  have hzv : (zeroValue e).run P W = .ok z W := by simp [zeroValue, typeInfo, hi, hzi]
  have hst := run_storeCells_cells (P := P) b off [u1, u2] 0 W (by intro j hj; simpa using (hth j hj).1) (by intro j hj; simpa using (hth j hj).2) (by intro v hv; simp at hv; rcases hv with rfl | rfl <;> assumption)
  simp only [Nat.add_zero] at hst
  have hzz : (Builtin.zeroCells #[u1, u2] 1).toList = [u1, u2] := by simp [Builtin.zeroCells, List.range_succ]
  have hrun : (Builtin.clear_ #[t] o.type #[.slice (some ⟨b, off, none⟩) 1 c]).run P W = .ok (.tuple #[]) (W.setCells b off [u1, u2]) := by
    simp [Builtin.clear_, run_underlying ht, hzv, hzc, hzz, hst]
  refine Kd.event_run hgd (w1 := W.setCells b off [u1, u2]) (v := .tuple #[]) ?_ (h _ (HO.setCells he off _ hc))
  unfold execOp
  rw [ho]
  simp [resolve, invoke, Deferred.ofValue, builtin, hx, hrun, Sem.run_bind, Result.andThen]
end
theorem kcells_drop : ∀ (K : List (Int × Int)) (j : Nat), kcells (K.drop j) = (kcells K).drop (j * 2)
  | [], j => by simp [kcells]
  | k :: K, 0 => by simp
  | k :: K, j + 1 => by
    have e : (j + 1) * 2 = j * 2 + 1 + 1 := by omega
    rw [e]
    simp only [List.drop_succ_cons, kcells]
    exact kcells_drop K j
theorem kcells_take : ∀ (K : List (Int × Int)) (j : Nat), kcells (K.take j) = (kcells K).take (j * 2)
  | [], j => by simp [kcells]
  | k :: K, 0 => by simp [kcells]
  | k :: K, j + 1 => by
    have e : (j + 1) * 2 = j * 2 + 1 + 1 := by omega
    rw [e]
    simp only [List.take_succ_cons, kcells]
    rw [kcells_take K j]
theorem del_cells {cur : Array Value} {K : List (Int × Int)} {n c k k1 n1 m : Nat} (h1 : cur.size = c * 2) (h2 : cur.toList.take (n * 2) = kcells K) (hK : K.length = n) (hc : n ≤ c) (hk1 : k1 = k + 1) (hn1 : n1 + 1 = n) (hk : k < n) (hm : k + m = n1) :
    (kcells (K.drop k1)).length = m * 2 ∧ k * 2 + (kcells (K.drop k1)).length ≤ cur.size ∧ ((cur.toList.drop (k1 * 2)).take (m * 2) = kcells (K.drop k1)) ∧ n1 * 2 + 2 ≤ (putAt cur (k * 2) (kcells (K.drop k1))).size ∧
    (putAt (putAt cur (k * 2) (kcells (K.drop k1))) (n1 * 2) [.int .i64 0, .int .i64 0]).size = c * 2 ∧ (putAt (putAt cur (k * 2) (kcells (K.drop k1))) (n1 * 2) [.int .i64 0, .int .i64 0]).toList.take (n1 * 2) = kcells (K.eraseIdx k) := by
  have hl : (kcells (K.drop k1)).length = m * 2 := by rw [kcells_len, List.length_drop, hK]; congr 1; omega
  have hf : k * 2 + (kcells (K.drop k1)).length ≤ cur.size := by rw [hl, h1]; omega
  have hs1 : (putAt cur (k * 2) (kcells (K.drop k1))).size = c * 2 := by rw [putAt_size, h1]
  have hf2 : n1 * 2 + 2 ≤ (putAt cur (k * 2) (kcells (K.drop k1))).size := by rw [hs1]; omega
  refine ⟨hl, hf, ?_, hf2, by rw [putAt_size, hs1], ?_⟩
  · rw [kcells_drop, ← h2, List.drop_take]
    congr 1
    omega
  · have hlen : (putAt cur (k * 2) (kcells (K.drop k1))).toList.length = c * 2 := by rw [Array.length_toList, hs1]
    rw [putAt_list [.int .i64 0, .int .i64 0] _ _ hf2, List.take_append_of_le_length (by rw [List.length_take, hlen]; omega), List.take_take, Nat.min_self, putAt_list _ _ _ hf]
    have ht : (cur.toList.take (k * 2)).length = k * 2 := by rw [List.length_take, Array.length_toList, h1]; omega
    rw [← List.append_assoc, List.take_append_of_le_length (by rw [List.length_append, ht, hl]; omega), List.take_of_length_le (by rw [List.length_append, ht, hl]; omega)]
    rw [List.eraseIdx_eq_take_drop_succ, kcells_app, kcells_take, ← hk1, ← h2, List.take_take]
    congr 2
    omega
set_option maxHeartbeats 8000000 in
set_option maxRecDepth 100000 in
theorem delete_blk (w0 w : World) (L : Hl) (g n c k k1 n1 m off c1 : Nat) (cur : Array Value) (Ks : List (Int × Int)) (hKC : k ≤ c) (hKN : k1 ≤ n) (hNC : n ≤ c) (hKK : k < k1) (hN1 : n1 + 1 = n) (hk1 : k1 = k + 1)
    (hv25 : Value.slice (if c = k1 then some ⟨g, 0, none⟩ else (some (⟨g, 0, none⟩ : Addr)).map (·.add (k1 * 2))) (n - k1) (c - k1) = .slice (some ⟨g, off, none⟩) m c1) (hsv : (cur.toList.drop off).take (kcells (Ks.drop k1)).length = (kcells (Ks.drop k1))) (hsl : (kcells (Ks.drop k1)).length = m * 2) (hm : k + m = n1) (hft : k * 2 + (kcells (Ks.drop k1)).length ≤ cur.size) (hf2 : n1 * 2 + 2 ≤ (putAt cur (k * 2) (kcells (Ks.drop k1))).size)
    (hO : Own w0 w ((g, .cells cur 54 (0, 0)) :: L)) :
    Calls Try.prog 81 #[.slice (some ⟨g, 0, none⟩) n c, .int .i64 (k : Int), .int .i64 (k1 : Int)] w fun e w' => e = .returned (.slice (some ⟨g, 0, none⟩) n1 c) ∧ Own w0 w' ((g, .cells (putAt (putAt cur (k * 2) (kcells (Ks.drop k1))) (n1 * 2) [.int .i64 0, .int .i64 0]) 54 (0, 0)) :: L) := by
  have huks := Try.underlying89
  have HKC := Aside0.mk hKC
  have HKN := Aside0.mk hKN
  have HNC := Aside0.mk hNC
  have HV22 : Aside0 (Value.slice (if c = 0 then some ⟨g, 0, none⟩ else (some (⟨g, 0, none⟩ : Addr)).map (·.add (0 * 2))) (k - 0) (c - 0) = .slice (some ⟨g, 0, none⟩) k c) := ⟨by by_cases h : c = 0 <;> simp [h, Addr.add_lit]⟩
  have HV25 := Aside0.mk hv25
  have HSV := Aside0.mk hsv
  have HSL := Aside0.mk hsl
  have HRM : Aside0 (k + m ≤ c) := ⟨by omega⟩
  have HL2 : Aside0 (k + m = n1) := ⟨hm⟩
  have HFT := Aside0.mk hft
  have HF2 := Aside0.mk hf2
  have HN1 : Aside0 (n1 ≤ n) := ⟨by omega⟩
  have HN2 : Aside0 (n - n1 = 1) := ⟨by omega⟩
  have HV31 : Aside0 (Value.slice (if c = n1 then some ⟨g, 0, none⟩ else (some (⟨g, 0, none⟩ : Addr)).map (·.add (n1 * 2))) (n - n1) (c - n1) = .slice (some ⟨g, n1 * 2, none⟩) (n - n1) (c - n1)) := ⟨by rw [if_neg (by omega)]; simp [Addr.add_lit]⟩
  have HS3 : Aside0 (k ≤ k1 ∧ k1 ≤ n ∧ n ≤ c ∧ k < n) := ⟨by omega, hKN, hNC, by omega⟩
  have e1 : ((k : Int) == (k1 : Int)) = false := beq_eq_false_iff_ne.mpr (by omega)
  have e1n : (k == k1) = false := beq_eq_false_iff_ne.mpr (by omega)
  have e1p := eq_false (show ¬ k = k1 by omega)
  have e1i : ((k : Int) = (k1 : Int)) = False := eq_false (by omega)
  have HO : Aside0 (Own w0 w ((g, .cells cur 54 (0, 0)) :: L)) := ⟨hO⟩
  clear hO hKC hKN hNC hKK hN1 hk1 hv25 hsv hsl hm hft hf2
  go_enter Try.func81, Try.ntmps81
  go_wp2_with ((with_reducible refine gate_dst (N := 13) rfl ?_); refine Kd.event_run rfl (exec_slice3 (i := k) (j := k1) (m := n) (size := 2) rfl huks (by kernel_rfl) (by rfl) (by rfl) (by rfl) (by rfl) HS3.out.1 HS3.out.2.1 HS3.out.2.2.1 HS3.out.2.2.2 rfl) ?_)
  refine start_ (n := 8) (S := fun W => Own w0 W ([])) (ds := []) #[false, false, false, false, false, false, false, false] (by kernel_rfl) rfl rfl (Own.drew (HO.out.picks (.nil))) (fun hHeld => ?_)
  have HO_ := Aside0.mk HO.out.drew
  clear HO
  have HO := HO_
  clear HO_
  generalize World.drew _ = wr at HO hHeld ⊢
  refine Hp.pu_ 0 20 (Hp.up 8 1) ?_
  refine Hp.pu_ 1 21 (Hp.up 8 2) ?_
  refine Hp.pu_ (v := .slice (some ⟨g, 0, none⟩) k c) 2 22 (Hp.up 8 3) ?_ (hr := by intro w'; exact exec_slicex (size := 2) (l := 0) (h := k) (m := c) rfl huks (by kernel_rfl) (by rfl) (sb_h HKC.out) HV22.out)
  refine Hp.pu_ 3 23 (Hp.up 8 4) ?_
  refine Hp.pu_ 4 24 (Hp.up 8 5) ?_
  refine Hp.pu_ (v := .slice (some ⟨g, off, none⟩) m c1) 5 25 (Hp.up 8 6) ?_ (hr := by intro w'; exact exec_slicex (size := 2) (l := k1) (h := n) (m := c) rfl huks (by kernel_rfl) (by rfl) (sb_l HKN.out) HV25.out)
  refine one_ (i := 6) (N := some 26) (Hp.up 8 7) rfl rfl (by kernel_rfl) (by decide) (fun K hK => ?_)
  refine own_put_k (size := 2) (sLen := k) (sCap := c) (m := m) (news := (kcells (Ks.drop k1))) HO.out (by rfl) (N := 26) rfl rfl huks (by kernel_rfl) (by rfl) (by rfl) (HO.out.src huks .head off m c1 (kcells (Ks.drop k1)) HSV.out HSL.out (kcells_one _)) HRM.out .head HFT.out rfl HL2.out ?_
  intro wc hO_
  clear HO; have HO := Aside0.mk hO_; clear hO_
  refine hK.out _ _ (HO.out.picks (.nil)) (fun hHeld => ?_)
  clear hK K
  refine norm_ (a' := ?_) ?_ ?_
  rotate_left
  · show Act.put _ (some 26) _ = _
    simp only [Act.put, List.setIfInBounds_toArray, List.set_cons_zero, List.set_cons_succ, i64_w, i32_w]
    rfl
  refine Hp.pu_ 7 0 (Hp.up 8 8) ?_
  refine done_ (by kernel_rfl) ?_
  clear hHeld
  go_wp2_with (first | ((with_reducible refine gate_dst (N := 31) rfl ?_); refine Kd.event_run rfl (exec_slicex (size := 2) (l := n1) (h := n) (m := c) rfl huks (by kernel_rfl) (by rfl) (sb_lh HN1.out HNC.out) (HV31.out)) ?_) | (refine own_clear2 (z := .agg #[.int .i64 0, .int .i64 0]) (u1 := .int .i64 0) (u2 := .int .i64 0) (b := g) (off := n1 * 2) (n := n - n1) (c := c - n1) HO.out rfl (x := .tmp 31) rfl huks (by kernel_rfl) (by rfl) rfl rfl HN2.out (by rfl) .head HF2.out rfl ?_; intro wc hO_; clear HO; have HO := Aside0.mk hO_; clear hO_))
  go_ret
  exact ⟨rfl, HO.out⟩
theorem delete_calls (w0 w : World) (L R : Hl) (A : Option Addr) (n c k k1 n1 : Nat) (K : List (Int × Int)) (hR : RowOf 54 2 R (.slice A n c) n (kcells K)) (hK : K.length = n) (hk : k < n) (hk1 : k1 = k + 1) (hn1 : n1 + 1 = n) (hO : Own w0 w (R ++ L)) :
    Calls Try.prog 81 #[.slice A n c, .int .i64 (k : Int), .int .i64 (k1 : Int)] w fun e w' => e = .returned (.slice A n1 c) ∧ ∃ R', RowOf 54 2 R' (.slice A n1 c) n1 (kcells (K.eraseIdx k)) ∧ Own w0 w' (R' ++ L) := by
  rcases hR.2 with ⟨_, h0, _⟩ | ⟨g, cap, cur, hv, rfl, hnc, hcm, hcs, hct⟩
  · omega
  · simp only [Value.slice.injEq] at hv
    obtain ⟨rfl, _, rfl⟩ := hv
    obtain ⟨m, hm⟩ : ∃ m, k + m = n1 := ⟨n1 - k, by omega⟩
    obtain ⟨d1, d2, d3, d4, d5, d6⟩ := del_cells hcs hct hK hnc hk1 hn1 hk hm
    have hfin : ∀ off, (cur.toList.drop off).take (kcells (K.drop k1)).length = (kcells (K.drop k1)) → Value.slice (if c = k1 then some ⟨g, 0, none⟩ else (some (⟨g, 0, none⟩ : Addr)).map (·.add (k1 * 2))) (n - k1) (c - k1) = .slice (some ⟨g, off, none⟩) m (c - k1) → _ := fun off ho hv =>
      (delete_blk w0 w L g n c k k1 n1 m off (c - k1) cur K (by omega) (by omega) hnc (by omega) hn1 hk1 hv ho d1 hm d2 d4 hO).mono (R' := fun e w' => e = .returned (.slice (some ⟨g, 0, none⟩) n1 c) ∧ ∃ R', RowOf 54 2 R' (.slice (some ⟨g, 0, none⟩) n1 c) n1 (kcells (K.eraseIdx k)) ∧ Own w0 w' (R' ++ L)) fun e w' h =>
        ⟨h.1, _, ⟨by rw [← d6, List.length_take, Array.length_toList, d5]; omega, .inr ⟨g, c, _, rfl, rfl, by omega, hcm, d5, d6⟩⟩, h.2⟩
    by_cases hc : c = k1
    · have hm0 : m = 0 := by omega
      refine hfin 0 ?_ ?_
      · rw [d1, hm0, Nat.zero_mul, List.take_zero]
        exact (List.length_eq_zero_iff.1 (by rw [d1, hm0])).symm
      · rw [if_pos hc]
        congr 1
        omega
    · refine hfin (k1 * 2) (by rw [d1]; exact d3) ?_
      rw [if_neg hc]
      simp only [Option.map_some, Addr.add_lit, Nat.zero_add]
      congr 1
      omega
theorem kfind_lt (x : Int × Int) : ∀ (K : List (Int × Int)) (i k : Nat), kfind x K i = (k : Int) → i ≤ k ∧ k < i + K.length
  | [], i, k, h => by simp only [kfind] at h; omega
  | a :: K, i, k, h => by
    unfold kfind at h
    split at h
    · simp only [List.length_cons]; omega
    · have := kfind_lt x K (i + 1) k h
      simp only [List.length_cons]; omega
theorem flat_slot : ∀ (D : List (List Int)) (Z : Nat), (∀ d ∈ D, d.length = Z) → ∀ (j : Nat), j < D.length → (D.flatten.drop (j * Z)).take Z = D.getD j []
  | [], _, _, j, hj => absurd hj (Nat.not_lt_zero _)
  | d :: D, Z, h, 0, _ => by
    have hd := h d (List.mem_cons_self ..)
    simp only [List.flatten_cons, Nat.zero_mul, List.drop_zero, List.getD_cons_zero]
    rw [← hd, List.take_left]
  | d :: D, Z, h, j + 1, hj => by
    have hd := h d (List.mem_cons_self ..)
    have ih := flat_slot D Z (fun y hy => h y (List.mem_cons_of_mem _ hy)) j (by simpa using hj)
    have e1 : (j + 1) * Z = d.length + j * Z := by rw [hd, Nat.add_mul]; omega
    simp only [List.flatten_cons, List.getD_cons_succ]
    rw [e1, List.drop_length_add_append, ih]
theorem getD_len {D : List (List Int)} {Z : Nat} (h : ∀ d ∈ D, d.length = Z) {j : Nat} (hj : j < D.length) : (D.getD j []).length = Z := by
  rw [List.getD_eq_getElem?_getD, List.getElem?_eq_getElem hj]
  exact h _ (List.getElem_mem hj)
/-- What dropping moves: slot i + 1 into slot i, m times. -/
def dshift : Nat → Nat → List (List Int) → List (List Int)
  | 0, _, D => D
  | m + 1, i, D => dshift m (i + 1) (D.set i (D.getD (i + 1) []))
theorem LSt.setd {Z N : Nat} {RK : Hl} {A : Option Addr} {n c : Nat} {K : List (Int × Int)} {D : List (List Int)} (h : LSt Z N RK A n c K D) {i : Nat} {d : List Int} (hd : d.length = Z) : LSt Z N RK A n c K (D.set i d) :=
  ⟨h.row, h.kl, h.nle, by rw [List.length_set]; exact h.dl, fun x hx => by rcases List.mem_or_eq_of_mem_set hx with h1 | rfl; exact h.dz x h1; exact hd⟩
theorem LNum.sl {Z N NN : Nat} (h : LNum Z N NN) {j : Nat} (hj : j < N) : (0 ≤ (j : Int) ∧ (j : Int) < (N : Int)) ∧ ((j * Z : Nat) : Int) = (j : Int) * (Z : Int) ∧ j * Z + Z ≤ NN :=
  ⟨⟨by omega, by omega⟩, by simp, by have h1 : (j + 1) * Z ≤ N * Z := Nat.mul_le_mul_right Z hj; rw [Nat.add_mul, Nat.one_mul] at h1; rw [h.hs2]; exact h1⟩
theorem copy_facts {Z N NN : Nat} (hN : LNum Z N NN) {RK : Hl} {A : Option Addr} {n c : Nat} {K : List (Int × Int)} {D : List (List Int)} (h : LSt Z N RK A n c K D) {i i1 : Nat} (hi : i < N) (hi1 : i1 < N) :
    ((D.getD i1 []).map (Value.int .u8)).length = Nat.min Z Z ∧ ((u8s D.flatten).toList.drop (i1 * Z)).take ((D.getD i1 []).map (Value.int .u8)).length = (D.getD i1 []).map (Value.int .u8) ∧ i * Z + ((D.getD i1 []).map (Value.int .u8)).length ≤ (u8s D.flatten).size ∧
    putAt (u8s D.flatten) (i * Z) ((D.getD i1 []).map (Value.int .u8)) = u8s (D.set i (D.getD i1 [])).flatten := by
  have hl : (D.getD i1 []).length = Z := getD_len h.dz (by rw [h.dl]; exact hi1)
  have hs := (hN.sl hi).2.2
  refine ⟨by rw [List.length_map, hl]; simp, ?_, by rw [List.length_map, hl, u8s_size, h.fl hN]; exact hs, put_slot h.dz (by rw [h.dl]; exact hi) hl (by rw [h.fl hN]; exact hs)⟩
  rw [List.length_map, hl, ← flat_slot D Z h.dz i1 (by rw [h.dl]; exact hi1)]
  simp [u8s]
set_option maxHeartbeats 8000000 in
set_option maxRecDepth 100000 in
theorem drop_not (w0 w : World) (L RK : Hl) (gl ga gb Z N NN : Nat) (A : Option Addr) (n c : Nat) (K : List (Int × Int)) (D : List (List Int)) (hN : LNum Z N NN) (hS : LSt Z N RK A n c K D) (x y : Int) (hk : kfind (x, y) K 0 = -1) (hO : Own w0 w ((gl, .cells #[.slice A n c, .pointer (some ⟨ga, 0, none⟩)] 140 (0, 0)) :: (ga, .cells #[.int .i64 (Z : Int), .slice (some ⟨gb, 0, none⟩) NN NN] 126 (0, 0)) :: (gb, .cells (u8s D.flatten) 5 (0, 0)) :: (RK ++ L))) :
    Calls Try.prog 37 #[.pointer (some ⟨gl, 0, none⟩), .agg #[.int .i64 x, .int .i64 y]] w fun e w' => e = .returned (.int .i64 2) ∧ Own w0 w' ((gl, .cells #[.slice A n c, .pointer (some ⟨ga, 0, none⟩)] 140 (0, 0)) :: (ga, .cells #[.int .i64 (Z : Int), .slice (some ⟨gb, 0, none⟩) NN NN] 126 (0, 0)) :: (gb, .cells (u8s D.flatten) 5 (0, 0)) :: (RK ++ L)) := by
  have hui := Try.underlying3
  have hul := Try.underlying32
  have huk := Try.underlying54
  have huks := Try.underlying89
  have hup := Try.underlying24
  have HO : Aside0 (Own w0 w ((gl, .cells #[.slice A n c, .pointer (some ⟨ga, 0, none⟩)] 140 (0, 0)) :: (ga, .cells #[.int .i64 (Z : Int), .slice (some ⟨gb, 0, none⟩) NN NN] 126 (0, 0)) :: (gb, .cells (u8s D.flatten) 5 (0, 0)) :: (RK ++ L))) := ⟨hO⟩
  have HN := Aside0.mk hN
  have HS := Aside0.mk hS
  clear hO hN hS
  have HF := Aside0.mk hk
  clear hk
  go_enter Try.func37, Try.ntmps37
  go_wp2_with (first | ((with_reducible refine gate_dst (N := 3) rfl ?_); refine own_box HO.out ?hg (N := 3) ?hd (cs := #[.int .i64 x, .int .i64 y]) (t := 54) ?hr ?_; (case hd => rfl); (case hg => rfl); (case hr => first | (go_simp; done) | (go_simp; rfl) | kernel_rfl); intro g3 w3 hO_; clear HO; have HO := Aside0.mk hO_; clear hO_) | ((with_reducible refine gate_dst (N := 15) rfl ?_); refine own_wload HO.out rfl (x := .tmp 3) rfl (by rfl) (by (repeat (first | exact .head | apply Ext.tail))) huk (by rfl) (by kernel_rfl) ?_) | ((with_reducible refine gate_callee (f := 79) rfl ?_); (with_reducible refine gate_dst (N := 16) rfl ?_); refine goesL_ (some 16) rfl rfl Try.func79 (by kernel_rfl) rfl #[.pointer (some ⟨gl, 0, none⟩), .agg #[.int .i64 x, .int .i64 y]] rfl (by (try simp only [List.map_toArray, List.map_cons, List.map_nil]); first | done | rfl) ?_; (with_reducible refine (find_r w0 _ ((g3, .cells #[.int .i64 x, .int .i64 y] 54 (0, 0)) :: L) RK gl ga gb Z N NN A n c K D x y _ HF.out HN.out HS.out HO.out.backK).mono ?_); rintro e wx ⟨rfl, hO_⟩; refine ⟨_, rfl, ?_⟩; have hO_ := hO_.frontK; clear HO; have HO := Aside0.mk hO_; clear hO_))
  go_ret
  exact ⟨rfl, HO.out.drop⟩
set_option maxHeartbeats 8000000 in
set_option maxRecDepth 100000 in
theorem drop_has (w0 w : World) (L RK : Hl) (gl ga gb Z N NN : Nat) (A : Option Addr) (n c : Nat) (K : List (Int × Int)) (D : List (List Int)) (hN : LNum Z N NN) (hS : LSt Z N RK A n c K D) (x y : Int) (k k1 n1 : Nat) (hk : kfind (x, y) K 0 = (k : Int)) (hk1 : k1 = k + 1) (hn1 : n1 + 1 = n) (hO : Own w0 w ((gl, .cells #[.slice A n c, .pointer (some ⟨ga, 0, none⟩)] 140 (0, 0)) :: (ga, .cells #[.int .i64 (Z : Int), .slice (some ⟨gb, 0, none⟩) NN NN] 126 (0, 0)) :: (gb, .cells (u8s D.flatten) 5 (0, 0)) :: (RK ++ L))) :
    Calls Try.prog 37 #[.pointer (some ⟨gl, 0, none⟩), .agg #[.int .i64 x, .int .i64 y]] w fun e w' => e = .returned (.int .i64 0) ∧ ∃ R2, LSt Z N R2 A n1 c (K.eraseIdx k) ((dshift (n1 - k) k D).set n1 (List.replicate Z 0)) ∧ Own w0 w' ((gl, .cells #[.slice A n1 c, .pointer (some ⟨ga, 0, none⟩)] 140 (0, 0)) :: (ga, .cells #[.int .i64 (Z : Int), .slice (some ⟨gb, 0, none⟩) NN NN] 126 (0, 0)) :: (gb, .cells (u8s ((dshift (n1 - k) k D).set n1 (List.replicate Z 0)).flatten) 5 (0, 0)) :: (R2 ++ L)) := by
  have hui := Try.underlying3
  have hul := Try.underlying32
  have huk := Try.underlying54
  have huks := Try.underlying89
  have hup := Try.underlying24
  have HO : Aside0 (Own w0 w ((gl, .cells #[.slice A n c, .pointer (some ⟨ga, 0, none⟩)] 140 (0, 0)) :: (ga, .cells #[.int .i64 (Z : Int), .slice (some ⟨gb, 0, none⟩) NN NN] 126 (0, 0)) :: (gb, .cells (u8s D.flatten) 5 (0, 0)) :: (RK ++ L))) := ⟨hO⟩
  have HN := Aside0.mk hN
  have HS := Aside0.mk hS
  clear hO hN hS
  have HF := Aside0.mk hk
  have HK1 := Aside0.mk hk1
  have HNN := Aside0.mk hn1
  have HKN : Aside0 (k < n) := ⟨by have h := (kfind_lt _ _ _ _ hk).2; rw [HS.out.kl] at h; omega⟩
  have HN1 : Aside0 (n1 < N) := ⟨by have := HS.out.nle; omega⟩
  have HB : Aside0 (n ≤ 16) := ⟨by have := HS.out.nle; have := HN.out.hn; omega⟩
  obtain ⟨DF, hDF⟩ : ∃ DF, dshift (n1 - k) k D = DF := ⟨_, rfl⟩
  rw [hDF]
  have HDF := Aside0.mk hDF
  have c0 : decide ((k : Int) < 0) = false := decide_eq_false (by omega)
  have hw1 : IntKind.i64.wrap ((n : Int) - 1) = (n1 : Int) := (IntWalk.i64_in _ (by have := HB.out; omega)).trans (by omega)
  have hw2 : wrap64 ((n : Int) - 1) = (n1 : Int) := (i64_w _).symm.trans hw1
  have hw3 : IntKind.i64.wrap ((k : Int) + 1) = (k1 : Int) := (IntWalk.i64_in _ (by have := HB.out; have := HKN.out; omega)).trans (by omega)
  have hw4 : wrap64 ((k : Int) + 1) = (k1 : Int) := (i64_w _).symm.trans hw3
  clear hk hk1 hn1 hDF
  go_enter Try.func37, Try.ntmps37
  go_wp2_with (first | ((with_reducible refine gate_dst (N := 3) rfl ?_); refine own_box HO.out ?hg (N := 3) ?hd (cs := #[.int .i64 x, .int .i64 y]) (t := 54) ?hr ?_; (case hd => rfl); (case hg => rfl); (case hr => first | (go_simp; done) | (go_simp; rfl) | kernel_rfl); intro g3 w3 hO_; clear HO; have HO := Aside0.mk hO_; clear hO_) | ((with_reducible refine gate_dst (N := 15) rfl ?_); refine own_wload HO.out rfl (x := .tmp 3) rfl (by rfl) (by (repeat (first | exact .head | apply Ext.tail))) huk (by rfl) (by kernel_rfl) ?_) | ((with_reducible refine gate_callee (f := 79) rfl ?_); (with_reducible refine gate_dst (N := 16) rfl ?_); refine goesL_ (some 16) rfl rfl Try.func79 (by kernel_rfl) rfl #[.pointer (some ⟨gl, 0, none⟩), .agg #[.int .i64 x, .int .i64 y]] rfl (by (try simp only [List.map_toArray, List.map_cons, List.map_nil]); first | done | rfl) ?_; (with_reducible refine (find_r w0 _ ((g3, .cells #[.int .i64 x, .int .i64 y] 54 (0, 0)) :: L) RK gl ga gb Z N NN A n c K D x y _ HF.out HN.out HS.out HO.out.backK).mono ?_); rintro e wx ⟨rfl, hO_⟩; refine ⟨_, rfl, ?_⟩; have hO_ := hO_.frontK; clear HO; have HO := Aside0.mk hO_; clear hO_) | ((with_reducible refine gate_dst (N := 22) rfl ?_); refine own_load HO.out rfl (x := .tmp 21) (v := .slice A n c) rfl (by rfl) (by (repeat (first | exact .head | apply Ext.tail))) huks (by rfl) (by rfl) ?_))
  go_loopg [7] (n1 - k) (fun gk v7 w' => ∃ i : Nat, v7 = .int .i64 (i : Int) ∧ Aside0 (i + gk = n1) ∧ ∃ Di, Aside0 (dshift gk i Di = DF) ∧ Aside0 (LSt Z N RK A n c K Di) ∧ Aside0 (Own w0 w' ((g3, .cells #[.int .i64 x, .int .i64 y] 54 (0, 0)) :: ((gl, .cells #[.slice A n c, .pointer (some ⟨ga, 0, none⟩)] 140 (0, 0)) :: (ga, .cells #[.int .i64 (Z : Int), .slice (some ⟨gb, 0, none⟩) NN NN] 126 (0, 0)) :: (gb, .cells (u8s Di.flatten) 5 (0, 0)) :: (RK ++ L)))))
  case atStart => exact ⟨k, rfl, ⟨by have := HKN.out; have := HNN.out; omega⟩, D, HDF, HS, HO⟩
  case round =>
    clear HO HDF
    obtain ⟨i, rfl, HI, Di, HD, HSi, HO⟩ := hrel
    cases gk with
    | zero =>
      have c1 : decide ((i : Int) < (n1 : Int)) = false := decide_eq_false (by have := HI.out; omega)
      have c1n : decide (i < n1) = false := decide_eq_false (by have := HI.out; omega)
      have hD : DF = Di := HD.out.symm
      subst hD
      have HSF := HSi
      clear HD
      go_wp2_with (first | ((with_reducible refine gate_callee (f := 80) rfl ?_); (with_reducible refine gate_dst (N := 55) rfl ?_); refine goesL_ (some 55) rfl rfl Try.func80 (by kernel_rfl) rfl #[.pointer (some ⟨gl, 0, none⟩), .int .i64 (n1 : Int)] rfl (by (try simp only [List.map_toArray, List.map_cons, List.map_nil]); first | done | rfl) ?_; (with_reducible refine (clear_calls w0 _ ((g3, .cells #[.int .i64 x, .int .i64 y] 54 (0, 0)) :: L) RK gl ga gb Z N NN A n c K DF HN.out HSF.out n1 HN1.out HO.out.backK).mono ?_); rintro e wx ⟨rfl, hO_⟩; refine ⟨_, rfl, ?_⟩; have hO_ : Own w0 wx ((g3, .cells #[.int .i64 x, .int .i64 y] 54 (0, 0)) :: ((gl, .cells #[.slice A n c, .pointer (some ⟨ga, 0, none⟩)] 140 (0, 0)) :: (ga, .cells #[.int .i64 (Z : Int), .slice (some ⟨gb, 0, none⟩) NN NN] 126 (0, 0)) :: (gb, .cells (u8s (DF.set n1 (List.replicate Z 0)).flatten) 5 (0, 0)) :: (RK ++ L))) := hO_.frontK; clear HO; have HO := Aside0.mk hO_; clear hO_) | ((with_reducible refine gate_dst (N := 60) rfl ?_); refine own_load HO.out rfl (x := .tmp 59) (v := .slice A n c) rfl (by rfl) (by (repeat (first | exact .head | apply Ext.tail))) huks (by rfl) (by rfl) ?_) | ((with_reducible refine gate_callee (f := 81) rfl ?_); (with_reducible refine gate_dst (N := 64) rfl ?_); refine goesL_ (some 64) rfl rfl Try.func81 (by kernel_rfl) rfl #[.slice A n c, .int .i64 (k : Int), .int .i64 (k1 : Int)] rfl (by (try simp only [List.map_toArray, List.map_cons, List.map_nil]); first | done | rfl) ?_; (with_reducible refine (delete_calls w0 _ ((g3, .cells #[.int .i64 x, .int .i64 y] 54 (0, 0)) :: (gl, .cells #[.slice A n c, .pointer (some ⟨ga, 0, none⟩)] 140 (0, 0)) :: (ga, .cells #[.int .i64 (Z : Int), .slice (some ⟨gb, 0, none⟩) NN NN] 126 (0, 0)) :: (gb, .cells (u8s (DF.set n1 (List.replicate Z 0)).flatten) 5 (0, 0)) :: L) RK A n c k k1 n1 K HS.out.row HS.out.kl HKN.out HK1.out HNN.out (Own.swap3 (B := [(g3, .cells #[.int .i64 x, .int .i64 y] 54 (0, 0)), (gl, .cells #[.slice A n c, .pointer (some ⟨ga, 0, none⟩)] 140 (0, 0)), (ga, .cells #[.int .i64 (Z : Int), .slice (some ⟨gb, 0, none⟩) NN NN] 126 (0, 0)), (gb, .cells (u8s (DF.set n1 (List.replicate Z 0)).flatten) 5 (0, 0))]) (R := RK) (L := L) HO.out)).mono ?_); rintro e wx ⟨rfl, R2, hR2, hO_⟩; refine ⟨_, rfl, ?_⟩; have HR2 := Aside0.mk hR2; clear hR2; have hO_ : Own w0 wx ((g3, .cells #[.int .i64 x, .int .i64 y] 54 (0, 0)) :: ((gl, .cells #[.slice A n c, .pointer (some ⟨ga, 0, none⟩)] 140 (0, 0)) :: (ga, .cells #[.int .i64 (Z : Int), .slice (some ⟨gb, 0, none⟩) NN NN] 126 (0, 0)) :: (gb, .cells (u8s (DF.set n1 (List.replicate Z 0)).flatten) 5 (0, 0)) :: (R2 ++ L))) := Own.swap3 (B := R2) (R := [(g3, .cells #[.int .i64 x, .int .i64 y] 54 (0, 0)), (gl, .cells #[.slice A n c, .pointer (some ⟨ga, 0, none⟩)] 140 (0, 0)), (ga, .cells #[.int .i64 (Z : Int), .slice (some ⟨gb, 0, none⟩) NN NN] 126 (0, 0)), (gb, .cells (u8s (DF.set n1 (List.replicate Z 0)).flatten) 5 (0, 0))]) (L := L) hO_; clear HO; have HO := Aside0.mk hO_; clear hO_) | ((with_reducible refine gate_store (p := 66) rfl ?_); refine own_store HO.out rfl (ty := 89) (x := .tmp 66) (y := .tmp 64) (v := .slice A n1 c) (cs' := #[.slice A n1 c, .pointer (some ⟨ga, 0, none⟩)]) rfl (by rfl) (by rfl) (by (repeat (first | exact .head | apply Ext.tail))) (by kernel_rfl) (by rfl) (by first | decide | (simp; done)) (by rfl) ?_; intro wc hO_; clear HO; have HO := Aside0.mk hO_; clear hO_))
      go_ret
      exact ⟨rfl, R2, ⟨HR2.out, by rw [List.length_eraseIdx, if_pos (by rw [HS.out.kl]; exact HKN.out), HS.out.kl]; have := HNN.out; omega, Nat.le_of_lt HN1.out, (HSF.out.setd (by simp)).dl, (HSF.out.setd (by simp)).dz⟩, HO.out.twof.drop⟩
    | succ m =>
      have hin : i < n1 := by have := HI.out; omega
      have c1 : decide ((i : Int) < (n1 : Int)) = true := decide_eq_true (by omega)
      have c1n : decide (i < n1) = true := decide_eq_true hin
      obtain ⟨i1, hi1⟩ : ∃ i1, i1 = i + 1 := ⟨_, rfl⟩
      have HI1 := Aside0.mk hi1
      have hiw : IntKind.i64.wrap ((i : Int) + 1) = (i1 : Int) := (IntWalk.i64_in _ (by have := HB.out; have := HNN.out; omega)).trans (by omega)
      have hiw2 : wrap64 ((i : Int) + 1) = (i1 : Int) := (i64_w _).symm.trans hiw
      have HS0 := Aside0.mk (HN.out.sl (show i < N by have := HN1.out; omega))
      have HS1 := Aside0.mk (HN.out.sl (show i1 < N by have := HN1.out; omega))
      have HC := Aside0.mk (copy_facts HN.out HSi.out (show i < N by have := HN1.out; omega) (show i1 < N by have := HN1.out; omega))
      clear hin hi1
      go_wp2_with (first | ((with_reducible refine gate_dst (N := 35) rfl ?_); refine own_load HO.out rfl (x := .tmp 34) (v := .pointer (some ⟨ga, 0, none⟩)) rfl (by rfl) (by (repeat (first | exact .head | apply Ext.tail))) hup (by rfl) (by rfl) ?_) | ((with_reducible refine gate_dst (N := 44) rfl ?_); refine own_load HO.out rfl (x := .tmp 43) (v := .pointer (some ⟨ga, 0, none⟩)) rfl (by rfl) (by (repeat (first | exact .head | apply Ext.tail))) hup (by rfl) (by rfl) ?_) | ((with_reducible refine gate_callee (f := 19) rfl ?_); (with_reducible refine gate_dst (N := 37) rfl ?_); refine goesL_ (some 37) rfl rfl Try.func19 (by kernel_rfl) rfl #[.pointer (some ⟨ga, 0, none⟩), .int .i64 (i : Int)] rfl (by (try simp only [List.map_toArray, List.map_cons, List.map_nil]); first | done | rfl) ?_; (with_reducible refine (slot_ok w0 _ ((g3, .cells #[.int .i64 x, .int .i64 y] 54 (0, 0)) :: (gl, .cells #[.slice A n c, .pointer (some ⟨ga, 0, none⟩)] 140 (0, 0)) :: (RK ++ L)) ga gb (Z : Int) NN Di.flatten (i : Int) (N : Int) HN.out.hz HN.out.hn HN.out.hs (i * Z) Z HS0.out.1 HS0.out.2.1 rfl HS0.out.2.2 HN.out.hm HO.out.frontA2).mono ?_); rintro e wx ⟨rfl, hO_⟩; refine ⟨_, rfl, ?_⟩; have hO_ := hO_.backA2; clear HO; have HO := Aside0.mk hO_; clear hO_) | ((with_reducible refine gate_callee (f := 19) rfl ?_); (with_reducible refine gate_dst (N := 47) rfl ?_); refine goesL_ (some 47) rfl rfl Try.func19 (by kernel_rfl) rfl #[.pointer (some ⟨ga, 0, none⟩), .int .i64 (i1 : Int)] rfl (by (try simp only [List.map_toArray, List.map_cons, List.map_nil]); first | done | rfl) ?_; (with_reducible refine (slot_ok w0 _ ((g3, .cells #[.int .i64 x, .int .i64 y] 54 (0, 0)) :: (gl, .cells #[.slice A n c, .pointer (some ⟨ga, 0, none⟩)] 140 (0, 0)) :: (RK ++ L)) ga gb (Z : Int) NN Di.flatten (i1 : Int) (N : Int) HN.out.hz HN.out.hn HN.out.hs (i1 * Z) Z HS1.out.1 HS1.out.2.1 rfl HS1.out.2.2 HN.out.hm HO.out.frontA2).mono ?_); rintro e wx ⟨rfl, hO_⟩; refine ⟨_, rfl, ?_⟩; have hO_ := hO_.backA2; clear HO; have HO := Aside0.mk hO_; clear hO_) | ((with_reducible refine gate_dst (N := 52) rfl ?_); refine own_copy (elem := 5) (b := gb) (off := i * Z) (dLen := Z) (dCap := Z) (sLen := Z) (sCap := Z) (ad := ⟨gb, i1 * Z, none⟩) (vs := ((Di.getD i1 []).map (Value.int .u8))) HO.out rfl rfl hul (by kernel_rfl) (by rfl) (by rfl) HC.out.1 (fun j v hj => by rw [Addr.add_lit]; exact HO.out.range (by (repeat (first | exact .head | apply Ext.tail))) (i1 * Z) _ HC.out.2.1 j v hj) (u8s_one _) (by (repeat (first | exact .head | apply Ext.tail))) HC.out.2.2.1 HC.out.2.2.2 ?_; intro wc hO_; have hO_ : Own w0 wc ((g3, .cells #[.int .i64 x, .int .i64 y] 54 (0, 0)) :: ((gl, .cells #[.slice A n c, .pointer (some ⟨ga, 0, none⟩)] 140 (0, 0)) :: (ga, .cells #[.int .i64 (Z : Int), .slice (some ⟨gb, 0, none⟩) NN NN] 126 (0, 0)) :: (gb, .cells (u8s (Di.set i (Di.getD i1 [])).flatten) 5 (0, 0)) :: (RK ++ L))) := Own.swap3 (B := [(gb, .cells (u8s (Di.set i (Di.getD i1 [])).flatten) 5 (0, 0))]) (R := [(g3, .cells #[.int .i64 x, .int .i64 y] 54 (0, 0)), (gl, .cells #[.slice A n c, .pointer (some ⟨ga, 0, none⟩)] 140 (0, 0)), (ga, .cells #[.int .i64 (Z : Int), .slice (some ⟨gb, 0, none⟩) NN NN] 126 (0, 0))]) (L := RK ++ L) hO_; clear HO; have HO := Aside0.mk hO_; clear hO_))
      go_roundg m
      case measure => omega
      case rel => exact ⟨i1, rfl, ⟨by have := HI.out; have := HI1.out; omega⟩, Di.set i (Di.getD i1 []), ⟨by have h := HD.out; unfold dshift at h; rw [← HI1.out] at h; exact h⟩, ⟨HSi.out.setd (getD_len HSi.out.dz (by rw [HSi.out.dl]; have := HN1.out; have := HI.out; have := HI1.out; omega))⟩, HO⟩
end Go.Proofs.Lc
