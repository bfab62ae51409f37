/- Contracts of the document's array, over lists of blocks; no conditions beyond each theorem's own. -/
import Derived.Test.YtgkdbhkbkpfbpaaAR
set_option linter.unusedVariables false
set_option linter.unusedSimpArgs false
namespace Go.Proofs.Ar
open Go.RowKit Go.Proofs.Ev Go.Proofs.Hp Go.Proofs.YtgkdbhkbkpfbpaaW.PrintWords Go.Proofs.YtgkdbhkbkpfbpaaW.PrintLast Go.Proofs.YtgkdbhkbkpfbpaaW.PrintMore
attribute [local go_sem] max2_int min2_int max_two min_two max_three min_three max_four min_four eql_slice_nil
def slv (Z g : Nat) : Value := .slice (some ⟨g, 0, none⟩) Z Z
def blks : List Nat → List (List Int) → Hl
  | g :: G, d :: D => (g, .cells (u8s d) 5 (0, 0)) :: blks G D
  | _, _ => []
theorem blks_snoc : ∀ (G : List Nat) (D : List (List Int)) (g : Nat) (d : List Int), G.length = D.length → blks (G ++ [g]) (D ++ [d]) = blks G D ++ [(g, .cells (u8s d) 5 (0, 0))]
  | [], [], _, _, _ => rfl
  | [], _ :: _, _, _, h => by cases h
  | _ :: _, [], _, _, h => by cases h
  | a :: G, b :: D, g, d, h => by
    have ih := blks_snoc G D g d (by simpa using h)
    simp only [List.cons_append, blks, ih]
theorem blks_split : ∀ (G : List Nat) (D : List (List Int)) (i : Nat) (hg : i < G.length) (hd : i < D.length) (d : List Int), blks G (D.set i d) = blks (G.take i) (D.take i) ++ (G[i], .cells (u8s d) 5 (0, 0)) :: blks (G.drop (i + 1)) (D.drop (i + 1))
  | [], _, _, h, _, _ => absurd h (Nat.not_lt_zero _)
  | _ :: _, [], _, _, h, _ => absurd h (Nat.not_lt_zero _)
  | a :: G, b :: D, 0, _, _, d => by simp [blks]
  | a :: G, b :: D, i + 1, hg, hd, d => by
    have ih := blks_split G D i (by simpa using hg) (by simpa using hd) d
    simp only [List.set_cons_succ, blks, List.take_succ_cons, List.drop_succ_cons, List.getElem_cons_succ, List.cons_append, ih]
theorem _root_.Go.Proofs.Hp.Own.midput {w0 W W1 : World} {P Q : Hl} {g : Nat} {ob ob' : Obj} (h : Own w0 W (P ++ (g, ob) :: Q)) (h1 : W1.heap[g]? = some ob') (h2 : ∀ i, i ≠ g → W1.heap[i]? = W.heap[i]?) (h3 : ∀ B, B ≤ g → Below B W W1) : Own w0 W1 (P ++ (g, ob') :: Q) :=
  (h.put (Ext.app .head P) h1 h2 h3).perm List.perm_middle.symm
theorem _root_.Go.Proofs.Hp.Own.newblk {w0 W : World} {a x b : Nat × Obj} {R K L : Hl} (h : Own w0 W (a :: x :: b :: (R ++ (K ++ L)))) : Own w0 W (a :: (R ++ ((K ++ [b]) ++ L))) := by
  have h1 : Own w0 W (a :: b :: (R ++ (K ++ L))) := (h.perm (List.Perm.swap _ _ _)).drop
  refine h1.perm (List.Perm.cons _ ?_)
  refine (List.perm_middle (a := b) (l₁ := []) (l₂ := R ++ (K ++ L))).trans ?_
  have e : R ++ ((K ++ [b]) ++ L) = (R ++ K) ++ b :: L := by simp
  rw [e]
  refine List.Perm.trans ?_ List.perm_middle.symm
  simp
/-- The slots of the document's array. -/
structure RefA (X : Hl) (A : Option Addr) (c Z : Nat) (D : List (List Int)) : Prop where
  ex : ∃ G RS, X = RS ++ blks G D ∧ RowOf 32 1 RS (.slice A D.length c) D.length (G.map (slv Z)) ∧ G.length = D.length
  len : ∀ d ∈ D, d.length = Z
theorem RefA.at {X : Hl} {A : Option Addr} {c Z : Nat} {D : List (List Int)} (h : RefA X A c Z D) {w0 W : World} {L : Hl} (HO : Own w0 W (X ++ L)) (i : Nat) (hi : i < D.length) :
    ∃ gs g, A = some ⟨gs, 0, none⟩ ∧ W.cell? ⟨gs, i, none⟩ = some (slv Z g) ∧ W.heap[g]? = some (.cells (u8s D[i]) 5 (0, 0)) ∧
      ∀ W1 d', W1.heap[g]? = some (.cells (u8s d') 5 (0, 0)) → (∀ j, j ≠ g → W1.heap[j]? = W.heap[j]?) → (∀ B, B ≤ g → Below B W W1) → d'.length = Z → ∃ X', RefA X' A c Z (D.set i d') ∧ Own w0 W1 (X' ++ L) := by
  obtain ⟨⟨G, RS, rfl, hR, hG⟩, hl⟩ := h
  have hg : i < G.length := by omega
  have HO' : Own w0 W (RS ++ (blks G D ++ L)) := by rw [← List.append_assoc]; exact HO
  obtain ⟨gs, cap, hv, _, _, _, _, hcell⟩ := hR.cells HO' (by omega)
  simp only [Value.slice.injEq] at hv
  obtain ⟨rfl, _, rfl⟩ := hv
  have hc := hcell i (slv Z G[i]) (by simp [List.getElem?_eq_getElem hg])
  have hD : D.set i D[i] = D := by simp
  have e1 := blks_split G D i hg hi D[i]
  rw [hD] at e1
  have HOm : Own w0 W ((RS ++ blks (G.take i) (D.take i)) ++ (G[i], .cells (u8s D[i]) 5 (0, 0)) :: (blks (G.drop (i + 1)) (D.drop (i + 1)) ++ L)) := by
    have e2 : RS ++ (blks G D ++ L) = (RS ++ blks (G.take i) (D.take i)) ++ (G[i], .cells (u8s D[i]) 5 (0, 0)) :: (blks (G.drop (i + 1)) (D.drop (i + 1)) ++ L) := by rw [e1]; simp
    rw [← e2]
    exact HO'
  refine ⟨gs, G[i], rfl, hc, HOm.get (Ext.app .head _), fun W1 d' k1 k2 k3 hd' => ?_⟩
  refine ⟨RS ++ blks G (D.set i d'), ⟨⟨G, RS, rfl, ?_, by simpa using hG⟩, ?_⟩, ?_⟩
  · simpa using hR
  · intro d hd
    rcases List.mem_or_eq_of_mem_set hd with h | rfl
    · exact hl d h
    · exact hd'
  · have := HOm.midput k1 k2 k3
    rw [blks_split G D i hg hi d']
    simpa using this
section
variable {P : Program} {ops : Array Oper} {rest : List Oper} {o : Oper} {a : Act} {Q : Exit → Act → World → Prop} {W : World} {g : Nat}
/-- A cell of a block is stored. -/
theorem store_event1 (hgd : o.guard = none) {ty t : TypeId} {x y : Operand} (ho : o.op = .store ty x y) {cs cs' : Array Value} {j : Nat} {v : Value} (hx : a.eval x = .pointer (some ⟨g, j, none⟩)) (hy : a.eval y = v)
    (hb : W.heap[g]? = some (.cells cs t (0, 0))) (hi : (P.info? ty).map (·.size) = some 1) (h1 : v.oneCell' = true) (hj : j < cs.size) (hc : cs.setIfInBounds j v = cs')
    (h : ∀ w1, w1.heap[g]? = some (.cells cs' t (0, 0)) → (∀ i, i ≠ g → w1.heap[i]? = W.heap[i]?) → (∀ B, B ≤ g → Below B W w1) → wpList P ops Q rest (a.put o.dst undef) w1) : wpList P ops Q (o :: rest) a W := by
  subst hc
  refine wpList_plain hgd fun K hK => ?_
  unfold Oper.wp execOp
  rw [ho]
  simp only [hx, hy, Instr.storeAt, Instr.sureAddr, Sem.run_bind, Sem.run_pure, Result.andThen_ok, run_store1 hi h1 hb hj]
  exact hK _ _ (h _ (blk_set hb j v) (fun i hi => Below.heap_setCell _ _ _ _ hi) (fun B hB => (Below.refl _ _).setCell hB _))
end
theorem u8s_set (l : List Int) (j : Nat) (c : Int) : (u8s l).setIfInBounds j (.int .u8 c) = u8s (l.set j c) := by simp [u8s, List.map_set]
theorem u8s_size (l : List Int) : (u8s l).size = l.length := by simp [u8s]
set_option maxHeartbeats 8000000 in
set_option maxRecDepth 100000 in
theorem may_yes (sz n : Int) (w : World) (hz : 1 ≤ sz ∧ sz ≤ 32) (hn : 1 ≤ n ∧ n ≤ 16) : Calls Try.prog 15 #[.int .i64 sz, .int .i64 n] w fun e w' => e = .returned (.bool true) ∧ w' = w := by
  have c1 : decide (1 ≤ sz) = true := decide_eq_true (by omega)
  have c2 : decide (sz ≤ 32) = true := decide_eq_true (by omega)
  have c3 : decide (1 ≤ n) = true := decide_eq_true (by omega)
  have c4 : decide (n ≤ 16) = true := decide_eq_true (by omega)
  clear hz hn
  go_enter Try.func15, Try.ntmps15
  go_wp2
  go_ret
  exact ⟨rfl, rfl⟩
set_option maxHeartbeats 8000000 in
set_option maxRecDepth 100000 in
theorem may_no (sz n : Int) (w : World) (h : ¬ (1 ≤ sz ∧ sz ≤ 32 ∧ 1 ≤ n ∧ n ≤ 16)) : Calls Try.prog 15 #[.int .i64 sz, .int .i64 n] w fun e w' => e = .returned (.bool false) ∧ w' = w := by
  by_cases h0 : ¬ (1 ≤ sz)
  · have c0 : decide (1 ≤ sz) = false := decide_eq_false h0
    clear h h0
    go_enter Try.func15, Try.ntmps15
    go_wp2
    go_ret
    exact ⟨rfl, rfl⟩
  have c0 : decide (1 ≤ sz) = true := decide_eq_true (by omega)
  by_cases h1 : ¬ (sz ≤ 32)
  · have c1 : decide (sz ≤ 32) = false := decide_eq_false h1
    clear h h0 h1
    go_enter Try.func15, Try.ntmps15
    go_wp2
    go_ret
    exact ⟨rfl, rfl⟩
  have c1 : decide (sz ≤ 32) = true := decide_eq_true (by omega)
  by_cases h2 : ¬ (1 ≤ n)
  · have c2 : decide (1 ≤ n) = false := decide_eq_false h2
    clear h h0 h1 h2
    go_enter Try.func15, Try.ntmps15
    go_wp2
    go_ret
    exact ⟨rfl, rfl⟩
  have c2 : decide (1 ≤ n) = true := decide_eq_true (by omega)
  have c3 : decide (n ≤ 16) = false := decide_eq_false (by omega)
  clear h h0 h1 h2
  go_enter Try.func15, Try.ntmps15
  go_wp2
  go_ret
  exact ⟨rfl, rfl⟩
set_option maxHeartbeats 8000000 in
set_option maxRecDepth 100000 in
theorem rnew_calls (w0 w : World) (L : Hl) (sz n : Int) (Z N : Nat) (hz : sz = (Z : Int)) (hZ : Z ≤ 32) (hn : n = (N : Int)) (hN : N ≤ 16) (hO : Own w0 w L) : Calls Try.prog 16 #[.int .i64 sz, .int .i64 n] w fun e w' => ∃ gw, e = .returned (.pointer (some ⟨gw, 0, none⟩)) ∧ ∃ A c X, RefA X A c Z (List.replicate N (List.replicate Z 0)) ∧ Own w0 w' ((gw, .cells #[.int .i64 sz, .slice A N c] 129 (0, 0)) :: (X ++ L)) := by
  have hul := Try.underlying32
  have hull := Try.underlying127
  have HO := Aside0.mk hO
  have HZ := Aside0.mk hz
  have HZ2 := Aside0.mk hZ
  have HN := Aside0.mk hn
  have HN2 := Aside0.mk hN
  clear hO hz hZ hn hN
  go_enter Try.func16, Try.ntmps16
  go_wp2_with (first | ((with_reducible refine gate_dst (N := 9) rfl ?_); refine own_box HO.out ?hg (N := 9) ?hd (cs := #[.int .i64 sz, .slice none 0 0]) (t := 129) ?hr ?_; (case hd => rfl); (case hg => rfl); (case hr => first | (go_simp; done) | (go_simp; rfl) | kernel_rfl); intro g9 w9 hO_; clear HO; have HO := Aside0.mk hO_; clear hO_))
  go_loopg [6] N (fun gk v6 w' => ∃ (i : Nat) (G : List Nat) (RS : Hl) (A : Option Addr) (c : Nat), v6 = .int .i64 (i : Int) ∧ Aside0 (i + gk = N ∧ i ≤ 16) ∧ Aside0 (RowOf 32 1 RS (.slice A i c) i (G.map (slv Z))) ∧ Aside0 (G.length = i) ∧ Aside0 (Own w0 w' ((g9, .cells #[.int .i64 sz, .slice A i c] 129 (0, 0)) :: (RS ++ (blks G (List.replicate i (List.replicate Z 0)) ++ L)))))
  case atStart => exact ⟨0, [], [], none, 0, rfl, ⟨⟨by omega, by omega⟩⟩, ⟨RowOf.none _ _⟩, ⟨rfl⟩, HO⟩
  case round =>
    clear HO
    obtain ⟨i, G, RS, A, c, rfl, HI, HR, HG, HO⟩ := hrel
    cases gk with
    | zero =>
      have c1 : decide ((i : Int) < n) = false := decide_eq_false (by have := HI.out; have := HN.out; omega)
      go_wp2
      go_ret
      obtain rfl : i = N := by have := HI.out; omega
      refine ⟨_, rfl, A, c, _, ⟨⟨G, RS, rfl, ?_, ?_⟩, ?_⟩, ?_⟩
      · have := HR.out; simpa using this
      · have := HG.out; simpa using this
      · intro d hd
        rw [(List.mem_replicate.1 hd).2]
        simp
      · have := HO.out
        rw [List.append_assoc]
        exact this
    | succ k =>
      have c1 : decide ((i : Int) < n) = true := decide_eq_true (by have := HI.out; have := HN.out; omega)
      have hiw : IntKind.i64.wrap ((i : Int) + 1) = ((i + 1 : Nat) : Int) := (IntWalk.i64_in _ (by have := HI.out; omega)).trans (by omega)
      have hiw2 : wrap64 ((i : Int) + 1) = ((i + 1 : Nat) : Int) := (i64_w _).symm.trans hiw
      try go_wp2
      refine start_ (n := 12) (S := fun W => Own w0 W ((g9, .cells #[.int .i64 sz, .slice A i c] 129 (0, 0)) :: [])) (ds := [11]) #[false, false, false, false, false, false, false, false, false, false, false, false] (by kernel_rfl) rfl rfl (Own.drew (HO.out.picks (.cons (by (repeat (first | exact .head | apply Ext.tail))) (.nil)))) (fun hHeld => ?_)
      have HO_ := Aside0.mk HO.out.drew
      clear HO
      have HO := HO_
      clear HO_
      generalize World.drew _ = wr at HO hHeld ⊢
      refine Hp.pu_ 0 15 (Hp.up 12 1) ?_
      refine Hp.pu_ 1 16 (Hp.up 12 2) ?_
      refine Hp.pu_ 2 17 (Hp.up 12 3) ?_
      refine Hp.pu_ 3 18 (Hp.up 12 4) ?_
      refine take_ (i := 4) (N := some 19) (v := .slice A i c) (a' := ?_) (Hp.up 12 5) rfl rfl (by kernel_rfl) (fun _ _ _ h => h) (own_yield1 (by rfl) (x := .tmp 18) rfl (by rfl) (.head) Try.underlying127 (by rfl) (by rfl)) hHeld ?_ ?_
      rotate_left
      · simp only [Act.put, List.setIfInBounds_toArray, List.set_cons_zero, List.set_cons_succ, i64_w, i32_w]
        rfl
      refine Hp.pu_ 5 20 (Hp.up 12 6) ?_
      refine one_ (i := 6) (N := some 21) (Hp.up 12 7) rfl rfl (by kernel_rfl) (by decide) (fun K hK => ?_)
      refine own_make_k (z := .int .u8 0) (size := 1) (bytes := 1) (n := Z) HO.out (by rfl) (M := 21) rfl rfl hul (by kernel_rfl) HZ.out (by rfl) (by rfl) (by have := HZ2.out; omega) (by have := HZ2.out; show Z ≤ 9223372036854775807; omega) (made_u8 Z) ?_
      intro g21 w21 hO_
      clear HO; have HO := Aside0.mk hO_; clear hO_
      refine hK.out _ _ (HO.out.picks (.cons (by (repeat (first | exact .head | apply Ext.tail))) (.nil))) (fun hHeld => ?_)
      clear hK K
      refine norm_ (a' := ?_) ?_ ?_
      rotate_left
      · show Act.put _ (some 21) _ = _
        simp only [Act.put, List.setIfInBounds_toArray, List.set_cons_zero, List.set_cons_succ, i64_w, i32_w]
        rfl
      refine one_ (i := 7) (N := some 22) (Hp.up 12 8) rfl rfl (by kernel_rfl) (by decide) (fun K hK => ?_)
      refine own_lit_k HO.out (by rfl) (N := 22) rfl (cs := #[.slice (some ⟨g21, 0, none⟩) Z Z]) (t := 32) (n := 1) (m := 1) (by first | (go_simp; done) | (go_simp; rfl) | kernel_rfl) ?_
      intro g22 w22 hO_
      clear HO; have HO := Aside0.mk hO_; clear hO_
      refine hK.out _ _ (HO.out.picks (.cons (by (repeat (first | exact .head | apply Ext.tail))) (.nil))) (fun hHeld => ?_)
      clear hK K
      refine norm_ (a' := ?_) ?_ ?_
      rotate_left
      · show Act.put _ (some 22) _ = _
        simp only [Act.put, List.setIfInBounds_toArray, List.set_cons_zero, List.set_cons_succ, i64_w, i32_w]
        rfl
      refine one_ (i := 8) (N := some 23) (Hp.up 12 9) rfl rfl (by kernel_rfl) (by decide) (fun K hK => ?_)
      refine own_append_k (z := .slice none 0 0) (size := 1) (bytes := 24) (R := RS) (L := (blks G (List.replicate i (List.replicate Z 0)) ++ L)) [(g22, .cells #[.slice (some ⟨g21, 0, none⟩) Z Z] 32 (0, 0)), (g21, .cells (u8s (List.replicate Z 0)) 5 (0, 0)), (g9, .cells #[.int .i64 sz, .slice A i c] 129 (0, 0))] HO.out (by rfl) (N := 23) rfl rfl hull (by kernel_rfl) rfl (by rfl) HR.out (by rfl) (HO.out.src hull .head 0 1 1 [.slice (some ⟨g21, 0, none⟩) Z Z] rfl rfl (by simp [Value.oneCell'])) (by have := HI.out; show i + 1 ≤ 9223372036854775807; omega) (by have := HI.out; omega) ?_
      intro v2 R2 wc hR2 hO_
      obtain ⟨A2, c2, rfl⟩ := RowOf.shape hR2
      have HR2 := Aside0.mk hR2
      clear hR2
      have hO_ : Own w0 wc ((g22, .cells #[.slice (some ⟨g21, 0, none⟩) Z Z] 32 (0, 0)) :: (g21, .cells (u8s (List.replicate Z 0)) 5 (0, 0)) :: (g9, .cells #[.int .i64 sz, .slice A i c] 129 (0, 0)) :: (R2 ++ (blks G (List.replicate i (List.replicate Z 0)) ++ L))) := hO_
      clear HO; have HO := Aside0.mk hO_; clear hO_
      refine hK.out _ _ (HO.out.picks (.cons (by (repeat (first | exact .head | apply Ext.tail))) (.nil))) (fun hHeld => ?_)
      clear hK K
      refine norm_ (a' := ?_) ?_ ?_
      rotate_left
      · show Act.put _ (some 23) _ = _
        simp only [Act.put, List.setIfInBounds_toArray, List.set_cons_zero, List.set_cons_succ, i64_w, i32_w]
        rfl
      refine Hp.pu_ 9 24 (Hp.up 12 10) ?_
      refine Hp.pu_ 10 25 (Hp.up 12 11) ?_
      refine last_ (i := 11) (N := none) (Hp.up 12 12) rfl rfl (by kernel_rfl) (by decide) (fun K hK => ?_)
      refine own_store_k HO.out (by rfl) rfl (ty := 127) (x := .tmp 25) (y := .tmp 23) (v := .slice A2 (i + 1) c2) (cs' := #[.int .i64 sz, .slice A2 (i + 1) c2]) rfl (by rfl) (by rfl) (by (repeat (first | exact .head | apply Ext.tail))) (by kernel_rfl) (by rfl) (by first | decide | (simp; done)) (by rfl) ?_
      intro wc hO_
      clear HO; have HO := Aside0.mk hO_; clear hO_
      refine hK.out _ _ ?_
      clear hK K
      refine done_ (by kernel_rfl) ?_
      clear hHeld
      try go_wp2
      go_roundg k
      case measure => omega
      case rel =>
        refine ⟨i + 1, G ++ [g21], R2, A2, c2, rfl, ⟨⟨by have := HI.out; omega, by have := HI.out; have := HN2.out; omega⟩⟩, ⟨?_⟩, ⟨by have := HG.out; simp; omega⟩, ⟨?_⟩⟩
        · have := HR2.out
          rw [List.map_append]
          exact this
        · have e : blks (G ++ [g21]) (List.replicate (i + 1) (List.replicate Z 0)) = blks G (List.replicate i (List.replicate Z 0)) ++ [(g21, .cells (u8s (List.replicate Z 0)) 5 (0, 0))] := by rw [List.replicate_succ', blks_snoc _ _ _ _ (by have := HG.out; simpa using this)]
          rw [e]
          exact Own.newblk HO.out
set_option maxHeartbeats 8000000 in
set_option maxRecDepth 100000 in
theorem write_in (w0 w : World) (L X : Hl) (gw : Nat) (sz : Int) (Z N : Nat) (A : Option Addr) (c : Nat) (D : List (List Int)) (x : Int) (k at_ : Nat) (hk : k < N) (hat : at_ < Z) (hN : N ≤ 16) (hZ : Z ≤ 32) (hz : sz = (Z : Int)) (hD : D.length = N) (hX : RefA X A c Z D) (hO : Own w0 w ((gw, .cells #[.int .i64 sz, .slice A N c] 129 (0, 0)) :: (X ++ L))) :
    Calls Try.prog 20 #[.pointer (some ⟨gw, 0, none⟩), .int .i64 k, .int .i64 at_, .int .u8 x] w fun e w' => e = .returned (.tuple #[]) ∧ ∃ X', RefA X' A c Z (D.set k ((D.getD k []).set at_ x)) ∧ Own w0 w' ((gw, .cells #[.int .i64 sz, .slice A N c] 129 (0, 0)) :: (X' ++ L)) := by
  have hui := Try.underlying3
  have hul := Try.underlying32
  have hull := Try.underlying127
  have hu8 := Try.underlying5
  have hkD : k < D.length := by omega
  have hOx : Own w0 w (X ++ ((gw, .cells #[.int .i64 sz, .slice A N c] 129 (0, 0)) :: L)) := hO.perm List.perm_middle.symm
  obtain ⟨gs, g, rfl, hcell, hblk, hput⟩ := hX.at hOx k hkD
  have hgd : D.getD k [] = D[k] := by simp [List.getD_eq_getElem?_getD, List.getElem?_eq_getElem hkD]
  rw [hgd]
  have hdl : D[k].length = Z := hX.len _ (List.getElem_mem hkD)
  have HB := Aside0.mk hblk
  have HP := Aside0.mk hput
  have HO : Aside0 (Own w0 w ((gw, .cells #[.int .i64 sz, .slice (some ⟨gs, 0, none⟩) N c] 129 (0, 0)) :: (X ++ L))) := ⟨hO⟩
  have HX := Aside0.mk hX
  have HL : Aside0 (at_ < (u8s D[k]).size ∧ (D[k].set at_ x).length = Z) := ⟨by rw [u8s_size, hdl]; exact hat, by simp [hdl]⟩
  have HC : Aside0 ((u8s D[k]).setIfInBounds at_ (.int .u8 x) = u8s (D[k].set at_ x)) := ⟨u8s_set _ _ _⟩
  have c1 : decide (0 ≤ (k : Int)) = true := decide_eq_true (by omega)
  have c2 : decide ((k : Int) < (N : Int)) = true := decide_eq_true (by omega)
  have c2n : decide (k < N) = true := decide_eq_true hk
  have hk1 : World.cell? _ ⟨gw, 1, none⟩ = some (.slice (some ⟨gs, 0, none⟩) N c) := (HO.out.cell .head 1).trans rfl
  have hk0 : World.cell? _ ⟨gw, 0, none⟩ = some (.int .i64 sz) := (HO.out.cell .head 0).trans rfl
  have c3 : decide (0 ≤ (at_ : Int)) = true := decide_eq_true (by omega)
  have c4 : decide ((at_ : Int) < sz) = true := decide_eq_true (by omega)
  have p1 := eq_true (show 0 ≤ (k : Int) by omega)
  have q1 := eq_true (show (k : Int) < (N : Int) by omega)
  have q1n := eq_true hk
  have p2 := eq_true (show 0 ≤ (at_ : Int) by omega)
  have q2 := eq_true (show (at_ : Int) < (Z : Int) by omega)
  have q2n := eq_true hat
  unfold slv at hcell
  clear hblk hput hO hOx hX hz hD hk hat hN hZ hgd hdl
  go_enter Try.func20, Try.ntmps20
  go_wp2_with (first | ((with_reducible refine gate_dst (N := 15) rfl ?_); refine own_load HO.out rfl (x := .tmp 14) (v := .slice (some ⟨gs, 0, none⟩) N c) rfl (by rfl) (by (repeat (first | exact .head | apply Ext.tail))) hull (by rfl) (by rfl) ?_) | ((with_reducible refine gate_dst (N := 28) rfl ?_); refine own_load HO.out rfl (x := .tmp 27) (v := .int .i64 sz) rfl (by rfl) (by (repeat (first | exact .head | apply Ext.tail))) hui (by rfl) (by rfl) ?_) | ((with_reducible refine gate_dst (N := 34) rfl ?_); refine own_load HO.out rfl (x := .tmp 33) (v := .slice (some ⟨gs, 0, none⟩) N c) rfl (by rfl) (by (repeat (first | exact .head | apply Ext.tail))) hull (by rfl) (by rfl) ?_) | ((with_reducible refine gate_store (p := 40) rfl ?_); refine store_event1 rfl (ty := 5) (x := .tmp 40) (y := .tmp 39) (v := .int .u8 x) rfl (by rfl) (by rfl) HB.out (by kernel_rfl) (by rfl) HL.out.1 HC.out ?_; intro wc k1 k2 k3; have HQ := Aside0.mk (HP.out wc _ k1 k2 k3 HL.out.2); clear k1 k2 k3))
  (first | go_end0 | refine bodyPost_ret (results_none rfl _ _ _) rfl ?_)
  obtain ⟨X', h1, h2⟩ := HQ.out
  exact ⟨rfl, X', h1, h2.perm List.perm_middle⟩
set_option maxHeartbeats 8000000 in
set_option maxRecDepth 100000 in
theorem write_k0 (w0 w : World) (L X : Hl) (gw : Nat) (sz : Int) (Z N : Nat) (A : Option Addr) (c : Nat) (D : List (List Int)) (x : Int) (k at_ : Int) (h1 : k < 0) (hz : sz = (Z : Int)) (hD : D.length = N) (hX : RefA X A c Z D) (hO : Own w0 w ((gw, .cells #[.int .i64 sz, .slice A N c] 129 (0, 0)) :: (X ++ L))) :
    Calls Try.prog 20 #[.pointer (some ⟨gw, 0, none⟩), .int .i64 k, .int .i64 at_, .int .u8 x] w fun e w' => e = .returned (.tuple #[]) ∧ Own w0 w' ((gw, .cells #[.int .i64 sz, .slice A N c] 129 (0, 0)) :: (X ++ L)) := by
  have hui := Try.underlying3
  have hul := Try.underlying32
  have hull := Try.underlying127
  have hu8 := Try.underlying5
  have HO : Aside0 (Own w0 w ((gw, .cells #[.int .i64 sz, .slice A N c] 129 (0, 0)) :: (X ++ L))) := ⟨hO⟩
  have c1 : decide (0 ≤ k) = false := decide_eq_false (by omega)
  have hk1 : World.cell? _ ⟨gw, 1, none⟩ = some (.slice A N c) := (HO.out.cell .head 1).trans rfl
  have hk0 : World.cell? _ ⟨gw, 0, none⟩ = some (.int .i64 sz) := (HO.out.cell .head 0).trans rfl
  clear hO hX hz hD h1
  go_enter Try.func20, Try.ntmps20
  go_wp2
  (first | go_end0 | refine bodyPost_ret (results_none rfl _ _ _) rfl ?_)
  exact ⟨rfl, HO.out⟩
set_option maxHeartbeats 8000000 in
set_option maxRecDepth 100000 in
theorem write_kn (w0 w : World) (L X : Hl) (gw : Nat) (sz : Int) (Z N : Nat) (A : Option Addr) (c : Nat) (D : List (List Int)) (x : Int) (k at_ : Int) (h0 : 0 ≤ k) (h1 : (N : Int) ≤ k) (hz : sz = (Z : Int)) (hD : D.length = N) (hX : RefA X A c Z D) (hO : Own w0 w ((gw, .cells #[.int .i64 sz, .slice A N c] 129 (0, 0)) :: (X ++ L))) :
    Calls Try.prog 20 #[.pointer (some ⟨gw, 0, none⟩), .int .i64 k, .int .i64 at_, .int .u8 x] w fun e w' => e = .returned (.tuple #[]) ∧ Own w0 w' ((gw, .cells #[.int .i64 sz, .slice A N c] 129 (0, 0)) :: (X ++ L)) := by
  have hui := Try.underlying3
  have hul := Try.underlying32
  have hull := Try.underlying127
  have hu8 := Try.underlying5
  have HO : Aside0 (Own w0 w ((gw, .cells #[.int .i64 sz, .slice A N c] 129 (0, 0)) :: (X ++ L))) := ⟨hO⟩
  have c1 : decide (0 ≤ k) = true := decide_eq_true (by omega)
  have c2 : decide (k < (N : Int)) = false := decide_eq_false (by omega)
  have hk1 : World.cell? _ ⟨gw, 1, none⟩ = some (.slice A N c) := (HO.out.cell .head 1).trans rfl
  have hk0 : World.cell? _ ⟨gw, 0, none⟩ = some (.int .i64 sz) := (HO.out.cell .head 0).trans rfl
  clear hO hX hz hD h0 h1
  go_enter Try.func20, Try.ntmps20
  go_wp2
  (first | go_end0 | refine bodyPost_ret (results_none rfl _ _ _) rfl ?_)
  exact ⟨rfl, HO.out⟩
set_option maxHeartbeats 8000000 in
set_option maxRecDepth 100000 in
theorem write_a0 (w0 w : World) (L X : Hl) (gw : Nat) (sz : Int) (Z N : Nat) (A : Option Addr) (c : Nat) (D : List (List Int)) (x : Int) (k at_ : Int) (h0 : 0 ≤ k) (h1 : k < (N : Int)) (h2 : at_ < 0) (hz : sz = (Z : Int)) (hD : D.length = N) (hX : RefA X A c Z D) (hO : Own w0 w ((gw, .cells #[.int .i64 sz, .slice A N c] 129 (0, 0)) :: (X ++ L))) :
    Calls Try.prog 20 #[.pointer (some ⟨gw, 0, none⟩), .int .i64 k, .int .i64 at_, .int .u8 x] w fun e w' => e = .returned (.tuple #[]) ∧ Own w0 w' ((gw, .cells #[.int .i64 sz, .slice A N c] 129 (0, 0)) :: (X ++ L)) := by
  have hui := Try.underlying3
  have hul := Try.underlying32
  have hull := Try.underlying127
  have hu8 := Try.underlying5
  have HO : Aside0 (Own w0 w ((gw, .cells #[.int .i64 sz, .slice A N c] 129 (0, 0)) :: (X ++ L))) := ⟨hO⟩
  have c1 : decide (0 ≤ k) = true := decide_eq_true (by omega)
  have c2 : decide (k < (N : Int)) = true := decide_eq_true (by omega)
  have c3 : decide (0 ≤ at_) = false := decide_eq_false (by omega)
  have hk1 : World.cell? _ ⟨gw, 1, none⟩ = some (.slice A N c) := (HO.out.cell .head 1).trans rfl
  have hk0 : World.cell? _ ⟨gw, 0, none⟩ = some (.int .i64 sz) := (HO.out.cell .head 0).trans rfl
  clear hO hX hz hD h0 h1 h2
  go_enter Try.func20, Try.ntmps20
  go_wp2
  (first | go_end0 | refine bodyPost_ret (results_none rfl _ _ _) rfl ?_)
  exact ⟨rfl, HO.out⟩
set_option maxHeartbeats 8000000 in
set_option maxRecDepth 100000 in
theorem write_an (w0 w : World) (L X : Hl) (gw : Nat) (sz : Int) (Z N : Nat) (A : Option Addr) (c : Nat) (D : List (List Int)) (x : Int) (k at_ : Int) (h0 : 0 ≤ k) (h1 : k < (N : Int)) (h2 : 0 ≤ at_) (h3 : sz ≤ at_) (hz : sz = (Z : Int)) (hD : D.length = N) (hX : RefA X A c Z D) (hO : Own w0 w ((gw, .cells #[.int .i64 sz, .slice A N c] 129 (0, 0)) :: (X ++ L))) :
    Calls Try.prog 20 #[.pointer (some ⟨gw, 0, none⟩), .int .i64 k, .int .i64 at_, .int .u8 x] w fun e w' => e = .returned (.tuple #[]) ∧ Own w0 w' ((gw, .cells #[.int .i64 sz, .slice A N c] 129 (0, 0)) :: (X ++ L)) := by
  have hui := Try.underlying3
  have hul := Try.underlying32
  have hull := Try.underlying127
  have hu8 := Try.underlying5
  have HO : Aside0 (Own w0 w ((gw, .cells #[.int .i64 sz, .slice A N c] 129 (0, 0)) :: (X ++ L))) := ⟨hO⟩
  have c1 : decide (0 ≤ k) = true := decide_eq_true (by omega)
  have c2 : decide (k < (N : Int)) = true := decide_eq_true (by omega)
  have c3 : decide (0 ≤ at_) = true := decide_eq_true (by omega)
  have c4 : decide (at_ < sz) = false := decide_eq_false (by omega)
  have hk1 : World.cell? _ ⟨gw, 1, none⟩ = some (.slice A N c) := (HO.out.cell .head 1).trans rfl
  have hk0 : World.cell? _ ⟨gw, 0, none⟩ = some (.int .i64 sz) := (HO.out.cell .head 0).trans rfl
  clear hO hX hz hD h0 h1 h2 h3
  go_enter Try.func20, Try.ntmps20
  go_wp2
  (first | go_end0 | refine bodyPost_ret (results_none rfl _ _ _) rfl ?_)
  exact ⟨rfl, HO.out⟩
/-- What a write makes of the slots. -/
def wrote (D : List (List Int)) (Z : Nat) (k at_ x : Int) : List (List Int) := if 0 ≤ k ∧ k < D.length ∧ 0 ≤ at_ ∧ at_ < Z then D.set k.toNat ((D.getD k.toNat []).set at_.toNat x) else D
theorem write_calls (w0 w : World) (L X : Hl) (gw : Nat) (sz : Int) (Z N : Nat) (A : Option Addr) (c : Nat) (D : List (List Int)) (x : Int) (k at_ : Int) (hN : N ≤ 16) (hZ : Z ≤ 32) (hz : sz = (Z : Int)) (hD : D.length = N) (hX : RefA X A c Z D) (hO : Own w0 w ((gw, .cells #[.int .i64 sz, .slice A N c] 129 (0, 0)) :: (X ++ L))) :
    Calls Try.prog 20 #[.pointer (some ⟨gw, 0, none⟩), .int .i64 k, .int .i64 at_, .int .u8 x] w fun e w' => e = .returned (.tuple #[]) ∧ ∃ X', RefA X' A c Z (wrote D Z k at_ x) ∧ Own w0 w' ((gw, .cells #[.int .i64 sz, .slice A N c] 129 (0, 0)) :: (X' ++ L)) := by
  have no : ∀ (h : ¬ (0 ≤ k ∧ k < D.length ∧ 0 ≤ at_ ∧ at_ < Z)), wrote D Z k at_ x = D := fun h => if_neg h
  by_cases h1 : k < 0
  · rw [no (by omega)]
    exact (write_k0 w0 w L X gw sz Z N A c D x k at_ h1 hz hD hX hO).mono fun e w' h => ⟨h.1, X, hX, h.2⟩
  by_cases h2 : (N : Int) ≤ k
  · rw [no (by omega)]
    exact (write_kn w0 w L X gw sz Z N A c D x k at_ (by omega) h2 hz hD hX hO).mono fun e w' h => ⟨h.1, X, hX, h.2⟩
  by_cases h3 : at_ < 0
  · rw [no (by omega)]
    exact (write_a0 w0 w L X gw sz Z N A c D x k at_ (by omega) (by omega) h3 hz hD hX hO).mono fun e w' h => ⟨h.1, X, hX, h.2⟩
  by_cases h4 : sz ≤ at_
  · rw [no (by omega)]
    exact (write_an w0 w L X gw sz Z N A c D x k at_ (by omega) (by omega) (by omega) h4 hz hD hX hO).mono fun e w' h => ⟨h.1, X, hX, h.2⟩
  have e : wrote D Z k at_ x = D.set k.toNat ((D.getD k.toNat []).set at_.toNat x) := if_pos (by omega)
  rw [e]
  have ek : k = ((k.toNat : Nat) : Int) := by omega
  have ea : at_ = ((at_.toNat : Nat) : Int) := by omega
  have h := write_in w0 w L X gw sz Z N A c D x k.toNat at_.toNat (by omega) (by omega) hN hZ hz hD hX hO
  rw [← ek, ← ea] at h
  exact h
set_option maxHeartbeats 8000000 in
set_option maxRecDepth 100000 in
theorem rbytes_calls (w0 w : World) (L X : Hl) (gw : Nat) (sz : Int) (Z N : Nat) (A : Option Addr) (c : Nat) (D : List (List Int)) (hN : N ≤ 16) (hZ : Z ≤ 32) (hz : sz = (Z : Int)) (hD : D.length = N) (hX : RefA X A c Z D) (hO : Own w0 w ((gw, .cells #[.int .i64 sz, .slice A N c] 129 (0, 0)) :: (X ++ L))) :
    Calls Try.prog 21 #[.pointer (some ⟨gw, 0, none⟩)] w fun e w' => ∃ v', e = .returned v' ∧ ∃ R', RowOf 5 1 R' v' (N * Z) (D.flatten.map (Value.int .u8)) ∧ Own w0 w' ((gw, .cells #[.int .i64 sz, .slice A N c] 129 (0, 0)) :: (X ++ (R' ++ L))) := by
  have hui := Try.underlying3
  have hul := Try.underlying32
  have hull := Try.underlying127
  have hu8 := Try.underlying5
  have HO : Aside0 (Own w0 w ((gw, .cells #[.int .i64 sz, .slice A N c] 129 (0, 0)) :: (X ++ L))) := ⟨hO⟩
  have HX := Aside0.mk hX
  have HD := Aside0.mk hD
  have HN := Aside0.mk hN
  have HZ := Aside0.mk hZ
  clear hO hX hz hD hN hZ
  go_enter Try.func21, Try.ntmps21
  go_wp2
  go_loopg [3, 4] N (fun gk v3 v4 w' => ∃ (i : Nat) (R3 : Hl), v4 = .int .i64 (i : Int) ∧ Aside0 (i + gk = N) ∧ Aside0 (RowOf 5 1 R3 v3 (i * Z) ((D.take i).flatten.map (Value.int .u8))) ∧ Aside0 (Own w0 w' ((gw, .cells #[.int .i64 sz, .slice A N c] 129 (0, 0)) :: (X ++ (R3 ++ L)))))
  case atStart => exact ⟨0, [], rfl, ⟨by omega⟩, ⟨by rw [Nat.zero_mul]; exact RowOf.none _ _⟩, HO⟩
  case round =>
    clear HO
    obtain ⟨i, R3, rfl, HI, HR, HO⟩ := hrel
    cases gk with
    | zero =>
      have c1 : decide ((i : Int) < (N : Int)) = false := decide_eq_false (by have := HI.out; omega)
      have c1n : decide (i < N) = false := decide_eq_false (by have := HI.out; omega)
      go_wp2_with (first | ((with_reducible refine gate_dst (N := 9) rfl ?_); refine own_load HO.out rfl (x := .tmp 8) (v := .slice A N c) rfl (by rfl) (by (repeat (first | exact .head | apply Ext.tail))) hull (by rfl) (by rfl) ?_))
      go_ret
      obtain rfl : i = N := by have := HI.out; omega
      refine ⟨_, rfl, R3, ?_, HO.out⟩
      have := HR.out
      rw [List.take_of_length_le (by rw [HD.out]; exact Nat.le_refl _)] at this
      exact this
    | succ n =>
      have hi : i < D.length := by have := HI.out; have := HD.out; omega
      obtain ⟨gs, g, rfl, hcell, hblk, _⟩ := HX.out.at HO.out.drop i hi
      have HDL : Aside0 (((D[i]).map (Value.int .u8)).length = Z * 1) := ⟨by rw [List.length_map, HX.out.len _ (List.getElem_mem hi), Nat.mul_one]⟩
      have HB := Aside0.mk hblk
      have HIL := Aside0.mk hi
      have HLE : Aside0 (i * Z + Z ≤ 512) := ⟨by
        have h1 : (i + 1) * Z ≤ 16 * 32 := Nat.mul_le_mul (by have := HI.out; have := HN.out; omega) HZ.out
        rw [Nat.add_mul, Nat.one_mul] at h1
        omega⟩
      have c1 : decide ((i : Int) < (N : Int)) = true := decide_eq_true (by have := HI.out; omega)
      have c1n : decide (i < N) = true := decide_eq_true (by have := HI.out; omega)
      have hiw : IntKind.i64.wrap ((i : Int) + 1) = ((i + 1 : Nat) : Int) := (IntWalk.i64_in _ (by have := HI.out; have := HN.out; omega)).trans (by omega)
      have hiw2 : wrap64 ((i : Int) + 1) = ((i + 1 : Nat) : Int) := (i64_w _).symm.trans hiw
      have p1 := eq_true (show 0 ≤ (i : Int) by omega)
      have q1 := eq_true (show (i : Int) < (N : Int) by have := HI.out; omega)
      have q1n := eq_true (show i < N by have := HI.out; omega)
      unfold slv at hcell
      clear hblk
      go_wp2_with (first | ((with_reducible refine gate_dst (N := 9) rfl ?_); refine own_load HO.out rfl (x := .tmp 8) (v := .slice (some ⟨gs, 0, none⟩) N c) rfl (by rfl) (by (repeat (first | exact .head | apply Ext.tail))) hull (by rfl) (by rfl) ?_) | ((with_reducible refine gate_dst (N := 18) rfl ?_); refine own_load HO.out rfl (x := .tmp 17) (v := .slice (some ⟨gs, 0, none⟩) N c) rfl (by rfl) (by (repeat (first | exact .head | apply Ext.tail))) hull (by rfl) (by rfl) ?_) | ((with_reducible refine gate_dst (N := 22) rfl ?_); refine own_append (z := .int .u8 0) (size := 1) (bytes := 1) (R := R3) (L := L) ((gw, .cells #[.int .i64 sz, .slice (some ⟨gs, 0, none⟩) N c] 129 (0, 0)) :: X) HO.out rfl rfl hul (by kernel_rfl) rfl (by rfl) HR.out (by rfl) (Src.ofSlice (P := Try.prog) _ hul ⟨g, 0, none⟩ Z Z ((D[i]).map (Value.int .u8)) HDL.out (fun j u hj => by rw [Addr.add_lit, Nat.zero_add, blk_cell HB.out j]; simpa [u8s] using hj) (u8s_one _)) (by have := HLE.out; show i * Z + Z ≤ 9223372036854775807; omega) (by have := HLE.out; omega) ?_; intro v2 R2 wc hR2 hO_; have HR2 := Aside0.mk hR2; clear hR2; have hO_ : Own w0 wc ((gw, .cells #[.int .i64 sz, .slice (some ⟨gs, 0, none⟩) N c] 129 (0, 0)) :: (X ++ (R2 ++ L))) := hO_; clear HO; have HO := Aside0.mk hO_; clear hO_))
      go_roundg n
      case measure => omega
      case rel =>
        refine ⟨i + 1, R2, rfl, ⟨by have := HI.out; omega⟩, ⟨?_⟩, HO⟩
        have := HR2.out
        rw [Nat.add_mul, Nat.one_mul]
        have e : (D.take (i + 1)).flatten.map (Value.int .u8) = (D.take i).flatten.map (Value.int .u8) ++ (D[i]'HIL.out).map (Value.int .u8) := by
          rw [List.take_succ_eq_append_getElem HIL.out]
          simp only [List.flatten_append, List.flatten_cons, List.flatten_nil, List.append_nil, List.map_append]
        rw [e]
        exact this
end Go.Proofs.Ar
