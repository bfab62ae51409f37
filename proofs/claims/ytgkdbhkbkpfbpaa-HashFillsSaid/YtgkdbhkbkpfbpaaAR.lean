/- Contracts of the array's methods, and of the document's array, over lists of blocks; no conditions beyond each theorem's own. -/
import Derived.Test.YtgkdbhkbkpfbpaaHS
import Derived.Test.YtgkdbhkbkpfbpaaProg
set_option linter.unusedVariables false
set_option linter.unusedSimpArgs false
namespace Go.Proofs.Ar
open Go.RowKit Go.Proofs.Ev Go.Proofs.Hp Go.Proofs.YtgkdbhkbkpfbpaaW.PrintWords Go.Proofs.YtgkdbhkbkpfbpaaW.PrintLast Go.Proofs.YtgkdbhkbkpfbpaaW.PrintMore
attribute [local go_sem] max2_int min2_int max_two min_two max_three min_three max_four min_four eql_slice_nil
def u8s (l : List Int) : Array Value := (l.map (Value.int .u8)).toArray
def arrSeg (ga gb : Nat) (sz : Int) (N : Nat) (B : List Int) : Hl := [(ga, .cells #[.int .i64 sz, .slice (some ⟨gb, 0, none⟩) N N] 126 (0, 0)), (gb, .cells (u8s B) 5 (0, 0))]
theorem u8s_one (l : List Int) : ∀ u ∈ l.map (Value.int .u8), u.oneCell' = true := fun u hu => by
  obtain ⟨x, _, rfl⟩ := List.mem_map.1 hu
  rfl
theorem made_u8 (n : Nat) : madeCells (Value.int .u8 0).cells (n * 1) = u8s (List.replicate n 0) := by
  apply Array.ext
  · simp [madeCells, u8s]
  · intro i h1 h2
    simp [madeCells, u8s, Value.cells, Nat.mod_one]
theorem _root_.Go.Proofs.Hp.Own.twof {w0 W : World} {a b : Nat × Obj} {L : Hl} (h : Own w0 W (a :: b :: L)) : Own w0 W (b :: a :: L) := h.perm (List.Perm.swap _ _ _)
theorem _root_.Go.Proofs.Hp.Own.apptwo {w0 W : World} {a b : Nat × Obj} {R L : Hl} (h : Own w0 W (R ++ (a :: b :: L))) : Own w0 W (R ++ (b :: a :: L)) := h.perm (List.Perm.append_left _ (List.Perm.swap _ _ _))
theorem _root_.Go.Proofs.Hp.Own.front3 {w0 W : World} {a : Nat × Obj} {R R' L : Hl} (h : Own w0 W (R' ++ (R ++ (a :: L)))) : Own w0 W (a :: (R ++ (R' ++ L))) := by
  refine h.perm ?_
  refine (List.Perm.append_left R' List.perm_middle).trans (List.perm_middle.trans (List.Perm.cons _ ?_))
  rw [← List.append_assoc, ← List.append_assoc]
  exact List.Perm.append_right _ List.perm_append_comm
theorem exec_slice3 {P : Program} {o : Oper} {a : Act} {w : World} {t e : TypeId} {x lo hi mx : Operand} {g off n cap i j m size : Nat} {k1 k2 k3 : IntKind} (ho : o.op = .slice t x (some lo) (some hi) (some mx)) (ht : P.underlying t = some (.slice e)) (hi' : (P.info? e).map (·.size) = some size)
    (hx : a.eval x = .slice (some ⟨g, off, none⟩) n cap) (hl : a.eval lo = .int k1 (i : Int)) (hh : a.eval hi = .int k2 (j : Int)) (hm : a.eval mx = .int k3 (m : Int)) (h1 : i ≤ j) (h2 : j ≤ m) (h3 : m ≤ cap) (h4 : i < m) {v : Value} (hv : .slice (some ⟨g, off + i * size, none⟩) (j - i) (m - i) = v) :
    (execOp a.eval o).run P w = .ok (.value v) w := by
  subst hv
  have hel : P.elem t = e := by unfold Program.elem; rw [ht]
  have ht' : P.underlying t = some (.slice (P.elem t)) := by rw [hel]; exact ht
  obtain ⟨ti, ht1, ht2⟩ : ∃ ti, P.info? e = some ti ∧ ti.size = size := by
    cases hq : P.info? e with
    | none => rw [hq] at hi'; simp at hi'
    | some ti => exact ⟨ti, rfl, by rw [hq] at hi'; simpa using hi'⟩
  have hs : (sizeOf e).run P w = .ok size w := by
    have := run_sizeOf w ht1
    rw [this]
    simp [Program.cellsOf, ht1, ht2]
  have hrun : (Instr.sliceAt t (.slice (some ⟨g, off, none⟩) n cap) (some (.int k1 (i : Int))) (some (.int k2 (j : Int))) (some (.int k3 (m : Int)))).run P w = .ok (.slice (some ⟨g, off + i * size, none⟩) (j - i) (m - i)) w := by
    rw [run_sliceAt_slice w t _ _ _ _ ht', run_slice_lhm w t _ _ _ ht' k1 k2 k3 _ _ _ (by omega) (by omega) (by omega) (by omega), hel, hs]
    simp only [Result.andThen, sliced, Int.toNat_natCast]
    rw [if_neg (by omega)]
    simp only [Option.map_some, Addr.add_lit]
  unfold execOp
  rw [ho]
  simp only [Option.map_some, hx, hl, hh, hm, hrun, Sem.run_bind, Result.andThen]
  rfl
theorem row_u8 {g N : Nat} {B : List Int} (h : B.length = N) (hm : N ≤ 512) : RowOf 5 1 [(g, .cells (u8s B) 5 (0, 0))] (.slice (some ⟨g, 0, none⟩) N N) N (B.map (Value.int .u8)) :=
  RowOf.ofBlock (by simp [h]) (by unfold maxLen; omega)
set_option maxHeartbeats 8000000 in
set_option maxRecDepth 100000 in
theorem clone_u8 (w0 w : World) (L R : Hl) (v : Value) (n : Nat) (xs : List Value) (hR : RowOf 5 1 R v n xs) (h1 : ∀ u ∈ xs, u.oneCell' = true) (hn : n ≤ 1048576) (hO : Own w0 w (R ++ L)) :
    Calls Try.prog 75 #[v] w fun e w' => ∃ v', e = .returned v' ∧ ∃ R', RowOf 5 1 R' v' n xs ∧ Own w0 w' (R' ++ (R ++ L)) := by
  have hul := Try.underlying32
  have HO := Aside0.mk hO
  have HR := Aside0.mk hR
  have H1 := Aside0.mk h1
  have HN := Aside0.mk hn
  clear hO h1 hn
  rcases hR.2 with ⟨rfl, _, _⟩ | ⟨g, cap, cur, rfl, hRe, _, _, _, _⟩
  · go_enter Try.func75, Try.ntmps75
    go_wp2
    go_ret
    refine ⟨_, rfl, [], ?_, HO.out⟩
    have h := HR.out
    rcases h.2 with ⟨_, rfl, _⟩ | ⟨_, _, _, hh, _⟩
    · exact ⟨h.1, .inl ⟨rfl, rfl, rfl⟩⟩
    · cases hh
  · clear hR hRe
    go_enter Try.func75, Try.ntmps75
    go_wp2_with (first | ((with_reducible refine gate_dst (N := 5) rfl ?_); refine own_lit HO.out ?hg (N := 5) ?hd (cs := #[]) (t := 5) (n := 0) (m := 0) ?hr ?_; (case hd => rfl); (case hg => rfl); (case hr => first | (go_simp; done) | (go_simp; rfl) | kernel_rfl); intro g5 w5 hO_; clear HO; have HO := Aside0.mk hO_; clear hO_) | ((with_reducible refine gate_dst (N := 7) rfl ?_); refine own_append (z := .int .u8 0) (size := 1) (bytes := 1) (R := [(g5, .cells #[] 5 (0, 0))]) (L := R ++ L) [] HO.out rfl rfl hul (by kernel_rfl) rfl (by rfl) ⟨rfl, .inr ⟨g5, 0, #[], rfl, rfl, Nat.le_refl _, by decide, rfl, rfl⟩⟩ (by rfl) (HR.out.src HO.out.drop hul H1.out) (by have := HN.out; show 0 + n ≤ 9223372036854775807; omega) (by have := HN.out; omega) ?_; intro v2 R2 wc hR2 hO_; have HR2 := Aside0.mk hR2; clear hR2; clear HO; have HO := Aside0.mk hO_; clear hO_))
    go_ret
    refine ⟨v2, rfl, R2, ?_, HO.out⟩
    have h := HR2.out
    rw [Nat.zero_add] at h
    exact h
set_option maxHeartbeats 8000000 in
set_option maxRecDepth 100000 in
theorem size_calls (w0 w : World) (L : Hl) (ga gb : Nat) (sz : Int) (N : Nat) (B : List Int) (hO : Own w0 w ((ga, .cells #[.int .i64 sz, .slice (some ⟨gb, 0, none⟩) N N] 126 (0, 0)) :: (gb, .cells (u8s B) 5 (0, 0)) :: L)) :
    Calls Try.prog 23 #[.pointer (some ⟨ga, 0, none⟩)] w fun e w' => e = .returned (.int .i64 sz) ∧ Own w0 w' ((ga, .cells #[.int .i64 sz, .slice (some ⟨gb, 0, none⟩) N N] 126 (0, 0)) :: (gb, .cells (u8s B) 5 (0, 0)) :: L) := by
  have hui := Try.underlying3
  have hul := Try.underlying32
  have hua := Try.underlying126
  have HO : Aside0 (Own w0 w ((ga, .cells #[.int .i64 sz, .slice (some ⟨gb, 0, none⟩) N N] 126 (0, 0)) :: (gb, .cells (u8s B) 5 (0, 0)) :: L)) := ⟨hO⟩
  clear hO
  go_enter Try.func23, Try.ntmps23
  go_wp2_with (first | ((with_reducible refine gate_dst (N := 8) rfl ?_); refine own_load HO.out rfl (x := .tmp 7) (v := .int .i64 sz) rfl (by rfl) (by (repeat (first | exact .head | apply Ext.tail))) hui (by rfl) (by rfl) ?_))
  go_ret
  exact ⟨rfl, HO.out⟩
set_option maxHeartbeats 8000000 in
set_option maxRecDepth 100000 in
theorem len_calls (w0 w : World) (L : Hl) (ga gb : Nat) (sz : Int) (N : Nat) (B : List Int) (n : Int) (hz : 1 ≤ sz) (hn : 0 ≤ n ∧ n ≤ 16) (hN : (N : Int) = sz * n) (hO : Own w0 w ((ga, .cells #[.int .i64 sz, .slice (some ⟨gb, 0, none⟩) N N] 126 (0, 0)) :: (gb, .cells (u8s B) 5 (0, 0)) :: L)) :
    Calls Try.prog 22 #[.pointer (some ⟨ga, 0, none⟩)] w fun e w' => e = .returned (.int .i64 n) ∧ Own w0 w' ((ga, .cells #[.int .i64 sz, .slice (some ⟨gb, 0, none⟩) N N] 126 (0, 0)) :: (gb, .cells (u8s B) 5 (0, 0)) :: L) := by
  have hui := Try.underlying3
  have hul := Try.underlying32
  have hua := Try.underlying126
  have HO : Aside0 (Own w0 w ((ga, .cells #[.int .i64 sz, .slice (some ⟨gb, 0, none⟩) N N] 126 (0, 0)) :: (gb, .cells (u8s B) 5 (0, 0)) :: L)) := ⟨hO⟩
  clear hO
  have c0 : (sz = 0) = False := eq_false (by omega)
  have c1 : (sz == 0) = false := beq_eq_false_iff_ne.mpr (by omega)
  have hq : Int.tdiv (N : Int) sz = n := by rw [hN, Int.mul_comm]; exact Int.mul_tdiv_cancel _ (by omega)
  have hw : wrap64 n = n := by unfold wrap64; omega
  have hw2 : IntKind.i64.wrap n = n := (i64_w _).trans hw
  clear hN hz hn
  go_enter Try.func22, Try.ntmps22
  try go_wp2
  refine start_ (n := 11) (S := fun W => Own w0 W ((ga, .cells #[.int .i64 sz, .slice (some ⟨gb, 0, none⟩) N N] 126 (0, 0)) :: (gb, .cells (u8s B) 5 (0, 0)) :: [])) (ds := []) #[false, false, false, false, false, false, false, false, false, false, false] (by kernel_rfl) rfl rfl (Own.drew (HO.out.picks (.cons (by (repeat (first | exact .head | apply Ext.tail))) (.cons (by (repeat (first | exact .head | apply Ext.tail))) (.nil))))) (fun hHeld => ?_)
  have HO_ := Aside0.mk HO.out.drew
  clear HO
  have HO := HO_
  clear HO_
  generalize World.drew _ = wr at HO hHeld ⊢
  refine Hp.pu_ 0 5 (Hp.up 11 1) ?_
  refine Hp.pu_ 1 6 (Hp.up 11 2) ?_
  refine Hp.pu_ 2 7 (Hp.up 11 3) ?_
  refine take_ (i := 3) (N := some 8) (v := .slice (some ⟨gb, 0, none⟩) N N) (a' := ?_) (Hp.up 11 4) rfl rfl (by kernel_rfl) (fun _ _ _ h => h) (own_yield1 (by rfl) (x := .tmp 7) rfl (by rfl) (.head) Try.underlying32 (by rfl) (by rfl)) hHeld ?_ ?_
  rotate_left
  · simp only [Act.put, List.setIfInBounds_toArray, List.set_cons_zero, List.set_cons_succ, i64_w, i32_w]
    rfl
  refine Hp.pu_ 4 9 (Hp.up 11 5) ?_
  refine Hp.pu_ 5 10 (Hp.up 11 6) ?_
  refine Hp.pu_ 6 11 (Hp.up 11 7) ?_
  refine Hp.pu_ 7 12 (Hp.up 11 8) ?_
  refine take_ (i := 8) (N := some 13) (v := .int .i64 sz) (a' := ?_) (Hp.up 11 9) rfl rfl (by kernel_rfl) (fun _ _ _ h => h) (own_yield1 (by rfl) (x := .tmp 12) rfl (by rfl) (.head) Try.underlying3 (by rfl) (by rfl)) hHeld ?_ ?_
  rotate_left
  · simp only [Act.put, List.setIfInBounds_toArray, List.set_cons_zero, List.set_cons_succ, i64_w, i32_w]
    rfl
  refine Hp.pu_ 9 14 (Hp.up 11 10) ?_
  refine Hp.pu_ 10 2 (Hp.up 11 11) ?_
  refine done_ (by kernel_rfl) ?_
  clear hHeld
  try go_wp2
  go_ret
  exact ⟨rfl, HO.out⟩
set_option maxHeartbeats 8000000 in
set_option maxRecDepth 100000 in
theorem new_bad (sz n : Int) (w : World) (h : ¬ (1 ≤ sz ∧ sz ≤ 32 ∧ 1 ≤ n ∧ n ≤ 16)) : Calls Try.prog 14 #[.int .i64 sz, .int .i64 n] w fun e w' => e = .returned (.tuple #[.pointer none, .int .i64 22]) ∧ w' = w := by
  by_cases h1 : sz < 1
  · have c1 : decide (sz < 1) = true := decide_eq_true h1
    clear h h1
    go_enter Try.func14, Try.ntmps14
    go_wp2
    refine bodyPost_ret (results_tmp2 rfl _ _ _) rfl ?_
    exact ⟨rfl, rfl⟩
  have c1 : decide (sz < 1) = false := decide_eq_false h1
  by_cases h2 : 32 < sz
  · have c2 : decide (32 < sz) = true := decide_eq_true h2
    clear h h1 h2
    go_enter Try.func14, Try.ntmps14
    go_wp2
    refine bodyPost_ret (results_tmp2 rfl _ _ _) rfl ?_
    exact ⟨rfl, rfl⟩
  have c2 : decide (32 < sz) = false := decide_eq_false h2
  by_cases h3 : n < 1
  · have c3 : decide (n < 1) = true := decide_eq_true h3
    clear h h1 h2 h3
    go_enter Try.func14, Try.ntmps14
    go_wp2
    refine bodyPost_ret (results_tmp2 rfl _ _ _) rfl ?_
    exact ⟨rfl, rfl⟩
  have c3 : decide (n < 1) = false := decide_eq_false h3
  have c4 : decide (16 < n) = true := decide_eq_true (by omega)
  clear h h1 h2 h3
  go_enter Try.func14, Try.ntmps14
  go_wp2
  refine bodyPost_ret (results_tmp2 rfl _ _ _) rfl ?_
  exact ⟨rfl, rfl⟩
set_option maxHeartbeats 8000000 in
set_option maxRecDepth 100000 in
theorem new_ok (w0 w : World) (L : Hl) (sz n : Int) (N : Nat) (hz : 1 ≤ sz ∧ sz ≤ 32) (hn : 1 ≤ n ∧ n ≤ 16) (hN : (N : Int) = sz * n) (hm : N ≤ 512) (hO : Own w0 w L) : Calls Try.prog 14 #[.int .i64 sz, .int .i64 n] w fun e w' => ∃ ga, e = .returned (.tuple #[.pointer (some ⟨ga, 0, none⟩), .int .i64 0]) ∧ ∃ gb, Own w0 w' ((ga, .cells #[.int .i64 sz, .slice (some ⟨gb, 0, none⟩) N N] 126 (0, 0)) :: (gb, .cells (u8s (List.replicate N 0)) 5 (0, 0)) :: L) := by
  have hul := Try.underlying32
  have HO := Aside0.mk hO
  have HM := Aside0.mk hm
  clear hO hm
  have c1 : decide (sz < 1) = false := decide_eq_false (by omega)
  have c2 : decide (32 < sz) = false := decide_eq_false (by omega)
  have c3 : decide (n < 1) = false := decide_eq_false (by omega)
  have c4 : decide (16 < n) = false := decide_eq_false (by omega)
  have hw : IntKind.i64.wrap (sz * n) = (N : Int) := by rw [← hN]; exact IntWalk.i64_in _ (by have := HM.out; omega)
  have hw2 : wrap64 (sz * n) = (N : Int) := (i64_w _).symm.trans hw
  clear hz hn hN
  go_enter Try.func14, Try.ntmps14
  go_wp2_with (first | ((with_reducible refine gate_dst (N := 24) rfl ?_); refine own_make (z := .int .u8 0) (size := 1) (bytes := 1) (n := N) HO.out rfl rfl hul (by kernel_rfl) rfl (by rfl) (by rfl) (by have := HM.out; omega) (by have := HM.out; show N ≤ 9223372036854775807; omega) (made_u8 N) ?_; intro g24 w24 hO_; clear HO; have HO := Aside0.mk hO_; clear hO_) | ((with_reducible refine gate_dst (N := 26) rfl ?_); refine own_box HO.out ?hg (N := 26) ?hd (cs := #[.int .i64 sz, .slice (some ⟨g24, 0, none⟩) N N]) (t := 126) ?hr ?_; (case hd => rfl); (case hg => rfl); (case hr => first | (go_simp; done) | (go_simp; rfl) | kernel_rfl); intro g26 w26 hO_; clear HO; have HO := Aside0.mk hO_; clear hO_))
  refine bodyPost_ret (results_tmp2 rfl _ _ _) rfl ?_
  exact ⟨_, rfl, _, HO.out⟩
set_option maxHeartbeats 8000000 in
set_option maxRecDepth 100000 in
theorem bytes_calls (w0 w : World) (L : Hl) (ga gb : Nat) (sz : Int) (N : Nat) (B : List Int) (hB : B.length = N) (hm : N ≤ 512) (hO : Own w0 w ((ga, .cells #[.int .i64 sz, .slice (some ⟨gb, 0, none⟩) N N] 126 (0, 0)) :: (gb, .cells (u8s B) 5 (0, 0)) :: L)) :
    Calls Try.prog 18 #[.pointer (some ⟨ga, 0, none⟩)] w fun e w' => ∃ v', e = .returned v' ∧ ∃ R', RowOf 5 1 R' v' N (B.map (Value.int .u8)) ∧ Own w0 w' (R' ++ ((ga, .cells #[.int .i64 sz, .slice (some ⟨gb, 0, none⟩) N N] 126 (0, 0)) :: (gb, .cells (u8s B) 5 (0, 0)) :: L)) := by
  have hui := Try.underlying3
  have hul := Try.underlying32
  have hua := Try.underlying126
  have HO : Aside0 (Own w0 w ((ga, .cells #[.int .i64 sz, .slice (some ⟨gb, 0, none⟩) N N] 126 (0, 0)) :: (gb, .cells (u8s B) 5 (0, 0)) :: L)) := ⟨hO⟩
  clear hO
  have HB := Aside0.mk hB
  have HM := Aside0.mk hm
  clear hB hm
  go_enter Try.func18, Try.ntmps18
  go_wp2_with (first | ((with_reducible refine gate_dst (N := 8) rfl ?_); refine own_load HO.out rfl (x := .tmp 7) (v := .slice (some ⟨gb, 0, none⟩) N N) rfl (by rfl) (by (repeat (first | exact .head | apply Ext.tail))) hul (by rfl) (by rfl) ?_) | ((with_reducible refine gate_callee (f := 75) rfl ?_); (with_reducible refine gate_dst (N := 9) rfl ?_); refine goesL_ (some 9) rfl rfl Try.func75 (by kernel_rfl) rfl #[.slice (some ⟨gb, 0, none⟩) N N] rfl (by (try simp only [List.map_toArray, List.map_cons, List.map_nil]); first | done | rfl) ?_; (with_reducible refine (clone_u8 w0 _ ((ga, .cells #[.int .i64 sz, .slice (some ⟨gb, 0, none⟩) N N] 126 (0, 0)) :: L) [(gb, .cells (u8s B) 5 (0, 0))] _ N _ (row_u8 HB.out HM.out) (u8s_one B) (by have := HM.out; omega) HO.out.twof).mono ?_); rintro e wx ⟨v2, rfl, R2, hR2, hO_⟩; refine ⟨_, rfl, ?_⟩; have HR2 := Aside0.mk hR2; clear hR2; have hO_ : Own w0 wx (R2 ++ ((ga, .cells #[.int .i64 sz, .slice (some ⟨gb, 0, none⟩) N N] 126 (0, 0)) :: (gb, .cells (u8s B) 5 (0, 0)) :: L)) := hO_.apptwo; clear HO; have HO := Aside0.mk hO_; clear hO_))
  go_ret
  exact ⟨_, rfl, _, HR2.out, HO.out⟩
set_option maxHeartbeats 8000000 in
set_option maxRecDepth 100000 in
theorem slot_none (w0 w : World) (L : Hl) (ga gb : Nat) (sz : Int) (N : Nat) (B : List Int) (k n : Int) (hz : 1 ≤ sz ∧ sz ≤ 32) (hn : 0 ≤ n ∧ n ≤ 16) (hN : (N : Int) = sz * n) (hk : k < 0 ∨ n ≤ k) (hO : Own w0 w ((ga, .cells #[.int .i64 sz, .slice (some ⟨gb, 0, none⟩) N N] 126 (0, 0)) :: (gb, .cells (u8s B) 5 (0, 0)) :: L)) :
    Calls Try.prog 19 #[.pointer (some ⟨ga, 0, none⟩), .int .i64 k] w fun e w' => e = .returned (.tuple #[.slice none 0 0, .bool false]) ∧ Own w0 w' ((ga, .cells #[.int .i64 sz, .slice (some ⟨gb, 0, none⟩) N N] 126 (0, 0)) :: (gb, .cells (u8s B) 5 (0, 0)) :: L) := by
  have hui := Try.underlying3
  have hul := Try.underlying32
  have hua := Try.underlying126
  have HO : Aside0 (Own w0 w ((ga, .cells #[.int .i64 sz, .slice (some ⟨gb, 0, none⟩) N N] 126 (0, 0)) :: (gb, .cells (u8s B) 5 (0, 0)) :: L)) := ⟨hO⟩
  clear hO
  have HZ : Aside0 (1 ≤ sz) := ⟨hz.1⟩
  have HN := Aside0.mk hn
  have HS := Aside0.mk hN
  clear hz hn hN
  by_cases c : k < 0
  · have c1 : decide (k < 0) = true := decide_eq_true c
    clear c hk
    go_enter Try.func19, Try.ntmps19
    go_wp2
    refine bodyPost_ret (results_tmp2 rfl _ _ _) rfl ?_
    exact ⟨rfl, HO.out⟩
  · have c1 : decide (k < 0) = false := decide_eq_false c
    have c2 : decide (n ≤ k) = true := decide_eq_true (by omega)
    clear c hk
    go_enter Try.func19, Try.ntmps19
    go_wp2_with (first | (go_at_call 22; refine (len_calls w0 _ L ga gb sz N B n HZ.out HN.out HS.out HO.out).mono ?_; rintro e wk ⟨rfl, hO_⟩; clear HO; have HO := Aside0.mk hO_; clear hO_; dsimp only))
    refine bodyPost_ret (results_tmp2 rfl _ _ _) rfl ?_
    exact ⟨rfl, HO.out⟩
set_option maxHeartbeats 8000000 in
set_option maxRecDepth 100000 in
theorem slot_ok (w0 w : World) (L : Hl) (ga gb : Nat) (sz : Int) (N : Nat) (B : List Int) (k n : Int) (hz : 1 ≤ sz ∧ sz ≤ 32) (hn : 0 ≤ n ∧ n ≤ 16) (hN : (N : Int) = sz * n) (K Z : Nat) (hk : 0 ≤ k ∧ k < n) (hK : (K : Int) = k * sz) (hZ : (Z : Int) = sz) (hle : K + Z ≤ N) (hm : N ≤ 512) (hO : Own w0 w ((ga, .cells #[.int .i64 sz, .slice (some ⟨gb, 0, none⟩) N N] 126 (0, 0)) :: (gb, .cells (u8s B) 5 (0, 0)) :: L)) :
    Calls Try.prog 19 #[.pointer (some ⟨ga, 0, none⟩), .int .i64 k] w fun e w' => e = .returned (.tuple #[.slice (some ⟨gb, K, none⟩) Z Z, .bool true]) ∧ Own w0 w' ((ga, .cells #[.int .i64 sz, .slice (some ⟨gb, 0, none⟩) N N] 126 (0, 0)) :: (gb, .cells (u8s B) 5 (0, 0)) :: L) := by
  have hui := Try.underlying3
  have hul := Try.underlying32
  have hua := Try.underlying126
  have HO : Aside0 (Own w0 w ((ga, .cells #[.int .i64 sz, .slice (some ⟨gb, 0, none⟩) N N] 126 (0, 0)) :: (gb, .cells (u8s B) 5 (0, 0)) :: L)) := ⟨hO⟩
  clear hO
  have HZ : Aside0 (1 ≤ sz) := ⟨hz.1⟩
  have HN := Aside0.mk hn
  have HS := Aside0.mk hN
  have c1 : decide (k < 0) = false := decide_eq_false (by omega)
  have c2 : decide (n ≤ k) = false := decide_eq_false (by omega)
  have hw : IntKind.i64.wrap (k * sz) = (K : Int) := by rw [← hK]; exact IntWalk.i64_in _ (by omega)
  have hw2 : wrap64 (k * sz) = (K : Int) := (i64_w _).symm.trans hw
  have hv : IntKind.i64.wrap ((K : Int) + sz) = ((K + Z : Nat) : Int) := (IntWalk.i64_in _ (by omega)).trans (by omega)
  have hv2 : wrap64 ((K : Int) + sz) = ((K + Z : Nat) : Int) := (i64_w _).symm.trans hv
  have HKZ : Aside0 (True ∧ K + Z ≤ N ∧ K < K + Z) := ⟨trivial, hle, by omega⟩
  have HKV : Aside0 (Value.slice (some ⟨gb, 0 + K * 1, none⟩) (K + Z - K) (K + Z - K) = Value.slice (some ⟨gb, K, none⟩) Z Z) := ⟨by rw [Nat.mul_one, Nat.zero_add, Nat.add_sub_cancel_left]⟩
  clear hz hn hN hk hK hZ hle hm
  go_enter Try.func19, Try.ntmps19
  go_wp2_with (first | (go_at_call 22; refine (len_calls w0 _ L ga gb sz N B n HZ.out HN.out HS.out HO.out).mono ?_; rintro e wk ⟨rfl, hO_⟩; clear HO; have HO := Aside0.mk hO_; clear hO_; dsimp only) | ((with_reducible refine gate_dst (N := 19) rfl ?_); refine own_load HO.out rfl (x := .tmp 18) (v := .int .i64 sz) rfl (by rfl) (by (repeat (first | exact .head | apply Ext.tail))) hui (by rfl) (by rfl) ?_))
  refine start_ (n := 20) (S := fun W => Own w0 W ((ga, .cells #[.int .i64 sz, .slice (some ⟨gb, 0, none⟩) N N] 126 (0, 0)) :: (gb, .cells (u8s B) 5 (0, 0)) :: [])) (ds := []) #[false, false, false, false, false, false, false, false, false, false, false, false, false, false, false, false, false, false, false, false] (by kernel_rfl) rfl rfl (Own.drew (HO.out.picks (.cons (by (repeat (first | exact .head | apply Ext.tail))) (.cons (by (repeat (first | exact .head | apply Ext.tail))) (.nil))))) (fun hHeld => ?_)
  have HO_ := Aside0.mk HO.out.drew
  clear HO
  have HO := HO_
  clear HO_
  generalize World.drew _ = wr at HO hHeld ⊢
  refine Hp.pu_ 0 21 (Hp.up 20 1) ?_
  refine Hp.pu_ 1 22 (Hp.up 20 2) ?_
  refine Hp.pu_ 2 23 (Hp.up 20 3) ?_
  refine take_ (i := 3) (N := some 24) (v := .slice (some ⟨gb, 0, none⟩) N N) (a' := ?_) (Hp.up 20 4) rfl rfl (by kernel_rfl) (fun _ _ _ h => h) (own_yield1 (by rfl) (x := .tmp 23) rfl (by rfl) (.head) Try.underlying32 (by rfl) (by rfl)) hHeld ?_ ?_
  rotate_left
  · simp only [Act.put, List.setIfInBounds_toArray, List.set_cons_zero, List.set_cons_succ, i64_w, i32_w]
    rfl
  refine Hp.pu_ 4 25 (Hp.up 20 5) ?_
  refine Hp.pu_ 5 26 (Hp.up 20 6) ?_
  refine Hp.pu_ 6 27 (Hp.up 20 7) ?_
  refine Hp.pu_ 7 28 (Hp.up 20 8) ?_
  refine Hp.pu_ 8 29 (Hp.up 20 9) ?_
  refine take_ (i := 9) (N := some 30) (v := .int .i64 sz) (a' := ?_) (Hp.up 20 10) rfl rfl (by kernel_rfl) (fun _ _ _ h => h) (own_yield1 (by rfl) (x := .tmp 29) rfl (by rfl) (.head) Try.underlying3 (by rfl) (by rfl)) hHeld ?_ ?_
  rotate_left
  · simp only [Act.put, List.setIfInBounds_toArray, List.set_cons_zero, List.set_cons_succ, i64_w, i32_w]
    rfl
  refine Hp.pu_ 10 31 (Hp.up 20 11) ?_
  refine Hp.pu_ 11 32 (Hp.up 20 12) ?_
  refine Hp.pu_ 12 33 (Hp.up 20 13) ?_
  refine Hp.pu_ 13 34 (Hp.up 20 14) ?_
  refine Hp.pu_ 14 35 (Hp.up 20 15) ?_
  refine take_ (i := 15) (N := some 36) (v := .int .i64 sz) (a' := ?_) (Hp.up 20 16) rfl rfl (by kernel_rfl) (fun _ _ _ h => h) (own_yield1 (by rfl) (x := .tmp 35) rfl (by rfl) (.head) Try.underlying3 (by rfl) (by rfl)) hHeld ?_ ?_
  rotate_left
  · simp only [Act.put, List.setIfInBounds_toArray, List.set_cons_zero, List.set_cons_succ, i64_w, i32_w]
    rfl
  refine Hp.pu_ 16 37 (Hp.up 20 17) ?_
  refine Hp.pu_ (v := .slice (some ⟨gb, K, none⟩) Z Z) 17 38 (Hp.up 20 18) ?_ (hr := by intro w'; exact exec_slice3 (i := K) (j := K + Z) (m := K + Z) (size := 1) rfl hul (by kernel_rfl) (by rfl) (by rfl) (by rfl) (by rfl) (Nat.le_add_right _ _) (Nat.le_refl _) HKZ.out.2.1 HKZ.out.2.2 HKV.out)
  refine Hp.pu_ 18 4 (Hp.up 20 19) ?_
  refine Hp.pu_ 19 5 (Hp.up 20 20) ?_
  refine done_ (by kernel_rfl) ?_
  clear hHeld
  go_wp2
  refine bodyPost_ret (results_tmp2 rfl _ _ _) rfl ?_
  exact ⟨rfl, HO.out⟩
theorem RowOf.shape {e : TypeId} {size : Nat} {R : Hl} {v : Value} {n : Nat} {xs : List Value} (h : RowOf e size R v n xs) : ∃ A c, v = .slice A n c := by
  rcases h.2 with ⟨rfl, rfl, _⟩ | ⟨g, cap, cur, rfl, _⟩
  · exact ⟨_, _, rfl⟩
  · exact ⟨_, _, rfl⟩
set_option maxHeartbeats 8000000 in
set_option maxRecDepth 100000 in
theorem bytes_row (w0 w : World) (L R : Hl) (ga : Nat) (sz : Int) (v : Value) (N : Nat) (B : List Int) (hR : RowOf 5 1 R v N (B.map (Value.int .u8))) (hm : N ≤ 512) (hO : Own w0 w ((ga, .cells #[.int .i64 sz, v] 126 (0, 0)) :: (R ++ L))) :
    Calls Try.prog 18 #[.pointer (some ⟨ga, 0, none⟩)] w fun e w' => ∃ v', e = .returned v' ∧ ∃ R', RowOf 5 1 R' v' N (B.map (Value.int .u8)) ∧ Own w0 w' ((ga, .cells #[.int .i64 sz, v] 126 (0, 0)) :: (R ++ (R' ++ L))) := by
  have hul := Try.underlying32
  have HR := Aside0.mk hR
  obtain ⟨A, c, rfl⟩ := RowOf.shape hR
  have HO := Aside0.mk hO
  have HM := Aside0.mk hm
  clear hO hm hR
  go_enter Try.func18, Try.ntmps18
  go_wp2_with (first | ((with_reducible refine gate_dst (N := 8) rfl ?_); refine own_load HO.out rfl (x := .tmp 7) (v := .slice A N c) rfl (by rfl) (by (repeat (first | exact .head | apply Ext.tail))) hul (by rfl) (by rfl) ?_) | ((with_reducible refine gate_callee (f := 75) rfl ?_); (with_reducible refine gate_dst (N := 9) rfl ?_); refine goesL_ (some 9) rfl rfl Try.func75 (by kernel_rfl) rfl #[.slice A N c] rfl (by (try simp only [List.map_toArray, List.map_cons, List.map_nil]); first | done | rfl) ?_; (with_reducible refine (clone_u8 w0 _ ((ga, .cells #[.int .i64 sz, .slice A N c] 126 (0, 0)) :: L) R _ N _ HR.out (u8s_one B) (by have := HM.out; omega) (Own.swap3 (B := [(ga, .cells #[.int .i64 sz, .slice A N c] 126 (0, 0))]) HO.out)).mono ?_); rintro e wx ⟨v2, rfl, R2, hR2, hO_⟩; refine ⟨_, rfl, ?_⟩; have HR2 := Aside0.mk hR2; clear hR2; have hO_ : Own w0 wx ((ga, .cells #[.int .i64 sz, .slice A N c] 126 (0, 0)) :: (R ++ (R2 ++ L))) := Own.front3 (a := (ga, .cells #[.int .i64 sz, .slice A N c] 126 (0, 0))) hO_; clear HO; have HO := Aside0.mk hO_; clear hO_))
  go_ret
  exact ⟨_, rfl, _, HR2.out, HO.out⟩
set_option maxHeartbeats 8000000 in
set_option maxRecDepth 100000 in
theorem copy_calls (w0 w : World) (L : Hl) (ga gb : Nat) (sz : Int) (N : Nat) (B : List Int) (hB : B.length = N) (hm : N ≤ 512) (hO : Own w0 w ((ga, .cells #[.int .i64 sz, .slice (some ⟨gb, 0, none⟩) N N] 126 (0, 0)) :: (gb, .cells (u8s B) 5 (0, 0)) :: L)) :
    Calls Try.prog 17 #[.pointer (some ⟨ga, 0, none⟩)] w fun e w' => ∃ gc, e = .returned (.pointer (some ⟨gc, 0, none⟩)) ∧ ∃ A2 c2 R2, RowOf 5 1 R2 (.slice A2 N c2) N (B.map (Value.int .u8)) ∧ Own w0 w' ((gc, .cells #[.int .i64 sz, .slice A2 N c2] 126 (0, 0)) :: (ga, .cells #[.int .i64 sz, .slice (some ⟨gb, 0, none⟩) N N] 126 (0, 0)) :: (gb, .cells (u8s B) 5 (0, 0)) :: (R2 ++ L)) := by
  have hui := Try.underlying3
  have hul := Try.underlying32
  have hua := Try.underlying126
  have HO : Aside0 (Own w0 w ((ga, .cells #[.int .i64 sz, .slice (some ⟨gb, 0, none⟩) N N] 126 (0, 0)) :: (gb, .cells (u8s B) 5 (0, 0)) :: L)) := ⟨hO⟩
  clear hO
  have HB := Aside0.mk hB
  have HM := Aside0.mk hm
  clear hB hm
  go_enter Try.func17, Try.ntmps17
  try go_wp2
  refine start_ (n := 12) (S := fun W => Own w0 W ((ga, .cells #[.int .i64 sz, .slice (some ⟨gb, 0, none⟩) N N] 126 (0, 0)) :: [])) (ds := []) #[false, false, false, false, false, false, false, false, false, false, false, false] (by kernel_rfl) rfl rfl (Own.drew (HO.out.picks (.cons (by (repeat (first | exact .head | apply Ext.tail))) (.nil)))) (fun hHeld => ?_)
  have HO_ := Aside0.mk HO.out.drew
  clear HO
  have HO := HO_
  clear HO_
  generalize World.drew _ = wr at HO hHeld ⊢
  refine Hp.pu_ 0 5 (Hp.up 12 1) ?_
  refine Hp.pu_ 1 6 (Hp.up 12 2) ?_
  refine Hp.pu_ 2 7 (Hp.up 12 3) ?_
  refine take_ (i := 3) (N := some 8) (v := .int .i64 sz) (a' := ?_) (Hp.up 12 4) rfl rfl (by kernel_rfl) (fun _ _ _ h => h) (own_yield1 (by rfl) (x := .tmp 7) rfl (by rfl) (.head) Try.underlying3 (by rfl) (by rfl)) hHeld ?_ ?_
  rotate_left
  · simp only [Act.put, List.setIfInBounds_toArray, List.set_cons_zero, List.set_cons_succ, i64_w, i32_w]
    rfl
  refine Hp.pu_ 4 9 (Hp.up 12 5) ?_
  refine Hp.pu_ 5 10 (Hp.up 12 6) ?_
  refine Hp.pu_ 6 11 (Hp.up 12 7) ?_
  refine take_ (i := 7) (N := some 12) (v := .slice (some ⟨gb, 0, none⟩) N N) (a' := ?_) (Hp.up 12 8) rfl rfl (by kernel_rfl) (fun _ _ _ h => h) (own_yield1 (by rfl) (x := .tmp 11) rfl (by rfl) (.head) Try.underlying32 (by rfl) (by rfl)) hHeld ?_ ?_
  rotate_left
  · simp only [Act.put, List.setIfInBounds_toArray, List.set_cons_zero, List.set_cons_succ, i64_w, i32_w]
    rfl
  refine one_ (i := 8) (N := some 13) (Hp.up 12 9) rfl rfl (by kernel_rfl) (by decide) (fun K hK => ?_)
  refine goes_ Try.func75 (by kernel_rfl) rfl #[.slice (some ⟨gb, 0, none⟩) N N] (by rfl) rfl rfl (by (try simp only [List.map_toArray, List.map_cons, List.map_nil]); first | done | rfl) ?_
  refine (clone_u8 w0 _ ((ga, .cells #[.int .i64 sz, .slice (some ⟨gb, 0, none⟩) N N] 126 (0, 0)) :: L) [(gb, .cells (u8s B) 5 (0, 0))] _ N _ (row_u8 HB.out HM.out) (u8s_one B) (by have := HM.out; omega) HO.out.twof).mono ?_
  rintro e wx ⟨v2, rfl, R2, hR2, hO_⟩
  obtain ⟨A2, c2, rfl⟩ := RowOf.shape hR2
  refine ⟨_, rfl, ?_⟩
  have HR2 := Aside0.mk hR2
  clear hR2
  have hO_ : Own w0 wx ((ga, .cells #[.int .i64 sz, .slice (some ⟨gb, 0, none⟩) N N] 126 (0, 0)) :: (gb, .cells (u8s B) 5 (0, 0)) :: (R2 ++ L)) := Own.swap3 (B := R2) (R := [(ga, .cells #[.int .i64 sz, .slice (some ⟨gb, 0, none⟩) N N] 126 (0, 0)), (gb, .cells (u8s B) 5 (0, 0))]) hO_.apptwo
  clear HO; have HO := Aside0.mk hO_; clear hO_
  refine hK.out _ _ (HO.out.picks (.cons (by (repeat (first | exact .head | apply Ext.tail))) (.nil))) (fun hHeld => ?_)
  clear hK K
  refine norm_ (a' := ?_) ?_ ?_
  rotate_left
  · show Act.put _ (some 13) _ = _
    simp only [Act.put, List.setIfInBounds_toArray, List.set_cons_zero, List.set_cons_succ, i64_w, i32_w]
    rfl
  refine Hp.pu_ 9 14 (Hp.up 12 10) ?_
  refine one_ (i := 10) (N := some 15) (Hp.up 12 11) rfl rfl (by kernel_rfl) (by decide) (fun K hK => ?_)
  refine own_box_k HO.out (by rfl) (N := 15) rfl (cs := #[.int .i64 sz, .slice A2 N c2]) (t := 126) (by first | (go_simp; done) | (go_simp; rfl) | kernel_rfl) ?_
  intro g15 w15 hO_
  clear HO; have HO := Aside0.mk hO_; clear hO_
  refine hK.out _ _ (HO.out.picks (.cons (by (repeat (first | exact .head | apply Ext.tail))) (.nil))) (fun hHeld => ?_)
  clear hK K
  refine norm_ (a' := ?_) ?_ ?_
  rotate_left
  · show Act.put _ (some 15) _ = _
    simp only [Act.put, List.setIfInBounds_toArray, List.set_cons_zero, List.set_cons_succ, i64_w, i32_w]
    rfl
  refine Hp.pu_ 11 2 (Hp.up 12 12) ?_
  refine done_ (by kernel_rfl) ?_
  clear hHeld
  try go_wp2
  go_ret
  exact ⟨_, rfl, _, _, _, HR2.out, HO.out⟩
end Go.Proofs.Ar
