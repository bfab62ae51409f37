/- hash.Hash: Drop; the law's examples; no conditions beyond each theorem's own. -/
import Derived.Test.YtgkdbhkbkpfbpaaHI
set_option linter.unusedVariables false
set_option linter.unusedSimpArgs false
namespace Go.Proofs.Hh
open Go.RowKit Go.Proofs.Ev Go.Proofs.Hp Go.Proofs.Ar Go.Proofs.Rg Go.Proofs.YtgkdbhkbkpfbpaaW.PrintWords Go.Proofs.YtgkdbhkbkpfbpaaW.PrintLast Go.Proofs.YtgkdbhkbkpfbpaaW.PrintMore
attribute [local go_sem] max2_int min2_int max_two min_two max_three min_three max_four min_four eql_slice_nil mkInt mkFree asInt inv_Push inv_Pop
theorem erase_map {α β : Type} (f : α → β) : ∀ (l : List α) (i : Nat), (l.map f).eraseIdx i = (l.eraseIdx i).map f
  | [], _ => rfl
  | _ :: _, 0 => rfl
  | a :: l, i + 1 => by simp only [List.map_cons, List.eraseIdx_cons_succ, erase_map f l i]
theorem ents_erase (M : List (ByteArray × Int × Nat)) (i : Nat) : (ents M).eraseIdxIfInBounds i = ents (M.eraseIdx i) := by
  unfold ents Array.eraseIdxIfInBounds
  split
  · rename_i h
    apply Array.ext'
    simp [erase_map]
  · rename_i h
    simp only [List.size_toArray, List.length_map] at h
    rw [List.eraseIdx_of_length_le (by omega)]
section
variable {P : Program} {ops : Array Oper} {o : Oper} {a : Act} {Q : Exit → Act → World → Prop} {w0 W : World} {L L' : Hl} {g : Nat} {Kc : Act → World → Prop}
theorem own_delete_k (HO : Own w0 W L) (hw : Region.wanted o (yielded ops a.tmps) = true) (hN : o.dst = none) {t kt et : TypeId} {m k : Operand} {kv : Value} (ho : o.op = .call { callee := .builtin .delete, args := #[m, k], argTypes := #[t, kt] }) {d : TypeDesc} {c : Nat} {es : Array MapEntry} (ht : P.underlying t = some (.map kt et)) (hd : P.underlying kt = some d)
    (hm : a.eval m = .map (some g)) (he : Ext L g (.map es c) L') (hkv : a.eval k = kv) (hk : MapKept.IsKey d kv) {i : Nat} {v : Value} (hf : Instr.findNow d kv es.toList 0 = some (some (i, v))) {es' : Array MapEntry} (hes : es.eraseIdxIfInBounds i = es')
    (h : ∀ w1, Own w0 w1 ((g, .map es' c) :: L') → Kc a w1) : if Region.wanted o (yielded ops a.tmps) = true then Oper.wp P o a W Kc Q else Kc (a.put none undef) W := by
  have hq : ∀ (v : Value) w1, Kc a w1 → Kc (a.put o.dst v) w1 := fun v w1 h => by rw [hN]; exact h
  rw [if_pos hw]
  subst hkv
  subst hes
  have hb := HO.get he
  have hrun : (Builtin.delete_ #[t, kt] o.type #[.map (some g), a.eval k]).run P W = .ok (.tuple #[]) { W with heap := W.heap.setIfInBounds g (.map (es.eraseIdxIfInBounds i) c) } := by
    unfold Builtin.delete_
    simp [Sem.run_bind, run_underlying ht, Result.andThen, MapKept.run_getObj_map hb, MapKept.run_checkKey hd hk _ 9999, MapKept.run_findKey hd hf, MapKept.run_setObj_map _ hb]
  unfold Oper.wp execOp
  rw [ho]
  simp [resolve, invoke, Deferred.ofValue, builtin, hm, hrun, Sem.run_bind, Result.andThen]
  refine hq _ _ (h _ (HO.put he ?_ (fun i hi => ?_) (fun B hB => below_obj hB _)))
  · have := blk_lt hb
    simp [this]
  · simp only [Array.getElem?_setIfInBounds]
    rw [if_neg (Ne.symm hi)]
end
set_option maxHeartbeats 8000000 in
set_option maxRecDepth 100000 in
theorem hdrop_key (w0 w : World) (L R : Hl) (gh gm ga gb key Z N NZ : Nat) (A : Option Addr) (n c clk : Nat) (M : List (ByteArray × Int × Nat)) (fl : List Int) (D : List (List Int)) (hS : HSt key Z N NZ R A n c clk M fl D) (Ak : Option Addr) (kl ck : Nat) (hkl : ¬ kl = key) (hO : Own w0 w ((gh, .cells #[.int .i64 key, .map (some gm), .slice A n c, .pointer (some ⟨ga, 0, none⟩)] 147 (0, 0)) :: (gm, .map (ents M) clk) :: (R ++ ((ga, .cells #[.int .i64 (Z : Int), .slice (some ⟨gb, 0, none⟩) NZ NZ] 126 (0, 0)) :: (gb, .cells (u8s D.flatten) 5 (0, 0)) :: L)))) : Calls Try.prog 71 #[.pointer (some ⟨gh, 0, none⟩), .slice Ak kl ck] w fun e w' => e = .returned (.int .i64 22) ∧ Own w0 w' ((gh, .cells #[.int .i64 key, .map (some gm), .slice A n c, .pointer (some ⟨ga, 0, none⟩)] 147 (0, 0)) :: (gm, .map (ents M) clk) :: (R ++ ((ga, .cells #[.int .i64 (Z : Int), .slice (some ⟨gb, 0, none⟩) NZ NZ] 126 (0, 0)) :: (gb, .cells (u8s D.flatten) 5 (0, 0)) :: L))) := by
  have hui := Try.underlying3
  have hul := Try.underlying32
  have hu8 := Try.underlying5
  have hus := Try.underlying9
  have hum := Try.underlying143
  have huf := Try.underlying145
  have huh := Try.underlying147
  have huap := Try.underlying24
  have HO : Aside0 (Own w0 w ((gh, .cells #[.int .i64 key, .map (some gm), .slice A n c, .pointer (some ⟨ga, 0, none⟩)] 147 (0, 0)) :: (gm, .map (ents M) clk) :: (R ++ ((ga, .cells #[.int .i64 (Z : Int), .slice (some ⟨gb, 0, none⟩) NZ NZ] 126 (0, 0)) :: (gb, .cells (u8s D.flatten) 5 (0, 0)) :: L)))) := ⟨hO⟩
  have HS := Aside0.mk hS
  clear hO hS
  have hk0 : World.cell? w ⟨gh, 0, none⟩ = some (.int .i64 (key : Int)) := (HO.out.cell .head 0).trans rfl
  have b1 : ((kl : Int) == (key : Int)) = false := beq_eq_false_iff_ne.mpr (by omega)
  have b1p := eq_false (show ¬ (kl : Int) = (key : Int) by omega)
  have b1n := eq_false hkl
  clear hkl
  go_enter Try.func71, Try.ntmps71
  go_wp2
  go_ret
  exact ⟨rfl, HO.out⟩
set_option maxHeartbeats 8000000 in
set_option maxRecDepth 100000 in
theorem hdrop_no (w0 w : World) (L R : Hl) (gh gm ga gb key Z N NZ : Nat) (A : Option Addr) (n c clk : Nat) (M : List (ByteArray × Int × Nat)) (fl : List Int) (D : List (List Int)) (hS : HSt key Z N NZ R A n c clk M fl D) (ck : Nat) (Ak : Option Addr) (s : ByteArray) (hK : ∀ (W : World) (X : Hl), Own w0 W (X ++ L) → (convert 32 9 (.slice Ak key ck)).run Try.prog W = .ok (.string s) W) (kk : Int) (hf : fnd s M = (kk, false)) (hO : Own w0 w ((gh, .cells #[.int .i64 key, .map (some gm), .slice A n c, .pointer (some ⟨ga, 0, none⟩)] 147 (0, 0)) :: (gm, .map (ents M) clk) :: (R ++ ((ga, .cells #[.int .i64 (Z : Int), .slice (some ⟨gb, 0, none⟩) NZ NZ] 126 (0, 0)) :: (gb, .cells (u8s D.flatten) 5 (0, 0)) :: L)))) : Calls Try.prog 71 #[.pointer (some ⟨gh, 0, none⟩), .slice Ak key ck] w fun e w' => e = .returned (.int .i64 2) ∧ Own w0 w' ((gh, .cells #[.int .i64 key, .map (some gm), .slice A n c, .pointer (some ⟨ga, 0, none⟩)] 147 (0, 0)) :: (gm, .map (ents M) clk) :: (R ++ ((ga, .cells #[.int .i64 (Z : Int), .slice (some ⟨gb, 0, none⟩) NZ NZ] 126 (0, 0)) :: (gb, .cells (u8s D.flatten) 5 (0, 0)) :: L))) := by
  have HF := Aside0.mk hf
  have HK := Aside0.mk hK
  clear hf hK
  have hui := Try.underlying3
  have hul := Try.underlying32
  have hu8 := Try.underlying5
  have hus := Try.underlying9
  have hum := Try.underlying143
  have huf := Try.underlying145
  have huh := Try.underlying147
  have huap := Try.underlying24
  have HO : Aside0 (Own w0 w ((gh, .cells #[.int .i64 key, .map (some gm), .slice A n c, .pointer (some ⟨ga, 0, none⟩)] 147 (0, 0)) :: (gm, .map (ents M) clk) :: (R ++ ((ga, .cells #[.int .i64 (Z : Int), .slice (some ⟨gb, 0, none⟩) NZ NZ] 126 (0, 0)) :: (gb, .cells (u8s D.flatten) 5 (0, 0)) :: L)))) := ⟨hO⟩
  have HS := Aside0.mk hS
  clear hO hS
  have hk0 : World.cell? w ⟨gh, 0, none⟩ = some (.int .i64 (key : Int)) := (HO.out.cell .head 0).trans rfl
  go_enter Try.func71, Try.ntmps71
  go_wp2_with (first | ((with_reducible refine gate_callee (f := 69) rfl ?_); (with_reducible refine gate_dst (N := 21) rfl ?_); refine goesL_ (some 21) rfl rfl Try.func69 (by kernel_rfl) rfl #[.pointer (some ⟨gh, 0, none⟩), .slice Ak key ck] rfl (by (try simp only [List.map_toArray, List.map_cons, List.map_nil]); first | done | rfl) ?_; (with_reducible refine (hfind_calls w0 _ L R gh gm ga gb key Z N NZ A n c clk M fl D HS.out key ck Ak s HK.out kk false HF.out HO.out).mono ?_); rintro e wx ⟨rfl, hO_⟩; refine ⟨_, rfl, ?_⟩; clear HO; have HO := Aside0.mk hO_; clear hO_))
  go_ret
  exact ⟨rfl, HO.out⟩
set_option maxHeartbeats 8000000 in
set_option maxRecDepth 100000 in
theorem hdrop_has (w0 w : World) (L R : Hl) (gh gm ga gb key Z N NZ : Nat) (A : Option Addr) (n c clk : Nat) (M : List (ByteArray × Int × Nat)) (fl : List Int) (D : List (List Int)) (hS : HSt key Z N NZ R A n c clk M fl D) (ck : Nat) (Ak : Option Addr) (s : ByteArray) (hK : ∀ (W : World) (X : Hl), Own w0 W (X ++ L) → (convert 32 9 (.slice Ak key ck)).run Try.prog W = .ok (.string s) W) (i : Nat) (k0 : Int) (hf : findS s M 0 = some (i, k0)) (hn : n < 16) (hO : Own w0 w ((gh, .cells #[.int .i64 key, .map (some gm), .slice A n c, .pointer (some ⟨ga, 0, none⟩)] 147 (0, 0)) :: (gm, .map (ents M) clk) :: (R ++ ((ga, .cells #[.int .i64 (Z : Int), .slice (some ⟨gb, 0, none⟩) NZ NZ] 126 (0, 0)) :: (gb, .cells (u8s D.flatten) 5 (0, 0)) :: L)))) : Calls Try.prog 71 #[.pointer (some ⟨gh, 0, none⟩), .slice Ak key ck] w fun e w' => e = .returned (.int .i64 0) ∧
    ∃ R2 A2 n2 c2 M2 fl2, n2 = n + 1 ∧ M2 = M.eraseIdx i ∧ fl2 = pushF fl k0 ∧ HSt key Z N NZ R2 A2 n2 c2 clk M2 fl2 D ∧ Own w0 w' ((gh, .cells #[.int .i64 key, .map (some gm), .slice A2 n2 c2, .pointer (some ⟨ga, 0, none⟩)] 147 (0, 0)) :: (gm, .map (ents M2) clk) :: (R2 ++ ((ga, .cells #[.int .i64 (Z : Int), .slice (some ⟨gb, 0, none⟩) NZ NZ] 126 (0, 0)) :: (gb, .cells (u8s D.flatten) 5 (0, 0)) :: L))) := by
  have HF : Aside0 (fnd s M = (k0, true)) := ⟨by unfold fnd; rw [hf]⟩
  have HFN : Aside0 (Instr.findNow .string (.string s) (ents M).toList 0 = some (some (i, .int .i64 k0))) := ⟨by have h1 := findNow_strs s M 0; rw [hf] at h1; exact h1⟩
  have HK := Aside0.mk hK
  have HN9 : Aside0 (n ≤ 900) := ⟨by omega⟩
  have HN16 := Aside0.mk hn
  have HPL : Aside0 ((pushF fl k0).length = n + 1) := ⟨by rw [push_len, hS.fll]⟩
  clear hf hK hn
  have hui := Try.underlying3
  have hul := Try.underlying32
  have hu8 := Try.underlying5
  have hus := Try.underlying9
  have hum := Try.underlying143
  have huf := Try.underlying145
  have huh := Try.underlying147
  have huap := Try.underlying24
  have HO : Aside0 (Own w0 w ((gh, .cells #[.int .i64 key, .map (some gm), .slice A n c, .pointer (some ⟨ga, 0, none⟩)] 147 (0, 0)) :: (gm, .map (ents M) clk) :: (R ++ ((ga, .cells #[.int .i64 (Z : Int), .slice (some ⟨gb, 0, none⟩) NZ NZ] 126 (0, 0)) :: (gb, .cells (u8s D.flatten) 5 (0, 0)) :: L)))) := ⟨hO⟩
  have HS := Aside0.mk hS
  clear hO hS
  have hk0 : World.cell? w ⟨gh, 0, none⟩ = some (.int .i64 (key : Int)) := (HO.out.cell .head 0).trans rfl
  go_enter Try.func71, Try.ntmps71
  go_wp2_with (first | ((with_reducible refine gate_callee (f := 69) rfl ?_); (with_reducible refine gate_dst (N := 21) rfl ?_); refine goesL_ (some 21) rfl rfl Try.func69 (by kernel_rfl) rfl #[.pointer (some ⟨gh, 0, none⟩), .slice Ak key ck] rfl (by (try simp only [List.map_toArray, List.map_cons, List.map_nil]); first | done | rfl) ?_; (with_reducible refine (hfind_calls w0 _ L R gh gm ga gb key Z N NZ A n c clk M fl D HS.out key ck Ak s HK.out k0 true HF.out HO.out).mono ?_); rintro e wx ⟨rfl, hO_⟩; refine ⟨_, rfl, ?_⟩; clear HO; have HO := Aside0.mk hO_; clear hO_))
  refine start_ (n := 7) (S := fun W => Own w0 W ((gh, .cells #[.int .i64 key, .map (some gm), .slice A n c, .pointer (some ⟨ga, 0, none⟩)] 147 (0, 0)) :: (gm, .map (ents M) clk) :: (R ++ ((ga, .cells #[.int .i64 (Z : Int), .slice (some ⟨gb, 0, none⟩) NZ NZ] 126 (0, 0)) :: (gb, .cells (u8s D.flatten) 5 (0, 0)) :: L)))) (ds := [6]) #[false, false, false, false, false, false, false] (by kernel_rfl) rfl rfl (Own.drew (HO.out)) (fun hHeld => ?_)
  have HO_ := Aside0.mk HO.out.drew
  clear HO
  have HO := HO_
  clear HO_
  generalize World.drew _ = wr at HO hHeld ⊢
  refine Hp.pu_ 0 26 (Hp.up 7 1) ?_
  refine Hp.pu_ 1 27 (Hp.up 7 2) ?_
  refine Hp.pu_ 2 28 (Hp.up 7 3) ?_
  refine take_ (i := 3) (N := some 29) (v := .map (some gm)) (a' := ?_) (Hp.up 7 4) rfl rfl (by kernel_rfl) (fun _ _ _ h => h) (own_yield1 (by rfl) (x := .tmp 28) rfl (by rfl) (.head) hum (by rfl) (by rfl)) hHeld ?_ ?_
  rotate_left
  · simp only [Act.put, List.setIfInBounds_toArray, List.set_cons_zero, List.set_cons_succ, i64_w, i32_w]
    rfl
  refine Hp.pu_ 4 30 (Hp.up 7 5) ?_
  refine take_ (i := 5) (N := some 31) (v := .string s) (a' := ?_) (Hp.up 7 6) rfl rfl (by kernel_rfl) (fun _ _ _ h => h) (Or.inl ⟨by rfl, fun w' hS => exec_conv rfl (by rfl) (HK.out w' _ (hS.repr2 (L' := ((gh, .cells #[.int .i64 key, .map (some gm), .slice A n c, .pointer (some ⟨ga, 0, none⟩)] 147 (0, 0)) :: (gm, .map (ents M) clk) :: (R ++ ((ga, .cells #[.int .i64 (Z : Int), .slice (some ⟨gb, 0, none⟩) NZ NZ] 126 (0, 0)) :: (gb, .cells (u8s D.flatten) 5 (0, 0)) :: []))) ++ L) [] (by classical exact List.perm_iff_count.2 (fun a => by simp only [List.count_append, List.count_cons, List.count_nil, List.append_assoc, List.cons_append, List.nil_append] <;> ac_rfl))))⟩) hHeld ?_ ?_
  rotate_left
  · simp only [Act.put, List.setIfInBounds_toArray, List.set_cons_zero, List.set_cons_succ, i64_w, i32_w]
    rfl
  refine last_ (i := 6) (N := none) (Hp.up 7 7) rfl rfl (by kernel_rfl) (by decide) (fun K hK => ?_)
  refine own_delete_k HO.out (by rfl) rfl (kv := .string s) rfl hum hus (by rfl) (.tail .head) (by rfl) (by exact trivial) HFN.out (es' := ents (M.eraseIdx i)) (ents_erase M i) ?_
  intro wc hO_
  have hO_ := hO_.repr2 (L' := ((gh, .cells #[.int .i64 key, .map (some gm), .slice A n c, .pointer (some ⟨ga, 0, none⟩)] 147 (0, 0)) :: (gm, .map (ents (M.eraseIdx i)) clk) :: (R ++ ((ga, .cells #[.int .i64 (Z : Int), .slice (some ⟨gb, 0, none⟩) NZ NZ] 126 (0, 0)) :: (gb, .cells (u8s D.flatten) 5 (0, 0)) :: L)))) [] (by classical exact List.perm_iff_count.2 (fun a => by simp only [List.count_append, List.count_cons, List.count_nil, List.append_assoc, List.cons_append, List.nil_append] <;> ac_rfl))
  clear HO; have HO := Aside0.mk hO_; clear hO_
  refine hK.out _ _ ?_
  clear hK K
  refine done_ (by kernel_rfl) ?_
  clear hHeld
  go_wp2_with (first | ((with_reducible refine gate_callee (f := 82) rfl ?_); (with_reducible refine gate_dst (N := 38) rfl ?_); refine goesL_ (some 38) rfl rfl Try.func82 (by kernel_rfl) rfl #[.iface 149 (.pointer (some ⟨gh, 2, none⟩)), .iface 3 (.int .i64 k0)] rfl (by (try simp only [List.map_toArray, List.map_cons, List.map_nil]); first | done | rfl) ?_; (with_reducible refine (hpush_calls w0 _ ((gm, .map (ents (M.eraseIdx i)) clk) :: ((ga, .cells #[.int .i64 (Z : Int), .slice (some ⟨gb, 0, none⟩) NZ NZ] 126 (0, 0)) :: (gb, .cells (u8s D.flatten) 5 (0, 0)) :: L)) gh (.int .i64 (key : Int)) (.map (some gm)) (.pointer (some ⟨ga, 0, none⟩)) A n c R fl HS.out.row HS.out.fll HN9.out k0 (HO.out.repr2 (L' := (gh, .cells #[.int .i64 key, .map (some gm), .slice A n c, .pointer (some ⟨ga, 0, none⟩)] 147 (0, 0)) :: (R ++ ((gm, .map (ents (M.eraseIdx i)) clk) :: ((ga, .cells #[.int .i64 (Z : Int), .slice (some ⟨gb, 0, none⟩) NZ NZ] 126 (0, 0)) :: (gb, .cells (u8s D.flatten) 5 (0, 0)) :: L)))) [] (by classical exact List.perm_iff_count.2 (fun a => by simp only [List.count_append, List.count_cons, List.count_nil, List.append_assoc, List.cons_append, List.nil_append] <;> ac_rfl)))).mono ?_); rintro e wx ⟨rfl, A2, n2, c2, R2, hn2, hR2, hO_⟩; refine ⟨_, rfl, ?_⟩; have HN2 := Aside0.mk hn2; have HR2 := Aside0.mk hR2; clear hn2 hR2; have hO_ := hO_.repr2 (L' := ((gh, .cells #[.int .i64 key, .map (some gm), .slice A2 n2 c2, .pointer (some ⟨ga, 0, none⟩)] 147 (0, 0)) :: (gm, .map (ents (M.eraseIdx i)) clk) :: (R2 ++ ((ga, .cells #[.int .i64 (Z : Int), .slice (some ⟨gb, 0, none⟩) NZ NZ] 126 (0, 0)) :: (gb, .cells (u8s D.flatten) 5 (0, 0)) :: L)))) [] (by classical exact List.perm_iff_count.2 (fun a => by simp only [List.count_append, List.count_cons, List.count_nil, List.append_assoc, List.cons_append, List.nil_append] <;> ac_rfl)); clear HO; have HO := Aside0.mk hO_; clear hO_))
  go_ret
  exact ⟨rfl, R2, A2, n2, c2, _, _, HN2.out, rfl, rfl, ⟨HS.out.hz, HS.out.hn, HS.out.hnz, HR2.out, by rw [HPL.out, HN2.out], by have := HN2.out; have := HN16.out; omega, HS.out.dl, HS.out.dz⟩, HO.out⟩
end Go.Proofs.Hh
