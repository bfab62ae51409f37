/- Contracts of hash.Hash, over lists of blocks; no conditions beyond each theorem's own. -/
import Derived.Test.YtgkdbhkbkpfbpaaHH
set_option linter.unusedVariables false
set_option linter.unusedSimpArgs false
namespace Go.Proofs.Hh
open Go.RowKit Go.Proofs.Ev Go.Proofs.Hp Go.Proofs.Ar Go.Proofs.Rg Go.Proofs.YtgkdbhkbkpfbpaaW.PrintWords Go.Proofs.YtgkdbhkbkpfbpaaW.PrintLast Go.Proofs.YtgkdbhkbkpfbpaaW.PrintMore
attribute [local go_sem] max2_int min2_int max_two min_two max_three min_three max_four min_four eql_slice_nil mkInt mkFree asInt inv_Push inv_Pop
section
variable {P : Program} {ops : Array Oper} {rest : List Oper} {o : Oper} {a : Act} {Q : Exit → Act → World → Prop} {w0 W : World} {L L' : Hl} {b : Nat}
/-- Cells are copied into a block of the list. -/
theorem hown_copy (HO : Own w0 W L) (hgd : o.guard = none) {d s : Operand} {dT sT elem : TypeId} (ho : o.op = .call { callee := .builtin .copy, args := #[d, s], argTypes := #[dT, sT] }) (hu : P.underlying dT = some (.slice elem)) (hsz : (P.info? elem).map (·.size) = some 1)
    {off dLen dCap sLen sCap : Nat} {ad : Addr} (hd : a.eval d = .slice (some ⟨b, off, none⟩) dLen dCap) (hs : a.eval s = .slice (some ad) sLen sCap) {vs : List Value} (hn : vs.length = Nat.min sLen dLen) (hsrc : ∀ j v, vs[j]? = some v → W.cell? (ad.add j) = some v) (h1 : ∀ v ∈ vs, v.oneCell' = true)
    {cs cs' : Array Value} {t : TypeId} (he : Ext L b (.cells cs t (0, 0)) L') (hfit : off + vs.length ≤ cs.size) (hc : putAt cs off vs = cs') (h : ∀ w1, Own w0 w1 ((b, .cells cs' t (0, 0)) :: L') → wpList P ops Q rest (a.put o.dst (goInt vs.length)) w1) : wpList P ops Q (o :: rest) a W := by
  have hth := HO.there he off vs.length hfit
  have hrun := run_copy_cells (P := P) W dT sT o.type elem b off dLen dCap ad sLen sCap vs hu hsz hn hsrc (fun j hj => (hth j hj).1) (fun j hj => (hth j hj).2) h1
  refine Kd.event_run hgd (w1 := W.setCells b off vs) (v := goInt vs.length) ?_ (h _ (HO.setCells he off vs hc))
  unfold execOp
  rw [ho]
  simp [resolve, invoke, Deferred.ofValue, builtin, hd, hs, hrun, Sem.run_bind, Result.andThen]
end
/-- A map's entries: key, slot, when it was born. -/
def ents (M : List (ByteArray × Int × Nat)) : Array MapEntry := (M.map fun e => ⟨.string e.1, .int .i64 e.2.1, e.2.2⟩).toArray
def findS (s : ByteArray) : List (ByteArray × Int × Nat) → Nat → Option (Nat × Int)
  | [], _ => none
  | e :: es, i => if s = e.1 then some (i, e.2.1) else findS s es (i + 1)
theorem findNow_strs (s : ByteArray) : ∀ (M : List (ByteArray × Int × Nat)) (i : Nat), Instr.findNow .string (.string s) (M.map fun e => ⟨.string e.1, .int .i64 e.2.1, e.2.2⟩) i = some ((findS s M i).map fun q => (q.1, .int .i64 q.2))
  | [], i => rfl
  | e :: es, i => by
    have ih := findNow_strs s es (i + 1)
    simp only [List.map_cons, Instr.findNow, findS]
    have hs : Instr.sameNow .string (.string s) (.string e.1) = some (s == e.1) := rfl
    rw [hs]
    by_cases h : s = e.1
    · have : (s == e.1) = true := (MapKept.bytes_beq _ _).2 h
      rw [this, if_pos h]
      rfl
    · have : (s == e.1) = false := Bool.eq_false_iff.2 (fun h2 => h ((MapKept.bytes_beq _ _).1 h2))
      rw [this, if_neg h]
      exact ih
/-- A key's slot, and: is it there? -/
def fnd (s : ByteArray) (M : List (ByteArray × Int × Nat)) : Int × Bool := match findS s M 0 with
  | some q => (q.2, true)
  | none => (0, false)
theorem fnd_looked {s : ByteArray} {M : List (ByteArray × Int × Nat)} {k : Int} {t : Bool} (h : fnd s M = (k, t)) : looked (.int .i64 0) ((findS s M 0).map fun q => (q.1, Value.int .i64 q.2)) = .tuple #[.int .i64 k, .bool t] := by
  unfold fnd at h
  cases hq : findS s M 0 with
  | none => rw [hq] at h; simp only [Prod.mk.injEq] at h; rw [← h.1, ← h.2]; rfl
  | some q => rw [hq] at h; simp only [Prod.mk.injEq] at h; rw [← h.1, ← h.2]; rfl
theorem fnd_none {s : ByteArray} {M : List (ByteArray × Int × Nat)} {k : Int} (h : fnd s M = (k, false)) : findS s M 0 = none := by
  unfold fnd at h
  cases hq : findS s M 0 with
  | none => rfl
  | some q => rw [hq] at h; simp at h
theorem ents_push (M : List (ByteArray × Int × Nat)) (s : ByteArray) (k : Int) (b : Nat) : (ents M).push { key := .string s, val := .int .i64 k, born := b } = ents (M ++ [(s, k, b)]) := by simp [ents]
/-- A map of keys: the free slots are a heap; the slots' bytes lie in a row. -/
structure HSt (key Z N NZ : Nat) (R : Hl) (A : Option Addr) (n c clk : Nat) (M : List (ByteArray × Int × Nat)) (fl : List Int) (D : List (List Int)) : Prop where
  hz : 1 ≤ Z ∧ Z ≤ 32
  hn : 1 ≤ N ∧ N ≤ 16
  hnz : NZ = N * Z
  row : RowOf 3 1 R (.slice A n c) n (fl.map (Value.int .i64))
  fll : fl.length = n
  nle : n ≤ 16
  dl : D.length = N
  dz : ∀ d ∈ D, d.length = Z
theorem HSt.nz {key Z N NZ : Nat} {R : Hl} {A : Option Addr} {n c clk : Nat} {M : List (ByteArray × Int × Nat)} {fl : List Int} {D : List (List Int)} (h : HSt key Z N NZ R A n c clk M fl D) : NZ ≤ 512 ∧ (NZ : Int) = (Z : Int) * (N : Int) := by
  have h1 := Nat.mul_le_mul h.hn.2 h.hz.2
  rw [h.hnz]
  exact ⟨by omega, by rw [Int.natCast_mul, Int.mul_comm]⟩
section
variable {P : Program} {ops : Array Oper} {o : Oper} {a : Act} {W : World}
theorem exec_lookup2 {t kt et : TypeId} {m k : Operand} (ho : o.op = .lookup t m k true) {d : TypeDesc} {g c : Nat} {es : Array MapEntry} (ht : P.underlying t = some (.map kt et)) (hd : P.underlying kt = some d) (hm : a.eval m = .map (some g)) {kv : Value} (hkv : a.eval k = kv) (hk : MapKept.IsKey d kv)
    (hb : W.heap[g]? = some (.map es c)) {z : Value} (hz : (zeroValue et).run P W = .ok z W) {r : Option (Nat × Value)} (hf : Instr.findNow d kv es.toList 0 = some r) {v : Value} (hv : looked z r = v) : (execOp a.eval o).run P W = .ok (.value v) W := by
  subst hv
  unfold execOp
  rw [ho]
  simp only [hm, hkv]
  unfold Instr.lookup
  cases r with
  | none => simp [looked, Sem.run_bind, run_underlying ht, Result.andThen, MapKept.run_getObj_map hb, MapKept.run_checkKey hd hk _ 9999, MapKept.run_findKey hd hf, hz]
  | some q => simp [looked, Sem.run_bind, run_underlying ht, Result.andThen, MapKept.run_getObj_map hb, MapKept.run_checkKey hd hk _ 9999, MapKept.run_findKey hd hf]
end
theorem set_flat (Z : Nat) (vs : List Int) (hv : vs.length = Z) : ∀ (D : List (List Int)) (k : Nat), (∀ d ∈ D, d.length = Z) → k < D.length → (D.set k vs).flatten = D.flatten.take (k * Z) ++ (vs ++ D.flatten.drop (k * Z + Z))
  | [], _, _, h => by simp at h
  | d :: D, 0, hd, _ => by
    have h1 : d.length = Z := hd d (List.mem_cons_self ..)
    simp only [List.set_cons_zero, List.flatten_cons, Nat.zero_mul, List.take_zero, List.nil_append, Nat.zero_add]
    rw [← h1, List.drop_left]
  | d :: D, k + 1, hd, h => by
    have h1 : d.length = Z := hd d (List.mem_cons_self ..)
    have ih := set_flat Z vs hv D k (fun x hx => hd x (List.mem_cons_of_mem _ hx)) (by simpa using h)
    have e1 : (k + 1) * Z = d.length + k * Z := by rw [h1, Nat.add_mul, Nat.one_mul, Nat.add_comm]
    have e2 : (k + 1) * Z + Z = d.length + (k * Z + Z) := by rw [e1]; omega
    rw [List.set_cons_succ, List.flatten_cons, List.flatten_cons, ih, e2, e1, List.take_length_add_append, List.drop_length_add_append]
    simp
theorem flat_len {Z : Nat} : ∀ {D : List (List Int)}, (∀ d ∈ D, d.length = Z) → D.flatten.length = D.length * Z
  | [], _ => by simp
  | d :: D, h => by
    rw [List.flatten_cons, List.length_append, h d (List.mem_cons_self ..), flat_len fun x hx => h x (List.mem_cons_of_mem _ hx), List.length_cons, Nat.add_mul]
    omega
theorem put_slot {Z : Nat} {vs : List Int} (hv : vs.length = Z) {D : List (List Int)} {k : Nat} (hd : ∀ d ∈ D, d.length = Z) (hk : k < D.length) : k * Z + (vs.map (Value.int .u8)).length ≤ (u8s D.flatten).size ∧ putAt (u8s D.flatten) (k * Z) (vs.map (Value.int .u8)) = u8s (D.set k vs).flatten := by
  have hfit : k * Z + (vs.map (Value.int .u8)).length ≤ (u8s D.flatten).size := by
    have h1 := flat_len hd
    have h2 : (k + 1) * Z ≤ D.length * Z := Nat.mul_le_mul_right Z hk
    rw [Nat.add_mul, Nat.one_mul] at h2
    rw [List.length_map, hv]
    simp only [u8s, List.size_toArray, List.length_map]
    omega
  refine ⟨hfit, ?_⟩
  apply Array.ext'
  rw [putAt_list _ _ _ hfit, set_flat Z vs hv D k hd hk, List.length_map, hv]
  simp [u8s, List.map_append, List.map_take, List.map_drop]
set_option maxHeartbeats 8000000 in
set_option maxRecDepth 100000 in
theorem hlen_calls (w0 w : World) (L R : Hl) (gh gm ga gb key Z N NZ : Nat) (A : Option Addr) (n c clk : Nat) (M : List (ByteArray × Int × Nat)) (fl : List Int) (D : List (List Int)) (hS : HSt key Z N NZ R A n c clk M fl D) (m : Nat) (hm : M.length = m) (hO : Own w0 w ((gh, .cells #[.int .i64 key, .map (some gm), .slice A n c, .pointer (some ⟨ga, 0, none⟩)] 147 (0, 0)) :: (gm, .map (ents M) clk) :: (R ++ ((ga, .cells #[.int .i64 (Z : Int), .slice (some ⟨gb, 0, none⟩) NZ NZ] 126 (0, 0)) :: (gb, .cells (u8s D.flatten) 5 (0, 0)) :: L)))) : Calls Try.prog 44 #[.pointer (some ⟨gh, 0, none⟩)] w fun e w' => e = .returned (.int .i64 (m : Int)) ∧ Own w0 w' ((gh, .cells #[.int .i64 key, .map (some gm), .slice A n c, .pointer (some ⟨ga, 0, none⟩)] 147 (0, 0)) :: (gm, .map (ents M) clk) :: (R ++ ((ga, .cells #[.int .i64 (Z : Int), .slice (some ⟨gb, 0, none⟩) NZ NZ] 126 (0, 0)) :: (gb, .cells (u8s D.flatten) 5 (0, 0)) :: L))) := by
  have HML : Aside0 ((ents M).size = m) := ⟨by simp [ents, hm]⟩
  clear hm
  have hui := Try.underlying3
  have hul := Try.underlying32
  have hu8 := Try.underlying5
  have hus := Try.underlying9
  have hum := Try.underlying143
  have huf := Try.underlying145
  have huh := Try.underlying147
  have huap := Try.underlying24
  have HO : Aside0 (Own w0 w ((gh, .cells #[.int .i64 key, .map (some gm), .slice A n c, .pointer (some ⟨ga, 0, none⟩)] 147 (0, 0)) :: (gm, .map (ents M) clk) :: (R ++ ((ga, .cells #[.int .i64 (Z : Int), .slice (some ⟨gb, 0, none⟩) NZ NZ] 126 (0, 0)) :: (gb, .cells (u8s D.flatten) 5 (0, 0)) :: L)))) := ⟨hO⟩
  have HS := Aside0.mk hS
  clear hO hS
  go_enter Try.func44, Try.ntmps44
  go_wp2_with (first | ((with_reducible refine gate_dst (N := 8) rfl ?_); refine own_load HO.out rfl (x := .tmp 7) (v := .map (some gm)) rfl (by rfl) (by (repeat (first | exact .head | apply Ext.tail))) hum (by rfl) (by rfl) ?_) | ((with_reducible refine gate_dst (N := 9) rfl ?_); refine own_maplen HO.out rfl (N := 9) rfl rfl (by rfl) hum (by (repeat (first | exact .head | apply Ext.tail))) HML.out ?_))
  go_ret
  exact ⟨rfl, HO.out⟩
set_option maxHeartbeats 8000000 in
set_option maxRecDepth 100000 in
theorem hfind_calls (w0 w : World) (L R : Hl) (gh gm ga gb key Z N NZ : Nat) (A : Option Addr) (n c clk : Nat) (M : List (ByteArray × Int × Nat)) (fl : List Int) (D : List (List Int)) (hS : HSt key Z N NZ R A n c clk M fl D) (kl ck : Nat) (Ak : Option Addr) (s : ByteArray) (hK : ∀ (W : World) (X : Hl), Own w0 W (X ++ L) → (convert 32 9 (.slice Ak kl ck)).run Try.prog W = .ok (.string s) W) (kk : Int) (tt : Bool) (hf : fnd s M = (kk, tt)) (hO : Own w0 w ((gh, .cells #[.int .i64 key, .map (some gm), .slice A n c, .pointer (some ⟨ga, 0, none⟩)] 147 (0, 0)) :: (gm, .map (ents M) clk) :: (R ++ ((ga, .cells #[.int .i64 (Z : Int), .slice (some ⟨gb, 0, none⟩) NZ NZ] 126 (0, 0)) :: (gb, .cells (u8s D.flatten) 5 (0, 0)) :: L)))) : Calls Try.prog 69 #[.pointer (some ⟨gh, 0, none⟩), .slice Ak kl ck] w fun e w' => e = .returned (.tuple #[.int .i64 kk, .bool tt]) ∧ Own w0 w' ((gh, .cells #[.int .i64 key, .map (some gm), .slice A n c, .pointer (some ⟨ga, 0, none⟩)] 147 (0, 0)) :: (gm, .map (ents M) clk) :: (R ++ ((ga, .cells #[.int .i64 (Z : Int), .slice (some ⟨gb, 0, none⟩) NZ NZ] 126 (0, 0)) :: (gb, .cells (u8s D.flatten) 5 (0, 0)) :: L))) := by
  have HF := Aside0.mk hf
  have HK := Aside0.mk hK
  clear hf hK
  have hui := Try.underlying3
  have hul := Try.underlying32
  have hu8 := Try.underlying5
  have hus := Try.underlying9
  have hum := Try.underlying143
  have huf := Try.underlying145
  have huh := Try.underlying147
  have huap := Try.underlying24
  have HO : Aside0 (Own w0 w ((gh, .cells #[.int .i64 key, .map (some gm), .slice A n c, .pointer (some ⟨ga, 0, none⟩)] 147 (0, 0)) :: (gm, .map (ents M) clk) :: (R ++ ((ga, .cells #[.int .i64 (Z : Int), .slice (some ⟨gb, 0, none⟩) NZ NZ] 126 (0, 0)) :: (gb, .cells (u8s D.flatten) 5 (0, 0)) :: L)))) := ⟨hO⟩
  have HS := Aside0.mk hS
  clear hO hS
  go_enter Try.func69, Try.ntmps69
  go_wp2
  refine start_ (n := 12) (S := fun W => Own w0 W ((gh, .cells #[.int .i64 key, .map (some gm), .slice A n c, .pointer (some ⟨ga, 0, none⟩)] 147 (0, 0)) :: (gm, .map (ents M) clk) :: (R ++ ((ga, .cells #[.int .i64 (Z : Int), .slice (some ⟨gb, 0, none⟩) NZ NZ] 126 (0, 0)) :: (gb, .cells (u8s D.flatten) 5 (0, 0)) :: L)))) (ds := []) #[false, false, false, false, false, false, false, false, false, false, false, false] (by kernel_rfl) rfl rfl (Own.drew (HO.out)) (fun hHeld => ?_)
  have HO_ := Aside0.mk HO.out.drew
  clear HO
  have HO := HO_
  clear HO_
  generalize World.drew _ = wr at HO hHeld ⊢
  refine Hp.pu_ 0 11 (Hp.up 12 1) ?_
  refine Hp.pu_ 1 12 (Hp.up 12 2) ?_
  refine Hp.pu_ 2 13 (Hp.up 12 3) ?_
  refine take_ (i := 3) (N := some 14) (v := .map (some gm)) (a' := ?_) (Hp.up 12 4) rfl rfl (by kernel_rfl) (fun _ _ _ h => h) (own_yield1 (by rfl) (x := .tmp 13) rfl (by rfl) (.head) hum (by rfl) (by rfl)) hHeld ?_ ?_
  rotate_left
  · simp only [Act.put, List.setIfInBounds_toArray, List.set_cons_zero, List.set_cons_succ, i64_w, i32_w]
    rfl
  refine Hp.pu_ 4 15 (Hp.up 12 5) ?_
  refine take_ (i := 5) (N := some 16) (v := .string s) (a' := ?_) (Hp.up 12 6) rfl rfl (by kernel_rfl) (fun _ _ _ h => h) (Or.inl ⟨by rfl, fun w' hS => exec_conv rfl (by rfl) (HK.out w' _ (hS.repr2 (L' := (gh, .cells #[.int .i64 key, .map (some gm), .slice A n c, .pointer (some ⟨ga, 0, none⟩)] 147 (0, 0)) :: (gm, .map (ents M) clk) :: (R ++ ((ga, .cells #[.int .i64 (Z : Int), .slice (some ⟨gb, 0, none⟩) NZ NZ] 126 (0, 0)) :: (gb, .cells (u8s D.flatten) 5 (0, 0)) :: [])) ++ L) [] (by classical exact List.perm_iff_count.2 (fun a => by simp only [List.count_append, List.count_cons, List.count_nil, List.append_assoc, List.cons_append, List.nil_append] <;> ac_rfl))))⟩) hHeld ?_ ?_
  rotate_left
  · simp only [Act.put, List.setIfInBounds_toArray, List.set_cons_zero, List.set_cons_succ, i64_w, i32_w]
    rfl
  refine take_ (i := 6) (N := some 17) (v := .tuple #[.int .i64 kk, .bool tt]) (a' := ?_) (Hp.up 12 7) rfl rfl (by kernel_rfl) (fun _ _ _ h => h) (Or.inl ⟨by rfl, fun w' hS => exec_lookup2 rfl hum hus (by rfl) (by rfl) (by exact trivial) (hS.get (.tail .head)) (by kernel_rfl) (findNow_strs s M 0) (fnd_looked HF.out)⟩) hHeld ?_ ?_
  rotate_left
  · simp only [Act.put, List.setIfInBounds_toArray, List.set_cons_zero, List.set_cons_succ, i64_w, i32_w]
    rfl
  refine Hp.pu_ 7 10 (Hp.up 12 8) ?_
  refine Hp.pu_ 8 18 (Hp.up 12 9) ?_
  refine Hp.pu_ 9 19 (Hp.up 12 10) ?_
  refine Hp.pu_ 10 6 (Hp.up 12 11) ?_
  refine Hp.pu_ 11 7 (Hp.up 12 12) ?_
  refine done_ (by kernel_rfl) ?_
  clear hHeld
  go_wp2
  refine bodyPost_ret (results_tmp2 rfl _ _ _) rfl ?_
  exact ⟨rfl, HO.out⟩
set_option maxHeartbeats 8000000 in
set_option maxRecDepth 100000 in
theorem hslot_none (w0 w : World) (L R : Hl) (gh gm ga gb key Z N NZ : Nat) (A : Option Addr) (n c clk : Nat) (M : List (ByteArray × Int × Nat)) (fl : List Int) (D : List (List Int)) (hS : HSt key Z N NZ R A n c clk M fl D) (k : Int) (hk : k < 0 ∨ (N : Int) ≤ k) (hO : Own w0 w ((gh, .cells #[.int .i64 key, .map (some gm), .slice A n c, .pointer (some ⟨ga, 0, none⟩)] 147 (0, 0)) :: (gm, .map (ents M) clk) :: (R ++ ((ga, .cells #[.int .i64 (Z : Int), .slice (some ⟨gb, 0, none⟩) NZ NZ] 126 (0, 0)) :: (gb, .cells (u8s D.flatten) 5 (0, 0)) :: L)))) : Calls Try.prog 43 #[.pointer (some ⟨gh, 0, none⟩), .int .i64 k] w fun e w' => e = .returned (.tuple #[.slice none 0 0, .bool false]) ∧ Own w0 w' ((gh, .cells #[.int .i64 key, .map (some gm), .slice A n c, .pointer (some ⟨ga, 0, none⟩)] 147 (0, 0)) :: (gm, .map (ents M) clk) :: (R ++ ((ga, .cells #[.int .i64 (Z : Int), .slice (some ⟨gb, 0, none⟩) NZ NZ] 126 (0, 0)) :: (gb, .cells (u8s D.flatten) 5 (0, 0)) :: L))) := by
  have HK := Aside0.mk hk
  clear hk
  have hui := Try.underlying3
  have hul := Try.underlying32
  have hu8 := Try.underlying5
  have hus := Try.underlying9
  have hum := Try.underlying143
  have huf := Try.underlying145
  have huh := Try.underlying147
  have huap := Try.underlying24
  have HO : Aside0 (Own w0 w ((gh, .cells #[.int .i64 key, .map (some gm), .slice A n c, .pointer (some ⟨ga, 0, none⟩)] 147 (0, 0)) :: (gm, .map (ents M) clk) :: (R ++ ((ga, .cells #[.int .i64 (Z : Int), .slice (some ⟨gb, 0, none⟩) NZ NZ] 126 (0, 0)) :: (gb, .cells (u8s D.flatten) 5 (0, 0)) :: L)))) := ⟨hO⟩
  have HS := Aside0.mk hS
  clear hO hS
  have HZI : Aside0 ((1 ≤ (Z : Int) ∧ (Z : Int) ≤ 32) ∧ (0 ≤ (N : Int) ∧ (N : Int) ≤ 16)) := ⟨by have := HS.out.hz; have := HS.out.hn; omega⟩
  go_enter Try.func43, Try.ntmps43
  go_wp2_with (first | ((with_reducible refine gate_dst (N := 11) rfl ?_); refine own_load HO.out rfl (x := .tmp 10) (v := .pointer (some ⟨ga, 0, none⟩)) rfl (by rfl) (by (repeat (first | exact .head | apply Ext.tail))) huap (by rfl) (by rfl) ?_) | ((with_reducible refine gate_callee (f := 19) rfl ?_); (with_reducible refine gate_dst (N := 13) rfl ?_); refine goesL_ (some 13) rfl rfl Try.func19 (by kernel_rfl) rfl #[.pointer (some ⟨ga, 0, none⟩), .int .i64 k] rfl (by (try simp only [List.map_toArray, List.map_cons, List.map_nil]); first | done | rfl) ?_; (with_reducible refine (slot_none w0 _ ((gh, .cells #[.int .i64 key, .map (some gm), .slice A n c, .pointer (some ⟨ga, 0, none⟩)] 147 (0, 0)) :: (gm, .map (ents M) clk) :: (R ++ L)) ga gb (Z : Int) NZ D.flatten k (N : Int) HZI.out.1 HZI.out.2 HS.out.nz.2 HK.out (HO.out.repr2 (L' := (ga, .cells #[.int .i64 (Z : Int), .slice (some ⟨gb, 0, none⟩) NZ NZ] 126 (0, 0)) :: (gb, .cells (u8s D.flatten) 5 (0, 0)) :: ((gh, .cells #[.int .i64 key, .map (some gm), .slice A n c, .pointer (some ⟨ga, 0, none⟩)] 147 (0, 0)) :: (gm, .map (ents M) clk) :: (R ++ L))) [] (by classical exact List.perm_iff_count.2 (fun a => by simp only [List.count_append, List.count_cons, List.count_nil, List.append_assoc, List.cons_append, List.nil_append] <;> ac_rfl)))).mono ?_); rintro e wx ⟨rfl, hO_⟩; refine ⟨_, rfl, ?_⟩; have hO_ := hO_.repr2 (L' := ((gh, .cells #[.int .i64 key, .map (some gm), .slice A n c, .pointer (some ⟨ga, 0, none⟩)] 147 (0, 0)) :: (gm, .map (ents M) clk) :: (R ++ ((ga, .cells #[.int .i64 (Z : Int), .slice (some ⟨gb, 0, none⟩) NZ NZ] 126 (0, 0)) :: (gb, .cells (u8s D.flatten) 5 (0, 0)) :: L)))) [] (by classical exact List.perm_iff_count.2 (fun a => by simp only [List.count_append, List.count_cons, List.count_nil, List.append_assoc, List.cons_append, List.nil_append] <;> ac_rfl)); clear HO; have HO := Aside0.mk hO_; clear hO_))
  refine bodyPost_ret (results_tmp2 rfl _ _ _) rfl ?_
  exact ⟨rfl, HO.out⟩
set_option maxHeartbeats 8000000 in
set_option maxRecDepth 100000 in
theorem hslot_ok (w0 w : World) (L R : Hl) (gh gm ga gb key Z N NZ : Nat) (A : Option Addr) (n c clk : Nat) (M : List (ByteArray × Int × Nat)) (fl : List Int) (D : List (List Int)) (hS : HSt key Z N NZ R A n c clk M fl D) (k kz : Nat) (hk : k < N) (hkz : kz = k * Z) (hO : Own w0 w ((gh, .cells #[.int .i64 key, .map (some gm), .slice A n c, .pointer (some ⟨ga, 0, none⟩)] 147 (0, 0)) :: (gm, .map (ents M) clk) :: (R ++ ((ga, .cells #[.int .i64 (Z : Int), .slice (some ⟨gb, 0, none⟩) NZ NZ] 126 (0, 0)) :: (gb, .cells (u8s D.flatten) 5 (0, 0)) :: L)))) : Calls Try.prog 43 #[.pointer (some ⟨gh, 0, none⟩), .int .i64 (k : Int)] w fun e w' => e = .returned (.tuple #[.slice (some ⟨gb, kz, none⟩) Z Z, .bool true]) ∧ Own w0 w' ((gh, .cells #[.int .i64 key, .map (some gm), .slice A n c, .pointer (some ⟨ga, 0, none⟩)] 147 (0, 0)) :: (gm, .map (ents M) clk) :: (R ++ ((ga, .cells #[.int .i64 (Z : Int), .slice (some ⟨gb, 0, none⟩) NZ NZ] 126 (0, 0)) :: (gb, .cells (u8s D.flatten) 5 (0, 0)) :: L))) := by
  have HK : Aside0 ((0 ≤ (k : Int) ∧ (k : Int) < (N : Int)) ∧ (kz : Int) = (k : Int) * (Z : Int)) := ⟨by omega, by rw [hkz, Int.natCast_mul]⟩
  have HLE : Aside0 (kz + Z ≤ NZ) := ⟨by have h2 : (k + 1) * Z ≤ N * Z := Nat.mul_le_mul_right Z hk; rw [Nat.add_mul, Nat.one_mul] at h2; rw [hS.hnz, hkz]; exact h2⟩
  clear hk hkz
  have hui := Try.underlying3
  have hul := Try.underlying32
  have hu8 := Try.underlying5
  have hus := Try.underlying9
  have hum := Try.underlying143
  have huf := Try.underlying145
  have huh := Try.underlying147
  have huap := Try.underlying24
  have HO : Aside0 (Own w0 w ((gh, .cells #[.int .i64 key, .map (some gm), .slice A n c, .pointer (some ⟨ga, 0, none⟩)] 147 (0, 0)) :: (gm, .map (ents M) clk) :: (R ++ ((ga, .cells #[.int .i64 (Z : Int), .slice (some ⟨gb, 0, none⟩) NZ NZ] 126 (0, 0)) :: (gb, .cells (u8s D.flatten) 5 (0, 0)) :: L)))) := ⟨hO⟩
  have HS := Aside0.mk hS
  clear hO hS
  have HZI : Aside0 ((1 ≤ (Z : Int) ∧ (Z : Int) ≤ 32) ∧ (0 ≤ (N : Int) ∧ (N : Int) ≤ 16)) := ⟨by have := HS.out.hz; have := HS.out.hn; omega⟩
  go_enter Try.func43, Try.ntmps43
  go_wp2_with (first | ((with_reducible refine gate_dst (N := 11) rfl ?_); refine own_load HO.out rfl (x := .tmp 10) (v := .pointer (some ⟨ga, 0, none⟩)) rfl (by rfl) (by (repeat (first | exact .head | apply Ext.tail))) huap (by rfl) (by rfl) ?_) | ((with_reducible refine gate_callee (f := 19) rfl ?_); (with_reducible refine gate_dst (N := 13) rfl ?_); refine goesL_ (some 13) rfl rfl Try.func19 (by kernel_rfl) rfl #[.pointer (some ⟨ga, 0, none⟩), .int .i64 (k : Int)] rfl (by (try simp only [List.map_toArray, List.map_cons, List.map_nil]); first | done | rfl) ?_; (with_reducible refine (slot_ok w0 _ ((gh, .cells #[.int .i64 key, .map (some gm), .slice A n c, .pointer (some ⟨ga, 0, none⟩)] 147 (0, 0)) :: (gm, .map (ents M) clk) :: (R ++ L)) ga gb (Z : Int) NZ D.flatten (k : Int) (N : Int) HZI.out.1 HZI.out.2 HS.out.nz.2 kz Z HK.out.1 HK.out.2 rfl HLE.out HS.out.nz.1 (HO.out.repr2 (L' := (ga, .cells #[.int .i64 (Z : Int), .slice (some ⟨gb, 0, none⟩) NZ NZ] 126 (0, 0)) :: (gb, .cells (u8s D.flatten) 5 (0, 0)) :: ((gh, .cells #[.int .i64 key, .map (some gm), .slice A n c, .pointer (some ⟨ga, 0, none⟩)] 147 (0, 0)) :: (gm, .map (ents M) clk) :: (R ++ L))) [] (by classical exact List.perm_iff_count.2 (fun a => by simp only [List.count_append, List.count_cons, List.count_nil, List.append_assoc, List.cons_append, List.nil_append] <;> ac_rfl)))).mono ?_); rintro e wx ⟨rfl, hO_⟩; refine ⟨_, rfl, ?_⟩; have hO_ := hO_.repr2 (L' := ((gh, .cells #[.int .i64 key, .map (some gm), .slice A n c, .pointer (some ⟨ga, 0, none⟩)] 147 (0, 0)) :: (gm, .map (ents M) clk) :: (R ++ ((ga, .cells #[.int .i64 (Z : Int), .slice (some ⟨gb, 0, none⟩) NZ NZ] 126 (0, 0)) :: (gb, .cells (u8s D.flatten) 5 (0, 0)) :: L)))) [] (by classical exact List.perm_iff_count.2 (fun a => by simp only [List.count_append, List.count_cons, List.count_nil, List.append_assoc, List.cons_append, List.nil_append] <;> ac_rfl)); clear HO; have HO := Aside0.mk hO_; clear hO_))
  refine bodyPost_ret (results_tmp2 rfl _ _ _) rfl ?_
  exact ⟨rfl, HO.out⟩
/-- The numbers below n. -/
def nums (n : Nat) : List Int := (List.range n).map (fun (k : Nat) => (k : Int))
theorem nums_succ (n : Nat) : nums (n + 1) = nums n ++ [(n : Int)] := by simp [nums, List.range_succ]
theorem flat_zero : ∀ (N Z : Nat), (List.replicate N (List.replicate Z (0 : Int))).flatten = List.replicate (N * Z) 0
  | 0, Z => by simp
  | N + 1, Z => by rw [List.replicate_succ, List.flatten_cons, flat_zero N Z, Nat.add_mul, Nat.one_mul, Nat.add_comm (N * Z) Z, ← List.replicate_append_replicate]
theorem range_push {fl : List Int} {i : Nat} (h : fl.Perm (nums i)) : (pushF fl (i : Int)).Perm (nums (i + 1)) := by
  refine (push_perm fl _).trans ?_
  rw [nums_succ]
  exact (List.Perm.cons _ h).trans (List.perm_append_comm (l₁ := [(i : Int)]))
set_option maxHeartbeats 8000000 in
set_option maxRecDepth 100000 in
theorem hnew_ok (w0 w : World) (L : Hl) (key Z N NZ : Nat) (hk : 1 ≤ key ∧ key ≤ 8) (hz : 1 ≤ Z ∧ Z ≤ 32) (hn : 1 ≤ N ∧ N ≤ 16) (hnz : NZ = N * Z) (hO : Own w0 w L) : Calls Try.prog 41 #[.int .i64 (key : Int), .int .i64 (Z : Int), .int .i64 (N : Int)] w fun e w' =>
    ∃ gh, e = .returned (.tuple #[.pointer (some ⟨gh, 0, none⟩), .int .i64 0]) ∧ ∃ gm ga gb R A n c clk M fl D, M = [] ∧ clk = 0 ∧ D = List.replicate N (List.replicate Z 0) ∧ Heap fl ∧ fl.Perm (nums N) ∧ HSt key Z N NZ R A n c clk M fl D ∧ Own w0 w' ((gh, .cells #[.int .i64 key, .map (some gm), .slice A n c, .pointer (some ⟨ga, 0, none⟩)] 147 (0, 0)) :: (gm, .map (ents M) clk) :: (R ++ ((ga, .cells #[.int .i64 (Z : Int), .slice (some ⟨gb, 0, none⟩) NZ NZ] 126 (0, 0)) :: (gb, .cells (u8s D.flatten) 5 (0, 0)) :: L))) := by
  have huf := Try.underlying145
  have c1 : decide ((key : Int) < 1) = false := decide_eq_false (by omega)
  have c2 : decide (8 < (key : Int)) = false := decide_eq_false (by omega)
  have c1n : decide (key < 1) = false := decide_eq_false (by omega)
  have c2n : decide (8 < key) = false := decide_eq_false (by omega)
  have hnz2 : NZ ≤ 512 ∧ (NZ : Int) = (Z : Int) * (N : Int) := ⟨by have h1 := Nat.mul_le_mul hn.2 hz.2; rw [hnz]; omega, by rw [hnz, Int.natCast_mul, Int.mul_comm]⟩
  have HZI : Aside0 ((1 ≤ (Z : Int) ∧ (Z : Int) ≤ 32) ∧ (1 ≤ (N : Int) ∧ (N : Int) ≤ 16) ∧ (NZ : Int) = (Z : Int) * (N : Int) ∧ NZ ≤ 512) := ⟨by omega, by omega, hnz2.2, hnz2.1⟩
  have HP := Aside0.mk (And.intro hz (And.intro hn hnz))
  have HO := Aside0.mk hO
  clear hO hk hz hn hnz hnz2
  go_enter Try.func41, Try.ntmps41
  go_wp2_with (first | ((with_reducible refine gate_callee (f := 14) rfl ?_); (with_reducible refine gate_dst (N := 15) rfl ?_); refine goesL_ (some 15) rfl rfl Try.func14 (by kernel_rfl) rfl #[.int .i64 (Z : Int), .int .i64 (N : Int)] rfl (by (try simp only [List.map_toArray, List.map_cons, List.map_nil]); first | done | rfl) ?_; (with_reducible refine (new_ok w0 _ L (Z : Int) (N : Int) NZ HZI.out.1 HZI.out.2.1 HZI.out.2.2.1 HZI.out.2.2.2 HO.out).mono ?_); rintro e wx ⟨ga, rfl, gb, hO_⟩; refine ⟨_, rfl, ?_⟩; clear HO; have HO := Aside0.mk hO_; clear hO_) | ((with_reducible refine gate_dst (N := 29) rfl ?_); refine own_mkmap HO.out rfl (N := 29) rfl rfl ?_; intro gm w29 hO_; clear HO; have HO := Aside0.mk hO_; clear hO_) | ((with_reducible refine gate_dst (N := 32) rfl ?_); refine own_box HO.out ?hg (N := 32) ?hd (cs := #[.int .i64 (key : Int), .map (some gm), .slice none 0 0, .pointer (some ⟨ga, 0, none⟩)]) (t := 147) ?hr ?_; (case hd => rfl); (case hg => rfl); (case hr => first | (go_simp; done) | (go_simp; rfl) | kernel_rfl); intro gh w32 hO_; clear HO; have HO := Aside0.mk hO_; clear hO_))
  go_loopg [11, 34] N (fun gk v11 v34 w' => ∃ (i n c : Nat) (A : Option Addr) (R : Hl) (fl : List Int), v34 = .int .i64 (i : Int) ∧ Aside0 (i + gk = N) ∧ Aside0 (Heap fl ∧ fl.Perm (nums i)) ∧ Aside0 (fl.length = n) ∧ Aside0 (n = i) ∧ Aside0 (RowOf 3 1 R (.slice A n c) n (fl.map (Value.int .i64))) ∧ Aside0 (Own w0 w' ((gh, .cells #[.int .i64 key, .map (some gm), .slice A n c, .pointer (some ⟨ga, 0, none⟩)] 147 (0, 0)) :: (gm, .map (ents []) 0) :: (R ++ ((ga, .cells #[.int .i64 (Z : Int), .slice (some ⟨gb, 0, none⟩) NZ NZ] 126 (0, 0)) :: (gb, .cells (u8s (List.replicate NZ 0)) 5 (0, 0)) :: L)))))
  case atStart => exact ⟨0, 0, 0, none, [], [], rfl, ⟨Nat.zero_add _⟩, ⟨fun k h1 h2 => (by simp at h2), List.Perm.refl _⟩, ⟨rfl⟩, ⟨rfl⟩, ⟨RowOf.none _ _⟩, HO⟩
  case round =>
    clear HO
    obtain ⟨i, n, c, A, R, fl, rfl, HI, HH, HFL, HNI, HR, HO⟩ := hrel
    cases gk with
    | zero =>
      have e1 : decide ((i : Int) < (N : Int)) = false := decide_eq_false (by have := HI.out; omega)
      have e1n : decide (i < N) = false := decide_eq_false (by have := HI.out; omega)
      go_wp2
      refine bodyPost_ret (results_tmp2 rfl _ _ _) rfl ?_
      have hiN : i = N := by have := HI.out; omega
      have hh := HH.out
      rw [hiN] at hh
      refine ⟨gh, rfl, gm, ga, gb, R, A, n, c, 0, [], fl, List.replicate N (List.replicate Z 0), rfl, rfl, rfl, hh.1, hh.2, ⟨HP.out.1, HP.out.2.1, HP.out.2.2, HR.out, HFL.out, by have := HNI.out; have := HP.out.2.1; omega, by simp, fun d hd => by rw [(List.mem_replicate.1 hd).2, List.length_replicate]⟩, ?_⟩
      rw [flat_zero, ← HP.out.2.2]
      exact HO.out
    | succ m =>
      have hin : i < N := by have := HI.out; omega
      have e1 : decide ((i : Int) < (N : Int)) = true := decide_eq_true (by omega)
      have e1n : decide (i < N) = true := decide_eq_true hin
      have HN9 : Aside0 (n ≤ 900) := ⟨by have := HNI.out; have := HP.out.2.1; omega⟩
      have W1 := w_of (x := (i : Int) + 1) (y := ((i + 1 : Nat) : Int)) (by omega) (by have := HP.out.2.1; omega)
      have HH2 : Aside0 (Heap (pushF fl (i : Int)) ∧ (pushF fl (i : Int)).Perm (nums (i + 1))) := ⟨push_heap HH.out.1 _, range_push HH.out.2⟩
      have u1 := W1.out.1; have u1b := W1.out.2
      clear hin
      go_wp2_with (first | ((with_reducible refine gate_callee (f := 82) rfl ?_); (with_reducible refine gate_dst (N := 43) rfl ?_); refine goesL_ (some 43) rfl rfl Try.func82 (by kernel_rfl) rfl #[.iface 149 (.pointer (some ⟨gh, 2, none⟩)), .iface 3 (.int .i64 (i : Int))] rfl (by (try simp only [List.map_toArray, List.map_cons, List.map_nil]); first | done | rfl) ?_; (with_reducible refine (hpush_calls w0 _ ((gm, .map (ents []) 0) :: ((ga, .cells #[.int .i64 (Z : Int), .slice (some ⟨gb, 0, none⟩) NZ NZ] 126 (0, 0)) :: (gb, .cells (u8s (List.replicate NZ 0)) 5 (0, 0)) :: L)) gh (.int .i64 (key : Int)) (.map (some gm)) (.pointer (some ⟨ga, 0, none⟩)) A n c R fl HR.out HFL.out HN9.out (i : Int) (HO.out.repr2 (L' := (gh, .cells #[.int .i64 key, .map (some gm), .slice A n c, .pointer (some ⟨ga, 0, none⟩)] 147 (0, 0)) :: (R ++ ((gm, .map (ents []) 0) :: ((ga, .cells #[.int .i64 (Z : Int), .slice (some ⟨gb, 0, none⟩) NZ NZ] 126 (0, 0)) :: (gb, .cells (u8s (List.replicate NZ 0)) 5 (0, 0)) :: L)))) [] (by classical exact List.perm_iff_count.2 (fun a => by simp only [List.count_append, List.count_cons, List.count_nil, List.append_assoc, List.cons_append, List.nil_append] <;> ac_rfl)))).mono ?_); rintro e wx ⟨rfl, A2, n2, c2, R2, hn2, hR2, hO_⟩; refine ⟨_, rfl, ?_⟩; have HN2 := Aside0.mk hn2; have HR2 := Aside0.mk hR2; clear hn2 hR2; have hO_ := hO_.repr2 (L' := ((gh, .cells #[.int .i64 key, .map (some gm), .slice A2 n2 c2, .pointer (some ⟨ga, 0, none⟩)] 147 (0, 0)) :: (gm, .map (ents []) 0) :: (R2 ++ ((ga, .cells #[.int .i64 (Z : Int), .slice (some ⟨gb, 0, none⟩) NZ NZ] 126 (0, 0)) :: (gb, .cells (u8s (List.replicate NZ 0)) 5 (0, 0)) :: L)))) [] (by classical exact List.perm_iff_count.2 (fun a => by simp only [List.count_append, List.count_cons, List.count_nil, List.append_assoc, List.cons_append, List.nil_append] <;> ac_rfl)); clear HO; have HO := Aside0.mk hO_; clear hO_))
      go_roundg m
      case measure => clear u1 u1b; omega
      case rel => exact ⟨i + 1, n2, c2, A2, R2, _, rfl, ⟨by clear u1 u1b; have := HI.out; omega⟩, HH2, ⟨by rw [push_len, HFL.out, HN2.out]⟩, ⟨by rw [HN2.out, HNI.out]⟩, HR2, HO⟩
set_option maxHeartbeats 8000000 in
set_option maxRecDepth 100000 in
theorem hput_key (w0 w : World) (L R : Hl) (gh gm ga gb key Z N NZ : Nat) (A : Option Addr) (n c clk : Nat) (M : List (ByteArray × Int × Nat)) (fl : List Int) (D : List (List Int)) (hS : HSt key Z N NZ R A n c clk M fl D) (Ak : Option Addr) (kl ck : Nat) (Av : Option Addr) (vl cv : Nat) (fg : Int) (hkl : ¬ kl = key) (hO : Own w0 w ((gh, .cells #[.int .i64 key, .map (some gm), .slice A n c, .pointer (some ⟨ga, 0, none⟩)] 147 (0, 0)) :: (gm, .map (ents M) clk) :: (R ++ ((ga, .cells #[.int .i64 (Z : Int), .slice (some ⟨gb, 0, none⟩) NZ NZ] 126 (0, 0)) :: (gb, .cells (u8s D.flatten) 5 (0, 0)) :: L)))) : Calls Try.prog 42 #[.pointer (some ⟨gh, 0, none⟩), .slice Ak kl ck, .slice Av vl cv, .int .u64 fg] w fun e w' => e = .returned (.tuple #[.int .i64 0, .int .i64 22]) ∧ Own w0 w' ((gh, .cells #[.int .i64 key, .map (some gm), .slice A n c, .pointer (some ⟨ga, 0, none⟩)] 147 (0, 0)) :: (gm, .map (ents M) clk) :: (R ++ ((ga, .cells #[.int .i64 (Z : Int), .slice (some ⟨gb, 0, none⟩) NZ NZ] 126 (0, 0)) :: (gb, .cells (u8s D.flatten) 5 (0, 0)) :: L))) := by
  have hui := Try.underlying3
  have hul := Try.underlying32
  have hu8 := Try.underlying5
  have hus := Try.underlying9
  have hum := Try.underlying143
  have huf := Try.underlying145
  have huh := Try.underlying147
  have huap := Try.underlying24
  have HO : Aside0 (Own w0 w ((gh, .cells #[.int .i64 key, .map (some gm), .slice A n c, .pointer (some ⟨ga, 0, none⟩)] 147 (0, 0)) :: (gm, .map (ents M) clk) :: (R ++ ((ga, .cells #[.int .i64 (Z : Int), .slice (some ⟨gb, 0, none⟩) NZ NZ] 126 (0, 0)) :: (gb, .cells (u8s D.flatten) 5 (0, 0)) :: L)))) := ⟨hO⟩
  have HS := Aside0.mk hS
  clear hO hS
  have hk0 : World.cell? w ⟨gh, 0, none⟩ = some (.int .i64 (key : Int)) := (HO.out.cell .head 0).trans rfl
  have hk3 : World.cell? w ⟨gh, 3, none⟩ = some (.pointer (some ⟨ga, 0, none⟩)) := (HO.out.cell .head 3).trans rfl
  have b1 : ((kl : Int) == (key : Int)) = false := beq_eq_false_iff_ne.mpr (by omega)
  have b1p := eq_false (show ¬ (kl : Int) = (key : Int) by omega)
  have b1n := eq_false hkl
  clear hkl
  go_enter Try.func42, Try.ntmps42
  go_wp2_with (first | (go_at_call 23; (with_reducible refine (size_calls w0 _ ((gh, .cells #[.int .i64 key, .map (some gm), .slice A n c, .pointer (some ⟨ga, 0, none⟩)] 147 (0, 0)) :: (gm, .map (ents M) clk) :: (R ++ L)) ga gb (Z : Int) NZ D.flatten (HO.out.repr2 (L' := (ga, .cells #[.int .i64 (Z : Int), .slice (some ⟨gb, 0, none⟩) NZ NZ] 126 (0, 0)) :: (gb, .cells (u8s D.flatten) 5 (0, 0)) :: ((gh, .cells #[.int .i64 key, .map (some gm), .slice A n c, .pointer (some ⟨ga, 0, none⟩)] 147 (0, 0)) :: (gm, .map (ents M) clk) :: (R ++ L))) [] (by classical exact List.perm_iff_count.2 (fun a => by simp only [List.count_append, List.count_cons, List.count_nil, List.append_assoc, List.cons_append, List.nil_append] <;> ac_rfl)))).mono ?_); rintro e wk ⟨rfl, hO_⟩; have hO_ := hO_.repr2 (L' := ((gh, .cells #[.int .i64 key, .map (some gm), .slice A n c, .pointer (some ⟨ga, 0, none⟩)] 147 (0, 0)) :: (gm, .map (ents M) clk) :: (R ++ ((ga, .cells #[.int .i64 (Z : Int), .slice (some ⟨gb, 0, none⟩) NZ NZ] 126 (0, 0)) :: (gb, .cells (u8s D.flatten) 5 (0, 0)) :: L)))) [] (by classical exact List.perm_iff_count.2 (fun a => by simp only [List.count_append, List.count_cons, List.count_nil, List.append_assoc, List.cons_append, List.nil_append] <;> ac_rfl)); clear HO; have HO := Aside0.mk hO_; clear hO_; dsimp only))
  refine bodyPost_ret (results_tmp2 rfl _ _ _) rfl ?_
  exact ⟨rfl, HO.out⟩
set_option maxHeartbeats 8000000 in
set_option maxRecDepth 100000 in
theorem hput_val (w0 w : World) (L R : Hl) (gh gm ga gb key Z N NZ : Nat) (A : Option Addr) (n c clk : Nat) (M : List (ByteArray × Int × Nat)) (fl : List Int) (D : List (List Int)) (hS : HSt key Z N NZ R A n c clk M fl D) (Ak : Option Addr) (ck : Nat) (Av : Option Addr) (vl cv : Nat) (fg : Int) (hvl : ¬ vl = Z) (hO : Own w0 w ((gh, .cells #[.int .i64 key, .map (some gm), .slice A n c, .pointer (some ⟨ga, 0, none⟩)] 147 (0, 0)) :: (gm, .map (ents M) clk) :: (R ++ ((ga, .cells #[.int .i64 (Z : Int), .slice (some ⟨gb, 0, none⟩) NZ NZ] 126 (0, 0)) :: (gb, .cells (u8s D.flatten) 5 (0, 0)) :: L)))) : Calls Try.prog 42 #[.pointer (some ⟨gh, 0, none⟩), .slice Ak key ck, .slice Av vl cv, .int .u64 fg] w fun e w' => e = .returned (.tuple #[.int .i64 0, .int .i64 22]) ∧ Own w0 w' ((gh, .cells #[.int .i64 key, .map (some gm), .slice A n c, .pointer (some ⟨ga, 0, none⟩)] 147 (0, 0)) :: (gm, .map (ents M) clk) :: (R ++ ((ga, .cells #[.int .i64 (Z : Int), .slice (some ⟨gb, 0, none⟩) NZ NZ] 126 (0, 0)) :: (gb, .cells (u8s D.flatten) 5 (0, 0)) :: L))) := by
  have hui := Try.underlying3
  have hul := Try.underlying32
  have hu8 := Try.underlying5
  have hus := Try.underlying9
  have hum := Try.underlying143
  have huf := Try.underlying145
  have huh := Try.underlying147
  have huap := Try.underlying24
  have HO : Aside0 (Own w0 w ((gh, .cells #[.int .i64 key, .map (some gm), .slice A n c, .pointer (some ⟨ga, 0, none⟩)] 147 (0, 0)) :: (gm, .map (ents M) clk) :: (R ++ ((ga, .cells #[.int .i64 (Z : Int), .slice (some ⟨gb, 0, none⟩) NZ NZ] 126 (0, 0)) :: (gb, .cells (u8s D.flatten) 5 (0, 0)) :: L)))) := ⟨hO⟩
  have HS := Aside0.mk hS
  clear hO hS
  have hk0 : World.cell? w ⟨gh, 0, none⟩ = some (.int .i64 (key : Int)) := (HO.out.cell .head 0).trans rfl
  have hk3 : World.cell? w ⟨gh, 3, none⟩ = some (.pointer (some ⟨ga, 0, none⟩)) := (HO.out.cell .head 3).trans rfl
  have b1 : ((vl : Int) == (Z : Int)) = false := beq_eq_false_iff_ne.mpr (by omega)
  have b1p := eq_false (show ¬ (vl : Int) = (Z : Int) by omega)
  have b1n := eq_false hvl
  clear hvl
  go_enter Try.func42, Try.ntmps42
  go_wp2_with (first | (go_at_call 23; (with_reducible refine (size_calls w0 _ ((gh, .cells #[.int .i64 key, .map (some gm), .slice A n c, .pointer (some ⟨ga, 0, none⟩)] 147 (0, 0)) :: (gm, .map (ents M) clk) :: (R ++ L)) ga gb (Z : Int) NZ D.flatten (HO.out.repr2 (L' := (ga, .cells #[.int .i64 (Z : Int), .slice (some ⟨gb, 0, none⟩) NZ NZ] 126 (0, 0)) :: (gb, .cells (u8s D.flatten) 5 (0, 0)) :: ((gh, .cells #[.int .i64 key, .map (some gm), .slice A n c, .pointer (some ⟨ga, 0, none⟩)] 147 (0, 0)) :: (gm, .map (ents M) clk) :: (R ++ L))) [] (by classical exact List.perm_iff_count.2 (fun a => by simp only [List.count_append, List.count_cons, List.count_nil, List.append_assoc, List.cons_append, List.nil_append] <;> ac_rfl)))).mono ?_); rintro e wk ⟨rfl, hO_⟩; have hO_ := hO_.repr2 (L' := ((gh, .cells #[.int .i64 key, .map (some gm), .slice A n c, .pointer (some ⟨ga, 0, none⟩)] 147 (0, 0)) :: (gm, .map (ents M) clk) :: (R ++ ((ga, .cells #[.int .i64 (Z : Int), .slice (some ⟨gb, 0, none⟩) NZ NZ] 126 (0, 0)) :: (gb, .cells (u8s D.flatten) 5 (0, 0)) :: L)))) [] (by classical exact List.perm_iff_count.2 (fun a => by simp only [List.count_append, List.count_cons, List.count_nil, List.append_assoc, List.cons_append, List.nil_append] <;> ac_rfl)); clear HO; have HO := Aside0.mk hO_; clear hO_; dsimp only))
  refine bodyPost_ret (results_tmp2 rfl _ _ _) rfl ?_
  exact ⟨rfl, HO.out⟩
set_option maxHeartbeats 8000000 in
set_option maxRecDepth 100000 in
theorem hput_flg (w0 w : World) (L R : Hl) (gh gm ga gb key Z N NZ : Nat) (A : Option Addr) (n c clk : Nat) (M : List (ByteArray × Int × Nat)) (fl : List Int) (D : List (List Int)) (hS : HSt key Z N NZ R A n c clk M fl D) (Ak : Option Addr) (ck : Nat) (Av : Option Addr) (cv : Nat) (fg : Int) (hfg : 2 < fg) (hO : Own w0 w ((gh, .cells #[.int .i64 key, .map (some gm), .slice A n c, .pointer (some ⟨ga, 0, none⟩)] 147 (0, 0)) :: (gm, .map (ents M) clk) :: (R ++ ((ga, .cells #[.int .i64 (Z : Int), .slice (some ⟨gb, 0, none⟩) NZ NZ] 126 (0, 0)) :: (gb, .cells (u8s D.flatten) 5 (0, 0)) :: L)))) : Calls Try.prog 42 #[.pointer (some ⟨gh, 0, none⟩), .slice Ak key ck, .slice Av Z cv, .int .u64 fg] w fun e w' => e = .returned (.tuple #[.int .i64 0, .int .i64 22]) ∧ Own w0 w' ((gh, .cells #[.int .i64 key, .map (some gm), .slice A n c, .pointer (some ⟨ga, 0, none⟩)] 147 (0, 0)) :: (gm, .map (ents M) clk) :: (R ++ ((ga, .cells #[.int .i64 (Z : Int), .slice (some ⟨gb, 0, none⟩) NZ NZ] 126 (0, 0)) :: (gb, .cells (u8s D.flatten) 5 (0, 0)) :: L))) := by
  have hui := Try.underlying3
  have hul := Try.underlying32
  have hu8 := Try.underlying5
  have hus := Try.underlying9
  have hum := Try.underlying143
  have huf := Try.underlying145
  have huh := Try.underlying147
  have huap := Try.underlying24
  have HO : Aside0 (Own w0 w ((gh, .cells #[.int .i64 key, .map (some gm), .slice A n c, .pointer (some ⟨ga, 0, none⟩)] 147 (0, 0)) :: (gm, .map (ents M) clk) :: (R ++ ((ga, .cells #[.int .i64 (Z : Int), .slice (some ⟨gb, 0, none⟩) NZ NZ] 126 (0, 0)) :: (gb, .cells (u8s D.flatten) 5 (0, 0)) :: L)))) := ⟨hO⟩
  have HS := Aside0.mk hS
  clear hO hS
  have hk0 : World.cell? w ⟨gh, 0, none⟩ = some (.int .i64 (key : Int)) := (HO.out.cell .head 0).trans rfl
  have hk3 : World.cell? w ⟨gh, 3, none⟩ = some (.pointer (some ⟨ga, 0, none⟩)) := (HO.out.cell .head 3).trans rfl
  have b1 : decide (2 < fg) = true := decide_eq_true hfg
  clear hfg
  go_enter Try.func42, Try.ntmps42
  go_wp2_with (first | (go_at_call 23; (with_reducible refine (size_calls w0 _ ((gh, .cells #[.int .i64 key, .map (some gm), .slice A n c, .pointer (some ⟨ga, 0, none⟩)] 147 (0, 0)) :: (gm, .map (ents M) clk) :: (R ++ L)) ga gb (Z : Int) NZ D.flatten (HO.out.repr2 (L' := (ga, .cells #[.int .i64 (Z : Int), .slice (some ⟨gb, 0, none⟩) NZ NZ] 126 (0, 0)) :: (gb, .cells (u8s D.flatten) 5 (0, 0)) :: ((gh, .cells #[.int .i64 key, .map (some gm), .slice A n c, .pointer (some ⟨ga, 0, none⟩)] 147 (0, 0)) :: (gm, .map (ents M) clk) :: (R ++ L))) [] (by classical exact List.perm_iff_count.2 (fun a => by simp only [List.count_append, List.count_cons, List.count_nil, List.append_assoc, List.cons_append, List.nil_append] <;> ac_rfl)))).mono ?_); rintro e wk ⟨rfl, hO_⟩; have hO_ := hO_.repr2 (L' := ((gh, .cells #[.int .i64 key, .map (some gm), .slice A n c, .pointer (some ⟨ga, 0, none⟩)] 147 (0, 0)) :: (gm, .map (ents M) clk) :: (R ++ ((ga, .cells #[.int .i64 (Z : Int), .slice (some ⟨gb, 0, none⟩) NZ NZ] 126 (0, 0)) :: (gb, .cells (u8s D.flatten) 5 (0, 0)) :: L)))) [] (by classical exact List.perm_iff_count.2 (fun a => by simp only [List.count_append, List.count_cons, List.count_nil, List.append_assoc, List.cons_append, List.nil_append] <;> ac_rfl)); clear HO; have HO := Aside0.mk hO_; clear hO_; dsimp only))
  refine bodyPost_ret (results_tmp2 rfl _ _ _) rfl ?_
  exact ⟨rfl, HO.out⟩
set_option maxHeartbeats 8000000 in
set_option maxRecDepth 100000 in
theorem hput_noent (w0 w : World) (L R : Hl) (gh gm ga gb key Z N NZ : Nat) (A : Option Addr) (n c clk : Nat) (M : List (ByteArray × Int × Nat)) (fl : List Int) (D : List (List Int)) (hS : HSt key Z N NZ R A n c clk M fl D) (ck : Nat) (Ak : Option Addr) (s : ByteArray) (hK : ∀ (W : World) (X : Hl), Own w0 W (X ++ L) → (convert 32 9 (.slice Ak key ck)).run Try.prog W = .ok (.string s) W) (Av : Option Addr) (cv : Nat) (kk : Int) (hf : fnd s M = (kk, false)) (hO : Own w0 w ((gh, .cells #[.int .i64 key, .map (some gm), .slice A n c, .pointer (some ⟨ga, 0, none⟩)] 147 (0, 0)) :: (gm, .map (ents M) clk) :: (R ++ ((ga, .cells #[.int .i64 (Z : Int), .slice (some ⟨gb, 0, none⟩) NZ NZ] 126 (0, 0)) :: (gb, .cells (u8s D.flatten) 5 (0, 0)) :: L)))) : Calls Try.prog 42 #[.pointer (some ⟨gh, 0, none⟩), .slice Ak key ck, .slice Av Z cv, .int .u64 2] w fun e w' => e = .returned (.tuple #[.int .i64 0, .int .i64 2]) ∧ Own w0 w' ((gh, .cells #[.int .i64 key, .map (some gm), .slice A n c, .pointer (some ⟨ga, 0, none⟩)] 147 (0, 0)) :: (gm, .map (ents M) clk) :: (R ++ ((ga, .cells #[.int .i64 (Z : Int), .slice (some ⟨gb, 0, none⟩) NZ NZ] 126 (0, 0)) :: (gb, .cells (u8s D.flatten) 5 (0, 0)) :: L))) := by
  have HF := Aside0.mk hf
  have HK := Aside0.mk hK
  clear hf hK
  have hui := Try.underlying3
  have hul := Try.underlying32
  have hu8 := Try.underlying5
  have hus := Try.underlying9
  have hum := Try.underlying143
  have huf := Try.underlying145
  have huh := Try.underlying147
  have huap := Try.underlying24
  have HO : Aside0 (Own w0 w ((gh, .cells #[.int .i64 key, .map (some gm), .slice A n c, .pointer (some ⟨ga, 0, none⟩)] 147 (0, 0)) :: (gm, .map (ents M) clk) :: (R ++ ((ga, .cells #[.int .i64 (Z : Int), .slice (some ⟨gb, 0, none⟩) NZ NZ] 126 (0, 0)) :: (gb, .cells (u8s D.flatten) 5 (0, 0)) :: L)))) := ⟨hO⟩
  have HS := Aside0.mk hS
  clear hO hS
  have hk0 : World.cell? w ⟨gh, 0, none⟩ = some (.int .i64 (key : Int)) := (HO.out.cell .head 0).trans rfl
  have hk3 : World.cell? w ⟨gh, 3, none⟩ = some (.pointer (some ⟨ga, 0, none⟩)) := (HO.out.cell .head 3).trans rfl
  go_enter Try.func42, Try.ntmps42
  go_wp2_with (first | (go_at_call 23; (with_reducible refine (size_calls w0 _ ((gh, .cells #[.int .i64 key, .map (some gm), .slice A n c, .pointer (some ⟨ga, 0, none⟩)] 147 (0, 0)) :: (gm, .map (ents M) clk) :: (R ++ L)) ga gb (Z : Int) NZ D.flatten (HO.out.repr2 (L' := (ga, .cells #[.int .i64 (Z : Int), .slice (some ⟨gb, 0, none⟩) NZ NZ] 126 (0, 0)) :: (gb, .cells (u8s D.flatten) 5 (0, 0)) :: ((gh, .cells #[.int .i64 key, .map (some gm), .slice A n c, .pointer (some ⟨ga, 0, none⟩)] 147 (0, 0)) :: (gm, .map (ents M) clk) :: (R ++ L))) [] (by classical exact List.perm_iff_count.2 (fun a => by simp only [List.count_append, List.count_cons, List.count_nil, List.append_assoc, List.cons_append, List.nil_append] <;> ac_rfl)))).mono ?_); rintro e wk ⟨rfl, hO_⟩; have hO_ := hO_.repr2 (L' := ((gh, .cells #[.int .i64 key, .map (some gm), .slice A n c, .pointer (some ⟨ga, 0, none⟩)] 147 (0, 0)) :: (gm, .map (ents M) clk) :: (R ++ ((ga, .cells #[.int .i64 (Z : Int), .slice (some ⟨gb, 0, none⟩) NZ NZ] 126 (0, 0)) :: (gb, .cells (u8s D.flatten) 5 (0, 0)) :: L)))) [] (by classical exact List.perm_iff_count.2 (fun a => by simp only [List.count_append, List.count_cons, List.count_nil, List.append_assoc, List.cons_append, List.nil_append] <;> ac_rfl)); clear HO; have HO := Aside0.mk hO_; clear hO_; dsimp only) | ((with_reducible refine gate_callee (f := 69) rfl ?_); (with_reducible refine gate_dst (N := 42) rfl ?_); refine goesL_ (some 42) rfl rfl Try.func69 (by kernel_rfl) rfl #[.pointer (some ⟨gh, 0, none⟩), .slice Ak key ck] rfl (by (try simp only [List.map_toArray, List.map_cons, List.map_nil]); first | done | rfl) ?_; (with_reducible refine (hfind_calls w0 _ L R gh gm ga gb key Z N NZ A n c clk M fl D HS.out key ck Ak s HK.out kk false HF.out HO.out).mono ?_); rintro e wx ⟨rfl, hO_⟩; refine ⟨_, rfl, ?_⟩; clear HO; have HO := Aside0.mk hO_; clear hO_; have hk2 : World.cell? _ ⟨gh, 2, none⟩ = some (.slice A n c) := (HO.out.cell .head 2).trans rfl))
  refine bodyPost_ret (results_tmp2 rfl _ _ _) rfl ?_
  exact ⟨rfl, HO.out⟩
set_option maxHeartbeats 8000000 in
set_option maxRecDepth 100000 in
theorem hput_exist (w0 w : World) (L R : Hl) (gh gm ga gb key Z N NZ : Nat) (A : Option Addr) (n c clk : Nat) (M : List (ByteArray × Int × Nat)) (fl : List Int) (D : List (List Int)) (hS : HSt key Z N NZ R A n c clk M fl D) (ck : Nat) (Ak : Option Addr) (s : ByteArray) (hK : ∀ (W : World) (X : Hl), Own w0 W (X ++ L) → (convert 32 9 (.slice Ak key ck)).run Try.prog W = .ok (.string s) W) (Av : Option Addr) (cv : Nat) (kk : Int) (hf : fnd s M = (kk, true)) (hO : Own w0 w ((gh, .cells #[.int .i64 key, .map (some gm), .slice A n c, .pointer (some ⟨ga, 0, none⟩)] 147 (0, 0)) :: (gm, .map (ents M) clk) :: (R ++ ((ga, .cells #[.int .i64 (Z : Int), .slice (some ⟨gb, 0, none⟩) NZ NZ] 126 (0, 0)) :: (gb, .cells (u8s D.flatten) 5 (0, 0)) :: L)))) : Calls Try.prog 42 #[.pointer (some ⟨gh, 0, none⟩), .slice Ak key ck, .slice Av Z cv, .int .u64 1] w fun e w' => e = .returned (.tuple #[.int .i64 0, .int .i64 17]) ∧ Own w0 w' ((gh, .cells #[.int .i64 key, .map (some gm), .slice A n c, .pointer (some ⟨ga, 0, none⟩)] 147 (0, 0)) :: (gm, .map (ents M) clk) :: (R ++ ((ga, .cells #[.int .i64 (Z : Int), .slice (some ⟨gb, 0, none⟩) NZ NZ] 126 (0, 0)) :: (gb, .cells (u8s D.flatten) 5 (0, 0)) :: L))) := by
  have HF := Aside0.mk hf
  have HK := Aside0.mk hK
  clear hf hK
  have hui := Try.underlying3
  have hul := Try.underlying32
  have hu8 := Try.underlying5
  have hus := Try.underlying9
  have hum := Try.underlying143
  have huf := Try.underlying145
  have huh := Try.underlying147
  have huap := Try.underlying24
  have HO : Aside0 (Own w0 w ((gh, .cells #[.int .i64 key, .map (some gm), .slice A n c, .pointer (some ⟨ga, 0, none⟩)] 147 (0, 0)) :: (gm, .map (ents M) clk) :: (R ++ ((ga, .cells #[.int .i64 (Z : Int), .slice (some ⟨gb, 0, none⟩) NZ NZ] 126 (0, 0)) :: (gb, .cells (u8s D.flatten) 5 (0, 0)) :: L)))) := ⟨hO⟩
  have HS := Aside0.mk hS
  clear hO hS
  have hk0 : World.cell? w ⟨gh, 0, none⟩ = some (.int .i64 (key : Int)) := (HO.out.cell .head 0).trans rfl
  have hk3 : World.cell? w ⟨gh, 3, none⟩ = some (.pointer (some ⟨ga, 0, none⟩)) := (HO.out.cell .head 3).trans rfl
  go_enter Try.func42, Try.ntmps42
  go_wp2_with (first | (go_at_call 23; (with_reducible refine (size_calls w0 _ ((gh, .cells #[.int .i64 key, .map (some gm), .slice A n c, .pointer (some ⟨ga, 0, none⟩)] 147 (0, 0)) :: (gm, .map (ents M) clk) :: (R ++ L)) ga gb (Z : Int) NZ D.flatten (HO.out.repr2 (L' := (ga, .cells #[.int .i64 (Z : Int), .slice (some ⟨gb, 0, none⟩) NZ NZ] 126 (0, 0)) :: (gb, .cells (u8s D.flatten) 5 (0, 0)) :: ((gh, .cells #[.int .i64 key, .map (some gm), .slice A n c, .pointer (some ⟨ga, 0, none⟩)] 147 (0, 0)) :: (gm, .map (ents M) clk) :: (R ++ L))) [] (by classical exact List.perm_iff_count.2 (fun a => by simp only [List.count_append, List.count_cons, List.count_nil, List.append_assoc, List.cons_append, List.nil_append] <;> ac_rfl)))).mono ?_); rintro e wk ⟨rfl, hO_⟩; have hO_ := hO_.repr2 (L' := ((gh, .cells #[.int .i64 key, .map (some gm), .slice A n c, .pointer (some ⟨ga, 0, none⟩)] 147 (0, 0)) :: (gm, .map (ents M) clk) :: (R ++ ((ga, .cells #[.int .i64 (Z : Int), .slice (some ⟨gb, 0, none⟩) NZ NZ] 126 (0, 0)) :: (gb, .cells (u8s D.flatten) 5 (0, 0)) :: L)))) [] (by classical exact List.perm_iff_count.2 (fun a => by simp only [List.count_append, List.count_cons, List.count_nil, List.append_assoc, List.cons_append, List.nil_append] <;> ac_rfl)); clear HO; have HO := Aside0.mk hO_; clear hO_; dsimp only) | ((with_reducible refine gate_callee (f := 69) rfl ?_); (with_reducible refine gate_dst (N := 42) rfl ?_); refine goesL_ (some 42) rfl rfl Try.func69 (by kernel_rfl) rfl #[.pointer (some ⟨gh, 0, none⟩), .slice Ak key ck] rfl (by (try simp only [List.map_toArray, List.map_cons, List.map_nil]); first | done | rfl) ?_; (with_reducible refine (hfind_calls w0 _ L R gh gm ga gb key Z N NZ A n c clk M fl D HS.out key ck Ak s HK.out kk true HF.out HO.out).mono ?_); rintro e wx ⟨rfl, hO_⟩; refine ⟨_, rfl, ?_⟩; clear HO; have HO := Aside0.mk hO_; clear hO_; have hk2 : World.cell? _ ⟨gh, 2, none⟩ = some (.slice A n c) := (HO.out.cell .head 2).trans rfl))
  refine bodyPost_ret (results_tmp2 rfl _ _ _) rfl ?_
  exact ⟨rfl, HO.out⟩
set_option maxHeartbeats 8000000 in
set_option maxRecDepth 100000 in
theorem hput_nospc (w0 w : World) (L R : Hl) (gh gm ga gb key Z N NZ : Nat) (A : Option Addr) (n c clk : Nat) (M : List (ByteArray × Int × Nat)) (fl : List Int) (D : List (List Int)) (hS : HSt key Z N NZ R A n c clk M fl D) (ck : Nat) (Ak : Option Addr) (s : ByteArray) (hK : ∀ (W : World) (X : Hl), Own w0 W (X ++ L) → (convert 32 9 (.slice Ak key ck)).run Try.prog W = .ok (.string s) W) (Av : Option Addr) (cv : Nat) (fg : Int) (hfg : fg = 0 ∨ fg = 1) (kk : Int) (hf : fnd s M = (kk, false)) (hn0 : n = 0) (hO : Own w0 w ((gh, .cells #[.int .i64 key, .map (some gm), .slice A n c, .pointer (some ⟨ga, 0, none⟩)] 147 (0, 0)) :: (gm, .map (ents M) clk) :: (R ++ ((ga, .cells #[.int .i64 (Z : Int), .slice (some ⟨gb, 0, none⟩) NZ NZ] 126 (0, 0)) :: (gb, .cells (u8s D.flatten) 5 (0, 0)) :: L)))) : Calls Try.prog 42 #[.pointer (some ⟨gh, 0, none⟩), .slice Ak key ck, .slice Av Z cv, .int .u64 fg] w fun e w' => e = .returned (.tuple #[.int .i64 0, .int .i64 28]) ∧ Own w0 w' ((gh, .cells #[.int .i64 key, .map (some gm), .slice A n c, .pointer (some ⟨ga, 0, none⟩)] 147 (0, 0)) :: (gm, .map (ents M) clk) :: (R ++ ((ga, .cells #[.int .i64 (Z : Int), .slice (some ⟨gb, 0, none⟩) NZ NZ] 126 (0, 0)) :: (gb, .cells (u8s D.flatten) 5 (0, 0)) :: L))) := by
  have HF := Aside0.mk hf
  have HK := Aside0.mk hK
  have e0 : ((n : Int) == 0) = true := by rw [hn0]; rfl
  have e0p := eq_true (show (n : Int) = 0 by omega)
  have e0n := eq_true hn0
  clear hf hK hn0
  have hui := Try.underlying3
  have hul := Try.underlying32
  have hu8 := Try.underlying5
  have hus := Try.underlying9
  have hum := Try.underlying143
  have huf := Try.underlying145
  have huh := Try.underlying147
  have huap := Try.underlying24
  have HO : Aside0 (Own w0 w ((gh, .cells #[.int .i64 key, .map (some gm), .slice A n c, .pointer (some ⟨ga, 0, none⟩)] 147 (0, 0)) :: (gm, .map (ents M) clk) :: (R ++ ((ga, .cells #[.int .i64 (Z : Int), .slice (some ⟨gb, 0, none⟩) NZ NZ] 126 (0, 0)) :: (gb, .cells (u8s D.flatten) 5 (0, 0)) :: L)))) := ⟨hO⟩
  have HS := Aside0.mk hS
  clear hO hS
  have hk0 : World.cell? w ⟨gh, 0, none⟩ = some (.int .i64 (key : Int)) := (HO.out.cell .head 0).trans rfl
  have hk3 : World.cell? w ⟨gh, 3, none⟩ = some (.pointer (some ⟨ga, 0, none⟩)) := (HO.out.cell .head 3).trans rfl
  rcases hfg with rfl | rfl
  · go_enter Try.func42, Try.ntmps42
    go_wp2_with (first | (go_at_call 23; (with_reducible refine (size_calls w0 _ ((gh, .cells #[.int .i64 key, .map (some gm), .slice A n c, .pointer (some ⟨ga, 0, none⟩)] 147 (0, 0)) :: (gm, .map (ents M) clk) :: (R ++ L)) ga gb (Z : Int) NZ D.flatten (HO.out.repr2 (L' := (ga, .cells #[.int .i64 (Z : Int), .slice (some ⟨gb, 0, none⟩) NZ NZ] 126 (0, 0)) :: (gb, .cells (u8s D.flatten) 5 (0, 0)) :: ((gh, .cells #[.int .i64 key, .map (some gm), .slice A n c, .pointer (some ⟨ga, 0, none⟩)] 147 (0, 0)) :: (gm, .map (ents M) clk) :: (R ++ L))) [] (by classical exact List.perm_iff_count.2 (fun a => by simp only [List.count_append, List.count_cons, List.count_nil, List.append_assoc, List.cons_append, List.nil_append] <;> ac_rfl)))).mono ?_); rintro e wk ⟨rfl, hO_⟩; have hO_ := hO_.repr2 (L' := ((gh, .cells #[.int .i64 key, .map (some gm), .slice A n c, .pointer (some ⟨ga, 0, none⟩)] 147 (0, 0)) :: (gm, .map (ents M) clk) :: (R ++ ((ga, .cells #[.int .i64 (Z : Int), .slice (some ⟨gb, 0, none⟩) NZ NZ] 126 (0, 0)) :: (gb, .cells (u8s D.flatten) 5 (0, 0)) :: L)))) [] (by classical exact List.perm_iff_count.2 (fun a => by simp only [List.count_append, List.count_cons, List.count_nil, List.append_assoc, List.cons_append, List.nil_append] <;> ac_rfl)); clear HO; have HO := Aside0.mk hO_; clear hO_; dsimp only) | ((with_reducible refine gate_callee (f := 69) rfl ?_); (with_reducible refine gate_dst (N := 42) rfl ?_); refine goesL_ (some 42) rfl rfl Try.func69 (by kernel_rfl) rfl #[.pointer (some ⟨gh, 0, none⟩), .slice Ak key ck] rfl (by (try simp only [List.map_toArray, List.map_cons, List.map_nil]); first | done | rfl) ?_; (with_reducible refine (hfind_calls w0 _ L R gh gm ga gb key Z N NZ A n c clk M fl D HS.out key ck Ak s HK.out kk false HF.out HO.out).mono ?_); rintro e wx ⟨rfl, hO_⟩; refine ⟨_, rfl, ?_⟩; clear HO; have HO := Aside0.mk hO_; clear hO_; have hk2 : World.cell? _ ⟨gh, 2, none⟩ = some (.slice A n c) := (HO.out.cell .head 2).trans rfl))
    refine bodyPost_ret (results_tmp2 rfl _ _ _) rfl ?_
    exact ⟨rfl, HO.out⟩
  · go_enter Try.func42, Try.ntmps42
    go_wp2_with (first | (go_at_call 23; (with_reducible refine (size_calls w0 _ ((gh, .cells #[.int .i64 key, .map (some gm), .slice A n c, .pointer (some ⟨ga, 0, none⟩)] 147 (0, 0)) :: (gm, .map (ents M) clk) :: (R ++ L)) ga gb (Z : Int) NZ D.flatten (HO.out.repr2 (L' := (ga, .cells #[.int .i64 (Z : Int), .slice (some ⟨gb, 0, none⟩) NZ NZ] 126 (0, 0)) :: (gb, .cells (u8s D.flatten) 5 (0, 0)) :: ((gh, .cells #[.int .i64 key, .map (some gm), .slice A n c, .pointer (some ⟨ga, 0, none⟩)] 147 (0, 0)) :: (gm, .map (ents M) clk) :: (R ++ L))) [] (by classical exact List.perm_iff_count.2 (fun a => by simp only [List.count_append, List.count_cons, List.count_nil, List.append_assoc, List.cons_append, List.nil_append] <;> ac_rfl)))).mono ?_); rintro e wk ⟨rfl, hO_⟩; have hO_ := hO_.repr2 (L' := ((gh, .cells #[.int .i64 key, .map (some gm), .slice A n c, .pointer (some ⟨ga, 0, none⟩)] 147 (0, 0)) :: (gm, .map (ents M) clk) :: (R ++ ((ga, .cells #[.int .i64 (Z : Int), .slice (some ⟨gb, 0, none⟩) NZ NZ] 126 (0, 0)) :: (gb, .cells (u8s D.flatten) 5 (0, 0)) :: L)))) [] (by classical exact List.perm_iff_count.2 (fun a => by simp only [List.count_append, List.count_cons, List.count_nil, List.append_assoc, List.cons_append, List.nil_append] <;> ac_rfl)); clear HO; have HO := Aside0.mk hO_; clear hO_; dsimp only) | ((with_reducible refine gate_callee (f := 69) rfl ?_); (with_reducible refine gate_dst (N := 42) rfl ?_); refine goesL_ (some 42) rfl rfl Try.func69 (by kernel_rfl) rfl #[.pointer (some ⟨gh, 0, none⟩), .slice Ak key ck] rfl (by (try simp only [List.map_toArray, List.map_cons, List.map_nil]); first | done | rfl) ?_; (with_reducible refine (hfind_calls w0 _ L R gh gm ga gb key Z N NZ A n c clk M fl D HS.out key ck Ak s HK.out kk false HF.out HO.out).mono ?_); rintro e wx ⟨rfl, hO_⟩; refine ⟨_, rfl, ?_⟩; clear HO; have HO := Aside0.mk hO_; clear hO_; have hk2 : World.cell? _ ⟨gh, 2, none⟩ = some (.slice A n c) := (HO.out.cell .head 2).trans rfl))
    refine bodyPost_ret (results_tmp2 rfl _ _ _) rfl ?_
    exact ⟨rfl, HO.out⟩
section
variable {P : Program} {ops : Array Oper} {o : Oper} {a : Act} {Q : Exit → Act → World → Prop} {w0 W : World} {L L' : Hl} {g : Nat} {Kc : Act → World → Prop}
theorem own_mapupd_k (HO : Own w0 W L) (hw : Region.wanted o (yielded ops a.tmps) = true) (hN : o.dst = none) {t kt et : TypeId} {m k x : Operand} (ho : o.op = .mapUpdate t m k x) {d : TypeDesc} {c : Nat} {es : Array MapEntry} (ht : P.underlying t = some (.map kt et)) (hd : P.underlying kt = some d)
    (hm : a.eval m = .map (some g)) (he : Ext L g (.map es c) L') {kv xv : Value} (hkv : a.eval k = kv) (hxv : a.eval x = xv) (hk : MapKept.IsKey d kv) (hf : Instr.findNow d kv es.toList 0 = some none) {es' : Array MapEntry} (hes : es.push { key := kv, val := xv, born := c } = es') {c' : Nat} (hc : c + 1 = c')
    (h : ∀ w1, Own w0 w1 ((g, .map es' c') :: L') → Kc a w1) : if Region.wanted o (yielded ops a.tmps) = true then Oper.wp P o a W Kc Q else Kc (a.put none undef) W := by
  have hq : ∀ w1, Kc a w1 → Kc (a.put o.dst undef) w1 := fun w1 h => by rw [hN]; exact h
  rw [if_pos hw]
  subst hkv
  subst hxv
  subst hes
  subst hc
  have hb := HO.get he
  unfold Oper.wp execOp
  rw [ho]
  simp only [hm, Sem.run_bind, run_update_new ht hd hk hb hf, Result.andThen]
  refine hq _ (h _ (HO.put he ?_ (fun i hi => ?_) (fun B hB => below_obj hB _)))
  · have := blk_lt hb
    simp [this]
  · simp only [Array.getElem?_setIfInBounds]
    rw [if_neg (Ne.symm hi)]
end
set_option maxHeartbeats 8000000 in
set_option maxRecDepth 100000 in
theorem hput_old (w0 w : World) (L R : Hl) (gh gm ga gb key Z N NZ : Nat) (A : Option Addr) (n c clk : Nat) (M : List (ByteArray × Int × Nat)) (fl : List Int) (D : List (List Int)) (hS : HSt key Z N NZ R A n c clk M fl D) (ck : Nat) (Ak : Option Addr) (s : ByteArray) (hK : ∀ (W : World) (X : Hl), Own w0 W (X ++ L) → (convert 32 9 (.slice Ak key ck)).run Try.prog W = .ok (.string s) W) (ad : Addr) (cv : Nat) (vs : List Int) (hvl : vs.length = Z) (hV : ∀ (W : World) (X : Hl), Own w0 W (X ++ L) → ∀ (j : Nat) (u : Value), (vs.map (Value.int .u8))[j]? = some u → W.cell? (ad.add j) = some u) (fg : Int) (hfg : fg = 0 ∨ fg = 2) (k0 kz : Nat) (hk0 : k0 < N) (hkz : kz = k0 * Z) (hf : fnd s M = ((k0 : Int), true)) (hO : Own w0 w ((gh, .cells #[.int .i64 key, .map (some gm), .slice A n c, .pointer (some ⟨ga, 0, none⟩)] 147 (0, 0)) :: (gm, .map (ents M) clk) :: (R ++ ((ga, .cells #[.int .i64 (Z : Int), .slice (some ⟨gb, 0, none⟩) NZ NZ] 126 (0, 0)) :: (gb, .cells (u8s D.flatten) 5 (0, 0)) :: L)))) : Calls Try.prog 42 #[.pointer (some ⟨gh, 0, none⟩), .slice Ak key ck, .slice (some ad) Z cv, .int .u64 fg] w fun e w' =>
    e = .returned (.tuple #[.int .i64 (k0 : Int), .int .i64 0]) ∧ ∃ D', D' = D.set k0 vs ∧ HSt key Z N NZ R A n c clk M fl D' ∧ Own w0 w' ((gh, .cells #[.int .i64 key, .map (some gm), .slice A n c, .pointer (some ⟨ga, 0, none⟩)] 147 (0, 0)) :: (gm, .map (ents M) clk) :: (R ++ ((ga, .cells #[.int .i64 (Z : Int), .slice (some ⟨gb, 0, none⟩) NZ NZ] 126 (0, 0)) :: (gb, .cells (u8s (D').flatten) 5 (0, 0)) :: L))) := by
  have HKK : Aside0 ((0 ≤ (k0 : Int) ∧ (k0 : Int) < (N : Int)) ∧ (kz : Int) = (k0 : Int) * (Z : Int)) := ⟨by omega, by rw [hkz, Int.natCast_mul]⟩
  have HLE : Aside0 (kz + Z ≤ NZ) := ⟨by have h2 : (k0 + 1) * Z ≤ N * Z := Nat.mul_le_mul_right Z hk0; rw [Nat.add_mul, Nat.one_mul] at h2; rw [hS.hnz, hkz]; exact h2⟩
  have HZI : Aside0 ((1 ≤ (Z : Int) ∧ (Z : Int) ≤ 32) ∧ (0 ≤ (N : Int) ∧ (N : Int) ≤ 16)) := ⟨by have := hS.hz; have := hS.hn; omega⟩
  have HPS : Aside0 (kz + (vs.map (Value.int .u8)).length ≤ (u8s D.flatten).size ∧ putAt (u8s D.flatten) kz (vs.map (Value.int .u8)) = u8s (D.set k0 vs).flatten) := ⟨by rw [hkz]; exact put_slot hvl hS.dz (by rw [hS.dl]; exact hk0)⟩
  have HDS : Aside0 ((D.set k0 vs).length = N ∧ ∀ d ∈ D.set k0 vs, d.length = Z) := ⟨by rw [List.length_set]; exact hS.dl, fun d hd => by rcases List.mem_or_eq_of_mem_set hd with hd | rfl; exact hS.dz d hd; exact hvl⟩
  have HF := Aside0.mk hf
  have HK := Aside0.mk hK
  have HV := Aside0.mk hV
  have HVL := Aside0.mk hvl
  clear hf hK hV hvl hkz hk0
  have hui := Try.underlying3
  have hul := Try.underlying32
  have hu8 := Try.underlying5
  have hus := Try.underlying9
  have hum := Try.underlying143
  have huf := Try.underlying145
  have huh := Try.underlying147
  have huap := Try.underlying24
  have HO : Aside0 (Own w0 w ((gh, .cells #[.int .i64 key, .map (some gm), .slice A n c, .pointer (some ⟨ga, 0, none⟩)] 147 (0, 0)) :: (gm, .map (ents M) clk) :: (R ++ ((ga, .cells #[.int .i64 (Z : Int), .slice (some ⟨gb, 0, none⟩) NZ NZ] 126 (0, 0)) :: (gb, .cells (u8s D.flatten) 5 (0, 0)) :: L)))) := ⟨hO⟩
  have HS := Aside0.mk hS
  clear hO hS
  have hk0 : World.cell? w ⟨gh, 0, none⟩ = some (.int .i64 (key : Int)) := (HO.out.cell .head 0).trans rfl
  have hk3 : World.cell? w ⟨gh, 3, none⟩ = some (.pointer (some ⟨ga, 0, none⟩)) := (HO.out.cell .head 3).trans rfl
  rcases hfg with rfl | rfl
  · go_enter Try.func42, Try.ntmps42
    go_wp2_with (first | (go_at_call 23; (with_reducible refine (size_calls w0 _ ((gh, .cells #[.int .i64 key, .map (some gm), .slice A n c, .pointer (some ⟨ga, 0, none⟩)] 147 (0, 0)) :: (gm, .map (ents M) clk) :: (R ++ L)) ga gb (Z : Int) NZ D.flatten (HO.out.repr2 (L' := (ga, .cells #[.int .i64 (Z : Int), .slice (some ⟨gb, 0, none⟩) NZ NZ] 126 (0, 0)) :: (gb, .cells (u8s D.flatten) 5 (0, 0)) :: ((gh, .cells #[.int .i64 key, .map (some gm), .slice A n c, .pointer (some ⟨ga, 0, none⟩)] 147 (0, 0)) :: (gm, .map (ents M) clk) :: (R ++ L))) [] (by classical exact List.perm_iff_count.2 (fun a => by simp only [List.count_append, List.count_cons, List.count_nil, List.append_assoc, List.cons_append, List.nil_append] <;> ac_rfl)))).mono ?_); rintro e wk ⟨rfl, hO_⟩; have hO_ := hO_.repr2 (L' := ((gh, .cells #[.int .i64 key, .map (some gm), .slice A n c, .pointer (some ⟨ga, 0, none⟩)] 147 (0, 0)) :: (gm, .map (ents M) clk) :: (R ++ ((ga, .cells #[.int .i64 (Z : Int), .slice (some ⟨gb, 0, none⟩) NZ NZ] 126 (0, 0)) :: (gb, .cells (u8s D.flatten) 5 (0, 0)) :: L)))) [] (by classical exact List.perm_iff_count.2 (fun a => by simp only [List.count_append, List.count_cons, List.count_nil, List.append_assoc, List.cons_append, List.nil_append] <;> ac_rfl)); clear HO; have HO := Aside0.mk hO_; clear hO_; dsimp only) | ((with_reducible refine gate_callee (f := 69) rfl ?_); (with_reducible refine gate_dst (N := 42) rfl ?_); refine goesL_ (some 42) rfl rfl Try.func69 (by kernel_rfl) rfl #[.pointer (some ⟨gh, 0, none⟩), .slice Ak key ck] rfl (by (try simp only [List.map_toArray, List.map_cons, List.map_nil]); first | done | rfl) ?_; (with_reducible refine (hfind_calls w0 _ L R gh gm ga gb key Z N NZ A n c clk M fl D HS.out key ck Ak s HK.out (k0 : Int) true HF.out HO.out).mono ?_); rintro e wx ⟨rfl, hO_⟩; refine ⟨_, rfl, ?_⟩; clear HO; have HO := Aside0.mk hO_; clear hO_; have hk2 : World.cell? _ ⟨gh, 2, none⟩ = some (.slice A n c) := (HO.out.cell .head 2).trans rfl) | ((with_reducible refine gate_dst (N := 89) rfl ?_); refine own_load HO.out rfl (x := .tmp 88) (v := .pointer (some ⟨ga, 0, none⟩)) rfl (by rfl) (by (repeat (first | exact .head | apply Ext.tail))) huap (by rfl) (by rfl) ?_) | ((with_reducible refine gate_callee (f := 19) rfl ?_); (with_reducible refine gate_dst (N := 91) rfl ?_); refine goesL_ (some 91) rfl rfl Try.func19 (by kernel_rfl) rfl #[.pointer (some ⟨ga, 0, none⟩), .int .i64 (k0 : Int)] rfl (by (try simp only [List.map_toArray, List.map_cons, List.map_nil]); first | done | rfl) ?_; (with_reducible refine (slot_ok w0 _ ((gh, .cells #[.int .i64 key, .map (some gm), .slice A n c, .pointer (some ⟨ga, 0, none⟩)] 147 (0, 0)) :: (gm, .map (ents M) clk) :: (R ++ L)) ga gb (Z : Int) NZ D.flatten (k0 : Int) (N : Int) HZI.out.1 HZI.out.2 HS.out.nz.2 kz Z HKK.out.1 HKK.out.2 rfl HLE.out HS.out.nz.1 (HO.out.repr2 (L' := (ga, .cells #[.int .i64 (Z : Int), .slice (some ⟨gb, 0, none⟩) NZ NZ] 126 (0, 0)) :: (gb, .cells (u8s D.flatten) 5 (0, 0)) :: ((gh, .cells #[.int .i64 key, .map (some gm), .slice A n c, .pointer (some ⟨ga, 0, none⟩)] 147 (0, 0)) :: (gm, .map (ents M) clk) :: (R ++ L))) [] (by classical exact List.perm_iff_count.2 (fun a => by simp only [List.count_append, List.count_cons, List.count_nil, List.append_assoc, List.cons_append, List.nil_append] <;> ac_rfl)))).mono ?_); rintro e wx ⟨rfl, hO_⟩; refine ⟨_, rfl, ?_⟩; have hO_ := hO_.repr2 (L' := ((gh, .cells #[.int .i64 key, .map (some gm), .slice A n c, .pointer (some ⟨ga, 0, none⟩)] 147 (0, 0)) :: (gm, .map (ents M) clk) :: (R ++ ((ga, .cells #[.int .i64 (Z : Int), .slice (some ⟨gb, 0, none⟩) NZ NZ] 126 (0, 0)) :: (gb, .cells (u8s D.flatten) 5 (0, 0)) :: L)))) [] (by classical exact List.perm_iff_count.2 (fun a => by simp only [List.count_append, List.count_cons, List.count_nil, List.append_assoc, List.cons_append, List.nil_append] <;> ac_rfl)); clear HO; have HO := Aside0.mk hO_; clear hO_) | ((with_reducible refine gate_dst (N := 96) rfl ?_); refine hown_copy (elem := 5) (b := gb) (off := kz) (dLen := Z) (dCap := Z) (sLen := Z) (sCap := cv) (ad := ad) (vs := vs.map (Value.int .u8)) HO.out rfl rfl hul (by kernel_rfl) (by rfl) (by rfl) (by rw [List.length_map, HVL.out]; simp [Nat.min_def]) (HV.out _ _ (HO.out.repr2 (L' := ((gh, .cells #[.int .i64 key, .map (some gm), .slice A n c, .pointer (some ⟨ga, 0, none⟩)] 147 (0, 0)) :: (gm, .map (ents M) clk) :: (R ++ ((ga, .cells #[.int .i64 (Z : Int), .slice (some ⟨gb, 0, none⟩) NZ NZ] 126 (0, 0)) :: (gb, .cells (u8s D.flatten) 5 (0, 0)) :: []))) ++ L) [] (by classical exact List.perm_iff_count.2 (fun a => by simp only [List.count_append, List.count_cons, List.count_nil, List.append_assoc, List.cons_append, List.nil_append] <;> ac_rfl)))) (u8s_one _) (.tail (.tail (Ext.app (.tail .head) R))) HPS.out.1 HPS.out.2 ?_; intro wc hO_; have hO_ := hO_.repr2 (L' := ((gh, .cells #[.int .i64 key, .map (some gm), .slice A n c, .pointer (some ⟨ga, 0, none⟩)] 147 (0, 0)) :: (gm, .map (ents M) clk) :: (R ++ ((ga, .cells #[.int .i64 (Z : Int), .slice (some ⟨gb, 0, none⟩) NZ NZ] 126 (0, 0)) :: (gb, .cells (u8s (D.set k0 vs).flatten) 5 (0, 0)) :: L)))) [] (by classical exact List.perm_iff_count.2 (fun a => by simp only [List.count_append, List.count_cons, List.count_nil, List.append_assoc, List.cons_append, List.nil_append] <;> ac_rfl)); clear HO; have HO := Aside0.mk hO_; clear hO_))
    refine bodyPost_ret (results_tmp2 rfl _ _ _) rfl ?_
    exact ⟨rfl, _, rfl, ⟨HS.out.hz, HS.out.hn, HS.out.hnz, HS.out.row, HS.out.fll, HS.out.nle, HDS.out.1, HDS.out.2⟩, HO.out⟩
  · go_enter Try.func42, Try.ntmps42
    go_wp2_with (first | (go_at_call 23; (with_reducible refine (size_calls w0 _ ((gh, .cells #[.int .i64 key, .map (some gm), .slice A n c, .pointer (some ⟨ga, 0, none⟩)] 147 (0, 0)) :: (gm, .map (ents M) clk) :: (R ++ L)) ga gb (Z : Int) NZ D.flatten (HO.out.repr2 (L' := (ga, .cells #[.int .i64 (Z : Int), .slice (some ⟨gb, 0, none⟩) NZ NZ] 126 (0, 0)) :: (gb, .cells (u8s D.flatten) 5 (0, 0)) :: ((gh, .cells #[.int .i64 key, .map (some gm), .slice A n c, .pointer (some ⟨ga, 0, none⟩)] 147 (0, 0)) :: (gm, .map (ents M) clk) :: (R ++ L))) [] (by classical exact List.perm_iff_count.2 (fun a => by simp only [List.count_append, List.count_cons, List.count_nil, List.append_assoc, List.cons_append, List.nil_append] <;> ac_rfl)))).mono ?_); rintro e wk ⟨rfl, hO_⟩; have hO_ := hO_.repr2 (L' := ((gh, .cells #[.int .i64 key, .map (some gm), .slice A n c, .pointer (some ⟨ga, 0, none⟩)] 147 (0, 0)) :: (gm, .map (ents M) clk) :: (R ++ ((ga, .cells #[.int .i64 (Z : Int), .slice (some ⟨gb, 0, none⟩) NZ NZ] 126 (0, 0)) :: (gb, .cells (u8s D.flatten) 5 (0, 0)) :: L)))) [] (by classical exact List.perm_iff_count.2 (fun a => by simp only [List.count_append, List.count_cons, List.count_nil, List.append_assoc, List.cons_append, List.nil_append] <;> ac_rfl)); clear HO; have HO := Aside0.mk hO_; clear hO_; dsimp only) | ((with_reducible refine gate_callee (f := 69) rfl ?_); (with_reducible refine gate_dst (N := 42) rfl ?_); refine goesL_ (some 42) rfl rfl Try.func69 (by kernel_rfl) rfl #[.pointer (some ⟨gh, 0, none⟩), .slice Ak key ck] rfl (by (try simp only [List.map_toArray, List.map_cons, List.map_nil]); first | done | rfl) ?_; (with_reducible refine (hfind_calls w0 _ L R gh gm ga gb key Z N NZ A n c clk M fl D HS.out key ck Ak s HK.out (k0 : Int) true HF.out HO.out).mono ?_); rintro e wx ⟨rfl, hO_⟩; refine ⟨_, rfl, ?_⟩; clear HO; have HO := Aside0.mk hO_; clear hO_; have hk2 : World.cell? _ ⟨gh, 2, none⟩ = some (.slice A n c) := (HO.out.cell .head 2).trans rfl) | ((with_reducible refine gate_dst (N := 89) rfl ?_); refine own_load HO.out rfl (x := .tmp 88) (v := .pointer (some ⟨ga, 0, none⟩)) rfl (by rfl) (by (repeat (first | exact .head | apply Ext.tail))) huap (by rfl) (by rfl) ?_) | ((with_reducible refine gate_callee (f := 19) rfl ?_); (with_reducible refine gate_dst (N := 91) rfl ?_); refine goesL_ (some 91) rfl rfl Try.func19 (by kernel_rfl) rfl #[.pointer (some ⟨ga, 0, none⟩), .int .i64 (k0 : Int)] rfl (by (try simp only [List.map_toArray, List.map_cons, List.map_nil]); first | done | rfl) ?_; (with_reducible refine (slot_ok w0 _ ((gh, .cells #[.int .i64 key, .map (some gm), .slice A n c, .pointer (some ⟨ga, 0, none⟩)] 147 (0, 0)) :: (gm, .map (ents M) clk) :: (R ++ L)) ga gb (Z : Int) NZ D.flatten (k0 : Int) (N : Int) HZI.out.1 HZI.out.2 HS.out.nz.2 kz Z HKK.out.1 HKK.out.2 rfl HLE.out HS.out.nz.1 (HO.out.repr2 (L' := (ga, .cells #[.int .i64 (Z : Int), .slice (some ⟨gb, 0, none⟩) NZ NZ] 126 (0, 0)) :: (gb, .cells (u8s D.flatten) 5 (0, 0)) :: ((gh, .cells #[.int .i64 key, .map (some gm), .slice A n c, .pointer (some ⟨ga, 0, none⟩)] 147 (0, 0)) :: (gm, .map (ents M) clk) :: (R ++ L))) [] (by classical exact List.perm_iff_count.2 (fun a => by simp only [List.count_append, List.count_cons, List.count_nil, List.append_assoc, List.cons_append, List.nil_append] <;> ac_rfl)))).mono ?_); rintro e wx ⟨rfl, hO_⟩; refine ⟨_, rfl, ?_⟩; have hO_ := hO_.repr2 (L' := ((gh, .cells #[.int .i64 key, .map (some gm), .slice A n c, .pointer (some ⟨ga, 0, none⟩)] 147 (0, 0)) :: (gm, .map (ents M) clk) :: (R ++ ((ga, .cells #[.int .i64 (Z : Int), .slice (some ⟨gb, 0, none⟩) NZ NZ] 126 (0, 0)) :: (gb, .cells (u8s D.flatten) 5 (0, 0)) :: L)))) [] (by classical exact List.perm_iff_count.2 (fun a => by simp only [List.count_append, List.count_cons, List.count_nil, List.append_assoc, List.cons_append, List.nil_append] <;> ac_rfl)); clear HO; have HO := Aside0.mk hO_; clear hO_) | ((with_reducible refine gate_dst (N := 96) rfl ?_); refine hown_copy (elem := 5) (b := gb) (off := kz) (dLen := Z) (dCap := Z) (sLen := Z) (sCap := cv) (ad := ad) (vs := vs.map (Value.int .u8)) HO.out rfl rfl hul (by kernel_rfl) (by rfl) (by rfl) (by rw [List.length_map, HVL.out]; simp [Nat.min_def]) (HV.out _ _ (HO.out.repr2 (L' := ((gh, .cells #[.int .i64 key, .map (some gm), .slice A n c, .pointer (some ⟨ga, 0, none⟩)] 147 (0, 0)) :: (gm, .map (ents M) clk) :: (R ++ ((ga, .cells #[.int .i64 (Z : Int), .slice (some ⟨gb, 0, none⟩) NZ NZ] 126 (0, 0)) :: (gb, .cells (u8s D.flatten) 5 (0, 0)) :: []))) ++ L) [] (by classical exact List.perm_iff_count.2 (fun a => by simp only [List.count_append, List.count_cons, List.count_nil, List.append_assoc, List.cons_append, List.nil_append] <;> ac_rfl)))) (u8s_one _) (.tail (.tail (Ext.app (.tail .head) R))) HPS.out.1 HPS.out.2 ?_; intro wc hO_; have hO_ := hO_.repr2 (L' := ((gh, .cells #[.int .i64 key, .map (some gm), .slice A n c, .pointer (some ⟨ga, 0, none⟩)] 147 (0, 0)) :: (gm, .map (ents M) clk) :: (R ++ ((ga, .cells #[.int .i64 (Z : Int), .slice (some ⟨gb, 0, none⟩) NZ NZ] 126 (0, 0)) :: (gb, .cells (u8s (D.set k0 vs).flatten) 5 (0, 0)) :: L)))) [] (by classical exact List.perm_iff_count.2 (fun a => by simp only [List.count_append, List.count_cons, List.count_nil, List.append_assoc, List.cons_append, List.nil_append] <;> ac_rfl)); clear HO; have HO := Aside0.mk hO_; clear hO_))
    refine bodyPost_ret (results_tmp2 rfl _ _ _) rfl ?_
    exact ⟨rfl, _, rfl, ⟨HS.out.hz, HS.out.hn, HS.out.hnz, HS.out.row, HS.out.fll, HS.out.nle, HDS.out.1, HDS.out.2⟩, HO.out⟩
set_option maxHeartbeats 8000000 in
set_option maxRecDepth 100000 in
theorem hput_new (w0 w : World) (L R : Hl) (gh gm ga gb key Z N NZ : Nat) (A : Option Addr) (n c clk : Nat) (M : List (ByteArray × Int × Nat)) (fl : List Int) (D : List (List Int)) (hS : HSt key Z N NZ R A n c clk M fl D) (ck : Nat) (Ak : Option Addr) (s : ByteArray) (hK : ∀ (W : World) (X : Hl), Own w0 W (X ++ L) → (convert 32 9 (.slice Ak key ck)).run Try.prog W = .ok (.string s) W) (ad : Addr) (cv : Nat) (vs : List Int) (hvl : vs.length = Z) (hV : ∀ (W : World) (X : Hl), Own w0 W (X ++ L) → ∀ (j : Nat) (u : Value), (vs.map (Value.int .u8))[j]? = some u → W.cell? (ad.add j) = some u) (fg : Int) (hfg : fg = 0 ∨ fg = 1) (k0 kz : Nat) (hk0 : k0 < N) (hkz : kz = k0 * Z) (kk : Int) (hf : fnd s M = (kk, false)) (hn : 0 < n) (hmin : fl.getD 0 0 = (k0 : Int)) (hO : Own w0 w ((gh, .cells #[.int .i64 key, .map (some gm), .slice A n c, .pointer (some ⟨ga, 0, none⟩)] 147 (0, 0)) :: (gm, .map (ents M) clk) :: (R ++ ((ga, .cells #[.int .i64 (Z : Int), .slice (some ⟨gb, 0, none⟩) NZ NZ] 126 (0, 0)) :: (gb, .cells (u8s D.flatten) 5 (0, 0)) :: L)))) : Calls Try.prog 42 #[.pointer (some ⟨gh, 0, none⟩), .slice Ak key ck, .slice (some ad) Z cv, .int .u64 fg] w fun e w' =>
    e = .returned (.tuple #[.int .i64 (k0 : Int), .int .i64 0]) ∧ ∃ R2 A2 n2 c2 clk2 M2 fl2 D2, n = n2 + 1 ∧ clk2 = clk + 1 ∧ M2 = M ++ [(s, (k0 : Int), clk)] ∧ fl2 = popF fl ∧ D2 = D.set k0 vs ∧ HSt key Z N NZ R2 A2 n2 c2 clk2 M2 fl2 D2 ∧ Own w0 w' ((gh, .cells #[.int .i64 key, .map (some gm), .slice A2 n2 c2, .pointer (some ⟨ga, 0, none⟩)] 147 (0, 0)) :: (gm, .map (ents M2) clk2) :: (R2 ++ ((ga, .cells #[.int .i64 (Z : Int), .slice (some ⟨gb, 0, none⟩) NZ NZ] 126 (0, 0)) :: (gb, .cells (u8s D2.flatten) 5 (0, 0)) :: L))) := by
  have HKK : Aside0 ((0 ≤ (k0 : Int) ∧ (k0 : Int) < (N : Int)) ∧ (kz : Int) = (k0 : Int) * (Z : Int)) := ⟨by omega, by rw [hkz, Int.natCast_mul]⟩
  have HLE : Aside0 (kz + Z ≤ NZ) := ⟨by have h2 : (k0 + 1) * Z ≤ N * Z := Nat.mul_le_mul_right Z hk0; rw [Nat.add_mul, Nat.one_mul] at h2; rw [hS.hnz, hkz]; exact h2⟩
  have HZI : Aside0 ((1 ≤ (Z : Int) ∧ (Z : Int) ≤ 32) ∧ (0 ≤ (N : Int) ∧ (N : Int) ≤ 16)) := ⟨by have := hS.hz; have := hS.hn; omega⟩
  have HPS : Aside0 (kz + (vs.map (Value.int .u8)).length ≤ (u8s D.flatten).size ∧ putAt (u8s D.flatten) kz (vs.map (Value.int .u8)) = u8s (D.set k0 vs).flatten) := ⟨by rw [hkz]; exact put_slot hvl hS.dz (by rw [hS.dl]; exact hk0)⟩
  have HDS : Aside0 ((D.set k0 vs).length = N ∧ ∀ d ∈ D.set k0 vs, d.length = Z) := ⟨by rw [List.length_set]; exact hS.dl, fun d hd => by rcases List.mem_or_eq_of_mem_set hd with hd | rfl; exact hS.dz d hd; exact hvl⟩
  have HF := Aside0.mk hf
  have HK := Aside0.mk hK
  have HV := Aside0.mk hV
  have HVL := Aside0.mk hvl
  clear hf hK hV hvl hkz hk0
  obtain ⟨m, hm⟩ : ∃ m, n = m + 1 := ⟨n - 1, by omega⟩
  have HNM := Aside0.mk hm
  have HN9 : Aside0 (n ≤ 900) := ⟨by have := hS.nle; omega⟩
  have HMIN := Aside0.mk hmin
  have HFN : Aside0 (Instr.findNow .string (.string s) (ents M).toList 0 = some none) := ⟨by have h1 := findNow_strs s M 0; rw [fnd_none HF.out] at h1; exact h1⟩
  have HPL : Aside0 ((popF fl).length = m) := ⟨by rw [pop_len (by intro h; have := hS.fll; rw [h] at this; simp at this; omega), hS.fll, hm]; rfl⟩
  have e0 : ((n : Int) == 0) = false := beq_eq_false_iff_ne.mpr (by omega)
  have e0p := eq_false (show ¬ (n : Int) = 0 by omega)
  have e0n := eq_false (show ¬ n = 0 by omega)
  clear hn hm hmin
  have hui := Try.underlying3
  have hul := Try.underlying32
  have hu8 := Try.underlying5
  have hus := Try.underlying9
  have hum := Try.underlying143
  have huf := Try.underlying145
  have huh := Try.underlying147
  have huap := Try.underlying24
  have HO : Aside0 (Own w0 w ((gh, .cells #[.int .i64 key, .map (some gm), .slice A n c, .pointer (some ⟨ga, 0, none⟩)] 147 (0, 0)) :: (gm, .map (ents M) clk) :: (R ++ ((ga, .cells #[.int .i64 (Z : Int), .slice (some ⟨gb, 0, none⟩) NZ NZ] 126 (0, 0)) :: (gb, .cells (u8s D.flatten) 5 (0, 0)) :: L)))) := ⟨hO⟩
  have HS := Aside0.mk hS
  clear hO hS
  have hk0 : World.cell? w ⟨gh, 0, none⟩ = some (.int .i64 (key : Int)) := (HO.out.cell .head 0).trans rfl
  have hk3 : World.cell? w ⟨gh, 3, none⟩ = some (.pointer (some ⟨ga, 0, none⟩)) := (HO.out.cell .head 3).trans rfl
  rcases hfg with rfl | rfl
  · go_enter Try.func42, Try.ntmps42
    go_wp2_with (first | (go_at_call 23; (with_reducible refine (size_calls w0 _ ((gh, .cells #[.int .i64 key, .map (some gm), .slice A n c, .pointer (some ⟨ga, 0, none⟩)] 147 (0, 0)) :: (gm, .map (ents M) clk) :: (R ++ L)) ga gb (Z : Int) NZ D.flatten (HO.out.repr2 (L' := (ga, .cells #[.int .i64 (Z : Int), .slice (some ⟨gb, 0, none⟩) NZ NZ] 126 (0, 0)) :: (gb, .cells (u8s D.flatten) 5 (0, 0)) :: ((gh, .cells #[.int .i64 key, .map (some gm), .slice A n c, .pointer (some ⟨ga, 0, none⟩)] 147 (0, 0)) :: (gm, .map (ents M) clk) :: (R ++ L))) [] (by classical exact List.perm_iff_count.2 (fun a => by simp only [List.count_append, List.count_cons, List.count_nil, List.append_assoc, List.cons_append, List.nil_append] <;> ac_rfl)))).mono ?_); rintro e wk ⟨rfl, hO_⟩; have hO_ := hO_.repr2 (L' := ((gh, .cells #[.int .i64 key, .map (some gm), .slice A n c, .pointer (some ⟨ga, 0, none⟩)] 147 (0, 0)) :: (gm, .map (ents M) clk) :: (R ++ ((ga, .cells #[.int .i64 (Z : Int), .slice (some ⟨gb, 0, none⟩) NZ NZ] 126 (0, 0)) :: (gb, .cells (u8s D.flatten) 5 (0, 0)) :: L)))) [] (by classical exact List.perm_iff_count.2 (fun a => by simp only [List.count_append, List.count_cons, List.count_nil, List.append_assoc, List.cons_append, List.nil_append] <;> ac_rfl)); clear HO; have HO := Aside0.mk hO_; clear hO_; dsimp only) | ((with_reducible refine gate_callee (f := 69) rfl ?_); (with_reducible refine gate_dst (N := 42) rfl ?_); refine goesL_ (some 42) rfl rfl Try.func69 (by kernel_rfl) rfl #[.pointer (some ⟨gh, 0, none⟩), .slice Ak key ck] rfl (by (try simp only [List.map_toArray, List.map_cons, List.map_nil]); first | done | rfl) ?_; (with_reducible refine (hfind_calls w0 _ L R gh gm ga gb key Z N NZ A n c clk M fl D HS.out key ck Ak s HK.out kk false HF.out HO.out).mono ?_); rintro e wx ⟨rfl, hO_⟩; refine ⟨_, rfl, ?_⟩; clear HO; have HO := Aside0.mk hO_; clear hO_; have hk2 : World.cell? _ ⟨gh, 2, none⟩ = some (.slice A n c) := (HO.out.cell .head 2).trans rfl) | ((with_reducible refine gate_callee (f := 83) rfl ?_); (with_reducible refine gate_dst (N := 76) rfl ?_); refine goesL_ (some 76) rfl rfl Try.func83 (by kernel_rfl) rfl #[.iface 149 (.pointer (some ⟨gh, 2, none⟩))] rfl (by (try simp only [List.map_toArray, List.map_cons, List.map_nil]); first | done | rfl) ?_; (with_reducible refine (hpop_calls w0 _ ((gm, .map (ents M) clk) :: ((ga, .cells #[.int .i64 (Z : Int), .slice (some ⟨gb, 0, none⟩) NZ NZ] 126 (0, 0)) :: (gb, .cells (u8s D.flatten) 5 (0, 0)) :: L)) gh (.int .i64 (key : Int)) (.map (some gm)) (.pointer (some ⟨ga, 0, none⟩)) A n c R fl HS.out.row HS.out.fll HN9.out m HNM.out (k0 : Int) HMIN.out (HO.out.repr2 (L' := (gh, .cells #[.int .i64 key, .map (some gm), .slice A n c, .pointer (some ⟨ga, 0, none⟩)] 147 (0, 0)) :: (R ++ ((gm, .map (ents M) clk) :: ((ga, .cells #[.int .i64 (Z : Int), .slice (some ⟨gb, 0, none⟩) NZ NZ] 126 (0, 0)) :: (gb, .cells (u8s D.flatten) 5 (0, 0)) :: L)))) [] (by classical exact List.perm_iff_count.2 (fun a => by simp only [List.count_append, List.count_cons, List.count_nil, List.append_assoc, List.cons_append, List.nil_append] <;> ac_rfl)))).mono ?_); rintro e wx ⟨rfl, A2, c2, R2, hR2, hO_⟩; refine ⟨_, rfl, ?_⟩; have HR2 := Aside0.mk hR2; clear hR2 hk2; have hO_ := hO_.repr2 (L' := ((gh, .cells #[.int .i64 key, .map (some gm), .slice A2 m c2, .pointer (some ⟨ga, 0, none⟩)] 147 (0, 0)) :: (gm, .map (ents M) clk) :: (R2 ++ ((ga, .cells #[.int .i64 (Z : Int), .slice (some ⟨gb, 0, none⟩) NZ NZ] 126 (0, 0)) :: (gb, .cells (u8s D.flatten) 5 (0, 0)) :: L)))) [] (by classical exact List.perm_iff_count.2 (fun a => by simp only [List.count_append, List.count_cons, List.count_nil, List.append_assoc, List.cons_append, List.nil_append] <;> ac_rfl)); clear HO; have HO := Aside0.mk hO_; clear hO_))
    refine start_ (n := 8) (S := fun W => Own w0 W ((gh, .cells #[.int .i64 key, .map (some gm), .slice A2 m c2, .pointer (some ⟨ga, 0, none⟩)] 147 (0, 0)) :: (gm, .map (ents M) clk) :: (R2 ++ ((ga, .cells #[.int .i64 (Z : Int), .slice (some ⟨gb, 0, none⟩) NZ NZ] 126 (0, 0)) :: (gb, .cells (u8s D.flatten) 5 (0, 0)) :: L)))) (ds := [7]) #[false, false, false, false, false, false, false, false] (by kernel_rfl) rfl rfl (Own.drew (HO.out)) (fun hHeld => ?_)
    have HO_ := Aside0.mk HO.out.drew
    clear HO
    have HO := HO_
    clear HO_
    generalize World.drew _ = wr at HO hHeld ⊢
    refine Hp.pu_ 0 78 (Hp.up 8 1) ?_
    refine Hp.pu_ 1 79 (Hp.up 8 2) ?_
    refine Hp.pu_ 2 80 (Hp.up 8 3) ?_
    refine take_ (i := 3) (N := some 81) (v := .map (some gm)) (a' := ?_) (Hp.up 8 4) rfl rfl (by kernel_rfl) (fun _ _ _ h => h) (own_yield1 (by rfl) (x := .tmp 80) rfl (by rfl) (.head) hum (by rfl) (by rfl)) hHeld ?_ ?_
    rotate_left
    · simp only [Act.put, List.setIfInBounds_toArray, List.set_cons_zero, List.set_cons_succ, i64_w, i32_w]
      rfl
    refine Hp.pu_ 4 82 (Hp.up 8 5) ?_
    refine take_ (i := 5) (N := some 83) (v := .string s) (a' := ?_) (Hp.up 8 6) rfl rfl (by kernel_rfl) (fun _ _ _ h => h) (Or.inl ⟨by rfl, fun w' hS => exec_conv rfl (by rfl) (HK.out w' _ (hS.repr2 (L' := ((gh, .cells #[.int .i64 key, .map (some gm), .slice A2 m c2, .pointer (some ⟨ga, 0, none⟩)] 147 (0, 0)) :: (gm, .map (ents M) clk) :: (R2 ++ ((ga, .cells #[.int .i64 (Z : Int), .slice (some ⟨gb, 0, none⟩) NZ NZ] 126 (0, 0)) :: (gb, .cells (u8s D.flatten) 5 (0, 0)) :: []))) ++ L) [] (by classical exact List.perm_iff_count.2 (fun a => by simp only [List.count_append, List.count_cons, List.count_nil, List.append_assoc, List.cons_append, List.nil_append] <;> ac_rfl))))⟩) hHeld ?_ ?_
    rotate_left
    · simp only [Act.put, List.setIfInBounds_toArray, List.set_cons_zero, List.set_cons_succ, i64_w, i32_w]
      rfl
    refine Hp.pu_ 6 84 (Hp.up 8 7) ?_
    refine last_ (i := 7) (N := none) (Hp.up 8 8) rfl rfl (by kernel_rfl) (by decide) (fun K hK => ?_)
    refine own_mapupd_k HO.out (by rfl) rfl (kv := .string s) (xv := .int .i64 (k0 : Int)) (es' := ents (M ++ [(s, (k0 : Int), clk)])) (c' := clk + 1) rfl hum hus (by rfl) (.tail .head) (by rfl) (by rfl) (by exact trivial) HFN.out (ents_push M s _ clk) rfl ?_
    intro wc hO_
    have hO_ := hO_.repr2 (L' := ((gh, .cells #[.int .i64 key, .map (some gm), .slice A2 m c2, .pointer (some ⟨ga, 0, none⟩)] 147 (0, 0)) :: (gm, .map (ents (M ++ [(s, (k0 : Int), clk)])) (clk + 1)) :: (R2 ++ ((ga, .cells #[.int .i64 (Z : Int), .slice (some ⟨gb, 0, none⟩) NZ NZ] 126 (0, 0)) :: (gb, .cells (u8s D.flatten) 5 (0, 0)) :: L)))) [] (by classical exact List.perm_iff_count.2 (fun a => by simp only [List.count_append, List.count_cons, List.count_nil, List.append_assoc, List.cons_append, List.nil_append] <;> ac_rfl))
    clear HO; have HO := Aside0.mk hO_; clear hO_
    refine hK.out _ _ ?_
    clear hK K
    refine done_ (by kernel_rfl) ?_
    clear hHeld
    go_wp2_with (first | ((with_reducible refine gate_dst (N := 89) rfl ?_); refine own_load HO.out rfl (x := .tmp 88) (v := .pointer (some ⟨ga, 0, none⟩)) rfl (by rfl) (by (repeat (first | exact .head | apply Ext.tail))) huap (by rfl) (by rfl) ?_) | ((with_reducible refine gate_callee (f := 19) rfl ?_); (with_reducible refine gate_dst (N := 91) rfl ?_); refine goesL_ (some 91) rfl rfl Try.func19 (by kernel_rfl) rfl #[.pointer (some ⟨ga, 0, none⟩), .int .i64 (k0 : Int)] rfl (by (try simp only [List.map_toArray, List.map_cons, List.map_nil]); first | done | rfl) ?_; (with_reducible refine (slot_ok w0 _ ((gh, .cells #[.int .i64 key, .map (some gm), .slice A2 m c2, .pointer (some ⟨ga, 0, none⟩)] 147 (0, 0)) :: (gm, .map (ents (M ++ [(s, (k0 : Int), clk)])) (clk + 1)) :: (R2 ++ L)) ga gb (Z : Int) NZ D.flatten (k0 : Int) (N : Int) HZI.out.1 HZI.out.2 HS.out.nz.2 kz Z HKK.out.1 HKK.out.2 rfl HLE.out HS.out.nz.1 (HO.out.repr2 (L' := (ga, .cells #[.int .i64 (Z : Int), .slice (some ⟨gb, 0, none⟩) NZ NZ] 126 (0, 0)) :: (gb, .cells (u8s D.flatten) 5 (0, 0)) :: ((gh, .cells #[.int .i64 key, .map (some gm), .slice A2 m c2, .pointer (some ⟨ga, 0, none⟩)] 147 (0, 0)) :: (gm, .map (ents (M ++ [(s, (k0 : Int), clk)])) (clk + 1)) :: (R2 ++ L))) [] (by classical exact List.perm_iff_count.2 (fun a => by simp only [List.count_append, List.count_cons, List.count_nil, List.append_assoc, List.cons_append, List.nil_append] <;> ac_rfl)))).mono ?_); rintro e wx ⟨rfl, hO_⟩; refine ⟨_, rfl, ?_⟩; have hO_ := hO_.repr2 (L' := ((gh, .cells #[.int .i64 key, .map (some gm), .slice A2 m c2, .pointer (some ⟨ga, 0, none⟩)] 147 (0, 0)) :: (gm, .map (ents (M ++ [(s, (k0 : Int), clk)])) (clk + 1)) :: (R2 ++ ((ga, .cells #[.int .i64 (Z : Int), .slice (some ⟨gb, 0, none⟩) NZ NZ] 126 (0, 0)) :: (gb, .cells (u8s D.flatten) 5 (0, 0)) :: L)))) [] (by classical exact List.perm_iff_count.2 (fun a => by simp only [List.count_append, List.count_cons, List.count_nil, List.append_assoc, List.cons_append, List.nil_append] <;> ac_rfl)); clear HO; have HO := Aside0.mk hO_; clear hO_) | ((with_reducible refine gate_dst (N := 96) rfl ?_); refine hown_copy (elem := 5) (b := gb) (off := kz) (dLen := Z) (dCap := Z) (sLen := Z) (sCap := cv) (ad := ad) (vs := vs.map (Value.int .u8)) HO.out rfl rfl hul (by kernel_rfl) (by rfl) (by rfl) (by rw [List.length_map, HVL.out]; simp [Nat.min_def]) (HV.out _ _ (HO.out.repr2 (L' := ((gh, .cells #[.int .i64 key, .map (some gm), .slice A2 m c2, .pointer (some ⟨ga, 0, none⟩)] 147 (0, 0)) :: (gm, .map (ents (M ++ [(s, (k0 : Int), clk)])) (clk + 1)) :: (R2 ++ ((ga, .cells #[.int .i64 (Z : Int), .slice (some ⟨gb, 0, none⟩) NZ NZ] 126 (0, 0)) :: (gb, .cells (u8s D.flatten) 5 (0, 0)) :: []))) ++ L) [] (by classical exact List.perm_iff_count.2 (fun a => by simp only [List.count_append, List.count_cons, List.count_nil, List.append_assoc, List.cons_append, List.nil_append] <;> ac_rfl)))) (u8s_one _) (.tail (.tail (Ext.app (.tail .head) R2))) HPS.out.1 HPS.out.2 ?_; intro wc hO_; have hO_ := hO_.repr2 (L' := ((gh, .cells #[.int .i64 key, .map (some gm), .slice A2 m c2, .pointer (some ⟨ga, 0, none⟩)] 147 (0, 0)) :: (gm, .map (ents (M ++ [(s, (k0 : Int), clk)])) (clk + 1)) :: (R2 ++ ((ga, .cells #[.int .i64 (Z : Int), .slice (some ⟨gb, 0, none⟩) NZ NZ] 126 (0, 0)) :: (gb, .cells (u8s (D.set k0 vs).flatten) 5 (0, 0)) :: L)))) [] (by classical exact List.perm_iff_count.2 (fun a => by simp only [List.count_append, List.count_cons, List.count_nil, List.append_assoc, List.cons_append, List.nil_append] <;> ac_rfl)); clear HO; have HO := Aside0.mk hO_; clear hO_))
    refine bodyPost_ret (results_tmp2 rfl _ _ _) rfl ?_
    exact ⟨rfl, R2, A2, m, c2, _, _, _, _, HNM.out, rfl, rfl, rfl, rfl, ⟨HS.out.hz, HS.out.hn, HS.out.hnz, HR2.out, HPL.out, by have := HS.out.nle; have := HNM.out; omega, HDS.out.1, HDS.out.2⟩, HO.out⟩
  · go_enter Try.func42, Try.ntmps42
    go_wp2_with (first | (go_at_call 23; (with_reducible refine (size_calls w0 _ ((gh, .cells #[.int .i64 key, .map (some gm), .slice A n c, .pointer (some ⟨ga, 0, none⟩)] 147 (0, 0)) :: (gm, .map (ents M) clk) :: (R ++ L)) ga gb (Z : Int) NZ D.flatten (HO.out.repr2 (L' := (ga, .cells #[.int .i64 (Z : Int), .slice (some ⟨gb, 0, none⟩) NZ NZ] 126 (0, 0)) :: (gb, .cells (u8s D.flatten) 5 (0, 0)) :: ((gh, .cells #[.int .i64 key, .map (some gm), .slice A n c, .pointer (some ⟨ga, 0, none⟩)] 147 (0, 0)) :: (gm, .map (ents M) clk) :: (R ++ L))) [] (by classical exact List.perm_iff_count.2 (fun a => by simp only [List.count_append, List.count_cons, List.count_nil, List.append_assoc, List.cons_append, List.nil_append] <;> ac_rfl)))).mono ?_); rintro e wk ⟨rfl, hO_⟩; have hO_ := hO_.repr2 (L' := ((gh, .cells #[.int .i64 key, .map (some gm), .slice A n c, .pointer (some ⟨ga, 0, none⟩)] 147 (0, 0)) :: (gm, .map (ents M) clk) :: (R ++ ((ga, .cells #[.int .i64 (Z : Int), .slice (some ⟨gb, 0, none⟩) NZ NZ] 126 (0, 0)) :: (gb, .cells (u8s D.flatten) 5 (0, 0)) :: L)))) [] (by classical exact List.perm_iff_count.2 (fun a => by simp only [List.count_append, List.count_cons, List.count_nil, List.append_assoc, List.cons_append, List.nil_append] <;> ac_rfl)); clear HO; have HO := Aside0.mk hO_; clear hO_; dsimp only) | ((with_reducible refine gate_callee (f := 69) rfl ?_); (with_reducible refine gate_dst (N := 42) rfl ?_); refine goesL_ (some 42) rfl rfl Try.func69 (by kernel_rfl) rfl #[.pointer (some ⟨gh, 0, none⟩), .slice Ak key ck] rfl (by (try simp only [List.map_toArray, List.map_cons, List.map_nil]); first | done | rfl) ?_; (with_reducible refine (hfind_calls w0 _ L R gh gm ga gb key Z N NZ A n c clk M fl D HS.out key ck Ak s HK.out kk false HF.out HO.out).mono ?_); rintro e wx ⟨rfl, hO_⟩; refine ⟨_, rfl, ?_⟩; clear HO; have HO := Aside0.mk hO_; clear hO_; have hk2 : World.cell? _ ⟨gh, 2, none⟩ = some (.slice A n c) := (HO.out.cell .head 2).trans rfl) | ((with_reducible refine gate_callee (f := 83) rfl ?_); (with_reducible refine gate_dst (N := 76) rfl ?_); refine goesL_ (some 76) rfl rfl Try.func83 (by kernel_rfl) rfl #[.iface 149 (.pointer (some ⟨gh, 2, none⟩))] rfl (by (try simp only [List.map_toArray, List.map_cons, List.map_nil]); first | done | rfl) ?_; (with_reducible refine (hpop_calls w0 _ ((gm, .map (ents M) clk) :: ((ga, .cells #[.int .i64 (Z : Int), .slice (some ⟨gb, 0, none⟩) NZ NZ] 126 (0, 0)) :: (gb, .cells (u8s D.flatten) 5 (0, 0)) :: L)) gh (.int .i64 (key : Int)) (.map (some gm)) (.pointer (some ⟨ga, 0, none⟩)) A n c R fl HS.out.row HS.out.fll HN9.out m HNM.out (k0 : Int) HMIN.out (HO.out.repr2 (L' := (gh, .cells #[.int .i64 key, .map (some gm), .slice A n c, .pointer (some ⟨ga, 0, none⟩)] 147 (0, 0)) :: (R ++ ((gm, .map (ents M) clk) :: ((ga, .cells #[.int .i64 (Z : Int), .slice (some ⟨gb, 0, none⟩) NZ NZ] 126 (0, 0)) :: (gb, .cells (u8s D.flatten) 5 (0, 0)) :: L)))) [] (by classical exact List.perm_iff_count.2 (fun a => by simp only [List.count_append, List.count_cons, List.count_nil, List.append_assoc, List.cons_append, List.nil_append] <;> ac_rfl)))).mono ?_); rintro e wx ⟨rfl, A2, c2, R2, hR2, hO_⟩; refine ⟨_, rfl, ?_⟩; have HR2 := Aside0.mk hR2; clear hR2 hk2; have hO_ := hO_.repr2 (L' := ((gh, .cells #[.int .i64 key, .map (some gm), .slice A2 m c2, .pointer (some ⟨ga, 0, none⟩)] 147 (0, 0)) :: (gm, .map (ents M) clk) :: (R2 ++ ((ga, .cells #[.int .i64 (Z : Int), .slice (some ⟨gb, 0, none⟩) NZ NZ] 126 (0, 0)) :: (gb, .cells (u8s D.flatten) 5 (0, 0)) :: L)))) [] (by classical exact List.perm_iff_count.2 (fun a => by simp only [List.count_append, List.count_cons, List.count_nil, List.append_assoc, List.cons_append, List.nil_append] <;> ac_rfl)); clear HO; have HO := Aside0.mk hO_; clear hO_))
    refine start_ (n := 8) (S := fun W => Own w0 W ((gh, .cells #[.int .i64 key, .map (some gm), .slice A2 m c2, .pointer (some ⟨ga, 0, none⟩)] 147 (0, 0)) :: (gm, .map (ents M) clk) :: (R2 ++ ((ga, .cells #[.int .i64 (Z : Int), .slice (some ⟨gb, 0, none⟩) NZ NZ] 126 (0, 0)) :: (gb, .cells (u8s D.flatten) 5 (0, 0)) :: L)))) (ds := [7]) #[false, false, false, false, false, false, false, false] (by kernel_rfl) rfl rfl (Own.drew (HO.out)) (fun hHeld => ?_)
    have HO_ := Aside0.mk HO.out.drew
    clear HO
    have HO := HO_
    clear HO_
    generalize World.drew _ = wr at HO hHeld ⊢
    refine Hp.pu_ 0 78 (Hp.up 8 1) ?_
    refine Hp.pu_ 1 79 (Hp.up 8 2) ?_
    refine Hp.pu_ 2 80 (Hp.up 8 3) ?_
    refine take_ (i := 3) (N := some 81) (v := .map (some gm)) (a' := ?_) (Hp.up 8 4) rfl rfl (by kernel_rfl) (fun _ _ _ h => h) (own_yield1 (by rfl) (x := .tmp 80) rfl (by rfl) (.head) hum (by rfl) (by rfl)) hHeld ?_ ?_
    rotate_left
    · simp only [Act.put, List.setIfInBounds_toArray, List.set_cons_zero, List.set_cons_succ, i64_w, i32_w]
      rfl
    refine Hp.pu_ 4 82 (Hp.up 8 5) ?_
    refine take_ (i := 5) (N := some 83) (v := .string s) (a' := ?_) (Hp.up 8 6) rfl rfl (by kernel_rfl) (fun _ _ _ h => h) (Or.inl ⟨by rfl, fun w' hS => exec_conv rfl (by rfl) (HK.out w' _ (hS.repr2 (L' := ((gh, .cells #[.int .i64 key, .map (some gm), .slice A2 m c2, .pointer (some ⟨ga, 0, none⟩)] 147 (0, 0)) :: (gm, .map (ents M) clk) :: (R2 ++ ((ga, .cells #[.int .i64 (Z : Int), .slice (some ⟨gb, 0, none⟩) NZ NZ] 126 (0, 0)) :: (gb, .cells (u8s D.flatten) 5 (0, 0)) :: []))) ++ L) [] (by classical exact List.perm_iff_count.2 (fun a => by simp only [List.count_append, List.count_cons, List.count_nil, List.append_assoc, List.cons_append, List.nil_append] <;> ac_rfl))))⟩) hHeld ?_ ?_
    rotate_left
    · simp only [Act.put, List.setIfInBounds_toArray, List.set_cons_zero, List.set_cons_succ, i64_w, i32_w]
      rfl
    refine Hp.pu_ 6 84 (Hp.up 8 7) ?_
    refine last_ (i := 7) (N := none) (Hp.up 8 8) rfl rfl (by kernel_rfl) (by decide) (fun K hK => ?_)
    refine own_mapupd_k HO.out (by rfl) rfl (kv := .string s) (xv := .int .i64 (k0 : Int)) (es' := ents (M ++ [(s, (k0 : Int), clk)])) (c' := clk + 1) rfl hum hus (by rfl) (.tail .head) (by rfl) (by rfl) (by exact trivial) HFN.out (ents_push M s _ clk) rfl ?_
    intro wc hO_
    have hO_ := hO_.repr2 (L' := ((gh, .cells #[.int .i64 key, .map (some gm), .slice A2 m c2, .pointer (some ⟨ga, 0, none⟩)] 147 (0, 0)) :: (gm, .map (ents (M ++ [(s, (k0 : Int), clk)])) (clk + 1)) :: (R2 ++ ((ga, .cells #[.int .i64 (Z : Int), .slice (some ⟨gb, 0, none⟩) NZ NZ] 126 (0, 0)) :: (gb, .cells (u8s D.flatten) 5 (0, 0)) :: L)))) [] (by classical exact List.perm_iff_count.2 (fun a => by simp only [List.count_append, List.count_cons, List.count_nil, List.append_assoc, List.cons_append, List.nil_append] <;> ac_rfl))
    clear HO; have HO := Aside0.mk hO_; clear hO_
    refine hK.out _ _ ?_
    clear hK K
    refine done_ (by kernel_rfl) ?_
    clear hHeld
    go_wp2_with (first | ((with_reducible refine gate_dst (N := 89) rfl ?_); refine own_load HO.out rfl (x := .tmp 88) (v := .pointer (some ⟨ga, 0, none⟩)) rfl (by rfl) (by (repeat (first | exact .head | apply Ext.tail))) huap (by rfl) (by rfl) ?_) | ((with_reducible refine gate_callee (f := 19) rfl ?_); (with_reducible refine gate_dst (N := 91) rfl ?_); refine goesL_ (some 91) rfl rfl Try.func19 (by kernel_rfl) rfl #[.pointer (some ⟨ga, 0, none⟩), .int .i64 (k0 : Int)] rfl (by (try simp only [List.map_toArray, List.map_cons, List.map_nil]); first | done | rfl) ?_; (with_reducible refine (slot_ok w0 _ ((gh, .cells #[.int .i64 key, .map (some gm), .slice A2 m c2, .pointer (some ⟨ga, 0, none⟩)] 147 (0, 0)) :: (gm, .map (ents (M ++ [(s, (k0 : Int), clk)])) (clk + 1)) :: (R2 ++ L)) ga gb (Z : Int) NZ D.flatten (k0 : Int) (N : Int) HZI.out.1 HZI.out.2 HS.out.nz.2 kz Z HKK.out.1 HKK.out.2 rfl HLE.out HS.out.nz.1 (HO.out.repr2 (L' := (ga, .cells #[.int .i64 (Z : Int), .slice (some ⟨gb, 0, none⟩) NZ NZ] 126 (0, 0)) :: (gb, .cells (u8s D.flatten) 5 (0, 0)) :: ((gh, .cells #[.int .i64 key, .map (some gm), .slice A2 m c2, .pointer (some ⟨ga, 0, none⟩)] 147 (0, 0)) :: (gm, .map (ents (M ++ [(s, (k0 : Int), clk)])) (clk + 1)) :: (R2 ++ L))) [] (by classical exact List.perm_iff_count.2 (fun a => by simp only [List.count_append, List.count_cons, List.count_nil, List.append_assoc, List.cons_append, List.nil_append] <;> ac_rfl)))).mono ?_); rintro e wx ⟨rfl, hO_⟩; refine ⟨_, rfl, ?_⟩; have hO_ := hO_.repr2 (L' := ((gh, .cells #[.int .i64 key, .map (some gm), .slice A2 m c2, .pointer (some ⟨ga, 0, none⟩)] 147 (0, 0)) :: (gm, .map (ents (M ++ [(s, (k0 : Int), clk)])) (clk + 1)) :: (R2 ++ ((ga, .cells #[.int .i64 (Z : Int), .slice (some ⟨gb, 0, none⟩) NZ NZ] 126 (0, 0)) :: (gb, .cells (u8s D.flatten) 5 (0, 0)) :: L)))) [] (by classical exact List.perm_iff_count.2 (fun a => by simp only [List.count_append, List.count_cons, List.count_nil, List.append_assoc, List.cons_append, List.nil_append] <;> ac_rfl)); clear HO; have HO := Aside0.mk hO_; clear hO_) | ((with_reducible refine gate_dst (N := 96) rfl ?_); refine hown_copy (elem := 5) (b := gb) (off := kz) (dLen := Z) (dCap := Z) (sLen := Z) (sCap := cv) (ad := ad) (vs := vs.map (Value.int .u8)) HO.out rfl rfl hul (by kernel_rfl) (by rfl) (by rfl) (by rw [List.length_map, HVL.out]; simp [Nat.min_def]) (HV.out _ _ (HO.out.repr2 (L' := ((gh, .cells #[.int .i64 key, .map (some gm), .slice A2 m c2, .pointer (some ⟨ga, 0, none⟩)] 147 (0, 0)) :: (gm, .map (ents (M ++ [(s, (k0 : Int), clk)])) (clk + 1)) :: (R2 ++ ((ga, .cells #[.int .i64 (Z : Int), .slice (some ⟨gb, 0, none⟩) NZ NZ] 126 (0, 0)) :: (gb, .cells (u8s D.flatten) 5 (0, 0)) :: []))) ++ L) [] (by classical exact List.perm_iff_count.2 (fun a => by simp only [List.count_append, List.count_cons, List.count_nil, List.append_assoc, List.cons_append, List.nil_append] <;> ac_rfl)))) (u8s_one _) (.tail (.tail (Ext.app (.tail .head) R2))) HPS.out.1 HPS.out.2 ?_; intro wc hO_; have hO_ := hO_.repr2 (L' := ((gh, .cells #[.int .i64 key, .map (some gm), .slice A2 m c2, .pointer (some ⟨ga, 0, none⟩)] 147 (0, 0)) :: (gm, .map (ents (M ++ [(s, (k0 : Int), clk)])) (clk + 1)) :: (R2 ++ ((ga, .cells #[.int .i64 (Z : Int), .slice (some ⟨gb, 0, none⟩) NZ NZ] 126 (0, 0)) :: (gb, .cells (u8s (D.set k0 vs).flatten) 5 (0, 0)) :: L)))) [] (by classical exact List.perm_iff_count.2 (fun a => by simp only [List.count_append, List.count_cons, List.count_nil, List.append_assoc, List.cons_append, List.nil_append] <;> ac_rfl)); clear HO; have HO := Aside0.mk hO_; clear hO_))
    refine bodyPost_ret (results_tmp2 rfl _ _ _) rfl ?_
    exact ⟨rfl, R2, A2, m, c2, _, _, _, _, HNM.out, rfl, rfl, rfl, rfl, ⟨HS.out.hz, HS.out.hn, HS.out.hnz, HR2.out, HPL.out, by have := HS.out.nle; have := HNM.out; omega, HDS.out.1, HDS.out.2⟩, HO.out⟩
end Go.Proofs.Hh
