/- Same of the ring's law: both rings tell the same; no conditions beyond each theorem's own. -/
import Derived.Test.YtgkdbhkbkpfbpaaRQ
set_option linter.unusedVariables false
set_option linter.unusedSimpArgs false
namespace Go.Proofs.Rg
open Go.RowKit Go.Proofs.Ev Go.Proofs.Hp Go.Proofs.Ar Go.Proofs.YtgkdbhkbkpfbpaaW.PrintWords Go.Proofs.YtgkdbhkbkpfbpaaW.PrintLast Go.Proofs.YtgkdbhkbkpfbpaaW.PrintMore
attribute [local go_sem] max2_int min2_int max_two min_two max_three min_three max_four min_four eql_slice_nil
theorem heldl_at {R : List Rc} {G : List Bool} (hid : ∀ (i : Nat) r, R[i]? = some r → r.id = (i : Int)) {j : Nat} (hj : j < (heldl (live R G)).length) : ∃ (i : Nat) (r : Rc), (heldl (live R G))[j] = (i : Int) ∧ R[i]? = some r ∧ G[i]? = some false ∧ r.st = 0 := by
  obtain ⟨r, h1, h2, h3⟩ := heldl_mem (live R G) _ (List.getElem_mem hj)
  obtain ⟨i, h4, h5⟩ := live_idx R G r h1
  exact ⟨i, r, by rw [← h3]; exact hid i r h4, h4, h5, h2⟩
theorem permX {a b c d X B J T e L : Hl} (h : X.Perm (B ++ J)) : (a ++ (b ++ (c ++ (d ++ (X ++ (T ++ (e ++ L))))))).Perm (B ++ (a ++ (b ++ (c ++ (d ++ (J ++ (T ++ (e ++ L)))))))) := by
  refine List.Perm.trans (List.Perm.append_left a (List.Perm.append_left b (List.Perm.append_left c (List.Perm.append_left d (List.Perm.append_right _ h))))) ?_
  exact (by classical exact List.perm_iff_count.2 (fun a => by simp only [List.count_append, List.count_cons, List.count_nil, List.append_assoc, List.cons_append, List.nil_append] <;> ac_rfl))
theorem permT {a b c d X B J T e L : Hl} (h : T.Perm (B ++ J)) : (a ++ (b ++ (c ++ (d ++ (X ++ (T ++ (e ++ L))))))).Perm (B ++ (a ++ (b ++ (c ++ (d ++ (X ++ (J ++ (e ++ L)))))))) := by
  refine List.Perm.trans (List.Perm.append_left a (List.Perm.append_left b (List.Perm.append_left c (List.Perm.append_left d (List.Perm.append_left X (List.Perm.append_right _ h)))))) ?_
  exact (by classical exact List.perm_iff_count.2 (fun a => by simp only [List.count_append, List.count_cons, List.count_nil, List.append_assoc, List.cons_append, List.nil_append] <;> ac_rfl))
theorem row_map_at {xs : List Int} {n j : Nat} {cs : Array Value} (h : cs.toList.take (n * 1) = xs.map (Value.int .i64)) (hj : j < xs.length) : cs[j]? = some (.int .i64 xs[j]) :=
  cell_of_take h (by rw [List.getElem?_map, List.getElem?_eq_getElem hj]; rfl)
set_option maxHeartbeats 8000000 in
set_option maxRecDepth 100000 in
theorem same13 (w0 w : World) (L X Y : Hl) (gr gw : Nat) (room drops nxt : Int) (A AW : Option Addr) (n c nw cw : Nat) (R : List Rc) (G : List Bool) (hS : RSt X A n c (live R G)) (hW : DSt Y AW nw cw R G) (hb1 : ∀ r ∈ R, 1 ≤ r.b.length) (hO : Own w0 w ((gr, .cells #[.int .i64 room, .int .i64 drops, .int .i64 nxt, .slice A n c] 133 (0, 0)) :: (gw, .cells #[.int .i64 room, .int .i64 drops, .slice AW nw cw] 72 (0, 0)) :: (X ++ (Y ++ L)))) :
    Calls Try.prog 53 #[.pointer (some ⟨gr, 0, none⟩), .pointer (some ⟨gw, 0, none⟩)] w fun e w' => e = .returned (.bool true) ∧ Own w0 w' ((gr, .cells #[.int .i64 room, .int .i64 drops, .int .i64 nxt, .slice A n c] 133 (0, 0)) :: (gw, .cells #[.int .i64 room, .int .i64 drops, .slice AW nw cw] 72 (0, 0)) :: (X ++ (Y ++ L))) := by
  have hui := Try.underlying3
  have hul := Try.underlying32
  have hu8 := Try.underlying5
  have hur := Try.underlying135
  have hurs := Try.underlying131
  have hub := Try.underlying4
  have hus := Try.underlying9
  have hurs_d := Try.underlying70
  have huis := Try.underlying144
  have HO : Aside0 (Own w0 w ((gr, .cells #[.int .i64 room, .int .i64 drops, .int .i64 nxt, .slice A n c] 133 (0, 0)) :: (gw, .cells #[.int .i64 room, .int .i64 drops, .slice AW nw cw] 72 (0, 0)) :: (X ++ (Y ++ L)))) := ⟨hO⟩
  have HS := Aside0.mk hS
  have HW := Aside0.mk hW
  have HB1 := Aside0.mk hb1
  clear hO hS hW hb1
  go_enter Try.func53, Try.ntmps53
  go_wp2_with (first | ((with_reducible refine gate_callee (f := 85) rfl ?_); (with_reducible refine gate_dst (N := 11) rfl ?_); refine goesL_ (some 11) rfl rfl Try.func85 (by kernel_rfl) rfl #[.pointer (some ⟨gr, 0, none⟩)] rfl (by (try simp only [List.map_toArray, List.map_cons, List.map_nil]); first | done | rfl) ?_; (with_reducible refine (held_calls w0 _ ((gw, .cells #[.int .i64 room, .int .i64 drops, .slice AW nw cw] 72 (0, 0)) :: (Y ++ L)) X gr room drops nxt A n c (live R G) HS.out (HO.out.repr (L' := (gr, .cells #[.int .i64 room, .int .i64 drops, .int .i64 nxt, .slice A n c] 133 (0, 0)) :: (X ++ ((gw, .cells #[.int .i64 room, .int .i64 drops, .slice AW nw cw] 72 (0, 0)) :: (Y ++ L)))) [] (by classical exact List.perm_iff_count.2 (fun a => by simp only [List.count_append, List.count_cons, List.count_nil, List.append_assoc, List.cons_append, List.nil_append] <;> ac_rfl)))).mono ?_); rintro e wx ⟨v1, rfl, H1, hH1, hO_⟩; refine ⟨_, rfl, ?_⟩; obtain ⟨A1, c1_, rfl⟩ := RowOf.shape hH1; have HH1 := Aside0.mk hH1; clear hH1; have hO_ := hO_.repr (L' := ((gr, .cells #[.int .i64 room, .int .i64 drops, .int .i64 nxt, .slice A n c] 133 (0, 0)) :: (gw, .cells #[.int .i64 room, .int .i64 drops, .slice AW nw cw] 72 (0, 0)) :: (X ++ (Y ++ (H1 ++ L))))) [] (by classical exact List.perm_iff_count.2 (fun a => by simp only [List.count_append, List.count_cons, List.count_nil, List.append_assoc, List.cons_append, List.nil_append] <;> ac_rfl)); clear HO; have HO := Aside0.mk hO_; clear hO_) | ((with_reducible refine gate_callee (f := 86) rfl ?_); (with_reducible refine gate_dst (N := 13) rfl ?_); refine goesL_ (some 13) rfl rfl Try.func86 (by kernel_rfl) rfl #[.pointer (some ⟨gw, 0, none⟩)] rfl (by (try simp only [List.map_toArray, List.map_cons, List.map_nil]); first | done | rfl) ?_; (with_reducible refine (dheld_calls w0 _ ((gr, .cells #[.int .i64 room, .int .i64 drops, .int .i64 nxt, .slice A n c] 133 (0, 0)) :: (X ++ (H1 ++ L))) Y gw room drops AW nw cw R G HW.out (HO.out.repr (L' := (gw, .cells #[.int .i64 room, .int .i64 drops, .slice AW nw cw] 72 (0, 0)) :: (Y ++ ((gr, .cells #[.int .i64 room, .int .i64 drops, .int .i64 nxt, .slice A n c] 133 (0, 0)) :: (X ++ (H1 ++ L))))) [] (by classical exact List.perm_iff_count.2 (fun a => by simp only [List.count_append, List.count_cons, List.count_nil, List.append_assoc, List.cons_append, List.nil_append] <;> ac_rfl)))).mono ?_); rintro e wx ⟨v2, rfl, H2, hH2, hO_⟩; refine ⟨_, rfl, ?_⟩; obtain ⟨A2, c2_, rfl⟩ := RowOf.shape hH2; have HH2 := Aside0.mk hH2; clear hH2; have hO_ := hO_.repr (L' := (H1 ++ (H2 ++ ((gr, .cells #[.int .i64 room, .int .i64 drops, .int .i64 nxt, .slice A n c] 133 (0, 0)) :: (gw, .cells #[.int .i64 room, .int .i64 drops, .slice AW nw cw] 72 (0, 0)) :: (X ++ (Y ++ L)))))) [] (by classical exact List.perm_iff_count.2 (fun a => by simp only [List.count_append, List.count_cons, List.count_nil, List.append_assoc, List.cons_append, List.nil_append] <;> ac_rfl)); clear HO; have HO := Aside0.mk hO_; clear hO_))
  obtain ⟨hl, hhl⟩ : ∃ hl : List Int, heldl (live R G) = hl := ⟨_, rfl⟩
  obtain ⟨m, hm⟩ : ∃ m : Nat, hl.length = m := ⟨_, rfl⟩
  rw [hhl, hm] at HH1 HH2
  have HHL := Aside0.mk (And.intro hhl hm)
  have HM80 : Aside0 (m ≤ 80) := ⟨by have h1 := heldl_len (live R G); have h2 := live_len R G; rw [hhl, hm] at h1; have := HW.out.len; have := HW.out.le; omega⟩
  rw [hhl, hm]
  clear hhl hm
  generalize hU_ : used (live R G) = U_ at *
  clear hU_
  refine start_ (n := 30) (S := fun W => Own w0 W [(gw, .cells #[.int .i64 room, .int .i64 drops, .slice AW nw cw] 72 (0, 0))]) (ds := []) #[false, false, false, false, false, false, false, false, false, false, false, false, false, false, false, false, false, false, false, false, false, false, false, false, false, false, false, false, false, false] (by kernel_rfl) rfl rfl (Own.drew (HO.out.repr (L' := [(gw, .cells #[.int .i64 room, .int .i64 drops, .slice AW nw cw] 72 (0, 0))]) ((gr, .cells #[.int .i64 room, .int .i64 drops, .int .i64 nxt, .slice A n c] 133 (0, 0)) :: (X ++ (Y ++ (H1 ++ (H2 ++ (L)))))) (by classical exact List.perm_iff_count.2 (fun a => by simp only [List.count_append, List.count_cons, List.count_nil, List.append_assoc, List.cons_append, List.nil_append] <;> ac_rfl)))) (fun hHeld => ?_)
  have HO_ := Aside0.mk HO.out.drew
  clear HO
  have HO := HO_
  clear HO_
  generalize World.drew _ = wr at HO hHeld ⊢
  refine Hp.pu_ 0 14 (Hp.up 30 1) ?_
  refine Hp.pu_ 1 15 (Hp.up 30 2) ?_
  refine Hp.pu_ 2 16 (Hp.up 30 3) ?_
  refine Hp.pu_ 3 17 (Hp.up 30 4) ?_
  refine Hp.pu_ 4 18 (Hp.up 30 5) ?_
  refine Hp.pu_ 5 19 (Hp.up 30 6) ?_
  refine Hp.pu_ 6 20 (Hp.up 30 7) ?_
  refine Hp.pu_ 8 22 #[true, true, true, true, true, true, true, false, true, false, false, false, false, false, false, false, false, false, false, false, false, false, false, false, false, false, false, false, false, false] ?_
  refine one_ (i := 7) (N := some 21) (Hp.up 30 9) rfl rfl (by kernel_rfl) (by decide) (fun K hK => ?_)
  refine goes_ Try.func32 (by kernel_rfl) rfl #[.pointer (some ⟨gr, 0, none⟩)] (by rfl) rfl rfl (by (try simp only [List.map_toArray, List.map_cons, List.map_nil]); first | done | rfl) ?_
  refine (used_calls w0 _ ((gw, .cells #[.int .i64 room, .int .i64 drops, .slice AW nw cw] 72 (0, 0)) :: (Y ++ (H1 ++ (H2 ++ L)))) X gr room drops nxt A n c (live R G) HS.out (HO.out.repr (L' := (gr, .cells #[.int .i64 room, .int .i64 drops, .int .i64 nxt, .slice A n c] 133 (0, 0)) :: (X ++ ((gw, .cells #[.int .i64 room, .int .i64 drops, .slice AW nw cw] 72 (0, 0)) :: (Y ++ (H1 ++ (H2 ++ L)))))) [] (by classical exact List.perm_iff_count.2 (fun a => by simp only [List.count_append, List.count_cons, List.count_nil, List.append_assoc, List.cons_append, List.nil_append] <;> ac_rfl)))).mono ?_
  rintro e wx ⟨rfl, hO_⟩
  refine ⟨_, rfl, ?_⟩
  have hO_ := hO_.repr (L' := (H1 ++ (H2 ++ ((gr, .cells #[.int .i64 room, .int .i64 drops, .int .i64 nxt, .slice A n c] 133 (0, 0)) :: (gw, .cells #[.int .i64 room, .int .i64 drops, .slice AW nw cw] 72 (0, 0)) :: (X ++ (Y ++ L)))))) [] (by classical exact List.perm_iff_count.2 (fun a => by simp only [List.count_append, List.count_cons, List.count_nil, List.append_assoc, List.cons_append, List.nil_append] <;> ac_rfl))
  clear HO; have HO := Aside0.mk hO_; clear hO_
  refine hK.out _ _ (HO.out.repr (L' := [(gw, .cells #[.int .i64 room, .int .i64 drops, .slice AW nw cw] 72 (0, 0))]) ((gr, .cells #[.int .i64 room, .int .i64 drops, .int .i64 nxt, .slice A n c] 133 (0, 0)) :: (X ++ (Y ++ (H1 ++ (H2 ++ (L)))))) (by classical exact List.perm_iff_count.2 (fun a => by simp only [List.count_append, List.count_cons, List.count_nil, List.append_assoc, List.cons_append, List.nil_append] <;> ac_rfl))) (fun hHeld => ?_)
  clear hK K
  refine norm_ (a' := ?_) ?_ ?_
  rotate_left
  · show Act.put _ (some 21) _ = _
    simp only [Act.put, List.setIfInBounds_toArray, List.set_cons_zero, List.set_cons_succ, i64_w, i32_w]
    rfl
  refine one_ (i := 9) (N := some 23) (Hp.up 30 10) rfl rfl (by kernel_rfl) (by decide) (fun K hK => ?_)
  refine goes_ Try.func84 (by kernel_rfl) rfl #[.pointer (some ⟨gw, 0, none⟩)] (by rfl) rfl rfl (by (try simp only [List.map_toArray, List.map_cons, List.map_nil]); first | done | rfl) ?_
  refine (dused_calls w0 _ ((gr, .cells #[.int .i64 room, .int .i64 drops, .int .i64 nxt, .slice A n c] 133 (0, 0)) :: (X ++ (H1 ++ (H2 ++ L)))) Y gw room drops AW nw cw R G HW.out (HO.out.repr (L' := (gw, .cells #[.int .i64 room, .int .i64 drops, .slice AW nw cw] 72 (0, 0)) :: (Y ++ ((gr, .cells #[.int .i64 room, .int .i64 drops, .int .i64 nxt, .slice A n c] 133 (0, 0)) :: (X ++ (H1 ++ (H2 ++ L)))))) [] (by classical exact List.perm_iff_count.2 (fun a => by simp only [List.count_append, List.count_cons, List.count_nil, List.append_assoc, List.cons_append, List.nil_append] <;> ac_rfl)))).mono ?_
  rintro e wx ⟨rfl, hO_⟩
  refine ⟨_, rfl, ?_⟩
  have hO_ := hO_.repr (L' := (H1 ++ (H2 ++ ((gr, .cells #[.int .i64 room, .int .i64 drops, .int .i64 nxt, .slice A n c] 133 (0, 0)) :: (gw, .cells #[.int .i64 room, .int .i64 drops, .slice AW nw cw] 72 (0, 0)) :: (X ++ (Y ++ L)))))) [] (by classical exact List.perm_iff_count.2 (fun a => by simp only [List.count_append, List.count_cons, List.count_nil, List.append_assoc, List.cons_append, List.nil_append] <;> ac_rfl))
  clear HO; have HO := Aside0.mk hO_; clear hO_
  refine hK.out _ _ (HO.out.repr (L' := [(gw, .cells #[.int .i64 room, .int .i64 drops, .slice AW nw cw] 72 (0, 0))]) ((gr, .cells #[.int .i64 room, .int .i64 drops, .int .i64 nxt, .slice A n c] 133 (0, 0)) :: (X ++ (Y ++ (H1 ++ (H2 ++ (L)))))) (by classical exact List.perm_iff_count.2 (fun a => by simp only [List.count_append, List.count_cons, List.count_nil, List.append_assoc, List.cons_append, List.nil_append] <;> ac_rfl))) (fun hHeld => ?_)
  clear hK K
  refine norm_ (a' := ?_) ?_ ?_
  rotate_left
  · show Act.put _ (some 23) _ = _
    simp only [Act.put, List.setIfInBounds_toArray, List.set_cons_zero, List.set_cons_succ, i64_w, i32_w]
    rfl
  refine Hp.pu_ 10 24 (Hp.up 30 11) ?_
  refine Hp.pu_ 11 25 (Hp.up 30 12) ?_
  refine Hp.pu_ 12 26 (Hp.up 30 13) ?_
  refine Hp.pu_ 13 27 (Hp.up 30 14) ?_
  refine Hp.pu_ 15 29 #[true, true, true, true, true, true, true, true, true, true, true, true, true, true, false, true, false, false, false, false, false, false, false, false, false, false, false, false, false, false] ?_
  refine Hp.pu_ 16 30 #[true, true, true, true, true, true, true, true, true, true, true, true, true, true, false, true, true, false, false, false, false, false, false, false, false, false, false, false, false, false] ?_
  refine Hp.pu_ 17 31 #[true, true, true, true, true, true, true, true, true, true, true, true, true, true, false, true, true, true, false, false, false, false, false, false, false, false, false, false, false, false] ?_
  refine take_ (i := 18) (N := some 32) (v := .int .i64 drops) (a' := ?_) #[true, true, true, true, true, true, true, true, true, true, true, true, true, true, false, true, true, true, true, false, false, false, false, false, false, false, false, false, false, false] rfl rfl (by kernel_rfl) (fun _ _ _ h => h) (own_yield1 (by rfl) (x := .tmp 31) rfl (by rfl) (.head) hui (by rfl) (by rfl)) hHeld ?_ ?_
  rotate_left
  · simp only [Act.put, List.setIfInBounds_toArray, List.set_cons_zero, List.set_cons_succ, i64_w, i32_w]
    rfl
  refine one_ (i := 14) (N := some 28) (Hp.up 30 19) rfl rfl (by kernel_rfl) (by decide) (fun K hK => ?_)
  refine goes_ Try.func27 (by kernel_rfl) rfl #[.pointer (some ⟨gr, 0, none⟩)] (by rfl) rfl rfl (by (try simp only [List.map_toArray, List.map_cons, List.map_nil]); first | done | rfl) ?_
  refine (drops_calls w0 _ ((gw, .cells #[.int .i64 room, .int .i64 drops, .slice AW nw cw] 72 (0, 0)) :: (Y ++ (H1 ++ (H2 ++ L)))) X gr room drops nxt A n c (live R G) HS.out (HO.out.repr (L' := (gr, .cells #[.int .i64 room, .int .i64 drops, .int .i64 nxt, .slice A n c] 133 (0, 0)) :: (X ++ ((gw, .cells #[.int .i64 room, .int .i64 drops, .slice AW nw cw] 72 (0, 0)) :: (Y ++ (H1 ++ (H2 ++ L)))))) [] (by classical exact List.perm_iff_count.2 (fun a => by simp only [List.count_append, List.count_cons, List.count_nil, List.append_assoc, List.cons_append, List.nil_append] <;> ac_rfl)))).mono ?_
  rintro e wx ⟨rfl, hO_⟩
  refine ⟨_, rfl, ?_⟩
  have hO_ := hO_.repr (L' := (H1 ++ (H2 ++ ((gr, .cells #[.int .i64 room, .int .i64 drops, .int .i64 nxt, .slice A n c] 133 (0, 0)) :: (gw, .cells #[.int .i64 room, .int .i64 drops, .slice AW nw cw] 72 (0, 0)) :: (X ++ (Y ++ L)))))) [] (by classical exact List.perm_iff_count.2 (fun a => by simp only [List.count_append, List.count_cons, List.count_nil, List.append_assoc, List.cons_append, List.nil_append] <;> ac_rfl))
  clear HO; have HO := Aside0.mk hO_; clear hO_
  refine hK.out _ _ (HO.out.repr (L' := [(gw, .cells #[.int .i64 room, .int .i64 drops, .slice AW nw cw] 72 (0, 0))]) ((gr, .cells #[.int .i64 room, .int .i64 drops, .int .i64 nxt, .slice A n c] 133 (0, 0)) :: (X ++ (Y ++ (H1 ++ (H2 ++ (L)))))) (by classical exact List.perm_iff_count.2 (fun a => by simp only [List.count_append, List.count_cons, List.count_nil, List.append_assoc, List.cons_append, List.nil_append] <;> ac_rfl))) (fun hHeld => ?_)
  clear hK K
  refine norm_ (a' := ?_) ?_ ?_
  rotate_left
  · show Act.put _ (some 28) _ = _
    simp only [Act.put, List.setIfInBounds_toArray, List.set_cons_zero, List.set_cons_succ, i64_w, i32_w]
    rfl
  refine Hp.pu_ 19 33 (Hp.up 30 20) ?_
  refine Hp.pu_ 20 34 (Hp.up 30 21) ?_
  refine Hp.pu_ 21 35 (Hp.up 30 22) ?_
  refine Hp.pu_ 22 36 (Hp.up 30 23) ?_
  refine Hp.pu_ 25 39 #[true, true, true, true, true, true, true, true, true, true, true, true, true, true, true, true, true, true, true, true, true, true, true, false, false, true, false, false, false, false] ?_
  refine one_ (i := 23) (N := some 37) #[true, true, true, true, true, true, true, true, true, true, true, true, true, true, true, true, true, true, true, true, true, true, true, true, false, true, false, false, false, false] rfl rfl (by kernel_rfl) (by decide) (fun K hK => ?_)
  refine goes_ Try.func47 (by kernel_rfl) rfl #[.pointer (some ⟨gr, 0, none⟩)] (by rfl) rfl rfl (by (try simp only [List.map_toArray, List.map_cons, List.map_nil]); first | done | rfl) ?_
  refine (rby_calls w0 _ ((gw, .cells #[.int .i64 room, .int .i64 drops, .slice AW nw cw] 72 (0, 0)) :: (Y ++ (H1 ++ (H2 ++ L)))) X gr room drops nxt A n c (live R G) HS.out (HO.out.repr (L' := (gr, .cells #[.int .i64 room, .int .i64 drops, .int .i64 nxt, .slice A n c] 133 (0, 0)) :: (X ++ ((gw, .cells #[.int .i64 room, .int .i64 drops, .slice AW nw cw] 72 (0, 0)) :: (Y ++ (H1 ++ (H2 ++ L)))))) [] (by classical exact List.perm_iff_count.2 (fun a => by simp only [List.count_append, List.count_cons, List.count_nil, List.append_assoc, List.cons_append, List.nil_append] <;> ac_rfl)))).mono ?_
  rintro e wx ⟨v6, rfl, R6, hR6, hO_⟩
  refine ⟨_, rfl, ?_⟩
  have HR6 := Aside0.mk hR6
  clear hR6
  have hO_ := hO_.repr (L' := (H1 ++ (H2 ++ ((gr, .cells #[.int .i64 room, .int .i64 drops, .int .i64 nxt, .slice A n c] 133 (0, 0)) :: (gw, .cells #[.int .i64 room, .int .i64 drops, .slice AW nw cw] 72 (0, 0)) :: (X ++ (Y ++ (R6 ++ L))))))) [] (by classical exact List.perm_iff_count.2 (fun a => by simp only [List.count_append, List.count_cons, List.count_nil, List.append_assoc, List.cons_append, List.nil_append] <;> ac_rfl))
  clear HO; have HO := Aside0.mk hO_; clear hO_
  refine hK.out _ _ (HO.out.repr (L' := [(gw, .cells #[.int .i64 room, .int .i64 drops, .slice AW nw cw] 72 (0, 0))]) ((gr, .cells #[.int .i64 room, .int .i64 drops, .int .i64 nxt, .slice A n c] 133 (0, 0)) :: (X ++ (Y ++ (H1 ++ (H2 ++ (R6 ++ L)))))) (by classical exact List.perm_iff_count.2 (fun a => by simp only [List.count_append, List.count_cons, List.count_nil, List.append_assoc, List.cons_append, List.nil_append] <;> ac_rfl))) (fun hHeld => ?_)
  clear hK K
  refine norm_ (a' := ?_) ?_ ?_
  rotate_left
  · show Act.put _ (some 37) _ = _
    simp only [Act.put, List.setIfInBounds_toArray, List.set_cons_zero, List.set_cons_succ, i64_w, i32_w]
    rfl
  refine join_ (σ := Value) 2 (Hp.up 30 28) (fun s_ => [(38, .string (strOfNums (rbytesl (live R G)))), (40, s_), (41, .string (strOfNums (rbytesl (live R G))))]) (fun s_ w' => Own w0 w' (H1 ++ (H2 ++ ((gr, .cells #[.int .i64 room, .int .i64 drops, .int .i64 nxt, .slice A n c] 133 (0, 0)) :: (gw, .cells #[.int .i64 room, .int .i64 drops, .slice AW nw cw] 72 (0, 0)) :: (X ++ (Y ++ L)))))) ?_ ?_
  rotate_left
  · intro hCont
    refine two_ (i := 24) (j := 26) (Ni := some 38) (Nj := some 40) (Hp.up 30 26) #[true, true, true, true, true, true, true, true, true, true, true, true, true, true, true, true, true, true, true, true, true, true, true, true, false, true, true, false, false, false] rfl rfl rfl rfl (by kernel_rfl) (by decide) (by decide) (fun K hK => ?_) (fun K hK => ?_)
    · skip
      refine event_step (by rfl) (exec_conv rfl (by rfl) (RowOf.string (P := Try.prog) hul hu8 hus HR6.out (HO.out.repr (L' := R6 ++ (H1 ++ (H2 ++ ((gr, .cells #[.int .i64 room, .int .i64 drops, .int .i64 nxt, .slice A n c] 133 (0, 0)) :: (gw, .cells #[.int .i64 room, .int .i64 drops, .slice AW nw cw] 72 (0, 0)) :: (X ++ (Y ++ L)))))) [] (by classical exact List.perm_iff_count.2 (fun a => by simp only [List.count_append, List.count_cons, List.count_nil, List.append_assoc, List.cons_append, List.nil_append] <;> ac_rfl))))) ?_
      refine hK.out _ _ (HO.out.repr (L' := [(gw, .cells #[.int .i64 room, .int .i64 drops, .slice AW nw cw] 72 (0, 0))]) ((gr, .cells #[.int .i64 room, .int .i64 drops, .int .i64 nxt, .slice A n c] 133 (0, 0)) :: (X ++ (Y ++ (H1 ++ (H2 ++ (R6 ++ L)))))) (by classical exact List.perm_iff_count.2 (fun a => by simp only [List.count_append, List.count_cons, List.count_nil, List.append_assoc, List.cons_append, List.nil_append] <;> ac_rfl))) (fun hHeld => ?_)
      clear hK K
      refine norm_ (a' := ?_) ?_ ?_
      rotate_left
      · show Act.put _ (some 38) _ = _
        simp only [Act.put, List.setIfInBounds_toArray, List.set_cons_zero, List.set_cons_succ, i64_w, i32_w]
        rfl
      refine one_ (i := 26) (N := some 40) (Hp.up 30 27) rfl rfl (by kernel_rfl) (by decide) (fun K hK => ?_)
      refine goes_ Try.func87 (by kernel_rfl) rfl #[.pointer (some ⟨gw, 0, none⟩)] (by rfl) rfl rfl (by (try simp only [List.map_toArray, List.map_cons, List.map_nil]); first | done | rfl) ?_
      refine (dby_calls w0 _ ((gr, .cells #[.int .i64 room, .int .i64 drops, .int .i64 nxt, .slice A n c] 133 (0, 0)) :: (X ++ (H1 ++ (H2 ++ (R6 ++ L))))) Y gw room drops AW nw cw R G HW.out (HO.out.repr (L' := (gw, .cells #[.int .i64 room, .int .i64 drops, .slice AW nw cw] 72 (0, 0)) :: (Y ++ ((gr, .cells #[.int .i64 room, .int .i64 drops, .int .i64 nxt, .slice A n c] 133 (0, 0)) :: (X ++ (H1 ++ (H2 ++ (R6 ++ L))))))) [] (by classical exact List.perm_iff_count.2 (fun a => by simp only [List.count_append, List.count_cons, List.count_nil, List.append_assoc, List.cons_append, List.nil_append] <;> ac_rfl)))).mono ?_
      rintro e wx ⟨v7, rfl, R7, hR7, hO_⟩
      refine ⟨_, rfl, ?_⟩
      have HR7 := Aside0.mk hR7
      clear hR7
      have hO_ := hO_.repr (L' := (H1 ++ (H2 ++ ((gr, .cells #[.int .i64 room, .int .i64 drops, .int .i64 nxt, .slice A n c] 133 (0, 0)) :: (gw, .cells #[.int .i64 room, .int .i64 drops, .slice AW nw cw] 72 (0, 0)) :: (X ++ (Y ++ (R7 ++ (R6 ++ L)))))))) [] (by classical exact List.perm_iff_count.2 (fun a => by simp only [List.count_append, List.count_cons, List.count_nil, List.append_assoc, List.cons_append, List.nil_append] <;> ac_rfl))
      clear HO; have HO := Aside0.mk hO_; clear hO_
      refine hK.out _ _ (HO.out.repr (L' := [(gw, .cells #[.int .i64 room, .int .i64 drops, .slice AW nw cw] 72 (0, 0))]) ((gr, .cells #[.int .i64 room, .int .i64 drops, .int .i64 nxt, .slice A n c] 133 (0, 0)) :: (X ++ (Y ++ (H1 ++ (H2 ++ (R7 ++ (R6 ++ L))))))) (by classical exact List.perm_iff_count.2 (fun a => by simp only [List.count_append, List.count_cons, List.count_nil, List.append_assoc, List.cons_append, List.nil_append] <;> ac_rfl))) (fun hHeld => ?_)
      clear hK K
      refine norm_ (a' := ?_) ?_ ?_
      rotate_left
      · show Act.put _ (some 40) _ = _
        simp only [Act.put, List.setIfInBounds_toArray, List.set_cons_zero, List.set_cons_succ, i64_w, i32_w]
        rfl
      refine one_ (i := 27) (N := some 41) (Hp.up 30 28) rfl rfl (by kernel_rfl) (by decide) (fun K hK => ?_)
      refine event_step (by rfl) (exec_conv rfl (by rfl) (RowOf.string (P := Try.prog) hul hu8 hus HR7.out (HO.out.repr (L' := R7 ++ (H1 ++ (H2 ++ ((gr, .cells #[.int .i64 room, .int .i64 drops, .int .i64 nxt, .slice A n c] 133 (0, 0)) :: (gw, .cells #[.int .i64 room, .int .i64 drops, .slice AW nw cw] 72 (0, 0)) :: (X ++ (Y ++ (R6 ++ L))))))) [] (by classical exact List.perm_iff_count.2 (fun a => by simp only [List.count_append, List.count_cons, List.count_nil, List.append_assoc, List.cons_append, List.nil_append] <;> ac_rfl))))) ?_
      refine hK.out _ _ (HO.out.repr (L' := [(gw, .cells #[.int .i64 room, .int .i64 drops, .slice AW nw cw] 72 (0, 0))]) ((gr, .cells #[.int .i64 room, .int .i64 drops, .int .i64 nxt, .slice A n c] 133 (0, 0)) :: (X ++ (Y ++ (H1 ++ (H2 ++ (R7 ++ (R6 ++ L))))))) (by classical exact List.perm_iff_count.2 (fun a => by simp only [List.count_append, List.count_cons, List.count_nil, List.append_assoc, List.cons_append, List.nil_append] <;> ac_rfl))) (fun hHeld => ?_)
      clear hK K
      refine norm_ (a' := ?_) ?_ ?_
      rotate_left
      · show Act.put _ (some 41) _ = _
        simp only [Act.put, List.setIfInBounds_toArray, List.set_cons_zero, List.set_cons_succ, i64_w, i32_w]
        rfl
      exact norm_ (by simp only [putAll, Act.put, List.setIfInBounds_toArray, List.set_cons_zero, List.set_cons_succ]) (hCont v7 _ (HO.out.repr (L' := (H1 ++ (H2 ++ ((gr, .cells #[.int .i64 room, .int .i64 drops, .int .i64 nxt, .slice A n c] 133 (0, 0)) :: (gw, .cells #[.int .i64 room, .int .i64 drops, .slice AW nw cw] 72 (0, 0)) :: (X ++ (Y ++ L)))))) (R7 ++ R6) (by classical exact List.perm_iff_count.2 (fun a => by simp only [List.count_append, List.count_cons, List.count_nil, List.append_assoc, List.cons_append, List.nil_append] <;> ac_rfl))))
    · skip
      refine goes_ Try.func87 (by kernel_rfl) rfl #[.pointer (some ⟨gw, 0, none⟩)] (by rfl) rfl rfl (by (try simp only [List.map_toArray, List.map_cons, List.map_nil]); first | done | rfl) ?_
      refine (dby_calls w0 _ ((gr, .cells #[.int .i64 room, .int .i64 drops, .int .i64 nxt, .slice A n c] 133 (0, 0)) :: (X ++ (H1 ++ (H2 ++ (R6 ++ L))))) Y gw room drops AW nw cw R G HW.out (HO.out.repr (L' := (gw, .cells #[.int .i64 room, .int .i64 drops, .slice AW nw cw] 72 (0, 0)) :: (Y ++ ((gr, .cells #[.int .i64 room, .int .i64 drops, .int .i64 nxt, .slice A n c] 133 (0, 0)) :: (X ++ (H1 ++ (H2 ++ (R6 ++ L))))))) [] (by classical exact List.perm_iff_count.2 (fun a => by simp only [List.count_append, List.count_cons, List.count_nil, List.append_assoc, List.cons_append, List.nil_append] <;> ac_rfl)))).mono ?_
      rintro e wx ⟨v7, rfl, R7, hR7, hO_⟩
      refine ⟨_, rfl, ?_⟩
      have HR7 := Aside0.mk hR7
      clear hR7
      have hO_ := hO_.repr (L' := (H1 ++ (H2 ++ ((gr, .cells #[.int .i64 room, .int .i64 drops, .int .i64 nxt, .slice A n c] 133 (0, 0)) :: (gw, .cells #[.int .i64 room, .int .i64 drops, .slice AW nw cw] 72 (0, 0)) :: (X ++ (Y ++ (R7 ++ (R6 ++ L)))))))) [] (by classical exact List.perm_iff_count.2 (fun a => by simp only [List.count_append, List.count_cons, List.count_nil, List.append_assoc, List.cons_append, List.nil_append] <;> ac_rfl))
      clear HO; have HO := Aside0.mk hO_; clear hO_
      refine hK.out _ _ (HO.out.repr (L' := [(gw, .cells #[.int .i64 room, .int .i64 drops, .slice AW nw cw] 72 (0, 0))]) ((gr, .cells #[.int .i64 room, .int .i64 drops, .int .i64 nxt, .slice A n c] 133 (0, 0)) :: (X ++ (Y ++ (H1 ++ (H2 ++ (R7 ++ (R6 ++ L))))))) (by classical exact List.perm_iff_count.2 (fun a => by simp only [List.count_append, List.count_cons, List.count_nil, List.append_assoc, List.cons_append, List.nil_append] <;> ac_rfl))) (fun hHeld => ?_)
      clear hK K
      refine norm_ (a' := ?_) ?_ ?_
      rotate_left
      · show Act.put _ (some 40) _ = _
        simp only [Act.put, List.setIfInBounds_toArray, List.set_cons_zero, List.set_cons_succ, i64_w, i32_w]
        rfl
      refine two_ (i := 24) (j := 27) (Ni := some 38) (Nj := some 41) (Hp.up 30 27) #[true, true, true, true, true, true, true, true, true, true, true, true, true, true, true, true, true, true, true, true, true, true, true, true, false, true, true, true, false, false] rfl rfl rfl rfl (by kernel_rfl) (by decide) (by decide) (fun K hK => ?_) (fun K hK => ?_)
      · skip
        refine event_step (by rfl) (exec_conv rfl (by rfl) (RowOf.string (P := Try.prog) hul hu8 hus HR6.out (HO.out.repr (L' := R6 ++ (H1 ++ (H2 ++ ((gr, .cells #[.int .i64 room, .int .i64 drops, .int .i64 nxt, .slice A n c] 133 (0, 0)) :: (gw, .cells #[.int .i64 room, .int .i64 drops, .slice AW nw cw] 72 (0, 0)) :: (X ++ (Y ++ (R7 ++ L))))))) [] (by classical exact List.perm_iff_count.2 (fun a => by simp only [List.count_append, List.count_cons, List.count_nil, List.append_assoc, List.cons_append, List.nil_append] <;> ac_rfl))))) ?_
        refine hK.out _ _ (HO.out.repr (L' := [(gw, .cells #[.int .i64 room, .int .i64 drops, .slice AW nw cw] 72 (0, 0))]) ((gr, .cells #[.int .i64 room, .int .i64 drops, .int .i64 nxt, .slice A n c] 133 (0, 0)) :: (X ++ (Y ++ (H1 ++ (H2 ++ (R7 ++ (R6 ++ L))))))) (by classical exact List.perm_iff_count.2 (fun a => by simp only [List.count_append, List.count_cons, List.count_nil, List.append_assoc, List.cons_append, List.nil_append] <;> ac_rfl))) (fun hHeld => ?_)
        clear hK K
        refine norm_ (a' := ?_) ?_ ?_
        rotate_left
        · show Act.put _ (some 38) _ = _
          simp only [Act.put, List.setIfInBounds_toArray, List.set_cons_zero, List.set_cons_succ, i64_w, i32_w]
          rfl
        refine one_ (i := 27) (N := some 41) (Hp.up 30 28) rfl rfl (by kernel_rfl) (by decide) (fun K hK => ?_)
        refine event_step (by rfl) (exec_conv rfl (by rfl) (RowOf.string (P := Try.prog) hul hu8 hus HR7.out (HO.out.repr (L' := R7 ++ (H1 ++ (H2 ++ ((gr, .cells #[.int .i64 room, .int .i64 drops, .int .i64 nxt, .slice A n c] 133 (0, 0)) :: (gw, .cells #[.int .i64 room, .int .i64 drops, .slice AW nw cw] 72 (0, 0)) :: (X ++ (Y ++ (R6 ++ L))))))) [] (by classical exact List.perm_iff_count.2 (fun a => by simp only [List.count_append, List.count_cons, List.count_nil, List.append_assoc, List.cons_append, List.nil_append] <;> ac_rfl))))) ?_
        refine hK.out _ _ (HO.out.repr (L' := [(gw, .cells #[.int .i64 room, .int .i64 drops, .slice AW nw cw] 72 (0, 0))]) ((gr, .cells #[.int .i64 room, .int .i64 drops, .int .i64 nxt, .slice A n c] 133 (0, 0)) :: (X ++ (Y ++ (H1 ++ (H2 ++ (R7 ++ (R6 ++ L))))))) (by classical exact List.perm_iff_count.2 (fun a => by simp only [List.count_append, List.count_cons, List.count_nil, List.append_assoc, List.cons_append, List.nil_append] <;> ac_rfl))) (fun hHeld => ?_)
        clear hK K
        refine norm_ (a' := ?_) ?_ ?_
        rotate_left
        · show Act.put _ (some 41) _ = _
          simp only [Act.put, List.setIfInBounds_toArray, List.set_cons_zero, List.set_cons_succ, i64_w, i32_w]
          rfl
        exact norm_ (by simp only [putAll, Act.put, List.setIfInBounds_toArray, List.set_cons_zero, List.set_cons_succ]) (hCont v7 _ (HO.out.repr (L' := (H1 ++ (H2 ++ ((gr, .cells #[.int .i64 room, .int .i64 drops, .int .i64 nxt, .slice A n c] 133 (0, 0)) :: (gw, .cells #[.int .i64 room, .int .i64 drops, .slice AW nw cw] 72 (0, 0)) :: (X ++ (Y ++ L)))))) (R7 ++ R6) (by classical exact List.perm_iff_count.2 (fun a => by simp only [List.count_append, List.count_cons, List.count_nil, List.append_assoc, List.cons_append, List.nil_append] <;> ac_rfl))))
      · skip
        refine event_step (by rfl) (exec_conv rfl (by rfl) (RowOf.string (P := Try.prog) hul hu8 hus HR7.out (HO.out.repr (L' := R7 ++ (H1 ++ (H2 ++ ((gr, .cells #[.int .i64 room, .int .i64 drops, .int .i64 nxt, .slice A n c] 133 (0, 0)) :: (gw, .cells #[.int .i64 room, .int .i64 drops, .slice AW nw cw] 72 (0, 0)) :: (X ++ (Y ++ (R6 ++ L))))))) [] (by classical exact List.perm_iff_count.2 (fun a => by simp only [List.count_append, List.count_cons, List.count_nil, List.append_assoc, List.cons_append, List.nil_append] <;> ac_rfl))))) ?_
        refine hK.out _ _ (HO.out.repr (L' := [(gw, .cells #[.int .i64 room, .int .i64 drops, .slice AW nw cw] 72 (0, 0))]) ((gr, .cells #[.int .i64 room, .int .i64 drops, .int .i64 nxt, .slice A n c] 133 (0, 0)) :: (X ++ (Y ++ (H1 ++ (H2 ++ (R7 ++ (R6 ++ L))))))) (by classical exact List.perm_iff_count.2 (fun a => by simp only [List.count_append, List.count_cons, List.count_nil, List.append_assoc, List.cons_append, List.nil_append] <;> ac_rfl))) (fun hHeld => ?_)
        clear hK K
        refine norm_ (a' := ?_) ?_ ?_
        rotate_left
        · show Act.put _ (some 41) _ = _
          simp only [Act.put, List.setIfInBounds_toArray, List.set_cons_zero, List.set_cons_succ, i64_w, i32_w]
          rfl
        refine one_ (i := 24) (N := some 38) (Hp.up 30 28) rfl rfl (by kernel_rfl) (by decide) (fun K hK => ?_)
        refine event_step (by rfl) (exec_conv rfl (by rfl) (RowOf.string (P := Try.prog) hul hu8 hus HR6.out (HO.out.repr (L' := R6 ++ (H1 ++ (H2 ++ ((gr, .cells #[.int .i64 room, .int .i64 drops, .int .i64 nxt, .slice A n c] 133 (0, 0)) :: (gw, .cells #[.int .i64 room, .int .i64 drops, .slice AW nw cw] 72 (0, 0)) :: (X ++ (Y ++ (R7 ++ L))))))) [] (by classical exact List.perm_iff_count.2 (fun a => by simp only [List.count_append, List.count_cons, List.count_nil, List.append_assoc, List.cons_append, List.nil_append] <;> ac_rfl))))) ?_
        refine hK.out _ _ (HO.out.repr (L' := [(gw, .cells #[.int .i64 room, .int .i64 drops, .slice AW nw cw] 72 (0, 0))]) ((gr, .cells #[.int .i64 room, .int .i64 drops, .int .i64 nxt, .slice A n c] 133 (0, 0)) :: (X ++ (Y ++ (H1 ++ (H2 ++ (R7 ++ (R6 ++ L))))))) (by classical exact List.perm_iff_count.2 (fun a => by simp only [List.count_append, List.count_cons, List.count_nil, List.append_assoc, List.cons_append, List.nil_append] <;> ac_rfl))) (fun hHeld => ?_)
        clear hK K
        refine norm_ (a' := ?_) ?_ ?_
        rotate_left
        · show Act.put _ (some 38) _ = _
          simp only [Act.put, List.setIfInBounds_toArray, List.set_cons_zero, List.set_cons_succ, i64_w, i32_w]
          rfl
        exact norm_ (by simp only [putAll, Act.put, List.setIfInBounds_toArray, List.set_cons_zero, List.set_cons_succ]) (hCont v7 _ (HO.out.repr (L' := (H1 ++ (H2 ++ ((gr, .cells #[.int .i64 room, .int .i64 drops, .int .i64 nxt, .slice A n c] 133 (0, 0)) :: (gw, .cells #[.int .i64 room, .int .i64 drops, .slice AW nw cw] 72 (0, 0)) :: (X ++ (Y ++ L)))))) (R7 ++ R6) (by classical exact List.perm_iff_count.2 (fun a => by simp only [List.count_append, List.count_cons, List.count_nil, List.append_assoc, List.cons_append, List.nil_append] <;> ac_rfl))))
  rintro v7 wj hO_
  clear HO
  have HO := Aside0.mk hO_
  have hHeld := HO.out.repr (L' := [(gw, .cells #[.int .i64 room, .int .i64 drops, .slice AW nw cw] 72 (0, 0))]) ((gr, .cells #[.int .i64 room, .int .i64 drops, .int .i64 nxt, .slice A n c] 133 (0, 0)) :: (X ++ (Y ++ (H1 ++ (H2 ++ (L)))))) (by classical exact List.perm_iff_count.2 (fun a => by simp only [List.count_append, List.count_cons, List.count_nil, List.append_assoc, List.cons_append, List.nil_append] <;> ac_rfl))
  clear hO_
  refine norm_ (a' := ?_) ?_ ?_
  rotate_left
  · simp only [putAll, Act.put, List.setIfInBounds_toArray, List.set_cons_zero, List.set_cons_succ]
    rfl
  refine Hp.pu_ 28 42 (Hp.up 30 29) ?_
  refine Hp.pu_ 29 43 (Hp.up 30 30) ?_
  refine done_ (by kernel_rfl) ?_
  clear hHeld
  go_wp2
  go_loopg [7, 8, 9] m (fun gk v7 v8 v9 w' => ∃ j : Nat, v7 = .int .i64 (j : Int) ∧ Aside0 (j + gk = m) ∧ Aside0 (Own w0 w' (H1 ++ (H2 ++ ((gr, .cells #[.int .i64 room, .int .i64 drops, .int .i64 nxt, .slice A n c] 133 (0, 0)) :: (gw, .cells #[.int .i64 room, .int .i64 drops, .slice AW nw cw] 72 (0, 0)) :: (X ++ (Y ++ L)))))))
  case atStart => exact ⟨0, rfl, ⟨Nat.zero_add _⟩, HO⟩
  case round =>
    clear HO
    obtain ⟨j, rfl, HI, HO⟩ := hrel
    cases gk with
    | zero =>
      have c1 : decide ((j : Int) < (m : Int)) = false := decide_eq_false (by have := HI.out; omega)
      have c1n : decide (j < m) = false := decide_eq_false (by have := HI.out; omega)
      go_wp2
      go_ret
      exact ⟨rfl, HO.out.repr (L' := ((gr, .cells #[.int .i64 room, .int .i64 drops, .int .i64 nxt, .slice A n c] 133 (0, 0)) :: (gw, .cells #[.int .i64 room, .int .i64 drops, .slice AW nw cw] 72 (0, 0)) :: (X ++ (Y ++ L)))) (H1 ++ H2) (by classical exact List.perm_iff_count.2 (fun a => by simp only [List.count_append, List.count_cons, List.count_nil, List.append_assoc, List.cons_append, List.nil_append] <;> ac_rfl))⟩
    | succ gm =>
      have hin : j < m := by have := HI.out; omega
      have c1 : decide ((j : Int) < (m : Int)) = true := decide_eq_true (by omega)
      have c1n : decide (j < m) = true := decide_eq_true hin
      have p1 := eq_true (show 0 ≤ (j : Int) by omega)
      have q1 := eq_true (show (j : Int) < (m : Int) by omega)
      have q1n := eq_true hin
      obtain ⟨h1, ch1, rfl, rfl, -, -, -, ht1, -, -⟩ := RowOf.setAt HH1.out (by omega)
      obtain ⟨h2, ch2, rfl, rfl, -, -, -, ht2, -, -⟩ := RowOf.setAt HH2.out (by omega)
      have hjl : j < (heldl (live R G)).length := by rw [HHL.out.1, HHL.out.2]; exact hin
      obtain ⟨i, q, hxi, hRi, hGi, hq0⟩ := heldl_at HW.out.ids hjl
      have hjl2 : j < hl.length := by rw [HHL.out.2]; exact hin
      have hx1 : hl[j] = (i : Int) := by rw [← hxi]; simp only [HHL.out.1]
      have HX1 := Aside0.mk (row_map_at ht1 hjl2)
      have HX2 := Aside0.mk (row_map_at ht2 hjl2)
      rw [hx1] at HX1 HX2
      have hqb := HB1.out q (List.mem_of_getElem? hRi)
      obtain ⟨gs1, gb, cb, cr1, cur, hP⟩ := HS.out.open (live_pos R G i q hRi hGi) hqb
      obtain ⟨X1, X2, hX, -⟩ := hP.write
      obtain ⟨gs, cr, T, Ab, cb2, B, J, rfl, rfl, hc2, hrow, hT⟩ := HW.out.openr hRi
      have HPX := Aside0.mk (permX (a := [(h1, .cells ch1 3 (0, 0))]) (b := [(h2, .cells ch2 3 (0, 0))]) (c := [(gw, .cells #[.int .i64 room, .int .i64 drops, .slice (some ⟨gs, 0, none⟩) nw cw] 72 (0, 0))]) (d := [(gs, .cells cr 78 (0, 0))]) (T := T) (e := [(gr, .cells #[.int .i64 room, .int .i64 drops, .int .i64 nxt, .slice A n c] 133 (0, 0))]) (L := L) (show X.Perm ([(gb, .cells cur 5 (0, 0))] ++ (X1 ++ X2)) by rw [hX]; exact (by classical exact List.perm_iff_count.2 (fun a => by simp only [List.count_append, List.count_cons, List.count_nil, List.append_assoc, List.cons_append, List.nil_append] <;> ac_rfl))))
      have HPT := Aside0.mk (permT (a := [(h1, .cells ch1 3 (0, 0))]) (b := [(h2, .cells ch2 3 (0, 0))]) (c := [(gw, .cells #[.int .i64 room, .int .i64 drops, .slice (some ⟨gs, 0, none⟩) nw cw] 72 (0, 0))]) (d := [(gs, .cells cr 78 (0, 0))]) (X := X) (e := [(gr, .cells #[.int .i64 room, .int .i64 drops, .int .i64 nxt, .slice A n c] 133 (0, 0))]) (L := L) hT)
      have HP := Aside0.mk hP
      have HC2 := Aside0.mk hc2
      have HROW := Aside0.mk hrow
      have HQ1 : Aside0 (0 < q.b.length) := ⟨hqb⟩
      have HF : Aside0 (rfind (i : Int) (live R G) 0 = ((pos G i : Nat) : Int)) := ⟨by have := rfind_live R G i 0 0 q (fun i r h => by rw [Nat.add_zero]; exact HW.out.ids i r h) hRi hGi hq0; rw [Nat.zero_add, Nat.add_zero] at this; exact this⟩
      have hiw : i < nw := by rw [← HW.out.len]; exact (List.getElem?_eq_some_iff.1 hRi).1
      have p2 := eq_true (show 0 ≤ (i : Int) by omega)
      have q2 := eq_true (show (i : Int) < (nw : Int) by omega)
      have q2n := eq_true hiw
      have W1 := w_of (x := (j : Int) + 1) (y := ((j + 1 : Nat) : Int)) (by omega) (by have := HM80.out; omega)
      have u1 := W1.out.1; have u1b := W1.out.2
      clear hin ht1 ht2 hjl hxi hRi hGi hq0 hjl2 hx1 hqb hP hX hc2 hrow hT hiw
      go_wp2_with (first | ((with_reducible refine gate_dst (N := 55) rfl ?_); refine own_load HO.out rfl (x := .tmp 54) (v := .int .i64 (i : Int)) rfl (by rfl) (.head) hui (by rfl) HX1.out ?_) | ((with_reducible refine gate_callee (f := 30) rfl ?_); (with_reducible refine gate_dst (N := 56) rfl ?_); refine goesL_ (some 56) rfl rfl Try.func30 (by kernel_rfl) rfl #[.pointer (some ⟨gr, 0, none⟩), .int .i64 (i : Int)] rfl (by (try simp only [List.map_toArray, List.map_cons, List.map_nil]); first | done | rfl) ?_; (with_reducible refine (record_has w0 _ ([(h1, .cells ch1 3 (0, 0))] ++ ([(h2, .cells ch2 3 (0, 0))] ++ ((gw, .cells #[.int .i64 room, .int .i64 drops, .slice (some ⟨gs, 0, none⟩) nw cw] 72 (0, 0)) :: (((gs, .cells cr 78 (0, 0)) :: T) ++ L)))) X gr room drops nxt A n c (live R G) (pos G i) q gs1 gb cb cr1 cur HP.out (i : Int) HF.out (HO.out.repr (L' := (gr, .cells #[.int .i64 room, .int .i64 drops, .int .i64 nxt, .slice A n c] 133 (0, 0)) :: (X ++ ([(h1, .cells ch1 3 (0, 0))] ++ ([(h2, .cells ch2 3 (0, 0))] ++ ((gw, .cells #[.int .i64 room, .int .i64 drops, .slice (some ⟨gs, 0, none⟩) nw cw] 72 (0, 0)) :: (((gs, .cells cr 78 (0, 0)) :: T) ++ L)))))) [] (by classical exact List.perm_iff_count.2 (fun a => by simp only [List.count_append, List.count_cons, List.count_nil, List.append_assoc, List.cons_append, List.nil_append] <;> ac_rfl)))).mono ?_); rintro e wx ⟨rfl, hO_⟩; refine ⟨_, rfl, ?_⟩; have hO_ := hO_.repr (L' := ([(h1, .cells ch1 3 (0, 0))] ++ ([(h2, .cells ch2 3 (0, 0))] ++ ((gr, .cells #[.int .i64 room, .int .i64 drops, .int .i64 nxt, .slice A n c] 133 (0, 0)) :: (gw, .cells #[.int .i64 room, .int .i64 drops, .slice (some ⟨gs, 0, none⟩) nw cw] 72 (0, 0)) :: (X ++ (((gs, .cells cr 78 (0, 0)) :: T) ++ L)))))) [] (by classical exact List.perm_iff_count.2 (fun a => by simp only [List.count_append, List.count_cons, List.count_nil, List.append_assoc, List.cons_append, List.nil_append] <;> ac_rfl)); clear HO; have HO := Aside0.mk hO_; clear hO_))
      refine start_ (n := 30) (S := fun W => Own w0 W ((h1, .cells ch1 3 (0, 0)) :: (h2, .cells ch2 3 (0, 0)) :: (gw, .cells #[.int .i64 room, .int .i64 drops, .slice (some ⟨gs, 0, none⟩) nw cw] 72 (0, 0)) :: (gs, .cells cr 78 (0, 0)) :: (X ++ (T ++ ((gr, .cells #[.int .i64 room, .int .i64 drops, .int .i64 nxt, .slice A n c] 133 (0, 0)) :: L))))) (ds := []) #[false, false, false, false, false, false, false, false, false, false, false, false, false, false, false, false, false, false, false, false, false, false, false, false, false, false, false, false, false, false] (by kernel_rfl) rfl rfl (Own.drew (HO.out.repr [] (by classical exact List.perm_iff_count.2 (fun a => by simp only [List.count_append, List.count_cons, List.count_nil, List.append_assoc, List.cons_append, List.nil_append] <;> ac_rfl)))) (fun hHeld => ?_)
      have HO_ := Aside0.mk HO.out.drew
      clear HO
      have HO := HO_
      clear HO_
      generalize World.drew _ = wr at HO hHeld ⊢
      refine Hp.pu_ 0 59 (Hp.up 30 1) ?_
      refine Hp.pu_ 1 60 (Hp.up 30 2) ?_
      refine Hp.pu_ 2 61 (Hp.up 30 3) ?_
      refine take_ (i := 3) (N := some 62) (v := .int .i64 (i : Int)) (a' := ?_) (Hp.up 30 4) rfl rfl (by kernel_rfl) (fun _ _ _ h => h) (own_yield1 (by rfl) (x := .tmp 61) rfl (by rfl) (.head) hui (by rfl) HX1.out) hHeld ?_ ?_
      rotate_left
      · simp only [Act.put, List.setIfInBounds_toArray, List.set_cons_zero, List.set_cons_succ, i64_w, i32_w]
        rfl
      refine Hp.pu_ 4 63 (Hp.up 30 5) ?_
      refine Hp.pu_ 5 64 (Hp.up 30 6) ?_
      refine Hp.pu_ 6 65 (Hp.up 30 7) ?_
      refine take_ (i := 7) (N := some 66) (v := .int .i64 (i : Int)) (a' := ?_) (Hp.up 30 8) rfl rfl (by kernel_rfl) (fun _ _ _ h => h) (own_yield1 (by rfl) (x := .tmp 65) rfl (by rfl) (.tail .head) hui (by rfl) HX2.out) hHeld ?_ ?_
      rotate_left
      · simp only [Act.put, List.setIfInBounds_toArray, List.set_cons_zero, List.set_cons_succ, i64_w, i32_w]
        rfl
      refine Hp.pu_ 8 67 (Hp.up 30 9) ?_
      refine Hp.pu_ 9 68 (Hp.up 30 10) ?_
      refine Hp.pu_ 10 69 (Hp.up 30 11) ?_
      refine Hp.pu_ 11 70 (Hp.up 30 12) ?_
      refine Hp.pu_ 12 71 (Hp.up 30 13) ?_
      refine Hp.pu_ 13 72 (Hp.up 30 14) ?_
      refine Hp.pu_ 14 73 (Hp.up 30 15) ?_
      refine take_ (i := 15) (N := some 74) (v := .string (strOfNums q.b)) (a' := ?_) (Hp.up 30 16) rfl rfl (by kernel_rfl) (fun _ _ _ h => h) (Or.inl ⟨by rfl, fun w' hS => exec_conv rfl (by rfl) (RowOf.string2 (P := Try.prog) hul hu8 hus HP.out.row HQ1.out q.b.length (hS.perm HPX.out))⟩) hHeld ?_ ?_
      rotate_left
      · simp only [Act.put, List.setIfInBounds_toArray, List.set_cons_zero, List.set_cons_succ, i64_w, i32_w]
        rfl
      refine Hp.pu_ 16 75 (Hp.up 30 17) ?_
      refine Hp.pu_ 17 76 (Hp.up 30 18) ?_
      refine Hp.pu_ 18 77 (Hp.up 30 19) ?_
      refine take_ (i := 19) (N := some 78) (v := .slice (some ⟨gs, 0, none⟩) nw cw) (a' := ?_) (Hp.up 30 20) rfl rfl (by kernel_rfl) (fun _ _ _ h => h) (own_yield1 (by rfl) (x := .tmp 77) rfl (by rfl) (.tail (.tail .head)) hurs_d (by rfl) (by rfl)) hHeld ?_ ?_
      rotate_left
      · simp only [Act.put, List.setIfInBounds_toArray, List.set_cons_zero, List.set_cons_succ, i64_w, i32_w]
        rfl
      refine Hp.pu_ 20 79 (Hp.up 30 21) ?_
      refine Hp.pu_ 21 80 (Hp.up 30 22) ?_
      refine Hp.pu_ 22 81 (Hp.up 30 23) ?_
      refine take_ (i := 23) (N := some 82) (v := .int .i64 (i : Int)) (a' := ?_) (Hp.up 30 24) rfl rfl (by kernel_rfl) (fun _ _ _ h => h) (own_yield1 (by rfl) (x := .tmp 81) rfl (by rfl) (.head) hui (by rfl) HX1.out) hHeld ?_ ?_
      rotate_left
      · simp only [Act.put, List.setIfInBounds_toArray, List.set_cons_zero, List.set_cons_succ, i64_w, i32_w]
        rfl
      refine Hp.pu_ 24 83 (Hp.up 30 25) ?_
      refine Hp.pu_ 25 84 (Hp.up 30 26) ?_
      refine take_ (i := 26) (N := some 85) (v := .slice Ab q.b.length cb2) (a' := ?_) (Hp.up 30 27) rfl rfl (by kernel_rfl) (fun _ _ _ h => h) (own_yield1 (by rfl) (x := .tmp 84) rfl (by rfl) (.tail (.tail (.tail .head))) hul (by rfl) HC2.out) hHeld ?_ ?_
      rotate_left
      · simp only [Act.put, List.setIfInBounds_toArray, List.set_cons_zero, List.set_cons_succ, i64_w, i32_w]
        rfl
      refine take_ (i := 27) (N := some 86) (v := .string (strOfNums q.b)) (a' := ?_) (Hp.up 30 28) rfl rfl (by kernel_rfl) (fun _ _ _ h => h) (Or.inl ⟨by rfl, fun w' hS => exec_conv rfl (by rfl) (RowOf.string (P := Try.prog) hul hu8 hus HROW.out (hS.perm HPT.out))⟩) hHeld ?_ ?_
      rotate_left
      · simp only [Act.put, List.setIfInBounds_toArray, List.set_cons_zero, List.set_cons_succ, i64_w, i32_w]
        rfl
      refine Hp.pu_ 28 87 (Hp.up 30 29) ?_
      refine Hp.pu_ 29 88 (Hp.up 30 30) ?_
      refine done_ (by kernel_rfl) ?_
      clear hHeld
      go_wp2
      go_roundg gm
      case measure => clear u1 u1b; omega
      case rel => exact ⟨j + 1, rfl, ⟨by clear u1 u1b; have := HI.out; omega⟩, HO⟩
end Go.Proofs.Rg
