/- The ring's Copy; the document's live records in the program's list; Same. -/
import Derived.Test.YtgkdbhkbkpfbpaaRP
set_option linter.unusedVariables false
set_option linter.unusedSimpArgs false
namespace Go.Proofs.Rg
open Go.RowKit Go.Proofs.Ev Go.Proofs.Hp Go.Proofs.Ar Go.Proofs.YtgkdbhkbkpfbpaaW.PrintWords Go.Proofs.YtgkdbhkbkpfbpaaW.PrintLast Go.Proofs.YtgkdbhkbkpfbpaaW.PrintMore
attribute [local go_sem] max2_int min2_int max_two min_two max_three min_three max_four min_four eql_slice_nil
theorem permC {a b T' c d T B J L : Hl} (h : T.Perm (B ++ J)) : (a ++ (b ++ (T' ++ (c ++ ((d ++ T) ++ L))))).Perm (B ++ (a ++ (b ++ (T' ++ (c ++ (d ++ (J ++ L))))))) := by
  refine List.Perm.trans (List.Perm.append_left a (List.Perm.append_left b (List.Perm.append_left T' (List.Perm.append_left c (List.Perm.append_right _ (List.Perm.append_left d h)))))) ?_
  exact (by classical exact List.perm_iff_count.2 (fun a => by simp only [List.count_append, List.count_cons, List.count_nil, List.append_assoc, List.cons_append, List.nil_append] <;> ac_rfl))
set_option maxHeartbeats 8000000 in
set_option maxRecDepth 100000 in
theorem rcopy_nil (w0 w : World) (L X : Hl) (gr : Nat) (room drops nxt : Int) (A : Option Addr) (c : Nat) (R : List Rc) (hS : RSt X A 0 c R) (hO : Own w0 w ((gr, .cells #[.int .i64 room, .int .i64 drops, .int .i64 nxt, .slice A 0 c] 133 (0, 0)) :: (X ++ L))) : Calls Try.prog 46 #[.pointer (some ⟨gr, 0, none⟩)] w fun e w' => ∃ g3, e = .returned (.pointer (some ⟨g3, 0, none⟩)) ∧ ∃ X2 A5 c5, RSt X2 A5 0 c5 R ∧ Own w0 w' ((g3, .cells #[.int .i64 room, .int .i64 drops, .int .i64 nxt, .slice A5 0 c5] 133 (0, 0)) :: (X2 ++ ((gr, .cells #[.int .i64 room, .int .i64 drops, .int .i64 nxt, .slice A 0 c] 133 (0, 0)) :: (X ++ L)))) := by
  have hui := Try.underlying3
  have hul := Try.underlying32
  have hu8 := Try.underlying5
  have hur := Try.underlying135
  have hurs := Try.underlying131
  have hurg := Try.underlying133
  obtain ⟨RR, T, V, rfl, hR, hB⟩ := hS.ex
  have hR0 : R = [] := List.eq_nil_of_length_eq_zero hS.len
  subst hR0
  obtain ⟨rfl, rfl⟩ : T = [] ∧ V = [] := by cases hB; exact ⟨rfl, rfl⟩
  rcases hR.2 with ⟨hv, _, hrr⟩ | ⟨gs, cap, cr, hv, hrr, hnc, hcm, hcs, htk⟩
  · simp only [Value.slice.injEq] at hv
    obtain ⟨rfl, _, rfl⟩ := hv
    subst hrr
    have HO : Aside0 (Own w0 w ((gr, .cells #[.int .i64 room, .int .i64 drops, .int .i64 nxt, .slice none 0 0] 133 (0, 0)) :: L)) := ⟨hO⟩
    clear hO hS hR hB
    go_enter Try.func46, Try.ntmps46
    go_wp2_with (first | ((with_reducible refine gate_dst (N := 9) rfl ?_); refine own_wload HO.out rfl (x := .tmp 8) rfl (by rfl) (by (repeat (first | exact .head | apply Ext.tail))) hurg (by rfl) (by kernel_rfl) ?_) | ((with_reducible refine gate_dst (N := 3) rfl ?_); refine own_box HO.out ?hg (N := 3) ?hd (cs := #[.int .i64 0, .int .i64 0, .int .i64 0, .slice none 0 0]) (t := 133) ?hr ?_; (case hd => rfl); (case hg => rfl); (case hr => first | (go_simp; done) | (go_simp; rfl) | kernel_rfl); intro g3 w3 hO_; clear HO; have HO := Aside0.mk hO_; clear hO_) | ((with_reducible refine gate_store (p := 3) rfl ?_); refine own_wstore HO.out rfl (ty := 133) (x := .tmp 3) (y := .tmp 9) (cs := #[.int .i64 room, .int .i64 drops, .int .i64 nxt, .slice none 0 0]) rfl (by rfl) (by rfl) (by (repeat (first | exact .head | apply Ext.tail))) (by kernel_rfl) (by rfl) (by kernel_rfl) ?_; intro wc hO_; clear HO; have HO := Aside0.mk hO_; clear hO_) | ((with_reducible refine gate_dst (N := 13) rfl ?_); refine own_load HO.out rfl (x := .tmp 12) (v := .slice none 0 0) rfl (by rfl) (by (repeat (first | exact .head | apply Ext.tail))) hurs (by rfl) (by rfl) ?_) | ((with_reducible refine gate_callee (f := 77) rfl ?_); (with_reducible refine gate_dst (N := 14) rfl ?_); refine goesL_ (some 14) rfl rfl Try.func77 (by kernel_rfl) rfl #[.slice none 0 0] rfl (by (try simp only [List.map_toArray, List.map_cons, List.map_nil]); first | done | rfl) ?_; (with_reducible refine (clone_rec_nil _).mono ?_); rintro e wx ⟨rfl, rfl⟩; refine ⟨_, rfl, ?_⟩; skip) | ((with_reducible refine gate_store (p := 15) rfl ?_); refine own_store HO.out rfl (ty := 131) (x := .tmp 15) (y := .tmp 14) (v := .slice none 0 0) (cs' := #[.int .i64 room, .int .i64 drops, .int .i64 nxt, .slice none 0 0]) rfl (by rfl) (by rfl) (by (repeat (first | exact .head | apply Ext.tail))) (by kernel_rfl) (by rfl) (by first | decide | (simp; done)) (by rfl) ?_; intro wc hO_; clear HO; have HO := Aside0.mk hO_; clear hO_) | ((with_reducible refine gate_dst (N := 17) rfl ?_); refine own_load HO.out rfl (x := .tmp 16) (v := .slice none 0 0) rfl (by rfl) (by (repeat (first | exact .head | apply Ext.tail))) hurs (by rfl) (by rfl) ?_))
    go_loopg [4, 19] 0 (fun gk v4 v19 w' => v19 = .int .i64 0 ∧ Aside0 (Own w0 w' ((g3, .cells #[.int .i64 room, .int .i64 drops, .int .i64 nxt, .slice none 0 0] 133 (0, 0)) :: (gr, .cells #[.int .i64 room, .int .i64 drops, .int .i64 nxt, .slice none 0 0] 133 (0, 0)) :: L)))
    case atStart => exact ⟨rfl, HO⟩
    case round =>
      clear HO
      obtain ⟨rfl, HO⟩ := hrel
      go_wp2
      go_ret
      exact ⟨g3, rfl, [], none, 0, RSt.nil, HO.out⟩
  · simp only [Value.slice.injEq] at hv
    obtain ⟨rfl, _, rfl⟩ := hv
    subst hrr
    have HO : Aside0 (Own w0 w ((gr, .cells #[.int .i64 room, .int .i64 drops, .int .i64 nxt, .slice (some ⟨gs, 0, none⟩) 0 c] 133 (0, 0)) :: (gs, .cells cr 135 (0, 0)) :: ([] ++ L))) := ⟨hO⟩
    have HV : Aside0 ((cr.toList.drop 0).take (rcells [] []).length = rcells [] []) := ⟨by simp [rcells]⟩
    have HLN : Aside0 ((rcells [] []).length = 0 * 4) := ⟨rfl⟩
    have HONE : Aside0 (∀ u ∈ rcells [] [], u.oneCell' = true) := ⟨fun u h => by simp [rcells] at h⟩
    have HN64 : Aside0 ((0 : Nat) ≤ 64) := ⟨by decide⟩
    clear hO hS hR hB hnc hcm hcs htk
    go_enter Try.func46, Try.ntmps46
    go_wp2_with (first | ((with_reducible refine gate_dst (N := 9) rfl ?_); refine own_wload HO.out rfl (x := .tmp 8) rfl (by rfl) (by (repeat (first | exact .head | apply Ext.tail))) hurg (by rfl) (by kernel_rfl) ?_) | ((with_reducible refine gate_dst (N := 3) rfl ?_); refine own_box HO.out ?hg (N := 3) ?hd (cs := #[.int .i64 0, .int .i64 0, .int .i64 0, .slice none 0 0]) (t := 133) ?hr ?_; (case hd => rfl); (case hg => rfl); (case hr => first | (go_simp; done) | (go_simp; rfl) | kernel_rfl); intro g3 w3 hO_; clear HO; have HO := Aside0.mk hO_; clear hO_) | ((with_reducible refine gate_store (p := 3) rfl ?_); refine own_wstore HO.out rfl (ty := 133) (x := .tmp 3) (y := .tmp 9) (cs := #[.int .i64 room, .int .i64 drops, .int .i64 nxt, .slice (some ⟨gs, 0, none⟩) 0 c]) rfl (by rfl) (by rfl) (by (repeat (first | exact .head | apply Ext.tail))) (by kernel_rfl) (by rfl) (by kernel_rfl) ?_; intro wc hO_; clear HO; have HO := Aside0.mk hO_; clear hO_) | ((with_reducible refine gate_dst (N := 13) rfl ?_); refine own_load HO.out rfl (x := .tmp 12) (v := .slice (some ⟨gs, 0, none⟩) 0 c) rfl (by rfl) (by (repeat (first | exact .head | apply Ext.tail))) hurs (by rfl) (by rfl) ?_) | ((with_reducible refine gate_callee (f := 77) rfl ?_); (with_reducible refine gate_dst (N := 14) rfl ?_); refine goesL_ (some 14) rfl rfl Try.func77 (by kernel_rfl) rfl #[.slice (some ⟨gs, 0, none⟩) 0 c] rfl (by (try simp only [List.map_toArray, List.map_cons, List.map_nil]); first | done | rfl) ?_; (with_reducible refine (clone_rec w0 _ ((g3, .cells #[.int .i64 room, .int .i64 drops, .int .i64 nxt, .slice (some ⟨gs, 0, none⟩) 0 c] 133 (0, 0)) :: (gr, .cells #[.int .i64 room, .int .i64 drops, .int .i64 nxt, .slice (some ⟨gs, 0, none⟩) 0 c] 133 (0, 0)) :: (gs, .cells cr 135 (0, 0)) :: ([] ++ L)) _ gs 0 0 c cr (rcells [] []) (.tail (.tail .head)) HV.out HLN.out HONE.out HN64.out HO.out).mono ?_); rintro e wx ⟨v5, rfl, R5, hR5, hO_⟩; refine ⟨_, rfl, ?_⟩; obtain ⟨A5, c5, rfl⟩ := RowOf.shape hR5; have HR5 := Aside0.mk hR5; clear hR5; have hO_ := hO_.repr (L' := ((g3, .cells #[.int .i64 room, .int .i64 drops, .int .i64 nxt, .slice (some ⟨gs, 0, none⟩) 0 c] 133 (0, 0)) :: (R5 ++ ((gr, .cells #[.int .i64 room, .int .i64 drops, .int .i64 nxt, .slice (some ⟨gs, 0, none⟩) 0 c] 133 (0, 0)) :: (([(gs, .cells cr 135 (0, 0))] ++ []) ++ L))))) [] (by classical exact List.perm_iff_count.2 (fun a => by simp only [List.count_append, List.count_cons, List.count_nil, List.append_assoc, List.cons_append, List.nil_append] <;> ac_rfl)); clear HO; have HO := Aside0.mk hO_; clear hO_) | ((with_reducible refine gate_store (p := 15) rfl ?_); refine own_store HO.out rfl (ty := 131) (x := .tmp 15) (y := .tmp 14) (v := .slice A5 0 c5) (cs' := #[.int .i64 room, .int .i64 drops, .int .i64 nxt, .slice A5 0 c5]) rfl (by rfl) (by rfl) (by (repeat (first | exact .head | apply Ext.tail))) (by kernel_rfl) (by rfl) (by first | decide | (simp; done)) (by rfl) ?_; intro wc hO_; clear HO; have HO := Aside0.mk hO_; clear hO_) | ((with_reducible refine gate_dst (N := 17) rfl ?_); refine own_load HO.out rfl (x := .tmp 16) (v := .slice A5 0 c5) rfl (by rfl) (by (repeat (first | exact .head | apply Ext.tail))) hurs (by rfl) (by rfl) ?_))
    go_loopg [4, 19] 0 (fun gk v4 v19 w' => v19 = .int .i64 0 ∧ Aside0 (Own w0 w' ((g3, .cells #[.int .i64 room, .int .i64 drops, .int .i64 nxt, .slice A5 0 c5] 133 (0, 0)) :: (R5 ++ ((gr, .cells #[.int .i64 room, .int .i64 drops, .int .i64 nxt, .slice (some ⟨gs, 0, none⟩) 0 c] 133 (0, 0)) :: (([(gs, .cells cr 135 (0, 0))] ++ []) ++ L))))))
    case atStart => exact ⟨rfl, HO⟩
    case round =>
      clear HO
      obtain ⟨rfl, HO⟩ := hrel
      go_wp2
      go_ret
      exact ⟨g3, rfl, R5, A5, c5, ⟨⟨R5, [], [], by simp, HR5.out, .nil⟩, rfl, by decide, fun r h => by cases h⟩, HO.out⟩
set_option maxHeartbeats 8000000 in
set_option maxRecDepth 100000 in
theorem rcopy_row (w0 w : World) (L T : Hl) (gr : Nat) (room drops nxt : Int) (gs n c : Nat) (R : List Rc) (V : List Value) (cr : Array Value) (hn : 0 < n) (hle : n ≤ 64) (hl : R.length = n) (htk : cr.toList.take (n * 4) = rcells R V) (hB : BSt T V R) (hbs : ∀ r ∈ R, r.b.length ≤ 32) (hO : Own w0 w ((gr, .cells #[.int .i64 room, .int .i64 drops, .int .i64 nxt, .slice (some ⟨gs, 0, none⟩) n c] 133 (0, 0)) :: (([(gs, .cells cr 135 (0, 0))] ++ T) ++ L))) : Calls Try.prog 46 #[.pointer (some ⟨gr, 0, none⟩)] w fun e w' =>
    ∃ g3, e = .returned (.pointer (some ⟨g3, 0, none⟩)) ∧ ∃ X2 A5 c5, RSt X2 A5 n c5 R ∧ Own w0 w' ((g3, .cells #[.int .i64 room, .int .i64 drops, .int .i64 nxt, .slice A5 n c5] 133 (0, 0)) :: (X2 ++ ((gr, .cells #[.int .i64 room, .int .i64 drops, .int .i64 nxt, .slice (some ⟨gs, 0, none⟩) n c] 133 (0, 0)) :: (([(gs, .cells cr 135 (0, 0))] ++ T) ++ L)))) := by
  have hui := Try.underlying3
  have hul := Try.underlying32
  have hu8 := Try.underlying5
  have hur := Try.underlying135
  have hurs := Try.underlying131
  have hurg := Try.underlying133
  have HO : Aside0 (Own w0 w ((gr, .cells #[.int .i64 room, .int .i64 drops, .int .i64 nxt, .slice (some ⟨gs, 0, none⟩) n c] 133 (0, 0)) :: (gs, .cells cr 135 (0, 0)) :: (T ++ L))) := ⟨hO⟩
  have hlen := rcells_len R V hB.len
  have HV : Aside0 ((cr.toList.drop 0).take (rcells R V).length = rcells R V) := ⟨by rw [hlen, hl]; exact htk⟩
  have HLN : Aside0 ((rcells R V).length = n * 4) := ⟨by rw [hlen, hl]⟩
  have HONE : Aside0 (∀ u ∈ rcells R V, u.oneCell' = true) := ⟨rcells_one R V hB.one⟩
  have HN64 := Aside0.mk hle
  have HN := Aside0.mk hn
  have HL := Aside0.mk hl
  have HB := Aside0.mk hB
  have HBS := Aside0.mk hbs
  clear hn hle hl htk hB hbs hO hlen
  go_enter Try.func46, Try.ntmps46
  go_wp2_with (first | ((with_reducible refine gate_dst (N := 9) rfl ?_); refine own_wload HO.out rfl (x := .tmp 8) rfl (by rfl) (by (repeat (first | exact .head | apply Ext.tail))) hurg (by rfl) (by kernel_rfl) ?_) | ((with_reducible refine gate_dst (N := 3) rfl ?_); refine own_box HO.out ?hg (N := 3) ?hd (cs := #[.int .i64 0, .int .i64 0, .int .i64 0, .slice none 0 0]) (t := 133) ?hr ?_; (case hd => rfl); (case hg => rfl); (case hr => first | (go_simp; done) | (go_simp; rfl) | kernel_rfl); intro g3 w3 hO_; clear HO; have HO := Aside0.mk hO_; clear hO_) | ((with_reducible refine gate_store (p := 3) rfl ?_); refine own_wstore HO.out rfl (ty := 133) (x := .tmp 3) (y := .tmp 9) (cs := #[.int .i64 room, .int .i64 drops, .int .i64 nxt, .slice (some ⟨gs, 0, none⟩) n c]) rfl (by rfl) (by rfl) (by (repeat (first | exact .head | apply Ext.tail))) (by kernel_rfl) (by rfl) (by kernel_rfl) ?_; intro wc hO_; clear HO; have HO := Aside0.mk hO_; clear hO_) | ((with_reducible refine gate_dst (N := 13) rfl ?_); refine own_load HO.out rfl (x := .tmp 12) (v := .slice (some ⟨gs, 0, none⟩) n c) rfl (by rfl) (by (repeat (first | exact .head | apply Ext.tail))) hurs (by rfl) (by rfl) ?_) | ((with_reducible refine gate_callee (f := 77) rfl ?_); (with_reducible refine gate_dst (N := 14) rfl ?_); refine goesL_ (some 14) rfl rfl Try.func77 (by kernel_rfl) rfl #[.slice (some ⟨gs, 0, none⟩) n c] rfl (by (try simp only [List.map_toArray, List.map_cons, List.map_nil]); first | done | rfl) ?_; (with_reducible refine (clone_rec w0 _ ((g3, .cells #[.int .i64 room, .int .i64 drops, .int .i64 nxt, .slice (some ⟨gs, 0, none⟩) n c] 133 (0, 0)) :: (gr, .cells #[.int .i64 room, .int .i64 drops, .int .i64 nxt, .slice (some ⟨gs, 0, none⟩) n c] 133 (0, 0)) :: (gs, .cells cr 135 (0, 0)) :: (T ++ L)) _ gs 0 n c cr (rcells R V) (.tail (.tail .head)) HV.out HLN.out HONE.out HN64.out HO.out).mono ?_); rintro e wx ⟨v5, rfl, R5, hR5, hO_⟩; refine ⟨_, rfl, ?_⟩; obtain ⟨A5, c5, rfl⟩ := RowOf.shape hR5; (obtain ⟨gn, crn, rfl, rfl, _, hn2, hn3, hn4, hn5, _⟩ := RowOf.setAt hR5 HN.out); have HCN := Aside0.mk (And.intro hn2 hn4); have HCN2 := Aside0.mk (And.intro hn3 hn5); clear hR5 hn2 hn3 hn4 hn5; have hO_ := hO_.repr (L' := ((g3, .cells #[.int .i64 room, .int .i64 drops, .int .i64 nxt, .slice (some ⟨gs, 0, none⟩) n c] 133 (0, 0)) :: (gn, .cells crn 135 (0, 0)) :: ([] ++ ((gr, .cells #[.int .i64 room, .int .i64 drops, .int .i64 nxt, .slice (some ⟨gs, 0, none⟩) n c] 133 (0, 0)) :: (([(gs, .cells cr 135 (0, 0))] ++ T) ++ L))))) [] (by classical exact List.perm_iff_count.2 (fun a => by simp only [List.count_append, List.count_cons, List.count_nil, List.append_assoc, List.cons_append, List.nil_append] <;> ac_rfl)); clear HO; have HO := Aside0.mk hO_; clear hO_) | ((with_reducible refine gate_store (p := 15) rfl ?_); refine own_store HO.out rfl (ty := 131) (x := .tmp 15) (y := .tmp 14) (v := .slice (some ⟨gn, 0, none⟩) n c5) (cs' := #[.int .i64 room, .int .i64 drops, .int .i64 nxt, .slice (some ⟨gn, 0, none⟩) n c5]) rfl (by rfl) (by rfl) (by (repeat (first | exact .head | apply Ext.tail))) (by kernel_rfl) (by rfl) (by first | decide | (simp; done)) (by rfl) ?_; intro wc hO_; clear HO; have HO := Aside0.mk hO_; clear hO_) | ((with_reducible refine gate_dst (N := 17) rfl ?_); refine own_load HO.out rfl (x := .tmp 16) (v := .slice (some ⟨gn, 0, none⟩) n c5) rfl (by rfl) (by (repeat (first | exact .head | apply Ext.tail))) hurs (by rfl) (by rfl) ?_))
  go_loopg [4, 19] n (fun gk v4 v19 w' => ∃ (i : Nat) (crn : Array Value) (Tn : Hl) (Vn : List Value), v19 = .int .i64 (i : Int) ∧ Aside0 (i + gk = n) ∧ Aside0 (Vn.length = i ∧ BSt Tn Vn (R.take i)) ∧ Aside0 (crn.size = c5 * 4 ∧ crn.toList.take (n * 4) = rcells R (Vn ++ V.drop i)) ∧ Aside0 (Own w0 w' ((g3, .cells #[.int .i64 room, .int .i64 drops, .int .i64 nxt, .slice (some ⟨gn, 0, none⟩) n c5] 133 (0, 0)) :: (gn, .cells crn 135 (0, 0)) :: (Tn ++ ((gr, .cells #[.int .i64 room, .int .i64 drops, .int .i64 nxt, .slice (some ⟨gs, 0, none⟩) n c] 133 (0, 0)) :: (([(gs, .cells cr 135 (0, 0))] ++ T) ++ L))))))
  case atStart => exact ⟨0, crn, [], [], rfl, ⟨Nat.zero_add _⟩, ⟨rfl, by rw [List.take_zero]; exact .nil⟩, ⟨HCN.out.1, by simpa using HCN.out.2⟩, HO⟩
  case round =>
    clear HO HCN
    obtain ⟨i, crn, Tn, Vn, rfl, HI, HBN, HCN, HO⟩ := hrel
    cases gk with
    | zero =>
      have c1 : decide ((i : Int) < (n : Int)) = false := decide_eq_false (by have := HI.out; omega)
      have c1n : decide (i < n) = false := decide_eq_false (by have := HI.out; omega)
      obtain rfl : i = n := by have := HI.out; omega
      go_wp2
      go_ret
      have e1 : R.take i = R := List.take_of_length_le (by rw [HL.out]; exact Nat.le_refl _)
      have e2 : Vn ++ V.drop i = Vn := by rw [List.drop_eq_nil_of_le (by rw [HB.out.len, HL.out]; exact Nat.le_refl _), List.append_nil]
      have hbn := HBN.out.2
      rw [e1] at hbn
      have hcn := HCN.out
      rw [e2] at hcn
      exact ⟨g3, rfl, [(gn, .cells crn 135 (0, 0))] ++ Tn, _, c5, ⟨⟨[(gn, .cells crn 135 (0, 0))], Tn, Vn, rfl, ⟨by rw [rcells_len _ _ hbn.len, HL.out], .inr ⟨gn, c5, crn, rfl, rfl, HCN2.out.1, HCN2.out.2, hcn.1, hcn.2⟩⟩, hbn⟩, HL.out, HN64.out, HBS.out⟩, HO.out⟩
    | succ m =>
      have hin : i < n := by have := HI.out; omega
      have hi : i < R.length := by have := HL.out; omega
      have c1 : decide ((i : Int) < (n : Int)) = true := decide_eq_true (by omega)
      have c1n : decide (i < n) = true := decide_eq_true hin
      have p1 := eq_true (show 0 ≤ (i : Int) by omega)
      have q1 := eq_true (show (i : Int) < (n : Int) by omega)
      have q1n := eq_true hin
      obtain ⟨T1, B, T2, u, hT, hVi, hrow, _⟩ := HB.out.at i R[i] (List.getElem?_eq_getElem hi)
      obtain ⟨Ab, cb, rfl⟩ := RowOf.shape hrow
      obtain ⟨J, hJ⟩ : ∃ J, T.Perm (B ++ J) := ⟨T1 ++ T2, by rw [hT]; exact (by classical exact List.perm_iff_count.2 (fun a => by simp only [List.count_append, List.count_cons, List.count_nil, List.append_assoc, List.cons_append, List.nil_append] <;> ac_rfl))⟩
      have hiv : i < V.length := by rw [HB.out.len]; exact hi
      have hvg : (Vn ++ V.drop i)[i]? = some (.slice Ab R[i].b.length cb) := by rw [List.getElem?_append_right (by rw [HBN.out.1]; exact Nat.le_refl _), HBN.out.1, Nat.sub_self, List.getElem?_drop, Nat.add_zero]; exact hVi
      obtain ⟨-, -, -, k3⟩ := rcells_at R _ i R[i] _ (List.getElem?_eq_getElem hi) hvg
      have HC3 := Aside0.mk (cell_of_take HCN.out.2 k3)
      have HROW := Aside0.mk hrow
      have HPC := Aside0.mk (permC (a := [(g3, .cells #[.int .i64 room, .int .i64 drops, .int .i64 nxt, .slice (some ⟨gn, 0, none⟩) n c5] 133 (0, 0))]) (b := [(gn, .cells crn 135 (0, 0))]) (T' := Tn) (c := [(gr, .cells #[.int .i64 room, .int .i64 drops, .int .i64 nxt, .slice (some ⟨gs, 0, none⟩) n c] 133 (0, 0))]) (d := [(gs, .cells cr 135 (0, 0))]) (L := L) hJ)
      have HB32 : Aside0 (R[i].b.length ≤ 1048576) := ⟨by have := HBS.out R[i] (List.getElem_mem hi); omega⟩
      have HJ : Aside0 (i * 4 + 3 < crn.size) := ⟨by rw [HCN.out.1]; have := HCN2.out.1; omega⟩
      have HTK : Aside0 (R.take (i + 1) = R.take i ++ [R[i]]) := ⟨List.take_succ_eq_append_getElem hi⟩
      have HSETV : Aside0 (∀ v, (Vn ++ V.drop i).set i v = (Vn ++ [v]) ++ V.drop (i + 1)) := ⟨fun v => by rw [List.set_append_right _ _ (by rw [HBN.out.1]; exact Nat.le_refl _), HBN.out.1, Nat.sub_self, List.drop_eq_getElem_cons hiv, List.set_cons_zero, List.append_assoc]; rfl⟩
      have HIN := Aside0.mk hin
      have W1 := w_of (x := (i : Int) + 1) (y := ((i + 1 : Nat) : Int)) (by omega) (by have := HN64.out; omega)
      have u1 := W1.out.1; have u1b := W1.out.2
      generalize R[i] = r at HC3 HROW HB32 HTK
      clear hin hi hT hVi hrow hJ hiv hvg k3
      go_wp2
      refine start_ (n := 13) (S := fun W => Own w0 W ((g3, .cells #[.int .i64 room, .int .i64 drops, .int .i64 nxt, .slice (some ⟨gn, 0, none⟩) n c5] 133 (0, 0)) :: (gn, .cells crn 135 (0, 0)) :: [])) (ds := [12]) #[false, false, false, false, false, false, false, false, false, false, false, false, false] (by kernel_rfl) rfl rfl (Own.drew (HO.out.picks (.cons (by (repeat (first | exact .head | apply Ext.tail))) (.cons (by (repeat (first | exact .head | apply Ext.tail))) (.nil))))) (fun hHeld => ?_)
      have HO_ := Aside0.mk HO.out.drew
      clear HO
      have HO := HO_
      clear HO_
      generalize World.drew _ = wr at HO hHeld ⊢
      refine Hp.pu_ 0 22 (Hp.up 13 1) ?_
      refine take_ (i := 1) (N := some 23) (v := .slice (some ⟨gn, 0, none⟩) n c5) (a' := ?_) (Hp.up 13 2) rfl rfl (by kernel_rfl) (fun _ _ _ h => h) (own_yield1 (by rfl) (x := .tmp 22) rfl (by rfl) (.head) Try.underlying131 (by rfl) (by rfl)) hHeld ?_ ?_
      rotate_left
      · simp only [Act.put, List.setIfInBounds_toArray, List.set_cons_zero, List.set_cons_succ, i64_w, i32_w]
        rfl
      refine Hp.pu_ 2 24 (Hp.up 13 3) ?_
      refine Hp.pu_ 3 25 (Hp.up 13 4) ?_
      refine take_ (i := 4) (N := some 26) (v := .slice (some ⟨gn, 0, none⟩) n c5) (a' := ?_) (Hp.up 13 5) rfl rfl (by kernel_rfl) (fun _ _ _ h => h) (own_yield1 (by rfl) (x := .tmp 25) rfl (by rfl) (.head) Try.underlying131 (by rfl) (by rfl)) hHeld ?_ ?_
      rotate_left
      · simp only [Act.put, List.setIfInBounds_toArray, List.set_cons_zero, List.set_cons_succ, i64_w, i32_w]
        rfl
      refine Hp.pu_ 5 27 (Hp.up 13 6) ?_
      refine Hp.pu_ 6 28 (Hp.up 13 7) ?_
      refine Hp.pu_ 7 29 (Hp.up 13 8) ?_
      refine take_ (i := 8) (N := some 30) (v := .slice Ab r.b.length cb) (a' := ?_) (Hp.up 13 9) rfl rfl (by kernel_rfl) (fun _ _ _ h => h) (own_yield1 (by rfl) (x := .tmp 29) rfl (by rfl) (.tail .head) hul (by rfl) HC3.out) hHeld ?_ ?_
      rotate_left
      · simp only [Act.put, List.setIfInBounds_toArray, List.set_cons_zero, List.set_cons_succ, i64_w, i32_w]
        rfl
      refine one_ (i := 9) (N := some 31) (Hp.up 13 10) rfl rfl (by kernel_rfl) (by decide) (fun K hK => ?_)
      refine goes_ Try.func75 (by kernel_rfl) rfl #[.slice Ab r.b.length cb] (by rfl) rfl rfl (by (try simp only [List.map_toArray, List.map_cons, List.map_nil]); first | done | rfl) ?_
      refine (clone_u8 w0 _ ((g3, .cells #[.int .i64 room, .int .i64 drops, .int .i64 nxt, .slice (some ⟨gn, 0, none⟩) n c5] 133 (0, 0)) :: (gn, .cells crn 135 (0, 0)) :: (Tn ++ ((gr, .cells #[.int .i64 room, .int .i64 drops, .int .i64 nxt, .slice (some ⟨gs, 0, none⟩) n c] 133 (0, 0)) :: ((gs, .cells cr 135 (0, 0)) :: (J ++ L))))) B _ _ _ HROW.out (u8s_one _) HB32.out (HO.out.perm HPC.out)).mono ?_
      rintro e wx ⟨v6, rfl, R6, hR6, hO_⟩
      refine ⟨_, rfl, ?_⟩
      have HR6 := Aside0.mk hR6
      clear hR6
      have hO_ : Own w0 wx ((g3, .cells #[.int .i64 room, .int .i64 drops, .int .i64 nxt, .slice (some ⟨gn, 0, none⟩) n c5] 133 (0, 0)) :: (gn, .cells crn 135 (0, 0)) :: ((Tn ++ R6) ++ ((gr, .cells #[.int .i64 room, .int .i64 drops, .int .i64 nxt, .slice (some ⟨gs, 0, none⟩) n c] 133 (0, 0)) :: (([(gs, .cells cr 135 (0, 0))] ++ T) ++ L)))) := hO_.perm ((List.Perm.append_left R6 HPC.out.symm).trans (by classical exact List.perm_iff_count.2 (fun a => by simp only [List.count_append, List.count_cons, List.count_nil, List.append_assoc, List.cons_append, List.nil_append] <;> ac_rfl)))
      clear HO; have HO := Aside0.mk hO_; clear hO_
      have HONE6 : Aside0 (v6.oneCell' = true) := ⟨by obtain ⟨_, _, e6⟩ := RowOf.shape HR6.out; rw [e6]; rfl⟩
      refine hK.out _ _ (HO.out.picks (.cons (by (repeat (first | exact .head | apply Ext.tail))) (.cons (by (repeat (first | exact .head | apply Ext.tail))) (.nil)))) (fun hHeld => ?_)
      clear hK K
      refine norm_ (a' := ?_) ?_ ?_
      rotate_left
      · show Act.put _ (some 31) _ = _
        simp only [Act.put, List.setIfInBounds_toArray, List.set_cons_zero, List.set_cons_succ, i64_w, i32_w]
        rfl
      refine Hp.pu_ 10 32 (Hp.up 13 11) ?_
      refine Hp.pu_ 11 33 (Hp.up 13 12) ?_
      refine last_ (i := 12) (N := none) (Hp.up 13 13) rfl rfl (by kernel_rfl) (by decide) (fun K hK => ?_)
      refine own_store_k HO.out (by rfl) rfl (ty := 32) (x := .tmp 33) (y := .tmp 31) (v := v6) (cs' := crn.setIfInBounds (i * 4 + 3) v6) rfl (by rfl) (by rfl) (.tail .head) (by kernel_rfl) HONE6.out HJ.out rfl ?_
      intro wc hO_
      have hO_ := hO_.repr (L' := ((g3, .cells #[.int .i64 room, .int .i64 drops, .int .i64 nxt, .slice (some ⟨gn, 0, none⟩) n c5] 133 (0, 0)) :: (gn, .cells (crn.setIfInBounds (i * 4 + 3) v6) 135 (0, 0)) :: ((Tn ++ R6) ++ ((gr, .cells #[.int .i64 room, .int .i64 drops, .int .i64 nxt, .slice (some ⟨gs, 0, none⟩) n c] 133 (0, 0)) :: (([(gs, .cells cr 135 (0, 0))] ++ T) ++ L))))) [] (by classical exact List.perm_iff_count.2 (fun a => by simp only [List.count_append, List.count_cons, List.count_nil, List.append_assoc, List.cons_append, List.nil_append] <;> ac_rfl))
      clear HO; have HO := Aside0.mk hO_; clear hO_
      refine hK.out _ _ ?_
      clear hK K
      refine done_ (by kernel_rfl) ?_
      clear hHeld
      go_wp2
      go_roundg m
      case measure => clear u1 u1b; omega
      case rel =>
        clear u1 u1b
        refine ⟨i + 1, _, Tn ++ R6, Vn ++ [v6], rfl, ⟨by have := HI.out; omega⟩, ⟨by simp [HBN.out.1], ?_⟩, ⟨by rw [Array.size_setIfInBounds]; exact HCN.out.1, ?_⟩, HO⟩
        · rw [HTK.out]
          have := HBN.out.2.app (BSt.cons HR6.out .nil)
          simpa using this
        · have h1 := take_set (v := v6) HCN.out.2 (j := i * 4 + 3) (by have := HIN.out; omega)
          rw [rcells_set3, HSETV.out] at h1
          exact h1
theorem rcopy_calls (w0 w : World) (L X : Hl) (gr : Nat) (room drops nxt : Int) (A : Option Addr) (n c : Nat) (R : List Rc) (hS : RSt X A n c R) (hO : Own w0 w ((gr, .cells #[.int .i64 room, .int .i64 drops, .int .i64 nxt, .slice A n c] 133 (0, 0)) :: (X ++ L))) : Calls Try.prog 46 #[.pointer (some ⟨gr, 0, none⟩)] w fun e w' => ∃ g3, e = .returned (.pointer (some ⟨g3, 0, none⟩)) ∧ ∃ X2 A5 c5, RSt X2 A5 n c5 R ∧ Own w0 w' ((g3, .cells #[.int .i64 room, .int .i64 drops, .int .i64 nxt, .slice A5 n c5] 133 (0, 0)) :: (X2 ++ ((gr, .cells #[.int .i64 room, .int .i64 drops, .int .i64 nxt, .slice A n c] 133 (0, 0)) :: (X ++ L)))) := by
  rcases Nat.eq_zero_or_pos n with rfl | hn
  · exact rcopy_nil w0 w L X gr room drops nxt A c R hS hO
  · obtain ⟨RR, T, V, rfl, hR, hB⟩ := hS.ex
    obtain ⟨gs, cr, rfl, rfl, _, _, _, htk, _, _⟩ := RowOf.setAt hR hn
    exact rcopy_row w0 w L T gr room drops nxt gs n c R V cr hn hS.le hS.len htk hB hS.bs hO
/-- The place of a live record in the list of the live ones. -/
def pos : List Bool → Nat → Nat
  | g :: G, i + 1 => if g = true then pos G i else pos G i + 1
  | _, _ => 0
theorem live_pos : ∀ (R : List Rc) (G : List Bool) (i : Nat) (r : Rc), R[i]? = some r → G[i]? = some false → (live R G)[pos G i]? = some r
  | [], _, _, _, h, _ => by simp at h
  | _ :: _, [], _, _, _, h => by simp at h
  | q :: R, g :: G, 0, r, h1, h2 => by
    simp only [List.getElem?_cons_zero, Option.some.injEq] at h1 h2
    subst h1 h2
    rfl
  | q :: R, g :: G, i + 1, r, h1, h2 => by
    have ih := live_pos R G i r (by simpa using h1) (by simpa using h2)
    unfold live pos
    split
    · exact ih
    · simpa using ih
theorem live_setp : ∀ (R : List Rc) (G : List Bool) (i : Nat) (q : Rc), G[i]? = some false → live (R.set i q) G = (live R G).set (pos G i) q
  | [], _, _, _, _ => by simp [live]
  | _ :: _, [], _, _, h => by simp at h
  | r :: R, g :: G, 0, q, h => by
    simp only [List.getElem?_cons_zero, Option.some.injEq] at h
    subst h
    rfl
  | r :: R, g :: G, i + 1, q, h => by
    have ih := live_setp R G i q (by simpa using h)
    simp only [List.set_cons_succ, live, pos]
    split
    · exact ih
    · simp [ih]
theorem rfind_live : ∀ (R : List Rc) (G : List Bool) (i o k : Nat) (r : Rc), (∀ (i : Nat) r, R[i]? = some r → r.id = ((i + o : Nat) : Int)) → R[i]? = some r → G[i]? = some false → r.st = 0 → rfind ((i + o : Nat) : Int) (live R G) k = ((k + pos G i : Nat) : Int)
  | [], _, _, _, _, _, _, h, _, _ => by simp at h
  | _ :: _, [], _, _, _, _, _, _, h, _ => by simp at h
  | q :: R, g :: G, 0, o, k, r, hid, h1, h2, h3 => by
    have hq := hid 0 q rfl
    simp only [List.getElem?_cons_zero, Option.some.injEq] at h1 h2
    subst h1 h2
    simp only [live, rfind, pos]
    rw [if_neg (by decide), rfind, if_pos ⟨hq, h3⟩, Nat.add_zero]
  | q :: R, g :: G, i + 1, o, k, r, hid, h1, h2, h3 => by
    have hq := hid 0 q rfl
    have hid' : ∀ (i : Nat) r, R[i]? = some r → r.id = ((i + (o + 1) : Nat) : Int) := fun j p hp => by
      have := hid (j + 1) p (by simpa using hp)
      rw [this]; congr 1; omega
    have e : i + 1 + o = i + (o + 1) := by omega
    cases g with
    | true =>
      have ih := rfind_live R G i (o + 1) k r hid' (by simpa using h1) (by simpa using h2) h3
      simp only [live, pos, if_true]
      rw [e]
      exact ih
    | false =>
      have ih := rfind_live R G i (o + 1) (k + 1) r hid' (by simpa using h1) (by simpa using h2) h3
      simp only [live, pos]
      rw [if_neg (by decide), if_neg (by decide), rfind, if_neg (by rw [hq]; omega), e, ih]
      congr 1
      omega
theorem rfind_none (x : Int) : ∀ (L : List Rc) (k : Nat), (∀ r ∈ L, ¬ (r.id = x ∧ r.st = 0)) → rfind x L k = -1
  | [], _, _ => rfl
  | q :: L, k, h => by
    rw [rfind, if_neg (h q (List.mem_cons_self ..))]
    exact rfind_none x L (k + 1) fun r hr => h r (List.mem_cons_of_mem _ hr)
theorem live_idx : ∀ (R : List Rc) (G : List Bool), ∀ r ∈ live R G, ∃ i : Nat, R[i]? = some r ∧ G[i]? = some false
  | [], _, r, h => by simp [live] at h
  | _ :: _, [], r, h => by simp [live] at h
  | q :: R, g :: G, r, h => by
    cases g with
    | true =>
      obtain ⟨i, h1, h2⟩ := live_idx R G r (by simpa [live] using h)
      exact ⟨i + 1, by simpa using h1, by simpa using h2⟩
    | false =>
      simp only [live] at h
      rw [if_neg (by decide)] at h
      rcases List.mem_cons.1 h with rfl | h
      · exact ⟨0, rfl, rfl⟩
      · obtain ⟨i, h1, h2⟩ := live_idx R G r h
        exact ⟨i + 1, by simpa using h1, by simpa using h2⟩
theorem heldl_mem : ∀ (R : List Rc), ∀ x ∈ heldl R, ∃ r ∈ R, r.st = 0 ∧ r.id = x
  | [], x, h => by simp [heldl] at h
  | q :: R, x, h => by
    unfold heldl at h
    split at h
    · rename_i h0
      rcases List.mem_cons.1 h with rfl | h
      · exact ⟨q, List.mem_cons_self .., h0, rfl⟩
      · obtain ⟨r, h1, h2⟩ := heldl_mem R x h
        exact ⟨r, List.mem_cons_of_mem _ h1, h2⟩
    · obtain ⟨r, h1, h2⟩ := heldl_mem R x h
      exact ⟨r, List.mem_cons_of_mem _ h1, h2⟩
/-- A record's bytes of the document, in the open. -/
theorem DSt.openr {X : Hl} {A : Option Addr} {n c : Nat} {R : List Rc} {G : List Bool} (h : DSt X A n c R G) {i : Nat} {r : Rc} (hi : R[i]? = some r) : ∃ gs cr T Ab cb B J, A = some ⟨gs, 0, none⟩ ∧ X = (gs, .cells cr 78 (0, 0)) :: T ∧ cr[i * 4 + 2]? = some (.slice Ab r.b.length cb) ∧ RowOf 5 1 B (.slice Ab r.b.length cb) r.b.length (r.b.map (Value.int .u8)) ∧ T.Perm (B ++ J) := by
  obtain ⟨RR, T, V, rfl, hR, hB⟩ := h.ex
  have hil := (List.getElem?_eq_some_iff.1 hi).1
  obtain ⟨T1, B, T2, v, rfl, hv, hrow, hput⟩ := hB.at i r hi
  obtain ⟨Ab, cb, rfl⟩ := RowOf.shape hrow
  obtain ⟨gs, cr, rfl, rfl, _, h2, h3, h4, h5, _⟩ := RowOf.setAt hR (by have := h.len; omega)
  have hg : G[i]? = some (G.getD i false) := by rw [List.getD_eq_getElem?_getD, List.getElem?_eq_getElem (by rw [h.glen, ← h.len]; exact hil)]; rfl
  obtain ⟨-, -, k2, -⟩ := dcells_at R G V i r _ _ hi hg hv
  exact ⟨gs, cr, T1 ++ (B ++ T2), Ab, cb, B, T1 ++ T2, rfl, rfl, cell_of_take h4 k2, hrow, (by classical exact List.perm_iff_count.2 (fun a => by simp only [List.count_append, List.count_cons, List.count_nil, List.append_assoc, List.cons_append, List.nil_append] <;> ac_rfl))⟩
theorem dcells_b : ∀ (R : List Rc) (G : List Bool) (V : List Value) (i : Nat) (r : Rc) (b : List Int), R[i]? = some r → dcells (R.set i { r with b := b }) G V = dcells R G V
  | [], _, _, _, _, _, h => by simp at h
  | _ :: _, [], _, i, _, _, _ => by cases i <;> simp [dcells]
  | _ :: _, _ :: _, [], i, _, _, _ => by cases i <;> simp [dcells]
  | q :: R, a :: G, u :: V, 0, r, b, h => by
    simp only [List.getElem?_cons_zero, Option.some.injEq] at h
    subst h
    rfl
  | q :: R, a :: G, u :: V, i + 1, r, b, h => by
    have ih := dcells_b R G V i r b (by simpa using h)
    simp only [List.set_cons_succ, dcells, ih]
theorem DSt.openw {X : Hl} {A : Option Addr} {n c : Nat} {R : List Rc} {G : List Bool} (h : DSt X A n c R G) {i : Nat} {r : Rc} (hi : R[i]? = some r) (hb : 1 ≤ r.b.length) : ∃ gs gb cb cr cur X1 X2, A = some ⟨gs, 0, none⟩ ∧ X = (gs, .cells cr 78 (0, 0)) :: (X1 ++ ((gb, .cells cur 5 (0, 0)) :: X2)) ∧ cr[i * 4 + 2]? = some (.slice (some ⟨gb, 0, none⟩) r.b.length cb) ∧ r.b.length ≤ cur.size ∧ cur.toList.take r.b.length = r.b.map (Value.int .u8) ∧
    ∀ (cur' : Array Value) (b' : List Int), cur'.size = cur.size → b'.length = r.b.length → cur'.toList.take r.b.length = b'.map (Value.int .u8) → DSt ((gs, .cells cr 78 (0, 0)) :: (X1 ++ ((gb, .cells cur' 5 (0, 0)) :: X2))) A n c (R.set i { r with b := b' }) G := by
  obtain ⟨RR, T, V, rfl, hR, hB⟩ := h.ex
  have hil := (List.getElem?_eq_some_iff.1 hi).1
  obtain ⟨T1, B, T2, v, rfl, hv, hrow, hput⟩ := hB.at i r hi
  obtain ⟨Ab, cb, rfl⟩ := RowOf.shape hrow
  obtain ⟨gs, cr, rfl, rfl, _, h2, h3, h4, h5, _⟩ := RowOf.setAt hR (by have := h.len; omega)
  obtain ⟨gb, cur, rfl, rfl, _, k2, k3, k4, k5, k6⟩ := RowOf.setAt hrow hb
  have hg : G[i]? = some (G.getD i false) := by rw [List.getD_eq_getElem?_getD, List.getElem?_eq_getElem (by rw [h.glen, ← h.len]; exact hil)]; rfl
  obtain ⟨-, -, kk, -⟩ := dcells_at R G V i r _ _ hi hg hv
  have hset : V.set i (.slice (some ⟨gb, 0, none⟩) r.b.length cb) = V := by
    apply List.ext_getElem?
    intro j
    rw [List.getElem?_set]
    split
    · rename_i e; subst e; split
      · exact hv.symm
      · rename_i hlt; rw [List.getElem?_eq_none (by omega)]
    · rfl
  refine ⟨gs, gb, cb, cr, cur, T1, T2, rfl, rfl, cell_of_take h4 kk, by omega, by rw [Nat.mul_one] at k4; exact k4, fun cur' b' e1 e2 e3 => ?_⟩
  have hB' := hput [(gb, .cells cur' 5 (0, 0))] (.slice (some ⟨gb, 0, none⟩) r.b.length cb) { r with b := b' } (by rw [e2]; exact k6 cur' _ e1 (by rw [Nat.mul_one]; exact e3))
  rw [hset] at hB'
  refine ⟨⟨[(gs, .cells cr 78 (0, 0))], T1 ++ ([(gb, .cells cur' 5 (0, 0))] ++ T2), V, rfl, ⟨?_, .inr ⟨gs, c, cr, rfl, rfl, h3, h5, h2, by rw [dcells_b _ _ _ _ _ _ hi]; exact h4⟩⟩, hB'⟩, by rw [List.length_set]; exact h.len, h.glen, h.le, ?_, ?_⟩
  · rw [dcells_b _ _ _ _ _ _ hi, dcells_len _ _ _ (by rw [h.glen, h.len]) hB.len, h.len]
  · intro q hq
    rcases List.mem_or_eq_of_mem_set hq with hq | rfl
    · exact h.bs q hq
    · show b'.length ≤ 32
      rw [e2]; exact h.bs r (List.mem_of_getElem? hi)
  · intro j q hq
    rw [List.getElem?_set] at hq
    split at hq
    · rename_i e
      subst e
      cases hq
      exact h.ids i r hi
    · exact h.ids j q hq
theorem RowOf.string2 {P : Program} {w0 W : World} {L R : Hl} {src dst e e' : TypeId} (hs : P.underlying src = some (.slice e)) (he : P.underlying e = some (.int .u8)) (hd : P.underlying dst = some .string) {A : Option Addr} {n c : Nat} {xs : List Int} (hR : RowOf e' 1 R (.slice A n c) n (xs.map (Value.int .u8))) (hn : 0 < n) (c2 : Nat) (HO : Own w0 W (R ++ L)) :
    (convert src dst (.slice A n c2)).run P W = .ok (.string (strOfNums xs)) W := by
  have hl : xs.length = n := by have := hR.1; simpa using this
  obtain ⟨hxl, ⟨_, h0, _⟩ | ⟨g, cap, cur, hv, rfl, hnc, hcm, hcs, htk⟩⟩ := hR
  · omega
  · simp only [Value.slice.injEq] at hv
    obtain ⟨rfl, _, rfl⟩ := hv
    refine run_convert_bytes_arg W src e hs he g 0 n c2 xs hl (fun i hi => ?_) dst hd
    have hi' : i < xs.length := by omega
    have := HO.range (o := 0) (vs := xs.map (Value.int .u8)) .head (by rw [List.drop_zero, hxl]; exact htk) i (.int .u8 (xs.getD i 0)) (by simp [List.getElem?_eq_getElem hi'])
    first
      | (rw [Addr.add_lit]; exact this)
      | exact this
end Go.Proofs.Rg
