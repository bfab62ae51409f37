/- Functions of the program that some laws reach, as Lean functions, and proofs that the program's calls come to what they say: written by a program, for the texts that import it; each theorem bears its own conditions. -/
import Derived.Test.YtkgmdcibjjkhlaaPXferSoundx0
import Derived.Test.YtkgmdcibjjkhlaaPXferSoundx1
import Derived.Test.YtkgmdcibjjkhlaaPXferSoundx3
import Derived.Test.YtkgmdcibjjkhlaaPXferSoundx5
namespace Go.Proofs.Ytkgmdcibjjkhlaa.PXferSound
open Go.RowKit Go.Proofs.YtkgmdcibjjkhlaaW.PrintWords Go.Proofs.YtkgmdcibjjkhlaaW.PrintLast Go.Proofs.YtkgmdcibjjkhlaaW.PrintMore
attribute [local go_sem] max2_int min2_int max_two min_two max_three min_three max_four min_four   -- for this text's walks alone
set_option linter.unusedVariables false
set_option linter.unusedSimpArgs false

/-! ### xfer_Do: function 7 -/
open Go.Proofs.Hp Go.Proofs.Ev
def xfEnt : List (Int × Value × Nat) := [(0, .func (.func 27) #[] #[], 0), (16, .func (.func 28) #[] #[], 1), (32, .func (.func 29) #[] #[], 2), (48, .func (.func 30) #[] #[], 3), (144, .func (.func 31) #[] #[], 4), (80, .func (.func 32) #[] #[], 5), (64, .func (.func 33) #[] #[], 6), (160, .func (.func 34) #[] #[], 7), (96, .func (.func 35) #[] #[], 8), (112, .func (.func 36) #[] #[], 9), (192, .func (.func 37) #[] #[], 10), (128, .func (.func 38) #[] #[], 11), (176, .func (.func 39) #[] #[], 12)]
def xfEs : Array MapEntry := #[{ key := .int .u8 0, val := .func (.func 27) #[] #[], born := 0 }, { key := .int .u8 16, val := .func (.func 28) #[] #[], born := 1 }, { key := .int .u8 32, val := .func (.func 29) #[] #[], born := 2 }, { key := .int .u8 48, val := .func (.func 30) #[] #[], born := 3 }, { key := .int .u8 144, val := .func (.func 31) #[] #[], born := 4 }, { key := .int .u8 80, val := .func (.func 32) #[] #[], born := 5 }, { key := .int .u8 64, val := .func (.func 33) #[] #[], born := 6 }, { key := .int .u8 160, val := .func (.func 34) #[] #[], born := 7 }, { key := .int .u8 96, val := .func (.func 35) #[] #[], born := 8 }, { key := .int .u8 112, val := .func (.func 36) #[] #[], born := 9 }, { key := .int .u8 192, val := .func (.func 37) #[] #[], born := 10 }, { key := .int .u8 128, val := .func (.func 38) #[] #[], born := 11 }, { key := .int .u8 176, val := .func (.func 39) #[] #[], born := 12 }]
set_option maxHeartbeats 8000000 in
set_option maxRecDepth 100000 in
theorem xf_rows (w0 w : World) (L : Hl) (hO : Own w0 w L) : Calls Try.prog 14 #[] w fun e w' => ∃ gm, e = .returned (.map (some gm)) ∧ Own w0 w' ((gm, .map xfEs 13) :: L) := by
 have HO := Aside0.mk hO
 clear hO
 go_enter Try.func14, Try.ntmps14
 go_wp2_with (first | ((with_reducible refine gate_dst (N := 1) rfl ?_); refine own_mkmap HO.out rfl (N := 1) rfl rfl ?_; intro g1 w1 hO_; clear HO; have HO := Aside0.mk hO_; clear hO_) | (refine own_insert HO.out rfl (t := 41) (m := .tmp 1) (k := .const (.int .u8 0)) (kv := .int .u8 0) (xv := .func (.func 27) #[] #[]) rfl Try.underlying41 Try.underlying5 (by rfl) (by (repeat (first | exact .head | apply Ext.tail))) rfl (by rfl) ?hk ?hf rfl rfl ?_; (case hk => first | rfl | trivial | decide); (case hf => kernel_rfl); intro wi hO_; clear HO; have HO := Aside0.mk hO_; clear hO_) | (refine own_insert HO.out rfl (t := 41) (m := .tmp 1) (k := .const (.int .u8 16)) (kv := .int .u8 16) (xv := .func (.func 28) #[] #[]) rfl Try.underlying41 Try.underlying5 (by rfl) (by (repeat (first | exact .head | apply Ext.tail))) rfl (by rfl) ?hk ?hf rfl rfl ?_; (case hk => first | rfl | trivial | decide); (case hf => kernel_rfl); intro wi hO_; clear HO; have HO := Aside0.mk hO_; clear hO_) | (refine own_insert HO.out rfl (t := 41) (m := .tmp 1) (k := .const (.int .u8 32)) (kv := .int .u8 32) (xv := .func (.func 29) #[] #[]) rfl Try.underlying41 Try.underlying5 (by rfl) (by (repeat (first | exact .head | apply Ext.tail))) rfl (by rfl) ?hk ?hf rfl rfl ?_; (case hk => first | rfl | trivial | decide); (case hf => kernel_rfl); intro wi hO_; clear HO; have HO := Aside0.mk hO_; clear hO_) | (refine own_insert HO.out rfl (t := 41) (m := .tmp 1) (k := .const (.int .u8 48)) (kv := .int .u8 48) (xv := .func (.func 30) #[] #[]) rfl Try.underlying41 Try.underlying5 (by rfl) (by (repeat (first | exact .head | apply Ext.tail))) rfl (by rfl) ?hk ?hf rfl rfl ?_; (case hk => first | rfl | trivial | decide); (case hf => kernel_rfl); intro wi hO_; clear HO; have HO := Aside0.mk hO_; clear hO_) | (refine own_insert HO.out rfl (t := 41) (m := .tmp 1) (k := .const (.int .u8 144)) (kv := .int .u8 144) (xv := .func (.func 31) #[] #[]) rfl Try.underlying41 Try.underlying5 (by rfl) (by (repeat (first | exact .head | apply Ext.tail))) rfl (by rfl) ?hk ?hf rfl rfl ?_; (case hk => first | rfl | trivial | decide); (case hf => kernel_rfl); intro wi hO_; clear HO; have HO := Aside0.mk hO_; clear hO_) | (refine own_insert HO.out rfl (t := 41) (m := .tmp 1) (k := .const (.int .u8 80)) (kv := .int .u8 80) (xv := .func (.func 32) #[] #[]) rfl Try.underlying41 Try.underlying5 (by rfl) (by (repeat (first | exact .head | apply Ext.tail))) rfl (by rfl) ?hk ?hf rfl rfl ?_; (case hk => first | rfl | trivial | decide); (case hf => kernel_rfl); intro wi hO_; clear HO; have HO := Aside0.mk hO_; clear hO_) | (refine own_insert HO.out rfl (t := 41) (m := .tmp 1) (k := .const (.int .u8 64)) (kv := .int .u8 64) (xv := .func (.func 33) #[] #[]) rfl Try.underlying41 Try.underlying5 (by rfl) (by (repeat (first | exact .head | apply Ext.tail))) rfl (by rfl) ?hk ?hf rfl rfl ?_; (case hk => first | rfl | trivial | decide); (case hf => kernel_rfl); intro wi hO_; clear HO; have HO := Aside0.mk hO_; clear hO_) | (refine own_insert HO.out rfl (t := 41) (m := .tmp 1) (k := .const (.int .u8 160)) (kv := .int .u8 160) (xv := .func (.func 34) #[] #[]) rfl Try.underlying41 Try.underlying5 (by rfl) (by (repeat (first | exact .head | apply Ext.tail))) rfl (by rfl) ?hk ?hf rfl rfl ?_; (case hk => first | rfl | trivial | decide); (case hf => kernel_rfl); intro wi hO_; clear HO; have HO := Aside0.mk hO_; clear hO_) | (refine own_insert HO.out rfl (t := 41) (m := .tmp 1) (k := .const (.int .u8 96)) (kv := .int .u8 96) (xv := .func (.func 35) #[] #[]) rfl Try.underlying41 Try.underlying5 (by rfl) (by (repeat (first | exact .head | apply Ext.tail))) rfl (by rfl) ?hk ?hf rfl rfl ?_; (case hk => first | rfl | trivial | decide); (case hf => kernel_rfl); intro wi hO_; clear HO; have HO := Aside0.mk hO_; clear hO_) | (refine own_insert HO.out rfl (t := 41) (m := .tmp 1) (k := .const (.int .u8 112)) (kv := .int .u8 112) (xv := .func (.func 36) #[] #[]) rfl Try.underlying41 Try.underlying5 (by rfl) (by (repeat (first | exact .head | apply Ext.tail))) rfl (by rfl) ?hk ?hf rfl rfl ?_; (case hk => first | rfl | trivial | decide); (case hf => kernel_rfl); intro wi hO_; clear HO; have HO := Aside0.mk hO_; clear hO_) | (refine own_insert HO.out rfl (t := 41) (m := .tmp 1) (k := .const (.int .u8 192)) (kv := .int .u8 192) (xv := .func (.func 37) #[] #[]) rfl Try.underlying41 Try.underlying5 (by rfl) (by (repeat (first | exact .head | apply Ext.tail))) rfl (by rfl) ?hk ?hf rfl rfl ?_; (case hk => first | rfl | trivial | decide); (case hf => kernel_rfl); intro wi hO_; clear HO; have HO := Aside0.mk hO_; clear hO_) | (refine own_insert HO.out rfl (t := 41) (m := .tmp 1) (k := .const (.int .u8 128)) (kv := .int .u8 128) (xv := .func (.func 38) #[] #[]) rfl Try.underlying41 Try.underlying5 (by rfl) (by (repeat (first | exact .head | apply Ext.tail))) rfl (by rfl) ?hk ?hf rfl rfl ?_; (case hk => first | rfl | trivial | decide); (case hf => kernel_rfl); intro wi hO_; clear HO; have HO := Aside0.mk hO_; clear hO_) | (refine own_insert HO.out rfl (t := 41) (m := .tmp 1) (k := .const (.int .u8 176)) (kv := .int .u8 176) (xv := .func (.func 39) #[] #[]) rfl Try.underlying41 Try.underlying5 (by rfl) (by (repeat (first | exact .head | apply Ext.tail))) rfl (by rfl) ?hk ?hf rfl rfl ?_; (case hk => first | rfl | trivial | decide); (case hf => kernel_rfl); intro wi hO_; clear HO; have HO := Aside0.mk hO_; clear hO_))
 go_ret
 exact ⟨_, rfl, HO.out⟩
def xfIs (op : Int) : Bool := op == 0 || op == 16 || op == 32 || op == 48 || op == 144 || op == 80 || op == 64 || op == 160 || op == 96 || op == 112 || op == 192 || op == 128 || op == 176
/-- What an operation's row does. -/
def xfM (op : Int) : XfP → Option XfP := if op = 0 then xf_add else if op = 16 then xf_sub else if op = 32 then xf_mul else if op = 48 then xf_div else if op = 144 then xf_mod else if op = 80 then xf_and else if op = 64 then xf_or else if op = 160 then xf_xor else if op = 96 then xf_lsh else if op = 112 then xf_rsh else if op = 192 then xf_arsh else if op = 128 then xf_neg else if op = 176 then xf_mov else fun _ => none
set_option maxHeartbeats 8000000 in
set_option maxRecDepth 100000 in
theorem xf_hit (op : Int) (h : xfIs op = true) : ∃ i F fnF, findI op xfEnt 0 = some (i, .func (.func F) #[] #[]) ∧ Try.prog.funcs[F]? = some fnF ∧ (fnF.name == "runtime.NumGoroutine") = false ∧ fnF.body.isSome = true ∧ XfOk F (xfM op) := by
 have hh : op = 0 ∨ op = 16 ∨ op = 32 ∨ op = 48 ∨ op = 144 ∨ op = 80 ∨ op = 64 ∨ op = 160 ∨ op = 96 ∨ op = 112 ∨ op = 192 ∨ op = 128 ∨ op = 176 := by simpa [xfIs, or_assoc] using h
 rcases hh with rfl | rfl | rfl | rfl | rfl | rfl | rfl | rfl | rfl | rfl | rfl | rfl | rfl
 ·exact ⟨0, _, _, rfl, Try.func27, by kernel_rfl, rfl, xf_add_ok⟩
 ·exact ⟨1, _, _, rfl, Try.func28, by kernel_rfl, rfl, xf_sub_ok⟩
 ·exact ⟨2, _, _, rfl, Try.func29, by kernel_rfl, rfl, xf_mul_ok⟩
 ·exact ⟨3, _, _, rfl, Try.func30, by kernel_rfl, rfl, xf_div_ok⟩
 ·exact ⟨4, _, _, rfl, Try.func31, by kernel_rfl, rfl, xf_mod_ok⟩
 ·exact ⟨5, _, _, rfl, Try.func32, by kernel_rfl, rfl, xf_and_ok⟩
 ·exact ⟨6, _, _, rfl, Try.func33, by kernel_rfl, rfl, xf_or_ok⟩
 ·exact ⟨7, _, _, rfl, Try.func34, by kernel_rfl, rfl, xf_xor_ok⟩
 ·exact ⟨8, _, _, rfl, Try.func35, by kernel_rfl, rfl, xf_lsh_ok⟩
 ·exact ⟨9, _, _, rfl, Try.func36, by kernel_rfl, rfl, xf_rsh_ok⟩
 ·exact ⟨10, _, _, rfl, Try.func37, by kernel_rfl, rfl, xf_arsh_ok⟩
 ·exact ⟨11, _, _, rfl, Try.func38, by kernel_rfl, rfl, xf_neg_ok⟩
 ·exact ⟨12, _, _, rfl, Try.func39, by kernel_rfl, rfl, xf_mov_ok⟩
theorem xf_miss (op : Int) (h : xfIs op = false) : findI op xfEnt 0 = none := by
 have hh : ¬ op = 0 ∧ ¬ op = 16 ∧ ¬ op = 32 ∧ ¬ op = 48 ∧ ¬ op = 144 ∧ ¬ op = 80 ∧ ¬ op = 64 ∧ ¬ op = 160 ∧ ¬ op = 96 ∧ ¬ op = 112 ∧ ¬ op = 192 ∧ ¬ op = 128 ∧ ¬ op = 176 := by simpa [xfIs, and_assoc] using h
 simp [xfEnt, findI, hh]
theorem xf_find (op : Int) : Instr.findNow (.int .u8) (.int .u8 op) xfEs.toList 0 = some (findI op xfEnt 0) := findNow_ints .u8 op xfEnt 0
def xfer_Do.f (k : Nat) (a0 : Int) (a1 : Bool) (a2_0 a2_1 a2_2 a2_3 a2_4 a2_5 a3_0 a3_1 a3_2 a3_3 a3_4 a3_5 : Int) : Option (Int × Int × Int × Int × Int × Int × Bool) := if xfIs a0 = true then (num_IsConst.f a2_0 a2_1 a2_2 a2_3 a2_4 a2_5).bind fun x => (num_IsConst.f a3_0 a3_1 a3_2 a3_3 a3_4 a3_5).bind fun y => if (x.2 && y.2) = true then (alu_Do.f a0 a1 x.1 y.1).bind fun c => (num_Const.f c.1).bind fun n => some (n.1, n.2.1, n.2.2.1, n.2.2.2.1, n.2.2.2.2.1, n.2.2.2.2.2, true) else num_All.f.bind fun l => if a1 = true then (xfM a0 ⟨a2_0, a2_1, a2_2, a2_3, a2_4, a2_5, a3_0, a3_1, a3_2, a3_3, a3_4, a3_5, y.1, y.2, 64, l.1, l.2.1, l.2.2.1, l.2.2.2.1, l.2.2.2.2.1, l.2.2.2.2.2⟩).bind fun p => (num_Refine.f p.n0 p.n1 p.n2 p.n3 p.n4 p.n5).bind fun z => some (z.1, z.2.1, z.2.2.1, z.2.2.2.1, z.2.2.2.2.1, z.2.2.2.2.2.1, true) else (num_Cut.f k a2_0 a2_1 a2_2 a2_3 a2_4 a2_5 4).bind fun u => (num_Cut.f k a3_0 a3_1 a3_2 a3_3 a3_4 a3_5 4).bind fun v => (num_IsConst.f v.1 v.2.1 v.2.2.1 v.2.2.2.1 v.2.2.2.2.1 v.2.2.2.2.2).bind fun c => (xfM a0 ⟨u.1, u.2.1, u.2.2.1, u.2.2.2.1, u.2.2.2.2.1, u.2.2.2.2.2, v.1, v.2.1, v.2.2.1, v.2.2.2.1, v.2.2.2.2.1, v.2.2.2.2.2, c.1, c.2, 32, l.1, l.2.1, l.2.2.1, l.2.2.2.1, l.2.2.2.2.1, l.2.2.2.2.2⟩).bind fun p => (num_Refine.f p.n0 p.n1 p.n2 p.n3 p.n4 p.n5).bind fun z => (num_Cut.f k z.1 z.2.1 z.2.2.1 z.2.2.2.1 z.2.2.2.2.1 z.2.2.2.2.2.1 4).bind fun o => some (o.1, o.2.1, o.2.2.1, o.2.2.2.1, o.2.2.2.2.1, o.2.2.2.2.2, true) else num_All.f.bind fun l => some (l.1, l.2.1, l.2.2.1, l.2.2.2.1, l.2.2.2.2.1, l.2.2.2.2.2, false)
theorem xfer_Do.mono : ∀ z0 z1 z2 z3 z4 z5 z6 z7 z8 z9 z10 z11 z12 z13 k, LeO (xfer_Do.f k z0 z1 z2 z3 z4 z5 z6 z7 z8 z9 z10 z11 z12 z13) (xfer_Do.f (k + 1) z0 z1 z2 z3 z4 z5 z6 z7 z8 z9 z10 z11 z12 z13) := by
 intro z0 z1 z2 z3 z4 z5 z6 z7 z8 z9 z10 z11 z12 z13 k
 unfold xfer_Do.f
 exact LeO.ite (LeO.bind (LeO.refl _) (fun x => LeO.bind (LeO.refl _) (fun y => LeO.ite (LeO.refl _) (LeO.bind (LeO.refl _) (fun l => LeO.ite (LeO.refl _) (LeO.bind (num_Cut.mono _ _ _ _ _ _ _ _) (fun u => LeO.bind (num_Cut.mono _ _ _ _ _ _ _ _) (fun v => LeO.bind (LeO.refl _) (fun c => LeO.bind (LeO.refl _) (fun p => LeO.bind (LeO.refl _) (fun z => LeO.bind (num_Cut.mono _ _ _ _ _ _ _ _) (fun o => LeO.refl _)))))))))))) (LeO.refl _)
set_option maxHeartbeats 8000000 in
set_option maxRecDepth 100000 in
theorem xf_do_miss (k : Nat) (a0 : Int) (a1 : Bool) (a2_0 a2_1 a2_2 a2_3 a2_4 a2_5 a3_0 a3_1 a3_2 a3_3 a3_4 a3_5 : Int) (r1 r2 r3 r4 r5 r6 : Int) (r7 : Bool) (w : World) (hi : xfIs a0 = false) (h : (num_All.f.bind fun l => some (l.1, l.2.1, l.2.2.1, l.2.2.2.1, l.2.2.2.2.1, l.2.2.2.2.2, false)) = some (r1, r2, r3, r4, r5, r6, r7)) :
  Calls Try.prog 7 #[.int .u8 a0, .bool a1, .agg #[.int .u64 a2_0, .int .u64 a2_1, .int .u64 a2_2, .int .u64 a2_3, .int .i64 a2_4, .int .i64 a2_5], .agg #[.int .u64 a3_0, .int .u64 a3_1, .int .u64 a3_2, .int .u64 a3_3, .int .i64 a3_4, .int .i64 a3_5]] w fun e w' => e = .returned (.tuple #[.agg #[.int .u64 r1, .int .u64 r2, .int .u64 r3, .int .u64 r4, .int .i64 r5, .int .i64 r6], .bool r7]) ∧ Below w.heap.size w w' := by
 have HO := Aside0.mk (Own.refl w)
 have HF := Aside0.mk (xf_miss a0 hi)
 clear hi
 obtain ⟨⟨l0, l1, l2, l3, l4, l5⟩, h0, h_⟩ := Option.bind_eq_some_iff.mp h
 clear h
 have h := h_
 clear h_
 have HL : Aside0 (num_All.f = some (l0, l1, l2, l3, l4, l5)) := ⟨h0⟩
 clear h0
 dsimp only at h
 obtain ⟨rfl, rfl, rfl, rfl, rfl, rfl, rfl⟩ : l0 = r1 ∧ l1 = r2 ∧ l2 = r3 ∧ l3 = r4 ∧ l4 = r5 ∧ l5 = r6 ∧ false = r7 := by simpa using h
 clear h
 go_enter Try.func7, Try.ntmps7
 go_wp2_with (first | ((with_reducible refine gate_dst (N := 6) rfl ?_); refine own_box HO.out ?hg (N := 6) ?hd (cs := #[.int .u64 a2_0, .int .u64 a2_1, .int .u64 a2_2, .int .u64 a2_3, .int .i64 a2_4, .int .i64 a2_5]) (t := 26) ?hr ?_; (case hd => rfl); (case hg => rfl); (case hr => first | (go_simp; done) | (go_simp; rfl) | kernel_rfl); intro g6 w6 hO_; clear HO; have HO := Aside0.mk hO_; clear hO_) | ((with_reducible refine gate_dst (N := 7) rfl ?_); refine own_box HO.out ?hg (N := 7) ?hd (cs := #[.int .u64 a3_0, .int .u64 a3_1, .int .u64 a3_2, .int .u64 a3_3, .int .i64 a3_4, .int .i64 a3_5]) (t := 26) ?hr ?_; (case hd => rfl); (case hg => rfl); (case hr => first | (go_simp; done) | (go_simp; rfl) | kernel_rfl); intro g7 w7 hO_; clear HO; have HO := Aside0.mk hO_; clear hO_) | ((with_reducible refine gate_dst (N := 8) rfl ?_); refine own_box HO.out ?hg (N := 8) ?hd (cs := #[.int .u64 0, .int .u64 0, .int .u64 0, .int .u64 0, .int .i64 0, .int .i64 0]) (t := 26) ?hr ?_; (case hd => rfl); (case hg => rfl); (case hr => first | (go_simp; done) | (go_simp; rfl) | kernel_rfl); intro g8 w8 hO_; clear HO; have HO := Aside0.mk hO_; clear hO_) | ((with_reducible refine gate_callee (f := 14) rfl ?_); (with_reducible refine gate_dst (N := 22) rfl ?_); refine goesL_ (some 22) rfl rfl Try.func14 (by kernel_rfl) rfl #[] rfl (by (try simp only [List.map_toArray, List.map_cons, List.map_nil]); first | done | rfl) ?_; (with_reducible refine (xf_rows w _ _ HO.out).mono ?_); rintro e wx ⟨gm, rfl, hO_⟩; refine ⟨_, rfl, ?_⟩; clear HO; have HO := Aside0.mk hO_; clear hO_) | ((with_reducible refine gate_dst (N := 24) rfl ?_); refine own_lookup HO.out rfl (t := 41) (kv := .int .u8 a0) (z := .nilFunc) (v := .tuple #[.nilFunc, .bool false]) rfl Try.underlying41 Try.underlying5 (by rfl) (by rfl) rfl (by (repeat (first | exact .head | apply Ext.tail))) (by kernel_rfl) ((xf_find a0).trans (congrArg some HF.out)) rfl ?_) | ((with_reducible refine gate_callee (f := 15) rfl ?_); (with_reducible refine gate_dst (N := 29) rfl ?_); refine goesL_ (some 29) rfl rfl Try.func15 (by kernel_rfl) rfl #[] rfl (by (try simp only [List.map_toArray, List.map_cons, List.map_nil]); first | done | rfl) ?_; (with_reducible refine (num_All.calls l0 l1 l2 l3 l4 l5 _ HL.out).mono ?_); rintro e wx ⟨rfl, hb⟩; refine ⟨_, rfl, ?_⟩; have hO_ := HO.out.below hb; clear hb; clear HO; have HO := Aside0.mk hO_; clear hO_) | ((with_reducible refine gate_store (p := 8) rfl ?_); refine own_storeN HO.out rfl (ty := 26) (x := .tmp 8) (y := .tmp 29) (vs := #[.int .u64 l0, .int .u64 l1, .int .u64 l2, .int .u64 l3, .int .i64 l4, .int .i64 l5]) (cs' := #[.int .u64 l0, .int .u64 l1, .int .u64 l2, .int .u64 l3, .int .i64 l4, .int .i64 l5]) rfl (by rfl) (by rfl) (by (repeat (first | exact .head | apply Ext.tail))) (by kernel_rfl) (by kernel_rfl) (by first | decide | (simp; done)) (by rfl) ?_; intro wc hO_; clear HO; have HO := Aside0.mk hO_; clear hO_))
 refine bodyPost_ret (results_ct rfl _ _ g8 26 #[.int .u64 l0, .int .u64 l1, .int .u64 l2, .int .u64 l3, .int .i64 l4, .int .i64 l5] (0, 0) _ rfl (HO.out.get (by (repeat (first | exact .head | apply Ext.tail)))) Try.underlying26 rfl (by kernel_rfl)) rfl ?_
 exact ⟨rfl, HO.out.bel⟩
set_option maxHeartbeats 8000000 in
set_option maxRecDepth 100000 in
theorem xf_do_consts (k : Nat) (a0 : Int) (a1 : Bool) (a2_0 a2_1 a2_2 a2_3 a2_4 a2_5 a3_0 a3_1 a3_2 a3_3 a3_4 a3_5 : Int) (r1 r2 r3 r4 r5 r6 : Int) (r7 : Bool) (w : World) (xc yc : Int) (hi : xfIs a0 = true) (hx : num_IsConst.f a2_0 a2_1 a2_2 a2_3 a2_4 a2_5 = some (xc, true)) (hy : num_IsConst.f a3_0 a3_1 a3_2 a3_3 a3_4 a3_5 = some (yc, true)) (h : ((alu_Do.f a0 a1 xc yc).bind fun c => (num_Const.f c.1).bind fun n => some (n.1, n.2.1, n.2.2.1, n.2.2.2.1, n.2.2.2.2.1, n.2.2.2.2.2, true)) = some (r1, r2, r3, r4, r5, r6, r7)) :
  Calls Try.prog 7 #[.int .u8 a0, .bool a1, .agg #[.int .u64 a2_0, .int .u64 a2_1, .int .u64 a2_2, .int .u64 a2_3, .int .i64 a2_4, .int .i64 a2_5], .agg #[.int .u64 a3_0, .int .u64 a3_1, .int .u64 a3_2, .int .u64 a3_3, .int .i64 a3_4, .int .i64 a3_5]] w fun e w' => e = .returned (.tuple #[.agg #[.int .u64 r1, .int .u64 r2, .int .u64 r3, .int .u64 r4, .int .i64 r5, .int .i64 r6], .bool r7]) ∧ Below w.heap.size w w' := by
 have HO := Aside0.mk (Own.refl w)
 obtain ⟨ix, F, fnF, hf_, hF, hn, hb_, hm⟩ := xf_hit a0 hi
 have HF := Aside0.mk hf_
 have HM := Aside0.mk hm
 clear hi hf_ hm
 have HX := Aside0.mk hx
 have HY := Aside0.mk hy
 clear hx hy
 obtain ⟨⟨c1, c2⟩, h0, h_⟩ := Option.bind_eq_some_iff.mp h
 clear h
 have h := h_
 clear h_
 have HC : Aside0 (alu_Do.f a0 a1 xc yc = some (c1, c2)) := ⟨h0⟩
 clear h0
 dsimp only at h
 obtain ⟨⟨n0, n1, n2, n3, n4, n5⟩, h0, h_⟩ := Option.bind_eq_some_iff.mp h
 clear h
 have h := h_
 clear h_
 have HN : Aside0 (num_Const.f c1 = some (n0, n1, n2, n3, n4, n5)) := ⟨h0⟩
 clear h0
 dsimp only at h
 obtain ⟨rfl, rfl, rfl, rfl, rfl, rfl, rfl⟩ : n0 = r1 ∧ n1 = r2 ∧ n2 = r3 ∧ n3 = r4 ∧ n4 = r5 ∧ n5 = r6 ∧ true = r7 := by simpa using h
 clear h
 go_enter Try.func7, Try.ntmps7
 go_wp2_with (first | ((with_reducible refine gate_dst (N := 6) rfl ?_); refine own_box HO.out ?hg (N := 6) ?hd (cs := #[.int .u64 a2_0, .int .u64 a2_1, .int .u64 a2_2, .int .u64 a2_3, .int .i64 a2_4, .int .i64 a2_5]) (t := 26) ?hr ?_; (case hd => rfl); (case hg => rfl); (case hr => first | (go_simp; done) | (go_simp; rfl) | kernel_rfl); intro g6 w6 hO_; clear HO; have HO := Aside0.mk hO_; clear hO_) | ((with_reducible refine gate_dst (N := 7) rfl ?_); refine own_box HO.out ?hg (N := 7) ?hd (cs := #[.int .u64 a3_0, .int .u64 a3_1, .int .u64 a3_2, .int .u64 a3_3, .int .i64 a3_4, .int .i64 a3_5]) (t := 26) ?hr ?_; (case hd => rfl); (case hg => rfl); (case hr => first | (go_simp; done) | (go_simp; rfl) | kernel_rfl); intro g7 w7 hO_; clear HO; have HO := Aside0.mk hO_; clear hO_) | ((with_reducible refine gate_dst (N := 8) rfl ?_); refine own_box HO.out ?hg (N := 8) ?hd (cs := #[.int .u64 0, .int .u64 0, .int .u64 0, .int .u64 0, .int .i64 0, .int .i64 0]) (t := 26) ?hr ?_; (case hd => rfl); (case hg => rfl); (case hr => first | (go_simp; done) | (go_simp; rfl) | kernel_rfl); intro g8 w8 hO_; clear HO; have HO := Aside0.mk hO_; clear hO_) | ((with_reducible refine gate_callee (f := 14) rfl ?_); (with_reducible refine gate_dst (N := 22) rfl ?_); refine goesL_ (some 22) rfl rfl Try.func14 (by kernel_rfl) rfl #[] rfl (by (try simp only [List.map_toArray, List.map_cons, List.map_nil]); first | done | rfl) ?_; (with_reducible refine (xf_rows w _ _ HO.out).mono ?_); rintro e wx ⟨gm, rfl, hO_⟩; refine ⟨_, rfl, ?_⟩; clear HO; have HO := Aside0.mk hO_; clear hO_) | ((with_reducible refine gate_dst (N := 24) rfl ?_); refine own_lookup HO.out rfl (t := 41) (kv := .int .u8 a0) (z := .nilFunc) (v := .tuple #[.func (.func F) #[] #[], .bool true]) rfl Try.underlying41 Try.underlying5 (by rfl) (by rfl) rfl (by (repeat (first | exact .head | apply Ext.tail))) (by kernel_rfl) ((xf_find a0).trans (congrArg some HF.out)) rfl ?_) | ((with_reducible refine gate_dst (N := 31) rfl ?_); refine own_loadN HO.out rfl (x := .tmp 6) rfl (by rfl) (by (repeat (first | exact .head | apply Ext.tail))) (vs := [.int .u64 a2_0, .int .u64 a2_1, .int .u64 a2_2, .int .u64 a2_3, .int .i64 a2_4, .int .i64 a2_5]) (by rfl) Try.underlying26 (by rfl) (by kernel_rfl) (va := #[.int .u64 a2_0, .int .u64 a2_1, .int .u64 a2_2, .int .u64 a2_3, .int .i64 a2_4, .int .i64 a2_5]) rfl ?_) | ((with_reducible refine gate_callee (f := 16) rfl ?_); (with_reducible refine gate_dst (N := 32) rfl ?_); refine goesL_ (some 32) rfl rfl Try.func16 (by kernel_rfl) rfl #[.agg #[.int .u64 a2_0, .int .u64 a2_1, .int .u64 a2_2, .int .u64 a2_3, .int .i64 a2_4, .int .i64 a2_5]] rfl (by (try simp only [List.map_toArray, List.map_cons, List.map_nil]); first | done | rfl) ?_; (with_reducible refine (num_IsConst.calls a2_0 a2_1 a2_2 a2_3 a2_4 a2_5 xc _ _ HX.out).mono ?_); rintro e wx ⟨rfl, hb⟩; refine ⟨_, rfl, ?_⟩; have hO_ := HO.out.below hb; clear hb; clear HO; have HO := Aside0.mk hO_; clear hO_) | ((with_reducible refine gate_dst (N := 36) rfl ?_); refine own_loadN HO.out rfl (x := .tmp 7) rfl (by rfl) (by (repeat (first | exact .head | apply Ext.tail))) (vs := [.int .u64 a3_0, .int .u64 a3_1, .int .u64 a3_2, .int .u64 a3_3, .int .i64 a3_4, .int .i64 a3_5]) (by rfl) Try.underlying26 (by rfl) (by kernel_rfl) (va := #[.int .u64 a3_0, .int .u64 a3_1, .int .u64 a3_2, .int .u64 a3_3, .int .i64 a3_4, .int .i64 a3_5]) rfl ?_) | ((with_reducible refine gate_callee (f := 16) rfl ?_); (with_reducible refine gate_dst (N := 37) rfl ?_); refine goesL_ (some 37) rfl rfl Try.func16 (by kernel_rfl) rfl #[.agg #[.int .u64 a3_0, .int .u64 a3_1, .int .u64 a3_2, .int .u64 a3_3, .int .i64 a3_4, .int .i64 a3_5]] rfl (by (try simp only [List.map_toArray, List.map_cons, List.map_nil]); first | done | rfl) ?_; (with_reducible refine (num_IsConst.calls a3_0 a3_1 a3_2 a3_3 a3_4 a3_5 yc _ _ HY.out).mono ?_); rintro e wx ⟨rfl, hb⟩; refine ⟨_, rfl, ?_⟩; have hO_ := HO.out.below hb; clear hb; clear HO; have HO := Aside0.mk hO_; clear hO_) | ((with_reducible refine gate_callee (f := 17) rfl ?_); (with_reducible refine gate_dst (N := 49) rfl ?_); refine goesL_ (some 49) rfl rfl Try.func17 (by kernel_rfl) rfl #[.int .u8 a0, .bool a1, .int .u64 xc, .int .u64 yc] rfl (by (try simp only [List.map_toArray, List.map_cons, List.map_nil]); first | done | rfl) ?_; (with_reducible refine (alu_Do.calls a0 a1 xc yc c1 c2 _ HC.out).mono ?_); rintro e wx ⟨rfl, hb⟩; refine ⟨_, rfl, ?_⟩; have hO_ := HO.out.below hb; clear hb; clear HO; have HO := Aside0.mk hO_; clear hO_) | ((with_reducible refine gate_callee (f := 18) rfl ?_); (with_reducible refine gate_dst (N := 53) rfl ?_); refine goesL_ (some 53) rfl rfl Try.func18 (by kernel_rfl) rfl #[.int .u64 c1] rfl (by (try simp only [List.map_toArray, List.map_cons, List.map_nil]); first | done | rfl) ?_; (with_reducible refine (num_Const.calls c1 n0 n1 n2 n3 n4 n5 _ HN.out).mono ?_); rintro e wx ⟨rfl, hb⟩; refine ⟨_, rfl, ?_⟩; have hO_ := HO.out.below hb; clear hb; clear HO; have HO := Aside0.mk hO_; clear hO_) | ((with_reducible refine gate_store (p := 8) rfl ?_); refine own_storeN HO.out rfl (ty := 26) (x := .tmp 8) (y := .tmp 53) (vs := #[.int .u64 n0, .int .u64 n1, .int .u64 n2, .int .u64 n3, .int .i64 n4, .int .i64 n5]) (cs' := #[.int .u64 n0, .int .u64 n1, .int .u64 n2, .int .u64 n3, .int .i64 n4, .int .i64 n5]) rfl (by rfl) (by rfl) (by (repeat (first | exact .head | apply Ext.tail))) (by kernel_rfl) (by kernel_rfl) (by first | decide | (simp; done)) (by rfl) ?_; intro wc hO_; clear HO; have HO := Aside0.mk hO_; clear hO_))
 refine bodyPost_ret (results_ct rfl _ _ g8 26 #[.int .u64 n0, .int .u64 n1, .int .u64 n2, .int .u64 n3, .int .i64 n4, .int .i64 n5] (0, 0) _ rfl (HO.out.get (by (repeat (first | exact .head | apply Ext.tail)))) Try.underlying26 rfl (by kernel_rfl)) rfl ?_
 exact ⟨rfl, HO.out.bel⟩
set_option maxHeartbeats 8000000 in
set_option maxRecDepth 100000 in
theorem xf_do_wide (k : Nat) (a0 : Int) (a2_0 a2_1 a2_2 a2_3 a2_4 a2_5 a3_0 a3_1 a3_2 a3_3 a3_4 a3_5 : Int) (r1 r2 r3 r4 r5 r6 : Int) (r7 : Bool) (w : World) (xc yc : Int) (xb yb : Bool) (l0 l1 l2 l3 l4 l5 : Int) (hi : xfIs a0 = true) (hx : num_IsConst.f a2_0 a2_1 a2_2 a2_3 a2_4 a2_5 = some (xc, xb)) (hy : num_IsConst.f a3_0 a3_1 a3_2 a3_3 a3_4 a3_5 = some (yc, yb)) (hxy : (xb && yb) = false) (hl : num_All.f = some (l0, l1, l2, l3, l4, l5)) (h : ((xfM a0 ⟨a2_0, a2_1, a2_2, a2_3, a2_4, a2_5, a3_0, a3_1, a3_2, a3_3, a3_4, a3_5, yc, yb, 64, l0, l1, l2, l3, l4, l5⟩).bind fun p => (num_Refine.f p.n0 p.n1 p.n2 p.n3 p.n4 p.n5).bind fun z => some (z.1, z.2.1, z.2.2.1, z.2.2.2.1, z.2.2.2.2.1, z.2.2.2.2.2.1, true)) = some (r1, r2, r3, r4, r5, r6, r7)) :
  Calls Try.prog 7 #[.int .u8 a0, .bool true, .agg #[.int .u64 a2_0, .int .u64 a2_1, .int .u64 a2_2, .int .u64 a2_3, .int .i64 a2_4, .int .i64 a2_5], .agg #[.int .u64 a3_0, .int .u64 a3_1, .int .u64 a3_2, .int .u64 a3_3, .int .i64 a3_4, .int .i64 a3_5]] w fun e w' => e = .returned (.tuple #[.agg #[.int .u64 r1, .int .u64 r2, .int .u64 r3, .int .u64 r4, .int .i64 r5, .int .i64 r6], .bool r7]) ∧ Below w.heap.size w w' := by
 have HO := Aside0.mk (Own.refl w)
 obtain ⟨ix, F, fnF, hf_, hF, hn, hb_, hm⟩ := xf_hit a0 hi
 have HF := Aside0.mk hf_
 have HM := Aside0.mk hm
 clear hi hf_ hm
 have HX := Aside0.mk hx
 have HY := Aside0.mk hy
 clear hx hy
 have HL : Aside0 (num_All.f = some (l0, l1, l2, l3, l4, l5)) := ⟨hl⟩
 clear hl
 obtain ⟨⟨x0, x1, x2, x3, x4, x5, y0, y1, y2, y3, y4, y5, qc, qb, qt, n0, n1, n2, n3, n4, n5⟩, h0, h_⟩ := Option.bind_eq_some_iff.mp h
 clear h
 have h := h_
 clear h_
 have HQ : Aside0 (xfM a0 ⟨a2_0, a2_1, a2_2, a2_3, a2_4, a2_5, a3_0, a3_1, a3_2, a3_3, a3_4, a3_5, yc, yb, 64, l0, l1, l2, l3, l4, l5⟩ = some ⟨x0, x1, x2, x3, x4, x5, y0, y1, y2, y3, y4, y5, qc, qb, qt, n0, n1, n2, n3, n4, n5⟩) := ⟨h0⟩
 clear h0
 dsimp only at h
 obtain ⟨⟨z0, z1, z2, z3, z4, z5, zb⟩, h0, h_⟩ := Option.bind_eq_some_iff.mp h
 clear h
 have h := h_
 clear h_
 have HZ : Aside0 (num_Refine.f n0 n1 n2 n3 n4 n5 = some (z0, z1, z2, z3, z4, z5, zb)) := ⟨h0⟩
 clear h0
 dsimp only at h
 obtain ⟨rfl, rfl, rfl, rfl, rfl, rfl, rfl⟩ : z0 = r1 ∧ z1 = r2 ∧ z2 = r3 ∧ z3 = r4 ∧ z4 = r5 ∧ z5 = r6 ∧ true = r7 := by simpa using h
 clear h
 cases xb with
 | false =>
  go_enter Try.func7, Try.ntmps7
  go_wp2_with (first | ((with_reducible refine gate_dst (N := 6) rfl ?_); refine own_box HO.out ?hg (N := 6) ?hd (cs := #[.int .u64 a2_0, .int .u64 a2_1, .int .u64 a2_2, .int .u64 a2_3, .int .i64 a2_4, .int .i64 a2_5]) (t := 26) ?hr ?_; (case hd => rfl); (case hg => rfl); (case hr => first | (go_simp; done) | (go_simp; rfl) | kernel_rfl); intro g6 w6 hO_; clear HO; have HO := Aside0.mk hO_; clear hO_) | ((with_reducible refine gate_dst (N := 7) rfl ?_); refine own_box HO.out ?hg (N := 7) ?hd (cs := #[.int .u64 a3_0, .int .u64 a3_1, .int .u64 a3_2, .int .u64 a3_3, .int .i64 a3_4, .int .i64 a3_5]) (t := 26) ?hr ?_; (case hd => rfl); (case hg => rfl); (case hr => first | (go_simp; done) | (go_simp; rfl) | kernel_rfl); intro g7 w7 hO_; clear HO; have HO := Aside0.mk hO_; clear hO_) | ((with_reducible refine gate_dst (N := 8) rfl ?_); refine own_box HO.out ?hg (N := 8) ?hd (cs := #[.int .u64 0, .int .u64 0, .int .u64 0, .int .u64 0, .int .i64 0, .int .i64 0]) (t := 26) ?hr ?_; (case hd => rfl); (case hg => rfl); (case hr => first | (go_simp; done) | (go_simp; rfl) | kernel_rfl); intro g8 w8 hO_; clear HO; have HO := Aside0.mk hO_; clear hO_) | ((with_reducible refine gate_callee (f := 14) rfl ?_); (with_reducible refine gate_dst (N := 22) rfl ?_); refine goesL_ (some 22) rfl rfl Try.func14 (by kernel_rfl) rfl #[] rfl (by (try simp only [List.map_toArray, List.map_cons, List.map_nil]); first | done | rfl) ?_; (with_reducible refine (xf_rows w _ _ HO.out).mono ?_); rintro e wx ⟨gm, rfl, hO_⟩; refine ⟨_, rfl, ?_⟩; clear HO; have HO := Aside0.mk hO_; clear hO_) | ((with_reducible refine gate_dst (N := 24) rfl ?_); refine own_lookup HO.out rfl (t := 41) (kv := .int .u8 a0) (z := .nilFunc) (v := .tuple #[.func (.func F) #[] #[], .bool true]) rfl Try.underlying41 Try.underlying5 (by rfl) (by rfl) rfl (by (repeat (first | exact .head | apply Ext.tail))) (by kernel_rfl) ((xf_find a0).trans (congrArg some HF.out)) rfl ?_) | ((with_reducible refine gate_dst (N := 31) rfl ?_); refine own_loadN HO.out rfl (x := .tmp 6) rfl (by rfl) (by (repeat (first | exact .head | apply Ext.tail))) (vs := [.int .u64 a2_0, .int .u64 a2_1, .int .u64 a2_2, .int .u64 a2_3, .int .i64 a2_4, .int .i64 a2_5]) (by rfl) Try.underlying26 (by rfl) (by kernel_rfl) (va := #[.int .u64 a2_0, .int .u64 a2_1, .int .u64 a2_2, .int .u64 a2_3, .int .i64 a2_4, .int .i64 a2_5]) rfl ?_) | ((with_reducible refine gate_callee (f := 16) rfl ?_); (with_reducible refine gate_dst (N := 32) rfl ?_); refine goesL_ (some 32) rfl rfl Try.func16 (by kernel_rfl) rfl #[.agg #[.int .u64 a2_0, .int .u64 a2_1, .int .u64 a2_2, .int .u64 a2_3, .int .i64 a2_4, .int .i64 a2_5]] rfl (by (try simp only [List.map_toArray, List.map_cons, List.map_nil]); first | done | rfl) ?_; (with_reducible refine (num_IsConst.calls a2_0 a2_1 a2_2 a2_3 a2_4 a2_5 xc _ _ HX.out).mono ?_); rintro e wx ⟨rfl, hb⟩; refine ⟨_, rfl, ?_⟩; have hO_ := HO.out.below hb; clear hb; clear HO; have HO := Aside0.mk hO_; clear hO_) | ((with_reducible refine gate_dst (N := 36) rfl ?_); refine own_loadN HO.out rfl (x := .tmp 7) rfl (by rfl) (by (repeat (first | exact .head | apply Ext.tail))) (vs := [.int .u64 a3_0, .int .u64 a3_1, .int .u64 a3_2, .int .u64 a3_3, .int .i64 a3_4, .int .i64 a3_5]) (by rfl) Try.underlying26 (by rfl) (by kernel_rfl) (va := #[.int .u64 a3_0, .int .u64 a3_1, .int .u64 a3_2, .int .u64 a3_3, .int .i64 a3_4, .int .i64 a3_5]) rfl ?_) | ((with_reducible refine gate_callee (f := 16) rfl ?_); (with_reducible refine gate_dst (N := 37) rfl ?_); refine goesL_ (some 37) rfl rfl Try.func16 (by kernel_rfl) rfl #[.agg #[.int .u64 a3_0, .int .u64 a3_1, .int .u64 a3_2, .int .u64 a3_3, .int .i64 a3_4, .int .i64 a3_5]] rfl (by (try simp only [List.map_toArray, List.map_cons, List.map_nil]); first | done | rfl) ?_; (with_reducible refine (num_IsConst.calls a3_0 a3_1 a3_2 a3_3 a3_4 a3_5 yc _ _ HY.out).mono ?_); rintro e wx ⟨rfl, hb⟩; refine ⟨_, rfl, ?_⟩; have hO_ := HO.out.below hb; clear hb; clear HO; have HO := Aside0.mk hO_; clear hO_))
  refine start_ (n := 8) (S := fun W => Own w W ((g6, .cells #[.int .u64 a2_0, .int .u64 a2_1, .int .u64 a2_2, .int .u64 a2_3, .int .i64 a2_4, .int .i64 a2_5] 26 (0, 0)) :: (g7, .cells #[.int .u64 a3_0, .int .u64 a3_1, .int .u64 a3_2, .int .u64 a3_3, .int .i64 a3_4, .int .i64 a3_5] 26 (0, 0)) :: [])) (ds := []) #[false, false, false, false, false, false, false, false] (by kernel_rfl) rfl rfl (Own.drew (HO.out.picks (.cons (by (repeat (first | exact .head | apply Ext.tail))) (.cons (by (repeat (first | exact .head | apply Ext.tail))) (.nil))))) (fun hHeld => ?_)
  have HO_ := Aside0.mk HO.out.drew
  clear HO
  have HO := HO_
  clear HO_
  generalize World.drew _ = wr at HO hHeld ⊢
  refine take_ (i := 0) (N := some 54) (v := .agg #[.int .u64 a2_0, .int .u64 a2_1, .int .u64 a2_2, .int .u64 a2_3, .int .i64 a2_4, .int .i64 a2_5]) (a' := ?_) (Hp.up 8 1) rfl rfl (by kernel_rfl) (fun _ _ _ h => h) (own_yieldN (by rfl) (x := .tmp 6) rfl (by rfl) (.head) (vs := [.int .u64 a2_0, .int .u64 a2_1, .int .u64 a2_2, .int .u64 a2_3, .int .i64 a2_4, .int .i64 a2_5]) (by rfl) Try.underlying26 (by rfl) (by kernel_rfl) rfl) hHeld ?_ ?_
  rotate_left
  ·simp only [Act.put, List.setIfInBounds_toArray, List.set_cons_zero, List.set_cons_succ, i64_w, i32_w]
   rfl
  refine take_ (i := 1) (N := some 55) (v := .agg #[.int .u64 a3_0, .int .u64 a3_1, .int .u64 a3_2, .int .u64 a3_3, .int .i64 a3_4, .int .i64 a3_5]) (a' := ?_) (Hp.up 8 2) rfl rfl (by kernel_rfl) (fun _ _ _ h => h) (own_yieldN (by rfl) (x := .tmp 7) rfl (by rfl) (.tail (.head)) (vs := [.int .u64 a3_0, .int .u64 a3_1, .int .u64 a3_2, .int .u64 a3_3, .int .i64 a3_4, .int .i64 a3_5]) (by rfl) Try.underlying26 (by rfl) (by kernel_rfl) rfl) hHeld ?_ ?_
  rotate_left
  ·simp only [Act.put, List.setIfInBounds_toArray, List.set_cons_zero, List.set_cons_succ, i64_w, i32_w]
   rfl
  refine Hp.pu_ 2 56 (Hp.up 8 3) ?_
  refine Hp.pu_ 3 57 (Hp.up 8 4) ?_
  refine one_ (i := 4) (N := some 58) (Hp.up 8 5) rfl rfl (by kernel_rfl) (by decide) (fun K hK => ?_)
  refine goes_ Try.func15 (by kernel_rfl) rfl #[] (by rfl) rfl rfl (by (try simp only [List.map_toArray, List.map_cons, List.map_nil]); first | done | rfl) ?_
  refine (num_All.calls l0 l1 l2 l3 l4 l5 _ HL.out).mono ?_
  rintro e wx ⟨rfl, hb⟩
  refine ⟨_, rfl, ?_⟩
  have hO_ := HO.out.below hb
  clear hb
  clear HO; have HO := Aside0.mk hO_; clear hO_
  refine hK.out _ _ (HO.out.picks (.cons (by (repeat (first | exact .head | apply Ext.tail))) (.cons (by (repeat (first | exact .head | apply Ext.tail))) (.nil)))) (fun hHeld => ?_)
  clear hK K
  refine norm_ (a' := ?_) ?_ ?_
  rotate_left
  ·show Act.put _ (some 58) _ = _
   simp only [Act.put, List.setIfInBounds_toArray, List.set_cons_zero, List.set_cons_succ, i64_w, i32_w]
   rfl
  refine Hp.pu_ 5 59 (Hp.up 8 6) ?_
  refine one_ (i := 6) (N := some 60) (Hp.up 8 7) rfl rfl (by kernel_rfl) (by decide) (fun K hK => ?_)
  refine own_box_k HO.out (by rfl) (N := 60) rfl (cs := #[.int .u64 a2_0, .int .u64 a2_1, .int .u64 a2_2, .int .u64 a2_3, .int .i64 a2_4, .int .i64 a2_5, .int .u64 a3_0, .int .u64 a3_1, .int .u64 a3_2, .int .u64 a3_3, .int .i64 a3_4, .int .i64 a3_5, .int .u64 yc, .bool yb, .int .u64 64, .int .u64 l0, .int .u64 l1, .int .u64 l2, .int .u64 l3, .int .i64 l4, .int .i64 l5]) (t := 46) (by first | (go_simp; done) | (go_simp; rfl) | kernel_rfl) ?_
  intro g60 w60 hO_
  clear HO; have HO := Aside0.mk hO_; clear hO_
  refine hK.out _ _ (HO.out.picks (.cons (by (repeat (first | exact .head | apply Ext.tail))) (.cons (by (repeat (first | exact .head | apply Ext.tail))) (.nil)))) (fun hHeld => ?_)
  clear hK K
  refine norm_ (a' := ?_) ?_ ?_
  rotate_left
  ·show Act.put _ (some 60) _ = _
   simp only [Act.put, List.setIfInBounds_toArray, List.set_cons_zero, List.set_cons_succ, i64_w, i32_w]
   rfl
  refine Hp.pu_ 7 18 (Hp.up 8 8) ?_
  refine done_ (by kernel_rfl) ?_
  clear hHeld
  go_wp2_with (first | ((with_reducible refine gate_dst (N := 92) rfl ?_); refine goesV_ (some 92) rfl rfl hF hn hb_ #[.pointer (some ⟨g60, 0, none⟩)] (p := 90) rfl (by rfl) (by (try simp only [List.map_toArray, List.map_cons, List.map_nil]); first | done | rfl) ?_; (have e_ : Own w _ ((g60, .cells #[.int .u64 a2_0, .int .u64 a2_1, .int .u64 a2_2, .int .u64 a2_3, .int .i64 a2_4, .int .i64 a2_5, .int .u64 a3_0, .int .u64 a3_1, .int .u64 a3_2, .int .u64 a3_3, .int .i64 a3_4, .int .i64 a3_5, .int .u64 yc, .bool yb, .int .u64 64, .int .u64 l0, .int .u64 l1, .int .u64 l2, .int .u64 l3, .int .i64 l4, .int .i64 l5] 46 (0, 0)) :: (g8, .cells #[.int .u64 0, .int .u64 0, .int .u64 0, .int .u64 0, .int .i64 0, .int .i64 0] 26 (0, 0)) :: []) := HO.out.picks (.cons (by (repeat (first | exact .head | apply Ext.tail))) (.cons (by (repeat (first | exact .head | apply Ext.tail))) (.nil)))); refine (XfOk.go HM.out _ _ g60 _ _ _ HQ.out e_).mono ?_; rintro e wx ⟨rfl, hO_⟩; refine ⟨_, rfl, ?_⟩; (have hO_ : Own w wx ((g60, .cells #[.int .u64 x0, .int .u64 x1, .int .u64 x2, .int .u64 x3, .int .i64 x4, .int .i64 x5, .int .u64 y0, .int .u64 y1, .int .u64 y2, .int .u64 y3, .int .i64 y4, .int .i64 y5, .int .u64 qc, .bool qb, .int .u64 qt, .int .u64 n0, .int .u64 n1, .int .u64 n2, .int .u64 n3, .int .i64 n4, .int .i64 n5] 46 (0, 0)) :: _) := hO_); clear e_; clear HO; have HO := Aside0.mk hO_; clear hO_) | ((with_reducible refine gate_dst (N := 97) rfl ?_); refine own_loadN HO.out rfl (x := .tmp 96) rfl (by rfl) (by (repeat (first | exact .head | apply Ext.tail))) (vs := [.int .u64 n0, .int .u64 n1, .int .u64 n2, .int .u64 n3, .int .i64 n4, .int .i64 n5]) (by rfl) Try.underlying26 (by rfl) (by kernel_rfl) (va := #[.int .u64 n0, .int .u64 n1, .int .u64 n2, .int .u64 n3, .int .i64 n4, .int .i64 n5]) rfl ?_) | ((with_reducible refine gate_callee (f := 20) rfl ?_); (with_reducible refine gate_dst (N := 98) rfl ?_); refine goesL_ (some 98) rfl rfl Try.func20 (by kernel_rfl) rfl #[.agg #[.int .u64 n0, .int .u64 n1, .int .u64 n2, .int .u64 n3, .int .i64 n4, .int .i64 n5]] rfl (by (try simp only [List.map_toArray, List.map_cons, List.map_nil]); first | done | rfl) ?_; (with_reducible refine (num_Refine.calls n0 n1 n2 n3 n4 n5 z0 z1 z2 z3 z4 z5 zb _ HZ.out).mono ?_); rintro e wx ⟨rfl, hb⟩; refine ⟨_, rfl, ?_⟩; have hO_ := HO.out.below hb; clear hb; clear HO; have HO := Aside0.mk hO_; clear hO_) | ((with_reducible refine gate_dst (N := 19) rfl ?_); refine own_box HO.out ?hg (N := 19) ?hd (cs := #[.int .u64 0, .int .u64 0, .int .u64 0, .int .u64 0, .int .i64 0, .int .i64 0]) (t := 26) ?hr ?_; (case hd => rfl); (case hg => rfl); (case hr => first | (go_simp; done) | (go_simp; rfl) | kernel_rfl); intro g19 w19 hO_; clear HO; have HO := Aside0.mk hO_; clear hO_) | ((with_reducible refine gate_store (p := 19) rfl ?_); refine own_storeN HO.out rfl (ty := 26) (x := .tmp 19) (y := .tmp 99) (vs := #[.int .u64 z0, .int .u64 z1, .int .u64 z2, .int .u64 z3, .int .i64 z4, .int .i64 z5]) (cs' := #[.int .u64 z0, .int .u64 z1, .int .u64 z2, .int .u64 z3, .int .i64 z4, .int .i64 z5]) rfl (by rfl) (by rfl) (by (repeat (first | exact .head | apply Ext.tail))) (by kernel_rfl) (by kernel_rfl) (by first | decide | (simp; done)) (by rfl) ?_; intro wc hO_; clear HO; have HO := Aside0.mk hO_; clear hO_) | ((with_reducible refine gate_dst (N := 105) rfl ?_); refine own_loadN HO.out rfl (x := .tmp 19) rfl (by rfl) (by (repeat (first | exact .head | apply Ext.tail))) (vs := [.int .u64 z0, .int .u64 z1, .int .u64 z2, .int .u64 z3, .int .i64 z4, .int .i64 z5]) (by rfl) Try.underlying26 (by rfl) (by kernel_rfl) (va := #[.int .u64 z0, .int .u64 z1, .int .u64 z2, .int .u64 z3, .int .i64 z4, .int .i64 z5]) rfl ?_) | ((with_reducible refine gate_store (p := 8) rfl ?_); refine own_storeN HO.out rfl (ty := 26) (x := .tmp 8) (y := .tmp 105) (vs := #[.int .u64 z0, .int .u64 z1, .int .u64 z2, .int .u64 z3, .int .i64 z4, .int .i64 z5]) (cs' := #[.int .u64 z0, .int .u64 z1, .int .u64 z2, .int .u64 z3, .int .i64 z4, .int .i64 z5]) rfl (by rfl) (by rfl) (by (repeat (first | exact .head | apply Ext.tail))) (by kernel_rfl) (by kernel_rfl) (by first | decide | (simp; done)) (by rfl) ?_; intro wc hO_; clear HO; have HO := Aside0.mk hO_; clear hO_))
  refine bodyPost_ret (results_ct rfl _ _ g8 26 #[.int .u64 z0, .int .u64 z1, .int .u64 z2, .int .u64 z3, .int .i64 z4, .int .i64 z5] (0, 0) _ rfl (HO.out.get (by (repeat (first | exact .head | apply Ext.tail)))) Try.underlying26 rfl (by kernel_rfl)) rfl ?_
  exact ⟨rfl, HO.out.bel⟩
 | true =>
  obtain rfl : yb = false := by simpa using hxy
  go_enter Try.func7, Try.ntmps7
  go_wp2_with (first | ((with_reducible refine gate_dst (N := 6) rfl ?_); refine own_box HO.out ?hg (N := 6) ?hd (cs := #[.int .u64 a2_0, .int .u64 a2_1, .int .u64 a2_2, .int .u64 a2_3, .int .i64 a2_4, .int .i64 a2_5]) (t := 26) ?hr ?_; (case hd => rfl); (case hg => rfl); (case hr => first | (go_simp; done) | (go_simp; rfl) | kernel_rfl); intro g6 w6 hO_; clear HO; have HO := Aside0.mk hO_; clear hO_) | ((with_reducible refine gate_dst (N := 7) rfl ?_); refine own_box HO.out ?hg (N := 7) ?hd (cs := #[.int .u64 a3_0, .int .u64 a3_1, .int .u64 a3_2, .int .u64 a3_3, .int .i64 a3_4, .int .i64 a3_5]) (t := 26) ?hr ?_; (case hd => rfl); (case hg => rfl); (case hr => first | (go_simp; done) | (go_simp; rfl) | kernel_rfl); intro g7 w7 hO_; clear HO; have HO := Aside0.mk hO_; clear hO_) | ((with_reducible refine gate_dst (N := 8) rfl ?_); refine own_box HO.out ?hg (N := 8) ?hd (cs := #[.int .u64 0, .int .u64 0, .int .u64 0, .int .u64 0, .int .i64 0, .int .i64 0]) (t := 26) ?hr ?_; (case hd => rfl); (case hg => rfl); (case hr => first | (go_simp; done) | (go_simp; rfl) | kernel_rfl); intro g8 w8 hO_; clear HO; have HO := Aside0.mk hO_; clear hO_) | ((with_reducible refine gate_callee (f := 14) rfl ?_); (with_reducible refine gate_dst (N := 22) rfl ?_); refine goesL_ (some 22) rfl rfl Try.func14 (by kernel_rfl) rfl #[] rfl (by (try simp only [List.map_toArray, List.map_cons, List.map_nil]); first | done | rfl) ?_; (with_reducible refine (xf_rows w _ _ HO.out).mono ?_); rintro e wx ⟨gm, rfl, hO_⟩; refine ⟨_, rfl, ?_⟩; clear HO; have HO := Aside0.mk hO_; clear hO_) | ((with_reducible refine gate_dst (N := 24) rfl ?_); refine own_lookup HO.out rfl (t := 41) (kv := .int .u8 a0) (z := .nilFunc) (v := .tuple #[.func (.func F) #[] #[], .bool true]) rfl Try.underlying41 Try.underlying5 (by rfl) (by rfl) rfl (by (repeat (first | exact .head | apply Ext.tail))) (by kernel_rfl) ((xf_find a0).trans (congrArg some HF.out)) rfl ?_) | ((with_reducible refine gate_dst (N := 31) rfl ?_); refine own_loadN HO.out rfl (x := .tmp 6) rfl (by rfl) (by (repeat (first | exact .head | apply Ext.tail))) (vs := [.int .u64 a2_0, .int .u64 a2_1, .int .u64 a2_2, .int .u64 a2_3, .int .i64 a2_4, .int .i64 a2_5]) (by rfl) Try.underlying26 (by rfl) (by kernel_rfl) (va := #[.int .u64 a2_0, .int .u64 a2_1, .int .u64 a2_2, .int .u64 a2_3, .int .i64 a2_4, .int .i64 a2_5]) rfl ?_) | ((with_reducible refine gate_callee (f := 16) rfl ?_); (with_reducible refine gate_dst (N := 32) rfl ?_); refine goesL_ (some 32) rfl rfl Try.func16 (by kernel_rfl) rfl #[.agg #[.int .u64 a2_0, .int .u64 a2_1, .int .u64 a2_2, .int .u64 a2_3, .int .i64 a2_4, .int .i64 a2_5]] rfl (by (try simp only [List.map_toArray, List.map_cons, List.map_nil]); first | done | rfl) ?_; (with_reducible refine (num_IsConst.calls a2_0 a2_1 a2_2 a2_3 a2_4 a2_5 xc _ _ HX.out).mono ?_); rintro e wx ⟨rfl, hb⟩; refine ⟨_, rfl, ?_⟩; have hO_ := HO.out.below hb; clear hb; clear HO; have HO := Aside0.mk hO_; clear hO_) | ((with_reducible refine gate_dst (N := 36) rfl ?_); refine own_loadN HO.out rfl (x := .tmp 7) rfl (by rfl) (by (repeat (first | exact .head | apply Ext.tail))) (vs := [.int .u64 a3_0, .int .u64 a3_1, .int .u64 a3_2, .int .u64 a3_3, .int .i64 a3_4, .int .i64 a3_5]) (by rfl) Try.underlying26 (by rfl) (by kernel_rfl) (va := #[.int .u64 a3_0, .int .u64 a3_1, .int .u64 a3_2, .int .u64 a3_3, .int .i64 a3_4, .int .i64 a3_5]) rfl ?_) | ((with_reducible refine gate_callee (f := 16) rfl ?_); (with_reducible refine gate_dst (N := 37) rfl ?_); refine goesL_ (some 37) rfl rfl Try.func16 (by kernel_rfl) rfl #[.agg #[.int .u64 a3_0, .int .u64 a3_1, .int .u64 a3_2, .int .u64 a3_3, .int .i64 a3_4, .int .i64 a3_5]] rfl (by (try simp only [List.map_toArray, List.map_cons, List.map_nil]); first | done | rfl) ?_; (with_reducible refine (num_IsConst.calls a3_0 a3_1 a3_2 a3_3 a3_4 a3_5 yc _ _ HY.out).mono ?_); rintro e wx ⟨rfl, hb⟩; refine ⟨_, rfl, ?_⟩; have hO_ := HO.out.below hb; clear hb; clear HO; have HO := Aside0.mk hO_; clear hO_))
  refine start_ (n := 8) (S := fun W => Own w W ((g6, .cells #[.int .u64 a2_0, .int .u64 a2_1, .int .u64 a2_2, .int .u64 a2_3, .int .i64 a2_4, .int .i64 a2_5] 26 (0, 0)) :: (g7, .cells #[.int .u64 a3_0, .int .u64 a3_1, .int .u64 a3_2, .int .u64 a3_3, .int .i64 a3_4, .int .i64 a3_5] 26 (0, 0)) :: [])) (ds := []) #[false, false, false, false, false, false, false, false] (by kernel_rfl) rfl rfl (Own.drew (HO.out.picks (.cons (by (repeat (first | exact .head | apply Ext.tail))) (.cons (by (repeat (first | exact .head | apply Ext.tail))) (.nil))))) (fun hHeld => ?_)
  have HO_ := Aside0.mk HO.out.drew
  clear HO
  have HO := HO_
  clear HO_
  generalize World.drew _ = wr at HO hHeld ⊢
  refine take_ (i := 0) (N := some 54) (v := .agg #[.int .u64 a2_0, .int .u64 a2_1, .int .u64 a2_2, .int .u64 a2_3, .int .i64 a2_4, .int .i64 a2_5]) (a' := ?_) (Hp.up 8 1) rfl rfl (by kernel_rfl) (fun _ _ _ h => h) (own_yieldN (by rfl) (x := .tmp 6) rfl (by rfl) (.head) (vs := [.int .u64 a2_0, .int .u64 a2_1, .int .u64 a2_2, .int .u64 a2_3, .int .i64 a2_4, .int .i64 a2_5]) (by rfl) Try.underlying26 (by rfl) (by kernel_rfl) rfl) hHeld ?_ ?_
  rotate_left
  ·simp only [Act.put, List.setIfInBounds_toArray, List.set_cons_zero, List.set_cons_succ, i64_w, i32_w]
   rfl
  refine take_ (i := 1) (N := some 55) (v := .agg #[.int .u64 a3_0, .int .u64 a3_1, .int .u64 a3_2, .int .u64 a3_3, .int .i64 a3_4, .int .i64 a3_5]) (a' := ?_) (Hp.up 8 2) rfl rfl (by kernel_rfl) (fun _ _ _ h => h) (own_yieldN (by rfl) (x := .tmp 7) rfl (by rfl) (.tail (.head)) (vs := [.int .u64 a3_0, .int .u64 a3_1, .int .u64 a3_2, .int .u64 a3_3, .int .i64 a3_4, .int .i64 a3_5]) (by rfl) Try.underlying26 (by rfl) (by kernel_rfl) rfl) hHeld ?_ ?_
  rotate_left
  ·simp only [Act.put, List.setIfInBounds_toArray, List.set_cons_zero, List.set_cons_succ, i64_w, i32_w]
   rfl
  refine Hp.pu_ 2 56 (Hp.up 8 3) ?_
  refine Hp.pu_ 3 57 (Hp.up 8 4) ?_
  refine one_ (i := 4) (N := some 58) (Hp.up 8 5) rfl rfl (by kernel_rfl) (by decide) (fun K hK => ?_)
  refine goes_ Try.func15 (by kernel_rfl) rfl #[] (by rfl) rfl rfl (by (try simp only [List.map_toArray, List.map_cons, List.map_nil]); first | done | rfl) ?_
  refine (num_All.calls l0 l1 l2 l3 l4 l5 _ HL.out).mono ?_
  rintro e wx ⟨rfl, hb⟩
  refine ⟨_, rfl, ?_⟩
  have hO_ := HO.out.below hb
  clear hb
  clear HO; have HO := Aside0.mk hO_; clear hO_
  refine hK.out _ _ (HO.out.picks (.cons (by (repeat (first | exact .head | apply Ext.tail))) (.cons (by (repeat (first | exact .head | apply Ext.tail))) (.nil)))) (fun hHeld => ?_)
  clear hK K
  refine norm_ (a' := ?_) ?_ ?_
  rotate_left
  ·show Act.put _ (some 58) _ = _
   simp only [Act.put, List.setIfInBounds_toArray, List.set_cons_zero, List.set_cons_succ, i64_w, i32_w]
   rfl
  refine Hp.pu_ 5 59 (Hp.up 8 6) ?_
  refine one_ (i := 6) (N := some 60) (Hp.up 8 7) rfl rfl (by kernel_rfl) (by decide) (fun K hK => ?_)
  refine own_box_k HO.out (by rfl) (N := 60) rfl (cs := #[.int .u64 a2_0, .int .u64 a2_1, .int .u64 a2_2, .int .u64 a2_3, .int .i64 a2_4, .int .i64 a2_5, .int .u64 a3_0, .int .u64 a3_1, .int .u64 a3_2, .int .u64 a3_3, .int .i64 a3_4, .int .i64 a3_5, .int .u64 yc, .bool false, .int .u64 64, .int .u64 l0, .int .u64 l1, .int .u64 l2, .int .u64 l3, .int .i64 l4, .int .i64 l5]) (t := 46) (by first | (go_simp; done) | (go_simp; rfl) | kernel_rfl) ?_
  intro g60 w60 hO_
  clear HO; have HO := Aside0.mk hO_; clear hO_
  refine hK.out _ _ (HO.out.picks (.cons (by (repeat (first | exact .head | apply Ext.tail))) (.cons (by (repeat (first | exact .head | apply Ext.tail))) (.nil)))) (fun hHeld => ?_)
  clear hK K
  refine norm_ (a' := ?_) ?_ ?_
  rotate_left
  ·show Act.put _ (some 60) _ = _
   simp only [Act.put, List.setIfInBounds_toArray, List.set_cons_zero, List.set_cons_succ, i64_w, i32_w]
   rfl
  refine Hp.pu_ 7 18 (Hp.up 8 8) ?_
  refine done_ (by kernel_rfl) ?_
  clear hHeld
  go_wp2_with (first | ((with_reducible refine gate_dst (N := 92) rfl ?_); refine goesV_ (some 92) rfl rfl hF hn hb_ #[.pointer (some ⟨g60, 0, none⟩)] (p := 90) rfl (by rfl) (by (try simp only [List.map_toArray, List.map_cons, List.map_nil]); first | done | rfl) ?_; (have e_ : Own w _ ((g60, .cells #[.int .u64 a2_0, .int .u64 a2_1, .int .u64 a2_2, .int .u64 a2_3, .int .i64 a2_4, .int .i64 a2_5, .int .u64 a3_0, .int .u64 a3_1, .int .u64 a3_2, .int .u64 a3_3, .int .i64 a3_4, .int .i64 a3_5, .int .u64 yc, .bool false, .int .u64 64, .int .u64 l0, .int .u64 l1, .int .u64 l2, .int .u64 l3, .int .i64 l4, .int .i64 l5] 46 (0, 0)) :: (g8, .cells #[.int .u64 0, .int .u64 0, .int .u64 0, .int .u64 0, .int .i64 0, .int .i64 0] 26 (0, 0)) :: []) := HO.out.picks (.cons (by (repeat (first | exact .head | apply Ext.tail))) (.cons (by (repeat (first | exact .head | apply Ext.tail))) (.nil)))); refine (XfOk.go HM.out _ _ g60 _ _ _ HQ.out e_).mono ?_; rintro e wx ⟨rfl, hO_⟩; refine ⟨_, rfl, ?_⟩; (have hO_ : Own w wx ((g60, .cells #[.int .u64 x0, .int .u64 x1, .int .u64 x2, .int .u64 x3, .int .i64 x4, .int .i64 x5, .int .u64 y0, .int .u64 y1, .int .u64 y2, .int .u64 y3, .int .i64 y4, .int .i64 y5, .int .u64 qc, .bool qb, .int .u64 qt, .int .u64 n0, .int .u64 n1, .int .u64 n2, .int .u64 n3, .int .i64 n4, .int .i64 n5] 46 (0, 0)) :: _) := hO_); clear e_; clear HO; have HO := Aside0.mk hO_; clear hO_) | ((with_reducible refine gate_dst (N := 97) rfl ?_); refine own_loadN HO.out rfl (x := .tmp 96) rfl (by rfl) (by (repeat (first | exact .head | apply Ext.tail))) (vs := [.int .u64 n0, .int .u64 n1, .int .u64 n2, .int .u64 n3, .int .i64 n4, .int .i64 n5]) (by rfl) Try.underlying26 (by rfl) (by kernel_rfl) (va := #[.int .u64 n0, .int .u64 n1, .int .u64 n2, .int .u64 n3, .int .i64 n4, .int .i64 n5]) rfl ?_) | ((with_reducible refine gate_callee (f := 20) rfl ?_); (with_reducible refine gate_dst (N := 98) rfl ?_); refine goesL_ (some 98) rfl rfl Try.func20 (by kernel_rfl) rfl #[.agg #[.int .u64 n0, .int .u64 n1, .int .u64 n2, .int .u64 n3, .int .i64 n4, .int .i64 n5]] rfl (by (try simp only [List.map_toArray, List.map_cons, List.map_nil]); first | done | rfl) ?_; (with_reducible refine (num_Refine.calls n0 n1 n2 n3 n4 n5 z0 z1 z2 z3 z4 z5 zb _ HZ.out).mono ?_); rintro e wx ⟨rfl, hb⟩; refine ⟨_, rfl, ?_⟩; have hO_ := HO.out.below hb; clear hb; clear HO; have HO := Aside0.mk hO_; clear hO_) | ((with_reducible refine gate_dst (N := 19) rfl ?_); refine own_box HO.out ?hg (N := 19) ?hd (cs := #[.int .u64 0, .int .u64 0, .int .u64 0, .int .u64 0, .int .i64 0, .int .i64 0]) (t := 26) ?hr ?_; (case hd => rfl); (case hg => rfl); (case hr => first | (go_simp; done) | (go_simp; rfl) | kernel_rfl); intro g19 w19 hO_; clear HO; have HO := Aside0.mk hO_; clear hO_) | ((with_reducible refine gate_store (p := 19) rfl ?_); refine own_storeN HO.out rfl (ty := 26) (x := .tmp 19) (y := .tmp 99) (vs := #[.int .u64 z0, .int .u64 z1, .int .u64 z2, .int .u64 z3, .int .i64 z4, .int .i64 z5]) (cs' := #[.int .u64 z0, .int .u64 z1, .int .u64 z2, .int .u64 z3, .int .i64 z4, .int .i64 z5]) rfl (by rfl) (by rfl) (by (repeat (first | exact .head | apply Ext.tail))) (by kernel_rfl) (by kernel_rfl) (by first | decide | (simp; done)) (by rfl) ?_; intro wc hO_; clear HO; have HO := Aside0.mk hO_; clear hO_) | ((with_reducible refine gate_dst (N := 105) rfl ?_); refine own_loadN HO.out rfl (x := .tmp 19) rfl (by rfl) (by (repeat (first | exact .head | apply Ext.tail))) (vs := [.int .u64 z0, .int .u64 z1, .int .u64 z2, .int .u64 z3, .int .i64 z4, .int .i64 z5]) (by rfl) Try.underlying26 (by rfl) (by kernel_rfl) (va := #[.int .u64 z0, .int .u64 z1, .int .u64 z2, .int .u64 z3, .int .i64 z4, .int .i64 z5]) rfl ?_) | ((with_reducible refine gate_store (p := 8) rfl ?_); refine own_storeN HO.out rfl (ty := 26) (x := .tmp 8) (y := .tmp 105) (vs := #[.int .u64 z0, .int .u64 z1, .int .u64 z2, .int .u64 z3, .int .i64 z4, .int .i64 z5]) (cs' := #[.int .u64 z0, .int .u64 z1, .int .u64 z2, .int .u64 z3, .int .i64 z4, .int .i64 z5]) rfl (by rfl) (by rfl) (by (repeat (first | exact .head | apply Ext.tail))) (by kernel_rfl) (by kernel_rfl) (by first | decide | (simp; done)) (by rfl) ?_; intro wc hO_; clear HO; have HO := Aside0.mk hO_; clear hO_))
  refine bodyPost_ret (results_ct rfl _ _ g8 26 #[.int .u64 z0, .int .u64 z1, .int .u64 z2, .int .u64 z3, .int .i64 z4, .int .i64 z5] (0, 0) _ rfl (HO.out.get (by (repeat (first | exact .head | apply Ext.tail)))) Try.underlying26 rfl (by kernel_rfl)) rfl ?_
  exact ⟨rfl, HO.out.bel⟩
set_option maxHeartbeats 8000000 in
set_option maxRecDepth 100000 in
theorem xf_do_low (k : Nat) (a0 : Int) (a2_0 a2_1 a2_2 a2_3 a2_4 a2_5 a3_0 a3_1 a3_2 a3_3 a3_4 a3_5 : Int) (r1 r2 r3 r4 r5 r6 : Int) (r7 : Bool) (w : World) (xc yc : Int) (xb yb : Bool) (l0 l1 l2 l3 l4 l5 : Int) (hi : xfIs a0 = true) (hx : num_IsConst.f a2_0 a2_1 a2_2 a2_3 a2_4 a2_5 = some (xc, xb)) (hy : num_IsConst.f a3_0 a3_1 a3_2 a3_3 a3_4 a3_5 = some (yc, yb)) (hxy : (xb && yb) = false) (hl : num_All.f = some (l0, l1, l2, l3, l4, l5)) (h : ((num_Cut.f k a2_0 a2_1 a2_2 a2_3 a2_4 a2_5 4).bind fun u => (num_Cut.f k a3_0 a3_1 a3_2 a3_3 a3_4 a3_5 4).bind fun v => (num_IsConst.f v.1 v.2.1 v.2.2.1 v.2.2.2.1 v.2.2.2.2.1 v.2.2.2.2.2).bind fun c => (xfM a0 ⟨u.1, u.2.1, u.2.2.1, u.2.2.2.1, u.2.2.2.2.1, u.2.2.2.2.2, v.1, v.2.1, v.2.2.1, v.2.2.2.1, v.2.2.2.2.1, v.2.2.2.2.2, c.1, c.2, 32, l0, l1, l2, l3, l4, l5⟩).bind fun p => (num_Refine.f p.n0 p.n1 p.n2 p.n3 p.n4 p.n5).bind fun z => (num_Cut.f k z.1 z.2.1 z.2.2.1 z.2.2.2.1 z.2.2.2.2.1 z.2.2.2.2.2.1 4).bind fun o => some (o.1, o.2.1, o.2.2.1, o.2.2.2.1, o.2.2.2.2.1, o.2.2.2.2.2, true)) = some (r1, r2, r3, r4, r5, r6, r7)) :
  Calls Try.prog 7 #[.int .u8 a0, .bool false, .agg #[.int .u64 a2_0, .int .u64 a2_1, .int .u64 a2_2, .int .u64 a2_3, .int .i64 a2_4, .int .i64 a2_5], .agg #[.int .u64 a3_0, .int .u64 a3_1, .int .u64 a3_2, .int .u64 a3_3, .int .i64 a3_4, .int .i64 a3_5]] w fun e w' => e = .returned (.tuple #[.agg #[.int .u64 r1, .int .u64 r2, .int .u64 r3, .int .u64 r4, .int .i64 r5, .int .i64 r6], .bool r7]) ∧ Below w.heap.size w w' := by
 have HO := Aside0.mk (Own.refl w)
 obtain ⟨ix, F, fnF, hf_, hF, hn, hb_, hm⟩ := xf_hit a0 hi
 have HF := Aside0.mk hf_
 have HM := Aside0.mk hm
 clear hi hf_ hm
 have HX := Aside0.mk hx
 have HY := Aside0.mk hy
 clear hx hy
 have HL : Aside0 (num_All.f = some (l0, l1, l2, l3, l4, l5)) := ⟨hl⟩
 clear hl
 obtain ⟨⟨u0, u1, u2, u3, u4, u5⟩, h0, h_⟩ := Option.bind_eq_some_iff.mp h
 clear h
 have h := h_
 clear h_
 have HU : Aside0 (num_Cut.f k a2_0 a2_1 a2_2 a2_3 a2_4 a2_5 4 = some (u0, u1, u2, u3, u4, u5)) := ⟨h0⟩
 clear h0
 dsimp only at h
 obtain ⟨⟨v0, v1, v2, v3, v4, v5⟩, h0, h_⟩ := Option.bind_eq_some_iff.mp h
 clear h
 have h := h_
 clear h_
 have HV : Aside0 (num_Cut.f k a3_0 a3_1 a3_2 a3_3 a3_4 a3_5 4 = some (v0, v1, v2, v3, v4, v5)) := ⟨h0⟩
 clear h0
 dsimp only at h
 obtain ⟨⟨cc, cb⟩, h0, h_⟩ := Option.bind_eq_some_iff.mp h
 clear h
 have h := h_
 clear h_
 have HC : Aside0 (num_IsConst.f v0 v1 v2 v3 v4 v5 = some (cc, cb)) := ⟨h0⟩
 clear h0
 dsimp only at h
 obtain ⟨⟨x0, x1, x2, x3, x4, x5, y0, y1, y2, y3, y4, y5, qc, qb, qt, n0, n1, n2, n3, n4, n5⟩, h0, h_⟩ := Option.bind_eq_some_iff.mp h
 clear h
 have h := h_
 clear h_
 have HQ : Aside0 (xfM a0 ⟨u0, u1, u2, u3, u4, u5, v0, v1, v2, v3, v4, v5, cc, cb, 32, l0, l1, l2, l3, l4, l5⟩ = some ⟨x0, x1, x2, x3, x4, x5, y0, y1, y2, y3, y4, y5, qc, qb, qt, n0, n1, n2, n3, n4, n5⟩) := ⟨h0⟩
 clear h0
 dsimp only at h
 obtain ⟨⟨z0, z1, z2, z3, z4, z5, zb⟩, h0, h_⟩ := Option.bind_eq_some_iff.mp h
 clear h
 have h := h_
 clear h_
 have HZ : Aside0 (num_Refine.f n0 n1 n2 n3 n4 n5 = some (z0, z1, z2, z3, z4, z5, zb)) := ⟨h0⟩
 clear h0
 dsimp only at h
 obtain ⟨⟨o0, o1, o2, o3, o4, o5⟩, h0, h_⟩ := Option.bind_eq_some_iff.mp h
 clear h
 have h := h_
 clear h_
 have HE : Aside0 (num_Cut.f k z0 z1 z2 z3 z4 z5 4 = some (o0, o1, o2, o3, o4, o5)) := ⟨h0⟩
 clear h0
 dsimp only at h
 obtain ⟨rfl, rfl, rfl, rfl, rfl, rfl, rfl⟩ : o0 = r1 ∧ o1 = r2 ∧ o2 = r3 ∧ o3 = r4 ∧ o4 = r5 ∧ o5 = r6 ∧ true = r7 := by simpa using h
 clear h
 cases xb with
 | false =>
  go_enter Try.func7, Try.ntmps7
  go_wp2_with (first | ((with_reducible refine gate_dst (N := 6) rfl ?_); refine own_box HO.out ?hg (N := 6) ?hd (cs := #[.int .u64 a2_0, .int .u64 a2_1, .int .u64 a2_2, .int .u64 a2_3, .int .i64 a2_4, .int .i64 a2_5]) (t := 26) ?hr ?_; (case hd => rfl); (case hg => rfl); (case hr => first | (go_simp; done) | (go_simp; rfl) | kernel_rfl); intro g6 w6 hO_; clear HO; have HO := Aside0.mk hO_; clear hO_) | ((with_reducible refine gate_dst (N := 7) rfl ?_); refine own_box HO.out ?hg (N := 7) ?hd (cs := #[.int .u64 a3_0, .int .u64 a3_1, .int .u64 a3_2, .int .u64 a3_3, .int .i64 a3_4, .int .i64 a3_5]) (t := 26) ?hr ?_; (case hd => rfl); (case hg => rfl); (case hr => first | (go_simp; done) | (go_simp; rfl) | kernel_rfl); intro g7 w7 hO_; clear HO; have HO := Aside0.mk hO_; clear hO_) | ((with_reducible refine gate_dst (N := 8) rfl ?_); refine own_box HO.out ?hg (N := 8) ?hd (cs := #[.int .u64 0, .int .u64 0, .int .u64 0, .int .u64 0, .int .i64 0, .int .i64 0]) (t := 26) ?hr ?_; (case hd => rfl); (case hg => rfl); (case hr => first | (go_simp; done) | (go_simp; rfl) | kernel_rfl); intro g8 w8 hO_; clear HO; have HO := Aside0.mk hO_; clear hO_) | ((with_reducible refine gate_callee (f := 14) rfl ?_); (with_reducible refine gate_dst (N := 22) rfl ?_); refine goesL_ (some 22) rfl rfl Try.func14 (by kernel_rfl) rfl #[] rfl (by (try simp only [List.map_toArray, List.map_cons, List.map_nil]); first | done | rfl) ?_; (with_reducible refine (xf_rows w _ _ HO.out).mono ?_); rintro e wx ⟨gm, rfl, hO_⟩; refine ⟨_, rfl, ?_⟩; clear HO; have HO := Aside0.mk hO_; clear hO_) | ((with_reducible refine gate_dst (N := 24) rfl ?_); refine own_lookup HO.out rfl (t := 41) (kv := .int .u8 a0) (z := .nilFunc) (v := .tuple #[.func (.func F) #[] #[], .bool true]) rfl Try.underlying41 Try.underlying5 (by rfl) (by rfl) rfl (by (repeat (first | exact .head | apply Ext.tail))) (by kernel_rfl) ((xf_find a0).trans (congrArg some HF.out)) rfl ?_) | ((with_reducible refine gate_dst (N := 31) rfl ?_); refine own_loadN HO.out rfl (x := .tmp 6) rfl (by rfl) (by (repeat (first | exact .head | apply Ext.tail))) (vs := [.int .u64 a2_0, .int .u64 a2_1, .int .u64 a2_2, .int .u64 a2_3, .int .i64 a2_4, .int .i64 a2_5]) (by rfl) Try.underlying26 (by rfl) (by kernel_rfl) (va := #[.int .u64 a2_0, .int .u64 a2_1, .int .u64 a2_2, .int .u64 a2_3, .int .i64 a2_4, .int .i64 a2_5]) rfl ?_) | ((with_reducible refine gate_callee (f := 16) rfl ?_); (with_reducible refine gate_dst (N := 32) rfl ?_); refine goesL_ (some 32) rfl rfl Try.func16 (by kernel_rfl) rfl #[.agg #[.int .u64 a2_0, .int .u64 a2_1, .int .u64 a2_2, .int .u64 a2_3, .int .i64 a2_4, .int .i64 a2_5]] rfl (by (try simp only [List.map_toArray, List.map_cons, List.map_nil]); first | done | rfl) ?_; (with_reducible refine (num_IsConst.calls a2_0 a2_1 a2_2 a2_3 a2_4 a2_5 xc _ _ HX.out).mono ?_); rintro e wx ⟨rfl, hb⟩; refine ⟨_, rfl, ?_⟩; have hO_ := HO.out.below hb; clear hb; clear HO; have HO := Aside0.mk hO_; clear hO_) | ((with_reducible refine gate_dst (N := 36) rfl ?_); refine own_loadN HO.out rfl (x := .tmp 7) rfl (by rfl) (by (repeat (first | exact .head | apply Ext.tail))) (vs := [.int .u64 a3_0, .int .u64 a3_1, .int .u64 a3_2, .int .u64 a3_3, .int .i64 a3_4, .int .i64 a3_5]) (by rfl) Try.underlying26 (by rfl) (by kernel_rfl) (va := #[.int .u64 a3_0, .int .u64 a3_1, .int .u64 a3_2, .int .u64 a3_3, .int .i64 a3_4, .int .i64 a3_5]) rfl ?_) | ((with_reducible refine gate_callee (f := 16) rfl ?_); (with_reducible refine gate_dst (N := 37) rfl ?_); refine goesL_ (some 37) rfl rfl Try.func16 (by kernel_rfl) rfl #[.agg #[.int .u64 a3_0, .int .u64 a3_1, .int .u64 a3_2, .int .u64 a3_3, .int .i64 a3_4, .int .i64 a3_5]] rfl (by (try simp only [List.map_toArray, List.map_cons, List.map_nil]); first | done | rfl) ?_; (with_reducible refine (num_IsConst.calls a3_0 a3_1 a3_2 a3_3 a3_4 a3_5 yc _ _ HY.out).mono ?_); rintro e wx ⟨rfl, hb⟩; refine ⟨_, rfl, ?_⟩; have hO_ := HO.out.below hb; clear hb; clear HO; have HO := Aside0.mk hO_; clear hO_))
  refine start_ (n := 8) (S := fun W => Own w W ((g6, .cells #[.int .u64 a2_0, .int .u64 a2_1, .int .u64 a2_2, .int .u64 a2_3, .int .i64 a2_4, .int .i64 a2_5] 26 (0, 0)) :: (g7, .cells #[.int .u64 a3_0, .int .u64 a3_1, .int .u64 a3_2, .int .u64 a3_3, .int .i64 a3_4, .int .i64 a3_5] 26 (0, 0)) :: [])) (ds := []) #[false, false, false, false, false, false, false, false] (by kernel_rfl) rfl rfl (Own.drew (HO.out.picks (.cons (by (repeat (first | exact .head | apply Ext.tail))) (.cons (by (repeat (first | exact .head | apply Ext.tail))) (.nil))))) (fun hHeld => ?_)
  have HO_ := Aside0.mk HO.out.drew
  clear HO
  have HO := HO_
  clear HO_
  generalize World.drew _ = wr at HO hHeld ⊢
  refine take_ (i := 0) (N := some 54) (v := .agg #[.int .u64 a2_0, .int .u64 a2_1, .int .u64 a2_2, .int .u64 a2_3, .int .i64 a2_4, .int .i64 a2_5]) (a' := ?_) (Hp.up 8 1) rfl rfl (by kernel_rfl) (fun _ _ _ h => h) (own_yieldN (by rfl) (x := .tmp 6) rfl (by rfl) (.head) (vs := [.int .u64 a2_0, .int .u64 a2_1, .int .u64 a2_2, .int .u64 a2_3, .int .i64 a2_4, .int .i64 a2_5]) (by rfl) Try.underlying26 (by rfl) (by kernel_rfl) rfl) hHeld ?_ ?_
  rotate_left
  ·simp only [Act.put, List.setIfInBounds_toArray, List.set_cons_zero, List.set_cons_succ, i64_w, i32_w]
   rfl
  refine take_ (i := 1) (N := some 55) (v := .agg #[.int .u64 a3_0, .int .u64 a3_1, .int .u64 a3_2, .int .u64 a3_3, .int .i64 a3_4, .int .i64 a3_5]) (a' := ?_) (Hp.up 8 2) rfl rfl (by kernel_rfl) (fun _ _ _ h => h) (own_yieldN (by rfl) (x := .tmp 7) rfl (by rfl) (.tail (.head)) (vs := [.int .u64 a3_0, .int .u64 a3_1, .int .u64 a3_2, .int .u64 a3_3, .int .i64 a3_4, .int .i64 a3_5]) (by rfl) Try.underlying26 (by rfl) (by kernel_rfl) rfl) hHeld ?_ ?_
  rotate_left
  ·simp only [Act.put, List.setIfInBounds_toArray, List.set_cons_zero, List.set_cons_succ, i64_w, i32_w]
   rfl
  refine Hp.pu_ 2 56 (Hp.up 8 3) ?_
  refine Hp.pu_ 3 57 (Hp.up 8 4) ?_
  refine one_ (i := 4) (N := some 58) (Hp.up 8 5) rfl rfl (by kernel_rfl) (by decide) (fun K hK => ?_)
  refine goes_ Try.func15 (by kernel_rfl) rfl #[] (by rfl) rfl rfl (by (try simp only [List.map_toArray, List.map_cons, List.map_nil]); first | done | rfl) ?_
  refine (num_All.calls l0 l1 l2 l3 l4 l5 _ HL.out).mono ?_
  rintro e wx ⟨rfl, hb⟩
  refine ⟨_, rfl, ?_⟩
  have hO_ := HO.out.below hb
  clear hb
  clear HO; have HO := Aside0.mk hO_; clear hO_
  refine hK.out _ _ (HO.out.picks (.cons (by (repeat (first | exact .head | apply Ext.tail))) (.cons (by (repeat (first | exact .head | apply Ext.tail))) (.nil)))) (fun hHeld => ?_)
  clear hK K
  refine norm_ (a' := ?_) ?_ ?_
  rotate_left
  ·show Act.put _ (some 58) _ = _
   simp only [Act.put, List.setIfInBounds_toArray, List.set_cons_zero, List.set_cons_succ, i64_w, i32_w]
   rfl
  refine Hp.pu_ 5 59 (Hp.up 8 6) ?_
  refine one_ (i := 6) (N := some 60) (Hp.up 8 7) rfl rfl (by kernel_rfl) (by decide) (fun K hK => ?_)
  refine own_box_k HO.out (by rfl) (N := 60) rfl (cs := #[.int .u64 a2_0, .int .u64 a2_1, .int .u64 a2_2, .int .u64 a2_3, .int .i64 a2_4, .int .i64 a2_5, .int .u64 a3_0, .int .u64 a3_1, .int .u64 a3_2, .int .u64 a3_3, .int .i64 a3_4, .int .i64 a3_5, .int .u64 yc, .bool yb, .int .u64 64, .int .u64 l0, .int .u64 l1, .int .u64 l2, .int .u64 l3, .int .i64 l4, .int .i64 l5]) (t := 46) (by first | (go_simp; done) | (go_simp; rfl) | kernel_rfl) ?_
  intro g60 w60 hO_
  clear HO; have HO := Aside0.mk hO_; clear hO_
  refine hK.out _ _ (HO.out.picks (.cons (by (repeat (first | exact .head | apply Ext.tail))) (.cons (by (repeat (first | exact .head | apply Ext.tail))) (.nil)))) (fun hHeld => ?_)
  clear hK K
  refine norm_ (a' := ?_) ?_ ?_
  rotate_left
  ·show Act.put _ (some 60) _ = _
   simp only [Act.put, List.setIfInBounds_toArray, List.set_cons_zero, List.set_cons_succ, i64_w, i32_w]
   rfl
  refine Hp.pu_ 7 18 (Hp.up 8 8) ?_
  refine done_ (by kernel_rfl) ?_
  clear hHeld
  try go_wp2
  refine start_ (n := 16) (S := fun W => Own w W ((g6, .cells #[.int .u64 a2_0, .int .u64 a2_1, .int .u64 a2_2, .int .u64 a2_3, .int .i64 a2_4, .int .i64 a2_5] 26 (0, 0)) :: (g7, .cells #[.int .u64 a3_0, .int .u64 a3_1, .int .u64 a3_2, .int .u64 a3_3, .int .i64 a3_4, .int .i64 a3_5] 26 (0, 0)) :: [])) (ds := []) #[false, false, false, false, false, false, false, false, false, false, false, false, false, false, false, false] (by kernel_rfl) rfl rfl (Own.drew (HO.out.picks (.cons (by (repeat (first | exact .head | apply Ext.tail))) (.cons (by (repeat (first | exact .head | apply Ext.tail))) (.nil))))) (fun hHeld => ?_)
  have HO_ := Aside0.mk HO.out.drew
  clear HO
  have HO := HO_
  clear HO_
  generalize World.drew _ = wr at HO hHeld ⊢
  refine Hp.pu_ 0 63 (Hp.up 16 1) ?_
  refine Hp.pu_ 1 64 (Hp.up 16 2) ?_
  refine Hp.pu_ 2 65 (Hp.up 16 3) ?_
  refine take_ (i := 3) (N := some 66) (v := .agg #[.int .u64 a2_0, .int .u64 a2_1, .int .u64 a2_2, .int .u64 a2_3, .int .i64 a2_4, .int .i64 a2_5]) (a' := ?_) (Hp.up 16 4) rfl rfl (by kernel_rfl) (fun _ _ _ h => h) (own_yieldN (by rfl) (x := .tmp 6) rfl (by rfl) (.head) (vs := [.int .u64 a2_0, .int .u64 a2_1, .int .u64 a2_2, .int .u64 a2_3, .int .i64 a2_4, .int .i64 a2_5]) (by rfl) Try.underlying26 (by rfl) (by kernel_rfl) rfl) hHeld ?_ ?_
  rotate_left
  ·simp only [Act.put, List.setIfInBounds_toArray, List.set_cons_zero, List.set_cons_succ, i64_w, i32_w]
   rfl
  refine take_ (i := 5) (N := some 68) (v := .agg #[.int .u64 a3_0, .int .u64 a3_1, .int .u64 a3_2, .int .u64 a3_3, .int .i64 a3_4, .int .i64 a3_5]) (a' := ?_) #[true, true, true, true, false, true, false, false, false, false, false, false, false, false, false, false] rfl rfl (by kernel_rfl) (fun _ _ _ h => h) (own_yieldN (by rfl) (x := .tmp 7) rfl (by rfl) (.tail (.head)) (vs := [.int .u64 a3_0, .int .u64 a3_1, .int .u64 a3_2, .int .u64 a3_3, .int .i64 a3_4, .int .i64 a3_5]) (by rfl) Try.underlying26 (by rfl) (by kernel_rfl) rfl) hHeld ?_ ?_
  rotate_left
  ·simp only [Act.put, List.setIfInBounds_toArray, List.set_cons_zero, List.set_cons_succ, i64_w, i32_w]
   rfl
  refine one_ (i := 4) (N := some 67) (Hp.up 16 6) rfl rfl (by kernel_rfl) (by decide) (fun K hK => ?_)
  refine goes_ Try.func19 (by kernel_rfl) rfl #[.agg #[.int .u64 a2_0, .int .u64 a2_1, .int .u64 a2_2, .int .u64 a2_3, .int .i64 a2_4, .int .i64 a2_5], .int .i64 4] (by rfl) rfl rfl (by (try simp only [List.map_toArray, List.map_cons, List.map_nil]); first | done | rfl) ?_
  refine (num_Cut.calls k a2_0 a2_1 a2_2 a2_3 a2_4 a2_5 4 u0 u1 u2 u3 u4 u5 _ HU.out).mono ?_
  rintro e wx ⟨rfl, hb⟩
  refine ⟨_, rfl, ?_⟩
  have hO_ := HO.out.below hb
  clear hb
  clear HO; have HO := Aside0.mk hO_; clear hO_
  refine hK.out _ _ (HO.out.picks (.cons (by (repeat (first | exact .head | apply Ext.tail))) (.cons (by (repeat (first | exact .head | apply Ext.tail))) (.nil)))) (fun hHeld => ?_)
  clear hK K
  refine norm_ (a' := ?_) ?_ ?_
  rotate_left
  ·show Act.put _ (some 67) _ = _
   simp only [Act.put, List.setIfInBounds_toArray, List.set_cons_zero, List.set_cons_succ, i64_w, i32_w]
   rfl
  refine one_ (i := 6) (N := some 69) (Hp.up 16 7) rfl rfl (by kernel_rfl) (by decide) (fun K hK => ?_)
  refine goes_ Try.func19 (by kernel_rfl) rfl #[.agg #[.int .u64 a3_0, .int .u64 a3_1, .int .u64 a3_2, .int .u64 a3_3, .int .i64 a3_4, .int .i64 a3_5], .int .i64 4] (by rfl) rfl rfl (by (try simp only [List.map_toArray, List.map_cons, List.map_nil]); first | done | rfl) ?_
  refine (num_Cut.calls k a3_0 a3_1 a3_2 a3_3 a3_4 a3_5 4 v0 v1 v2 v3 v4 v5 _ HV.out).mono ?_
  rintro e wx ⟨rfl, hb⟩
  refine ⟨_, rfl, ?_⟩
  have hO_ := HO.out.below hb
  clear hb
  clear HO; have HO := Aside0.mk hO_; clear hO_
  refine hK.out _ _ (HO.out.picks (.cons (by (repeat (first | exact .head | apply Ext.tail))) (.cons (by (repeat (first | exact .head | apply Ext.tail))) (.nil)))) (fun hHeld => ?_)
  clear hK K
  refine norm_ (a' := ?_) ?_ ?_
  rotate_left
  ·show Act.put _ (some 69) _ = _
   simp only [Act.put, List.setIfInBounds_toArray, List.set_cons_zero, List.set_cons_succ, i64_w, i32_w]
   rfl
  refine Hp.pu_ 7 70 (Hp.up 16 8) ?_
  refine Hp.pu_ 8 71 (Hp.up 16 9) ?_
  refine one_ (i := 9) (N := none) (Hp.up 16 10) rfl rfl (by kernel_rfl) (by decide) (fun K hK => ?_)
  refine own_storeN_k HO.out (by rfl) rfl (ty := 26) (x := .tmp 71) (y := .tmp 67) (vs := #[.int .u64 u0, .int .u64 u1, .int .u64 u2, .int .u64 u3, .int .i64 u4, .int .i64 u5]) (cs' := #[.int .u64 u0, .int .u64 u1, .int .u64 u2, .int .u64 u3, .int .i64 u4, .int .i64 u5, .int .u64 a3_0, .int .u64 a3_1, .int .u64 a3_2, .int .u64 a3_3, .int .i64 a3_4, .int .i64 a3_5, .int .u64 yc, .bool yb, .int .u64 64, .int .u64 l0, .int .u64 l1, .int .u64 l2, .int .u64 l3, .int .i64 l4, .int .i64 l5]) rfl (by rfl) (by rfl) (by (repeat (first | exact .head | apply Ext.tail))) (by kernel_rfl) (by kernel_rfl) (by first | decide | (simp; done)) (by rfl) ?_
  intro wc hO_
  clear HO; have HO := Aside0.mk hO_; clear hO_
  refine hK.out _ _ (HO.out.picks (.cons (by (repeat (first | exact .head | apply Ext.tail))) (.cons (by (repeat (first | exact .head | apply Ext.tail))) (.nil)))) (fun hHeld => ?_)
  clear hK K
  refine Hp.pu_ 10 72 (Hp.up 16 11) ?_
  refine Hp.pu_ 11 73 (Hp.up 16 12) ?_
  refine one_ (i := 12) (N := none) (Hp.up 16 13) rfl rfl (by kernel_rfl) (by decide) (fun K hK => ?_)
  refine own_storeN_k HO.out (by rfl) rfl (ty := 26) (x := .tmp 73) (y := .tmp 69) (vs := #[.int .u64 v0, .int .u64 v1, .int .u64 v2, .int .u64 v3, .int .i64 v4, .int .i64 v5]) (cs' := #[.int .u64 u0, .int .u64 u1, .int .u64 u2, .int .u64 u3, .int .i64 u4, .int .i64 u5, .int .u64 v0, .int .u64 v1, .int .u64 v2, .int .u64 v3, .int .i64 v4, .int .i64 v5, .int .u64 yc, .bool yb, .int .u64 64, .int .u64 l0, .int .u64 l1, .int .u64 l2, .int .u64 l3, .int .i64 l4, .int .i64 l5]) rfl (by rfl) (by rfl) (by (repeat (first | exact .head | apply Ext.tail))) (by kernel_rfl) (by kernel_rfl) (by first | decide | (simp; done)) (by rfl) ?_
  intro wc hO_
  clear HO; have HO := Aside0.mk hO_; clear hO_
  refine hK.out _ _ (HO.out.picks (.cons (by (repeat (first | exact .head | apply Ext.tail))) (.cons (by (repeat (first | exact .head | apply Ext.tail))) (.nil)))) (fun hHeld => ?_)
  clear hK K
  refine Hp.pu_ 13 74 (Hp.up 16 14) ?_
  refine Hp.pu_ 14 75 (Hp.up 16 15) ?_
  refine one_ (i := 15) (N := none) (Hp.up 16 16) rfl rfl (by kernel_rfl) (by decide) (fun K hK => ?_)
  refine own_store_k HO.out (by rfl) rfl (ty := 22) (x := .tmp 75) (y := .const (.int .u64 32)) (v := .int .u64 32) (cs' := #[.int .u64 u0, .int .u64 u1, .int .u64 u2, .int .u64 u3, .int .i64 u4, .int .i64 u5, .int .u64 v0, .int .u64 v1, .int .u64 v2, .int .u64 v3, .int .i64 v4, .int .i64 v5, .int .u64 yc, .bool yb, .int .u64 32, .int .u64 l0, .int .u64 l1, .int .u64 l2, .int .u64 l3, .int .i64 l4, .int .i64 l5]) rfl (by rfl) (by rfl) (by (repeat (first | exact .head | apply Ext.tail))) (by kernel_rfl) (by rfl) (by first | decide | (simp; done)) (by rfl) ?_
  intro wc hO_
  clear HO; have HO := Aside0.mk hO_; clear hO_
  refine hK.out _ _ (HO.out.picks (.cons (by (repeat (first | exact .head | apply Ext.tail))) (.cons (by (repeat (first | exact .head | apply Ext.tail))) (.nil)))) (fun hHeld => ?_)
  clear hK K
  refine done_ (by kernel_rfl) ?_
  clear hHeld
  go_wp2_with (first | ((with_reducible refine gate_dst (N := 82) rfl ?_); refine own_loadN HO.out rfl (x := .tmp 81) rfl (by rfl) (by (repeat (first | exact .head | apply Ext.tail))) (vs := [.int .u64 v0, .int .u64 v1, .int .u64 v2, .int .u64 v3, .int .i64 v4, .int .i64 v5]) (by rfl) Try.underlying26 (by rfl) (by kernel_rfl) (va := #[.int .u64 v0, .int .u64 v1, .int .u64 v2, .int .u64 v3, .int .i64 v4, .int .i64 v5]) rfl ?_) | ((with_reducible refine gate_callee (f := 16) rfl ?_); (with_reducible refine gate_dst (N := 83) rfl ?_); refine goesL_ (some 83) rfl rfl Try.func16 (by kernel_rfl) rfl #[.agg #[.int .u64 v0, .int .u64 v1, .int .u64 v2, .int .u64 v3, .int .i64 v4, .int .i64 v5]] rfl (by (try simp only [List.map_toArray, List.map_cons, List.map_nil]); first | done | rfl) ?_; (with_reducible refine (num_IsConst.calls v0 v1 v2 v3 v4 v5 cc cb _ HC.out).mono ?_); rintro e wx ⟨rfl, hb⟩; refine ⟨_, rfl, ?_⟩; have hO_ := HO.out.below hb; clear hb; clear HO; have HO := Aside0.mk hO_; clear hO_) | ((with_reducible refine gate_store (p := 87) rfl ?_); refine own_store HO.out rfl (ty := 22) (x := .tmp 87) (y := .tmp 84) (v := .int .u64 cc) (cs' := #[.int .u64 u0, .int .u64 u1, .int .u64 u2, .int .u64 u3, .int .i64 u4, .int .i64 u5, .int .u64 v0, .int .u64 v1, .int .u64 v2, .int .u64 v3, .int .i64 v4, .int .i64 v5, .int .u64 cc, .bool yb, .int .u64 32, .int .u64 l0, .int .u64 l1, .int .u64 l2, .int .u64 l3, .int .i64 l4, .int .i64 l5]) rfl (by rfl) (by rfl) (by (repeat (first | exact .head | apply Ext.tail))) (by kernel_rfl) (by rfl) (by first | decide | (simp; done)) (by rfl) ?_; intro wc hO_; clear HO; have HO := Aside0.mk hO_; clear hO_) | ((with_reducible refine gate_store (p := 89) rfl ?_); refine own_store HO.out rfl (ty := 4) (x := .tmp 89) (y := .tmp 85) (v := .bool cb) (cs' := #[.int .u64 u0, .int .u64 u1, .int .u64 u2, .int .u64 u3, .int .i64 u4, .int .i64 u5, .int .u64 v0, .int .u64 v1, .int .u64 v2, .int .u64 v3, .int .i64 v4, .int .i64 v5, .int .u64 cc, .bool cb, .int .u64 32, .int .u64 l0, .int .u64 l1, .int .u64 l2, .int .u64 l3, .int .i64 l4, .int .i64 l5]) rfl (by rfl) (by rfl) (by (repeat (first | exact .head | apply Ext.tail))) (by kernel_rfl) (by rfl) (by first | decide | (simp; done)) (by rfl) ?_; intro wc hO_; clear HO; have HO := Aside0.mk hO_; clear hO_) | ((with_reducible refine gate_dst (N := 92) rfl ?_); refine goesV_ (some 92) rfl rfl hF hn hb_ #[.pointer (some ⟨g60, 0, none⟩)] (p := 90) rfl (by rfl) (by (try simp only [List.map_toArray, List.map_cons, List.map_nil]); first | done | rfl) ?_; (have e_ : Own w _ ((g60, .cells #[.int .u64 u0, .int .u64 u1, .int .u64 u2, .int .u64 u3, .int .i64 u4, .int .i64 u5, .int .u64 v0, .int .u64 v1, .int .u64 v2, .int .u64 v3, .int .i64 v4, .int .i64 v5, .int .u64 cc, .bool cb, .int .u64 32, .int .u64 l0, .int .u64 l1, .int .u64 l2, .int .u64 l3, .int .i64 l4, .int .i64 l5] 46 (0, 0)) :: (g8, .cells #[.int .u64 0, .int .u64 0, .int .u64 0, .int .u64 0, .int .i64 0, .int .i64 0] 26 (0, 0)) :: []) := HO.out.picks (.cons (by (repeat (first | exact .head | apply Ext.tail))) (.cons (by (repeat (first | exact .head | apply Ext.tail))) (.nil)))); refine (XfOk.go HM.out _ _ g60 _ _ _ HQ.out e_).mono ?_; rintro e wx ⟨rfl, hO_⟩; refine ⟨_, rfl, ?_⟩; (have hO_ : Own w wx ((g60, .cells #[.int .u64 x0, .int .u64 x1, .int .u64 x2, .int .u64 x3, .int .i64 x4, .int .i64 x5, .int .u64 y0, .int .u64 y1, .int .u64 y2, .int .u64 y3, .int .i64 y4, .int .i64 y5, .int .u64 qc, .bool qb, .int .u64 qt, .int .u64 n0, .int .u64 n1, .int .u64 n2, .int .u64 n3, .int .i64 n4, .int .i64 n5] 46 (0, 0)) :: _) := hO_); clear e_; clear HO; have HO := Aside0.mk hO_; clear hO_) | ((with_reducible refine gate_dst (N := 97) rfl ?_); refine own_loadN HO.out rfl (x := .tmp 96) rfl (by rfl) (by (repeat (first | exact .head | apply Ext.tail))) (vs := [.int .u64 n0, .int .u64 n1, .int .u64 n2, .int .u64 n3, .int .i64 n4, .int .i64 n5]) (by rfl) Try.underlying26 (by rfl) (by kernel_rfl) (va := #[.int .u64 n0, .int .u64 n1, .int .u64 n2, .int .u64 n3, .int .i64 n4, .int .i64 n5]) rfl ?_) | ((with_reducible refine gate_callee (f := 20) rfl ?_); (with_reducible refine gate_dst (N := 98) rfl ?_); refine goesL_ (some 98) rfl rfl Try.func20 (by kernel_rfl) rfl #[.agg #[.int .u64 n0, .int .u64 n1, .int .u64 n2, .int .u64 n3, .int .i64 n4, .int .i64 n5]] rfl (by (try simp only [List.map_toArray, List.map_cons, List.map_nil]); first | done | rfl) ?_; (with_reducible refine (num_Refine.calls n0 n1 n2 n3 n4 n5 z0 z1 z2 z3 z4 z5 zb _ HZ.out).mono ?_); rintro e wx ⟨rfl, hb⟩; refine ⟨_, rfl, ?_⟩; have hO_ := HO.out.below hb; clear hb; clear HO; have HO := Aside0.mk hO_; clear hO_) | ((with_reducible refine gate_dst (N := 19) rfl ?_); refine own_box HO.out ?hg (N := 19) ?hd (cs := #[.int .u64 0, .int .u64 0, .int .u64 0, .int .u64 0, .int .i64 0, .int .i64 0]) (t := 26) ?hr ?_; (case hd => rfl); (case hg => rfl); (case hr => first | (go_simp; done) | (go_simp; rfl) | kernel_rfl); intro g19 w19 hO_; clear HO; have HO := Aside0.mk hO_; clear hO_) | ((with_reducible refine gate_store (p := 19) rfl ?_); refine own_storeN HO.out rfl (ty := 26) (x := .tmp 19) (y := .tmp 99) (vs := #[.int .u64 z0, .int .u64 z1, .int .u64 z2, .int .u64 z3, .int .i64 z4, .int .i64 z5]) (cs' := #[.int .u64 z0, .int .u64 z1, .int .u64 z2, .int .u64 z3, .int .i64 z4, .int .i64 z5]) rfl (by rfl) (by rfl) (by (repeat (first | exact .head | apply Ext.tail))) (by kernel_rfl) (by kernel_rfl) (by first | decide | (simp; done)) (by rfl) ?_; intro wc hO_; clear HO; have HO := Aside0.mk hO_; clear hO_) | ((with_reducible refine gate_dst (N := 103) rfl ?_); refine own_loadN HO.out rfl (x := .tmp 19) rfl (by rfl) (by (repeat (first | exact .head | apply Ext.tail))) (vs := [.int .u64 z0, .int .u64 z1, .int .u64 z2, .int .u64 z3, .int .i64 z4, .int .i64 z5]) (by rfl) Try.underlying26 (by rfl) (by kernel_rfl) (va := #[.int .u64 z0, .int .u64 z1, .int .u64 z2, .int .u64 z3, .int .i64 z4, .int .i64 z5]) rfl ?_) | ((with_reducible refine gate_callee (f := 19) rfl ?_); (with_reducible refine gate_dst (N := 104) rfl ?_); refine goesL_ (some 104) rfl rfl Try.func19 (by kernel_rfl) rfl #[.agg #[.int .u64 z0, .int .u64 z1, .int .u64 z2, .int .u64 z3, .int .i64 z4, .int .i64 z5], .int .i64 4] rfl (by (try simp only [List.map_toArray, List.map_cons, List.map_nil]); first | done | rfl) ?_; (with_reducible refine (num_Cut.calls k z0 z1 z2 z3 z4 z5 4 o0 o1 o2 o3 o4 o5 _ HE.out).mono ?_); rintro e wx ⟨rfl, hb⟩; refine ⟨_, rfl, ?_⟩; have hO_ := HO.out.below hb; clear hb; clear HO; have HO := Aside0.mk hO_; clear hO_) | ((with_reducible refine gate_store (p := 19) rfl ?_); refine own_storeN HO.out rfl (ty := 26) (x := .tmp 19) (y := .tmp 104) (vs := #[.int .u64 o0, .int .u64 o1, .int .u64 o2, .int .u64 o3, .int .i64 o4, .int .i64 o5]) (cs' := #[.int .u64 o0, .int .u64 o1, .int .u64 o2, .int .u64 o3, .int .i64 o4, .int .i64 o5]) rfl (by rfl) (by rfl) (by (repeat (first | exact .head | apply Ext.tail))) (by kernel_rfl) (by kernel_rfl) (by first | decide | (simp; done)) (by rfl) ?_; intro wc hO_; clear HO; have HO := Aside0.mk hO_; clear hO_) | ((with_reducible refine gate_dst (N := 105) rfl ?_); refine own_loadN HO.out rfl (x := .tmp 19) rfl (by rfl) (by (repeat (first | exact .head | apply Ext.tail))) (vs := [.int .u64 o0, .int .u64 o1, .int .u64 o2, .int .u64 o3, .int .i64 o4, .int .i64 o5]) (by rfl) Try.underlying26 (by rfl) (by kernel_rfl) (va := #[.int .u64 o0, .int .u64 o1, .int .u64 o2, .int .u64 o3, .int .i64 o4, .int .i64 o5]) rfl ?_) | ((with_reducible refine gate_store (p := 8) rfl ?_); refine own_storeN HO.out rfl (ty := 26) (x := .tmp 8) (y := .tmp 105) (vs := #[.int .u64 o0, .int .u64 o1, .int .u64 o2, .int .u64 o3, .int .i64 o4, .int .i64 o5]) (cs' := #[.int .u64 o0, .int .u64 o1, .int .u64 o2, .int .u64 o3, .int .i64 o4, .int .i64 o5]) rfl (by rfl) (by rfl) (by (repeat (first | exact .head | apply Ext.tail))) (by kernel_rfl) (by kernel_rfl) (by first | decide | (simp; done)) (by rfl) ?_; intro wc hO_; clear HO; have HO := Aside0.mk hO_; clear hO_))
  refine bodyPost_ret (results_ct rfl _ _ g8 26 #[.int .u64 o0, .int .u64 o1, .int .u64 o2, .int .u64 o3, .int .i64 o4, .int .i64 o5] (0, 0) _ rfl (HO.out.get (by (repeat (first | exact .head | apply Ext.tail)))) Try.underlying26 rfl (by kernel_rfl)) rfl ?_
  exact ⟨rfl, HO.out.bel⟩
 | true =>
  obtain rfl : yb = false := by simpa using hxy
  go_enter Try.func7, Try.ntmps7
  go_wp2_with (first | ((with_reducible refine gate_dst (N := 6) rfl ?_); refine own_box HO.out ?hg (N := 6) ?hd (cs := #[.int .u64 a2_0, .int .u64 a2_1, .int .u64 a2_2, .int .u64 a2_3, .int .i64 a2_4, .int .i64 a2_5]) (t := 26) ?hr ?_; (case hd => rfl); (case hg => rfl); (case hr => first | (go_simp; done) | (go_simp; rfl) | kernel_rfl); intro g6 w6 hO_; clear HO; have HO := Aside0.mk hO_; clear hO_) | ((with_reducible refine gate_dst (N := 7) rfl ?_); refine own_box HO.out ?hg (N := 7) ?hd (cs := #[.int .u64 a3_0, .int .u64 a3_1, .int .u64 a3_2, .int .u64 a3_3, .int .i64 a3_4, .int .i64 a3_5]) (t := 26) ?hr ?_; (case hd => rfl); (case hg => rfl); (case hr => first | (go_simp; done) | (go_simp; rfl) | kernel_rfl); intro g7 w7 hO_; clear HO; have HO := Aside0.mk hO_; clear hO_) | ((with_reducible refine gate_dst (N := 8) rfl ?_); refine own_box HO.out ?hg (N := 8) ?hd (cs := #[.int .u64 0, .int .u64 0, .int .u64 0, .int .u64 0, .int .i64 0, .int .i64 0]) (t := 26) ?hr ?_; (case hd => rfl); (case hg => rfl); (case hr => first | (go_simp; done) | (go_simp; rfl) | kernel_rfl); intro g8 w8 hO_; clear HO; have HO := Aside0.mk hO_; clear hO_) | ((with_reducible refine gate_callee (f := 14) rfl ?_); (with_reducible refine gate_dst (N := 22) rfl ?_); refine goesL_ (some 22) rfl rfl Try.func14 (by kernel_rfl) rfl #[] rfl (by (try simp only [List.map_toArray, List.map_cons, List.map_nil]); first | done | rfl) ?_; (with_reducible refine (xf_rows w _ _ HO.out).mono ?_); rintro e wx ⟨gm, rfl, hO_⟩; refine ⟨_, rfl, ?_⟩; clear HO; have HO := Aside0.mk hO_; clear hO_) | ((with_reducible refine gate_dst (N := 24) rfl ?_); refine own_lookup HO.out rfl (t := 41) (kv := .int .u8 a0) (z := .nilFunc) (v := .tuple #[.func (.func F) #[] #[], .bool true]) rfl Try.underlying41 Try.underlying5 (by rfl) (by rfl) rfl (by (repeat (first | exact .head | apply Ext.tail))) (by kernel_rfl) ((xf_find a0).trans (congrArg some HF.out)) rfl ?_) | ((with_reducible refine gate_dst (N := 31) rfl ?_); refine own_loadN HO.out rfl (x := .tmp 6) rfl (by rfl) (by (repeat (first | exact .head | apply Ext.tail))) (vs := [.int .u64 a2_0, .int .u64 a2_1, .int .u64 a2_2, .int .u64 a2_3, .int .i64 a2_4, .int .i64 a2_5]) (by rfl) Try.underlying26 (by rfl) (by kernel_rfl) (va := #[.int .u64 a2_0, .int .u64 a2_1, .int .u64 a2_2, .int .u64 a2_3, .int .i64 a2_4, .int .i64 a2_5]) rfl ?_) | ((with_reducible refine gate_callee (f := 16) rfl ?_); (with_reducible refine gate_dst (N := 32) rfl ?_); refine goesL_ (some 32) rfl rfl Try.func16 (by kernel_rfl) rfl #[.agg #[.int .u64 a2_0, .int .u64 a2_1, .int .u64 a2_2, .int .u64 a2_3, .int .i64 a2_4, .int .i64 a2_5]] rfl (by (try simp only [List.map_toArray, List.map_cons, List.map_nil]); first | done | rfl) ?_; (with_reducible refine (num_IsConst.calls a2_0 a2_1 a2_2 a2_3 a2_4 a2_5 xc _ _ HX.out).mono ?_); rintro e wx ⟨rfl, hb⟩; refine ⟨_, rfl, ?_⟩; have hO_ := HO.out.below hb; clear hb; clear HO; have HO := Aside0.mk hO_; clear hO_) | ((with_reducible refine gate_dst (N := 36) rfl ?_); refine own_loadN HO.out rfl (x := .tmp 7) rfl (by rfl) (by (repeat (first | exact .head | apply Ext.tail))) (vs := [.int .u64 a3_0, .int .u64 a3_1, .int .u64 a3_2, .int .u64 a3_3, .int .i64 a3_4, .int .i64 a3_5]) (by rfl) Try.underlying26 (by rfl) (by kernel_rfl) (va := #[.int .u64 a3_0, .int .u64 a3_1, .int .u64 a3_2, .int .u64 a3_3, .int .i64 a3_4, .int .i64 a3_5]) rfl ?_) | ((with_reducible refine gate_callee (f := 16) rfl ?_); (with_reducible refine gate_dst (N := 37) rfl ?_); refine goesL_ (some 37) rfl rfl Try.func16 (by kernel_rfl) rfl #[.agg #[.int .u64 a3_0, .int .u64 a3_1, .int .u64 a3_2, .int .u64 a3_3, .int .i64 a3_4, .int .i64 a3_5]] rfl (by (try simp only [List.map_toArray, List.map_cons, List.map_nil]); first | done | rfl) ?_; (with_reducible refine (num_IsConst.calls a3_0 a3_1 a3_2 a3_3 a3_4 a3_5 yc _ _ HY.out).mono ?_); rintro e wx ⟨rfl, hb⟩; refine ⟨_, rfl, ?_⟩; have hO_ := HO.out.below hb; clear hb; clear HO; have HO := Aside0.mk hO_; clear hO_))
  refine start_ (n := 8) (S := fun W => Own w W ((g6, .cells #[.int .u64 a2_0, .int .u64 a2_1, .int .u64 a2_2, .int .u64 a2_3, .int .i64 a2_4, .int .i64 a2_5] 26 (0, 0)) :: (g7, .cells #[.int .u64 a3_0, .int .u64 a3_1, .int .u64 a3_2, .int .u64 a3_3, .int .i64 a3_4, .int .i64 a3_5] 26 (0, 0)) :: [])) (ds := []) #[false, false, false, false, false, false, false, false] (by kernel_rfl) rfl rfl (Own.drew (HO.out.picks (.cons (by (repeat (first | exact .head | apply Ext.tail))) (.cons (by (repeat (first | exact .head | apply Ext.tail))) (.nil))))) (fun hHeld => ?_)
  have HO_ := Aside0.mk HO.out.drew
  clear HO
  have HO := HO_
  clear HO_
  generalize World.drew _ = wr at HO hHeld ⊢
  refine take_ (i := 0) (N := some 54) (v := .agg #[.int .u64 a2_0, .int .u64 a2_1, .int .u64 a2_2, .int .u64 a2_3, .int .i64 a2_4, .int .i64 a2_5]) (a' := ?_) (Hp.up 8 1) rfl rfl (by kernel_rfl) (fun _ _ _ h => h) (own_yieldN (by rfl) (x := .tmp 6) rfl (by rfl) (.head) (vs := [.int .u64 a2_0, .int .u64 a2_1, .int .u64 a2_2, .int .u64 a2_3, .int .i64 a2_4, .int .i64 a2_5]) (by rfl) Try.underlying26 (by rfl) (by kernel_rfl) rfl) hHeld ?_ ?_
  rotate_left
  ·simp only [Act.put, List.setIfInBounds_toArray, List.set_cons_zero, List.set_cons_succ, i64_w, i32_w]
   rfl
  refine take_ (i := 1) (N := some 55) (v := .agg #[.int .u64 a3_0, .int .u64 a3_1, .int .u64 a3_2, .int .u64 a3_3, .int .i64 a3_4, .int .i64 a3_5]) (a' := ?_) (Hp.up 8 2) rfl rfl (by kernel_rfl) (fun _ _ _ h => h) (own_yieldN (by rfl) (x := .tmp 7) rfl (by rfl) (.tail (.head)) (vs := [.int .u64 a3_0, .int .u64 a3_1, .int .u64 a3_2, .int .u64 a3_3, .int .i64 a3_4, .int .i64 a3_5]) (by rfl) Try.underlying26 (by rfl) (by kernel_rfl) rfl) hHeld ?_ ?_
  rotate_left
  ·simp only [Act.put, List.setIfInBounds_toArray, List.set_cons_zero, List.set_cons_succ, i64_w, i32_w]
   rfl
  refine Hp.pu_ 2 56 (Hp.up 8 3) ?_
  refine Hp.pu_ 3 57 (Hp.up 8 4) ?_
  refine one_ (i := 4) (N := some 58) (Hp.up 8 5) rfl rfl (by kernel_rfl) (by decide) (fun K hK => ?_)
  refine goes_ Try.func15 (by kernel_rfl) rfl #[] (by rfl) rfl rfl (by (try simp only [List.map_toArray, List.map_cons, List.map_nil]); first | done | rfl) ?_
  refine (num_All.calls l0 l1 l2 l3 l4 l5 _ HL.out).mono ?_
  rintro e wx ⟨rfl, hb⟩
  refine ⟨_, rfl, ?_⟩
  have hO_ := HO.out.below hb
  clear hb
  clear HO; have HO := Aside0.mk hO_; clear hO_
  refine hK.out _ _ (HO.out.picks (.cons (by (repeat (first | exact .head | apply Ext.tail))) (.cons (by (repeat (first | exact .head | apply Ext.tail))) (.nil)))) (fun hHeld => ?_)
  clear hK K
  refine norm_ (a' := ?_) ?_ ?_
  rotate_left
  ·show Act.put _ (some 58) _ = _
   simp only [Act.put, List.setIfInBounds_toArray, List.set_cons_zero, List.set_cons_succ, i64_w, i32_w]
   rfl
  refine Hp.pu_ 5 59 (Hp.up 8 6) ?_
  refine one_ (i := 6) (N := some 60) (Hp.up 8 7) rfl rfl (by kernel_rfl) (by decide) (fun K hK => ?_)
  refine own_box_k HO.out (by rfl) (N := 60) rfl (cs := #[.int .u64 a2_0, .int .u64 a2_1, .int .u64 a2_2, .int .u64 a2_3, .int .i64 a2_4, .int .i64 a2_5, .int .u64 a3_0, .int .u64 a3_1, .int .u64 a3_2, .int .u64 a3_3, .int .i64 a3_4, .int .i64 a3_5, .int .u64 yc, .bool false, .int .u64 64, .int .u64 l0, .int .u64 l1, .int .u64 l2, .int .u64 l3, .int .i64 l4, .int .i64 l5]) (t := 46) (by first | (go_simp; done) | (go_simp; rfl) | kernel_rfl) ?_
  intro g60 w60 hO_
  clear HO; have HO := Aside0.mk hO_; clear hO_
  refine hK.out _ _ (HO.out.picks (.cons (by (repeat (first | exact .head | apply Ext.tail))) (.cons (by (repeat (first | exact .head | apply Ext.tail))) (.nil)))) (fun hHeld => ?_)
  clear hK K
  refine norm_ (a' := ?_) ?_ ?_
  rotate_left
  ·show Act.put _ (some 60) _ = _
   simp only [Act.put, List.setIfInBounds_toArray, List.set_cons_zero, List.set_cons_succ, i64_w, i32_w]
   rfl
  refine Hp.pu_ 7 18 (Hp.up 8 8) ?_
  refine done_ (by kernel_rfl) ?_
  clear hHeld
  try go_wp2
  refine start_ (n := 16) (S := fun W => Own w W ((g6, .cells #[.int .u64 a2_0, .int .u64 a2_1, .int .u64 a2_2, .int .u64 a2_3, .int .i64 a2_4, .int .i64 a2_5] 26 (0, 0)) :: (g7, .cells #[.int .u64 a3_0, .int .u64 a3_1, .int .u64 a3_2, .int .u64 a3_3, .int .i64 a3_4, .int .i64 a3_5] 26 (0, 0)) :: [])) (ds := []) #[false, false, false, false, false, false, false, false, false, false, false, false, false, false, false, false] (by kernel_rfl) rfl rfl (Own.drew (HO.out.picks (.cons (by (repeat (first | exact .head | apply Ext.tail))) (.cons (by (repeat (first | exact .head | apply Ext.tail))) (.nil))))) (fun hHeld => ?_)
  have HO_ := Aside0.mk HO.out.drew
  clear HO
  have HO := HO_
  clear HO_
  generalize World.drew _ = wr at HO hHeld ⊢
  refine Hp.pu_ 0 63 (Hp.up 16 1) ?_
  refine Hp.pu_ 1 64 (Hp.up 16 2) ?_
  refine Hp.pu_ 2 65 (Hp.up 16 3) ?_
  refine take_ (i := 3) (N := some 66) (v := .agg #[.int .u64 a2_0, .int .u64 a2_1, .int .u64 a2_2, .int .u64 a2_3, .int .i64 a2_4, .int .i64 a2_5]) (a' := ?_) (Hp.up 16 4) rfl rfl (by kernel_rfl) (fun _ _ _ h => h) (own_yieldN (by rfl) (x := .tmp 6) rfl (by rfl) (.head) (vs := [.int .u64 a2_0, .int .u64 a2_1, .int .u64 a2_2, .int .u64 a2_3, .int .i64 a2_4, .int .i64 a2_5]) (by rfl) Try.underlying26 (by rfl) (by kernel_rfl) rfl) hHeld ?_ ?_
  rotate_left
  ·simp only [Act.put, List.setIfInBounds_toArray, List.set_cons_zero, List.set_cons_succ, i64_w, i32_w]
   rfl
  refine take_ (i := 5) (N := some 68) (v := .agg #[.int .u64 a3_0, .int .u64 a3_1, .int .u64 a3_2, .int .u64 a3_3, .int .i64 a3_4, .int .i64 a3_5]) (a' := ?_) #[true, true, true, true, false, true, false, false, false, false, false, false, false, false, false, false] rfl rfl (by kernel_rfl) (fun _ _ _ h => h) (own_yieldN (by rfl) (x := .tmp 7) rfl (by rfl) (.tail (.head)) (vs := [.int .u64 a3_0, .int .u64 a3_1, .int .u64 a3_2, .int .u64 a3_3, .int .i64 a3_4, .int .i64 a3_5]) (by rfl) Try.underlying26 (by rfl) (by kernel_rfl) rfl) hHeld ?_ ?_
  rotate_left
  ·simp only [Act.put, List.setIfInBounds_toArray, List.set_cons_zero, List.set_cons_succ, i64_w, i32_w]
   rfl
  refine one_ (i := 4) (N := some 67) (Hp.up 16 6) rfl rfl (by kernel_rfl) (by decide) (fun K hK => ?_)
  refine goes_ Try.func19 (by kernel_rfl) rfl #[.agg #[.int .u64 a2_0, .int .u64 a2_1, .int .u64 a2_2, .int .u64 a2_3, .int .i64 a2_4, .int .i64 a2_5], .int .i64 4] (by rfl) rfl rfl (by (try simp only [List.map_toArray, List.map_cons, List.map_nil]); first | done | rfl) ?_
  refine (num_Cut.calls k a2_0 a2_1 a2_2 a2_3 a2_4 a2_5 4 u0 u1 u2 u3 u4 u5 _ HU.out).mono ?_
  rintro e wx ⟨rfl, hb⟩
  refine ⟨_, rfl, ?_⟩
  have hO_ := HO.out.below hb
  clear hb
  clear HO; have HO := Aside0.mk hO_; clear hO_
  refine hK.out _ _ (HO.out.picks (.cons (by (repeat (first | exact .head | apply Ext.tail))) (.cons (by (repeat (first | exact .head | apply Ext.tail))) (.nil)))) (fun hHeld => ?_)
  clear hK K
  refine norm_ (a' := ?_) ?_ ?_
  rotate_left
  ·show Act.put _ (some 67) _ = _
   simp only [Act.put, List.setIfInBounds_toArray, List.set_cons_zero, List.set_cons_succ, i64_w, i32_w]
   rfl
  refine one_ (i := 6) (N := some 69) (Hp.up 16 7) rfl rfl (by kernel_rfl) (by decide) (fun K hK => ?_)
  refine goes_ Try.func19 (by kernel_rfl) rfl #[.agg #[.int .u64 a3_0, .int .u64 a3_1, .int .u64 a3_2, .int .u64 a3_3, .int .i64 a3_4, .int .i64 a3_5], .int .i64 4] (by rfl) rfl rfl (by (try simp only [List.map_toArray, List.map_cons, List.map_nil]); first | done | rfl) ?_
  refine (num_Cut.calls k a3_0 a3_1 a3_2 a3_3 a3_4 a3_5 4 v0 v1 v2 v3 v4 v5 _ HV.out).mono ?_
  rintro e wx ⟨rfl, hb⟩
  refine ⟨_, rfl, ?_⟩
  have hO_ := HO.out.below hb
  clear hb
  clear HO; have HO := Aside0.mk hO_; clear hO_
  refine hK.out _ _ (HO.out.picks (.cons (by (repeat (first | exact .head | apply Ext.tail))) (.cons (by (repeat (first | exact .head | apply Ext.tail))) (.nil)))) (fun hHeld => ?_)
  clear hK K
  refine norm_ (a' := ?_) ?_ ?_
  rotate_left
  ·show Act.put _ (some 69) _ = _
   simp only [Act.put, List.setIfInBounds_toArray, List.set_cons_zero, List.set_cons_succ, i64_w, i32_w]
   rfl
  refine Hp.pu_ 7 70 (Hp.up 16 8) ?_
  refine Hp.pu_ 8 71 (Hp.up 16 9) ?_
  refine one_ (i := 9) (N := none) (Hp.up 16 10) rfl rfl (by kernel_rfl) (by decide) (fun K hK => ?_)
  refine own_storeN_k HO.out (by rfl) rfl (ty := 26) (x := .tmp 71) (y := .tmp 67) (vs := #[.int .u64 u0, .int .u64 u1, .int .u64 u2, .int .u64 u3, .int .i64 u4, .int .i64 u5]) (cs' := #[.int .u64 u0, .int .u64 u1, .int .u64 u2, .int .u64 u3, .int .i64 u4, .int .i64 u5, .int .u64 a3_0, .int .u64 a3_1, .int .u64 a3_2, .int .u64 a3_3, .int .i64 a3_4, .int .i64 a3_5, .int .u64 yc, .bool false, .int .u64 64, .int .u64 l0, .int .u64 l1, .int .u64 l2, .int .u64 l3, .int .i64 l4, .int .i64 l5]) rfl (by rfl) (by rfl) (by (repeat (first | exact .head | apply Ext.tail))) (by kernel_rfl) (by kernel_rfl) (by first | decide | (simp; done)) (by rfl) ?_
  intro wc hO_
  clear HO; have HO := Aside0.mk hO_; clear hO_
  refine hK.out _ _ (HO.out.picks (.cons (by (repeat (first | exact .head | apply Ext.tail))) (.cons (by (repeat (first | exact .head | apply Ext.tail))) (.nil)))) (fun hHeld => ?_)
  clear hK K
  refine Hp.pu_ 10 72 (Hp.up 16 11) ?_
  refine Hp.pu_ 11 73 (Hp.up 16 12) ?_
  refine one_ (i := 12) (N := none) (Hp.up 16 13) rfl rfl (by kernel_rfl) (by decide) (fun K hK => ?_)
  refine own_storeN_k HO.out (by rfl) rfl (ty := 26) (x := .tmp 73) (y := .tmp 69) (vs := #[.int .u64 v0, .int .u64 v1, .int .u64 v2, .int .u64 v3, .int .i64 v4, .int .i64 v5]) (cs' := #[.int .u64 u0, .int .u64 u1, .int .u64 u2, .int .u64 u3, .int .i64 u4, .int .i64 u5, .int .u64 v0, .int .u64 v1, .int .u64 v2, .int .u64 v3, .int .i64 v4, .int .i64 v5, .int .u64 yc, .bool false, .int .u64 64, .int .u64 l0, .int .u64 l1, .int .u64 l2, .int .u64 l3, .int .i64 l4, .int .i64 l5]) rfl (by rfl) (by rfl) (by (repeat (first | exact .head | apply Ext.tail))) (by kernel_rfl) (by kernel_rfl) (by first | decide | (simp; done)) (by rfl) ?_
  intro wc hO_
  clear HO; have HO := Aside0.mk hO_; clear hO_
  refine hK.out _ _ (HO.out.picks (.cons (by (repeat (first | exact .head | apply Ext.tail))) (.cons (by (repeat (first | exact .head | apply Ext.tail))) (.nil)))) (fun hHeld => ?_)
  clear hK K
  refine Hp.pu_ 13 74 (Hp.up 16 14) ?_
  refine Hp.pu_ 14 75 (Hp.up 16 15) ?_
  refine one_ (i := 15) (N := none) (Hp.up 16 16) rfl rfl (by kernel_rfl) (by decide) (fun K hK => ?_)
  refine own_store_k HO.out (by rfl) rfl (ty := 22) (x := .tmp 75) (y := .const (.int .u64 32)) (v := .int .u64 32) (cs' := #[.int .u64 u0, .int .u64 u1, .int .u64 u2, .int .u64 u3, .int .i64 u4, .int .i64 u5, .int .u64 v0, .int .u64 v1, .int .u64 v2, .int .u64 v3, .int .i64 v4, .int .i64 v5, .int .u64 yc, .bool false, .int .u64 32, .int .u64 l0, .int .u64 l1, .int .u64 l2, .int .u64 l3, .int .i64 l4, .int .i64 l5]) rfl (by rfl) (by rfl) (by (repeat (first | exact .head | apply Ext.tail))) (by kernel_rfl) (by rfl) (by first | decide | (simp; done)) (by rfl) ?_
  intro wc hO_
  clear HO; have HO := Aside0.mk hO_; clear hO_
  refine hK.out _ _ (HO.out.picks (.cons (by (repeat (first | exact .head | apply Ext.tail))) (.cons (by (repeat (first | exact .head | apply Ext.tail))) (.nil)))) (fun hHeld => ?_)
  clear hK K
  refine done_ (by kernel_rfl) ?_
  clear hHeld
  go_wp2_with (first | ((with_reducible refine gate_dst (N := 82) rfl ?_); refine own_loadN HO.out rfl (x := .tmp 81) rfl (by rfl) (by (repeat (first | exact .head | apply Ext.tail))) (vs := [.int .u64 v0, .int .u64 v1, .int .u64 v2, .int .u64 v3, .int .i64 v4, .int .i64 v5]) (by rfl) Try.underlying26 (by rfl) (by kernel_rfl) (va := #[.int .u64 v0, .int .u64 v1, .int .u64 v2, .int .u64 v3, .int .i64 v4, .int .i64 v5]) rfl ?_) | ((with_reducible refine gate_callee (f := 16) rfl ?_); (with_reducible refine gate_dst (N := 83) rfl ?_); refine goesL_ (some 83) rfl rfl Try.func16 (by kernel_rfl) rfl #[.agg #[.int .u64 v0, .int .u64 v1, .int .u64 v2, .int .u64 v3, .int .i64 v4, .int .i64 v5]] rfl (by (try simp only [List.map_toArray, List.map_cons, List.map_nil]); first | done | rfl) ?_; (with_reducible refine (num_IsConst.calls v0 v1 v2 v3 v4 v5 cc cb _ HC.out).mono ?_); rintro e wx ⟨rfl, hb⟩; refine ⟨_, rfl, ?_⟩; have hO_ := HO.out.below hb; clear hb; clear HO; have HO := Aside0.mk hO_; clear hO_) | ((with_reducible refine gate_store (p := 87) rfl ?_); refine own_store HO.out rfl (ty := 22) (x := .tmp 87) (y := .tmp 84) (v := .int .u64 cc) (cs' := #[.int .u64 u0, .int .u64 u1, .int .u64 u2, .int .u64 u3, .int .i64 u4, .int .i64 u5, .int .u64 v0, .int .u64 v1, .int .u64 v2, .int .u64 v3, .int .i64 v4, .int .i64 v5, .int .u64 cc, .bool false, .int .u64 32, .int .u64 l0, .int .u64 l1, .int .u64 l2, .int .u64 l3, .int .i64 l4, .int .i64 l5]) rfl (by rfl) (by rfl) (by (repeat (first | exact .head | apply Ext.tail))) (by kernel_rfl) (by rfl) (by first | decide | (simp; done)) (by rfl) ?_; intro wc hO_; clear HO; have HO := Aside0.mk hO_; clear hO_) | ((with_reducible refine gate_store (p := 89) rfl ?_); refine own_store HO.out rfl (ty := 4) (x := .tmp 89) (y := .tmp 85) (v := .bool cb) (cs' := #[.int .u64 u0, .int .u64 u1, .int .u64 u2, .int .u64 u3, .int .i64 u4, .int .i64 u5, .int .u64 v0, .int .u64 v1, .int .u64 v2, .int .u64 v3, .int .i64 v4, .int .i64 v5, .int .u64 cc, .bool cb, .int .u64 32, .int .u64 l0, .int .u64 l1, .int .u64 l2, .int .u64 l3, .int .i64 l4, .int .i64 l5]) rfl (by rfl) (by rfl) (by (repeat (first | exact .head | apply Ext.tail))) (by kernel_rfl) (by rfl) (by first | decide | (simp; done)) (by rfl) ?_; intro wc hO_; clear HO; have HO := Aside0.mk hO_; clear hO_) | ((with_reducible refine gate_dst (N := 92) rfl ?_); refine goesV_ (some 92) rfl rfl hF hn hb_ #[.pointer (some ⟨g60, 0, none⟩)] (p := 90) rfl (by rfl) (by (try simp only [List.map_toArray, List.map_cons, List.map_nil]); first | done | rfl) ?_; (have e_ : Own w _ ((g60, .cells #[.int .u64 u0, .int .u64 u1, .int .u64 u2, .int .u64 u3, .int .i64 u4, .int .i64 u5, .int .u64 v0, .int .u64 v1, .int .u64 v2, .int .u64 v3, .int .i64 v4, .int .i64 v5, .int .u64 cc, .bool cb, .int .u64 32, .int .u64 l0, .int .u64 l1, .int .u64 l2, .int .u64 l3, .int .i64 l4, .int .i64 l5] 46 (0, 0)) :: (g8, .cells #[.int .u64 0, .int .u64 0, .int .u64 0, .int .u64 0, .int .i64 0, .int .i64 0] 26 (0, 0)) :: []) := HO.out.picks (.cons (by (repeat (first | exact .head | apply Ext.tail))) (.cons (by (repeat (first | exact .head | apply Ext.tail))) (.nil)))); refine (XfOk.go HM.out _ _ g60 _ _ _ HQ.out e_).mono ?_; rintro e wx ⟨rfl, hO_⟩; refine ⟨_, rfl, ?_⟩; (have hO_ : Own w wx ((g60, .cells #[.int .u64 x0, .int .u64 x1, .int .u64 x2, .int .u64 x3, .int .i64 x4, .int .i64 x5, .int .u64 y0, .int .u64 y1, .int .u64 y2, .int .u64 y3, .int .i64 y4, .int .i64 y5, .int .u64 qc, .bool qb, .int .u64 qt, .int .u64 n0, .int .u64 n1, .int .u64 n2, .int .u64 n3, .int .i64 n4, .int .i64 n5] 46 (0, 0)) :: _) := hO_); clear e_; clear HO; have HO := Aside0.mk hO_; clear hO_) | ((with_reducible refine gate_dst (N := 97) rfl ?_); refine own_loadN HO.out rfl (x := .tmp 96) rfl (by rfl) (by (repeat (first | exact .head | apply Ext.tail))) (vs := [.int .u64 n0, .int .u64 n1, .int .u64 n2, .int .u64 n3, .int .i64 n4, .int .i64 n5]) (by rfl) Try.underlying26 (by rfl) (by kernel_rfl) (va := #[.int .u64 n0, .int .u64 n1, .int .u64 n2, .int .u64 n3, .int .i64 n4, .int .i64 n5]) rfl ?_) | ((with_reducible refine gate_callee (f := 20) rfl ?_); (with_reducible refine gate_dst (N := 98) rfl ?_); refine goesL_ (some 98) rfl rfl Try.func20 (by kernel_rfl) rfl #[.agg #[.int .u64 n0, .int .u64 n1, .int .u64 n2, .int .u64 n3, .int .i64 n4, .int .i64 n5]] rfl (by (try simp only [List.map_toArray, List.map_cons, List.map_nil]); first | done | rfl) ?_; (with_reducible refine (num_Refine.calls n0 n1 n2 n3 n4 n5 z0 z1 z2 z3 z4 z5 zb _ HZ.out).mono ?_); rintro e wx ⟨rfl, hb⟩; refine ⟨_, rfl, ?_⟩; have hO_ := HO.out.below hb; clear hb; clear HO; have HO := Aside0.mk hO_; clear hO_) | ((with_reducible refine gate_dst (N := 19) rfl ?_); refine own_box HO.out ?hg (N := 19) ?hd (cs := #[.int .u64 0, .int .u64 0, .int .u64 0, .int .u64 0, .int .i64 0, .int .i64 0]) (t := 26) ?hr ?_; (case hd => rfl); (case hg => rfl); (case hr => first | (go_simp; done) | (go_simp; rfl) | kernel_rfl); intro g19 w19 hO_; clear HO; have HO := Aside0.mk hO_; clear hO_) | ((with_reducible refine gate_store (p := 19) rfl ?_); refine own_storeN HO.out rfl (ty := 26) (x := .tmp 19) (y := .tmp 99) (vs := #[.int .u64 z0, .int .u64 z1, .int .u64 z2, .int .u64 z3, .int .i64 z4, .int .i64 z5]) (cs' := #[.int .u64 z0, .int .u64 z1, .int .u64 z2, .int .u64 z3, .int .i64 z4, .int .i64 z5]) rfl (by rfl) (by rfl) (by (repeat (first | exact .head | apply Ext.tail))) (by kernel_rfl) (by kernel_rfl) (by first | decide | (simp; done)) (by rfl) ?_; intro wc hO_; clear HO; have HO := Aside0.mk hO_; clear hO_) | ((with_reducible refine gate_dst (N := 103) rfl ?_); refine own_loadN HO.out rfl (x := .tmp 19) rfl (by rfl) (by (repeat (first | exact .head | apply Ext.tail))) (vs := [.int .u64 z0, .int .u64 z1, .int .u64 z2, .int .u64 z3, .int .i64 z4, .int .i64 z5]) (by rfl) Try.underlying26 (by rfl) (by kernel_rfl) (va := #[.int .u64 z0, .int .u64 z1, .int .u64 z2, .int .u64 z3, .int .i64 z4, .int .i64 z5]) rfl ?_) | ((with_reducible refine gate_callee (f := 19) rfl ?_); (with_reducible refine gate_dst (N := 104) rfl ?_); refine goesL_ (some 104) rfl rfl Try.func19 (by kernel_rfl) rfl #[.agg #[.int .u64 z0, .int .u64 z1, .int .u64 z2, .int .u64 z3, .int .i64 z4, .int .i64 z5], .int .i64 4] rfl (by (try simp only [List.map_toArray, List.map_cons, List.map_nil]); first | done | rfl) ?_; (with_reducible refine (num_Cut.calls k z0 z1 z2 z3 z4 z5 4 o0 o1 o2 o3 o4 o5 _ HE.out).mono ?_); rintro e wx ⟨rfl, hb⟩; refine ⟨_, rfl, ?_⟩; have hO_ := HO.out.below hb; clear hb; clear HO; have HO := Aside0.mk hO_; clear hO_) | ((with_reducible refine gate_store (p := 19) rfl ?_); refine own_storeN HO.out rfl (ty := 26) (x := .tmp 19) (y := .tmp 104) (vs := #[.int .u64 o0, .int .u64 o1, .int .u64 o2, .int .u64 o3, .int .i64 o4, .int .i64 o5]) (cs' := #[.int .u64 o0, .int .u64 o1, .int .u64 o2, .int .u64 o3, .int .i64 o4, .int .i64 o5]) rfl (by rfl) (by rfl) (by (repeat (first | exact .head | apply Ext.tail))) (by kernel_rfl) (by kernel_rfl) (by first | decide | (simp; done)) (by rfl) ?_; intro wc hO_; clear HO; have HO := Aside0.mk hO_; clear hO_) | ((with_reducible refine gate_dst (N := 105) rfl ?_); refine own_loadN HO.out rfl (x := .tmp 19) rfl (by rfl) (by (repeat (first | exact .head | apply Ext.tail))) (vs := [.int .u64 o0, .int .u64 o1, .int .u64 o2, .int .u64 o3, .int .i64 o4, .int .i64 o5]) (by rfl) Try.underlying26 (by rfl) (by kernel_rfl) (va := #[.int .u64 o0, .int .u64 o1, .int .u64 o2, .int .u64 o3, .int .i64 o4, .int .i64 o5]) rfl ?_) | ((with_reducible refine gate_store (p := 8) rfl ?_); refine own_storeN HO.out rfl (ty := 26) (x := .tmp 8) (y := .tmp 105) (vs := #[.int .u64 o0, .int .u64 o1, .int .u64 o2, .int .u64 o3, .int .i64 o4, .int .i64 o5]) (cs' := #[.int .u64 o0, .int .u64 o1, .int .u64 o2, .int .u64 o3, .int .i64 o4, .int .i64 o5]) rfl (by rfl) (by rfl) (by (repeat (first | exact .head | apply Ext.tail))) (by kernel_rfl) (by kernel_rfl) (by first | decide | (simp; done)) (by rfl) ?_; intro wc hO_; clear HO; have HO := Aside0.mk hO_; clear hO_))
  refine bodyPost_ret (results_ct rfl _ _ g8 26 #[.int .u64 o0, .int .u64 o1, .int .u64 o2, .int .u64 o3, .int .i64 o4, .int .i64 o5] (0, 0) _ rfl (HO.out.get (by (repeat (first | exact .head | apply Ext.tail)))) Try.underlying26 rfl (by kernel_rfl)) rfl ?_
  exact ⟨rfl, HO.out.bel⟩
theorem xfer_Do.calls (k : Nat) (a0 : Int) (a1 : Bool) (a2_0 a2_1 a2_2 a2_3 a2_4 a2_5 a3_0 a3_1 a3_2 a3_3 a3_4 a3_5 : Int) (r1 r2 r3 r4 r5 r6 : Int) (r7 : Bool) (w : World) (h : xfer_Do.f k a0 a1 a2_0 a2_1 a2_2 a2_3 a2_4 a2_5 a3_0 a3_1 a3_2 a3_3 a3_4 a3_5 = some (r1, r2, r3, r4, r5, r6, r7)) :
  Calls Try.prog 7 #[.int .u8 a0, .bool a1, .agg #[.int .u64 a2_0, .int .u64 a2_1, .int .u64 a2_2, .int .u64 a2_3, .int .i64 a2_4, .int .i64 a2_5], .agg #[.int .u64 a3_0, .int .u64 a3_1, .int .u64 a3_2, .int .u64 a3_3, .int .i64 a3_4, .int .i64 a3_5]] w fun e w' => e = .returned (.tuple #[.agg #[.int .u64 r1, .int .u64 r2, .int .u64 r3, .int .u64 r4, .int .i64 r5, .int .i64 r6], .bool r7]) ∧ Below w.heap.size w w' := by
 unfold xfer_Do.f at h
 cases hi : xfIs a0 with
 | false =>
  rw [hi, if_neg Bool.false_ne_true] at h
  exact xf_do_miss k a0 a1 a2_0 a2_1 a2_2 a2_3 a2_4 a2_5 a3_0 a3_1 a3_2 a3_3 a3_4 a3_5 r1 r2 r3 r4 r5 r6 r7 w hi h
 | true =>
  rw [hi, if_pos rfl] at h
  obtain ⟨⟨xc, xb⟩, hx, h_⟩ := Option.bind_eq_some_iff.mp h
  clear h
  obtain ⟨⟨yc, yb⟩, hy, h⟩ := Option.bind_eq_some_iff.mp h_
  clear h_
  dsimp only at h
  cases hxy : (xb && yb) with
  | true =>
   rw [hxy, if_pos rfl] at h
   simp only [Bool.and_eq_true] at hxy
   obtain ⟨rfl, rfl⟩ := hxy
   exact xf_do_consts k a0 a1 a2_0 a2_1 a2_2 a2_3 a2_4 a2_5 a3_0 a3_1 a3_2 a3_3 a3_4 a3_5 r1 r2 r3 r4 r5 r6 r7 w xc yc hi hx hy h
  | false =>
   rw [hxy, if_neg Bool.false_ne_true] at h
   obtain ⟨⟨l0, l1, l2, l3, l4, l5⟩, hl, h_⟩ := Option.bind_eq_some_iff.mp h
   clear h
   dsimp only at h_
   cases a1 with
   | true =>
    rw [if_pos rfl] at h_
    exact xf_do_wide k a0 a2_0 a2_1 a2_2 a2_3 a2_4 a2_5 a3_0 a3_1 a3_2 a3_3 a3_4 a3_5 r1 r2 r3 r4 r5 r6 r7 w xc yc xb yb l0 l1 l2 l3 l4 l5 hi hx hy hxy hl h_
   | false =>
    rw [if_neg Bool.false_ne_true] at h_
    exact xf_do_low k a0 a2_0 a2_1 a2_2 a2_3 a2_4 a2_5 a3_0 a3_1 a3_2 a3_3 a3_4 a3_5 r1 r2 r3 r4 r5 r6 r7 w xc yc xb yb l0 l1 l2 l3 l4 l5 hi hx hy hxy hl h_


/-! ### halberdref07_Const: function 11 -/
def halberdref07_Const.f (a0 : Int) : Option (Int × Int × Int × Int × Int × Int) := some (a0, 0, a0, a0, wrap64 (a0), wrap64 (a0))
set_option maxHeartbeats 8000000 in
set_option maxRecDepth 100000 in
theorem halberdref07_Const.calls (a0 : Int) (r1 : Int) (r2 : Int) (r3 : Int) (r4 : Int) (r5 : Int) (r6 : Int) (w : World) (h : halberdref07_Const.f a0 = some (r1, r2, r3, r4, r5, r6)) :
  Calls Try.prog 11 #[.int .u64 a0] w fun e w' => e = .returned (.agg #[.int .u64 r1, .int .u64 r2, .int .u64 r3, .int .u64 r4, .int .i64 r5, .int .i64 r6]) ∧ Below w.heap.size w w' := by
 have hu26 := Try.underlying26
 have hu24 := Try.underlying24
 have HB := Aside0.mk (Below.refl w.heap.size w)
 have H : (some (a0, 0, a0, a0, wrap64 (a0), wrap64 (a0))) = some (r1, r2, r3, r4, r5, r6) := h
 clear h
 simp only [Option.some.injEq, Prod.mk.injEq] at H
 obtain ⟨rfl, rfl, rfl, rfl, rfl, rfl⟩ := H
 go_enter Try.func11, Try.ntmps11
 go_wp2_with (first | ((with_reducible refine gate_dst (N := 2) rfl ?_); refine box_event ?hg (N := 2) ?hd (cs := #[.int .u64 0, .int .u64 0, .int .u64 0, .int .u64 0, .int .i64 0, .int .i64 0]) (t := 26) ?hr ?_; (case hd => rfl); (case hg => rfl); (case hr => first | (go_simp; done) | (go_simp; rfl)); intro gb231 hg w2 hbox hb; have n0_ := Aside0.mk (below_step (by repeat (first | (with_reducible first | exact HB.out | apply below_alloc | apply pw_below_drewN | apply below_drew1) | exact HB.out)) hb); have n1_ := Aside0.mk (hbox); have n2_ := Aside0.mk ((by rw [hg]; exact (below_size (by repeat (first | (with_reducible first | exact HB.out | apply below_alloc | apply pw_below_drewN | apply below_drew1) | exact HB.out))) : w.heap.size ≤ gb231)); have n3_ := Aside0.mk ((by rw [hg]; exact (below_size (by repeat (first | (with_reducible first | exact HB.out | apply below_alloc | apply pw_below_drewN | apply below_drew1) | exact HB.out))) : w.heap.size ≤ gb231)); clear HB; have HB := n0_; have BK231 := n1_; have GW231 := n2_; have GE231 := n3_; clear n0_ n1_ n2_ n3_; clear hb hbox hg; have hcz3_0 : w2.cell? ⟨gb231, 0, none⟩ = some (.int .u64 0) := (blk_cell BK231.out 0).trans rfl; have hcz3_1 : w2.cell? ⟨gb231, 1, none⟩ = some (.int .u64 0) := (blk_cell BK231.out 1).trans rfl; have hcz3_2 : w2.cell? ⟨gb231, 2, none⟩ = some (.int .u64 0) := (blk_cell BK231.out 2).trans rfl; have hcz3_3 : w2.cell? ⟨gb231, 3, none⟩ = some (.int .u64 0) := (blk_cell BK231.out 3).trans rfl; have hcz3_4 : w2.cell? ⟨gb231, 4, none⟩ = some (.int .i64 0) := (blk_cell BK231.out 4).trans rfl; have hcz3_5 : w2.cell? ⟨gb231, 5, none⟩ = some (.int .i64 0) := (blk_cell BK231.out 5).trans rfl; have hfz3_0 := blk_frozen BK231.out 0; have hfz3_1 := blk_frozen BK231.out 1; have hfz3_2 := blk_frozen BK231.out 2; have hfz3_3 := blk_frozen BK231.out 3; have hfz3_4 := blk_frozen BK231.out 4; have hfz3_5 := blk_frozen BK231.out 5))
 refine bodyPost_ret (results_cell_row rfl _ _ gb231 26 #[.int .u64 a0, .int .u64 0, .int .u64 a0, .int .u64 a0, .int .i64 (wrap64 (a0)), .int .i64 (wrap64 (a0))] (0, 0) _ rfl (by (with_reducible repeat (first | refine blk_drewN ?_ _ | refine blk_drew ?_ | refine blk_alloc ?_ _)); refine blk_put (cs := #[.int .u64 a0, .int .u64 0, .int .u64 a0, .int .u64 a0, .int .i64 (wrap64 (a0)), .int .i64 0]) ?_ 5 _ rfl; (with_reducible repeat (first | refine blk_drewN ?_ _ | refine blk_drew ?_ | refine blk_alloc ?_ _)); refine blk_put (cs := #[.int .u64 a0, .int .u64 0, .int .u64 a0, .int .u64 a0, .int .i64 0, .int .i64 0]) ?_ 4 _ rfl; (with_reducible repeat (first | refine blk_drewN ?_ _ | refine blk_drew ?_ | refine blk_alloc ?_ _)); refine blk_put (cs := #[.int .u64 a0, .int .u64 0, .int .u64 a0, .int .u64 0, .int .i64 0, .int .i64 0]) ?_ 3 _ rfl; (with_reducible repeat (first | refine blk_drewN ?_ _ | refine blk_drew ?_ | refine blk_alloc ?_ _)); refine blk_put (cs := #[.int .u64 a0, .int .u64 0, .int .u64 0, .int .u64 0, .int .i64 0, .int .i64 0]) ?_ 2 _ rfl; (with_reducible repeat (first | refine blk_drewN ?_ _ | refine blk_drew ?_ | refine blk_alloc ?_ _)); refine blk_put (cs := #[.int .u64 a0, .int .u64 0, .int .u64 0, .int .u64 0, .int .i64 0, .int .i64 0]) ?_ 1 _ rfl; (with_reducible repeat (first | refine blk_drewN ?_ _ | refine blk_drew ?_ | refine blk_alloc ?_ _)); refine blk_put (cs := #[.int .u64 0, .int .u64 0, .int .u64 0, .int .u64 0, .int .i64 0, .int .i64 0]) ?_ 0 _ rfl; (with_reducible repeat (first | refine blk_drewN ?_ _ | refine blk_drew ?_ | refine blk_alloc ?_ _)); exact BK231.out) Try.underlying26 rfl (by kernel_rfl)) rfl ?_
 exact ⟨by first | rfl | (simp [errW_none, errW_some] <;> rfl) | (simp [*, errW_none, errW_some] <;> rfl), by repeat (first | (with_reducible first | exact HB.out | apply below_alloc | apply pw_below_drewN | apply below_drew1 | refine below_set ?_ GE231.out) | exact HB.out)⟩

/-! ### halberdref07_All: function 13 -/
def halberdref07_All.f  : Option (Int × Int × Int × Int × Int × Int) := some (0, 18446744073709551615, 0, 18446744073709551615, (-9223372036854775808), 9223372036854775807)
set_option maxHeartbeats 8000000 in
set_option maxRecDepth 100000 in
theorem halberdref07_All.calls  (r1 : Int) (r2 : Int) (r3 : Int) (r4 : Int) (r5 : Int) (r6 : Int) (w : World) (h : halberdref07_All.f  = some (r1, r2, r3, r4, r5, r6)) :
  Calls Try.prog 13 #[] w fun e w' => e = .returned (.agg #[.int .u64 r1, .int .u64 r2, .int .u64 r3, .int .u64 r4, .int .i64 r5, .int .i64 r6]) ∧ Below w.heap.size w w' := by
 have hu26 := Try.underlying26
 have hu24 := Try.underlying24
 have HB := Aside0.mk (Below.refl w.heap.size w)
 have H : (some (0, 18446744073709551615, 0, 18446744073709551615, (-9223372036854775808), 9223372036854775807)) = some (r1, r2, r3, r4, r5, r6) := h
 clear h
 simp only [Option.some.injEq, Prod.mk.injEq] at H
 obtain ⟨rfl, rfl, rfl, rfl, rfl, rfl⟩ := H
 go_enter Try.func13, Try.ntmps13
 go_wp2_with (first | ((with_reducible refine gate_dst (N := 0) rfl ?_); refine box_event ?hg (N := 0) ?hd (cs := #[.int .u64 0, .int .u64 0, .int .u64 0, .int .u64 0, .int .i64 0, .int .i64 0]) (t := 26) ?hr ?_; (case hd => rfl); (case hg => rfl); (case hr => first | (go_simp; done) | (go_simp; rfl)); intro gb232 hg w1 hbox hb; have n0_ := Aside0.mk (below_step (by repeat (first | (with_reducible first | exact HB.out | apply below_alloc | apply pw_below_drewN | apply below_drew1) | exact HB.out)) hb); have n1_ := Aside0.mk (hbox); have n2_ := Aside0.mk ((by rw [hg]; exact (below_size (by repeat (first | (with_reducible first | exact HB.out | apply below_alloc | apply pw_below_drewN | apply below_drew1) | exact HB.out))) : w.heap.size ≤ gb232)); have n3_ := Aside0.mk ((by rw [hg]; exact (below_size (by repeat (first | (with_reducible first | exact HB.out | apply below_alloc | apply pw_below_drewN | apply below_drew1) | exact HB.out))) : w.heap.size ≤ gb232)); clear HB; have HB := n0_; have BK232 := n1_; have GW232 := n2_; have GE232 := n3_; clear n0_ n1_ n2_ n3_; clear hb hbox hg; have hcz2_0 : w1.cell? ⟨gb232, 0, none⟩ = some (.int .u64 0) := (blk_cell BK232.out 0).trans rfl; have hcz2_1 : w1.cell? ⟨gb232, 1, none⟩ = some (.int .u64 0) := (blk_cell BK232.out 1).trans rfl; have hcz2_2 : w1.cell? ⟨gb232, 2, none⟩ = some (.int .u64 0) := (blk_cell BK232.out 2).trans rfl; have hcz2_3 : w1.cell? ⟨gb232, 3, none⟩ = some (.int .u64 0) := (blk_cell BK232.out 3).trans rfl; have hcz2_4 : w1.cell? ⟨gb232, 4, none⟩ = some (.int .i64 0) := (blk_cell BK232.out 4).trans rfl; have hcz2_5 : w1.cell? ⟨gb232, 5, none⟩ = some (.int .i64 0) := (blk_cell BK232.out 5).trans rfl; have hfz2_0 := blk_frozen BK232.out 0; have hfz2_1 := blk_frozen BK232.out 1; have hfz2_2 := blk_frozen BK232.out 2; have hfz2_3 := blk_frozen BK232.out 3; have hfz2_4 := blk_frozen BK232.out 4; have hfz2_5 := blk_frozen BK232.out 5))
 refine bodyPost_ret (results_cell_row rfl _ _ gb232 26 #[.int .u64 0, .int .u64 18446744073709551615, .int .u64 0, .int .u64 18446744073709551615, .int .i64 (-9223372036854775808), .int .i64 9223372036854775807] (0, 0) _ rfl (by (with_reducible repeat (first | refine blk_drewN ?_ _ | refine blk_drew ?_ | refine blk_alloc ?_ _)); refine blk_put (cs := #[.int .u64 0, .int .u64 18446744073709551615, .int .u64 0, .int .u64 18446744073709551615, .int .i64 (-9223372036854775808), .int .i64 0]) ?_ 5 _ rfl; (with_reducible repeat (first | refine blk_drewN ?_ _ | refine blk_drew ?_ | refine blk_alloc ?_ _)); refine blk_put (cs := #[.int .u64 0, .int .u64 18446744073709551615, .int .u64 0, .int .u64 18446744073709551615, .int .i64 0, .int .i64 0]) ?_ 4 _ rfl; (with_reducible repeat (first | refine blk_drewN ?_ _ | refine blk_drew ?_ | refine blk_alloc ?_ _)); refine blk_put (cs := #[.int .u64 0, .int .u64 18446744073709551615, .int .u64 0, .int .u64 0, .int .i64 0, .int .i64 0]) ?_ 3 _ rfl; (with_reducible repeat (first | refine blk_drewN ?_ _ | refine blk_drew ?_ | refine blk_alloc ?_ _)); refine blk_put (cs := #[.int .u64 0, .int .u64 18446744073709551615, .int .u64 0, .int .u64 0, .int .i64 0, .int .i64 0]) ?_ 2 _ rfl; (with_reducible repeat (first | refine blk_drewN ?_ _ | refine blk_drew ?_ | refine blk_alloc ?_ _)); refine blk_put (cs := #[.int .u64 0, .int .u64 0, .int .u64 0, .int .u64 0, .int .i64 0, .int .i64 0]) ?_ 1 _ rfl; (with_reducible repeat (first | refine blk_drewN ?_ _ | refine blk_drew ?_ | refine blk_alloc ?_ _)); refine blk_put (cs := #[.int .u64 0, .int .u64 0, .int .u64 0, .int .u64 0, .int .i64 0, .int .i64 0]) ?_ 0 _ rfl; (with_reducible repeat (first | refine blk_drewN ?_ _ | refine blk_drew ?_ | refine blk_alloc ?_ _)); exact BK232.out) Try.underlying26 rfl (by kernel_rfl)) rfl ?_
 exact ⟨by first | rfl | (simp [errW_none, errW_some] <;> rfl) | (simp [*, errW_none, errW_some] <;> rfl), by repeat (first | (with_reducible first | exact HB.out | apply below_alloc | apply pw_below_drewN | apply below_drew1 | refine below_set ?_ GE232.out) | exact HB.out)⟩

/-! ### halberdref06_Bit: function 56 -/
def halberdref06_Bit.l0 : Nat → Int → Int → Int → Int → Option (Bool × Bool)
 | 0, _, _, _, _ => none
 | k + 1, x1, x6, x7, x8 => if x8 < x1 then (halberdref06_Bit.l0 k x1 (IntKind.u64.wrap (Int.tdiv x6 2)) (IntKind.u64.wrap (Int.tdiv x7 2)) (wrap64 (x8 + 1))) else (if (Int.tmod x6 2) = 1 then (some (true, true)) else (some (((Int.tmod x7 2) == 0), ((Int.tmod x7 2) == 1))))
def halberdref06_Bit.f (k : Nat) (a0_0 : Int) (a0_1 : Int) (a1 : Int) : Option (Bool × Bool) := halberdref06_Bit.l0 k a1 a0_1 a0_0 0
theorem halberdref06_Bit.mono_l : ∀ k, (∀ y0 y1 y2 y3, LeO (halberdref06_Bit.l0 k y0 y1 y2 y3) (halberdref06_Bit.l0 (k + 1) y0 y1 y2 y3))
 | 0 => fun _ _ _ _ r h => by simp [halberdref06_Bit.l0] at h
 | k + 1 => by
  have ih0 := halberdref06_Bit.mono_l k
  ·intro y0 y1 y2 y3
   unfold halberdref06_Bit.l0
   repeat' first
   | (with_reducible exact ih0 _ _ _ _)
   | (with_reducible exact LeO.refl _)
   | (with_reducible exact LeO.none _)
   | (with_reducible refine LeO.ite ?_ ?_)
   | (with_reducible refine LeO.bind ?_ (fun _ => ?_))
   | exact ih0 _ _ _ _
   | exact LeO.none _
   | refine LeO.ite ?_ ?_
   | refine LeO.bind ?_ (fun _ => ?_)
theorem halberdref06_Bit.mono : ∀ a0 a1 a2 k, LeO (halberdref06_Bit.f k a0 a1 a2) (halberdref06_Bit.f (k + 1) a0 a1 a2) := by
 intro a0 a1 a2 k
 have ih0 := halberdref06_Bit.mono_l k
 unfold halberdref06_Bit.f
 repeat' first
   | (with_reducible exact ih0 _ _ _ _)
   | (with_reducible exact LeO.refl _)
   | (with_reducible exact LeO.none _)
   | (with_reducible refine LeO.ite ?_ ?_)
   | (with_reducible refine LeO.bind ?_ (fun _ => ?_))
   | exact ih0 _ _ _ _
   | exact LeO.none _
   | refine LeO.ite ?_ ?_
   | refine LeO.bind ?_ (fun _ => ?_)
set_option maxHeartbeats 8000000 in
set_option maxRecDepth 100000 in
theorem halberdref06_Bit.calls (k : Nat) (a0_0 : Int) (a0_1 : Int) (a1 : Int) (r1 : Bool) (r2 : Bool) (w : World) (h : halberdref06_Bit.f k a0_0 a0_1 a1 = some (r1, r2)) :
  Calls Try.prog 56 #[.agg #[.int .u64 a0_0, .int .u64 a0_1], .int .i64 a1] w fun e w' => e = .returned (.tuple #[.bool r1, .bool r2]) ∧ Below w.heap.size w w' := by
 have hu24 := Try.underlying24
 have HB := Aside0.mk (Below.refl w.heap.size w)
 have H : (halberdref06_Bit.l0 k a1 a0_1 a0_0 0) = some (r1, r2) := h
 clear h
 have H' := Aside0.mk H
 clear H
 go_enter Try.func56, Try.ntmps56
 go_wp2_with (first | ((with_reducible refine gate_dst (N := 2) rfl ?_); refine box_event ?hg (N := 2) ?hd (cs := #[.int .u64 a0_0, .int .u64 a0_1]) (t := 24) ?hr ?_; (case hd => rfl); (case hg => rfl); (case hr => first | (go_simp; done) | (go_simp; rfl)); intro gb233 hg w3 hbox hb; have n0_ := Aside0.mk (below_step (by repeat (first | (with_reducible first | exact HB.out | apply below_alloc | apply pw_below_drewN | apply below_drew1) | exact HB.out)) hb); have n1_ := Aside0.mk (hbox); have n2_ := Aside0.mk ((by rw [hg]; exact (below_size (by repeat (first | (with_reducible first | exact HB.out | apply below_alloc | apply pw_below_drewN | apply below_drew1) | exact HB.out))) : w.heap.size ≤ gb233)); have n3_ := Aside0.mk ((by rw [hg]; exact (below_size (by repeat (first | (with_reducible first | exact HB.out | apply below_alloc | apply pw_below_drewN | apply below_drew1) | exact HB.out))) : w.heap.size ≤ gb233)); clear HB; have HB := n0_; have BK233 := n1_; have GW233 := n2_; have GE233 := n3_; clear n0_ n1_ n2_ n3_; clear hb hbox hg; have hcz4_0 : w3.cell? ⟨gb233, 0, none⟩ = some (.int .u64 a0_0) := (blk_cell BK233.out 0).trans rfl; have hcz4_1 : w3.cell? ⟨gb233, 1, none⟩ = some (.int .u64 a0_1) := (blk_cell BK233.out 1).trans rfl; have hfz4_0 := blk_frozen BK233.out 0; have hfz4_1 := blk_frozen BK233.out 1))
 repeat (go_quiet (first | ((with_reducible refine gate_dst (N := 2) rfl ?_); refine box_event ?hg (N := 2) ?hd (cs := #[.int .u64 a0_0, .int .u64 a0_1]) (t := 24) ?hr ?_; (case hd => rfl); (case hg => rfl); (case hr => first | (go_simp; done) | (go_simp; rfl)); intro gb233 hg w3 hbox hb; have n0_ := Aside0.mk (below_step (by repeat (first | (with_reducible first | exact HB.out | apply below_alloc | apply pw_below_drewN | apply below_drew1) | exact HB.out)) hb); have n1_ := Aside0.mk (hbox); have n2_ := Aside0.mk ((by rw [hg]; exact (below_size (by repeat (first | (with_reducible first | exact HB.out | apply below_alloc | apply pw_below_drewN | apply below_drew1) | exact HB.out))) : w.heap.size ≤ gb233)); have n3_ := Aside0.mk ((by rw [hg]; exact (below_size (by repeat (first | (with_reducible first | exact HB.out | apply below_alloc | apply pw_below_drewN | apply below_drew1) | exact HB.out))) : w.heap.size ≤ gb233)); clear HB; have HB := n0_; have BK233 := n1_; have GW233 := n2_; have GE233 := n3_; clear n0_ n1_ n2_ n3_; clear hb hbox hg; have hcz4_0 : w3.cell? ⟨gb233, 0, none⟩ = some (.int .u64 a0_0) := (blk_cell BK233.out 0).trans rfl; have hcz4_1 : w3.cell? ⟨gb233, 1, none⟩ = some (.int .u64 a0_1) := (blk_cell BK233.out 1).trans rfl; have hfz4_0 := blk_frozen BK233.out 0; have hfz4_1 := blk_frozen BK233.out 1)); try go_wp2_with (first | ((with_reducible refine gate_dst (N := 2) rfl ?_); refine box_event ?hg (N := 2) ?hd (cs := #[.int .u64 a0_0, .int .u64 a0_1]) (t := 24) ?hr ?_; (case hd => rfl); (case hg => rfl); (case hr => first | (go_simp; done) | (go_simp; rfl)); intro gb233 hg w3 hbox hb; have n0_ := Aside0.mk (below_step (by repeat (first | (with_reducible first | exact HB.out | apply below_alloc | apply pw_below_drewN | apply below_drew1) | exact HB.out)) hb); have n1_ := Aside0.mk (hbox); have n2_ := Aside0.mk ((by rw [hg]; exact (below_size (by repeat (first | (with_reducible first | exact HB.out | apply below_alloc | apply pw_below_drewN | apply below_drew1) | exact HB.out))) : w.heap.size ≤ gb233)); have n3_ := Aside0.mk ((by rw [hg]; exact (below_size (by repeat (first | (with_reducible first | exact HB.out | apply below_alloc | apply pw_below_drewN | apply below_drew1) | exact HB.out))) : w.heap.size ≤ gb233)); clear HB; have HB := n0_; have BK233 := n1_; have GW233 := n2_; have GE233 := n3_; clear n0_ n1_ n2_ n3_; clear hb hbox hg; have hcz4_0 : w3.cell? ⟨gb233, 0, none⟩ = some (.int .u64 a0_0) := (blk_cell BK233.out 0).trans rfl; have hcz4_1 : w3.cell? ⟨gb233, 1, none⟩ = some (.int .u64 a0_1) := (blk_cell BK233.out 1).trans rfl; have hfz4_0 := blk_frozen BK233.out 0; have hfz4_1 := blk_frozen BK233.out 1)))
 go_loopg [6, 7, 8] k (fun kq v6 v7 v8 w' => ∃ (x6_1 : Int) (x7_1 : Int) (x8_1 : Int), v6 = .int .u64 x6_1 ∧ v7 = .int .u64 x7_1 ∧ v8 = .int .i64 x8_1 ∧ Aside0 (halberdref06_Bit.l0 kq a1 x6_1 x7_1 x8_1 = some (r1, r2)) ∧ Aside0 (kq ≤ k) ∧ Aside0 (w'.heap[gb233]? = some (.cells #[.int .u64 a0_0, .int .u64 a0_1] 24 (0, 0))) ∧ Aside0 (Below w.heap.size w w'))
 case atStart => exact ⟨(a0_1), (a0_0), (0), (by first | rfl | (simp; done) | (simp [*]; done)), (by first | rfl | (simp; done) | (simp [*]; done)), (by first | rfl | (simp; done) | (simp [*]; done)), H', ⟨Nat.le_refl _⟩, ⟨by (with_reducible repeat (first | refine blk_drewN ?_ _ | refine blk_drew ?_ | refine blk_alloc ?_ _)); exact BK233.out⟩, ⟨by repeat (first | (with_reducible first | exact HB.out | apply below_alloc | apply pw_below_drewN | apply below_drew1 | refine below_set ?_ GE233.out) | exact HB.out)⟩⟩
 case round =>
  clear H'
  try clear p2
  try clear hcz4_0
  try clear hcz4_1
  try clear hfz4_0
  try clear hfz4_1
  obtain ⟨x6_1, x7_1, x8_1, rfl, rfl, rfl, HA, HK1, BK233, HB⟩ := hrel
  cases gk with
  | zero => exact absurd HA.out (by simp [halberdref06_Bit.l0])
  | succ k1 =>
   have H := HA.out
   clear HA
   simp only [halberdref06_Bit.l0] at H
   by_cases c5 : x8_1 < a1
   ·rw [if_pos c5] at H
    have c5b0 : decide (x8_1 < a1) = true := decide_eq_true c5
    clear c5
    have H' := Aside0.mk H
    clear H
    go_wp2
    repeat (go_quiet (fail); try go_wp2)
    go_roundg k1
    case measure => have := HK1.out; omega
    case rel => exact ⟨(IntKind.u64.wrap (Int.tdiv x6_1 2)), (IntKind.u64.wrap (Int.tdiv x7_1 2)), (wrap64 (x8_1 + 1)), (by first | rfl | (simp; done) | (simp [*]; done)), (by first | rfl | (simp; done) | (simp [*]; done)), (by first | rfl | (simp; done) | (simp [*]; done)), H', ⟨by have := HK1.out; omega⟩, ⟨by (with_reducible repeat (first | refine blk_drewN ?_ _ | refine blk_drew ?_ | refine blk_alloc ?_ _)); exact BK233.out⟩, ⟨by repeat (first | (with_reducible first | exact HB.out | apply below_alloc | apply pw_below_drewN | apply below_drew1 | refine below_set ?_ GE233.out) | exact HB.out)⟩⟩
   ·rw [if_neg c5] at H
    have c5b0 : decide (x8_1 < a1) = false := decide_eq_false c5
    clear c5
    by_cases c6 : (Int.tmod x6_1 2) = 1
    ·rw [if_pos c6] at H
     have c6b0 : ((Int.tmod x6_1 2) == 1) = true := beq_iff_eq.mpr c6
     have c6b1 : ((Int.tmod x6_1 2) != 1) = false := bne_eq_false_iff_eq.mpr c6
     clear c6
     simp only [Option.some.injEq, Prod.mk.injEq] at H
     obtain ⟨rfl, rfl⟩ := H
     go_wp2
     repeat (go_quiet (fail); try go_wp2)
     go_ret2
     exact ⟨by first | rfl | (simp [errW_none, errW_some] <;> rfl) | (simp [*, errW_none, errW_some] <;> rfl), by repeat (first | (with_reducible first | exact HB.out | apply below_alloc | apply pw_below_drewN | apply below_drew1 | refine below_set ?_ GE233.out) | exact HB.out)⟩
    ·rw [if_neg c6] at H
     have c6b0 : ((Int.tmod x6_1 2) == 1) = false := beq_eq_false_iff_ne.mpr c6
     have c6b1 : ((Int.tmod x6_1 2) != 1) = true := bne_iff_ne.mpr c6
     simp only [Option.some.injEq, Prod.mk.injEq] at H
     obtain ⟨rfl, rfl⟩ := H
     go_wp2
     repeat (go_quiet (fail); try go_wp2)
     go_ret2
     exact ⟨by first | rfl | (simp [errW_none, errW_some] <;> rfl) | (simp [*, errW_none, errW_some] <;> rfl), by repeat (first | (with_reducible first | exact HB.out | apply below_alloc | apply pw_below_drewN | apply below_drew1 | refine below_set ?_ GE233.out) | exact HB.out)⟩

end Go.Proofs.Ytkgmdcibjjkhlaa.PXferSound
