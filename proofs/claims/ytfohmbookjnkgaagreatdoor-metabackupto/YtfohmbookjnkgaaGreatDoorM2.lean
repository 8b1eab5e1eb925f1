/- Runs. Conditions: none; lemmas. -/
import Derived.Test.YtfohmbookjnkgaaGreatDoorAxG
import Derived.Test.YtfohmbookjnkgaaGreatDoorM1
set_option linter.unusedVariables false
set_option linter.unusedSimpArgs false
set_option maxRecDepth 100000
set_option maxHeartbeats 4000000
namespace Go.Proofs.YtfohmbookjnkgaaGreatDoor.Mx
open Go Go.Proofs Ax
noncomputable def g_i38 : Nat → CE := ginl 38 g_rnum
theorem go_i38 : GamOk Tryz.prog g_i38 := go_rnum.inl (enter_of Tryz.func38 (by kernel_rfl) (by kernel_rfl))
noncomputable def g_i39 : Nat → CE := ginl 39 g_i38
theorem go_i39 : GamOk Tryz.prog g_i39 := go_i38.inl (enter_of Tryz.func39 (by kernel_rfl) (by kernel_rfl))
/-! ### (*ostler/pack.Reader).Hash -/
noncomputable def L_rhash : List A → Heap → Nat → Option LR
  | [.ptr 0 0], [(0, .cells 132 [.d (.str s), .d (.int .i64 e)])], 1 => some ⟨[.ptr (0 : Nat) (0 : Nat)], [((0 : Nat), .cells 132 [.d (.str s), .d (.int .i64 e)])], 1, True, .d (.str (Ax.rawV 32 s e)), [((0 : Nat), .cells 132 [.d (.str ((Ax.rawP 32 (s, e)).1)), .d (.int .i64 ((Ax.rawP 32 (s, e)).2))])], 1, []⟩
  | _, _, _ => none
noncomputable def a_rhash (s : List UInt8) (e : Int) : Nat → Nat → Ann := fun f k => .unroll 0
def T_rhash (s : List UInt8) (e : Int) : Prop :=
  (True ∧ (((Ax.rawV (32 : Int) s e) = (Ax.rawV 32 s e)) ∧ ((132 = 132) ∧ ((((Ax.rawP (32 : Int) (s, e)).1) = ((Ax.rawP 32 (s, e)).1)) ∧ ((((Ax.rawP (32 : Int) (s, e)).2) = ((Ax.rawP 32 (s, e)).2)) ∧ True)))))
theorem n_rhash (s : List UInt8) (e : Int) : afun { P := Tryz.prog, Γ := g_i39, ann := a_rhash s e } (inlN { P := Tryz.prog, Γ := g_i39, ann := a_rhash s e } 8) 147 Tryz.f147 [.ptr (0 : Nat) (0 : Nat)] [((0 : Nat), .cells 132 [.d (.str s), .d (.int .i64 e)])] 1 (fun v_ h_ n_ k_ => conjL (weak 1 ⟨[(true, v_)], h_, n_, k_⟩ ⟨[(true, .d (.str (Ax.rawV 32 s e)))], [((0 : Nat), .cells 132 [.d (.str ((Ax.rawP 32 (s, e)).1)), .d (.int .i64 ((Ax.rawP 32 (s, e)).2))])], 1, []⟩) True) = T_rhash s e := by kernel_rfl
set_option maxHeartbeats 4000000 in
theorem v_rhash (s : List UInt8) (e : Int) (hpre : True) : T_rhash s e := by
  unfold T_rhash
  simp only [dP_iff, impT_iff, ifB_iff, Bool.and_eq_true, Bool.not_eq_true', decide_eq_true_eq, decide_eq_false_iff_not, true_and, and_true, imp_self, and_self, implies_true, true_implies, Bool.cond_true_left, Bool.cond_false_right, Bool.cond_true_right, Bool.cond_false_left, Bool.or_eq_true, Bool.not_eq_false', Bool.and_eq_false_imp, Bool.or_eq_false_iff, Bool.not_not, Ax.map_I, List.length_append, Ax.I_len, List.length_cons, List.length_nil, Ax.sameRec_self, Ax.rawP_1, Ax.rawP_2, Ax.failP_1, Ax.failP_2, Ax.e8P_1, Ax.e8P_2, Ax.txP_1, Ax.txP_2, Ax.endP_1, Ax.endP_2, Bool.true_eq_false, Bool.false_eq_true, imp_false]
set_option maxHeartbeats 4000000 in
theorem ct_rhash : CtOk Tryz.prog 147 (own L_rhash) := by
  refine own_ct_g go_i39 Tryz.checked.mixed Tryz.func147 (enter_of Tryz.func147 (by kernel_rfl) (by kernel_rfl)) ?_
  intro xs_ hp_ nx_ r_ h hpre
  unfold L_rhash at h
  split at h
  · rename_i s e; simp only [Option.some.injEq] at h; subst h
    refine ⟨a_rhash s e, 8, (.inl ⟨rfl, rfl, rfl⟩), ?_⟩
    have h1 := v_rhash s e hpre
    rw [← n_rhash s e] at h1
    dsimp only
    assumption
  · simp at h
noncomputable def g_rhash : Nat → CE := gct 147 (own L_rhash) g_i39
theorem go_rhash : GamOk Tryz.prog g_rhash := go_i39.ct ct_rhash
/-! ### (*ostler/pack.Reader).Eight -/
noncomputable def L_reight : List A → Heap → Nat → Option LR
  | [.ptr 0 0], [(0, .cells 132 [.d (.str s), .d (.int .i64 e)])], 1 => some ⟨[.ptr (0 : Nat) (0 : Nat)], [((0 : Nat), .cells 132 [.d (.str s), .d (.int .i64 e)])], 1, List.length s ≤ 1000000000, .d (.int .i64 (Ax.rdV 8 s (Ax.e8E s e))), [((0 : Nat), .cells 132 [.d (.str ((Ax.e8P (s, e)).1)), .d (.int .i64 ((Ax.e8P (s, e)).2))])], 1, []⟩
  | _, _, _ => none
noncomputable def a_reight (s : List UInt8) (e : Int) : Nat → Nat → Ann := fun f k => .unroll 0
def T_reight (s : List UInt8) (e : Int) : Prop :=
  (Ax.dP (decide ((8 : Int) ≤ ((List.length s : Nat) : Int))) ((decide ((8 : Int) ≤ ((List.length s : Nat) : Int))) && true) (Ax.dP (decide ((8 : Int) ≤ ((List.length s : Nat) : Int))) ((decide ((8 : Int) ≤ ((List.length s : Nat) : Int))) && true) (Ax.dP (decide ((8 : Int) ≤ ((List.length s : Nat) : Int))) ((decide ((8 : Int) ≤ ((List.length s : Nat) : Int))) && true) (Ax.dP (decide ((8 : Int) ≤ ((List.length s : Nat) : Int))) ((decide ((8 : Int) ≤ ((List.length s : Nat) : Int))) && true) (Ax.impT (decide ((8 : Int) ≤ ((List.length s : Nat) : Int))) (0 ≤ (0 : Int) ∧ (0 : Int) < ((List.length s : Nat) : Int)) ∧ (Ax.dP (decide ((8 : Int) ≤ ((List.length s : Nat) : Int))) ((decide ((8 : Int) ≤ ((List.length s : Nat) : Int))) && true) (Ax.dP true (bif decide ((8 : Int) ≤ ((List.length s : Nat) : Int)) then (decide ((8 : Int) ≤ ((List.length s : Nat) : Int))) else true) (Ax.ifB (bif decide ((8 : Int) ≤ ((List.length s : Nat) : Int)) then (decide ((127 : Int) < (Ax.byteAt s (0 : Nat)))) else false) (True ∧ ((Ax.rdV (8 : Int) ((Ax.failP (3 : Int) (s, e)).1) ((Ax.failP (3 : Int) (s, e)).2) ≤ 9223372036854775807 ∧ List.length ((Ax.failP (3 : Int) (s, e)).1) ≤ 1000000000) ∧ (((Ax.rdV (8 : Int) ((Ax.failP (3 : Int) (s, e)).1) ((Ax.failP (3 : Int) (s, e)).2)) = (Ax.rdV 8 s (Ax.e8E s e))) ∧ ((132 = 132) ∧ ((((Ax.rawP (8 : Int) (Ax.failP (3 : Int) (s, e))).1) = ((Ax.e8P (s, e)).1)) ∧ ((((Ax.rawP (8 : Int) (Ax.failP (3 : Int) (s, e))).2) = ((Ax.e8P (s, e)).2)) ∧ True)))))) ((Ax.rdV (8 : Int) s e ≤ 9223372036854775807 ∧ List.length s ≤ 1000000000) ∧ (((Ax.rdV (8 : Int) s e) = (Ax.rdV 8 s (Ax.e8E s e))) ∧ ((132 = 132) ∧ ((((Ax.rawP (8 : Int) (s, e)).1) = ((Ax.e8P (s, e)).1)) ∧ ((((Ax.rawP (8 : Int) (s, e)).2) = ((Ax.e8P (s, e)).2)) ∧ True)))))))))))))
theorem n_reight (s : List UInt8) (e : Int) : afun { P := Tryz.prog, Γ := g_rhash, ann := a_reight s e } (inlN { P := Tryz.prog, Γ := g_rhash, ann := a_reight s e } 8) 40 Tryz.f40 [.ptr (0 : Nat) (0 : Nat)] [((0 : Nat), .cells 132 [.d (.str s), .d (.int .i64 e)])] 1 (fun v_ h_ n_ k_ => conjL (weak 1 ⟨[(true, v_)], h_, n_, k_⟩ ⟨[(true, .d (.int .i64 (Ax.rdV 8 s (Ax.e8E s e))))], [((0 : Nat), .cells 132 [.d (.str ((Ax.e8P (s, e)).1)), .d (.int .i64 ((Ax.e8P (s, e)).2))])], 1, []⟩) True) = T_reight s e := by kernel_rfl
set_option maxHeartbeats 4000000 in
theorem v_reight (s : List UInt8) (e : Int) (hpre : List.length s ≤ 1000000000) : T_reight s e := by
  unfold T_reight
  have h8 := rdV_8 s e
  simp only [dP_iff, impT_iff, ifB_iff, Bool.and_eq_true, Bool.not_eq_true', decide_eq_true_eq, decide_eq_false_iff_not, true_and, and_true, imp_self, and_self, implies_true, true_implies, Bool.cond_true_left, Bool.cond_false_right, Bool.cond_true_right, Bool.cond_false_left, Bool.or_eq_true, Bool.not_eq_false', Bool.and_eq_false_imp, Bool.or_eq_false_iff, Bool.not_not, Ax.map_I, List.length_append, Ax.I_len, List.length_cons, List.length_nil, Ax.sameRec_self, Ax.rawP_1, Ax.rawP_2, Ax.failP_1, Ax.failP_2, Ax.e8P_1, Ax.e8P_2, Ax.txP_1, Ax.txP_2, Ax.endP_1, Ax.endP_2, Bool.true_eq_false, Bool.false_eq_true, imp_false]
  by_cases h : 8 ≤ s.length ∧ 127 < byteAt s 0
  · have he : e8E s e = failE 3 e := if_pos h
    rw [he] at h8 ⊢
    refine ⟨fun _ => by omega, by omega, fun _ => ⟨⟨h8, hpre⟩, rfl, rfl, rfl⟩, fun h' => ?_⟩
    have := h' (by omega); omega
  · have he : e8E s e = e := if_neg h
    rw [he] at h8 ⊢
    refine ⟨fun _ => by omega, by omega, fun h' => (h ⟨by omega, h'.2⟩).elim, fun h' => ⟨⟨h8, hpre⟩, rfl, rfl, rfl⟩⟩
set_option maxHeartbeats 4000000 in
theorem ct_reight : CtOk Tryz.prog 40 (own L_reight) := by
  refine own_ct_g go_rhash Tryz.checked.mixed Tryz.func40 (enter_of Tryz.func40 (by kernel_rfl) (by kernel_rfl)) ?_
  intro xs_ hp_ nx_ r_ h hpre
  unfold L_reight at h
  split at h
  · rename_i s e; simp only [Option.some.injEq] at h; subst h
    refine ⟨a_reight s e, 8, (.inl ⟨rfl, rfl, rfl⟩), ?_⟩
    have h1 := v_reight s e hpre
    rw [← n_reight s e] at h1
    dsimp only
    assumption
  · simp at h
noncomputable def g_reight : Nat → CE := gct 40 (own L_reight) g_rhash
theorem go_reight : GamOk Tryz.prog g_reight := go_rhash.ct ct_reight
/-! ### (*ostler/pack.Reader).Text -/
noncomputable def L_rtext : List A → Heap → Nat → Option LR
  | [.ptr 0 0, .d (.int .i64 most)], [(0, .cells 132 [.d (.str s), .d (.int .i64 e)])], 1 => some ⟨[.ptr (0 : Nat) (0 : Nat), .d (.int .i64 most)], [((0 : Nat), .cells 132 [.d (.str s), .d (.int .i64 e)])], 1, List.length s ≤ 1000000000, .d (.str (Ax.txV most s e)), [((0 : Nat), .cells 132 [.d (.str ((Ax.txP most (s, e)).1)), .d (.int .i64 ((Ax.txP most (s, e)).2))])], 1, []⟩
  | _, _, _ => none
noncomputable def a_rtext (most : Int) (s : List UInt8) (e : Int) : Nat → Nat → Ann := fun f k => .unroll 0
def T_rtext (most : Int) (s : List UInt8) (e : Int) : Prop :=
  (Ax.ifB (!(decide (e = (0 : Int)))) ((([] : List UInt8) = (Ax.txV most s e)) ∧ ((132 = 132) ∧ ((s = ((Ax.txP most (s, e)).1)) ∧ ((e = ((Ax.txP most (s, e)).2)) ∧ True)))) ((Ax.rdV (2 : Int) s e ≤ 9223372036854775807 ∧ List.length s ≤ 1000000000) ∧ (Ax.ifB (decide ((if most < (0 : Int) then (0 : Int) else most) < (Ax.rdV (2 : Int) s e))) (True ∧ (True ∧ (Ax.ifB (!(decide (((Ax.rawP (Ax.rdV (2 : Int) s e) (Ax.failP (4 : Int) (Ax.rawP (2 : Int) (s, e)))).2) = (0 : Int)))) (True ∧ (((Ax.rawV (Ax.rdV (2 : Int) s e) ((Ax.failP (4 : Int) (Ax.rawP (2 : Int) (s, e))).1) ((Ax.failP (4 : Int) (Ax.rawP (2 : Int) (s, e))).2)) = (Ax.txV most s e)) ∧ ((132 = 132) ∧ ((s = ((Ax.txP most (s, e)).1)) ∧ ((((Ax.rawP (Ax.rdV (2 : Int) s e) (Ax.failP (4 : Int) (Ax.rawP (2 : Int) (s, e)))).2) = ((Ax.txP most (s, e)).2)) ∧ True))))) (((Ax.rawV (Ax.rdV (2 : Int) s e) ((Ax.failP (4 : Int) (Ax.rawP (2 : Int) (s, e))).1) ((Ax.failP (4 : Int) (Ax.rawP (2 : Int) (s, e))).2)) = (Ax.txV most s e)) ∧ ((132 = 132) ∧ ((((Ax.rawP (Ax.rdV (2 : Int) s e) (Ax.failP (4 : Int) (Ax.rawP (2 : Int) (s, e)))).1) = ((Ax.txP most (s, e)).1)) ∧ ((((Ax.rawP (Ax.rdV (2 : Int) s e) (Ax.failP (4 : Int) (Ax.rawP (2 : Int) (s, e)))).2) = ((Ax.txP most (s, e)).2)) ∧ True))))))) (True ∧ (Ax.ifB (!(decide (((Ax.rawP (Ax.rdV (2 : Int) s e) (Ax.rawP (2 : Int) (s, e))).2) = (0 : Int)))) (True ∧ (((Ax.rawV (Ax.rdV (2 : Int) s e) ((Ax.rawP (2 : Int) (s, e)).1) ((Ax.rawP (2 : Int) (s, e)).2)) = (Ax.txV most s e)) ∧ ((132 = 132) ∧ ((s = ((Ax.txP most (s, e)).1)) ∧ ((((Ax.rawP (Ax.rdV (2 : Int) s e) (Ax.rawP (2 : Int) (s, e))).2) = ((Ax.txP most (s, e)).2)) ∧ True))))) (((Ax.rawV (Ax.rdV (2 : Int) s e) ((Ax.rawP (2 : Int) (s, e)).1) ((Ax.rawP (2 : Int) (s, e)).2)) = (Ax.txV most s e)) ∧ ((132 = 132) ∧ ((((Ax.rawP (Ax.rdV (2 : Int) s e) (Ax.rawP (2 : Int) (s, e))).1) = ((Ax.txP most (s, e)).1)) ∧ ((((Ax.rawP (Ax.rdV (2 : Int) s e) (Ax.rawP (2 : Int) (s, e))).2) = ((Ax.txP most (s, e)).2)) ∧ True)))))))))
theorem n_rtext (most : Int) (s : List UInt8) (e : Int) : afun { P := Tryz.prog, Γ := g_reight, ann := a_rtext most s e } (inlN { P := Tryz.prog, Γ := g_reight, ann := a_rtext most s e } 8) 113 Tryz.f113 [.ptr (0 : Nat) (0 : Nat), .d (.int .i64 most)] [((0 : Nat), .cells 132 [.d (.str s), .d (.int .i64 e)])] 1 (fun v_ h_ n_ k_ => conjL (weak 1 ⟨[(true, v_)], h_, n_, k_⟩ ⟨[(true, .d (.str (Ax.txV most s e)))], [((0 : Nat), .cells 132 [.d (.str ((Ax.txP most (s, e)).1)), .d (.int .i64 ((Ax.txP most (s, e)).2))])], 1, []⟩) True) = T_rtext most s e := by kernel_rfl
set_option maxHeartbeats 4000000 in
theorem v_rtext (most : Int) (s : List UInt8) (e : Int) (hpre : List.length s ≤ 1000000000) : T_rtext most s e := by
  unfold T_rtext
  have h2 := rdV_small 2 s e (by omega)
  simp only [dP_iff, impT_iff, ifB_iff, Bool.and_eq_true, Bool.not_eq_true', decide_eq_true_eq, decide_eq_false_iff_not, true_and, and_true, imp_self, and_self, implies_true, true_implies, Bool.cond_true_left, Bool.cond_false_right, Bool.cond_true_right, Bool.cond_false_left, Bool.or_eq_true, Bool.not_eq_false', Bool.and_eq_false_imp, Bool.or_eq_false_iff, Bool.not_not, Ax.map_I, List.length_append, Ax.I_len, List.length_cons, List.length_nil, Ax.sameRec_self, Ax.rawP_1, Ax.rawP_2, Ax.failP_1, Ax.failP_2, Ax.e8P_1, Ax.e8P_2, Ax.txP_1, Ax.txP_2, Ax.endP_1, Ax.endP_2, Bool.true_eq_false, Bool.false_eq_true, imp_false]
  simp only [rawP, failP]
  refine ⟨fun he => ?_, fun _ => ⟨⟨by omega, hpre⟩, fun hm => ?_, fun hm => ?_⟩⟩
  · have e1 : rawE 2 s e = e := by simp [rawE, he]
    have e2 : failE 4 e = e := by simp [failE, he]
    have e3 : txE1 most s e = e := by unfold txE1; rw [e1, e2]; exact ite_self _
    have e4 : txE most s e = e := by unfold txE; rw [e3]; simp [rawE, he]
    refine ⟨by unfold txV; rw [e3]; simp [rawV, rawOk, he], by unfold txS; rw [e4, if_neg he], e4.symm⟩
  · have e1 : txE1 most s e = failE 4 (rawE 2 s e) := if_pos hm
    refine ⟨fun h => ⟨by simp [txV, e1], ?_, by simp [txE, e1]⟩, fun h => ⟨by simp [txV, e1], ?_, by simp [txE, e1]⟩⟩
    · unfold txS txE; rw [e1, if_neg h]
    · unfold txS txE; rw [e1, if_pos h]
  · have e1 : txE1 most s e = rawE 2 s e := if_neg hm
    refine ⟨fun h => ⟨by simp [txV, e1], ?_, by simp [txE, e1]⟩, fun h => ⟨by simp [txV, e1], ?_, by simp [txE, e1]⟩⟩
    · unfold txS txE; rw [e1, if_neg h]
    · unfold txS txE; rw [e1, if_pos h]
set_option maxHeartbeats 4000000 in
theorem ct_rtext : CtOk Tryz.prog 113 (own L_rtext) := by
  refine own_ct_g go_reight Tryz.checked.mixed Tryz.func113 (enter_of Tryz.func113 (by kernel_rfl) (by kernel_rfl)) ?_
  intro xs_ hp_ nx_ r_ h hpre
  unfold L_rtext at h
  split at h
  · rename_i most s e; simp only [Option.some.injEq] at h; subst h
    refine ⟨a_rtext most s e, 8, (.inl ⟨rfl, rfl, rfl⟩), ?_⟩
    have h1 := v_rtext most s e hpre
    rw [← n_rtext most s e] at h1
    dsimp only
    assumption
  · simp at h
noncomputable def g_rtext : Nat → CE := gct 113 (own L_rtext) g_reight
theorem go_rtext : GamOk Tryz.prog g_rtext := go_reight.ct ct_rtext
/-! ### (*ostler/pack.Reader).End -/
noncomputable def L_rend : List A → Heap → Nat → Option LR
  | [.ptr 0 0], [(0, .cells 132 [.d (.str s), .d (.int .i64 e)])], 1 => some ⟨[.ptr (0 : Nat) (0 : Nat)], [((0 : Nat), .cells 132 [.d (.str s), .d (.int .i64 e)])], 1, True, .d (.int .i64 (Ax.endE s e)), [((0 : Nat), .cells 132 [.d (.str ((Ax.endP (s, e)).1)), .d (.int .i64 ((Ax.endP (s, e)).2))])], 1, []⟩
  | _, _, _ => none
noncomputable def a_rend (s : List UInt8) (e : Int) : Nat → Nat → Ann := fun f k => .unroll 0
def T_rend (s : List UInt8) (e : Int) : Prop :=
  (Ax.ifB (decide ((0 : Int) < ((List.length s : Nat) : Int))) (True ∧ ((((Ax.failP (3 : Int) (s, e)).2) = (Ax.endE s e)) ∧ ((132 = 132) ∧ ((((Ax.failP (3 : Int) (s, e)).1) = ((Ax.endP (s, e)).1)) ∧ ((((Ax.failP (3 : Int) (s, e)).2) = ((Ax.endP (s, e)).2)) ∧ True))))) ((e = (Ax.endE s e)) ∧ ((132 = 132) ∧ ((s = ((Ax.endP (s, e)).1)) ∧ ((e = ((Ax.endP (s, e)).2)) ∧ True)))))
theorem n_rend (s : List UInt8) (e : Int) : afun { P := Tryz.prog, Γ := g_rtext, ann := a_rend s e } (inlN { P := Tryz.prog, Γ := g_rtext, ann := a_rend s e } 8) 41 Tryz.f41 [.ptr (0 : Nat) (0 : Nat)] [((0 : Nat), .cells 132 [.d (.str s), .d (.int .i64 e)])] 1 (fun v_ h_ n_ k_ => conjL (weak 1 ⟨[(true, v_)], h_, n_, k_⟩ ⟨[(true, .d (.int .i64 (Ax.endE s e)))], [((0 : Nat), .cells 132 [.d (.str ((Ax.endP (s, e)).1)), .d (.int .i64 ((Ax.endP (s, e)).2))])], 1, []⟩) True) = T_rend s e := by kernel_rfl
set_option maxHeartbeats 4000000 in
theorem v_rend (s : List UInt8) (e : Int) (hpre : True) : T_rend s e := by
  unfold T_rend
  simp only [dP_iff, impT_iff, ifB_iff, Bool.and_eq_true, Bool.not_eq_true', decide_eq_true_eq, decide_eq_false_iff_not, true_and, and_true, imp_self, and_self, implies_true, true_implies, Bool.cond_true_left, Bool.cond_false_right, Bool.cond_true_right, Bool.cond_false_left, Bool.or_eq_true, Bool.not_eq_false', Bool.and_eq_false_imp, Bool.or_eq_false_iff, Bool.not_not, Ax.map_I, List.length_append, Ax.I_len, List.length_cons, List.length_nil, Ax.sameRec_self, Ax.rawP_1, Ax.rawP_2, Ax.failP_1, Ax.failP_2, Ax.e8P_1, Ax.e8P_2, Ax.txP_1, Ax.txP_2, Ax.endP_1, Ax.endP_2, Bool.true_eq_false, Bool.false_eq_true, imp_false]
  by_cases h : 0 < s.length
  · simp [h, endE]
  · have : (s.length : Int) = 0 := by omega
    simp [h, endE, this]
set_option maxHeartbeats 4000000 in
theorem ct_rend : CtOk Tryz.prog 41 (own L_rend) := by
  refine own_ct_g go_rtext Tryz.checked.mixed Tryz.func41 (enter_of Tryz.func41 (by kernel_rfl) (by kernel_rfl)) ?_
  intro xs_ hp_ nx_ r_ h hpre
  unfold L_rend at h
  split at h
  · rename_i s e; simp only [Option.some.injEq] at h; subst h
    refine ⟨a_rend s e, 8, (.inl ⟨rfl, rfl, rfl⟩), ?_⟩
    have h1 := v_rend s e hpre
    rw [← n_rend s e] at h1
    dsimp only
    assumption
  · simp at h
noncomputable def g_rend : Nat → CE := gct 41 (own L_rend) g_rtext
theorem go_rend : GamOk Tryz.prog g_rend := go_rtext.ct ct_rend
/-! ### ostler/quorum.Check -/
noncomputable def L_qcheck : List A → Option LR
  | [.agg [.d (.strs ids), .d (.int .i64 need)]] => some ⟨[.agg [.d (.strs ids), .d (.int .i64 need)]], [], 0, True, .d (.int .i64 (Ax.chkSet ids need)), [], 0, []⟩
  | _ => none
noncomputable def a_qcheck (ids : List (List UInt8)) (need : Int) : Nat → Nat → Ann := fun f k => bif Nat.beq f 78 && Nat.beq k 0 then .inv ((Nat)) (fun st z => (St.with st [0, 2, 3, 4, 5, 6, 7, 8, 9, 10, 11, 12, 13, 14, 15, 16, 17, 18, 19, 20, 21, 22, 23, 24, 25, 26, 27, 28, 32, 33, 34, 35, 36, 37, 38, 39, 40, 41, 42, 43, 44, 45, 46, 47, 48, 49, 50, 51, 52, 53] [(31, .d (.int .i64 ((z : Nat) : Int)))] [] st.nx)) (fun st z => z ≤ List.length ids ∧ ∀ j, j < z → Ax.okAt ids j = true) (fun st z => List.length ids - z) else .unroll 0
def T_qcheck (ids : List (List UInt8)) (need : Int) : Prop :=
  (True ∧ (Ax.dP (!(decide (((List.length ids : Nat) : Int) < (1 : Int)))) ((!(decide (((List.length ids : Nat) : Int) < (1 : Int)))) && true) (Ax.dP (!(decide (((List.length ids : Nat) : Int) < (1 : Int)))) ((!(decide (((List.length ids : Nat) : Int) < (1 : Int)))) && true) (Ax.dP (!(decide (((List.length ids : Nat) : Int) < (1 : Int)))) ((!(decide (((List.length ids : Nat) : Int) < (1 : Int)))) && true) (Ax.dP true (bif decide (((List.length ids : Nat) : Int) < (1 : Int)) then true else (!(decide (((List.length ids : Nat) : Int) < (1 : Int))))) (Ax.dP (!(bif decide (((List.length ids : Nat) : Int) < (1 : Int)) then true else (decide ((16 : Int) < ((List.length ids : Nat) : Int))))) ((!(bif decide (((List.length ids : Nat) : Int) < (1 : Int)) then true else (decide ((16 : Int) < ((List.length ids : Nat) : Int))))) && true) (Ax.dP (!(bif decide (((List.length ids : Nat) : Int) < (1 : Int)) then true else (decide ((16 : Int) < ((List.length ids : Nat) : Int))))) ((!(bif decide (((List.length ids : Nat) : Int) < (1 : Int)) then true else (decide ((16 : Int) < ((List.length ids : Nat) : Int))))) && true) (Ax.dP true (bif bif decide (((List.length ids : Nat) : Int) < (1 : Int)) then true else (decide ((16 : Int) < ((List.length ids : Nat) : Int))) then true else (!(bif decide (((List.length ids : Nat) : Int) < (1 : Int)) then true else (decide ((16 : Int) < ((List.length ids : Nat) : Int)))))) (Ax.dP (!(bif bif decide (((List.length ids : Nat) : Int) < (1 : Int)) then true else (decide ((16 : Int) < ((List.length ids : Nat) : Int))) then true else (decide (need < (1 : Int))))) ((!(bif bif decide (((List.length ids : Nat) : Int) < (1 : Int)) then true else (decide ((16 : Int) < ((List.length ids : Nat) : Int))) then true else (decide (need < (1 : Int))))) && true) (Ax.dP (!(bif bif decide (((List.length ids : Nat) : Int) < (1 : Int)) then true else (decide ((16 : Int) < ((List.length ids : Nat) : Int))) then true else (decide (need < (1 : Int))))) ((!(bif bif decide (((List.length ids : Nat) : Int) < (1 : Int)) then true else (decide ((16 : Int) < ((List.length ids : Nat) : Int))) then true else (decide (need < (1 : Int))))) && true) (Ax.dP (!(bif bif decide (((List.length ids : Nat) : Int) < (1 : Int)) then true else (decide ((16 : Int) < ((List.length ids : Nat) : Int))) then true else (decide (need < (1 : Int))))) ((!(bif bif decide (((List.length ids : Nat) : Int) < (1 : Int)) then true else (decide ((16 : Int) < ((List.length ids : Nat) : Int))) then true else (decide (need < (1 : Int))))) && true) (Ax.dP (!(bif bif decide (((List.length ids : Nat) : Int) < (1 : Int)) then true else (decide ((16 : Int) < ((List.length ids : Nat) : Int))) then true else (decide (need < (1 : Int))))) ((!(bif bif decide (((List.length ids : Nat) : Int) < (1 : Int)) then true else (decide ((16 : Int) < ((List.length ids : Nat) : Int))) then true else (decide (need < (1 : Int))))) && ((!(bif bif decide (((List.length ids : Nat) : Int) < (1 : Int)) then true else (decide ((16 : Int) < ((List.length ids : Nat) : Int))) then true else (decide (need < (1 : Int))))) && true)) (Ax.dP true (bif bif bif decide (((List.length ids : Nat) : Int) < (1 : Int)) then true else (decide ((16 : Int) < ((List.length ids : Nat) : Int))) then true else (decide (need < (1 : Int))) then true else (!(bif bif decide (((List.length ids : Nat) : Int) < (1 : Int)) then true else (decide ((16 : Int) < ((List.length ids : Nat) : Int))) then true else (decide (need < (1 : Int)))))) (Ax.ifB (bif bif bif decide (((List.length ids : Nat) : Int) < (1 : Int)) then true else (decide ((16 : Int) < ((List.length ids : Nat) : Int))) then true else (decide (need < (1 : Int))) then true else (decide (((List.length ids : Nat) : Int) < need))) (((1 : Int) = (Ax.chkSet ids need)) ∧ True) ((∃ z0 : (Nat), (((0 : Nat) = (0 : Nat)) ∧ (((0 : Nat) = (0 : Nat)) ∧ ((ids = ids) ∧ ((((List.length ids : Nat) : Int) = ((List.length ids : Nat) : Int)) ∧ (((0 : Int) = ((z0 : Nat) : Int)) ∧ ((24 = 24) ∧ ((ids = ids) ∧ ((need = need) ∧ z0 ≤ List.length ids ∧ ∀ j, j < z0 → Ax.okAt ids j = true))))))))) ∧ ∀ z0 : (Nat), (z0 ≤ List.length ids ∧ ∀ j, j < z0 → Ax.okAt ids j = true) → (Ax.ifB (decide (((z0 : Nat) : Int) < ((List.length ids : Nat) : Int))) ((0 ≤ ((z0 : Nat) : Int) ∧ ((z0 : Nat) : Int) < ((List.length ids : Nat) : Int)) ∧ (Ax.dP (!(!(decide (((List.length (List.getD ids z0 []) : Nat) : Int) = (32 : Int))))) ((!(!(decide (((List.length (List.getD ids z0 []) : Nat) : Int) = (32 : Int))))) && true) (Ax.dP (!(!(decide (((List.length (List.getD ids z0 []) : Nat) : Int) = (32 : Int))))) ((!(!(decide (((List.length (List.getD ids z0 []) : Nat) : Int) = (32 : Int))))) && true) (Ax.dP ((!(!(decide (((List.length (List.getD ids z0 []) : Nat) : Int) = (32 : Int))))) && (decide ((0 : Int) < ((z0 : Nat) : Int)))) (((!(!(decide (((List.length (List.getD ids z0 []) : Nat) : Int) = (32 : Int))))) && (decide ((0 : Int) < ((z0 : Nat) : Int)))) && true) (Ax.dP ((!(!(decide (((List.length (List.getD ids z0 []) : Nat) : Int) = (32 : Int))))) && (decide ((0 : Int) < ((z0 : Nat) : Int)))) (((!(!(decide (((List.length (List.getD ids z0 []) : Nat) : Int) = (32 : Int))))) && (decide ((0 : Int) < ((z0 : Nat) : Int)))) && true) (Ax.dP ((!(!(decide (((List.length (List.getD ids z0 []) : Nat) : Int) = (32 : Int))))) && (decide ((0 : Int) < ((z0 : Nat) : Int)))) (((!(!(decide (((List.length (List.getD ids z0 []) : Nat) : Int) = (32 : Int))))) && (decide ((0 : Int) < ((z0 : Nat) : Int)))) && (((!(!(decide (((List.length (List.getD ids z0 []) : Nat) : Int) = (32 : Int))))) && (decide ((0 : Int) < ((z0 : Nat) : Int)))) && true)) (Ax.impT ((!(!(decide (((List.length (List.getD ids z0 []) : Nat) : Int) = (32 : Int))))) && (decide ((0 : Int) < ((z0 : Nat) : Int)))) (0 ≤ (Go.IntKind.wrap .i64 (((z0 : Nat) : Int) - (1 : Int))) ∧ (Go.IntKind.wrap .i64 (((z0 : Nat) : Int) - (1 : Int))) < ((List.length ids : Nat) : Int)) ∧ (Ax.dP ((!(!(decide (((List.length (List.getD ids z0 []) : Nat) : Int) = (32 : Int))))) && (decide ((0 : Int) < ((z0 : Nat) : Int)))) (((!(!(decide (((List.length (List.getD ids z0 []) : Nat) : Int) = (32 : Int))))) && (decide ((0 : Int) < ((z0 : Nat) : Int)))) && true) (Ax.dP ((!(!(decide (((List.length (List.getD ids z0 []) : Nat) : Int) = (32 : Int))))) && (decide ((0 : Int) < ((z0 : Nat) : Int)))) (((!(!(decide (((List.length (List.getD ids z0 []) : Nat) : Int) = (32 : Int))))) && (decide ((0 : Int) < ((z0 : Nat) : Int)))) && (((!(!(decide (((List.length (List.getD ids z0 []) : Nat) : Int) = (32 : Int))))) && (decide ((0 : Int) < ((z0 : Nat) : Int)))) && true)) (Ax.dP (!(!(decide (((List.length (List.getD ids z0 []) : Nat) : Int) = (32 : Int))))) ((!(!(decide (((List.length (List.getD ids z0 []) : Nat) : Int) = (32 : Int))))) && (bif decide ((0 : Int) < ((z0 : Nat) : Int)) then ((!(!(decide (((List.length (List.getD ids z0 []) : Nat) : Int) = (32 : Int))))) && (decide ((0 : Int) < ((z0 : Nat) : Int)))) else true)) (Ax.dP true (bif !(decide (((List.length (List.getD ids z0 []) : Nat) : Int) = (32 : Int))) then true else (!(!(decide (((List.length (List.getD ids z0 []) : Nat) : Int) = (32 : Int)))))) (Ax.ifB (bif !(decide (((List.length (List.getD ids z0 []) : Nat) : Int) = (32 : Int))) then true else (bif decide ((0 : Int) < ((z0 : Nat) : Int)) then ((Ax.strLt (List.getD ids z0 []) (List.getD ids (Int.toNat (Go.IntKind.wrap .i64 (((z0 : Nat) : Int) - (1 : Int)))) [])) || (decide ((List.getD ids z0 []) = (List.getD ids (Int.toNat (Go.IntKind.wrap .i64 (((z0 : Nat) : Int) - (1 : Int)))) [])))) else false)) (((1 : Int) = (Ax.chkSet ids need)) ∧ True) (∃ z0' : (Nat), (((0 : Nat) = (0 : Nat)) ∧ (((0 : Nat) = (0 : Nat)) ∧ ((ids = ids) ∧ ((((List.length ids : Nat) : Int) = ((List.length ids : Nat) : Int)) ∧ (((Go.IntKind.wrap .i64 (((z0 : Nat) : Int) + (1 : Int))) = ((z0' : Nat) : Int)) ∧ ((24 = 24) ∧ ((ids = ids) ∧ ((need = need) ∧ (z0' ≤ List.length ids ∧ ∀ j, j < z0' → Ax.okAt ids j = true) ∧ List.length ids - z0' < List.length ids - z0))))))))))))))))))))) (((0 : Int) = (Ax.chkSet ids need)) ∧ True)))))))))))))))))
theorem n_qcheck (ids : List (List UInt8)) (need : Int) : afun { P := Tryz.prog, Γ := g_rend, ann := a_qcheck ids need } (inlN { P := Tryz.prog, Γ := g_rend, ann := a_qcheck ids need } 8) 78 Tryz.f78 [.agg [.d (.strs ids), .d (.int .i64 need)]] [] 0 (fun v_ h_ n_ k_ => conjL (weak 0 ⟨[(true, v_)], h_, n_, k_⟩ ⟨[(true, .d (.int .i64 (Ax.chkSet ids need)))], [], 0, []⟩) True) = T_qcheck ids need := by kernel_rfl
set_option maxHeartbeats 4000000 in
theorem v_qcheck (ids : List (List UInt8)) (need : Int) (hpre : True) : T_qcheck ids need := by
  unfold T_qcheck
  simp only [dP_iff, impT_iff, ifB_iff, Bool.and_eq_true, Bool.not_eq_true', decide_eq_true_eq, decide_eq_false_iff_not, true_and, and_true, imp_self, and_self, implies_true, true_implies, Bool.cond_true_left, Bool.cond_false_right, Bool.cond_true_right, Bool.cond_false_left, Bool.or_eq_true, Bool.not_eq_false', Bool.and_eq_false_imp, Bool.or_eq_false_iff, Bool.not_not, Ax.map_I, List.length_append, Ax.I_len, List.length_cons, List.length_nil, Ax.sameRec_self, Ax.rawP_1, Ax.rawP_2, Ax.failP_1, Ax.failP_2, Ax.e8P_1, Ax.e8P_2, Ax.txP_1, Ax.txP_2, Ax.endP_1, Ax.endP_2, Bool.true_eq_false, Bool.false_eq_true, imp_false]
  refine ⟨by omega, by omega, by omega, fun h => ?_, fun h => ⟨⟨0, by simp, by omega, fun j hj => by omega⟩, ?_⟩⟩
  · symm; exact chkSet_one.2 fun h' => by omega
  rintro i ⟨hi, hj⟩
  refine ⟨fun h1 => ?_, fun h1 => ?_⟩
  · have e1 : IntKind.i64.wrap ((i : Int) - 1) = (i : Int) - 1 := wrap64 (by omega) (by omega)
    have e2 : ((i : Int) - 1).toNat = i - 1 := by omega
    have e3 : okAt ids i = true ↔ ((ids.getD i []).length = 32 ∧ (i = 0 ∨ strLt (ids.getD (i - 1) []) (ids.getD i []) = true)) := by simp [okAt]
    rw [e1, e2]
    refine ⟨by omega, fun _ => by omega, fun h => ⟨h, by omega⟩, by omega, fun h2 => ?_, fun h2 => ⟨i + 1, by rw [wrap64] <;> omega, ⟨by omega, fun j hj' => ?_⟩, by omega⟩⟩
    · symm; refine chkSet_one.2 fun h' => ?_
      obtain ⟨a1, a2⟩ := e3.1 (okIds_iff.1 h'.2.2.2.2 i (by omega))
      rcases h2 with h2 | ⟨h2, h3⟩
      · omega
      · rw [strLt_le] at h3
        rcases a2 with a2 | a2
        · omega
        · rw [a2] at h3; simp at h3
    · by_cases e : j = i
      · subst e
        refine e3.2 ⟨by omega, ?_⟩
        by_cases h0 : j = 0
        · exact .inl h0
        · obtain ⟨h3, h4⟩ := h2.2 (by omega)
          exact .inr (strLt_total _ _ h3 h4)
      · exact hj j (by omega)
  · have : i = ids.length := by omega
    subst this
    symm; exact chkSet_zero.2 ⟨by omega, by omega, by omega, by omega, okIds_iff.2 hj⟩
set_option maxHeartbeats 4000000 in
theorem ct_qcheck : CtOk Tryz.prog 78 (lend [.agg [.strs, .keep]] L_qcheck) := by
  refine lend_ct_g go_rend Tryz.checked.mixed Tryz.func78 (enter_of Tryz.func78 (by kernel_rfl) (by kernel_rfl)) ?_
  intro xs_ r_ h hpre
  unfold L_qcheck at h
  split at h
  · rename_i ids need; simp only [Option.some.injEq] at h; subst h
    refine ⟨a_qcheck ids need, 8, (.inl rfl), trivial, ?_⟩
    have h1 := v_qcheck ids need hpre
    rw [← n_qcheck ids need] at h1
    dsimp only
    assumption
  · simp at h
noncomputable def g_qcheck : Nat → CE := gct 78 (lend [.agg [.strs, .keep]] L_qcheck) g_rend
theorem go_qcheck : GamOk Tryz.prog g_qcheck := go_rend.ct ct_qcheck
end Go.Proofs.YtfohmbookjnkgaaGreatDoor.Mx
