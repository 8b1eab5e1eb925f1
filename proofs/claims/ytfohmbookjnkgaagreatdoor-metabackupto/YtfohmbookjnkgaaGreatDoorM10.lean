/- Runs. Conditions: none; lemmas. -/
import Derived.Test.YtfohmbookjnkgaaGreatDoorAxG
import Derived.Test.YtfohmbookjnkgaaGreatDoorM9
set_option linter.unusedVariables false
set_option linter.unusedSimpArgs false
set_option maxRecDepth 100000
set_option maxHeartbeats 4000000
namespace Go.Proofs.YtfohmbookjnkgaaGreatDoor.Mx
open Go Go.Proofs Ax
noncomputable def g_i82 : Nat → CE := ginl 82 g_same
theorem go_i82 : GamOk Tryz.prog g_i82 := go_same.inl (enter_of Tryz.func82 (by kernel_rfl) (by kernel_rfl))
noncomputable def g_i141 : Nat → CE := ginl 141 g_i82
theorem go_i141 : GamOk Tryz.prog g_i141 := go_i82.inl (enter_of Tryz.func141 (by kernel_rfl) (by kernel_rfl))
noncomputable def g_i55 : Nat → CE := ginl 55 g_i141
theorem go_i55 : GamOk Tryz.prog g_i55 := go_i141.inl (enter_of Tryz.func55 (by kernel_rfl) (by kernel_rfl))
noncomputable def g_i115 : Nat → CE := ginl 115 g_i55
theorem go_i115 : GamOk Tryz.prog g_i115 := go_i55.inl (enter_of Tryz.func115 (by kernel_rfl) (by kernel_rfl))
noncomputable def g_i85 : Nat → CE := ginl 85 g_i115
theorem go_i85 : GamOk Tryz.prog g_i85 := go_i115.inl (enter_of Tryz.func85 (by kernel_rfl) (by kernel_rfl))
/-! ### ostler/quorum.TakeSigs -/
noncomputable def L_tsigs : List A → Heap → Nat → Option LR
  | [.ptr 0 0], [(0, .cells 132 [.d (.str s), .d (.int .i64 e)])], 1 => some ⟨[.ptr (0 : Nat) (0 : Nat)], [((0 : Nat), .cells 132 [.d (.str s), .d (.int .i64 e)])], 1, List.length s ≤ 1000000000, .d (.recs 2 (List.length (Ax.tsL (s, e))) (Ax.sgC (Ax.tsL (s, e)))), [((0 : Nat), .cells 132 [.d (.str ((Ax.tsP (s, e)).1)), .d (.int .i64 ((Ax.tsP (s, e)).2))])], 1, []⟩
  | _, _, _ => none
noncomputable def a_tsigs (s : List UInt8) (e : Int) : Nat → Nat → Ann := fun f k => bif Nat.beq f 114 && Nat.beq k 0 then .inv ((Nat)) (fun st z => (St.with st [1, 2, 4, 5, 8, 9, 10, 11, 12, 13, 14, 15, 16, 17, 18, 19, 20, 21, 22] [(7, .d (.int .i64 ((z : Nat) : Int))), (3, .sl (1 : Nat) (0 : Nat) z)] [((0 : Nat), .cells 132 [.d (.str ((Ax.rdSgP z (Ax.rawP 1 (s, e))).1)), .d (.int .i64 ((Ax.rdSgP z (Ax.rawP 1 (s, e))).2))]), ((1 : Nat), .row 49 (.recs 2 (List.length (Ax.rdSg z (Ax.rawP 1 (s, e)))) (Ax.sgC (Ax.rdSg z (Ax.rawP 1 (s, e))))))] 2)) (fun st z => z ≤ Ax.tsN (s, e)) (fun st z => Ax.tsN (s, e) - z) else .unroll 0
def T_tsigs (s : List UInt8) (e : Int) : Prop :=
  ((Ax.rdV (1 : Int) s e ≤ 9223372036854775807 ∧ List.length s ≤ 1000000000) ∧ ((∃ z0 : (Nat), (((0 : Nat) = (0 : Nat)) ∧ (((0 : Nat) = (0 : Nat)) ∧ (((0 : Nat) = 0) ∧ ((z0 = 0) ∧ (((Ax.rdV (1 : Int) s e) = (Ax.rdV (1 : Int) s e)) ∧ (((0 : Int) = ((z0 : Nat) : Int)) ∧ ((132 = 132) ∧ ((((Ax.rawP (1 : Int) (s, e)).1) = ((Ax.rdSgP z0 (Ax.rawP 1 (s, e))).1)) ∧ ((((Ax.rawP (1 : Int) (s, e)).2) = ((Ax.rdSgP z0 (Ax.rawP 1 (s, e))).2)) ∧ (((List.length (Ax.rdSg z0 (Ax.rawP 1 (s, e)))) = 0) ∧ z0 ≤ Ax.tsN (s, e)))))))))))) ∧ ∀ z0 : (Nat), (z0 ≤ Ax.tsN (s, e)) → (Ax.ifB (decide (((z0 : Nat) : Int) < (Ax.rdV (1 : Int) s e))) (True ∧ ((List.length ((Ax.rawP 32 (Ax.rdSgP z0 (Ax.rawP 1 (s, e)))).1) ≤ 1000000000) ∧ (((1 : Nat) * 2 ≤ 16777216) ∧ ((((0 : Nat) + (1 : Nat) ≤ (1 : Nat)) ∧ (z0 = (List.length (Ax.rdSg z0 (Ax.rawP 1 (s, e)))) ∧ ((List.length (Ax.rdSg z0 (Ax.rawP 1 (s, e)))) + (1 : Nat)) * 32 ≤ Ax.lim)) ∧ (∃ z0' : (Nat), (((0 : Nat) = (0 : Nat)) ∧ (((0 : Nat) = (0 : Nat)) ∧ (((1 : Nat) = (1 : Nat)) ∧ (((0 : Nat) = (0 : Nat)) ∧ ((((List.length (Ax.rdSg z0 (Ax.rawP 1 (s, e)))) + (1 : Nat)) = z0') ∧ (((Ax.rdV (1 : Int) s e) = (Ax.rdV (1 : Int) s e)) ∧ (((Go.IntKind.wrap .i64 (((z0 : Nat) : Int) + (1 : Int))) = ((z0' : Nat) : Int)) ∧ ((132 = 132) ∧ ((((Ax.txP (1024 : Int) (Ax.rawP 32 (Ax.rdSgP z0 (Ax.rawP 1 (s, e))))).1) = ((Ax.rdSgP z0' (Ax.rawP 1 (s, e))).1)) ∧ ((((Ax.txP (1024 : Int) (Ax.rawP 32 (Ax.rdSgP z0 (Ax.rawP 1 (s, e))))).2) = ((Ax.rdSgP z0' (Ax.rawP 1 (s, e))).2)) ∧ ((49 = 49) ∧ ((Ax.sameRec (.recs 2 ((List.length (Ax.rdSg z0 (Ax.rawP 1 (s, e)))) + (1 : Nat)) (fun i j => bif Nat.blt i (List.length (Ax.rdSg z0 (Ax.rawP 1 (s, e)))) then (Ax.sgC (Ax.rdSg z0 (Ax.rawP 1 (s, e)))) i j else (fun i j => Ax.D.at (.recs 2 (1 : Nat) (fun i j => Ax.cellD (List.getD ([.d (.str (Ax.rawV 32 ((Ax.rdSgP z0 (Ax.rawP 1 (s, e))).1) ((Ax.rdSgP z0 (Ax.rawP 1 (s, e))).2))), .d (.str (Ax.txV (1024 : Int) ((Ax.rawP 32 (Ax.rdSgP z0 (Ax.rawP 1 (s, e)))).1) ((Ax.rawP 32 (Ax.rdSgP z0 (Ax.rawP 1 (s, e)))).2)))] : List Ax.A) (i * 2 + j) .any))) ((0 : Nat) + i) j) (i - (List.length (Ax.rdSg z0 (Ax.rawP 1 (s, e))))) j)) (.recs 2 (List.length (Ax.rdSg z0' (Ax.rawP 1 (s, e)))) (Ax.sgC (Ax.rdSg z0' (Ax.rawP 1 (s, e)))))) ∧ (z0' ≤ Ax.tsN (s, e)) ∧ Ax.tsN (s, e) - z0' < Ax.tsN (s, e) - z0))))))))))))))))) (Ax.ifB (!(decide (((Ax.rdSgP z0 (Ax.rawP 1 (s, e))).2) = (0 : Int)))) (((List.length (Ax.tsL (s, e))) = 0) ∧ ((132 = 132) ∧ ((((Ax.rdSgP z0 (Ax.rawP 1 (s, e))).1) = ((Ax.tsP (s, e)).1)) ∧ ((((Ax.rdSgP z0 (Ax.rawP 1 (s, e))).2) = ((Ax.tsP (s, e)).2)) ∧ True)))) (((0 : Nat) + z0 ≤ (List.length (Ax.rdSg z0 (Ax.rawP 1 (s, e))))) ∧ ((Ax.sameRec (.recs 2 z0 (fun i j => Ax.D.at (.recs 2 (List.length (Ax.rdSg z0 (Ax.rawP 1 (s, e)))) (Ax.sgC (Ax.rdSg z0 (Ax.rawP 1 (s, e))))) ((0 : Nat) + i) j)) (.recs 2 (List.length (Ax.tsL (s, e))) (Ax.sgC (Ax.tsL (s, e))))) ∧ ((132 = 132) ∧ ((((Ax.rdSgP z0 (Ax.rawP 1 (s, e))).1) = ((Ax.tsP (s, e)).1)) ∧ ((((Ax.rdSgP z0 (Ax.rawP 1 (s, e))).2) = ((Ax.tsP (s, e)).2)) ∧ True)))))))))
theorem n_tsigs (s : List UInt8) (e : Int) : afun { P := Tryz.prog, Γ := g_i85, ann := a_tsigs s e } (inlN { P := Tryz.prog, Γ := g_i85, ann := a_tsigs s e } 8) 114 Tryz.f114 [.ptr (0 : Nat) (0 : Nat)] [((0 : Nat), .cells 132 [.d (.str s), .d (.int .i64 e)])] 1 (fun v_ h_ n_ k_ => conjL (weak 1 ⟨[(true, v_)], h_, n_, k_⟩ ⟨[(true, .d (.recs 2 (List.length (Ax.tsL (s, e))) (Ax.sgC (Ax.tsL (s, e)))))], [((0 : Nat), .cells 132 [.d (.str ((Ax.tsP (s, e)).1)), .d (.int .i64 ((Ax.tsP (s, e)).2))])], 1, []⟩) True) = T_tsigs s e := by kernel_rfl
set_option maxHeartbeats 4000000 in
theorem v_tsigs (s : List UInt8) (e : Int) (hpre : List.length s ≤ 1000000000) : T_tsigs s e := by
  unfold T_tsigs
  have n1 := rdV_1 s e
  have n0 := rdV_nonneg 1 s e
  have hn : ((tsN (s, e) : Nat) : Int) = rdV 1 s e := by unfold tsN; simp only; omega
  have q1 : (rawP 1 (s, e)).1.length ≤ 1000000000 := Nat.le_trans (rawP_len 1 (s, e)) hpre
  simp only [dP_iff, impT_iff, ifB_iff, Bool.and_eq_true, Bool.not_eq_true', decide_eq_true_eq, decide_eq_false_iff_not, true_and, and_true, imp_self, and_self, implies_true, true_implies, Bool.cond_true_left, Bool.cond_false_right, Bool.cond_true_right, Bool.cond_false_left, Bool.or_eq_true, Bool.not_eq_false', Bool.and_eq_false_imp, Bool.or_eq_false_iff, Bool.not_not, Ax.map_I, List.length_append, Ax.I_len, List.length_cons, List.length_nil, Ax.sameRec_self, Ax.rawP_1, Ax.rawP_2, Ax.failP_1, Ax.failP_2, Ax.e8P_1, Ax.e8P_2, Ax.txP_1, Ax.txP_2, Ax.endP_1, Ax.endP_2, Ax.tkP_1, Ax.tkP_2, Bool.true_eq_false, Bool.false_eq_true, imp_false]
  refine ⟨⟨rdV_le _ _ _ (by omega), hpre⟩, ⟨0, rfl, rfl, rfl, rfl, rfl, by omega⟩, fun i hi => ⟨fun h => ?_, fun h => ?_⟩⟩
  · obtain ⟨t1, t2⟩ := rdSg_succ i (rawP 1 (s, e))
    have hl := rdSg_len i (rawP 1 (s, e))
    have hs := Nat.le_trans (rdSgP_len i (rawP 1 (s, e))) q1
    refine ⟨Nat.le_trans (rawP_len _ _) hs, by omega, ⟨by omega, hl.symm, by rw [hl]; simp only [lim]; omega⟩, i + 1, by rw [hl], by rw [wrap64] <;> omega, by rw [t2]; rfl, by rw [t2]; rfl, ?_, by omega, by omega⟩
    rw [t1]
    generalize rdSg i (rawP 1 (s, e)) = l at *
    refine sgC_app l 1 _ (fun a j => D.at _ (0 + a) j) rfl fun j hj => ?_
    match j, hj with
    | 0, _ => rfl
    | 1, _ => rfl
  · have ei : i = tsN (s, e) := by omega
    subst ei
    have hl := rdSg_len (tsN (s, e)) (rawP 1 (s, e))
    simp only [at_sg]
    refine ⟨fun h => ?_, fun h => ?_⟩
    · have : tsL (s, e) = [] := if_neg h
      rw [this]; exact ⟨rfl, rfl, rfl⟩
    · have : tsL (s, e) = rdSg (tsN (s, e)) (rawP 1 (s, e)) := if_pos h
      rw [this, hl]; exact ⟨by omega, ⟨rfl, rfl, fun _ _ _ _ => rfl⟩, rfl, rfl⟩
set_option maxHeartbeats 4000000 in
theorem ct_tsigs : CtOk Tryz.prog 114 (own L_tsigs) := by
  refine own_ct_g go_i85 Tryz.checked.mixed Tryz.func114 (enter_of Tryz.func114 (by kernel_rfl) (by kernel_rfl)) ?_
  intro xs_ hp_ nx_ r_ h hpre
  unfold L_tsigs at h
  split at h
  · rename_i s e; simp only [Option.some.injEq] at h; subst h
    refine ⟨a_tsigs s e, 8, (.inl ⟨rfl, rfl, rfl⟩), ?_⟩
    have h1 := v_tsigs s e hpre
    rw [← n_tsigs s e] at h1
    dsimp only
    assumption
  · simp at h
noncomputable def g_tsigs : Nat → CE := gct 114 (own L_tsigs) g_i85
theorem go_tsigs : GamOk Tryz.prog g_tsigs := go_i85.ct ct_tsigs
/-! ### ostler/meta.Unseal -/
noncomputable def L_unseal : List A → Heap → Nat → Option LR
  | [.d (.str s)], [], 0 => some ⟨[.d (.str s)], [], 0, List.length s ≤ 1000000000, .tup [.d (.str (Ax.unB s)), .d (.recs 2 (List.length (Ax.unL s)) (Ax.sgC (Ax.unL s))), .d (.int .i64 (Ax.unE s))], [], 0, []⟩
  | _, _, _ => none
noncomputable def a_unseal (s : List UInt8) : Nat → Nat → Ann := fun f k => .unroll 0
def T_unseal (s : List UInt8) : Prop :=
  (True ∧ ((List.length s ≤ 1000000000) ∧ ((List.length ((Ax.txP (65535 : Int) (s, (0 : Int))).1) ≤ 1000000000) ∧ (True ∧ (Ax.dP (!(!(decide ((Ax.endE ((Ax.tsP (Ax.txP (65535 : Int) (s, (0 : Int)))).1) ((Ax.tsP (Ax.txP (65535 : Int) (s, (0 : Int)))).2)) = (0 : Int))))) ((!(!(decide ((Ax.endE ((Ax.tsP (Ax.txP (65535 : Int) (s, (0 : Int)))).1) ((Ax.tsP (Ax.txP (65535 : Int) (s, (0 : Int)))).2)) = (0 : Int))))) && true) (Ax.dP (!(!(decide ((Ax.endE ((Ax.tsP (Ax.txP (65535 : Int) (s, (0 : Int)))).1) ((Ax.tsP (Ax.txP (65535 : Int) (s, (0 : Int)))).2)) = (0 : Int))))) ((!(!(decide ((Ax.endE ((Ax.tsP (Ax.txP (65535 : Int) (s, (0 : Int)))).1) ((Ax.tsP (Ax.txP (65535 : Int) (s, (0 : Int)))).2)) = (0 : Int))))) && true) (Ax.dP true (bif !(decide ((Ax.endE ((Ax.tsP (Ax.txP (65535 : Int) (s, (0 : Int)))).1) ((Ax.tsP (Ax.txP (65535 : Int) (s, (0 : Int)))).2)) = (0 : Int))) then true else (!(!(decide ((Ax.endE ((Ax.tsP (Ax.txP (65535 : Int) (s, (0 : Int)))).1) ((Ax.tsP (Ax.txP (65535 : Int) (s, (0 : Int)))).2)) = (0 : Int)))))) (Ax.ifB (bif !(decide ((Ax.endE ((Ax.tsP (Ax.txP (65535 : Int) (s, (0 : Int)))).1) ((Ax.tsP (Ax.txP (65535 : Int) (s, (0 : Int)))).2)) = (0 : Int))) then true else (decide ((16 : Int) < ((List.length (Ax.tsL (Ax.txP (65535 : Int) (s, (0 : Int)))) : Nat) : Int)))) ((([] : List UInt8) = (Ax.unB s)) ∧ (((List.length (Ax.unL s)) = 0) ∧ (((3 : Int) = (Ax.unE s)) ∧ True))) (((Ax.txV (65535 : Int) s (0 : Int)) = (Ax.unB s)) ∧ ((Ax.sameRec (.recs 2 (List.length (Ax.tsL (Ax.txP (65535 : Int) (s, (0 : Int))))) (Ax.sgC (Ax.tsL (Ax.txP (65535 : Int) (s, (0 : Int)))))) (.recs 2 (List.length (Ax.unL s)) (Ax.sgC (Ax.unL s)))) ∧ (((0 : Int) = (Ax.unE s)) ∧ True)))))))))))
theorem n_unseal (s : List UInt8) : afun { P := Tryz.prog, Γ := g_tsigs, ann := a_unseal s } (inlN { P := Tryz.prog, Γ := g_tsigs, ann := a_unseal s } 8) 54 Tryz.f54 [.d (.str s)] [] 0 (fun v_ h_ n_ k_ => conjL (weak 0 ⟨[(true, v_)], h_, n_, k_⟩ ⟨[(true, .tup [.d (.str (Ax.unB s)), .d (.recs 2 (List.length (Ax.unL s)) (Ax.sgC (Ax.unL s))), .d (.int .i64 (Ax.unE s))])], [], 0, []⟩) True) = T_unseal s := by kernel_rfl
set_option maxHeartbeats 4000000 in
theorem v_unseal (s : List UInt8) (hpre : List.length s ≤ 1000000000) : T_unseal s := by
  unfold T_unseal
  simp only [dP_iff, impT_iff, ifB_iff, Bool.and_eq_true, Bool.not_eq_true', decide_eq_true_eq, decide_eq_false_iff_not, true_and, and_true, imp_self, and_self, implies_true, true_implies, Bool.cond_true_left, Bool.cond_false_right, Bool.cond_true_right, Bool.cond_false_left, Bool.or_eq_true, Bool.not_eq_false', Bool.and_eq_false_imp, Bool.or_eq_false_iff, Bool.not_not, Ax.map_I, List.length_append, Ax.I_len, List.length_cons, List.length_nil, Ax.sameRec_self, Ax.rawP_1, Ax.rawP_2, Ax.failP_1, Ax.failP_2, Ax.e8P_1, Ax.e8P_2, Ax.txP_1, Ax.txP_2, Ax.endP_1, Ax.endP_2, Ax.tkP_1, Ax.tkP_2, Bool.true_eq_false, Bool.false_eq_true, imp_false]
  have q := Nat.le_trans (txS_len 65535 s 0) hpre
  refine ⟨hpre, q, (Classical.em _).symm, fun h => ?_, fun h => ?_⟩
  · have : unOk s = false := by
      unfold unOk unP
      rcases h with h | h
      · simp [h]
      · have : ¬ (tsL (txP 65535 (s, 0))).length ≤ 16 := by omega
        simp [this]
    simp [unB, unL, unE, this]
  · have : unOk s = true := by
      unfold unOk unP
      have h2 : (tsL (txP 65535 (s, 0))).length ≤ 16 := by omega
      simp [h.1, h2]
    simp [unB, unL, unE, this, sameRec]
set_option maxHeartbeats 4000000 in
theorem ct_unseal : CtOk Tryz.prog 54 (own L_unseal) := by
  refine own_ct_g go_tsigs Tryz.checked.mixed Tryz.func54 (enter_of Tryz.func54 (by kernel_rfl) (by kernel_rfl)) ?_
  intro xs_ hp_ nx_ r_ h hpre
  unfold L_unseal at h
  split at h
  · rename_i s; simp only [Option.some.injEq] at h; subst h
    refine ⟨a_unseal s, 8, (.inl ⟨rfl, rfl, rfl⟩), ?_⟩
    have h1 := v_unseal s hpre
    rw [← n_unseal s] at h1
    dsimp only
    assumption
  · simp at h
noncomputable def g_unseal : Nat → CE := gct 54 (own L_unseal) g_tsigs
theorem go_unseal : GamOk Tryz.prog g_unseal := go_tsigs.ct ct_unseal
/-! ### ostler/meta.Open -/
noncomputable def L_open : List A → Heap → Nat → Option LR
  | [.d (.str s), .d (.int .i64 k), .nilsl], [], 0 => some ⟨[.d (.str s), .d (.int .i64 k), .nilsl], [], 0, List.length s ≤ 1000000000, .tup [.agg [.d (.int .i64 ((Ax.opD s k).kind)), .d (.int .i64 ((Ax.opD s k).ver)), .d (.int .i64 ((Ax.opD s k).exp)), .d (.strs ((Ax.opD s k).r0)), .d (.int .i64 ((Ax.opD s k).n0)), .d (.strs ((Ax.opD s k).r1)), .d (.int .i64 ((Ax.opD s k).n1)), .d (.strs ((Ax.opD s k).r2)), .d (.int .i64 ((Ax.opD s k).n2)), .d (.strs ((Ax.opD s k).r3)), .d (.int .i64 ((Ax.opD s k).n3)), .d (.strs ((Ax.opD s k).wi)), .d (.int .i64 ((Ax.opD s k).wn)), .d (.str ((Ax.opD s k).log)), .d (.str ((Ax.opD s k).org)), .d (.recs 3 (List.length ((Ax.opD s k).tg)) (Ax.tgC ((Ax.opD s k).tg))), .d (.str ((Ax.opD s k).pO)), .d (.int .i64 ((Ax.opD s k).pS)), .d (.str ((Ax.opD s k).pR)), .d (.int .i64 ((Ax.opD s k).of_)), .d (.str ((Ax.opD s k).hash))], .d (.str (Ax.opB s k)), .d (.int .i64 (Ax.opE s k))], [], 0, []⟩
  | _, _, _ => none
noncomputable def a_open (s : List UInt8) (k : Int) : Nat → Nat → Ann := fun f k => bif Nat.beq f 115 && Nat.beq k 0 then .unroll 1 else .unroll 0
def T_open (s : List UInt8) (k : Int) : Prop :=
  (True ∧ ((List.length s ≤ 1000000000) ∧ (True ∧ (True ∧ (True ∧ (True ∧ (Ax.ifB (!(decide ((Ax.unE s) = (0 : Int)))) (True ∧ (((0 : Int) = ((Ax.opD s k).kind)) ∧ (((0 : Int) = ((Ax.opD s k).ver)) ∧ (((0 : Int) = ((Ax.opD s k).exp)) ∧ (((List.length ((Ax.opD s k).r0)) = 0) ∧ (((0 : Int) = ((Ax.opD s k).n0)) ∧ (((List.length ((Ax.opD s k).r1)) = 0) ∧ (((0 : Int) = ((Ax.opD s k).n1)) ∧ (((List.length ((Ax.opD s k).r2)) = 0) ∧ (((0 : Int) = ((Ax.opD s k).n2)) ∧ (((List.length ((Ax.opD s k).r3)) = 0) ∧ (((0 : Int) = ((Ax.opD s k).n3)) ∧ (((List.length ((Ax.opD s k).wi)) = 0) ∧ (((0 : Int) = ((Ax.opD s k).wn)) ∧ ((([] : List UInt8) = ((Ax.opD s k).log)) ∧ ((([] : List UInt8) = ((Ax.opD s k).org)) ∧ (((List.length ((Ax.opD s k).tg)) = 0) ∧ ((([] : List UInt8) = ((Ax.opD s k).pO)) ∧ (((0 : Int) = ((Ax.opD s k).pS)) ∧ ((([] : List UInt8) = ((Ax.opD s k).pR)) ∧ (((0 : Int) = ((Ax.opD s k).of_)) ∧ ((([] : List UInt8) = ((Ax.opD s k).hash)) ∧ ((([] : List UInt8) = (Ax.opB s k)) ∧ (((Ax.unE s) = (Ax.opE s k)) ∧ True)))))))))))))))))))))))) ((List.length (Ax.unB s) ≤ 1000000000) ∧ (True ∧ (True ∧ (Ax.ifB (!(decide ((Ax.decE (Ax.unB s)) = (0 : Int)))) (True ∧ (((0 : Int) = ((Ax.opD s k).kind)) ∧ (((0 : Int) = ((Ax.opD s k).ver)) ∧ (((0 : Int) = ((Ax.opD s k).exp)) ∧ (((List.length ((Ax.opD s k).r0)) = 0) ∧ (((0 : Int) = ((Ax.opD s k).n0)) ∧ (((List.length ((Ax.opD s k).r1)) = 0) ∧ (((0 : Int) = ((Ax.opD s k).n1)) ∧ (((List.length ((Ax.opD s k).r2)) = 0) ∧ (((0 : Int) = ((Ax.opD s k).n2)) ∧ (((List.length ((Ax.opD s k).r3)) = 0) ∧ (((0 : Int) = ((Ax.opD s k).n3)) ∧ (((List.length ((Ax.opD s k).wi)) = 0) ∧ (((0 : Int) = ((Ax.opD s k).wn)) ∧ ((([] : List UInt8) = ((Ax.opD s k).log)) ∧ ((([] : List UInt8) = ((Ax.opD s k).org)) ∧ (((List.length ((Ax.opD s k).tg)) = 0) ∧ ((([] : List UInt8) = ((Ax.opD s k).pO)) ∧ (((0 : Int) = ((Ax.opD s k).pS)) ∧ ((([] : List UInt8) = ((Ax.opD s k).pR)) ∧ (((0 : Int) = ((Ax.opD s k).of_)) ∧ ((([] : List UInt8) = ((Ax.opD s k).hash)) ∧ ((([] : List UInt8) = (Ax.opB s k)) ∧ (((Ax.decE (Ax.unB s)) = (Ax.opE s k)) ∧ True)))))))))))))))))))))))) (Ax.ifB (!(decide (((Ax.decD (Ax.unB s)).kind) = k))) (True ∧ (((0 : Int) = ((Ax.opD s k).kind)) ∧ (((0 : Int) = ((Ax.opD s k).ver)) ∧ (((0 : Int) = ((Ax.opD s k).exp)) ∧ (((List.length ((Ax.opD s k).r0)) = 0) ∧ (((0 : Int) = ((Ax.opD s k).n0)) ∧ (((List.length ((Ax.opD s k).r1)) = 0) ∧ (((0 : Int) = ((Ax.opD s k).n1)) ∧ (((List.length ((Ax.opD s k).r2)) = 0) ∧ (((0 : Int) = ((Ax.opD s k).n2)) ∧ (((List.length ((Ax.opD s k).r3)) = 0) ∧ (((0 : Int) = ((Ax.opD s k).n3)) ∧ (((List.length ((Ax.opD s k).wi)) = 0) ∧ (((0 : Int) = ((Ax.opD s k).wn)) ∧ ((([] : List UInt8) = ((Ax.opD s k).log)) ∧ ((([] : List UInt8) = ((Ax.opD s k).org)) ∧ (((List.length ((Ax.opD s k).tg)) = 0) ∧ ((([] : List UInt8) = ((Ax.opD s k).pO)) ∧ (((0 : Int) = ((Ax.opD s k).pS)) ∧ ((([] : List UInt8) = ((Ax.opD s k).pR)) ∧ (((0 : Int) = ((Ax.opD s k).of_)) ∧ ((([] : List UInt8) = ((Ax.opD s k).hash)) ∧ ((([] : List UInt8) = (Ax.opB s k)) ∧ (((1 : Int) = (Ax.opE s k)) ∧ True)))))))))))))))))))))))) (True ∧ ((((Ax.decD (Ax.unB s)).kind) = ((Ax.opD s k).kind)) ∧ ((((Ax.decD (Ax.unB s)).ver) = ((Ax.opD s k).ver)) ∧ ((((Ax.decD (Ax.unB s)).exp) = ((Ax.opD s k).exp)) ∧ ((((Ax.decD (Ax.unB s)).r0) = ((Ax.opD s k).r0)) ∧ ((((Ax.decD (Ax.unB s)).n0) = ((Ax.opD s k).n0)) ∧ ((((Ax.decD (Ax.unB s)).r1) = ((Ax.opD s k).r1)) ∧ ((((Ax.decD (Ax.unB s)).n1) = ((Ax.opD s k).n1)) ∧ ((((Ax.decD (Ax.unB s)).r2) = ((Ax.opD s k).r2)) ∧ ((((Ax.decD (Ax.unB s)).n2) = ((Ax.opD s k).n2)) ∧ ((((Ax.decD (Ax.unB s)).r3) = ((Ax.opD s k).r3)) ∧ ((((Ax.decD (Ax.unB s)).n3) = ((Ax.opD s k).n3)) ∧ ((((Ax.decD (Ax.unB s)).wi) = ((Ax.opD s k).wi)) ∧ ((((Ax.decD (Ax.unB s)).wn) = ((Ax.opD s k).wn)) ∧ ((((Ax.decD (Ax.unB s)).log) = ((Ax.opD s k).log)) ∧ ((((Ax.decD (Ax.unB s)).org) = ((Ax.opD s k).org)) ∧ ((Ax.sameRec (.recs 3 (List.length ((Ax.decD (Ax.unB s)).tg)) (Ax.tgC ((Ax.decD (Ax.unB s)).tg))) (.recs 3 (List.length ((Ax.opD s k).tg)) (Ax.tgC ((Ax.opD s k).tg)))) ∧ ((((Ax.decD (Ax.unB s)).pO) = ((Ax.opD s k).pO)) ∧ ((((Ax.decD (Ax.unB s)).pS) = ((Ax.opD s k).pS)) ∧ ((((Ax.decD (Ax.unB s)).pR) = ((Ax.opD s k).pR)) ∧ ((((Ax.decD (Ax.unB s)).of_) = ((Ax.opD s k).of_)) ∧ ((((Ax.decD (Ax.unB s)).hash) = ((Ax.opD s k).hash)) ∧ (((Ax.unB s) = (Ax.opB s k)) ∧ (((0 : Int) = (Ax.opE s k)) ∧ True))))))))))))))))))))))))))))))))))))
theorem n_open (s : List UInt8) (k : Int) : afun { P := Tryz.prog, Γ := g_unseal, ann := a_open s k } (inlN { P := Tryz.prog, Γ := g_unseal, ann := a_open s k } 8) 18 Tryz.f18 [.d (.str s), .d (.int .i64 k), .nilsl] [] 0 (fun v_ h_ n_ k_ => conjL (weak 0 ⟨[(true, v_)], h_, n_, k_⟩ ⟨[(true, .tup [.agg [.d (.int .i64 ((Ax.opD s k).kind)), .d (.int .i64 ((Ax.opD s k).ver)), .d (.int .i64 ((Ax.opD s k).exp)), .d (.strs ((Ax.opD s k).r0)), .d (.int .i64 ((Ax.opD s k).n0)), .d (.strs ((Ax.opD s k).r1)), .d (.int .i64 ((Ax.opD s k).n1)), .d (.strs ((Ax.opD s k).r2)), .d (.int .i64 ((Ax.opD s k).n2)), .d (.strs ((Ax.opD s k).r3)), .d (.int .i64 ((Ax.opD s k).n3)), .d (.strs ((Ax.opD s k).wi)), .d (.int .i64 ((Ax.opD s k).wn)), .d (.str ((Ax.opD s k).log)), .d (.str ((Ax.opD s k).org)), .d (.recs 3 (List.length ((Ax.opD s k).tg)) (Ax.tgC ((Ax.opD s k).tg))), .d (.str ((Ax.opD s k).pO)), .d (.int .i64 ((Ax.opD s k).pS)), .d (.str ((Ax.opD s k).pR)), .d (.int .i64 ((Ax.opD s k).of_)), .d (.str ((Ax.opD s k).hash))], .d (.str (Ax.opB s k)), .d (.int .i64 (Ax.opE s k))])], [], 0, []⟩) True) = T_open s k := by kernel_rfl
set_option maxHeartbeats 4000000 in
theorem v_open (s : List UInt8) (k : Int) (hpre : List.length s ≤ 1000000000) : T_open s k := by
  unfold T_open
  simp only [dP_iff, impT_iff, ifB_iff, Bool.and_eq_true, Bool.not_eq_true', decide_eq_true_eq, decide_eq_false_iff_not, true_and, and_true, imp_self, and_self, implies_true, true_implies, Bool.cond_true_left, Bool.cond_false_right, Bool.cond_true_right, Bool.cond_false_left, Bool.or_eq_true, Bool.not_eq_false', Bool.and_eq_false_imp, Bool.or_eq_false_iff, Bool.not_not, Ax.map_I, List.length_append, Ax.I_len, List.length_cons, List.length_nil, Ax.sameRec_self, Ax.rawP_1, Ax.rawP_2, Ax.failP_1, Ax.failP_2, Ax.e8P_1, Ax.e8P_2, Ax.txP_1, Ax.txP_2, Ax.endP_1, Ax.endP_2, Ax.tkP_1, Ax.tkP_2, Bool.true_eq_false, Bool.false_eq_true, imp_false]
  have q := Nat.le_trans (unB_len s) hpre
  refine ⟨hpre, fun h => ?_, fun h => ⟨q, fun h1 => ?_, fun h1 => ⟨fun h2 => ?_, fun h2 => ?_⟩⟩⟩
  · have e : opE s k = unE s := if_neg h
    have e0 : ¬ opE s k = 0 := by rw [e]; exact h
    rw [opD, if_neg e0, opB, if_neg e0, e]
    simp [zeroDoc]
  · have e : opE s k = decE (unB s) := by unfold opE; rw [if_pos h, if_neg h1]
    have e0 : ¬ opE s k = 0 := by rw [e]; exact h1
    rw [opD, if_neg e0, opB, if_neg e0, e]
    simp [zeroDoc]
  · have e : opE s k = 1 := by unfold opE; rw [if_pos h, if_pos h1, if_neg h2]
    have e0 : ¬ opE s k = 0 := by rw [e]; decide
    rw [opD, if_neg e0, opB, if_neg e0, e]
    simp [zeroDoc]
  · have e : opE s k = 0 := by unfold opE; rw [if_pos h, if_pos h1, if_pos h2]
    rw [opD, if_pos e, opB, if_pos e, e]
    simp [sameRec]
set_option maxHeartbeats 4000000 in
theorem ct_open : CtOk Tryz.prog 18 (own L_open) := by
  refine own_ct_g go_unseal Tryz.checked.mixed Tryz.func18 (enter_of Tryz.func18 (by kernel_rfl) (by kernel_rfl)) ?_
  intro xs_ hp_ nx_ r_ h hpre
  unfold L_open at h
  split at h
  · rename_i s k; simp only [Option.some.injEq] at h; subst h
    refine ⟨a_open s k, 8, (.inl ⟨rfl, rfl, rfl⟩), ?_⟩
    have h1 := v_open s k hpre
    rw [← n_open s k] at h1
    dsimp only
    assumption
  · simp at h
noncomputable def g_open : Nat → CE := gct 18 (own L_open) g_unseal
theorem go_open : GamOk Tryz.prog g_open := go_unseal.ct ct_open
/-! ### ostler/meta.Seal -/
noncomputable def L_seal : List A → Option LR
  | [.d (.str s), .nilsl] => some ⟨[.d (.str s), .nilsl], [], 0, List.length s ≤ 65535, .tup [.d (.str (Ax.textB s ++ Ax.num 1 0)), .d (.int .i64 (0 : Int))], [], 0, []⟩
  | _ => none
noncomputable def a_seal (s : List UInt8) : Nat → Nat → Ann := fun f k => bif Nat.beq f 141 && Nat.beq k 0 then .unroll 1 else bif Nat.beq f 85 && Nat.beq k 0 then .unroll 1 else .unroll 0
def T_seal (s : List UInt8) : Prop :=
  (Ax.dP (!(decide ((65535 : Int) < ((List.length s : Nat) : Int)))) ((!(decide ((65535 : Int) < ((List.length s : Nat) : Int)))) && true) (Ax.dP (!(decide ((65535 : Int) < ((List.length s : Nat) : Int)))) ((!(decide ((65535 : Int) < ((List.length s : Nat) : Int)))) && true) (Ax.dP true (bif decide ((65535 : Int) < ((List.length s : Nat) : Int)) then true else (!(decide ((65535 : Int) < ((List.length s : Nat) : Int))))) (Ax.ifB (!(bif decide ((65535 : Int) < ((List.length s : Nat) : Int)) then true else false)) (Ax.dP true ((!(bif decide ((65535 : Int) < ((List.length s : Nat) : Int)) then true else false)) && true) (True ∧ (((0 : Nat) = List.length ([] : List Int) ∧ List.length ([] : List Int) ≤ 1000000000 ∧ (List.length s ≤ 1000000000)) ∧ (((List.length (([] : List Int) ++ Ax.I (Ax.num 2 (List.length s) ++ s))) = List.length (([] : List Int) ++ Ax.I (Ax.num 2 (List.length s) ++ s)) ∧ List.length (([] : List Int) ++ Ax.I (Ax.num 2 (List.length s) ++ s)) ≤ 1000000000 ∧ (0 ≤ (1 : Int) ∧ (1 : Int) ≤ 8)) ∧ (((List.length ((([] : List Int) ++ Ax.I (Ax.num 2 (List.length s) ++ s)) ++ Ax.I (Ax.num (1 : Int) (0 : Int)))) = List.length ((([] : List Int) ++ Ax.I (Ax.num 2 (List.length s) ++ s)) ++ Ax.I (Ax.num (1 : Int) (0 : Int))) ∧ List.length ((([] : List Int) ++ Ax.I (Ax.num 2 (List.length s) ++ s)) ++ Ax.I (Ax.num (1 : Int) (0 : Int))) ≤ 1000000000) ∧ (((if ((false || Ax.beBad 2 (List.length s)) || Ax.beBad (1 : Int) (0 : Int)) then [] else Ax.strOfInts ((([] : List Int) ++ Ax.I (Ax.num 2 (List.length s) ++ s)) ++ Ax.I (Ax.num (1 : Int) (0 : Int)))) = (Ax.textB s ++ Ax.num 1 0)) ∧ (((if ((false || Ax.beBad 2 (List.length s)) || Ax.beBad (1 : Int) (0 : Int)) then (1 : Int) else 0) = (0 : Int)) ∧ True))))))) ((([] : List UInt8) = (Ax.textB s ++ Ax.num 1 0)) ∧ (((1 : Int) = (0 : Int)) ∧ True))))))
theorem n_seal (s : List UInt8) : afun { P := Tryz.prog, Γ := g_open, ann := a_seal s } (inlN { P := Tryz.prog, Γ := g_open, ann := a_seal s } 8) 29 Tryz.f29 [.d (.str s), .nilsl] [] 0 (fun v_ h_ n_ k_ => conjL (weak 0 ⟨[(true, v_)], h_, n_, k_⟩ ⟨[(true, .tup [.d (.str (Ax.textB s ++ Ax.num 1 0)), .d (.int .i64 (0 : Int))])], [], 0, []⟩) True) = T_seal s := by kernel_rfl
set_option maxHeartbeats 4000000 in
theorem v_seal (s : List UInt8) (hpre : List.length s ≤ 65535) : T_seal s := by
  unfold T_seal
  simp only [dP_iff, impT_iff, ifB_iff, Bool.and_eq_true, Bool.not_eq_true', decide_eq_true_eq, decide_eq_false_iff_not, true_and, and_true, imp_self, and_self, implies_true, true_implies, Bool.cond_true_left, Bool.cond_false_right, Bool.cond_true_right, Bool.cond_false_left, Bool.or_eq_true, Bool.not_eq_false', Bool.and_eq_false_imp, Bool.or_eq_false_iff, Bool.not_not, Ax.map_I, List.length_append, Ax.I_len, List.length_cons, List.length_nil, Ax.sameRec_self, Ax.rawP_1, Ax.rawP_2, Ax.failP_1, Ax.failP_2, Ax.e8P_1, Ax.e8P_2, Ax.txP_1, Ax.txP_2, Ax.endP_1, Ax.endP_2, Ax.tkP_1, Ax.tkP_2, Bool.true_eq_false, Bool.false_eq_true, imp_false]
  have l1 := num_len2 s.length
  have l2 := num_len1 0
  have g2 : beBad 2 s.length = false := beBad_ok 2 _ (by omega) (by omega)
  have g1 : beBad 1 0 = false := beBad_ok 1 _ (by omega) (by decide)
  refine ⟨by omega, fun h => ⟨h, by omega, by omega, by omega, ?_, ?_⟩, fun h => by omega⟩
  · rw [if_neg (by rw [g1, g2]; simp)]
    simp only [List.nil_append, ← I_app, strOfInts_I]
    simp [textB]
  · rw [if_neg (by rw [g1, g2]; simp)]
set_option maxHeartbeats 4000000 in
theorem ct_seal : CtOk Tryz.prog 29 (lend [] L_seal) := by
  refine lend_ct_g go_open Tryz.checked.mixed Tryz.func29 (enter_of Tryz.func29 (by kernel_rfl) (by kernel_rfl)) ?_
  intro xs_ r_ h hpre
  unfold L_seal at h
  split at h
  · rename_i s; simp only [Option.some.injEq] at h; subst h
    refine ⟨a_seal s, 8, (.inl rfl), trivial, ?_⟩
    have h1 := v_seal s hpre
    rw [← n_seal s] at h1
    dsimp only
    assumption
  · simp at h
noncomputable def g_seal : Nat → CE := gct 29 (lend [] L_seal) g_open
theorem go_seal : GamOk Tryz.prog g_seal := go_open.ct ct_seal
end Go.Proofs.YtfohmbookjnkgaaGreatDoor.Mx
