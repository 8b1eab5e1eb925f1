/- Runs. Conditions: none; lemmas. -/
import Derived.Test.YtfohmbookjnkgaaGreatDoorM2
set_option linter.unusedVariables false
set_option linter.unusedSimpArgs false
set_option maxRecDepth 100000
set_option maxHeartbeats 4000000
namespace Go.Proofs.YtfohmbookjnkgaaGreatDoor.Mx
open Go Go.Proofs Ax
/-! ### ostler/quorum.Take -/
noncomputable def L_qtake : List A → Heap → Nat → Option LR
  | [.ptr 0 0], [(0, .cells 132 [.d (.str s), .d (.int .i64 e)])], 1 => some ⟨[.ptr (0 : Nat) (0 : Nat)], [((0 : Nat), .cells 132 [.d (.str s), .d (.int .i64 e)])], 1, List.length s ≤ 1000000000, .agg [.d (.strs (Ax.tkIds s e)), .d (.int .i64 (Ax.tkNeed s e))], [((0 : Nat), .cells 132 [.d (.str ((Ax.tkP (s, e)).1)), .d (.int .i64 ((Ax.tkP (s, e)).2))])], 1, []⟩
  | _, _, _ => none
noncomputable def a_qtake (s : List UInt8) (e : Int) : Nat → Nat → Ann := fun f k => bif Nat.beq f 146 && Nat.beq k 0 then .inv ((Nat)) (fun st z => (St.with st [1, 4, 7, 8, 9, 10, 11, 12, 13, 14, 15, 16, 17, 18, 19, 20, 21, 22, 23, 24, 25, 26, 27, 28] [(6, .d (.int .i64 ((z : Nat) : Int)))] [((0 : Nat), .cells 132 [.d (.str (Ax.rdIdsS z (Ax.rawS 1 s e) (Ax.rawE 1 s e))), .d (.int .i64 (Ax.rdIdsE z (Ax.rawS 1 s e) (Ax.rawE 1 s e)))]), ((2 : Nat), .cells 24 [.sl (3 : Nat) (0 : Nat) z, .d (.int .i64 (0 : Int))]), ((3 : Nat), .row 9 (.strs (Ax.rdIds z (Ax.rawS 1 s e) (Ax.rawE 1 s e))))] 4).addK [3]) (fun st z => z ≤ Ax.tkN s e) (fun st z => Ax.tkN s e - z) else .unroll 0
def T_qtake (s : List UInt8) (e : Int) : Prop :=
  (True ∧ (True ∧ ((Ax.rdV (1 : Int) s e ≤ 9223372036854775807 ∧ List.length s ≤ 1000000000) ∧ ((∃ z0 : (Nat), (((0 : Nat) = (0 : Nat)) ∧ (((0 : Nat) = (0 : Nat)) ∧ (((1 : Nat) = (1 : Nat)) ∧ (((0 : Nat) = (0 : Nat)) ∧ (((2 : Nat) = (2 : Nat)) ∧ (((0 : Nat) = (0 : Nat)) ∧ (((Ax.rdV (1 : Int) s e) = (Ax.rdV (1 : Int) s e)) ∧ (((0 : Int) = ((z0 : Nat) : Int)) ∧ ((132 = 132) ∧ ((((Ax.rawP (1 : Int) (s, e)).1) = (Ax.rdIdsS z0 (Ax.rawS 1 s e) (Ax.rawE 1 s e))) ∧ ((((Ax.rawP (1 : Int) (s, e)).2) = (Ax.rdIdsE z0 (Ax.rawS 1 s e) (Ax.rawE 1 s e))) ∧ ((24 = 24) ∧ (((0 : Int) = (0 : Int)) ∧ ((24 = 24) ∧ (((0 : Nat) = 0) ∧ ((z0 = 0) ∧ (((0 : Int) = (0 : Int)) ∧ (((List.length (Ax.rdIds z0 (Ax.rawS 1 s e) (Ax.rawE 1 s e))) = 0) ∧ z0 ≤ Ax.tkN s e))))))))))))))))))) ∧ ∀ z0 : (Nat), (z0 ≤ Ax.tkN s e) → (Ax.ifB (decide (((z0 : Nat) : Int) < (Ax.rdV (1 : Int) s e))) (True ∧ (((1 : Nat) * 1 ≤ 16777216) ∧ ((((0 : Nat) + (1 : Nat) ≤ (1 : Nat)) ∧ (z0 = (List.length (Ax.rdIds z0 (Ax.rawS 1 s e) (Ax.rawE 1 s e))) ∧ (List.length ((Ax.rdIds z0 (Ax.rawS 1 s e) (Ax.rawE 1 s e)) ++ ([(Ax.rawV 32 (Ax.rdIdsS z0 (Ax.rawS 1 s e) (Ax.rawE 1 s e)) (Ax.rdIdsE z0 (Ax.rawS 1 s e) (Ax.rawE 1 s e)))] : List (List UInt8)))) * 16 ≤ Ax.lim)) ∧ (True ∧ (∃ z0' : (Nat), (((0 : Nat) = (0 : Nat)) ∧ (((0 : Nat) = (0 : Nat)) ∧ (((1 : Nat) = (1 : Nat)) ∧ (((0 : Nat) = (0 : Nat)) ∧ (((2 : Nat) = (2 : Nat)) ∧ (((0 : Nat) = (0 : Nat)) ∧ (((Ax.rdV (1 : Int) s e) = (Ax.rdV (1 : Int) s e)) ∧ (((Go.IntKind.wrap .i64 (((z0 : Nat) : Int) + (1 : Int))) = ((z0' : Nat) : Int)) ∧ ((132 = 132) ∧ ((((Ax.rawP 32 ((Ax.rdIdsS z0 (Ax.rawS 1 s e) (Ax.rawE 1 s e)), (Ax.rdIdsE z0 (Ax.rawS 1 s e) (Ax.rawE 1 s e)))).1) = (Ax.rdIdsS z0' (Ax.rawS 1 s e) (Ax.rawE 1 s e))) ∧ ((((Ax.rawP 32 ((Ax.rdIdsS z0 (Ax.rawS 1 s e) (Ax.rawE 1 s e)), (Ax.rdIdsE z0 (Ax.rawS 1 s e) (Ax.rawE 1 s e)))).2) = (Ax.rdIdsE z0' (Ax.rawS 1 s e) (Ax.rawE 1 s e))) ∧ ((24 = 24) ∧ (((0 : Int) = (0 : Int)) ∧ ((24 = 24) ∧ (((3 : Nat) = (3 : Nat)) ∧ (((0 : Nat) = (0 : Nat)) ∧ (((List.length ((Ax.rdIds z0 (Ax.rawS 1 s e) (Ax.rawE 1 s e)) ++ ([(Ax.rawV 32 (Ax.rdIdsS z0 (Ax.rawS 1 s e) (Ax.rawE 1 s e)) (Ax.rdIdsE z0 (Ax.rawS 1 s e) (Ax.rawE 1 s e)))] : List (List UInt8)))) = z0') ∧ (((0 : Int) = (0 : Int)) ∧ ((9 = 9) ∧ ((((Ax.rdIds z0 (Ax.rawS 1 s e) (Ax.rawE 1 s e)) ++ ([(Ax.rawV 32 (Ax.rdIdsS z0 (Ax.rawS 1 s e) (Ax.rawE 1 s e)) (Ax.rdIdsE z0 (Ax.rawS 1 s e) (Ax.rawE 1 s e)))] : List (List UInt8))) = (Ax.rdIds z0' (Ax.rawS 1 s e) (Ax.rawE 1 s e))) ∧ (z0' ≤ Ax.tkN s e) ∧ Ax.tkN s e - z0' < Ax.tkN s e - z0))))))))))))))))))))))))) ((Ax.rdV (1 : Int) (Ax.rdIdsS z0 (Ax.rawS 1 s e) (Ax.rawE 1 s e)) (Ax.rdIdsE z0 (Ax.rawS 1 s e) (Ax.rawE 1 s e)) ≤ 9223372036854775807 ∧ List.length (Ax.rdIdsS z0 (Ax.rawS 1 s e) (Ax.rawE 1 s e)) ≤ 1000000000) ∧ (True ∧ ((((0 : Nat) + z0 ≤ (List.length (Ax.rdIds z0 (Ax.rawS 1 s e) (Ax.rawE 1 s e)))) ∧ True) ∧ (Ax.ifB (!(decide ((Ax.chkSet (List.take z0 (Ax.rdIds z0 (Ax.rawS 1 s e) (Ax.rawE 1 s e))) (Ax.rdV (1 : Int) (Ax.rdIdsS z0 (Ax.rawS 1 s e) (Ax.rawE 1 s e)) (Ax.rdIdsE z0 (Ax.rawS 1 s e) (Ax.rawE 1 s e)))) = (0 : Int)))) (True ∧ (Ax.ifB (!(decide (((Ax.failP (3 : Int) (Ax.rawP (1 : Int) ((Ax.rdIdsS z0 (Ax.rawS 1 s e) (Ax.rawE 1 s e)), (Ax.rdIdsE z0 (Ax.rawS 1 s e) (Ax.rawE 1 s e))))).2) = (0 : Int)))) (True ∧ (((List.length (Ax.tkIds s e)) = 0) ∧ (((0 : Int) = (Ax.tkNeed s e)) ∧ ((132 = 132) ∧ ((((Ax.failP (3 : Int) (Ax.rawP (1 : Int) ((Ax.rdIdsS z0 (Ax.rawS 1 s e) (Ax.rawE 1 s e)), (Ax.rdIdsE z0 (Ax.rawS 1 s e) (Ax.rawE 1 s e))))).1) = ((Ax.tkP (s, e)).1)) ∧ ((((Ax.failP (3 : Int) (Ax.rawP (1 : Int) ((Ax.rdIdsS z0 (Ax.rawS 1 s e) (Ax.rawE 1 s e)), (Ax.rdIdsE z0 (Ax.rawS 1 s e) (Ax.rawE 1 s e))))).2) = ((Ax.tkP (s, e)).2)) ∧ True)))))) (True ∧ (((0 : Nat) + z0 ≤ (List.length (Ax.rdIds z0 (Ax.rawS 1 s e) (Ax.rawE 1 s e)))) ∧ (((List.take z0 (Ax.rdIds z0 (Ax.rawS 1 s e) (Ax.rawE 1 s e))) = (Ax.tkIds s e)) ∧ (((Ax.rdV (1 : Int) (Ax.rdIdsS z0 (Ax.rawS 1 s e) (Ax.rawE 1 s e)) (Ax.rdIdsE z0 (Ax.rawS 1 s e) (Ax.rawE 1 s e))) = (Ax.tkNeed s e)) ∧ ((132 = 132) ∧ ((((Ax.failP (3 : Int) (Ax.rawP (1 : Int) ((Ax.rdIdsS z0 (Ax.rawS 1 s e) (Ax.rawE 1 s e)), (Ax.rdIdsE z0 (Ax.rawS 1 s e) (Ax.rawE 1 s e))))).1) = ((Ax.tkP (s, e)).1)) ∧ ((((Ax.failP (3 : Int) (Ax.rawP (1 : Int) ((Ax.rdIdsS z0 (Ax.rawS 1 s e) (Ax.rawE 1 s e)), (Ax.rdIdsE z0 (Ax.rawS 1 s e) (Ax.rawE 1 s e))))).2) = ((Ax.tkP (s, e)).2)) ∧ True))))))))) (Ax.ifB (!(decide (((Ax.rawP (1 : Int) ((Ax.rdIdsS z0 (Ax.rawS 1 s e) (Ax.rawE 1 s e)), (Ax.rdIdsE z0 (Ax.rawS 1 s e) (Ax.rawE 1 s e)))).2) = (0 : Int)))) (True ∧ (((List.length (Ax.tkIds s e)) = 0) ∧ (((0 : Int) = (Ax.tkNeed s e)) ∧ ((132 = 132) ∧ ((((Ax.rawP (1 : Int) ((Ax.rdIdsS z0 (Ax.rawS 1 s e) (Ax.rawE 1 s e)), (Ax.rdIdsE z0 (Ax.rawS 1 s e) (Ax.rawE 1 s e)))).1) = ((Ax.tkP (s, e)).1)) ∧ ((((Ax.rawP (1 : Int) ((Ax.rdIdsS z0 (Ax.rawS 1 s e) (Ax.rawE 1 s e)), (Ax.rdIdsE z0 (Ax.rawS 1 s e) (Ax.rawE 1 s e)))).2) = ((Ax.tkP (s, e)).2)) ∧ True)))))) (True ∧ (((0 : Nat) + z0 ≤ (List.length (Ax.rdIds z0 (Ax.rawS 1 s e) (Ax.rawE 1 s e)))) ∧ (((List.take z0 (Ax.rdIds z0 (Ax.rawS 1 s e) (Ax.rawE 1 s e))) = (Ax.tkIds s e)) ∧ (((Ax.rdV (1 : Int) (Ax.rdIdsS z0 (Ax.rawS 1 s e) (Ax.rawE 1 s e)) (Ax.rdIdsE z0 (Ax.rawS 1 s e) (Ax.rawE 1 s e))) = (Ax.tkNeed s e)) ∧ ((132 = 132) ∧ ((((Ax.rawP (1 : Int) ((Ax.rdIdsS z0 (Ax.rawS 1 s e) (Ax.rawE 1 s e)), (Ax.rdIdsE z0 (Ax.rawS 1 s e) (Ax.rawE 1 s e)))).1) = ((Ax.tkP (s, e)).1)) ∧ ((((Ax.rawP (1 : Int) ((Ax.rdIdsS z0 (Ax.rawS 1 s e) (Ax.rawE 1 s e)), (Ax.rdIdsE z0 (Ax.rawS 1 s e) (Ax.rawE 1 s e)))).2) = ((Ax.tkP (s, e)).2)) ∧ True)))))))))))))))))
theorem n_qtake (s : List UInt8) (e : Int) : afun { P := Tryz.prog, Γ := g_qcheck, ann := a_qtake s e } (inlN { P := Tryz.prog, Γ := g_qcheck, ann := a_qtake s e } 8) 146 Tryz.f146 [.ptr (0 : Nat) (0 : Nat)] [((0 : Nat), .cells 132 [.d (.str s), .d (.int .i64 e)])] 1 (fun v_ h_ n_ k_ => conjL (weak 1 ⟨[(true, v_)], h_, n_, k_⟩ ⟨[(true, .agg [.d (.strs (Ax.tkIds s e)), .d (.int .i64 (Ax.tkNeed s e))])], [((0 : Nat), .cells 132 [.d (.str ((Ax.tkP (s, e)).1)), .d (.int .i64 ((Ax.tkP (s, e)).2))])], 1, []⟩) True) = T_qtake s e := by kernel_rfl
set_option maxHeartbeats 4000000 in
theorem v_qtake (s : List UInt8) (e : Int) (hpre : List.length s ≤ 1000000000) : T_qtake s e := by
  unfold T_qtake
  have h1 := rdV_1 s e
  have h0 := rdV_nonneg 1 s e
  have hn : ((tkN s e : Nat) : Int) = rdV 1 s e := by unfold tkN; omega
  simp only [dP_iff, impT_iff, ifB_iff, Bool.and_eq_true, Bool.not_eq_true', decide_eq_true_eq, decide_eq_false_iff_not, true_and, and_true, imp_self, and_self, implies_true, true_implies, Bool.cond_true_left, Bool.cond_false_right, Bool.cond_true_right, Bool.cond_false_left, Bool.or_eq_true, Bool.not_eq_false', Bool.and_eq_false_imp, Bool.or_eq_false_iff, Bool.not_not, Ax.map_I, List.length_append, Ax.I_len, List.length_cons, List.length_nil, Ax.sameRec_self, Ax.rawP_1, Ax.rawP_2, Ax.failP_1, Ax.failP_2, Ax.e8P_1, Ax.e8P_2, Ax.txP_1, Ax.txP_2, Ax.endP_1, Ax.endP_2, Ax.tkP_1, Ax.tkP_2, Bool.true_eq_false, Bool.false_eq_true, imp_false]
  refine ⟨⟨by omega, hpre⟩, ⟨0, rfl, rfl, rfl, rfl, rfl, by omega⟩, fun i hi => ⟨fun h => ?_, fun h => ?_⟩⟩
  · obtain ⟨q1, q2, q3⟩ := rdIds_succ i (rawS 1 s e) (rawE 1 s e)
    have hl := rdIds_len i (rawS 1 s e) (rawE 1 s e)
    refine ⟨by omega, ⟨by omega, by rw [hl], by rw [hl]; simp only [lim]; omega⟩, i + 1, by rw [wrap64] <;> omega, q2.symm, q3.symm, by rw [hl], q1.symm, by omega, by omega⟩
  · have ei : i = tkN s e := by omega
    subst ei
    have hl := rdIds_len (tkN s e) (rawS 1 s e) (rawE 1 s e)
    have hs := rdIdsS_len (tkN s e) (rawS 1 s e) (rawE 1 s e)
    have hs1 := rawS_len 1 s e
    have hn1 := rdV_1 (rdIdsS (tkN s e) (rawS 1 s e) (rawE 1 s e)) (rdIdsE (tkN s e) (rawS 1 s e) (rawE 1 s e))
    have ht : List.take (tkN s e) (rdIds (tkN s e) (rawS 1 s e) (rawE 1 s e)) = rdIds (tkN s e) (rawS 1 s e) (rawE 1 s e) := List.take_of_length_le (by omega)
    rw [ht, hl]
    refine ⟨⟨by omega, by omega⟩, by omega, fun hc => ?_, fun hc => ?_⟩
    · have hE : tkE s e = failE 3 (rawE 1 (tkS1 s e) (tkE1 s e)) := if_neg hc
      refine ⟨fun he => ?_, fun he => ?_⟩
      · have h2 : ¬ tkE s e = 0 := by rw [hE]; exact he
        exact ⟨by rw [tkIds, if_neg h2]; rfl, by rw [tkNeed, if_neg h2], rfl, hE.symm⟩
      · have h2 : tkE s e = 0 := by rw [hE]; exact he
        exact ⟨by omega, by rw [tkIds, if_pos h2]; rfl, by rw [tkNeed, if_pos h2]; rfl, rfl, hE.symm⟩
    · have hE : tkE s e = rawE 1 (tkS1 s e) (tkE1 s e) := if_pos hc
      refine ⟨fun he => ?_, fun he => ?_⟩
      · have h2 : ¬ tkE s e = 0 := by rw [hE]; exact he
        exact ⟨by rw [tkIds, if_neg h2]; rfl, by rw [tkNeed, if_neg h2], rfl, hE.symm⟩
      · have h2 : tkE s e = 0 := by rw [hE]; exact he
        exact ⟨by omega, by rw [tkIds, if_pos h2]; rfl, by rw [tkNeed, if_pos h2]; rfl, rfl, hE.symm⟩
set_option maxHeartbeats 4000000 in
theorem ct_qtake : CtOk Tryz.prog 146 (own L_qtake) := by
  refine own_ct_g go_qcheck Tryz.checked.mixed Tryz.func146 (enter_of Tryz.func146 (by kernel_rfl) (by kernel_rfl)) ?_
  intro xs_ hp_ nx_ r_ h hpre
  unfold L_qtake at h
  split at h
  · rename_i s e; simp only [Option.some.injEq] at h; subst h
    refine ⟨a_qtake s e, 8, (.inl ⟨rfl, rfl, rfl⟩), ?_⟩
    have h1 := v_qtake s e hpre
    rw [← n_qtake s e] at h1
    dsimp only
    assumption
  · simp at h
noncomputable def g_qtake : Nat → CE := gct 146 (own L_qtake) g_qcheck
theorem go_qtake : GamOk Tryz.prog g_qtake := go_qcheck.ct ct_qtake
/-! ### ostler/quorum.Lay -/
noncomputable def L_qlay : List A → Heap → Nat → Option LR
  | [.ptr 0 0, .agg [.d (.strs ids), .d (.int .i64 need)]], [(0, .cells 71 [.sl 1 0 l, .d (.bool s)]), (1, .row 5 (.ints .u8 b))], 2 => some ⟨[.ptr (0 : Nat) (0 : Nat), .agg [.d (.strs ids), .d (.int .i64 need)]], [((0 : Nat), .cells 71 [.sl (1 : Nat) (0 : Nat) l, .d (.bool s)]), ((1 : Nat), .row 5 (.ints .u8 b))], 2, l = List.length b ∧ List.length b ≤ 100000000 ∧ (True), .tup [], [((0 : Nat), .cells 71 [.sl (1 : Nat) (0 : Nat) (List.length (b ++ Ax.I (Ax.laySet ids need))), .d (.bool (s || !decide (Ax.chkSet ids need = 0)))]), ((1 : Nat), .row 5 (.ints .u8 (b ++ Ax.I (Ax.laySet ids need))))], 2, [1]⟩
  | [.ptr 0 0, .agg [.d (.strs ids), .d (.int .i64 need)]], [(0, .cells 71 [.nilsl, .d (.bool s)])], 1 => some ⟨[.ptr (0 : Nat) (0 : Nat), .agg [.d (.strs ids), .d (.int .i64 need)]], [((0 : Nat), .cells 71 [.sl (1 : Nat) (0 : Nat) (0 : Nat), .d (.bool s)]), ((1 : Nat), .row 5 (.ints .u8 ([] : List Int)))], 2, (0 : Nat) = List.length ([] : List Int) ∧ List.length ([] : List Int) ≤ 100000000 ∧ (True), .tup [], [((0 : Nat), .cells 71 [.sl (1 : Nat) (0 : Nat) (List.length (([] : List Int) ++ Ax.I (Ax.laySet ids need))), .d (.bool (s || !decide (Ax.chkSet ids need = 0)))]), ((1 : Nat), .row 5 (.ints .u8 (([] : List Int) ++ Ax.I (Ax.laySet ids need))))], 2, [1]⟩
  | _, _, _ => none
noncomputable def a_qlay0 (ids : List (List UInt8)) (need : Int) (l : Nat) (s : Bool) (b : List Int) : Nat → Nat → Ann := fun f k => bif Nat.beq f 145 && Nat.beq k 0 then .inv ((Nat)) (fun st z => (St.with st [1, 2, 4, 5, 6, 7, 8, 9, 10, 11, 12, 13, 14, 15, 16, 20, 21, 22, 23, 24, 25, 26, 27, 28, 29, 30] [(19, .d (.int .i64 ((z : Nat) : Int)))] [((0 : Nat), .cells 71 [.sl (1 : Nat) (0 : Nat) (List.length (b ++ Ax.I (Ax.num 1 (List.length ids) ++ List.flatten (List.take z ids)))), .d (.bool s)]), ((1 : Nat), .row 5 (.ints .u8 (b ++ Ax.I (Ax.num 1 (List.length ids) ++ List.flatten (List.take z ids)))))] st.nx).addK [1]) (fun st z => z ≤ List.length ids) (fun st z => List.length ids - z) else .unroll 0
def T_qlay0 (ids : List (List UInt8)) (need : Int) (l : Nat) (s : Bool) (b : List Int) : Prop :=
  (True ∧ (True ∧ (Ax.ifB (!(decide ((Ax.chkSet ids need) = (0 : Int)))) ((l = List.length b ∧ List.length b ≤ 1000000000 ∧ (0 ≤ (1 : Int) ∧ (1 : Int) ≤ 8)) ∧ ((71 = 71) ∧ (((1 : Nat) = (1 : Nat)) ∧ (((0 : Nat) = (0 : Nat)) ∧ (((List.length (b ++ Ax.I (Ax.num (1 : Int) (-1 : Int)))) = (List.length (b ++ Ax.I (Ax.laySet ids need)))) ∧ (((s || Ax.beBad (1 : Int) (-1 : Int)) = (s || !decide (Ax.chkSet ids need = 0))) ∧ ((5 = 5) ∧ (((b ++ Ax.I (Ax.num (1 : Int) (-1 : Int))) = (b ++ Ax.I (Ax.laySet ids need))) ∧ True)))))))) ((l = List.length b ∧ List.length b ≤ 1000000000 ∧ (0 ≤ (1 : Int) ∧ (1 : Int) ≤ 8)) ∧ ((∃ z0 : (Nat), (((0 : Nat) = (0 : Nat)) ∧ (((0 : Nat) = (0 : Nat)) ∧ (((2 : Nat) = (2 : Nat)) ∧ (((0 : Nat) = (0 : Nat)) ∧ ((ids = ids) ∧ ((((List.length ids : Nat) : Int) = ((List.length ids : Nat) : Int)) ∧ (((0 : Int) = ((z0 : Nat) : Int)) ∧ ((71 = 71) ∧ (((1 : Nat) = (1 : Nat)) ∧ (((0 : Nat) = (0 : Nat)) ∧ (((List.length (b ++ Ax.I (Ax.num (1 : Int) ((List.length ids : Nat) : Int)))) = (List.length (b ++ Ax.I (Ax.num 1 (List.length ids) ++ List.flatten (List.take z0 ids))))) ∧ (((s || Ax.beBad (1 : Int) ((List.length ids : Nat) : Int)) = s) ∧ ((5 = 5) ∧ (((b ++ Ax.I (Ax.num (1 : Int) ((List.length ids : Nat) : Int))) = (b ++ Ax.I (Ax.num 1 (List.length ids) ++ List.flatten (List.take z0 ids)))) ∧ ((24 = 24) ∧ ((ids = ids) ∧ ((need = need) ∧ z0 ≤ List.length ids)))))))))))))))))) ∧ ∀ z0 : (Nat), (z0 ≤ List.length ids) → (Ax.ifB (decide (((z0 : Nat) : Int) < ((List.length ids : Nat) : Int))) ((0 ≤ ((z0 : Nat) : Int) ∧ ((z0 : Nat) : Int) < ((List.length ids : Nat) : Int)) ∧ (((List.length (b ++ Ax.I (Ax.num 1 (List.length ids) ++ List.flatten (List.take z0 ids)))) = List.length (b ++ Ax.I (Ax.num 1 (List.length ids) ++ List.flatten (List.take z0 ids))) ∧ List.length (b ++ Ax.I (Ax.num 1 (List.length ids) ++ List.flatten (List.take z0 ids))) ≤ 1000000000 ∧ (List.length (List.getD ids z0 []) ≤ 1000000000)) ∧ (∃ z0' : (Nat), (((0 : Nat) = (0 : Nat)) ∧ (((0 : Nat) = (0 : Nat)) ∧ (((2 : Nat) = (2 : Nat)) ∧ (((0 : Nat) = (0 : Nat)) ∧ ((ids = ids) ∧ ((((List.length ids : Nat) : Int) = ((List.length ids : Nat) : Int)) ∧ (((Go.IntKind.wrap .i64 (((z0 : Nat) : Int) + (1 : Int))) = ((z0' : Nat) : Int)) ∧ ((71 = 71) ∧ (((1 : Nat) = (1 : Nat)) ∧ (((0 : Nat) = (0 : Nat)) ∧ (((List.length ((b ++ Ax.I (Ax.num 1 (List.length ids) ++ List.flatten (List.take z0 ids))) ++ Ax.I ((List.getD ids z0 [])))) = (List.length (b ++ Ax.I (Ax.num 1 (List.length ids) ++ List.flatten (List.take z0' ids))))) ∧ (((s || !decide (List.length (List.getD ids z0 []) = 32)) = s) ∧ ((5 = 5) ∧ ((((b ++ Ax.I (Ax.num 1 (List.length ids) ++ List.flatten (List.take z0 ids))) ++ Ax.I ((List.getD ids z0 []))) = (b ++ Ax.I (Ax.num 1 (List.length ids) ++ List.flatten (List.take z0' ids)))) ∧ ((24 = 24) ∧ ((ids = ids) ∧ ((need = need) ∧ (z0' ≤ List.length ids) ∧ List.length ids - z0' < List.length ids - z0)))))))))))))))))))) (((List.length (b ++ Ax.I (Ax.num 1 (List.length ids) ++ List.flatten (List.take z0 ids)))) = List.length (b ++ Ax.I (Ax.num 1 (List.length ids) ++ List.flatten (List.take z0 ids))) ∧ List.length (b ++ Ax.I (Ax.num 1 (List.length ids) ++ List.flatten (List.take z0 ids))) ≤ 1000000000 ∧ (0 ≤ (1 : Int) ∧ (1 : Int) ≤ 8)) ∧ ((71 = 71) ∧ (((1 : Nat) = (1 : Nat)) ∧ (((0 : Nat) = (0 : Nat)) ∧ (((List.length ((b ++ Ax.I (Ax.num 1 (List.length ids) ++ List.flatten (List.take z0 ids))) ++ Ax.I (Ax.num (1 : Int) need))) = (List.length (b ++ Ax.I (Ax.laySet ids need)))) ∧ (((s || Ax.beBad (1 : Int) need) = (s || !decide (Ax.chkSet ids need = 0))) ∧ ((5 = 5) ∧ ((((b ++ Ax.I (Ax.num 1 (List.length ids) ++ List.flatten (List.take z0 ids))) ++ Ax.I (Ax.num (1 : Int) need)) = (b ++ Ax.I (Ax.laySet ids need))) ∧ True))))))))))))))
theorem n_qlay0 (ids : List (List UInt8)) (need : Int) (l : Nat) (s : Bool) (b : List Int) : afun { P := Tryz.prog, Γ := g_qtake, ann := a_qlay0 ids need l s b } (inlN { P := Tryz.prog, Γ := g_qtake, ann := a_qlay0 ids need l s b } 8) 145 Tryz.f145 [.ptr (0 : Nat) (0 : Nat), .agg [.d (.strs ids), .d (.int .i64 need)]] [((0 : Nat), .cells 71 [.sl (1 : Nat) (0 : Nat) l, .d (.bool s)]), ((1 : Nat), .row 5 (.ints .u8 b))] 2 (fun v_ h_ n_ k_ => conjL (weak 2 ⟨[(true, v_)], h_, n_, k_⟩ ⟨[(true, .tup [])], [((0 : Nat), .cells 71 [.sl (1 : Nat) (0 : Nat) (List.length (b ++ Ax.I (Ax.laySet ids need))), .d (.bool (s || !decide (Ax.chkSet ids need = 0)))]), ((1 : Nat), .row 5 (.ints .u8 (b ++ Ax.I (Ax.laySet ids need))))], 2, [1]⟩) True) = T_qlay0 ids need l s b := by kernel_rfl
set_option maxHeartbeats 4000000 in
theorem v_qlay0 (ids : List (List UInt8)) (need : Int) (l : Nat) (s : Bool) (b : List Int) (hpre : l = List.length b ∧ List.length b ≤ 100000000 ∧ (True)) : T_qlay0 ids need l s b := by
  unfold T_qlay0
  obtain ⟨rfl, hb, _⟩ := hpre
  simp only [dP_iff, impT_iff, ifB_iff, Bool.and_eq_true, Bool.not_eq_true', decide_eq_true_eq, decide_eq_false_iff_not, true_and, and_true, imp_self, and_self, implies_true, true_implies, Bool.cond_true_left, Bool.cond_false_right, Bool.cond_true_right, Bool.cond_false_left, Bool.or_eq_true, Bool.not_eq_false', Bool.and_eq_false_imp, Bool.or_eq_false_iff, Bool.not_not, Ax.map_I, List.length_append, Ax.I_len, List.length_cons, List.length_nil, Ax.sameRec_self, Ax.rawP_1, Ax.rawP_2, Ax.failP_1, Ax.failP_2, Ax.e8P_1, Ax.e8P_2, Ax.txP_1, Ax.txP_2, Ax.endP_1, Ax.endP_2, Ax.tkP_1, Ax.tkP_2, Bool.true_eq_false, Bool.false_eq_true, imp_false]
  have n1 : num 1 (-1) = [] := rfl
  have n2 : beBad 1 (-1) = true := rfl
  refine ⟨fun hc => ?_, fun hc => ?_⟩
  · have e1 : laySet ids need = [] := if_neg hc
    rw [e1, n1, n2]
    simp [hc]; omega
  · obtain ⟨c1, c2, c3, c4, c5⟩ := chkSet_zero.1 hc
    have g1 : beBad 1 ids.length = false := beBad_ok 1 _ (by omega) (by omega)
    have g2 : beBad 1 need = false := beBad_ok 1 _ (by omega) (by omega)
    have g3 : (num 1 (ids.length : Int)).length = 1 := by rw [show (1 : Int) = ((1 : Nat) : Int) from rfl, num_ok 1 _ (by omega) (by omega), be_len]
    have e1 : laySet ids need = num 1 ids.length ++ ids.flatten ++ num 1 need := if_pos hc
    have hl : ∀ i, i ≤ ids.length → (List.take i ids).flatten.length = 32 * i := fun i hi => by
      rw [flatten_len fun x hx => okIds_len c5 x (List.mem_of_mem_take hx), List.length_take, Nat.min_eq_left hi]
    rw [g1, g2, e1, g3]
    refine ⟨by omega, ⟨0, by simp, by simp, by simp, by simp, by omega⟩, fun i hi => ⟨fun h => ?_, fun h => ?_⟩⟩
    · have hi' : i < ids.length := by omega
      have h32 : (ids.getD i []).length = 32 := by
        have := okIds_len c5 ids[i] (List.getElem_mem hi')
        simpa [List.getD, hi'] using this
      have ht : List.take (i + 1) ids = List.take i ids ++ [ids.getD i []] := by rw [List.take_add_one]; simp [List.getD, hi']
      have h1 := hl i hi
      have h2 := hl (i + 1) (by omega)
      refine ⟨by omega, ⟨by omega, by omega⟩, i + 1, by rw [wrap64] <;> omega, by omega, by rw [h32]; simp, ?_, by omega, by omega⟩
      rw [ht, List.flatten_append, I_app, I_app, I_app]
      simp
    · have : i = ids.length := by omega
      subst this
      have h1 := hl ids.length (by omega)
      rw [List.take_length] at h1 ⊢
      refine ⟨⟨by omega, by omega⟩, by simp only [List.length_append, g3]; omega, by simp [hc], by rw [I_app, I_app, I_app]; simp⟩
theorem o_qlay1 (ids : List (List UInt8)) (need : Int) (s : Bool) : weak 1 ⟨frOf [.ptr (0 : Nat) (0 : Nat), .agg [.d (.strs ids), .d (.int .i64 need)]], [((0 : Nat), .cells 71 [.nilsl, .d (.bool s)])], 1, []⟩ ⟨frOf [.ptr (0 : Nat) (0 : Nat), .agg [.d (.strs ids), .d (.int .i64 need)]], [((0 : Nat), .cells 71 [.sl (1 : Nat) (0 : Nat) (0 : Nat), .d (.bool s)]), ((1 : Nat), .row 5 (.ints .u8 ([] : List Int)))], 2, []⟩ = [(0 : Nat) = (0 : Nat), (0 : Nat) = (0 : Nat), ids = ids, need = need, 71 = 71, (0 : Nat) = 0, (0 : Nat) = 0, s = s, (List.length ([] : List Int)) = 0] := by kernel_rfl
set_option maxHeartbeats 4000000 in
theorem ct_qlay : CtOk Tryz.prog 145 (own L_qlay) := by
  refine own_ct_g go_qtake Tryz.checked.mixed Tryz.func145 (enter_of Tryz.func145 (by kernel_rfl) (by kernel_rfl)) ?_
  intro xs_ hp_ nx_ r_ h hpre
  unfold L_qlay at h
  split at h
  · rename_i ids need l s b; simp only [Option.some.injEq] at h; subst h
    refine ⟨a_qlay0 ids need l s b, 8, (.inl ⟨rfl, rfl, rfl⟩), ?_⟩
    have h1 := v_qlay0 ids need l s b hpre
    rw [← n_qlay0 ids need l s b] at h1
    dsimp only
    assumption
  · rename_i ids need s; simp only [Option.some.injEq] at h; subst h
    refine ⟨a_qlay0 ids need (0 : Nat) s ([] : List Int), 8, (.inr (by rw [o_qlay1]; intro p hp; simp only [List.mem_cons, List.mem_nil_iff, or_false] at hp; rcases hp with rfl | rfl | rfl | rfl | rfl | rfl | rfl | rfl | rfl <;> first | rfl | trivial | simp)), ?_⟩
    have h1 := v_qlay0 ids need (0 : Nat) s ([] : List Int) hpre
    rw [← n_qlay0 ids need (0 : Nat) s ([] : List Int)] at h1
    dsimp only
    assumption
  · simp at h
noncomputable def g_qlay : Nat → CE := gct 145 (own L_qlay) g_qtake
theorem go_qlay : GamOk Tryz.prog g_qlay := go_qtake.ct ct_qlay
end Go.Proofs.YtfohmbookjnkgaaGreatDoor.Mx
