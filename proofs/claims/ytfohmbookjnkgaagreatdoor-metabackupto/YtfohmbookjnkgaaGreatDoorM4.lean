/- Runs. Conditions: none; lemmas. -/
import Derived.Test.YtfohmbookjnkgaaGreatDoorAxG
import Derived.Test.YtfohmbookjnkgaaGreatDoorM3
set_option linter.unusedVariables false
set_option linter.unusedSimpArgs false
set_option maxRecDepth 100000
set_option maxHeartbeats 4000000
namespace Go.Proofs.YtfohmbookjnkgaaGreatDoor.Mx
open Go Go.Proofs Ax
/-! ### ostler/sha.Hex -/
noncomputable def L_hex : List A → Option LR
  | [.d (.str s)] => some ⟨[.d (.str s)], [], 0, List.length s ≤ 1000000000, .d (.str (Ax.hexS s)), [], 0, []⟩
  | _ => none
noncomputable def a_hex (s : List UInt8) : Nat → Nat → Ann := fun f k => bif Nat.beq f 126 && Nat.beq k 0 then .inv ((Nat)) (fun st z => (St.with st [0, 1, 2, 4, 5, 6, 10, 11, 12, 13, 14, 15, 16, 17, 18, 19, 20, 21, 22, 23, 24] [(9, .d (.int .i64 ((z : Nat) : Int))), (3, .sl (1 : Nat) (0 : Nat) (2 * z))] [((1 : Nat), .row 5 (.ints .u8 (Ax.I (Ax.hexS (List.take z s)))))] 2)) (fun st z => z ≤ List.length s) (fun st z => List.length s - z) else .unroll 0
def T_hex (s : List UInt8) : Prop :=
  (((List.length s) ≤ Ax.lim) ∧ ((∃ z0 : (Nat), (((0 : Nat) = 0) ∧ (((2 * z0) = 0) ∧ (((0 : Nat) = (0 : Nat)) ∧ (((0 : Nat) = (0 : Nat)) ∧ (((List.length s) = (List.length s)) ∧ ((((List.length s : Nat) : Int) = ((List.length s : Nat) : Int)) ∧ (((0 : Int) = ((z0 : Nat) : Int)) ∧ ((5 = 5) ∧ (((List.map (fun b => (UInt8.toNat b : Int)) s) = (List.map (fun b => (UInt8.toNat b : Int)) s)) ∧ (((List.length (Ax.I (Ax.hexS (List.take z0 s)))) = 0) ∧ z0 ≤ List.length s))))))))))) ∧ ∀ z0 : (Nat), (z0 ≤ List.length s) → (Ax.ifB (decide (((z0 : Nat) : Int) < ((List.length s : Nat) : Int))) ((0 ≤ ((z0 : Nat) : Int) ∧ ((z0 : Nat) : Int) < ((List.length s : Nat) : Int)) ∧ ((((0 : Nat) + z0) < (List.length (List.map (fun b => (UInt8.toNat b : Int)) s))) ∧ ((0 ≤ (4 : Int)) ∧ ((0 ≤ (Int.fdiv (List.getD (List.map (fun b => (UInt8.toNat b : Int)) s) ((0 : Nat) + z0) 0) (2 ^ (4 : Nat))) ∧ (Int.fdiv (List.getD (List.map (fun b => (UInt8.toNat b : Int)) s) ((0 : Nat) + z0) 0) (2 ^ (4 : Nat))) < (16 : Int)) ∧ ((0 ≤ (Ax.bitsI .and .u8 (List.getD (List.map (fun b => (UInt8.toNat b : Int)) s) ((0 : Nat) + z0) 0) (15 : Int)) ∧ (Ax.bitsI .and .u8 (List.getD (List.map (fun b => (UInt8.toNat b : Int)) s) ((0 : Nat) + z0) 0) (15 : Int)) < (16 : Int)) ∧ (((2 : Nat) * 1 ≤ 16777216) ∧ ((((0 : Nat) + (2 : Nat) ≤ (2 : Nat)) ∧ ((2 * z0) = (List.length (Ax.I (Ax.hexS (List.take z0 s)))) ∧ (List.length ((Ax.I (Ax.hexS (List.take z0 s))) ++ ([(Ax.byteAt ([48, 49, 50, 51, 52, 53, 54, 55, 56, 57, 97, 98, 99, 100, 101, 102] : List UInt8) (Int.toNat (Int.fdiv (List.getD (List.map (fun b => (UInt8.toNat b : Int)) s) ((0 : Nat) + z0) 0) (2 ^ (4 : Nat))))), (Ax.byteAt ([48, 49, 50, 51, 52, 53, 54, 55, 56, 57, 97, 98, 99, 100, 101, 102] : List UInt8) (Int.toNat (Ax.bitsI .and .u8 (List.getD (List.map (fun b => (UInt8.toNat b : Int)) s) ((0 : Nat) + z0) 0) (15 : Int))))] : List Int))) * 1 ≤ Ax.lim)) ∧ (∃ z0' : (Nat), (((1 : Nat) = (1 : Nat)) ∧ (((0 : Nat) = (0 : Nat)) ∧ (((List.length ((Ax.I (Ax.hexS (List.take z0 s))) ++ ([(Ax.byteAt ([48, 49, 50, 51, 52, 53, 54, 55, 56, 57, 97, 98, 99, 100, 101, 102] : List UInt8) (Int.toNat (Int.fdiv (List.getD (List.map (fun b => (UInt8.toNat b : Int)) s) ((0 : Nat) + z0) 0) (2 ^ (4 : Nat))))), (Ax.byteAt ([48, 49, 50, 51, 52, 53, 54, 55, 56, 57, 97, 98, 99, 100, 101, 102] : List UInt8) (Int.toNat (Ax.bitsI .and .u8 (List.getD (List.map (fun b => (UInt8.toNat b : Int)) s) ((0 : Nat) + z0) 0) (15 : Int))))] : List Int))) = (2 * z0')) ∧ (((0 : Nat) = (0 : Nat)) ∧ (((0 : Nat) = (0 : Nat)) ∧ (((List.length s) = (List.length s)) ∧ ((((List.length s : Nat) : Int) = ((List.length s : Nat) : Int)) ∧ (((Go.IntKind.wrap .i64 (((z0 : Nat) : Int) + (1 : Int))) = ((z0' : Nat) : Int)) ∧ ((5 = 5) ∧ (((List.map (fun b => (UInt8.toNat b : Int)) s) = (List.map (fun b => (UInt8.toNat b : Int)) s)) ∧ ((5 = 5) ∧ ((((Ax.I (Ax.hexS (List.take z0 s))) ++ ([(Ax.byteAt ([48, 49, 50, 51, 52, 53, 54, 55, 56, 57, 97, 98, 99, 100, 101, 102] : List UInt8) (Int.toNat (Int.fdiv (List.getD (List.map (fun b => (UInt8.toNat b : Int)) s) ((0 : Nat) + z0) 0) (2 ^ (4 : Nat))))), (Ax.byteAt ([48, 49, 50, 51, 52, 53, 54, 55, 56, 57, 97, 98, 99, 100, 101, 102] : List UInt8) (Int.toNat (Ax.bitsI .and .u8 (List.getD (List.map (fun b => (UInt8.toNat b : Int)) s) ((0 : Nat) + z0) 0) (15 : Int))))] : List Int)) = (Ax.I (Ax.hexS (List.take z0' s)))) ∧ (z0' ≤ List.length s) ∧ List.length s - z0' < List.length s - z0)))))))))))))))))))) (((0 : Nat) + (2 * z0) ≤ (List.length (Ax.I (Ax.hexS (List.take z0 s))))) ∧ (((Ax.strOfInts (List.take (2 * z0) (Ax.I (Ax.hexS (List.take z0 s))))) = (Ax.hexS s)) ∧ True)))))
theorem n_hex (s : List UInt8) : afun { P := Tryz.prog, Γ := g_qlay, ann := a_hex s } (inlN { P := Tryz.prog, Γ := g_qlay, ann := a_hex s } 8) 126 Tryz.f126 [.d (.str s)] [] 0 (fun v_ h_ n_ k_ => conjL (weak 0 ⟨[(true, v_)], h_, n_, k_⟩ ⟨[(true, .d (.str (Ax.hexS s)))], [], 0, []⟩) True) = T_hex s := by kernel_rfl
set_option maxHeartbeats 4000000 in
theorem v_hex (s : List UInt8) (hpre : List.length s ≤ 1000000000) : T_hex s := by
  unfold T_hex
  simp only [dP_iff, impT_iff, ifB_iff, Bool.and_eq_true, Bool.not_eq_true', decide_eq_true_eq, decide_eq_false_iff_not, true_and, and_true, imp_self, and_self, implies_true, true_implies, Bool.cond_true_left, Bool.cond_false_right, Bool.cond_true_right, Bool.cond_false_left, Bool.or_eq_true, Bool.not_eq_false', Bool.and_eq_false_imp, Bool.or_eq_false_iff, Bool.not_not, Ax.map_I, List.length_append, Ax.I_len, List.length_cons, List.length_nil, Ax.sameRec_self, Ax.rawP_1, Ax.rawP_2, Ax.failP_1, Ax.failP_2, Ax.e8P_1, Ax.e8P_2, Ax.txP_1, Ax.txP_2, Ax.endP_1, Ax.endP_2, Ax.tkP_1, Ax.tkP_2, Bool.true_eq_false, Bool.false_eq_true, imp_false]
  refine ⟨by simp only [lim]; omega, ⟨0, rfl, rfl, rfl, by omega⟩, fun i hi => ⟨fun h => ?_, fun h => ?_⟩⟩
  · have hi' : i < s.length := by omega
    have e1 : (Ax.I s).getD (0 + i) 0 = ((s[i].toNat : Nat) : Int) := by simp [Ax.I, List.getD, hi']
    have hb := s[i].toNat_lt
    have hl := hexS_len (List.take i s)
    rw [List.length_take, Nat.min_eq_left hi] at hl
    have ht : List.take (i + 1) s = List.take i s ++ [s[i]] := by rw [List.take_add_one]; simp [hi']
    rw [e1, shr4, and15 _ (by omega)]
    refine ⟨by omega, by omega, by omega, by omega, by omega, by omega, ⟨by omega, hl.symm, by rw [hl]; simp only [lim]; omega⟩, i + 1, by omega, by rw [wrap64] <;> omega, ?_, by omega, by omega⟩
    rw [ht, hexS_snoc, I_app, hexD_at, hexD_at]
    rfl
  · have : i = s.length := by omega
    subst this
    have hl := hexS_len s
    rw [List.take_length]
    refine ⟨by omega, ?_⟩
    rw [List.take_of_length_le (by rw [I_len]; omega), strOfInts_I]
set_option maxHeartbeats 4000000 in
theorem ct_hex : CtOk Tryz.prog 126 (lend [] L_hex) := by
  refine lend_ct_g go_qlay Tryz.checked.mixed Tryz.func126 (enter_of Tryz.func126 (by kernel_rfl) (by kernel_rfl)) ?_
  intro xs_ r_ h hpre
  unfold L_hex at h
  split at h
  · rename_i s; simp only [Option.some.injEq] at h; subst h
    refine ⟨a_hex s, 8, (.inl rfl), trivial, ?_⟩
    have h1 := v_hex s hpre
    rw [← n_hex s] at h1
    dsimp only
    assumption
  · simp at h
noncomputable def g_hex : Nat → CE := gct 126 (lend [] L_hex) g_qlay
theorem go_hex : GamOk Tryz.prog g_hex := go_qlay.ct ct_hex
/-! ### ostler/note.origin$1 -/
noncomputable def L_badrune : List A → Option LR
  | [.d (.int .i32 r)] => some ⟨[.d (.int .i32 r)], [], 0, True, .d (.bool (decide (r < 33) || decide (126 < r))), [], 0, []⟩
  | _ => none
noncomputable def a_badrune (r : Int) : Nat → Nat → Ann := fun f k => .unroll 0
def T_badrune (r : Int) : Prop :=
  (Ax.dP (!(decide (r < (33 : Int)))) ((!(decide (r < (33 : Int)))) && true) (Ax.dP true (bif decide (r < (33 : Int)) then true else (!(decide (r < (33 : Int))))) (((bif decide (r < (33 : Int)) then true else (decide ((126 : Int) < r))) = (decide (r < 33) || decide (126 < r))) ∧ True)))
theorem n_badrune (r : Int) : afun { P := Tryz.prog, Γ := g_hex, ann := a_badrune r } (inlN { P := Tryz.prog, Γ := g_hex, ann := a_badrune r } 8) 158 Tryz.f158 [.d (.int .i32 r)] [] 0 (fun v_ h_ n_ k_ => conjL (weak 0 ⟨[(true, v_)], h_, n_, k_⟩ ⟨[(true, .d (.bool (decide (r < 33) || decide (126 < r))))], [], 0, []⟩) True) = T_badrune r := by kernel_rfl
set_option maxHeartbeats 4000000 in
theorem v_badrune (r : Int) (hpre : True) : T_badrune r := by
  unfold T_badrune
  simp only [dP_iff, impT_iff, ifB_iff, Bool.and_eq_true, Bool.not_eq_true', decide_eq_true_eq, decide_eq_false_iff_not, true_and, and_true, imp_self, and_self, implies_true, true_implies, Bool.cond_true_left, Bool.cond_false_right, Bool.cond_true_right, Bool.cond_false_left, Bool.or_eq_true, Bool.not_eq_false', Bool.and_eq_false_imp, Bool.or_eq_false_iff, Bool.not_not, Ax.map_I, List.length_append, Ax.I_len, List.length_cons, List.length_nil, Ax.sameRec_self, Ax.rawP_1, Ax.rawP_2, Ax.failP_1, Ax.failP_2, Ax.e8P_1, Ax.e8P_2, Ax.txP_1, Ax.txP_2, Ax.endP_1, Ax.endP_2, Ax.tkP_1, Ax.tkP_2, Bool.true_eq_false, Bool.false_eq_true, imp_false]
  by_cases h : r < 33 <;> simp [h]
set_option maxHeartbeats 4000000 in
theorem ct_badrune : CtOk Tryz.prog 158 (lend [] L_badrune) := by
  refine lend_ct_g go_hex Tryz.checked.mixed Tryz.func158 (enter_of Tryz.func158 (by kernel_rfl) (by kernel_rfl)) ?_
  intro xs_ r_ h hpre
  unfold L_badrune at h
  split at h
  · rename_i r; simp only [Option.some.injEq] at h; subst h
    refine ⟨a_badrune r, 8, (.inl rfl), trivial, ?_⟩
    have h1 := v_badrune r hpre
    rw [← n_badrune r] at h1
    dsimp only
    assumption
  · simp at h
noncomputable def g_badrune : Nat → CE := gct 158 (lend [] L_badrune) g_hex
theorem go_badrune : GamOk Tryz.prog g_badrune := go_hex.ct ct_badrune
end Go.Proofs.YtfohmbookjnkgaaGreatDoor.Mx
