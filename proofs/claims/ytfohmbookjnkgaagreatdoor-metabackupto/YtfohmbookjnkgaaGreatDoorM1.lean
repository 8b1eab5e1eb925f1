/- Runs. Conditions: none; lemmas. -/
import Derived.Test.YtfohmbookjnkgaaGreatDoorAxF
import Derived.Test.YtfohmbookjnkgaaGreatDoorChecked
set_option linter.unusedVariables false
set_option linter.unusedSimpArgs false
set_option maxRecDepth 100000
set_option maxHeartbeats 4000000
namespace Go.Proofs.YtfohmbookjnkgaaGreatDoor.Mx
open Go Go.Proofs Ax
/-! ### (*ostler/pack.Writer).number -/
noncomputable def L_wnum : List A → Heap → Nat → Option LR
  | [.ptr 0 0, .d (.int .i64 x), .d (.int .i64 n)], [(0, .cells 71 [.sl 1 0 l, .d (.bool s)]), (1, .row 5 (.ints .u8 b))], 2 => some ⟨[.ptr (0 : Nat) (0 : Nat), .d (.int .i64 x), .d (.int .i64 n)], [((0 : Nat), .cells 71 [.sl (1 : Nat) (0 : Nat) l, .d (.bool s)]), ((1 : Nat), .row 5 (.ints .u8 b))], 2, l = List.length b ∧ List.length b ≤ 1000000000 ∧ (0 ≤ n ∧ n ≤ 8), .tup [], [((0 : Nat), .cells 71 [.sl (1 : Nat) (0 : Nat) (List.length (b ++ Ax.I (Ax.num n x))), .d (.bool (s || Ax.beBad n x))]), ((1 : Nat), .row 5 (.ints .u8 (b ++ Ax.I (Ax.num n x))))], 2, [1]⟩
  | [.ptr 0 0, .d (.int .i64 x), .d (.int .i64 n)], [(0, .cells 71 [.nilsl, .d (.bool s)])], 1 => some ⟨[.ptr (0 : Nat) (0 : Nat), .d (.int .i64 x), .d (.int .i64 n)], [((0 : Nat), .cells 71 [.sl (1 : Nat) (0 : Nat) (0 : Nat), .d (.bool s)]), ((1 : Nat), .row 5 (.ints .u8 ([] : List Int)))], 2, (0 : Nat) = List.length ([] : List Int) ∧ List.length ([] : List Int) ≤ 1000000000 ∧ (0 ≤ n ∧ n ≤ 8), .tup [], [((0 : Nat), .cells 71 [.sl (1 : Nat) (0 : Nat) (List.length (([] : List Int) ++ Ax.I (Ax.num n x))), .d (.bool (s || Ax.beBad n x))]), ((1 : Nat), .row 5 (.ints .u8 (([] : List Int) ++ Ax.I (Ax.num n x))))], 2, [1]⟩
  | _, _, _ => none
noncomputable def a_wnum0 (x : Int) (n : Int) (l : Nat) (s : Bool) (b : List Int) : Nat → Nat → Ann := fun f k => bif Nat.beq f 86 && Nat.beq k 0 then .inv ((Nat) × (List Int)) (fun st z => (St.with st [3, 4, 5, 6, 7, 8, 9, 10, 11, 12, 13, 14, 15, 16, 17, 18, 19, 20, 21, 22, 23, 24, 25, 26, 27, 28, 29, 30, 31, 32, 33, 34, 35, 36, 37, 38, 39, 40, 41, 42, 43] [(2, .d (.int .i64 (((z.1 : Int) : Int) - 1)))] [((0 : Nat), .cells 71 [.sl (1 : Nat) (0 : Nat) (List.length z.2), .d (.bool s)]), ((1 : Nat), .row 5 (.ints .u8 z.2))] st.nx).addK [1]) (fun st z => ((z.1 : Nat) : Int) ≤ n ∧ 0 ≤ x ∧ z.2 ++ Ax.I (Ax.be z.1 x) = b ++ Ax.I (Ax.be n.toNat x)) (fun st z => z.1) else .unroll 0
def T_wnum0 (x : Int) (n : Int) (l : Nat) (s : Bool) (b : List Int) : Prop :=
  (Ax.dP (!(decide (x < (0 : Int)))) ((!(decide (x < (0 : Int)))) && true) (Ax.dP (!(decide (x < (0 : Int)))) ((!(decide (x < (0 : Int)))) && true) (Ax.dP ((!(decide (x < (0 : Int)))) && (decide (n < (8 : Int)))) (((!(decide (x < (0 : Int)))) && (decide (n < (8 : Int)))) && true) (Ax.dP ((!(decide (x < (0 : Int)))) && (decide (n < (8 : Int)))) (((!(decide (x < (0 : Int)))) && (decide (n < (8 : Int)))) && (((!(decide (x < (0 : Int)))) && (decide (n < (8 : Int)))) && true)) (Ax.impT ((!(decide (x < (0 : Int)))) && (decide (n < (8 : Int)))) (0 ≤ (Go.IntKind.wrap .i64 ((8 : Int) * n))) ∧ (Ax.dP ((!(decide (x < (0 : Int)))) && (decide (n < (8 : Int)))) (((!(decide (x < (0 : Int)))) && (decide (n < (8 : Int)))) && true) (Ax.dP (!(decide (x < (0 : Int)))) ((!(decide (x < (0 : Int)))) && (bif decide (n < (8 : Int)) then ((!(decide (x < (0 : Int)))) && (decide (n < (8 : Int)))) else true)) (Ax.dP true (bif decide (x < (0 : Int)) then true else (!(decide (x < (0 : Int))))) (Ax.ifB (bif decide (x < (0 : Int)) then true else (bif decide (n < (8 : Int)) then (!(decide ((Int.fdiv x (2 ^ (min (Int.toNat (Go.IntKind.wrap .i64 ((8 : Int) * n))) 64))) = (0 : Int)))) else false)) (True ∧ ((71 = 71) ∧ (((1 : Nat) = (1 : Nat)) ∧ (((0 : Nat) = (0 : Nat)) ∧ ((l = (List.length (b ++ Ax.I (Ax.num n x)))) ∧ ((true = (s || Ax.beBad n x)) ∧ ((5 = 5) ∧ ((b = (b ++ Ax.I (Ax.num n x))) ∧ True)))))))) ((∃ z0 : (Nat) × (List Int), (((0 : Nat) = (0 : Nat)) ∧ (((0 : Nat) = (0 : Nat)) ∧ ((x = x) ∧ (((Go.IntKind.wrap .i64 (n - (1 : Int))) = (((z0.1 : Int) : Int) - 1)) ∧ ((71 = 71) ∧ (((1 : Nat) = (1 : Nat)) ∧ (((0 : Nat) = (0 : Nat)) ∧ ((l = (List.length z0.2)) ∧ ((s = s) ∧ ((5 = 5) ∧ ((b = z0.2) ∧ ((z0.1 : Nat) : Int) ≤ n ∧ 0 ≤ x ∧ z0.2 ++ Ax.I (Ax.be z0.1 x) = b ++ Ax.I (Ax.be n.toNat x))))))))))))) ∧ ∀ z0 : (Nat) × (List Int), (((z0.1 : Nat) : Int) ≤ n ∧ 0 ≤ x ∧ z0.2 ++ Ax.I (Ax.be z0.1 x) = b ++ Ax.I (Ax.be n.toNat x)) → (Ax.ifB (decide ((0 : Int) ≤ (((z0.1 : Int) : Int) - 1))) ((0 ≤ (Go.IntKind.wrap .i64 ((8 : Int) * (((z0.1 : Int) : Int) - 1)))) ∧ (((1 : Nat) * 1 ≤ 16777216) ∧ ((((0 : Nat) + (1 : Nat) ≤ (1 : Nat)) ∧ ((List.length z0.2) = (List.length z0.2) ∧ (List.length (z0.2 ++ ([(Go.IntKind.wrap .u8 (Int.fdiv x (2 ^ (min (Int.toNat (Go.IntKind.wrap .i64 ((8 : Int) * (((z0.1 : Int) : Int) - 1)))) 64))))] : List Int))) * 1 ≤ Ax.lim)) ∧ (True ∧ (∃ z0' : (Nat) × (List Int), (((0 : Nat) = (0 : Nat)) ∧ (((0 : Nat) = (0 : Nat)) ∧ ((x = x) ∧ (((Go.IntKind.wrap .i64 ((((z0.1 : Int) : Int) - 1) - (1 : Int))) = (((z0'.1 : Int) : Int) - 1)) ∧ ((71 = 71) ∧ (((1 : Nat) = (1 : Nat)) ∧ (((0 : Nat) = (0 : Nat)) ∧ (((List.length (z0.2 ++ ([(Go.IntKind.wrap .u8 (Int.fdiv x (2 ^ (min (Int.toNat (Go.IntKind.wrap .i64 ((8 : Int) * (((z0.1 : Int) : Int) - 1)))) 64))))] : List Int))) = (List.length z0'.2)) ∧ ((s = s) ∧ ((5 = 5) ∧ (((z0.2 ++ ([(Go.IntKind.wrap .u8 (Int.fdiv x (2 ^ (min (Int.toNat (Go.IntKind.wrap .i64 ((8 : Int) * (((z0.1 : Int) : Int) - 1)))) 64))))] : List Int)) = z0'.2) ∧ (((z0'.1 : Nat) : Int) ≤ n ∧ 0 ≤ x ∧ z0'.2 ++ Ax.I (Ax.be z0'.1 x) = b ++ Ax.I (Ax.be n.toNat x)) ∧ z0'.1 < z0.1)))))))))))))))) ((71 = 71) ∧ (((1 : Nat) = (1 : Nat)) ∧ (((0 : Nat) = (0 : Nat)) ∧ (((List.length z0.2) = (List.length (b ++ Ax.I (Ax.num n x)))) ∧ ((s = (s || Ax.beBad n x)) ∧ ((5 = 5) ∧ ((z0.2 = (b ++ Ax.I (Ax.num n x))) ∧ True))))))))))))))))))
theorem n_wnum0 (x : Int) (n : Int) (l : Nat) (s : Bool) (b : List Int) : afun { P := Tryz.prog, Γ := Ax.gam0, ann := a_wnum0 x n l s b } (inlN { P := Tryz.prog, Γ := Ax.gam0, ann := a_wnum0 x n l s b } 8) 86 Tryz.f86 [.ptr (0 : Nat) (0 : Nat), .d (.int .i64 x), .d (.int .i64 n)] [((0 : Nat), .cells 71 [.sl (1 : Nat) (0 : Nat) l, .d (.bool s)]), ((1 : Nat), .row 5 (.ints .u8 b))] 2 (fun v_ h_ n_ k_ => conjL (weak 2 ⟨[(true, v_)], h_, n_, k_⟩ ⟨[(true, .tup [])], [((0 : Nat), .cells 71 [.sl (1 : Nat) (0 : Nat) (List.length (b ++ Ax.I (Ax.num n x))), .d (.bool (s || Ax.beBad n x))]), ((1 : Nat), .row 5 (.ints .u8 (b ++ Ax.I (Ax.num n x))))], 2, [1]⟩) True) = T_wnum0 x n l s b := by kernel_rfl
set_option maxHeartbeats 4000000 in
theorem v_wnum0 (x : Int) (n : Int) (l : Nat) (s : Bool) (b : List Int) (hpre : l = List.length b ∧ List.length b ≤ 1000000000 ∧ (0 ≤ n ∧ n ≤ 8)) : T_wnum0 x n l s b := by
  unfold T_wnum0
  obtain ⟨rfl, hb, h0, h8⟩ := hpre
  have hw : ∀ k : Int, 0 ≤ k → k ≤ 8 → IntKind.i64.wrap (8 * k) = 8 * k := fun k h h' => wrap64 (by omega) (by omega)
  have hm : ∀ k : Int, 0 ≤ k → k ≤ 8 → min (8 * k).toNat 64 = (8 * k).toNat := fun k h h' => by omega
  simp only [dP_iff, impT_iff, ifB_iff, Bool.and_eq_true, Bool.not_eq_true', decide_eq_true_eq, decide_eq_false_iff_not, true_and, and_true, imp_self, and_self, implies_true, true_implies, Bool.cond_eq_ite, Bool.cond_decide, Ax.map_I, List.length_append, Ax.I_len, List.length_cons, List.length_nil, Ax.sameRec_self, Ax.rawP_1, Ax.rawP_2, Ax.failP_1, Ax.failP_2, Ax.e8P_1, Ax.e8P_2, Ax.txP_1, Ax.txP_2, Ax.endP_1, Ax.endP_2, Bool.true_eq_false, Bool.false_eq_true, imp_false]
  rw [hw n h0 h8, hm n h0 h8]
  refine ⟨fun _ => by omega, ?_, ?_, ?_, ?_⟩
  · by_cases hx : x < 0 <;> by_cases hn : n < 8 <;> simp [hx, hn]
  · by_cases hx : x < 0 <;> simp [hx]
  · intro hbad
    have : beBad n x = true := hbad
    simp [num, this, I_nil]
  · intro hgood
    have hg : beBad n x = false := hgood
    have hx : 0 ≤ x := by
      by_cases hx : x < 0
      · simp [beBad, hx] at hg
      · omega
    refine ⟨⟨(n.toNat, b), by rw [wrap64] <;> omega, rfl, rfl, by omega, hx, rfl⟩, ?_⟩
    rintro ⟨i, c⟩ ⟨hi, _, hc⟩
    have hlen : c.length + i = b.length + n.toNat := by
      have := congrArg List.length hc
      simpa [I_len, be_len] using this
    refine ⟨fun h => ?_, fun h => ?_⟩
    · obtain ⟨i, rfl⟩ : ∃ k, i = k + 1 := ⟨i - 1, by omega⟩
      have e : ((i + 1 : Nat) : Int) - 1 = (i : Int) := by omega
      simp only at h hi hc hlen ⊢
      rw [e, hw i (by omega) (by omega), hm i (by omega) (by omega)]
      have e2 : (8 * (i : Int)).toNat = 8 * i := by omega
      rw [e2]
      refine ⟨by omega, by omega, ⟨by omega, by simp only [List.length_append, List.length_cons, List.length_nil, lim]; omega⟩, (i, c ++ [IntKind.wrap .u8 (x.fdiv (2 ^ (8 * i)))]), by rw [wrap64] <;> omega, by simp, rfl, ⟨by omega, hx, ?_⟩, by simp⟩
      rw [be_step c x hx i]; exact hc
    · have : i = 0 := by simp only at h; omega
      subst this
      simp only [be, I_nil, List.append_nil] at hc
      simp [hg, num, hc, I_len]
theorem o_wnum1 (x : Int) (n : Int) (s : Bool) : weak 1 ⟨frOf [.ptr (0 : Nat) (0 : Nat), .d (.int .i64 x), .d (.int .i64 n)], [((0 : Nat), .cells 71 [.nilsl, .d (.bool s)])], 1, []⟩ ⟨frOf [.ptr (0 : Nat) (0 : Nat), .d (.int .i64 x), .d (.int .i64 n)], [((0 : Nat), .cells 71 [.sl (1 : Nat) (0 : Nat) (0 : Nat), .d (.bool s)]), ((1 : Nat), .row 5 (.ints .u8 ([] : List Int)))], 2, []⟩ = [(0 : Nat) = (0 : Nat), (0 : Nat) = (0 : Nat), x = x, n = n, 71 = 71, (0 : Nat) = 0, (0 : Nat) = 0, s = s, (List.length ([] : List Int)) = 0] := by kernel_rfl
set_option maxHeartbeats 4000000 in
theorem ct_wnum : CtOk Tryz.prog 86 (own L_wnum) := by
  refine own_ct_g Ax.gam0_ok Tryz.checked.mixed Tryz.func86 (enter_of Tryz.func86 (by kernel_rfl) (by kernel_rfl)) ?_
  intro xs_ hp_ nx_ r_ h hpre
  unfold L_wnum at h
  split at h
  · rename_i x n l s b; simp only [Option.some.injEq] at h; subst h
    refine ⟨a_wnum0 x n l s b, 8, (.inl ⟨rfl, rfl, rfl⟩), ?_⟩
    have h1 := v_wnum0 x n l s b hpre
    rw [← n_wnum0 x n l s b] at h1
    dsimp only
    assumption
  · rename_i x n s; simp only [Option.some.injEq] at h; subst h
    refine ⟨a_wnum0 x n (0 : Nat) s ([] : List Int), 8, (.inr (by rw [o_wnum1]; intro p hp; simp only [List.mem_cons, List.mem_nil_iff, or_false] at hp; rcases hp with rfl | rfl | rfl | rfl | rfl | rfl | rfl | rfl | rfl <;> first | rfl | trivial | simp)), ?_⟩
    have h1 := v_wnum0 x n (0 : Nat) s ([] : List Int) hpre
    rw [← n_wnum0 x n (0 : Nat) s ([] : List Int)] at h1
    dsimp only
    assumption
  · simp at h
noncomputable def g_wnum : Nat → CE := gct 86 (own L_wnum) Ax.gam0
theorem go_wnum : GamOk Tryz.prog g_wnum := Ax.gam0_ok.ct ct_wnum
noncomputable def g_i30 : Nat → CE := ginl 30 g_wnum
theorem go_i30 : GamOk Tryz.prog g_i30 := go_wnum.inl (enter_of Tryz.func30 (by kernel_rfl) (by kernel_rfl))
noncomputable def g_i31 : Nat → CE := ginl 31 g_i30
theorem go_i31 : GamOk Tryz.prog g_i31 := go_i30.inl (enter_of Tryz.func31 (by kernel_rfl) (by kernel_rfl))
noncomputable def g_i32 : Nat → CE := ginl 32 g_i31
theorem go_i32 : GamOk Tryz.prog g_i32 := go_i31.inl (enter_of Tryz.func32 (by kernel_rfl) (by kernel_rfl))
/-! ### (*ostler/pack.Writer).Hash -/
noncomputable def L_whash : List A → Heap → Nat → Option LR
  | [.ptr 0 0, .d (.str t)], [(0, .cells 71 [.sl 1 0 l, .d (.bool s)]), (1, .row 5 (.ints .u8 b))], 2 => some ⟨[.ptr (0 : Nat) (0 : Nat), .d (.str t)], [((0 : Nat), .cells 71 [.sl (1 : Nat) (0 : Nat) l, .d (.bool s)]), ((1 : Nat), .row 5 (.ints .u8 b))], 2, l = List.length b ∧ List.length b ≤ 1000000000 ∧ (List.length t ≤ 1000000000), .tup [], [((0 : Nat), .cells 71 [.sl (1 : Nat) (0 : Nat) (List.length (b ++ Ax.I (t))), .d (.bool (s || !decide (List.length t = 32)))]), ((1 : Nat), .row 5 (.ints .u8 (b ++ Ax.I (t))))], 2, [1]⟩
  | [.ptr 0 0, .d (.str t)], [(0, .cells 71 [.nilsl, .d (.bool s)])], 1 => some ⟨[.ptr (0 : Nat) (0 : Nat), .d (.str t)], [((0 : Nat), .cells 71 [.sl (1 : Nat) (0 : Nat) (0 : Nat), .d (.bool s)]), ((1 : Nat), .row 5 (.ints .u8 ([] : List Int)))], 2, (0 : Nat) = List.length ([] : List Int) ∧ List.length ([] : List Int) ≤ 1000000000 ∧ (List.length t ≤ 1000000000), .tup [], [((0 : Nat), .cells 71 [.sl (1 : Nat) (0 : Nat) (List.length (([] : List Int) ++ Ax.I (t))), .d (.bool (s || !decide (List.length t = 32)))]), ((1 : Nat), .row 5 (.ints .u8 (([] : List Int) ++ Ax.I (t))))], 2, [1]⟩
  | _, _, _ => none
noncomputable def a_whash0 (t : List UInt8) (l : Nat) (s : Bool) (b : List Int) : Nat → Nat → Ann := fun f k => .unroll 0
def T_whash0 (t : List UInt8) (l : Nat) (s : Bool) (b : List Int) : Prop :=
  (Ax.dP (!s) ((!s) && true) (Ax.dP (!s) ((!s) && true) (Ax.dP true (bif s then true else (!s)) (True ∧ ((l = (List.length b) ∧ (List.length (b ++ (List.map (fun b => (UInt8.toNat b : Int)) t))) * 1 ≤ Ax.lim) ∧ (True ∧ ((71 = 71) ∧ (((1 : Nat) = (1 : Nat)) ∧ (((0 : Nat) = (0 : Nat)) ∧ (((List.length (b ++ (List.map (fun b => (UInt8.toNat b : Int)) t))) = (List.length (b ++ Ax.I (t)))) ∧ (((bif s then true else (!(decide (((List.length t : Nat) : Int) = (32 : Int))))) = (s || !decide (List.length t = 32))) ∧ ((5 = 5) ∧ (((b ++ (List.map (fun b => (UInt8.toNat b : Int)) t)) = (b ++ Ax.I (t))) ∧ True)))))))))))))
theorem n_whash0 (t : List UInt8) (l : Nat) (s : Bool) (b : List Int) : afun { P := Tryz.prog, Γ := g_i32, ann := a_whash0 t l s b } (inlN { P := Tryz.prog, Γ := g_i32, ann := a_whash0 t l s b } 8) 142 Tryz.f142 [.ptr (0 : Nat) (0 : Nat), .d (.str t)] [((0 : Nat), .cells 71 [.sl (1 : Nat) (0 : Nat) l, .d (.bool s)]), ((1 : Nat), .row 5 (.ints .u8 b))] 2 (fun v_ h_ n_ k_ => conjL (weak 2 ⟨[(true, v_)], h_, n_, k_⟩ ⟨[(true, .tup [])], [((0 : Nat), .cells 71 [.sl (1 : Nat) (0 : Nat) (List.length (b ++ Ax.I (t))), .d (.bool (s || !decide (List.length t = 32)))]), ((1 : Nat), .row 5 (.ints .u8 (b ++ Ax.I (t))))], 2, [1]⟩) True) = T_whash0 t l s b := by kernel_rfl
set_option maxHeartbeats 4000000 in
theorem v_whash0 (t : List UInt8) (l : Nat) (s : Bool) (b : List Int) (hpre : l = List.length b ∧ List.length b ≤ 1000000000 ∧ (List.length t ≤ 1000000000)) : T_whash0 t l s b := by
  unfold T_whash0
  obtain ⟨rfl, hb, ht⟩ := hpre
  simp only [dP_iff, impT_iff, ifB_iff, Bool.and_eq_true, Bool.not_eq_true', decide_eq_true_eq, decide_eq_false_iff_not, true_and, and_true, imp_self, and_self, implies_true, true_implies, Bool.cond_eq_ite, Bool.cond_decide, Ax.map_I, List.length_append, Ax.I_len, List.length_cons, List.length_nil, Ax.sameRec_self, Ax.rawP_1, Ax.rawP_2, Ax.failP_1, Ax.failP_2, Ax.e8P_1, Ax.e8P_2, Ax.txP_1, Ax.txP_2, Ax.endP_1, Ax.endP_2, Bool.true_eq_false, Bool.false_eq_true, imp_false]
  refine ⟨by cases s <;> rfl, by simp only [lim]; omega, ?_⟩
  cases s <;> simp <;> omega
theorem o_whash1 (t : List UInt8) (s : Bool) : weak 1 ⟨frOf [.ptr (0 : Nat) (0 : Nat), .d (.str t)], [((0 : Nat), .cells 71 [.nilsl, .d (.bool s)])], 1, []⟩ ⟨frOf [.ptr (0 : Nat) (0 : Nat), .d (.str t)], [((0 : Nat), .cells 71 [.sl (1 : Nat) (0 : Nat) (0 : Nat), .d (.bool s)]), ((1 : Nat), .row 5 (.ints .u8 ([] : List Int)))], 2, []⟩ = [(0 : Nat) = (0 : Nat), (0 : Nat) = (0 : Nat), t = t, 71 = 71, (0 : Nat) = 0, (0 : Nat) = 0, s = s, (List.length ([] : List Int)) = 0] := by kernel_rfl
set_option maxHeartbeats 4000000 in
theorem ct_whash : CtOk Tryz.prog 142 (own L_whash) := by
  refine own_ct_g go_i32 Tryz.checked.mixed Tryz.func142 (enter_of Tryz.func142 (by kernel_rfl) (by kernel_rfl)) ?_
  intro xs_ hp_ nx_ r_ h hpre
  unfold L_whash at h
  split at h
  · rename_i t l s b; simp only [Option.some.injEq] at h; subst h
    refine ⟨a_whash0 t l s b, 8, (.inl ⟨rfl, rfl, rfl⟩), ?_⟩
    have h1 := v_whash0 t l s b hpre
    rw [← n_whash0 t l s b] at h1
    dsimp only
    assumption
  · rename_i t s; simp only [Option.some.injEq] at h; subst h
    refine ⟨a_whash0 t (0 : Nat) s ([] : List Int), 8, (.inr (by rw [o_whash1]; intro p hp; simp only [List.mem_cons, List.mem_nil_iff, or_false] at hp; rcases hp with rfl | rfl | rfl | rfl | rfl | rfl | rfl | rfl <;> first | rfl | trivial | simp)), ?_⟩
    have h1 := v_whash0 t (0 : Nat) s ([] : List Int) hpre
    rw [← n_whash0 t (0 : Nat) s ([] : List Int)] at h1
    dsimp only
    assumption
  · simp at h
noncomputable def g_whash : Nat → CE := gct 142 (own L_whash) g_i32
theorem go_whash : GamOk Tryz.prog g_whash := go_i32.ct ct_whash
/-! ### (*ostler/pack.Writer).Text -/
noncomputable def L_wtext : List A → Heap → Nat → Option LR
  | [.ptr 0 0, .d (.str t)], [(0, .cells 71 [.sl 1 0 l, .d (.bool s)]), (1, .row 5 (.ints .u8 b))], 2 => some ⟨[.ptr (0 : Nat) (0 : Nat), .d (.str t)], [((0 : Nat), .cells 71 [.sl (1 : Nat) (0 : Nat) l, .d (.bool s)]), ((1 : Nat), .row 5 (.ints .u8 b))], 2, l = List.length b ∧ List.length b ≤ 1000000000 ∧ (List.length t ≤ 1000000000), .tup [], [((0 : Nat), .cells 71 [.sl (1 : Nat) (0 : Nat) (List.length (b ++ Ax.I (Ax.num 2 (List.length t) ++ t))), .d (.bool (s || Ax.beBad 2 (List.length t)))]), ((1 : Nat), .row 5 (.ints .u8 (b ++ Ax.I (Ax.num 2 (List.length t) ++ t))))], 2, [1]⟩
  | [.ptr 0 0, .d (.str t)], [(0, .cells 71 [.nilsl, .d (.bool s)])], 1 => some ⟨[.ptr (0 : Nat) (0 : Nat), .d (.str t)], [((0 : Nat), .cells 71 [.sl (1 : Nat) (0 : Nat) (0 : Nat), .d (.bool s)]), ((1 : Nat), .row 5 (.ints .u8 ([] : List Int)))], 2, (0 : Nat) = List.length ([] : List Int) ∧ List.length ([] : List Int) ≤ 1000000000 ∧ (List.length t ≤ 1000000000), .tup [], [((0 : Nat), .cells 71 [.sl (1 : Nat) (0 : Nat) (List.length (([] : List Int) ++ Ax.I (Ax.num 2 (List.length t) ++ t))), .d (.bool (s || Ax.beBad 2 (List.length t)))]), ((1 : Nat), .row 5 (.ints .u8 (([] : List Int) ++ Ax.I (Ax.num 2 (List.length t) ++ t))))], 2, [1]⟩
  | _, _, _ => none
noncomputable def a_wtext0 (t : List UInt8) (l : Nat) (s : Bool) (b : List Int) : Nat → Nat → Ann := fun f k => .unroll 0
def T_wtext0 (t : List UInt8) (l : Nat) (s : Bool) (b : List Int) : Prop :=
  ((l = List.length b ∧ List.length b ≤ 1000000000 ∧ (0 ≤ (2 : Int) ∧ (2 : Int) ≤ 8)) ∧ (((List.length (b ++ Ax.I (Ax.num (2 : Int) ((List.length t : Nat) : Int)))) = (List.length (b ++ Ax.I (Ax.num (2 : Int) ((List.length t : Nat) : Int)))) ∧ (List.length ((b ++ Ax.I (Ax.num (2 : Int) ((List.length t : Nat) : Int))) ++ (List.map (fun b => (UInt8.toNat b : Int)) t))) * 1 ≤ Ax.lim) ∧ (True ∧ ((71 = 71) ∧ (((1 : Nat) = (1 : Nat)) ∧ (((0 : Nat) = (0 : Nat)) ∧ (((List.length ((b ++ Ax.I (Ax.num (2 : Int) ((List.length t : Nat) : Int))) ++ (List.map (fun b => (UInt8.toNat b : Int)) t))) = (List.length (b ++ Ax.I (Ax.num 2 (List.length t) ++ t)))) ∧ (((s || Ax.beBad (2 : Int) ((List.length t : Nat) : Int)) = (s || Ax.beBad 2 (List.length t))) ∧ ((5 = 5) ∧ ((((b ++ Ax.I (Ax.num (2 : Int) ((List.length t : Nat) : Int))) ++ (List.map (fun b => (UInt8.toNat b : Int)) t)) = (b ++ Ax.I (Ax.num 2 (List.length t) ++ t))) ∧ True))))))))))
theorem n_wtext0 (t : List UInt8) (l : Nat) (s : Bool) (b : List Int) : afun { P := Tryz.prog, Γ := g_whash, ann := a_wtext0 t l s b } (inlN { P := Tryz.prog, Γ := g_whash, ann := a_wtext0 t l s b } 8) 84 Tryz.f84 [.ptr (0 : Nat) (0 : Nat), .d (.str t)] [((0 : Nat), .cells 71 [.sl (1 : Nat) (0 : Nat) l, .d (.bool s)]), ((1 : Nat), .row 5 (.ints .u8 b))] 2 (fun v_ h_ n_ k_ => conjL (weak 2 ⟨[(true, v_)], h_, n_, k_⟩ ⟨[(true, .tup [])], [((0 : Nat), .cells 71 [.sl (1 : Nat) (0 : Nat) (List.length (b ++ Ax.I (Ax.num 2 (List.length t) ++ t))), .d (.bool (s || Ax.beBad 2 (List.length t)))]), ((1 : Nat), .row 5 (.ints .u8 (b ++ Ax.I (Ax.num 2 (List.length t) ++ t))))], 2, [1]⟩) True) = T_wtext0 t l s b := by kernel_rfl
set_option maxHeartbeats 4000000 in
theorem v_wtext0 (t : List UInt8) (l : Nat) (s : Bool) (b : List Int) (hpre : l = List.length b ∧ List.length b ≤ 1000000000 ∧ (List.length t ≤ 1000000000)) : T_wtext0 t l s b := by
  unfold T_wtext0
  obtain ⟨rfl, hb, ht⟩ := hpre
  have := num_len 2 t.length
  simp only [dP_iff, impT_iff, ifB_iff, Bool.and_eq_true, Bool.not_eq_true', decide_eq_true_eq, decide_eq_false_iff_not, true_and, and_true, imp_self, and_self, implies_true, true_implies, Bool.cond_true_left, Bool.cond_false_right, Bool.cond_true_right, Bool.cond_false_left, Bool.or_eq_true, Bool.not_eq_false', Bool.and_eq_false_imp, Bool.or_eq_false_iff, Bool.not_not, Ax.map_I, List.length_append, Ax.I_len, List.length_cons, List.length_nil, Ax.sameRec_self, Ax.rawP_1, Ax.rawP_2, Ax.failP_1, Ax.failP_2, Ax.e8P_1, Ax.e8P_2, Ax.txP_1, Ax.txP_2, Ax.endP_1, Ax.endP_2, Bool.true_eq_false, Bool.false_eq_true, imp_false]
  refine ⟨by omega, by simp only [lim]; omega, by omega, by simp [I_app]⟩
theorem o_wtext1 (t : List UInt8) (s : Bool) : weak 1 ⟨frOf [.ptr (0 : Nat) (0 : Nat), .d (.str t)], [((0 : Nat), .cells 71 [.nilsl, .d (.bool s)])], 1, []⟩ ⟨frOf [.ptr (0 : Nat) (0 : Nat), .d (.str t)], [((0 : Nat), .cells 71 [.sl (1 : Nat) (0 : Nat) (0 : Nat), .d (.bool s)]), ((1 : Nat), .row 5 (.ints .u8 ([] : List Int)))], 2, []⟩ = [(0 : Nat) = (0 : Nat), (0 : Nat) = (0 : Nat), t = t, 71 = 71, (0 : Nat) = 0, (0 : Nat) = 0, s = s, (List.length ([] : List Int)) = 0] := by kernel_rfl
set_option maxHeartbeats 4000000 in
theorem ct_wtext : CtOk Tryz.prog 84 (own L_wtext) := by
  refine own_ct_g go_whash Tryz.checked.mixed Tryz.func84 (enter_of Tryz.func84 (by kernel_rfl) (by kernel_rfl)) ?_
  intro xs_ hp_ nx_ r_ h hpre
  unfold L_wtext at h
  split at h
  · rename_i t l s b; simp only [Option.some.injEq] at h; subst h
    refine ⟨a_wtext0 t l s b, 8, (.inl ⟨rfl, rfl, rfl⟩), ?_⟩
    have h1 := v_wtext0 t l s b hpre
    rw [← n_wtext0 t l s b] at h1
    dsimp only
    assumption
  · rename_i t s; simp only [Option.some.injEq] at h; subst h
    refine ⟨a_wtext0 t (0 : Nat) s ([] : List Int), 8, (.inr (by rw [o_wtext1]; intro p hp; simp only [List.mem_cons, List.mem_nil_iff, or_false] at hp; rcases hp with rfl | rfl | rfl | rfl | rfl | rfl | rfl | rfl <;> first | rfl | trivial | simp)), ?_⟩
    have h1 := v_wtext0 t (0 : Nat) s ([] : List Int) hpre
    rw [← n_wtext0 t (0 : Nat) s ([] : List Int)] at h1
    dsimp only
    assumption
  · simp at h
noncomputable def g_wtext : Nat → CE := gct 84 (own L_wtext) g_whash
theorem go_wtext : GamOk Tryz.prog g_wtext := go_whash.ct ct_wtext
/-! ### (*ostler/pack.Writer).Bytes -/
noncomputable def L_wbytes : List A → Heap → Nat → Option LR
  | [.ptr 0 0], [(0, .cells 71 [.sl 1 0 l, .d (.bool s)]), (1, .row 5 (.ints .u8 b))], 2 => some ⟨[.ptr (0 : Nat) (0 : Nat)], [((0 : Nat), .cells 71 [.sl (1 : Nat) (0 : Nat) l, .d (.bool s)]), ((1 : Nat), .row 5 (.ints .u8 b))], 2, l = List.length b ∧ List.length b ≤ 1000000000, .tup [.d (.str (if s then [] else Ax.strOfInts b)), .d (.int .i64 (if s then (1 : Int) else 0))], [((0 : Nat), .cells 71 [.sl (1 : Nat) (0 : Nat) l, .d (.bool s)]), ((1 : Nat), .row 5 (.ints .u8 b))], 2, []⟩
  | _, _, _ => none
noncomputable def a_wbytes (l : Nat) (s : Bool) (b : List Int) : Nat → Nat → Ann := fun f k => .unroll 0
def T_wbytes (l : Nat) (s : Bool) (b : List Int) : Prop :=
  (Ax.ifB s ((([] : List UInt8) = (if s then [] else Ax.strOfInts b)) ∧ (((1 : Int) = (if s then (1 : Int) else 0)) ∧ ((71 = 71) ∧ (((1 : Nat) = (1 : Nat)) ∧ (((0 : Nat) = (0 : Nat)) ∧ ((l = l) ∧ ((s = s) ∧ ((5 = 5) ∧ ((b = b) ∧ True))))))))) (((0 : Nat) + l ≤ (List.length b)) ∧ (((Ax.strOfInts (List.take l b)) = (if s then [] else Ax.strOfInts b)) ∧ (((0 : Int) = (if s then (1 : Int) else 0)) ∧ ((71 = 71) ∧ (((1 : Nat) = (1 : Nat)) ∧ (((0 : Nat) = (0 : Nat)) ∧ ((l = l) ∧ ((s = s) ∧ ((5 = 5) ∧ ((b = b) ∧ True)))))))))))
theorem n_wbytes (l : Nat) (s : Bool) (b : List Int) : afun { P := Tryz.prog, Γ := g_wtext, ann := a_wbytes l s b } (inlN { P := Tryz.prog, Γ := g_wtext, ann := a_wbytes l s b } 8) 34 Tryz.f34 [.ptr (0 : Nat) (0 : Nat)] [((0 : Nat), .cells 71 [.sl (1 : Nat) (0 : Nat) l, .d (.bool s)]), ((1 : Nat), .row 5 (.ints .u8 b))] 2 (fun v_ h_ n_ k_ => conjL (weak 2 ⟨[(true, v_)], h_, n_, k_⟩ ⟨[(true, .tup [.d (.str (if s then [] else Ax.strOfInts b)), .d (.int .i64 (if s then (1 : Int) else 0))])], [((0 : Nat), .cells 71 [.sl (1 : Nat) (0 : Nat) l, .d (.bool s)]), ((1 : Nat), .row 5 (.ints .u8 b))], 2, []⟩) True) = T_wbytes l s b := by kernel_rfl
set_option maxHeartbeats 4000000 in
theorem v_wbytes (l : Nat) (s : Bool) (b : List Int) (hpre : l = List.length b ∧ List.length b ≤ 1000000000) : T_wbytes l s b := by
  unfold T_wbytes
  obtain ⟨rfl, hb⟩ := hpre
  simp only [dP_iff, impT_iff, ifB_iff, Bool.and_eq_true, Bool.not_eq_true', decide_eq_true_eq, decide_eq_false_iff_not, true_and, and_true, imp_self, and_self, implies_true, true_implies, Bool.cond_true_left, Bool.cond_false_right, Bool.cond_true_right, Bool.cond_false_left, Bool.or_eq_true, Bool.not_eq_false', Bool.and_eq_false_imp, Bool.or_eq_false_iff, Bool.not_not, Ax.map_I, List.length_append, Ax.I_len, List.length_cons, List.length_nil, Ax.sameRec_self, Ax.rawP_1, Ax.rawP_2, Ax.failP_1, Ax.failP_2, Ax.e8P_1, Ax.e8P_2, Ax.txP_1, Ax.txP_2, Ax.endP_1, Ax.endP_2, Bool.true_eq_false, Bool.false_eq_true, imp_false]
  refine ⟨fun h => by simp [h], fun h => by simp [h]⟩
set_option maxHeartbeats 4000000 in
theorem ct_wbytes : CtOk Tryz.prog 34 (own L_wbytes) := by
  refine own_ct_g go_wtext Tryz.checked.mixed Tryz.func34 (enter_of Tryz.func34 (by kernel_rfl) (by kernel_rfl)) ?_
  intro xs_ hp_ nx_ r_ h hpre
  unfold L_wbytes at h
  split at h
  · rename_i l s b; simp only [Option.some.injEq] at h; subst h
    refine ⟨a_wbytes l s b, 8, (.inl ⟨rfl, rfl, rfl⟩), ?_⟩
    have h1 := v_wbytes l s b hpre
    rw [← n_wbytes l s b] at h1
    dsimp only
    assumption
  · simp at h
noncomputable def g_wbytes : Nat → CE := gct 34 (own L_wbytes) g_wtext
theorem go_wbytes : GamOk Tryz.prog g_wbytes := go_wtext.ct ct_wbytes
noncomputable def g_i37 : Nat → CE := ginl 37 g_wbytes
theorem go_i37 : GamOk Tryz.prog g_i37 := go_wbytes.inl (enter_of Tryz.func37 (by kernel_rfl) (by kernel_rfl))
noncomputable def g_i107 : Nat → CE := ginl 107 g_i37
theorem go_i107 : GamOk Tryz.prog g_i107 := go_i37.inl (enter_of Tryz.func107 (by kernel_rfl) (by kernel_rfl))
noncomputable def g_i105 : Nat → CE := ginl 105 g_i107
theorem go_i105 : GamOk Tryz.prog g_i105 := go_i107.inl (enter_of Tryz.func105 (by kernel_rfl) (by kernel_rfl))
/-! ### (*ostler/pack.Reader).Fail -/
noncomputable def L_rfail : List A → Heap → Nat → Option LR
  | [.ptr 0 0, .d (.int .i64 x)], [(0, .cells 132 [.d (.str s), .d (.int .i64 e)])], 1 => some ⟨[.ptr (0 : Nat) (0 : Nat), .d (.int .i64 x)], [((0 : Nat), .cells 132 [.d (.str s), .d (.int .i64 e)])], 1, True, .tup [], [((0 : Nat), .cells 132 [.d (.str ((Ax.failP x (s, e)).1)), .d (.int .i64 ((Ax.failP x (s, e)).2))])], 1, []⟩
  | _, _, _ => none
noncomputable def a_rfail (x : Int) (s : List UInt8) (e : Int) : Nat → Nat → Ann := fun f k => .unroll 0
def T_rfail (x : Int) (s : List UInt8) (e : Int) : Prop :=
  (Ax.ifB (decide (e = (0 : Int))) (True ∧ ((132 = 132) ∧ ((s = ((Ax.failP x (s, e)).1)) ∧ ((x = ((Ax.failP x (s, e)).2)) ∧ True)))) ((132 = 132) ∧ ((s = ((Ax.failP x (s, e)).1)) ∧ ((e = ((Ax.failP x (s, e)).2)) ∧ True))))
theorem n_rfail (x : Int) (s : List UInt8) (e : Int) : afun { P := Tryz.prog, Γ := g_i105, ann := a_rfail x s e } (inlN { P := Tryz.prog, Γ := g_i105, ann := a_rfail x s e } 8) 106 Tryz.f106 [.ptr (0 : Nat) (0 : Nat), .d (.int .i64 x)] [((0 : Nat), .cells 132 [.d (.str s), .d (.int .i64 e)])] 1 (fun v_ h_ n_ k_ => conjL (weak 1 ⟨[(true, v_)], h_, n_, k_⟩ ⟨[(true, .tup [])], [((0 : Nat), .cells 132 [.d (.str ((Ax.failP x (s, e)).1)), .d (.int .i64 ((Ax.failP x (s, e)).2))])], 1, []⟩) True) = T_rfail x s e := by kernel_rfl
set_option maxHeartbeats 4000000 in
theorem v_rfail (x : Int) (s : List UInt8) (e : Int) (hpre : True) : T_rfail x s e := by
  unfold T_rfail
  simp only [dP_iff, impT_iff, ifB_iff, Bool.and_eq_true, Bool.not_eq_true', decide_eq_true_eq, decide_eq_false_iff_not, true_and, and_true, imp_self, and_self, implies_true, true_implies, Bool.cond_true_left, Bool.cond_false_right, Bool.cond_true_right, Bool.cond_false_left, Bool.or_eq_true, Bool.not_eq_false', Bool.and_eq_false_imp, Bool.or_eq_false_iff, Bool.not_not, Ax.map_I, List.length_append, Ax.I_len, List.length_cons, List.length_nil, Ax.sameRec_self, Ax.rawP_1, Ax.rawP_2, Ax.failP_1, Ax.failP_2, Ax.e8P_1, Ax.e8P_2, Ax.txP_1, Ax.txP_2, Ax.endP_1, Ax.endP_2, Bool.true_eq_false, Bool.false_eq_true, imp_false]
  by_cases h : e = 0 <;> simp [h, failE]
set_option maxHeartbeats 4000000 in
theorem ct_rfail : CtOk Tryz.prog 106 (own L_rfail) := by
  refine own_ct_g go_i105 Tryz.checked.mixed Tryz.func106 (enter_of Tryz.func106 (by kernel_rfl) (by kernel_rfl)) ?_
  intro xs_ hp_ nx_ r_ h hpre
  unfold L_rfail at h
  split at h
  · rename_i x s e; simp only [Option.some.injEq] at h; subst h
    refine ⟨a_rfail x s e, 8, (.inl ⟨rfl, rfl, rfl⟩), ?_⟩
    have h1 := v_rfail x s e hpre
    rw [← n_rfail x s e] at h1
    dsimp only
    assumption
  · simp at h
noncomputable def g_rfail : Nat → CE := gct 106 (own L_rfail) g_i105
theorem go_rfail : GamOk Tryz.prog g_rfail := go_i105.ct ct_rfail
/-! ### (*ostler/pack.Reader).Raw -/
noncomputable def L_rraw : List A → Heap → Nat → Option LR
  | [.ptr 0 0, .d (.int .i64 n)], [(0, .cells 132 [.d (.str s), .d (.int .i64 e)])], 1 => some ⟨[.ptr (0 : Nat) (0 : Nat), .d (.int .i64 n)], [((0 : Nat), .cells 132 [.d (.str s), .d (.int .i64 e)])], 1, True, .d (.str (Ax.rawV n s e)), [((0 : Nat), .cells 132 [.d (.str ((Ax.rawP n (s, e)).1)), .d (.int .i64 ((Ax.rawP n (s, e)).2))])], 1, []⟩
  | _, _, _ => none
noncomputable def a_rraw (n : Int) (s : List UInt8) (e : Int) : Nat → Nat → Ann := fun f k => .unroll 0
def T_rraw (n : Int) (s : List UInt8) (e : Int) : Prop :=
  (Ax.ifB (!(decide (e = (0 : Int)))) ((([] : List UInt8) = (Ax.rawV n s e)) ∧ ((132 = 132) ∧ ((s = ((Ax.rawP n (s, e)).1)) ∧ ((e = ((Ax.rawP n (s, e)).2)) ∧ True)))) (Ax.ifB (decide (n < (0 : Int))) (True ∧ ((([] : List UInt8) = (Ax.rawV n s e)) ∧ ((132 = 132) ∧ ((s = ((Ax.rawP n (s, e)).1)) ∧ (((1 : Int) = ((Ax.rawP n (s, e)).2)) ∧ True))))) (Ax.ifB (decide (((List.length s : Nat) : Int) < n)) (True ∧ ((([] : List UInt8) = (Ax.rawV n s e)) ∧ ((132 = 132) ∧ ((s = ((Ax.rawP n (s, e)).1)) ∧ (((2 : Int) = ((Ax.rawP n (s, e)).2)) ∧ True))))) ((0 ≤ (0 : Int) ∧ (0 : Int) ≤ n ∧ n ≤ ((List.length s : Nat) : Int)) ∧ ((0 ≤ n ∧ n ≤ ((List.length s : Nat) : Int) ∧ ((List.length s : Nat) : Int) ≤ ((List.length s : Nat) : Int)) ∧ (True ∧ (((List.take (Int.toNat n) s) = (Ax.rawV n s e)) ∧ ((132 = 132) ∧ (((List.take ((List.length s) - (Int.toNat n)) (List.drop (Int.toNat n) s)) = ((Ax.rawP n (s, e)).1)) ∧ ((e = ((Ax.rawP n (s, e)).2)) ∧ True))))))))))
theorem n_rraw (n : Int) (s : List UInt8) (e : Int) : afun { P := Tryz.prog, Γ := g_rfail, ann := a_rraw n s e } (inlN { P := Tryz.prog, Γ := g_rfail, ann := a_rraw n s e } 8) 148 Tryz.f148 [.ptr (0 : Nat) (0 : Nat), .d (.int .i64 n)] [((0 : Nat), .cells 132 [.d (.str s), .d (.int .i64 e)])] 1 (fun v_ h_ n_ k_ => conjL (weak 1 ⟨[(true, v_)], h_, n_, k_⟩ ⟨[(true, .d (.str (Ax.rawV n s e)))], [((0 : Nat), .cells 132 [.d (.str ((Ax.rawP n (s, e)).1)), .d (.int .i64 ((Ax.rawP n (s, e)).2))])], 1, []⟩) True) = T_rraw n s e := by kernel_rfl
set_option maxHeartbeats 4000000 in
theorem v_rraw (n : Int) (s : List UInt8) (e : Int) (hpre : True) : T_rraw n s e := by
  unfold T_rraw
  simp only [dP_iff, impT_iff, ifB_iff, Bool.and_eq_true, Bool.not_eq_true', decide_eq_true_eq, decide_eq_false_iff_not, true_and, and_true, imp_self, and_self, implies_true, true_implies, Bool.cond_true_left, Bool.cond_false_right, Bool.cond_true_right, Bool.cond_false_left, Bool.or_eq_true, Bool.not_eq_false', Bool.and_eq_false_imp, Bool.or_eq_false_iff, Bool.not_not, Ax.map_I, List.length_append, Ax.I_len, List.length_cons, List.length_nil, Ax.sameRec_self, Ax.rawP_1, Ax.rawP_2, Ax.failP_1, Ax.failP_2, Ax.e8P_1, Ax.e8P_2, Ax.txP_1, Ax.txP_2, Ax.endP_1, Ax.endP_2, Bool.true_eq_false, Bool.false_eq_true, imp_false]
  by_cases h : e = 0
  · by_cases h1 : n < 0
    · have : ¬ 0 ≤ n := by omega
      simp [h, h1, rawV, rawS, rawE, rawOk, this]
    · by_cases h2 : (s.length : Int) < n
      · have : ¬ n ≤ s.length := by omega
        simp [h, h1, h2, rawV, rawS, rawE, rawOk, this]
      · have h3 : 0 ≤ n := by omega
        have h4 : n ≤ s.length := by omega
        simp [h, h1, h2, rawV, rawS, rawE, rawOk, h3, h4]
        exact List.take_of_length_le (by simp)
  · simp [h, rawV, rawS, rawE, rawOk]
set_option maxHeartbeats 4000000 in
theorem ct_rraw : CtOk Tryz.prog 148 (own L_rraw) := by
  refine own_ct_g go_rfail Tryz.checked.mixed Tryz.func148 (enter_of Tryz.func148 (by kernel_rfl) (by kernel_rfl)) ?_
  intro xs_ hp_ nx_ r_ h hpre
  unfold L_rraw at h
  split at h
  · rename_i n s e; simp only [Option.some.injEq] at h; subst h
    refine ⟨a_rraw n s e, 8, (.inl ⟨rfl, rfl, rfl⟩), ?_⟩
    have h1 := v_rraw n s e hpre
    rw [← n_rraw n s e] at h1
    dsimp only
    assumption
  · simp at h
noncomputable def g_rraw : Nat → CE := gct 148 (own L_rraw) g_rfail
theorem go_rraw : GamOk Tryz.prog g_rraw := go_rfail.ct ct_rraw
/-! ### (*ostler/pack.Reader).number -/
noncomputable def L_rnum : List A → Heap → Nat → Option LR
  | [.ptr 0 0, .d (.int .i64 n)], [(0, .cells 132 [.d (.str s), .d (.int .i64 e)])], 1 => some ⟨[.ptr (0 : Nat) (0 : Nat), .d (.int .i64 n)], [((0 : Nat), .cells 132 [.d (.str s), .d (.int .i64 e)])], 1, Ax.rdV n s e ≤ 9223372036854775807 ∧ List.length s ≤ 1000000000, .d (.int .i64 (Ax.rdV n s e)), [((0 : Nat), .cells 132 [.d (.str ((Ax.rawP n (s, e)).1)), .d (.int .i64 ((Ax.rawP n (s, e)).2))])], 1, []⟩
  | _, _, _ => none
noncomputable def a_rnum (n : Int) (s : List UInt8) (e : Int) : Nat → Nat → Ann := fun f k => bif Nat.beq f 104 && Nat.beq k 0 then .inv ((Nat)) (fun st z => (St.with st [0, 1, 2, 3, 4, 6, 7, 8, 9, 10, 14, 15, 16, 17, 18, 19, 20, 21, 22, 23] [(13, .d (.int .i64 ((z : Nat) : Int))), (5, .d (.int .i64 (Ax.beVal (List.take z (Ax.rawV n s e)))))] [] st.nx)) (fun st z => z ≤ (Ax.rawV n s e).length) (fun st z => (Ax.rawV n s e).length - z) else .unroll 0
def T_rnum (n : Int) (s : List UInt8) (e : Int) : Prop :=
  (True ∧ (((List.length (Ax.rawV n s e)) ≤ Ax.lim) ∧ ((∃ z0 : (Nat), (((0 : Int) = (Ax.beVal (List.take z0 (Ax.rawV n s e)))) ∧ (((1 : Nat) = (1 : Nat)) ∧ (((0 : Nat) = (0 : Nat)) ∧ (((List.length (Ax.rawV n s e)) = (List.length (Ax.rawV n s e))) ∧ ((((List.length (Ax.rawV n s e) : Nat) : Int) = ((List.length (Ax.rawV n s e) : Nat) : Int)) ∧ (((0 : Int) = ((z0 : Nat) : Int)) ∧ ((132 = 132) ∧ ((((Ax.rawP n (s, e)).1) = ((Ax.rawP n (s, e)).1)) ∧ ((((Ax.rawP n (s, e)).2) = ((Ax.rawP n (s, e)).2)) ∧ ((5 = 5) ∧ (((List.map (fun b => (UInt8.toNat b : Int)) (Ax.rawV n s e)) = (List.map (fun b => (UInt8.toNat b : Int)) (Ax.rawV n s e))) ∧ z0 ≤ (Ax.rawV n s e).length)))))))))))) ∧ ∀ z0 : (Nat), (z0 ≤ (Ax.rawV n s e).length) → (Ax.ifB (decide (((z0 : Nat) : Int) < ((List.length (Ax.rawV n s e) : Nat) : Int))) ((0 ≤ ((z0 : Nat) : Int) ∧ ((z0 : Nat) : Int) < ((List.length (Ax.rawV n s e) : Nat) : Int)) ∧ ((((0 : Nat) + z0) < (List.length (List.map (fun b => (UInt8.toNat b : Int)) (Ax.rawV n s e)))) ∧ ((0 ≤ (8 : Int)) ∧ (∃ z0' : (Nat), (((Ax.bitsI .or .i64 (Go.IntKind.wrap .i64 ((Ax.beVal (List.take z0 (Ax.rawV n s e))) * 2 ^ 8)) (Go.IntKind.wrap .i64 (List.getD (List.map (fun b => (UInt8.toNat b : Int)) (Ax.rawV n s e)) ((0 : Nat) + z0) 0))) = (Ax.beVal (List.take z0' (Ax.rawV n s e)))) ∧ (((1 : Nat) = (1 : Nat)) ∧ (((0 : Nat) = (0 : Nat)) ∧ (((List.length (Ax.rawV n s e)) = (List.length (Ax.rawV n s e))) ∧ ((((List.length (Ax.rawV n s e) : Nat) : Int) = ((List.length (Ax.rawV n s e) : Nat) : Int)) ∧ (((Go.IntKind.wrap .i64 (((z0 : Nat) : Int) + (1 : Int))) = ((z0' : Nat) : Int)) ∧ ((132 = 132) ∧ ((((Ax.rawP n (s, e)).1) = ((Ax.rawP n (s, e)).1)) ∧ ((((Ax.rawP n (s, e)).2) = ((Ax.rawP n (s, e)).2)) ∧ ((5 = 5) ∧ (((List.map (fun b => (UInt8.toNat b : Int)) (Ax.rawV n s e)) = (List.map (fun b => (UInt8.toNat b : Int)) (Ax.rawV n s e))) ∧ (z0' ≤ (Ax.rawV n s e).length) ∧ (Ax.rawV n s e).length - z0' < (Ax.rawV n s e).length - z0))))))))))))))) (((Ax.beVal (List.take z0 (Ax.rawV n s e))) = (Ax.rdV n s e)) ∧ ((132 = 132) ∧ ((((Ax.rawP n (s, e)).1) = ((Ax.rawP n (s, e)).1)) ∧ ((((Ax.rawP n (s, e)).2) = ((Ax.rawP n (s, e)).2)) ∧ True))))))))
theorem n_rnum (n : Int) (s : List UInt8) (e : Int) : afun { P := Tryz.prog, Γ := g_rraw, ann := a_rnum n s e } (inlN { P := Tryz.prog, Γ := g_rraw, ann := a_rnum n s e } 8) 104 Tryz.f104 [.ptr (0 : Nat) (0 : Nat), .d (.int .i64 n)] [((0 : Nat), .cells 132 [.d (.str s), .d (.int .i64 e)])] 1 (fun v_ h_ n_ k_ => conjL (weak 1 ⟨[(true, v_)], h_, n_, k_⟩ ⟨[(true, .d (.int .i64 (Ax.rdV n s e)))], [((0 : Nat), .cells 132 [.d (.str ((Ax.rawP n (s, e)).1)), .d (.int .i64 ((Ax.rawP n (s, e)).2))])], 1, []⟩) True) = T_rnum n s e := by kernel_rfl
set_option maxHeartbeats 4000000 in
theorem v_rnum (n : Int) (s : List UInt8) (e : Int) (hpre : Ax.rdV n s e ≤ 9223372036854775807 ∧ List.length s ≤ 1000000000) : T_rnum n s e := by
  unfold T_rnum
  obtain ⟨hv, hs⟩ := hpre
  have hl := rawV_len n s e
  simp only [dP_iff, impT_iff, ifB_iff, Bool.and_eq_true, Bool.not_eq_true', decide_eq_true_eq, decide_eq_false_iff_not, true_and, and_true, imp_self, and_self, implies_true, true_implies, Bool.cond_true_left, Bool.cond_false_right, Bool.cond_true_right, Bool.cond_false_left, Bool.or_eq_true, Bool.not_eq_false', Bool.and_eq_false_imp, Bool.or_eq_false_iff, Bool.not_not, Ax.map_I, List.length_append, Ax.I_len, List.length_cons, List.length_nil, Ax.sameRec_self, Ax.rawP_1, Ax.rawP_2, Ax.failP_1, Ax.failP_2, Ax.e8P_1, Ax.e8P_2, Ax.txP_1, Ax.txP_2, Ax.endP_1, Ax.endP_2, Bool.true_eq_false, Bool.false_eq_true, imp_false]
  refine ⟨by simp only [lim]; omega, ⟨0, by simp [beVal], by simp, by omega⟩, fun i hi => ⟨fun h => ?_, fun h => ?_⟩⟩
  · have hi' : i < (rawV n s e).length := by omega
    have e1 : (List.map (fun b => (b.toNat : Int)) (rawV n s e)).getD (0 + i) 0 = (((rawV n s e)[i]).toNat : Int) := by simp [List.getD, hi']
    have hb : (((rawV n s e)[i]).toNat : Int) < 256 := by have := ((rawV n s e)[i]).toNat_lt; omega
    have ht : List.take (i + 1) (rawV n s e) = List.take i (rawV n s e) ++ [(rawV n s e)[i]] := by rw [List.take_add_one]; simp [hi']
    have hle := beVal_take_le (rawV n s e) (i + 1)
    rw [ht, beVal_app] at hle
    unfold rdV at hv
    refine ⟨by omega, by omega, by omega, i + 1, ?_, by rw [wrap64] <;> omega, by omega, by omega⟩
    have e2 : (Ax.I (rawV n s e)).getD (0 + i) 0 = (((rawV n s e)[i]).toNat : Int) := e1
    rw [e2, wrap64_byte _ (by omega) hb, shl_or _ _ (beVal_nonneg _) (by omega) (by omega) hb, ht, beVal_app]
  · have : i = (rawV n s e).length := by omega
    subst this
    simp [rdV]
set_option maxHeartbeats 4000000 in
theorem ct_rnum : CtOk Tryz.prog 104 (own L_rnum) := by
  refine own_ct_g go_rraw Tryz.checked.mixed Tryz.func104 (enter_of Tryz.func104 (by kernel_rfl) (by kernel_rfl)) ?_
  intro xs_ hp_ nx_ r_ h hpre
  unfold L_rnum at h
  split at h
  · rename_i n s e; simp only [Option.some.injEq] at h; subst h
    refine ⟨a_rnum n s e, 8, (.inl ⟨rfl, rfl, rfl⟩), ?_⟩
    have h1 := v_rnum n s e hpre
    rw [← n_rnum n s e] at h1
    dsimp only
    assumption
  · simp at h
noncomputable def g_rnum : Nat → CE := gct 104 (own L_rnum) g_rraw
theorem go_rnum : GamOk Tryz.prog g_rnum := go_rraw.ct ct_rnum
end Go.Proofs.YtfohmbookjnkgaaGreatDoor.Mx
