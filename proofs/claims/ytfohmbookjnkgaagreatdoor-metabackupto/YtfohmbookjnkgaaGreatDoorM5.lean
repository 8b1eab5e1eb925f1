/- Runs. Conditions: none; lemmas. -/
import Derived.Test.YtfohmbookjnkgaaGreatDoorAxG
import Derived.Test.YtfohmbookjnkgaaGreatDoorShelf
import Derived.Test.YtfohmbookjnkgaaGreatDoorM4
set_option linter.unusedVariables false
set_option linter.unusedSimpArgs false
set_option maxRecDepth 100000
set_option maxHeartbeats 4000000
namespace Go.Proofs.YtfohmbookjnkgaaGreatDoor.Mx
open Go Go.Proofs Ax
/-! ### strings.Join -/
noncomputable def L_join : List A → Option LR
  | [.d (.strs l), .d (.str sep)] => some ⟨[.d (.strs l), .d (.str sep)], [], 0, List.length (Lib.join l sep) ≤ 140737488355328 ∧ List.length l ≤ 140737488355328, .d (.str (Lib.join l sep)), [], 0, []⟩
  | _ => none
theorem ct_join : CtOk Tryz.prog 125 (lend [.strs, .keep] L_join) := lend_of fun xs_ r_ h hpre ρ ok w vs G hr hb => by
  unfold L_join at h
  split at h
  · rename_i l sep; simp only [Option.some.injEq] at h; subst h
    refine ⟨trivial, ?_⟩
    obtain ⟨u, v, rfl, h1, h2⟩ := RelL_2 hr
    obtain ⟨rfl, _⟩ := h2
    dsimp only at hpre
    obtain ⟨hlen, hn⟩ := hpre
    refine CallsTo.of_calls (enter_of Tryz.func125 (by kernel_rfl) (by kernel_rfl)) G rfl (v := strV (Lib.join l sep)) (fun w' => ⟨rfl, ?_⟩) ?_
    · simp only [SB]; omega
    by_cases h0 : 0 < l.length
    · obtain ⟨bk, o, c, e, hc, hk, _, hcell⟩ := strs_cells h1 h0
      subst e
      have em : (l.map fun s => (⟨s.toArray⟩ : ByteArray)).map (fun x => x.data.toList) = l := by simp [Function.comp_def]
      have := Tryz.strings_Join bk o c (l.map fun s => (⟨s.toArray⟩ : ByteArray)) ⟨sep.toArray⟩ w hcell (G.now.oklt bk hk) (by simpa using hn) (by simpa using hc) (by rw [em]; exact hlen)
      rw [em] at this
      simpa [strV] using this
    · have e0 : l = [] := List.eq_nil_of_length_eq_zero (by omega)
      subst e0
      obtain ⟨a, cp, e, h3, _⟩ := h1
      subst e
      refine Calls.mono (Any.strings_Join_none Tryz.lays156 Tryz.Builder_Extra_156 a cp ⟨sep.toArray⟩ w) fun e w' he => ?_
      obtain ⟨rfl, rfl⟩ := he
      exact ⟨rfl, Go.RowKit.Below.refl _ _⟩
  · simp at h
noncomputable def g_join : Nat → CE := gct 125 (lend [.strs, .keep] L_join) g_badrune
theorem go_join : GamOk Tryz.prog g_join := go_badrune.ct ct_join
/-! ### strconv.Itoa -/
noncomputable def L_itoa : List A → Option LR
  | [.d (.int .i64 n)] => some ⟨[.d (.int .i64 n)], [], 0, -9223372036854775808 ≤ n ∧ n ≤ 9223372036854775807, .d (.str (Lib.itoa n)), [], 0, []⟩
  | _ => none
theorem ct_itoa : CtOk Tryz.prog 74 (lend [] L_itoa) := lend_of fun xs_ r_ h hpre ρ ok w vs G hr hb => by
  unfold L_itoa at h
  split at h
  · rename_i n; simp only [Option.some.injEq] at h; subst h
    refine ⟨trivial, ?_⟩
    obtain ⟨u, rfl, h1⟩ := RelL_1 hr
    obtain rfl := h1
    dsimp only at hpre
    obtain ⟨h0, h1⟩ := hpre
    have htab : Lib.TabIs Tryz.prog w "internal/strconv.uint64pow10" .u64 Lib.pow10Tab := by
      obtain ⟨_, cs, t, fz, hb, rfl⟩ := G.gl 2 _ rfl
      have hg : Tryz.prog.globalNamed "internal/strconv.uint64pow10" = some 2 := by kernel_rfl
      unfold Lib.TabIs World.var?
      rw [hg]
      simp [hb, tab10]
    refine CallsTo.of_calls (enter_of Tryz.func74 (by kernel_rfl) (by kernel_rfl)) G rfl (v := strV (Lib.itoa n)) (fun w' => ⟨rfl, ?_⟩) ?_
    · have := Lib.itoa_length_le n h0 h1
      simp only [SB]; omega
    refine Calls.mono (Tryz.strconv_Itoa n h0 h1 w htab) fun e w' he => ?_
    obtain ⟨rfl, k, os, rfl⟩ := he
    exact ⟨rfl, below_grown _ _ _⟩
  · simp at h
noncomputable def g_itoa : Nat → CE := gct 74 (lend [] L_itoa) g_join
theorem go_itoa : GamOk Tryz.prog g_itoa := go_join.ct ct_itoa
/-! ### strings.ContainsFunc -/
noncomputable def L_cfunc : List A → Option LR
  | [.d (.str s), .func 158 []] => some ⟨[.d (.str s), .func 158 []], [], 0, True, .d (.bool (List.any s Ax.badB)), [], 0, []⟩
  | _ => none
theorem ct_cfunc : CtOk Tryz.prog 157 (lend [] L_cfunc) := lend_of fun xs_ r_ h hpre ρ ok w vs G hr hb => by
  unfold L_cfunc at h
  split at h
  · rename_i s; simp only [Option.some.injEq] at h; subst h
    refine ⟨trivial, ?_⟩
    obtain ⟨u, v, rfl, h1, h2⟩ := RelL_2 hr
    obtain ⟨rfl, _⟩ := h1
    obtain ⟨cap, rfl, hcap⟩ := h2
    have hc0 : cap = #[] := by
      have := RelL_len hcap
      simp at this
      exact Array.eq_empty_of_size_eq_zero (by omega)
    subst hc0
    refine CallsTo.of_calls (enter_of Tryz.func157 (by kernel_rfl) (by kernel_rfl)) G rfl (v := .bool (s.any badB)) (fun w' => rfl) ?_
    have key := Tryz.strings_ContainsFunc_grows 158 #[] (enter_of Tryz.func158 (by kernel_rfl) (by kernel_rfl)) (fun x => decide (x < 33) || decide (126 < x)) ⟨s.toArray⟩ w ?_
    · have e := idxFunc_any (p := fun x => decide (x < 33) || decide (126 < x)) (fun x hx => by simp; omega) s
      rw [e] at key
      exact key
    intro W x hx hW
    have G' := G.below hW
    refine Calls.mono (calls_pure ct_badrune (enter_of Tryz.func158 (by kernel_rfl) (by kernel_rfl)) (xs := [.d (.int .i32 (x : Int))]) rfl trivial rfl G' (vs := [.int .i32 (x : Int)]) fun ρ' _ => ⟨rfl, trivial⟩) fun e w' he => ?_
    obtain ⟨v, ok', rfl, hv, hb⟩ := he
    refine ⟨?_, hb⟩
    have hv : v = .bool (decide ((x : Int) < 33) || decide ((126 : Int) < x)) := hv
    rw [hv]
    have e1 : decide ((x : Int) < 33) = decide (x < 33) := by rw [Bool.eq_iff_iff]; simp; omega
    have e2 : decide ((126 : Int) < x) = decide (126 < x) := by rw [Bool.eq_iff_iff]; simp; omega
    rw [e1, e2]
  · simp at h
noncomputable def g_cfunc : Nat → CE := gct 157 (lend [] L_cfunc) g_itoa
theorem go_cfunc : GamOk Tryz.prog g_cfunc := go_itoa.ct ct_cfunc
/-! ### ostler/note.origin -/
noncomputable def L_origin : List A → Option LR
  | [.d (.str s)] => some ⟨[.d (.str s)], [], 0, True, .d (.bool (Ax.okOrigin s)), [], 0, []⟩
  | _ => none
noncomputable def a_origin (s : List UInt8) : Nat → Nat → Ann := fun f k => .unroll 0
def T_origin (s : List UInt8) : Prop :=
  (Ax.dP (!(decide (s = ([] : List UInt8)))) ((!(decide (s = ([] : List UInt8)))) && true) (Ax.dP (!(decide (s = ([] : List UInt8)))) ((!(decide (s = ([] : List UInt8)))) && true) (Ax.dP true (bif !(decide (s = ([] : List UInt8))) then (!(decide (s = ([] : List UInt8)))) else true) (Ax.dP (bif !(decide (s = ([] : List UInt8))) then (decide (((List.length s : Nat) : Int) ≤ (64 : Int))) else false) ((bif !(decide (s = ([] : List UInt8))) then (decide (((List.length s : Nat) : Int) ≤ (64 : Int))) else false) && true) (Ax.impT (bif !(decide (s = ([] : List UInt8))) then (decide (((List.length s : Nat) : Int) ≤ (64 : Int))) else false) (True) ∧ (Ax.dP (bif !(decide (s = ([] : List UInt8))) then (decide (((List.length s : Nat) : Int) ≤ (64 : Int))) else false) ((bif !(decide (s = ([] : List UInt8))) then (decide (((List.length s : Nat) : Int) ≤ (64 : Int))) else false) && true) (Ax.dP true (bif bif !(decide (s = ([] : List UInt8))) then (decide (((List.length s : Nat) : Int) ≤ (64 : Int))) else false then (bif !(decide (s = ([] : List UInt8))) then (decide (((List.length s : Nat) : Int) ≤ (64 : Int))) else false) else true) (((bif bif !(decide (s = ([] : List UInt8))) then (decide (((List.length s : Nat) : Int) ≤ (64 : Int))) else false then (!(List.any s Ax.badB)) else false) = (Ax.okOrigin s)) ∧ True))))))))
theorem n_origin (s : List UInt8) : afun { P := Tryz.prog, Γ := g_cfunc, ann := a_origin s } (inlN { P := Tryz.prog, Γ := g_cfunc, ann := a_origin s } 8) 124 Tryz.f124 [.d (.str s)] [] 0 (fun v_ h_ n_ k_ => conjL (weak 0 ⟨[(true, v_)], h_, n_, k_⟩ ⟨[(true, .d (.bool (Ax.okOrigin s)))], [], 0, []⟩) True) = T_origin s := by kernel_rfl
set_option maxHeartbeats 4000000 in
theorem v_origin (s : List UInt8) (hpre : True) : T_origin s := by
  unfold T_origin
  simp only [dP_iff, impT_iff, ifB_iff, Bool.and_eq_true, Bool.not_eq_true', decide_eq_true_eq, decide_eq_false_iff_not, true_and, and_true, imp_self, and_self, implies_true, true_implies, Bool.cond_true_left, Bool.cond_false_right, Bool.cond_true_right, Bool.cond_false_left, Bool.or_eq_true, Bool.not_eq_false', Bool.and_eq_false_imp, Bool.or_eq_false_iff, Bool.not_not, Ax.map_I, List.length_append, Ax.I_len, List.length_cons, List.length_nil, Ax.sameRec_self, Ax.rawP_1, Ax.rawP_2, Ax.failP_1, Ax.failP_2, Ax.e8P_1, Ax.e8P_2, Ax.txP_1, Ax.txP_2, Ax.endP_1, Ax.endP_2, Ax.tkP_1, Ax.tkP_2, Bool.true_eq_false, Bool.false_eq_true, imp_false]
  have e : decide ((s.length : Int) ≤ 64) = decide (s.length ≤ 64) := by rw [Bool.eq_iff_iff]; simp; omega
  refine ⟨Classical.em _, by by_cases h : s = [] <;> simp [h]; omega, ?_⟩
  rw [e]
  unfold okOrigin
  rw [Bool.and_assoc]
set_option maxHeartbeats 4000000 in
theorem ct_origin : CtOk Tryz.prog 124 (lend [] L_origin) := by
  refine lend_ct_g go_cfunc Tryz.checked.mixed Tryz.func124 (enter_of Tryz.func124 (by kernel_rfl) (by kernel_rfl)) ?_
  intro xs_ r_ h hpre
  unfold L_origin at h
  split at h
  · rename_i s; simp only [Option.some.injEq] at h; subst h
    refine ⟨a_origin s, 8, (.inl rfl), trivial, ?_⟩
    have h1 := v_origin s hpre
    rw [← n_origin s] at h1
    dsimp only
    assumption
  · simp at h
noncomputable def g_origin : Nat → CE := gct 124 (lend [] L_origin) g_cfunc
theorem go_origin : GamOk Tryz.prog g_origin := go_cfunc.ct ct_origin
/-! ### ostler/note.Text -/
noncomputable def L_ntext : List A → Option LR
  | [.agg [.d (.str org), .d (.int .i64 size), .d (.str root)]] => some ⟨[.agg [.d (.str org), .d (.int .i64 size), .d (.str root)]], [], 0, List.length root ≤ 1000000000, .tup [.d (.str (Ax.noteV org size root)), .d (.int .i64 (Ax.noteE org size root))], [], 0, []⟩
  | _ => none
noncomputable def a_ntext (org : List UInt8) (size : Int) (root : List UInt8) : Nat → Nat → Ann := fun f k => .unroll 0
def T_ntext (org : List UInt8) (size : Int) (root : List UInt8) : Prop :=
  (True ∧ (True ∧ (Ax.dP (!(!(Ax.okOrigin org))) ((!(!(Ax.okOrigin org))) && true) (Ax.dP (!(!(Ax.okOrigin org))) ((!(!(Ax.okOrigin org))) && true) (Ax.dP true (bif !(Ax.okOrigin org) then true else (!(!(Ax.okOrigin org)))) (Ax.dP (!(bif !(Ax.okOrigin org) then true else (decide (size < (0 : Int))))) ((!(bif !(Ax.okOrigin org) then true else (decide (size < (0 : Int))))) && true) (Ax.dP (!(bif !(Ax.okOrigin org) then true else (decide (size < (0 : Int))))) ((!(bif !(Ax.okOrigin org) then true else (decide (size < (0 : Int))))) && true) (Ax.dP true (bif bif !(Ax.okOrigin org) then true else (decide (size < (0 : Int))) then true else (!(bif !(Ax.okOrigin org) then true else (decide (size < (0 : Int)))))) (Ax.dP (!(bif bif !(Ax.okOrigin org) then true else (decide (size < (0 : Int))) then true else (decide ((1024 : Int) < size)))) ((!(bif bif !(Ax.okOrigin org) then true else (decide (size < (0 : Int))) then true else (decide ((1024 : Int) < size)))) && true) (Ax.dP (!(bif bif !(Ax.okOrigin org) then true else (decide (size < (0 : Int))) then true else (decide ((1024 : Int) < size)))) ((!(bif bif !(Ax.okOrigin org) then true else (decide (size < (0 : Int))) then true else (decide ((1024 : Int) < size)))) && true) (Ax.dP (!(bif bif !(Ax.okOrigin org) then true else (decide (size < (0 : Int))) then true else (decide ((1024 : Int) < size)))) ((!(bif bif !(Ax.okOrigin org) then true else (decide (size < (0 : Int))) then true else (decide ((1024 : Int) < size)))) && true) (Ax.dP true (bif bif bif !(Ax.okOrigin org) then true else (decide (size < (0 : Int))) then true else (decide ((1024 : Int) < size)) then true else (!(bif bif !(Ax.okOrigin org) then true else (decide (size < (0 : Int))) then true else (decide ((1024 : Int) < size))))) (Ax.ifB (bif bif bif !(Ax.okOrigin org) then true else (decide (size < (0 : Int))) then true else (decide ((1024 : Int) < size)) then true else (!(decide (((List.length root : Nat) : Int) = (32 : Int))))) ((([] : List UInt8) = (Ax.noteV org size root)) ∧ (((1 : Int) = (Ax.noteE org size root)) ∧ True)) ((-9223372036854775808 ≤ size ∧ size ≤ 9223372036854775807) ∧ ((List.length root ≤ 1000000000) ∧ (((5 : Nat) * 1 ≤ 16777216) ∧ ((((0 : Nat) + (5 : Nat) ≤ (5 : Nat)) ∧ List.length (Lib.join ([([111, 115, 116, 108, 101, 114, 32, 99, 104, 101, 99, 107, 112, 111, 105, 110, 116] : List UInt8), org, (Lib.itoa size), (Ax.hexS root), ([] : List UInt8)] : List (List UInt8)) ([10] : List UInt8)) ≤ 140737488355328 ∧ List.length ([([111, 115, 116, 108, 101, 114, 32, 99, 104, 101, 99, 107, 112, 111, 105, 110, 116] : List UInt8), org, (Lib.itoa size), (Ax.hexS root), ([] : List UInt8)] : List (List UInt8)) ≤ 140737488355328) ∧ (((Lib.join ([([111, 115, 116, 108, 101, 114, 32, 99, 104, 101, 99, 107, 112, 111, 105, 110, 116] : List UInt8), org, (Lib.itoa size), (Ax.hexS root), ([] : List UInt8)] : List (List UInt8)) ([10] : List UInt8)) = (Ax.noteV org size root)) ∧ (((0 : Int) = (Ax.noteE org size root)) ∧ True)))))))))))))))))))
theorem n_ntext (org : List UInt8) (size : Int) (root : List UInt8) : afun { P := Tryz.prog, Γ := g_origin, ann := a_ntext org size root } (inlN { P := Tryz.prog, Γ := g_origin, ann := a_ntext org size root } 8) 70 Tryz.f70 [.agg [.d (.str org), .d (.int .i64 size), .d (.str root)]] [] 0 (fun v_ h_ n_ k_ => conjL (weak 0 ⟨[(true, v_)], h_, n_, k_⟩ ⟨[(true, .tup [.d (.str (Ax.noteV org size root)), .d (.int .i64 (Ax.noteE org size root))])], [], 0, []⟩) True) = T_ntext org size root := by kernel_rfl
set_option maxHeartbeats 4000000 in
theorem v_ntext (org : List UInt8) (size : Int) (root : List UInt8) (hpre : List.length root ≤ 1000000000) : T_ntext org size root := by
  unfold T_ntext
  simp only [dP_iff, impT_iff, ifB_iff, Bool.and_eq_true, Bool.not_eq_true', decide_eq_true_eq, decide_eq_false_iff_not, true_and, and_true, imp_self, and_self, implies_true, true_implies, Bool.cond_true_left, Bool.cond_false_right, Bool.cond_true_right, Bool.cond_false_left, Bool.or_eq_true, Bool.not_eq_false', Bool.and_eq_false_imp, Bool.or_eq_false_iff, Bool.not_not, Ax.map_I, List.length_append, Ax.I_len, List.length_cons, List.length_nil, Ax.sameRec_self, Ax.rawP_1, Ax.rawP_2, Ax.failP_1, Ax.failP_2, Ax.e8P_1, Ax.e8P_2, Ax.txP_1, Ax.txP_2, Ax.endP_1, Ax.endP_2, Ax.tkP_1, Ax.tkP_2, Bool.true_eq_false, Bool.false_eq_true, imp_false]
  have hz := @noteE_zero org size root
  refine ⟨by cases okOrigin org <;> simp, by cases okOrigin org <;> simp; omega, by cases okOrigin org <;> simp; omega, fun h => ?_, fun h => ?_⟩
  · have h1 : ¬ noteE org size root = 0 := fun h' => by
      obtain ⟨a1, a2, a3, a4⟩ := hz.1 h'
      rw [a1] at h; simp at h; omega
    have h2 : noteE org size root = 1 := by unfold noteE at h1 ⊢; split <;> simp_all
    exact ⟨by rw [noteV, if_neg h1], h2.symm⟩
  · obtain ⟨⟨⟨a1, a2⟩, a3⟩, a4⟩ := h
    have h1 : noteE org size root = 0 := hz.2 ⟨a1, by omega, by omega, by omega⟩
    have h2 := hexS_len root
    have h3 := okOrigin_len a1
    have h4 := Lib.itoa_length_le size (by omega) (by omega)
    refine ⟨by omega, hpre, by omega, ⟨by omega, ?_, by omega⟩, ?_, h1.symm⟩
    · rw [join5]; simp; omega
    · rw [join5, noteV, if_pos h1]; rfl
set_option maxHeartbeats 4000000 in
theorem ct_ntext : CtOk Tryz.prog 70 (lend [] L_ntext) := by
  refine lend_ct_g go_origin Tryz.checked.mixed Tryz.func70 (enter_of Tryz.func70 (by kernel_rfl) (by kernel_rfl)) ?_
  intro xs_ r_ h hpre
  unfold L_ntext at h
  split at h
  · rename_i org size root; simp only [Option.some.injEq] at h; subst h
    refine ⟨a_ntext org size root, 8, (.inl rfl), trivial, ?_⟩
    have h1 := v_ntext org size root hpre
    rw [← n_ntext org size root] at h1
    dsimp only
    assumption
  · simp at h
noncomputable def g_ntext : Nat → CE := gct 70 (lend [] L_ntext) g_origin
theorem go_ntext : GamOk Tryz.prog g_ntext := go_origin.ct ct_ntext
end Go.Proofs.YtfohmbookjnkgaaGreatDoor.Mx
