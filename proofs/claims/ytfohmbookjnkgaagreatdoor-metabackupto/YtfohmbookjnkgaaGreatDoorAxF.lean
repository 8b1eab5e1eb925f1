/- Contracts from functions. Conditions: none; lemmas. -/
import Derived.Test.YtfohmbookjnkgaaGreatDoorAxE
import Derived.Eval
set_option linter.unusedVariables false
set_option linter.unusedSimpArgs false
namespace Ax
open Go
variable {C : Cfg} {inl : Inl}

theorem Good.none {ρ : Rho} {nx : Nat} {ok ok1 : Nat → Prop} {hp : Heap} {w : World} (g : Good ρ nx ok hp w) (h1 : ∀ b, ok1 b → b < w.heap.size) (h2 : ∀ b, ok b → ok1 b) : Good ρ 0 ok1 [] w :=
  ⟨g.gl.mono h2 (fun _ _ => rfl), fun n o h => by simp [hget] at h, fun ρ' _ => ⟨fun n m o o' b h => by simp [hget] at h, fun n o b h => by simp [hget] at h, fun n o b h => by simp [hget] at h, h1, fun n o h => by simp [hget] at h⟩⟩
theorem Own.none {ρ : Rho} {b : Nat} (h : Own ρ [] b) : False := by
  obtain ⟨n, o, h, _⟩ := h
  simp [hget] at h

/-- A call that leaves what is there, seen from its caller. -/
theorem Step.out {ρ ρ' : Rho} {nx nx' : Nat} {ok ok1 ok' ok2 : Nat → Prop} {hp hp' : Heap} {w w' : World} {kl : List Nat} (g : Good ρ nx ok hp w) (h : Step ρ 0 ok1 [] w ρ' nx' ok' hp' w' kl)
    (hm : ∀ b, ok b → ok2 b) (h2 : ∀ b, ok2 b → ok b ∨ (w.heap.size ≤ b ∧ b < w'.heap.size)) : Step ρ nx ok hp w ρ nx ok2 hp w' [] := by
  have hblk : ∀ b, b < w.heap.size → w'.heap[b]? = w.heap[b]? := fun b hb => h.evo.block b hb fun ho => Own.none ho
  refine ⟨⟨g.gl.mono hm (fun b hb => hblk b (g.now.oklt b hb)), g.bd, fun ρ1 ha => ?_⟩, ⟨h.evo.os, h.evo.tape, h.evo.output, h.evo.size, fun b hb _ => hblk b hb⟩, hm, Nat.le_refl _, fun _ _ _ => rfl, fun _ h => .inl h, fun b hb => (h2 b hb).imp id fun h => .inr h.1⟩
  have S := g.sat ρ1 ha
  refine ⟨S.inj, fun n o b h1 hb => Nat.lt_of_lt_of_le (S.lt n o b h1 hb) h.evo.size, fun n o b h1 hb hk => ?_, fun b hk => ?_, fun n o h1 => Holds_mono hm (fun b hb => hblk b (S.oklt b hb)) (fun b hb => hblk b (S.lt n o b h1 hb)) (S.obj n o h1)⟩
  · rcases h2 b hk with h3 | ⟨h3, _⟩
    · exact S.nok n o b h1 hb h3
    · have := S.lt n o b h1 hb; omega
  · rcases h2 b hk with h3 | ⟨_, h3⟩
    · exact Nat.lt_of_lt_of_le (S.oklt b h3) h.evo.size
    · exact h3

/-- A function of data: whatever it makes is seen as data. -/
theorem pure_ct (hC : CfgOk C) (hI : InlOk C inl) (hm : C.P.follows .mixedOrders = true) {f : Nat} {fn : Func} (hf : C.P.funcs[f]? = some fn) (hcall : ∀ (vs : Array Value) (w : World), (callFunc f vs).run C.P w = .ok (.enter f vs) w)
    {g : List A → Heap → Nat → Option R} (hg : ∀ as hp nx r, g as hp nx = some r → r.hp = hp ∧ r.nx = nx ∧ r.kill = [] ∧ bdL 0 as = true ∧ bdA 0 r.val = true ∧ (r.pre → afun C inl f fn as [] 0 fun x hp' _ _ => conjL (eqvA ⟨hp', []⟩ x r.val) True)) : CtOk C.P f g where
  pure as hp nx r h _ := let h1 := hg as hp nx r h; ⟨h1.1, h1.2.1, h1.2.2.1⟩
  frame as hp nx r h _ n _ _ := by rw [(hg as hp nx r h).1]
  calls as hp nx r h hpre ρ ok w vs G hr := by
    obtain ⟨e1, e2, e3, hb1, hb2, hrun⟩ := hg as hp nx r h
    have := afun_ok hC hI hm hf (hrun hpre) (G.none (ok1 := ok) (fun b hb => G.now.oklt b hb) (fun _ h => h)) (fun ρ' _ => RelL_bd 0 (fun m hm => by omega) as vs hb1 (hr ρ (Agree.refl _ _)))
    unfold CallsTo
    rw [hcall]
    refine Calls.mono this fun e w' he => ?_
    cases e with
    | returned v =>
      obtain ⟨x, hp', nx', kl, hK, ρ', ok', hst, hv⟩ := he
      obtain ⟨hK, _⟩ := conjL_mem hK
      rw [e1, e2, e3]
      let ok2 : Nat → Prop := fun b => ok' b ∨ ∃ n o, hget hp' n = some o ∧ (ρ' n).b = some b
      have hV : VwOk ρ' ok' ok2 hp' ⟨hp', []⟩ := ⟨fun n o h => h, fun b h => .inl h, fun n o b h1 h2 => .inr ⟨n, o, h1, h2⟩, fun n h => by simp at h⟩
      have hres := eqvA_ok hst.good.now hV x r.val v hK hv.now
      refine ⟨ρ, ok2, hst.out G (fun b hb => .inl (hst.okm b hb)) fun b hb => ?_, fun ρ1 _ => Rel_bd 0 (fun m hm => by omega) _ _ hb2 hres⟩
      rcases hb with hb | ⟨n, o, h1, h2⟩
      · rcases hst.oko b hb with h3 | h3 | h3
        · exact .inl h3
        · exact (Own.none h3).elim
        · exact .inr ⟨h3, hst.good.now.oklt b hb⟩
      · rcases hst.org b ⟨n, o, h1, h2⟩ with h3 | h3
        · exact (Own.none h3).elim
        · exact .inr ⟨h3, hst.good.now.lt n o b h1 h2⟩
    | panicked _ => exact he.elim
    | outgrown => exact he.elim

/-- Scalars: nothing of memory in them. -/
def scal : A → Bool
  | .d (.bool _) => true
  | .d (.int _ _) => true
  | .d (.str _) => true
  | .tup l => l.all fun x => match x with
    | .d (.bool _) => true
    | .d (.int _ _) => true
    | .d (.str _) => true
    | _ => false
  | _ => false
theorem scal_rel {ρ ρ' : Rho} {ok ok' : Nat → Prop} {w w' : World} {x : A} {v : Value} (h : scal x = true) (hr : Rel ρ ok w x v) : Rel ρ' ok' w' x v := by
  have one : ∀ (x : A) (v : Value), (match x with
    | .d (.bool _) => true
    | .d (.int _ _) => true
    | .d (.str _) => true
    | _ => false) = true → Rel ρ ok w x v → Rel ρ' ok' w' x v := fun x v h hr => by
    split at h <;> first | exact hr | simp at h
  cases x with
  | d y => exact one _ v (by cases y <;> first | rfl | simp [scal] at h) hr
  | tup l =>
    obtain ⟨vs, rfl, hr⟩ := hr
    refine ⟨vs, rfl, ?_⟩
    simp only [scal] at h
    have key : ∀ (l : List A) (us : List Value), (l.all fun x => match x with
      | .d (.bool _) => true
      | .d (.int _ _) => true
      | .d (.str _) => true
      | _ => false) = true → RelL ρ ok w l us → RelL ρ' ok' w' l us := by
      intro l
      induction l with
      | nil => intro us _ hr; cases us with
        | nil => exact trivial
        | cons _ _ => exact hr.elim
      | cons x r ih => intro us h hr; cases us with
        | nil => exact hr.elim
        | cons u us =>
          rw [List.all_cons, Bool.and_eq_true] at h
          exact ⟨one x u h.1 hr.1, ih us h.2 hr.2⟩
    exact key l _ h hr
  | _ => simp [scal] at h

/-- A function of data that answers with scalars: its arguments may be lent. -/
theorem lent_ct (hC : CfgOk C) (hI : InlOk C inl) (hm : C.P.follows .mixedOrders = true) {f : Nat} {fn : Func} (hf : C.P.funcs[f]? = some fn) (hcall : ∀ (vs : Array Value) (w : World), (callFunc f vs).run C.P w = .ok (.enter f vs) w)
    {g : List A → Heap → Nat → Option R} (hg : ∀ as hp nx r, g as hp nx = some r → r.hp = hp ∧ r.nx = nx ∧ r.kill = [] ∧ scal r.val = true ∧ (r.pre → ∃ as', (∀ p ∈ eqvL ⟨hp, []⟩ as as', p) ∧ bdL 0 as' = true ∧ afun C inl f fn as' [] 0 fun x _ _ _ => x = r.val)) : CtOk C.P f g where
  pure as hp nx r h _ := let h1 := hg as hp nx r h; ⟨h1.1, h1.2.1, h1.2.2.1⟩
  frame as hp nx r h _ n _ _ := by rw [(hg as hp nx r h).1]
  calls as hp nx r h hpre ρ ok w vs G hr := by
    obtain ⟨e1, e2, e3, hsc, hrun⟩ := hg as hp nx r h
    obtain ⟨as', hv, hb1, hrun⟩ := hrun hpre
    let ok1 : Nat → Prop := fun b => ok b ∨ ∃ n o, hget hp n = some o ∧ (ρ n).b = some b
    have hV : VwOk ρ ok ok1 hp ⟨hp, []⟩ := ⟨fun n o h => h, fun b h => .inl h, fun n o b h1 h2 => .inr ⟨n, o, h1, h2⟩, fun n h => by simp at h⟩
    have hr1 := eqvL_ok G.now hV as as' vs hv (hr ρ (Agree.refl _ _))
    have := afun_ok hC hI hm hf hrun (G.none (ok1 := ok1) (fun b hb => by
      rcases hb with hb | ⟨n, o, h1, h2⟩
      · exact G.now.oklt b hb
      · exact G.now.lt n o b h1 h2) (fun b hb => .inl hb)) (fun ρ' _ => RelL_bd 0 (fun m hm => by omega) as' vs hb1 hr1)
    unfold CallsTo
    rw [hcall]
    refine Calls.mono this fun e w' he => ?_
    cases e with
    | returned v =>
      obtain ⟨x, hp', nx', kl, hK, ρ', ok', hst, hv⟩ := he
      rw [e1, e2, e3]
      refine ⟨ρ, ok, hst.out G (fun _ h => h) fun b hb => .inl hb, fun ρ1 _ => scal_rel hsc (by rw [← hK]; exact hv.now)⟩
    | panicked _ => exact he.elim
    | outgrown => exact he.elim
end Ax

set_option linter.unusedVariables false
set_option linter.unusedSimpArgs false
namespace Ax
open Go
variable {C : Cfg} {inl : Inl}

/-! ### names moved up -/
mutual
def upA (k : Nat) : A → A
  | .sl n o l => .sl (n + k) o l
  | .pel n i j => .pel (n + k) i j
  | .ptr n o => .ptr (n + k) o
  | .mp n => .mp (n + k)
  | .agg l => .agg (upL k l)
  | .tup l => .tup (upL k l)
  | .func f l => .func f (upL k l)
  | .iface t v => .iface t (upA k v)
  | x => x
def upL (k : Nat) : List A → List A
  | [] => []
  | x :: r => upA k x :: upL k r
end
def upO (k : Nat) : O → O
  | .cells t l => .cells t (upL k l)
  | .vals t m l => .vals t m (upL k l)
  | o => o
def upHp (k : Nat) (hp : Heap) : Heap → Heap
  | [] => hp
  | (n, o) :: r => (n + k, upO k o) :: upHp k hp r
theorem upL_len (k : Nat) : ∀ l : List A, (upL k l).length = l.length
  | [] => rfl
  | _ :: r => by simp [upL, upL_len k r]
mutual
theorem Rel_up {ρ ρ' : Rho} {ok : Nat → Prop} {w : World} {k : Nat} (h : ∀ n, ρ' (n + k) = ρ n) : ∀ (x : A) (v : Value), Rel ρ ok w x v → Rel ρ' ok w (upA k x) v
  | .d x, _, h => h
  | .nilptr, _, h => h
  | .nilsl, _, h => h
  | .niliface, _, h => h
  | .nilfunc, _, h => h
  | .nilmap, _, h => h
  | .ptr n o, v, hr => by simp only [upA, Rel] at hr ⊢; rw [h]; exact hr
  | .pel n i j, v, hr => by simp only [upA, Rel] at hr ⊢; rw [h]; exact hr
  | .dpt x i j, _, h => h
  | .sl n o l, v, hr => by simp only [upA, Rel] at hr ⊢; rw [h]; exact hr
  | .func f l, v, ⟨vs, e, hr⟩ => ⟨vs, e, RelL_up h l _ hr⟩
  | .iface t x, v, ⟨u, e, hr⟩ => ⟨u, e, Rel_up h x u hr⟩
  | .mp n, v, hr => by simp only [upA, Rel] at hr ⊢; rw [h]; exact hr
  | .agg l, v, ⟨vs, e, hr, ho⟩ => ⟨vs, e, RelL_up h l _ hr, ho⟩
  | .tup l, v, ⟨vs, e, hr⟩ => ⟨vs, e, RelL_up h l _ hr⟩
  | .any, _, _ => trivial
theorem RelL_up {ρ ρ' : Rho} {ok : Nat → Prop} {w : World} {k : Nat} (h : ∀ n, ρ' (n + k) = ρ n) : ∀ (x : List A) (v : List Value), RelL ρ ok w x v → RelL ρ' ok w (upL k x) v
  | [], [], _ => trivial
  | x :: r, v :: s, hr => ⟨Rel_up h x v hr.1, RelL_up h r s hr.2⟩
  | [], _ :: _, hr => hr.elim
  | _ :: _, [], hr => hr.elim
end
theorem Holds_up {ρ ρ' : Rho} {ok : Nat → Prop} {w : World} {k : Nat} (h : ∀ n, ρ' (n + k) = ρ n) {n : Nat} {o : O} (hr : Holds ρ ok w n o) : Holds ρ' ok w (n + k) (upO k o) := by
  cases o with
  | cells t l =>
    obtain ⟨b, arr, fz, h1, h2, h3, h4, h5⟩ := hr
    exact ⟨b, arr, fz, by rw [h]; exact h1, h2, h3, RelL_up h l _ h4, h5⟩
  | row t x => simp only [upO, Holds, h]; exact hr
  | vals t m l =>
    obtain ⟨b, arr, fz, h1, h2, h3, h4, h5, h6, h7, h8⟩ := hr
    exact ⟨b, arr, fz, by rw [h]; exact h1, by rw [h]; exact h2, h3, h4, by rw [h]; exact h5, by rw [upL_len]; exact h6, by rw [upL_len]; exact RelL_up h l _ h7, by rw [upL_len]; exact h8⟩
theorem hget_upHp {k : Nat} {hp : Heap} : ∀ (l : Heap) (n : Nat) (o : O), hget (upHp k hp l) n = some o → (∃ m o', n = m + k ∧ hget l m = some o' ∧ o = upO k o') ∨ hget hp n = some o
  | [], n, o, h => .inr h
  | (m, o1) :: r, n, o, h => by
    simp only [upHp, hget] at h
    cases e : Nat.beq (m + k) n with
    | true =>
      rw [e] at h
      simp at h; subst h
      exact .inl ⟨m, o1, (Nat.eq_of_beq_eq_true e).symm, by simp [hget, Nat.beq_refl], rfl⟩
    | false =>
      rw [e] at h
      rcases hget_upHp r n o h with ⟨m', o', e1, e2, e3⟩ | h1
      · refine .inl ⟨m', o', e1, ?_, e3⟩
        simp only [hget]
        have : Nat.beq m m' = false := nbeq_ne (fun e' => by subst e'; rw [e1, Nat.beq_refl] at e; simp at e)
        rw [this]; exact e2
      · exact .inr h1
theorem hget_upHp_old {k : Nat} {hp : Heap} {n : Nat} (hn : n < k) : ∀ (l : Heap), hget (upHp k hp l) n = hget hp n
  | [] => rfl
  | (m, o1) :: r => by
    simp only [upHp, hget]
    rw [nbeq_ne (by omega)]
    exact hget_upHp_old hn r

/-- A call that began with no memory of its own, seen from its caller: its memory is new. -/
theorem After.up {ρ : Rho} {nx : Nat} {ok : Nat → Prop} {hp hp0 : Heap} {w w' : World} {x0 : A} {nx0 : Nat} {kl : List Nat} {v : Value} (g : Good ρ nx ok hp w) (h : After ρ 0 ok [] w x0 hp0 nx0 kl v w') :
    After ρ nx ok hp w (upA nx x0) (upHp nx hp hp0) (nx0 + nx) [] v w' := by
  obtain ⟨ρ2, ok2, hst, hv⟩ := h
  let ρ3 : Rho := fun n => if n < nx then ρ n else ρ2 (n - nx)
  have hblk : ∀ b, b < w.heap.size → w'.heap[b]? = w.heap[b]? := fun b hb => hst.evo.block b hb fun ho => Own.none ho
  have old3 : ∀ n, n < nx → ρ3 n = ρ n := fun n hn => if_pos hn
  have new3 : ∀ n, ρ3 (n + nx) = ρ2 n := fun n => by
    show (if n + nx < nx then ρ (n + nx) else ρ2 (n + nx - nx)) = ρ2 n
    rw [if_neg (by omega)]; simp
  have hge : ∀ n o b, hget hp0 n = some o → (ρ2 n).b = some b → w.heap.size ≤ b := fun n o b h1 h2 => (hst.org b ⟨n, o, h1, h2⟩).elim (fun h => (Own.none h).elim) id
  have hok : ∀ b, ok2 b → ok b ∨ w.heap.size ≤ b := fun b hb => by
    rcases hst.oko b hb with h | h | h
    · exact .inl h
    · exact (Own.none h).elim
    · exact .inr h
  refine ⟨ρ3, ok2, ⟨⟨hst.good.gl, fun n o h => ?_, fun ρ4 ha => ?_⟩, ⟨hst.evo.os, hst.evo.tape, hst.evo.output, hst.evo.size, fun b hb _ => hblk b hb⟩, hst.okm, by omega, fun n hn _ => old3 n hn, fun b ⟨n, o, h1, h2⟩ => ?_, fun b hb => (hok b hb).imp id .inr⟩, fun ρ4 ha => ?_⟩
  · rcases hget_upHp hp0 n o h with ⟨m, o', rfl, h1, _⟩ | h1
    · have := hst.good.bd m o' h1; omega
    · have := g.bd n o h1; omega
  · let ρl : Rho := fun n => ρ4 (n + nx)
    have hl : Agree nx0 ρ2 ρl := fun n hn => (ha (n + nx) (by omega)).trans (new3 n)
    have S0 := hst.good.sat ρl hl
    have S1 := g.sat ρ4 fun n hn => (ha n (by omega)).trans (old3 n hn)
    have loc : ∀ m o' b, hget hp0 m = some o' → (ρ4 (m + nx)).b = some b → w.heap.size ≤ b := fun m o' b h1 h2 => hge m o' b h1 (by rw [← hl m (hst.good.bd m o' h1)]; exact h2)
    refine ⟨fun n m o1 o2 b h1 h2 h3 h4 => ?_, fun n o b h1 h2 => ?_, fun n o b h1 h2 hk => ?_, S0.oklt, fun n o h1 => ?_⟩
    · rcases hget_upHp hp0 n o1 h1 with ⟨n', o1', rfl, p1, _⟩ | p1 <;> rcases hget_upHp hp0 m o2 h2 with ⟨m', o2', rfl, p2, _⟩ | p2
      · have := S0.inj n' m' o1' o2' b p1 p2 h3 h4; omega
      · have q1 := loc n' o1' b p1 h3; have q2 := S1.lt m o2 b p2 h4; omega
      · have q1 := loc m' o2' b p2 h4; have q2 := S1.lt n o1 b p1 h3; omega
      · exact S1.inj n m o1 o2 b p1 p2 h3 h4
    · rcases hget_upHp hp0 n o h1 with ⟨n', o1', rfl, p1, _⟩ | p1
      · exact S0.lt n' o1' b p1 h2
      · exact Nat.lt_of_lt_of_le (S1.lt n o b p1 h2) hst.evo.size
    · rcases hget_upHp hp0 n o h1 with ⟨n', o1', rfl, p1, _⟩ | p1
      · exact S0.nok n' o1' b p1 h2 hk
      · have q := S1.lt n o b p1 h2
        rcases hok b hk with h | h
        · exact S1.nok n o b p1 h2 h
        · omega
    · rcases hget_upHp hp0 n o h1 with ⟨n', o1', rfl, p1, rfl⟩ | p1
      · exact Holds_up (ρ := ρl) (fun _ => rfl) (S0.obj n' o1' p1)
      · exact Holds_mono hst.okm (fun b hb => hblk b (S1.oklt b hb)) (fun b hb => hblk b (S1.lt n o b p1 hb)) (S1.obj n o p1)
  · rcases hget_upHp hp0 n o h1 with ⟨n', o1', rfl, p1, _⟩ | p1
    · rw [new3] at h2; exact .inr (hge n' o1' b p1 h2)
    · rw [old3 n (g.bd n o p1)] at h2; exact .inl ⟨n, o, p1, h2⟩
  · have hl : Agree nx0 ρ2 (fun n => ρ4 (n + nx)) := fun n hn => (ha (n + nx) (by omega)).trans (new3 n)
    exact Rel_up (fun _ => rfl) _ _ (hv _ hl)

/-- A function of data whose answer is new memory. -/
theorem fresh_ct (hC : CfgOk C) (hI : InlOk C inl) (hm : C.P.follows .mixedOrders = true) {f : Nat} {fn : Func} (hf : C.P.funcs[f]? = some fn) (hcall : ∀ (vs : Array Value) (w : World), (callFunc f vs).run C.P w = .ok (.enter f vs) w)
    {g : List A → Heap → Nat → Option R} (hg : ∀ as hp nx r, g as hp nx = some r → r.eff = true ∧ bdL 0 as = true ∧ ∃ x0 hp0 nx0, r.val = upA nx x0 ∧ r.hp = upHp nx hp hp0 ∧ r.nx = nx0 + nx ∧ r.kill = [] ∧
      (r.pre → afun C inl f fn as [] 0 fun x hp' nx' kl => conjL (weak 0 ⟨[(true, x)], hp', nx', kl⟩ ⟨[(true, x0)], hp0, nx0, kl⟩) True)) : CtOk C.P f g where
  pure as hp nx r h he := by rw [(hg as hp nx r h).1] at he; simp at he
  frame as hp nx r h _ n hn _ := by
    obtain ⟨_, _, x0, hp0, nx0, _, e2, _⟩ := hg as hp nx r h
    rw [e2]; exact hget_upHp_old hn hp0
  calls as hp nx r h hpre ρ ok w vs G hr := by
    obtain ⟨_, hb1, x0, hp0, nx0, e1, e2, e3, e4, hrun⟩ := hg as hp nx r h
    have := afun_ok hC hI hm hf (hrun hpre) (G.none (ok1 := ok) (fun b hb => G.now.oklt b hb) (fun _ h => h)) (fun ρ' _ => RelL_bd 0 (fun m hm => by omega) as vs hb1 (hr ρ (Agree.refl _ _)))
    unfold CallsTo
    rw [hcall]
    refine Calls.mono this fun e w' he => ?_
    cases e with
    | returned v =>
      obtain ⟨x, hp', nx', kl, hK, ρ', ok', hst, hv⟩ := he
      obtain ⟨hK, _⟩ := conjL_mem hK
      rw [e1, e2, e3, e4]
      let B : Base := ⟨ρ, 0, ok, [], w⟩
      have M : Mach B ρ' ok' ⟨[(true, x)], hp', nx', kl⟩ ⟨#[v], []⟩ w' := ⟨hst, fun ρ1 ha => ⟨fun _ => hv ρ1 ha, by simp, trivial⟩, rfl⟩
      obtain ⟨ρ2, ok2, M2⟩ := weak_ok (B := B) hK M
      exact After.up G ⟨ρ2, ok2, M2.step, fun ρ1 ha => (M2.fr ρ1 ha).1 rfl⟩
    | panicked _ => exact he.elim
    | outgrown => exact he.elim
end Ax

set_option linter.unusedVariables false
set_option linter.unusedSimpArgs false
namespace Ax
open Go
variable {C : Cfg} {inl : Inl}

/-! ### names moved, or lost -/
mutual
def mvA (f : Nat → Option Nat) : A → A
  | .sl n o l => match f n with
    | some m => .sl m o l
    | none => .any
  | .pel n i j => match f n with
    | some m => .pel m i j
    | none => .any
  | .ptr n o => match f n with
    | some m => .ptr m o
    | none => .any
  | .mp n => match f n with
    | some m => .mp m
    | none => .any
  | .agg l => .agg (mvL f l)
  | .tup l => .tup (mvL f l)
  | .func g l => .func g (mvL f l)
  | .iface t v => .iface t (mvA f v)
  | x => x
def mvL (f : Nat → Option Nat) : List A → List A
  | [] => []
  | x :: r => mvA f x :: mvL f r
end
def mvO (f : Nat → Option Nat) : O → O
  | .cells t l => .cells t (mvL f l)
  | .vals t m l => .vals t m (mvL f l)
  | o => o
theorem mvL_len (f : Nat → Option Nat) : ∀ l : List A, (mvL f l).length = l.length
  | [] => rfl
  | _ :: r => by simp [mvL, mvL_len f r]
mutual
theorem Rel_mv {ρ ρ' : Rho} {ok : Nat → Prop} {w : World} {f : Nat → Option Nat} (h : ∀ n m, f n = some m → ρ' m = ρ n) : ∀ (x : A) (v : Value), Rel ρ ok w x v → Rel ρ' ok w (mvA f x) v
  | .d x, _, h => h
  | .nilptr, _, h => h
  | .nilsl, _, h => h
  | .niliface, _, h => h
  | .nilfunc, _, h => h
  | .nilmap, _, h => h
  | .ptr n o, v, hr => by
    simp only [mvA]
    split
    · rename_i m e; simp only [Rel] at hr ⊢; rw [h n m e]; exact hr
    · trivial
  | .pel n i j, v, hr => by
    simp only [mvA]
    split
    · rename_i m e; simp only [Rel] at hr ⊢; rw [h n m e]; exact hr
    · trivial
  | .dpt x i j, _, h => h
  | .sl n o l, v, hr => by
    simp only [mvA]
    split
    · rename_i m e; simp only [Rel] at hr ⊢; rw [h n m e]; exact hr
    · trivial
  | .func g l, v, ⟨vs, e, hr⟩ => ⟨vs, e, RelL_mv h l _ hr⟩
  | .iface t x, v, ⟨u, e, hr⟩ => ⟨u, e, Rel_mv h x u hr⟩
  | .mp n, v, hr => by
    simp only [mvA]
    split
    · rename_i m e; simp only [Rel] at hr ⊢; rw [h n m e]; exact hr
    · trivial
  | .agg l, v, ⟨vs, e, hr, ho⟩ => ⟨vs, e, RelL_mv h l _ hr, ho⟩
  | .tup l, v, ⟨vs, e, hr⟩ => ⟨vs, e, RelL_mv h l _ hr⟩
  | .any, _, _ => trivial
theorem RelL_mv {ρ ρ' : Rho} {ok : Nat → Prop} {w : World} {f : Nat → Option Nat} (h : ∀ n m, f n = some m → ρ' m = ρ n) : ∀ (x : List A) (v : List Value), RelL ρ ok w x v → RelL ρ' ok w (mvL f x) v
  | [], [], _ => trivial
  | x :: r, v :: s, hr => ⟨Rel_mv h x v hr.1, RelL_mv h r s hr.2⟩
  | [], _ :: _, hr => hr.elim
  | _ :: _, [], hr => hr.elim
end
theorem Holds_mv {ρ ρ' : Rho} {ok : Nat → Prop} {w : World} {f : Nat → Option Nat} (h : ∀ n m, f n = some m → ρ' m = ρ n) {n m : Nat} (hm : ρ' m = ρ n) {o : O} (hr : Holds ρ ok w n o) : Holds ρ' ok w m (mvO f o) := by
  cases o with
  | cells t l =>
    obtain ⟨b, arr, fz, h1, h2, h3, h4, h5⟩ := hr
    exact ⟨b, arr, fz, by rw [hm]; exact h1, h2, h3, RelL_mv h l _ h4, h5⟩
  | row t x => simp only [mvO, Holds, hm]; exact hr
  | vals t m l =>
    obtain ⟨b, arr, fz, h1, h2, h3, h4, h5, h6, h7, h8⟩ := hr
    exact ⟨b, arr, fz, by rw [hm]; exact h1, by rw [hm]; exact h2, h3, h4, by rw [hm]; exact h5, by rw [mvL_len]; exact h6, by rw [mvL_len]; exact RelL_mv h l _ h7, by rw [mvL_len]; exact h8⟩
mutual
theorem mvA_bd {f : Nat → Option Nat} : ∀ (x : A), bdA 0 x = true → mvA f x = x
  | .d x, _ => rfl
  | .nilptr, _ => rfl
  | .nilsl, _ => rfl
  | .niliface, _ => rfl
  | .nilfunc, _ => rfl
  | .nilmap, _ => rfl
  | .ptr n o, h => by simp [bdA, Nat.blt] at h
  | .pel n i j, h => by simp [bdA, Nat.blt] at h
  | .dpt x i j, _ => rfl
  | .sl n o l, h => by simp [bdA, Nat.blt] at h
  | .func g l, h => by simp only [bdA] at h; simp only [mvA, mvL_bd l h]
  | .iface t x, h => by simp only [bdA] at h; simp only [mvA, mvA_bd x h]
  | .mp n, h => by simp [bdA, Nat.blt] at h
  | .agg l, h => by simp only [bdA] at h; simp only [mvA, mvL_bd l h]
  | .tup l, h => by simp only [bdA] at h; simp only [mvA, mvL_bd l h]
  | .any, _ => rfl
theorem mvL_bd {f : Nat → Option Nat} : ∀ (x : List A), bdL 0 x = true → mvL f x = x
  | [], _ => rfl
  | x :: r, h => by simp only [bdL, Bool.and_eq_true] at h; simp only [mvL, mvA_bd x h.1, mvL_bd r h.2]
end

/-! ### what a call can see -/
def ix : List Nat → Nat → Option Nat
  | [], _ => none
  | p :: r, n => bif Nat.beq p n then some 0 else (match ix r n with
    | some m => some (m + 1)
    | none => none)
mutual
def nmsA : A → List Nat
  | .sl n _ _ => [n]
  | .pel n _ _ => [n]
  | .ptr n _ => [n]
  | .mp n => [n]
  | .agg l => nmsL l
  | .tup l => nmsL l
  | .func _ l => nmsL l
  | .iface _ v => nmsA v
  | _ => []
def nmsL : List A → List Nat
  | [] => []
  | x :: r => nmsA x ++ nmsL r
end
def nmsO : O → List Nat
  | .cells _ l => nmsL l
  | .vals _ _ l => nmsL l
  | .row _ _ => []
def addNm : List Nat → List Nat → List Nat
  | ps, [] => ps
  | ps, n :: r => bif ps.any (Nat.beq n) then addNm ps r else addNm (ps ++ [n]) r
def reach (hp : Heap) : Nat → Nat → List Nat → List Nat
  | 0, _, ps => ps
  | d + 1, i, ps => match ps[i]? with
    | none => ps
    | some n => match hget hp n with
      | some o => reach hp d (i + 1) (addNm ps (nmsO o))
      | none => reach hp d (i + 1) ps
def nodupB : List Nat → Bool
  | [] => true
  | n :: r => !(r.any (Nat.beq n)) && nodupB r
def lochp (hp : Heap) (f : Nat → Option Nat) : Nat → List Nat → Heap
  | _, [] => []
  | i, n :: r => match hget hp n with
    | some o => (i, mvO f o) :: lochp hp f (i + 1) r
    | none => lochp hp f (i + 1) r
def gname (ps : List Nat) (nx m : Nat) : Nat := match ps[m]? with
  | some n => n
  | none => nx + (m - ps.length)
def gmv (ps : List Nat) (nx m : Nat) : Option Nat := some (gname ps nx m)
def globhp (ps : List Nat) (nx : Nat) (rest : Heap) : Heap → Heap
  | [] => rest
  | (m, o) :: r => (gname ps nx m, mvO (gmv ps nx) o) :: globhp ps nx rest r
def killsO (l : List Nat) (o : O) : O := l.foldl (fun o n => killO n o) o
def resthp (ps kill : List Nat) : Heap → Heap
  | [] => []
  | (n, o) :: r => bif ps.any (Nat.beq n) then resthp ps kill r else (n, killsO kill o) :: resthp ps kill r

/-- What a run comes to, in its own names: what it begins with (weakened), what it needs, what it answers. -/
structure LR where
  as : List A
  hp : Heap
  nx : Nat
  pre : Prop
  val : A
  hp' : Heap
  nx' : Nat
  kill : List Nat
def own2 (hp : Heap) (nx : Nat) (ps : List Nat) (r : LR) : Option R :=
  match ps.isEmpty && r.hp'.isEmpty && Nat.beq r.nx' 0 && r.kill.isEmpty && bdA 0 r.val with
  | true => some ⟨r.pre, r.val, hp, nx, [], [], false⟩
  | false => some ⟨r.pre, mvA (gmv ps nx) r.val, globhp ps nx (resthp ps (r.kill.map (gname ps nx)) hp) r.hp', nx + (r.nx' - ps.length), r.kill.map (gname ps nx), ps, true⟩
def own1 (L : List A → Heap → Nat → Option LR) (as : List A) (hp : Heap) (nx : Nat) (ps : List Nat) : Option R :=
  bif nodupB ps && ps.all (fun n => Nat.blt n nx) then (match L (mvL (ix ps) as) (lochp hp (ix ps) 0 ps) ps.length with
    | some r => own2 hp nx ps r
    | none => none) else none
def own (L : List A → Heap → Nat → Option LR) (as : List A) (hp : Heap) (nx : Nat) : Option R :=
  own1 L as hp nx (reach hp 64 0 (addNm [] (nmsL as)))

/-! ### lemmas -/
theorem ix_some : ∀ {ps : List Nat} {n m : Nat}, ix ps n = some m → ps[m]? = some n
  | [], _, _, h => by simp [ix] at h
  | p :: r, n, m, h => by
    simp only [ix] at h
    cases e : Nat.beq p n with
    | true => rw [e] at h; simp at h; subst h; simp [Nat.eq_of_beq_eq_true e]
    | false =>
      rw [e] at h
      simp only [cond_false] at h
      split at h
      · rename_i m' h'; simp at h; subst h; simpa using ix_some h'
      · simp at h
theorem ix_none : ∀ {ps : List Nat} {n : Nat}, ix ps n = none → n ∉ ps
  | [], _, _ => by simp
  | p :: r, n, h => by
    simp only [ix] at h
    cases e : Nat.beq p n with
    | true => rw [e] at h; simp at h
    | false =>
      rw [e] at h
      simp only [cond_false] at h
      split at h
      · simp at h
      · rename_i h'
        have h1 := ix_none h'
        have h2 : n ≠ p := fun e' => by subst e'; rw [Nat.beq_refl] at e; simp at e
        simp [h1, h2]
theorem anyb_mem {ps : List Nat} {n : Nat} : ps.any (Nat.beq n) = true ↔ n ∈ ps := by
  rw [List.any_eq_true]
  constructor
  · rintro ⟨m, hm, e⟩; rw [Nat.eq_of_beq_eq_true e]; exact hm
  · intro h; exact ⟨n, h, Nat.beq_refl n⟩
theorem ix_get : ∀ {ps : List Nat}, nodupB ps = true → ∀ {m n : Nat}, ps[m]? = some n → ix ps n = some m
  | [], _, m, n, h => by simp at h
  | p :: r, hd, m, n, h => by
    simp only [nodupB, Bool.and_eq_true] at hd
    obtain ⟨h1, h2⟩ := hd
    have h1 : p ∉ r := fun hm => by rw [anyb_mem.2 hm] at h1; simp at h1
    cases m with
    | zero => simp at h; subst h; simp [ix, Nat.beq_refl]
    | succ m =>
      simp at h
      have hn : n ∈ r := List.mem_of_getElem? h
      have : Nat.beq p n = false := nbeq_ne (fun e => by subst e; exact h1 hn)
      simp only [ix, this, cond_false, ix_get h2 h]
theorem hget_lochp {hp : Heap} {f : Nat → Option Nat} : ∀ (ps : List Nat) (j i : Nat) (o : O), hget (lochp hp f j ps) i = some o → ∃ n o', j ≤ i ∧ ps[i - j]? = some n ∧ hget hp n = some o' ∧ o = mvO f o'
  | [], j, i, o, h => by simp [lochp, hget] at h
  | p :: r, j, i, o, h => by
    have next : hget (lochp hp f (j + 1) r) i = some o → ∃ n o', j ≤ i ∧ (p :: r)[i - j]? = some n ∧ hget hp n = some o' ∧ o = mvO f o' := fun h => by
      obtain ⟨n, o', h1, h2, h3, h4⟩ := hget_lochp r (j + 1) i o h
      refine ⟨n, o', by omega, ?_, h3, h4⟩
      have : i - j = (i - (j + 1)) + 1 := by omega
      rw [this]; simpa using h2
    simp only [lochp] at h
    split at h
    · rename_i o1 h1
      simp only [hget] at h
      cases e : Nat.beq j i with
      | true =>
        rw [e] at h; simp at h; subst h
        have := Nat.eq_of_beq_eq_true e; subst this
        exact ⟨p, o1, Nat.le_refl _, by simp, h1, rfl⟩
      | false => rw [e] at h; exact next h
    · exact next h
theorem hget_globhp {ps : List Nat} {nx : Nat} {rest : Heap} : ∀ (l : Heap) (n : Nat) (o : O), hget (globhp ps nx rest l) n = some o → (∃ m o', n = gname ps nx m ∧ (m, o') ∈ l ∧ hget l m = some o' ∧ o = mvO (gmv ps nx) o') ∨ hget rest n = some o
  | [], n, o, h => .inr h
  | (m, o1) :: r, n, o, h => by
    simp only [globhp, hget] at h
    cases e : Nat.beq (gname ps nx m) n with
    | true =>
      rw [e] at h; simp at h; subst h
      exact .inl ⟨m, o1, (Nat.eq_of_beq_eq_true e).symm, List.mem_cons_self, by simp [hget, Nat.beq_refl], rfl⟩
    | false =>
      rw [e] at h
      rcases hget_globhp r n o h with ⟨m', o', e1, e2, e3, e4⟩ | h1
      · refine .inl ⟨m', o', e1, List.mem_cons_of_mem _ e2, ?_, e4⟩
        have : Nat.beq m m' = false := nbeq_ne (fun e' => by subst e'; rw [e1, Nat.beq_refl] at e; simp at e)
        simp only [hget, this, cond_false]; exact e3
      · exact .inr h1
theorem hget_globhp_ne {ps : List Nat} {nx : Nat} {rest : Heap} {n : Nat} (h1 : n ∉ ps) (h2 : n < nx) : ∀ (l : Heap), hget (globhp ps nx rest l) n = hget rest n
  | [] => rfl
  | (m, o1) :: r => by
    simp only [globhp, hget]
    have : Nat.beq (gname ps nx m) n = false := nbeq_ne (fun e => by
      unfold gname at e
      split at e
      · rename_i p hp; subst e; exact h1 (List.mem_of_getElem? hp)
      · omega)
    rw [this]; exact hget_globhp_ne h1 h2 r
theorem hget_resthp {ps kill : List Nat} : ∀ (l : Heap) (n : Nat), hget (resthp ps kill l) n = if n ∈ ps then none else (hget l n).map (killsO kill)
  | [], n => by simp [resthp, hget]
  | (m, o) :: r, n => by
    simp only [resthp]
    cases e : ps.any (Nat.beq m) with
    | true =>
      simp only [cond_true]
      rw [hget_resthp r n]
      split
      · rfl
      · rename_i hn
        have : Nat.beq m n = false := nbeq_ne (fun e' => by subst e'; exact hn (anyb_mem.1 e))
        simp only [hget, this, cond_false]
    | false =>
      simp only [cond_false, hget]
      cases e' : Nat.beq m n with
      | true =>
        have := Nat.eq_of_beq_eq_true e'; subst this
        have : m ∉ ps := fun h => by rw [anyb_mem.2 h] at e; simp at e
        simp [this]
      | false => simp only [cond_false]; exact hget_resthp r n
theorem killsO_nil (o : O) : killsO [] o = o := rfl
theorem resthp_nil : ∀ (l : Heap), resthp [] [] l = l
  | [] => rfl
  | (m, o) :: r => by simp [resthp, killsO, resthp_nil r]
theorem Holds_kills {ok : Nat → Prop} {w : World} {m : Nat} : ∀ (l : List Nat) {ρ ρ' : Rho} (hρ : ∀ q, q ∉ l → ρ' q = ρ q) (hm : m ∉ l) {o : O} (h : Holds ρ ok w m o), Holds ρ' ok w m (killsO l o)
  | [], ρ, ρ', hρ, hm, o, h => by
    have : ρ' = ρ := funext fun q => hρ q (by simp)
    subst this; exact h
  | n :: l, ρ, ρ', hρ, hm, o, h => by
    simp only [List.mem_cons, not_or] at hm
    have h1 : Holds (fun q => if q = n then ρ' q else ρ q) ok w m (killO n o) := Holds_kill n (fun q hq => if_neg hq) hm.1 h
    refine Holds_kills l (fun q hq => ?_) hm.2 h1
    by_cases e : q = n
    · rw [if_pos e]
    · rw [if_neg e]; exact hρ q (by simp [e, hq])
end Ax

set_option linter.unusedVariables false
set_option linter.unusedSimpArgs false
namespace Ax
open Go
variable {C : Cfg} {inl : Inl}

def frOf (as : List A) : List (Bool × A) := as.map fun x => (true, x)
theorem frOf_rel {ρ : Rho} {ok : Nat → Prop} {w : World} : ∀ {as : List A} {vs : List Value}, RelL ρ ok w as vs → FrR ρ ok w (frOf as) vs
  | [], [], _ => trivial
  | _ :: r, _ :: s, h => ⟨fun _ => h.1, by simp, frOf_rel h.2⟩
  | [], _ :: _, h => h.elim
  | _ :: _, [], h => h.elim
theorem rel_frOf {ρ : Rho} {ok : Nat → Prop} {w : World} : ∀ {as : List A} {vs : List Value}, FrR ρ ok w (frOf as) vs → RelL ρ ok w as vs
  | [], [], _ => trivial
  | _ :: r, _ :: s, h => ⟨h.1 rfl, rel_frOf h.2.2⟩
  | [], _ :: _, h => h.elim
  | _ :: _, [], h => h.elim

section
variable {ρ : Rho} {nx : Nat} {ok : Nat → Prop} {hp : Heap} {w w' : World} {ps : List Nat} {as : List A} {vs : List Value}
def locRho (ρ : Rho) (ps : List Nat) : Rho := fun i => match ps[i]? with
  | some n => ρ n
  | none => ⟨none, 0, 0⟩
theorem locRho_ix {n m : Nat} {ρ1 : Rho} (ha : Agree ps.length (locRho ρ ps) ρ1) (h : ix ps n = some m) : ρ1 m = ρ n := by
  have h1 := ix_some h
  have h2 : m < ps.length := (List.getElem?_eq_some_iff.1 h1).1
  rw [ha m h2]; simp [locRho, h1]
theorem good_loc (hd : nodupB ps = true) (g : Good ρ nx ok hp w) : Good (locRho ρ ps) ps.length ok (lochp hp (ix ps) 0 ps) w := by
  refine ⟨g.gl, fun i o h => ?_, fun ρ1 ha => ?_⟩
  · obtain ⟨n, o', h1, h2, _⟩ := hget_lochp ps 0 i o h
    exact (List.getElem?_eq_some_iff.1 h2).1
  · have S := g.now
    have hl : ∀ i o, hget (lochp hp (ix ps) 0 ps) i = some o → ∃ n o', ix ps n = some i ∧ hget hp n = some o' ∧ o = mvO (ix ps) o' ∧ ρ1 i = ρ n := fun i o h => by
      obtain ⟨n, o', h1, h2, h3, h4⟩ := hget_lochp ps 0 i o h
      have := ix_get hd h2
      exact ⟨n, o', this, h3, h4, locRho_ix ha this⟩
    refine ⟨fun i j o o' b h1 h2 h3 h4 => ?_, fun i o b h1 h2 => ?_, fun i o b h1 h2 => ?_, S.oklt, fun i o h1 => ?_⟩
    · obtain ⟨n, p, e1, q1, _, r1⟩ := hl i o h1
      obtain ⟨m, p', e2, q2, _, r2⟩ := hl j o' h2
      rw [r1] at h3; rw [r2] at h4
      have := S.inj n m p p' b q1 q2 h3 h4
      subst this
      rw [e1] at e2; simpa using e2
    · obtain ⟨n, p, e1, q1, _, r1⟩ := hl i o h1
      rw [r1] at h2; exact S.lt n p b q1 h2
    · obtain ⟨n, p, e1, q1, _, r1⟩ := hl i o h1
      rw [r1] at h2; exact S.nok n p b q1 h2
    · obtain ⟨n, p, e1, q1, rfl, r1⟩ := hl i o h1
      exact Holds_mv (ρ := ρ) (fun n m h => locRho_ix ha h) r1 (S.obj n p q1)
theorem rel_loc (h : RelL ρ ok w as vs) : RelGL (locRho ρ ps) ps.length ok w (mvL (ix ps) as) vs := fun ρ1 ha => RelL_mv (fun n m h => locRho_ix ha h) as vs h
theorem own_loc {b : Nat} (h : Own (locRho ρ ps) (lochp hp (ix ps) 0 ps) b) : ∃ n o, n ∈ ps ∧ hget hp n = some o ∧ (ρ n).b = some b := by
  obtain ⟨i, o, h1, h2⟩ := h
  obtain ⟨n, o', _, h3, h4, _⟩ := hget_lochp ps 0 i o h1
  have h3 : ps[i]? = some n := by simpa using h3
  refine ⟨n, o', List.mem_of_getElem? h3, h4, ?_⟩
  simpa [locRho, h3] using h2

/-- What a run in its own names comes to, seen from its caller. -/
theorem After.glob (hd : nodupB ps = true) (hps : ∀ n ∈ ps, n < nx) (g : Good ρ nx ok hp w) {x : A} {hp1 : Heap} {nx1 : Nat} {kl : List Nat} {v : Value}
    (h : After (locRho ρ ps) ps.length ok (lochp hp (ix ps) 0 ps) w x hp1 nx1 kl v w') :
    After ρ nx ok hp w (mvA (gmv ps nx) x) (globhp ps nx (resthp ps (kl.map (gname ps nx)) hp) hp1) (nx + (nx1 - ps.length)) (kl.map (gname ps nx)) v w' := by
  obtain ⟨ρ1, ok1, hst, hv⟩ := h
  let ρg : Rho := fun n => if n < nx then (match ix ps n with
    | some m => ρ1 m
    | none => ρ n) else ρ1 (ps.length + (n - nx))
  have hnx := hst.nxm
  have gn : ∀ m, ρg (gname ps nx m) = ρ1 m := fun m => by
    unfold gname
    cases hm : ps[m]? with
    | some n =>
      have := hps n (List.mem_of_getElem? hm)
      simp only [ρg, if_pos this, ix_get hd hm]
    | none =>
      have : ps.length ≤ m := by simpa using hm
      have h1 : ¬ (nx + (m - ps.length) < nx) := by omega
      have h2 : ps.length + (nx + (m - ps.length) - nx) = m := by omega
      simp only [ρg, if_neg h1, h2]
  have gb : ∀ m, m < nx1 → gname ps nx m < nx + (nx1 - ps.length) := fun m hm => by
    unfold gname
    cases h : ps[m]? with
    | some n => have := hps n (List.mem_of_getElem? h); simp only; omega
    | none => have : ps.length ≤ m := by simpa using h
              simp only; omega
  have old : ∀ n, n < nx → n ∉ kl.map (gname ps nx) → ρg n = ρ n := fun n hn hk => by
    simp only [ρg, if_pos hn]
    split
    · rename_i m hm
      have h1 := ix_some hm
      have h2 : m < ps.length := (List.getElem?_eq_some_iff.1 h1).1
      rw [hst.agr m h2 fun hk' => hk (List.mem_map.2 ⟨m, hk', by simp [gname, h1]⟩)]
      simp [locRho, h1]
    · rfl
  have hblk : ∀ b, b < w.heap.size → (∀ n o, n ∈ ps → hget hp n = some o → (ρ n).b = some b → False) → w'.heap[b]? = w.heap[b]? := fun b hb hn => hst.evo.block b hb fun ho => by
    obtain ⟨n, o, h1, h2, h3⟩ := own_loc ho
    exact hn n o h1 h2 h3
  have hS := g.now
  have okblk : ∀ b, ok b → w'.heap[b]? = w.heap[b]? := fun b hb => hblk b (hS.oklt b hb) fun n o _ h2 h3 => hS.nok n o b h2 h3 hb
  have org : ∀ b, Own ρ1 hp1 b → (∃ n o, n ∈ ps ∧ hget hp n = some o ∧ (ρ n).b = some b) ∨ w.heap.size ≤ b := fun b hb => (hst.org b hb).imp own_loc id
  have chr : ∀ n o, hget (globhp ps nx (resthp ps (kl.map (gname ps nx)) hp) hp1) n = some o → (∃ m o', n = gname ps nx m ∧ m < nx1 ∧ hget hp1 m = some o' ∧ o = mvO (gmv ps nx) o') ∨
      (n ∉ ps ∧ n < nx ∧ ∃ o', hget hp n = some o' ∧ o = killsO (kl.map (gname ps nx)) o') := fun n o h => by
    rcases hget_globhp hp1 n o h with ⟨m, o', h1, _, h2, h3⟩ | h
    · exact .inl ⟨m, o', h1, hst.good.bd m o' h2, h2, h3⟩
    · rw [hget_resthp] at h
      split at h
      · simp at h
      · rename_i hn
        cases h1 : hget hp n with
        | none => rw [h1] at h; simp at h
        | some o' => rw [h1] at h; simp at h; exact .inr ⟨hn, g.bd n o' h1, o', rfl, h.symm⟩
  refine ⟨ρg, ok1, ⟨⟨hst.good.gl, fun n o h => ?_, fun ρ4 ha => ?_⟩, ⟨hst.evo.os, hst.evo.tape, hst.evo.output, hst.evo.size, fun b hb hn => hblk b hb fun n o _ h2 h3 => hn ⟨n, o, h2, h3⟩⟩, hst.okm, by omega, old, fun b ⟨n, o, h1, h2⟩ => ?_, fun b hb => ?_⟩, fun ρ4 ha => ?_⟩
  · rcases chr n o h with ⟨m, o', rfl, h1, _⟩ | ⟨_, h1, _⟩
    · exact gb m h1
    · omega
  · let ρl : Rho := fun m => ρ4 (gname ps nx m)
    have hl : Agree nx1 ρ1 ρl := fun m hm => (ha _ (gb m hm)).trans (gn m)
    have S1 := hst.good.sat ρl hl
    have locb : ∀ m o' b, hget hp1 m = some o' → (ρ4 (gname ps nx m)).b = some b → (∃ n o, n ∈ ps ∧ hget hp n = some o ∧ (ρ n).b = some b) ∨ w.heap.size ≤ b := fun m o' b h1 h2 =>
      org b ⟨m, o', h1, by rw [← hl m (hst.good.bd m o' h1)]; exact h2⟩
    have r4 : ∀ n, n ∉ ps → n < nx → ρ4 n = ρ n := fun n h1 h2 => by
      rw [ha n (by omega)]
      have : ix ps n = none := by
        cases h : ix ps n with
        | none => rfl
        | some m => exact absurd (List.mem_of_getElem? (ix_some h)) h1
      simp only [ρg, if_pos h2, this]
    have apart : ∀ m o' n o'' b, hget hp1 m = some o' → (ρ4 (gname ps nx m)).b = some b → n ∉ ps → hget hp n = some o'' → (ρ n).b = some b → False := fun m o' n o'' b h1 h2 h3 h4 h5 => by
      rcases locb m o' b h1 h2 with ⟨n', o1, q1, q2, q3⟩ | q
      · have := hS.inj n' n o1 o'' b q2 h4 q3 h5
        subst this; exact h3 q1
      · have := hS.lt n o'' b h4 h5; omega
    refine ⟨fun n m o1 o2 b h1 h2 h3 h4 => ?_, fun n o b h1 h2 => ?_, fun n o b h1 h2 hk => ?_, S1.oklt, fun n o h1 => ?_⟩
    · rcases chr n o1 h1 with ⟨n', p1, rfl, a1, b1, c1⟩ | ⟨a1, d1, p1, b1, c1⟩ <;> rcases chr m o2 h2 with ⟨m', p2, rfl, a2, b2, c2⟩ | ⟨a2, d2, p2, b2, c2⟩
      · have := S1.inj n' m' p1 p2 b b1 b2 h3 h4; rw [this]
      · rw [r4 m a2 d2] at h4; exact (apart n' p1 m p2 b b1 h3 a2 b2 h4).elim
      · rw [r4 n a1 d1] at h3; exact (apart m' p2 n p1 b b2 h4 a1 b1 h3).elim
      · rw [r4 n a1 d1] at h3; rw [r4 m a2 d2] at h4; exact hS.inj n m p1 p2 b b1 b2 h3 h4
    · rcases chr n o h1 with ⟨n', p1, rfl, a1, b1, c1⟩ | ⟨a1, d1, p1, b1, c1⟩
      · exact S1.lt n' p1 b b1 h2
      · rw [r4 n a1 d1] at h2; exact Nat.lt_of_lt_of_le (hS.lt n p1 b b1 h2) hst.evo.size
    · rcases chr n o h1 with ⟨n', p1, rfl, a1, b1, c1⟩ | ⟨a1, d1, p1, b1, c1⟩
      · exact S1.nok n' p1 b b1 h2 hk
      · rw [r4 n a1 d1] at h2
        rcases hst.oko b hk with q | q | q
        · exact hS.nok n p1 b b1 h2 q
        · obtain ⟨n', o1, q1, q2, q3⟩ := own_loc q
          have := hS.inj n' n o1 p1 b q2 b1 q3 h2
          subst this; exact a1 q1
        · have := hS.lt n p1 b b1 h2; omega
    · rcases chr n o h1 with ⟨n', p1, rfl, a1, b1, rfl⟩ | ⟨a1, d1, p1, b1, rfl⟩
      · have hg : ∀ n m, gmv ps nx n = some m → ρ4 m = ρl n := fun n m h => by simp only [gmv, Option.some.injEq] at h; subst h; rfl
        exact Holds_mv hg rfl (S1.obj n' p1 b1)
      · by_cases hk : n ∈ kl.map (gname ps nx)
        · -- a killed name is among the run's own, or new: it is not one of the rest
          exfalso
          obtain ⟨m, _, hm⟩ := List.mem_map.1 hk
          unfold gname at hm
          split at hm
          · rename_i q hq; subst hm; exact a1 (List.mem_of_getElem? hq)
          · omega
        · let ρ5 : Rho := fun q => if q < nx then ρ q else ρ4 q
          have S5 := g.sat ρ5 fun q hq => if_pos hq
          have h5 : Holds ρ5 ok w n p1 := S5.obj n p1 b1
          have h6 : Holds ρ5 ok1 w' n p1 := Holds_mono hst.okm okblk (fun b hb => hblk b (S5.lt n p1 b b1 hb) fun n' o1 q1 q2 q3 => by
            have hb' : (ρ n).b = some b := by simpa [ρ5, d1] using hb
            have := hS.inj n' n o1 p1 b q2 b1 q3 hb'
            subst this; exact a1 q1) h5
          refine Holds_kills _ (fun q hq => ?_) hk h6
          by_cases e : q < nx
          · simp only [ρ5, if_pos e]; rw [ha q (by omega)]; exact old q e hq
          · simp only [ρ5, if_neg e]
  · rcases chr n o h1 with ⟨n', p1, rfl, a1, b1, c1⟩ | ⟨a1, d1, p1, b1, c1⟩
    · rw [gn] at h2
      exact (org b ⟨n', p1, b1, h2⟩).imp (fun ⟨n, o, _, q2, q3⟩ => ⟨n, o, q2, q3⟩) id
    · refine .inl ⟨n, p1, b1, ?_⟩
      have : ix ps n = none := by
        cases h : ix ps n with
        | none => rfl
        | some m => exact absurd (List.mem_of_getElem? (ix_some h)) a1
      simpa [ρg, d1, this] using h2
  · exact (hst.oko b hb).imp id (Or.imp (fun q => let ⟨n, o, _, q2, q3⟩ := own_loc q; ⟨n, o, q2, q3⟩) id)
  · have hl : Agree nx1 ρ1 (fun m => ρ4 (gname ps nx m)) := fun m hm => (ha _ (gb m hm)).trans (gn m)
    have hg : ∀ n m, gmv ps nx n = some m → ρ4 m = ρ4 (gname ps nx n) := fun n m h => by simp only [gmv, Option.some.injEq] at h; subst h; rfl
    exact Rel_mv (ρ := fun m => ρ4 (gname ps nx m)) hg _ _ (hv _ hl)
end

theorem weak_lo {lo lo' : Nat} (hl : lo' ≤ lo) {st st' : St} (h : ∀ p ∈ weak lo st st', p) : ∀ p ∈ weak lo' st st', p := by
  unfold weak at h ⊢
  have hb : ∀ n, Nat.ble lo n = true → Nat.ble lo' n = true := fun n e => by rw [Nat.ble_eq]; exact Nat.le_trans hl (Nat.le_of_ble_eq_true e)
  cases e : (Nat.ble lo st'.nx && bdFr st'.nx st'.fr && bdHp st'.nx st'.hp && (newNil st.hp st'.hp).all (Nat.ble st.nx) && st.kl.all (fun n => Nat.ble lo n || st'.kl.any (Nat.beq n))) with
  | false => rw [e] at h; exact (h False (by simp)).elim
  | true =>
    have e' : (Nat.ble lo' st'.nx && bdFr st'.nx st'.fr && bdHp st'.nx st'.hp && (newNil st.hp st'.hp).all (Nat.ble st.nx) && st.kl.all (fun n => Nat.ble lo' n || st'.kl.any (Nat.beq n))) = true := by
      simp only [Bool.and_eq_true] at e ⊢
      obtain ⟨⟨⟨⟨c1, c2⟩, c3⟩, c4⟩, c5⟩ := e
      refine ⟨⟨⟨⟨hb _ c1, c2⟩, c3⟩, c4⟩, List.all_eq_true.2 fun n hn => ?_⟩
      have := List.all_eq_true.1 c5 n hn
      rw [Bool.or_eq_true] at this ⊢
      exact this.imp (hb n) id
    rw [e] at h; rw [e']; exact h
/-- What is shown of a run. -/
def RunsL (C : Cfg) (inl : Inl) (f : Nat) (fn : Func) (as : List A) (hp : Heap) (nx : Nat) (r : LR) : Prop :=
  ((r.as = as ∧ r.hp = hp ∧ r.nx = nx) ∨ ∀ p ∈ weak nx ⟨frOf as, hp, nx, []⟩ ⟨frOf r.as, r.hp, r.nx, []⟩, p) ∧
  afun C inl f fn r.as r.hp r.nx fun x hp' nx' kl => conjL (weak r.nx ⟨[(true, x)], hp', nx', kl⟩ ⟨[(true, r.val)], r.hp', r.nx', r.kill⟩) True

theorem runs_after (hC : CfgOk C) (hI : InlOk C inl) (hm : C.P.follows .mixedOrders = true) {f : Nat} {fn : Func} (hf : C.P.funcs[f]? = some fn) {as : List A} {hp : Heap} {nx : Nat} {r : LR} (h : RunsL C inl f fn as hp nx r)
    {ρ : Rho} {ok : Nat → Prop} {w : World} {vs : List Value} (g : Good ρ nx ok hp w) (hr : RelGL ρ nx ok w as vs) :
    Calls C.P f vs.toArray w fun
      | .returned v, w' => After ρ nx ok hp w r.val r.hp' r.nx' r.kill v w'
      | _, _ => False := by
  obtain ⟨h1, h2⟩ := h
  let B : Base := ⟨ρ, nx, ok, hp, w⟩
  have M0 : Mach B ρ ok ⟨frOf as, hp, nx, []⟩ ⟨vs.toArray, []⟩ w := ⟨Step.refl g, fun ρ1 ha => frOf_rel (hr ρ1 ha), rfl⟩
  obtain ⟨ρ1, ok1, M1⟩ : ∃ ρ1 ok1, Mach B ρ1 ok1 ⟨frOf r.as, r.hp, r.nx, []⟩ ⟨vs.toArray, []⟩ w := by
    rcases h1 with ⟨e1, e2, e3⟩ | h1
    · rw [e1, e2, e3]; exact ⟨ρ, ok, M0⟩
    · exact weak_ok h1 M0
  refine Calls.mono (afun_ok hC hI hm hf h2 M1.good fun ρ' ha => rel_frOf (M1.fr ρ' ha)) fun e w' he => ?_
  cases e with
  | returned v =>
    obtain ⟨x, hp', nx', kl, hK, ρ2, ok2, hst, hv⟩ := he
    obtain ⟨hK, _⟩ := conjL_mem hK
    have hK := weak_lo M1.step.nxm hK
    have M2 : Mach B ρ2 ok2 ⟨[(true, x)], hp', nx', kl⟩ ⟨#[v], []⟩ w' := ⟨(M1.step.trans hst).more (by simp), fun ρ1 ha => ⟨fun _ => hv ρ1 ha, by simp, trivial⟩, rfl⟩
    obtain ⟨ρ3, ok3, M3⟩ := weak_ok (B := B) hK M2
    exact ⟨ρ3, ok3, M3.step, fun ρ1 ha => (M3.fr ρ1 ha).1 rfl⟩
  | panicked _ => exact he.elim
  | outgrown => exact he.elim

theorem CallsTo.mono {P : Program} {f : Nat} {vs : Array Value} {w : World} {R R' : Value → World → Prop} (h : CallsTo P f vs w R) (hR : ∀ v w', R v w' → R' v w') : CallsTo P f vs w R' := by
  unfold CallsTo at h ⊢
  split
  · rename_i f' args w1 h1
    rw [h1] at h
    refine Calls.mono h fun e w' he => ?_
    cases e with
    | returned v => exact hR v w' he
    | panicked _ => exact he
    | outgrown => exact he
  · rename_i v w1 h1
    rw [h1] at h
    exact hR v w1 h
  · rename_i h1 h2
    split at h
    · rename_i e; exact (h1 _ _ _ e).elim
    · rename_i e; exact (h2 _ _ e).elim
    · exact h
/-- A function that may write what it is handed. -/
theorem own_of {P : Program} {f : Nat} {L : List A → Heap → Nat → Option LR}
    (hL : ∀ as hp nx r, L as hp nx = some r → r.pre → ∀ ρ ok w vs, Good ρ nx ok hp w → RelGL ρ nx ok w as vs → CallsTo P f vs.toArray w (After ρ nx ok hp w r.val r.hp' r.nx' r.kill)) : CtOk P f (own L) := by
  have key : ∀ as hp nx r, own L as hp nx = some r → ∃ ps r0, nodupB ps = true ∧ (∀ n ∈ ps, n < nx) ∧ L (mvL (ix ps) as) (lochp hp (ix ps) 0 ps) ps.length = some r0 ∧ own2 hp nx ps r0 = some r := fun as hp nx r h => by
    unfold own own1 at h
    generalize reach hp 64 0 (addNm [] (nmsL as)) = ps at h
    cases e : nodupB ps && ps.all (fun n => Nat.blt n nx) with
    | false => rw [e] at h; simp at h
    | true =>
      rw [e] at h
      simp only [cond_true] at h
      simp only [Bool.and_eq_true, List.all_eq_true] at e
      split at h
      · rename_i r0 h0
        exact ⟨ps, r0, e.1, fun n hn => Nat.le_of_ble_eq_true (e.2 n hn), h0, h⟩
      · simp at h
  refine ⟨fun as hp nx r h he => ?_, fun as hp nx r h hk n hn hmod => ?_, fun as hp nx r h hpre ρ ok w vs G hr => ?_⟩
  · obtain ⟨ps, r0, _, _, _, h⟩ := key as hp nx r h
    unfold own2 at h
    split at h
    · simp at h; subst h; exact ⟨rfl, rfl, rfl⟩
    · simp at h; subst h; simp at he
  · obtain ⟨ps, r0, _, _, _, h⟩ := key as hp nx r h
    unfold own2 at h
    split at h
    · simp at h; subst h; rfl
    · simp at h; subst h
      simp only at hk hmod ⊢
      rw [hk, hget_globhp_ne hmod hn, hget_resthp, if_neg hmod]
      cases hget hp n with
      | none => rfl
      | some o => rfl
  · obtain ⟨ps, r0, hd, hps, h0, h⟩ := key as hp nx r h
    have hpre0 : r0.pre := by
      unfold own2 at h
      split at h <;> (simp at h; subst h; exact hpre)
    refine CallsTo.mono (hL _ _ _ r0 h0 hpre0 _ _ _ _ (good_loc hd G) (rel_loc (hr ρ (Agree.refl _ _)))) fun v w' he => ?_
    have H := After.glob hd hps G he
    unfold own2 at h
    split at h
    · rename_i hc
      simp only [Bool.and_eq_true, List.isEmpty_iff] at hc
      obtain ⟨⟨⟨⟨c1, c2⟩, c3⟩, c4⟩, c5⟩ := hc
      have c3 := Nat.eq_of_beq_eq_true c3
      simp at h; subst h
      simp only
      rw [c1, c2, c3, c4, mvA_bd _ c5] at H
      simpa [globhp, resthp_nil] using H
    · simp at h; subst h; exact H
end Ax

set_option linter.unusedVariables false
set_option linter.unusedSimpArgs false
namespace Ax
open Go
variable {C : Cfg} {inl : Inl}

mutual
/-- Rows seen as data. -/
def vwA (hp : Heap) : A → List Prop × A
  | .sl n o l => match hget hp n with
    | some (.row _ y) => ([o + l ≤ y.cnt], .d (y.cut o l))
    | _ => ([], .any)
  | .pel _ _ _ => ([], .any)
  | .ptr _ _ => ([], .any)
  | .mp _ => ([], .any)
  | .dpt _ _ _ => ([], .any)
  | .agg l => ((vwL hp l).1, .agg (vwL hp l).2)
  | .tup l => ((vwL hp l).1, .tup (vwL hp l).2)
  | .func g l => ((vwL hp l).1, .func g (vwL hp l).2)
  | .iface t v => ((vwA hp v).1, .iface t (vwA hp v).2)
  | x => ([], x)
def vwL (hp : Heap) : List A → List Prop × List A
  | [] => ([], [])
  | x :: r => ((vwA hp x).1 ++ (vwL hp r).1, (vwA hp x).2 :: (vwL hp r).2)
end
theorem eqvD_refl : ∀ (x : D) (p : Prop), p ∈ eqvD x x → p
  | .bool _, p, h => by simp [eqvD] at h; exact h
  | .int k _, p, h => by
    have : kEq k k = true := kEq_iff.2 rfl
    simp [eqvD, this] at h; exact h
  | .str _, p, h => by simp [eqvD] at h; exact h
  | .strs _, p, h => by simp [eqvD] at h; exact h
  | .ints k _, p, h => by
    have : kEq k k = true := kEq_iff.2 rfl
    simp [eqvD, this] at h; exact h
  | .recs _ _ _, p, h => by simp only [eqvD, List.mem_cons, List.mem_nil_iff, or_false] at h; subst h; exact ⟨rfl, rfl, fun _ _ _ _ => rfl⟩
mutual
theorem vwA_bd (hp : Heap) : ∀ x : A, bdA 0 (vwA hp x).2 = true
  | .d x => rfl
  | .nilptr => rfl
  | .nilsl => rfl
  | .niliface => rfl
  | .nilfunc => rfl
  | .nilmap => rfl
  | .ptr n o => rfl
  | .pel n i j => rfl
  | .dpt x i j => rfl
  | .sl n o l => by simp only [vwA]; split <;> rfl
  | .func g l => by simp only [vwA, bdA]; exact vwL_bd hp l
  | .iface t x => by simp only [vwA, bdA]; exact vwA_bd hp x
  | .mp n => rfl
  | .agg l => by simp only [vwA, bdA]; exact vwL_bd hp l
  | .tup l => by simp only [vwA, bdA]; exact vwL_bd hp l
  | .any => rfl
theorem vwL_bd (hp : Heap) : ∀ x : List A, bdL 0 (vwL hp x).2 = true
  | [] => rfl
  | x :: r => by simp only [vwL, bdL, Bool.and_eq_true]; exact ⟨vwA_bd hp x, vwL_bd hp r⟩
end
mutual
theorem vwA_eqv (hp : Heap) : ∀ x : A, (∀ p ∈ (vwA hp x).1, p) → ∀ p ∈ eqvA ⟨hp, []⟩ x (vwA hp x).2, p
  | .d x, _, p, h => eqvD_refl x p h
  | .nilptr, _, p, h => by simp [vwA, eqvA] at h
  | .nilsl, _, p, h => by simp [vwA, eqvA] at h
  | .niliface, _, p, h => by simp [vwA, eqvA] at h
  | .nilfunc, _, p, h => by simp [vwA, eqvA] at h
  | .nilmap, _, p, h => by simp [vwA, eqvA] at h
  | .ptr n o, _, p, h => by simp [vwA, eqvA] at h
  | .pel n i j, _, p, h => by simp [vwA, eqvA] at h
  | .dpt x i j, _, p, h => by simp [vwA, eqvA] at h
  | .sl n o l, hp1, p, h => by
    simp only [vwA] at h hp1
    split at h
    · rename_i t y hy
      rw [hy] at hp1
      simp only [eqvA, viewSl, hy, List.mem_cons] at h
      rcases h with rfl | h
      · exact hp1 _ (by simp)
      · exact eqvD_refl _ p h
    · simp [eqvA] at h
  | .func g l, hp1, p, h => by
    simp only [vwA, eqvA, List.mem_cons] at h
    rcases h with rfl | h
    · trivial
    · exact vwL_eqv hp l hp1 p h
  | .iface t x, hp1, p, h => by
    simp only [vwA, eqvA, List.mem_cons] at h
    rcases h with rfl | h
    · trivial
    · exact vwA_eqv hp x hp1 p h
  | .mp n, _, p, h => by simp [vwA, eqvA] at h
  | .agg l, hp1, p, h => by simp only [vwA, eqvA] at h; exact vwL_eqv hp l hp1 p h
  | .tup l, hp1, p, h => by simp only [vwA, eqvA] at h; exact vwL_eqv hp l hp1 p h
  | .any, _, p, h => by simp [vwA, eqvA] at h
theorem vwL_eqv (hp : Heap) : ∀ x : List A, (∀ p ∈ (vwL hp x).1, p) → ∀ p ∈ eqvL ⟨hp, []⟩ x (vwL hp x).2, p
  | [], _, p, h => by simp [vwL, eqvL] at h
  | x :: r, hp1, p, h => by
    simp only [vwL, eqvL, List.mem_append] at h
    simp only [vwL, List.mem_append] at hp1
    rcases h with h | h
    · exact vwA_eqv hp x (fun q hq => hp1 q (.inl hq)) p h
    · exact vwL_eqv hp r (fun q hq => hp1 q (.inr hq)) p h
end

/-! ### values that hold no data but scalars -/
def flatD : D → Bool
  | .bool _ => true
  | .int _ _ => true
  | .str _ => true
  | _ => false
mutual
def noD : A → Bool
  | .d x => flatD x
  | .dpt _ _ _ => false
  | .agg l => noDL l
  | .tup l => noDL l
  | .func _ l => noDL l
  | .iface _ v => noD v
  | _ => true
def noDL : List A → Bool
  | [] => true
  | x :: r => noD x && noDL r
end
def noDO : O → Bool
  | .cells _ l => noDL l
  | .vals _ _ l => noDL l
  | .row _ x => match x with
    | .strs _ => true
    | .ints _ _ => true
    | .recs _ _ _ => true
    | _ => false
def flatO : O → Prop
  | .row _ (.recs _ _ c) => ∀ i j, flatD (c i j) = true
  | _ => True
def flatHp : Heap → Prop
  | [] => True
  | (_, o) :: r => flatO o ∧ flatHp r
theorem flatHp_get : ∀ {hp : Heap} {n : Nat} {o : O}, flatHp hp → hget hp n = some o → flatO o
  | [], n, o, _, h => by simp [hget] at h
  | (m, o1) :: r, n, o, hd, h => by
    simp only [hget] at h
    cases e : Nat.beq m n with
    | true => rw [e] at h; simp at h; subst h; exact hd.1
    | false => rw [e] at h; exact flatHp_get hd.2 h
def noDH : Heap → Bool
  | [] => true
  | (_, o) :: r => noDO o && noDH r
theorem noDH_get : ∀ {hp : Heap} {n : Nat} {o : O}, noDH hp = true → hget hp n = some o → noDO o = true
  | [], n, o, _, h => by simp [hget] at h
  | (m, o1) :: r, n, o, hd, h => by
    simp only [noDH, Bool.and_eq_true] at hd
    simp only [hget] at h
    cases e : Nat.beq m n with
    | true => rw [e] at h; simp at h; subst h; exact hd.1
    | false => rw [e] at h; exact noDH_get hd.2 h
theorem flat_rel {ok ok' : Nat → Prop} {w : World} : ∀ (x : D) (v : Value), flatD x = true → RD ok w x v → RD ok' w x v
  | .bool _, _, _, h => h
  | .int _ _, _, _, h => h
  | .str _, _, _, h => h
  | .strs _, _, h, _ => by simp [flatD] at h
  | .ints _ _, _, h, _ => by simp [flatD] at h
  | .recs _ _ _, _, h, _ => by simp [flatD] at h
mutual
theorem noD_rel {ρ : Rho} {ok ok' : Nat → Prop} {w : World} : ∀ (x : A) (v : Value), noD x = true → Rel ρ ok w x v → Rel ρ ok' w x v
  | .d x, v, h, hr => flat_rel x v h hr
  | .nilptr, _, _, h => h
  | .nilsl, _, _, h => h
  | .niliface, _, _, h => h
  | .nilfunc, _, _, h => h
  | .nilmap, _, _, h => h
  | .ptr _ _, _, _, h => h
  | .pel _ _ _, _, _, h => h
  | .dpt _ _ _, _, h, _ => by simp [noD] at h
  | .sl _ _ _, _, _, h => h
  | .func g l, v, h, ⟨vs, e, hr⟩ => ⟨vs, e, noDL_rel l _ h hr⟩
  | .iface t x, v, h, ⟨u, e, hr⟩ => ⟨u, e, noD_rel x u h hr⟩
  | .mp _, _, _, h => h
  | .agg l, v, h, ⟨vs, e, hr, ho⟩ => ⟨vs, e, noDL_rel l _ h hr, ho⟩
  | .tup l, v, h, ⟨vs, e, hr⟩ => ⟨vs, e, noDL_rel l _ h hr⟩
  | .any, _, _, _ => trivial
theorem noDL_rel {ρ : Rho} {ok ok' : Nat → Prop} {w : World} : ∀ (x : List A) (v : List Value), noDL x = true → RelL ρ ok w x v → RelL ρ ok' w x v
  | [], [], _, _ => trivial
  | x :: r, v :: s, h, hr => by
    simp only [noDL, Bool.and_eq_true] at h
    exact ⟨noD_rel x v h.1 hr.1, noDL_rel r s h.2 hr.2⟩
  | [], _ :: _, _, hr => hr.elim
  | _ :: _, [], _, hr => hr.elim
end
theorem noDO_holds {ρ : Rho} {ok ok' : Nat → Prop} {w : World} {n : Nat} {o : O} (hd : noDO o = true) (hf : flatO o) (h : Holds ρ ok w n o) : Holds ρ ok' w n o := by
  cases o with
  | cells t l =>
    obtain ⟨b, arr, fz, h1, h2, h3, h4, h5⟩ := h
    exact ⟨b, arr, fz, h1, h2, h3, noDL_rel l _ hd h4, h5⟩
  | row t x =>
    obtain ⟨h1, h2, h3, h4⟩ := h
    refine ⟨h1, h2, h3, ?_⟩
    cases e : (ρ n).b with
    | none => rw [e] at h4; exact h4
    | some b =>
      rw [e] at h4
      obtain ⟨arr, fz, hh, hu, hs, hc, hcell⟩ := h4
      refine ⟨arr, fz, hh, hu, hs, hc, fun i j hi hj => ?_⟩
      obtain ⟨u, q1, q2⟩ := hcell i j hi hj
      refine ⟨u, q1, flat_rel _ _ ?_ q2⟩
      cases x <;> first | rfl | exact hf i j | simp [noDO] at hd
  | vals t m l =>
    obtain ⟨b, arr, fz, h1, h2, h3, h4, h5, h6, h7, h8⟩ := h
    exact ⟨b, arr, fz, h1, h2, h3, h4, h5, h6, noDL_rel l _ hd h7, h8⟩

def lend2 (hp : Heap) (nx : Nat) (ps : List Prop) (r : LR) : Option R :=
  match noD r.val && noDH r.hp' && r.kill.isEmpty with
  | true => (match r.hp'.isEmpty && Nat.beq r.nx' 0 && bdA 0 r.val with
    | true => some ⟨conjL ps r.pre, r.val, hp, nx, [], [], false⟩
    | false => some ⟨conjL ps r.pre, upA nx r.val, upHp nx hp r.hp', r.nx' + nx, [], [], true⟩)
  | false => none
/-- Where a nil slice may stand, and for which rows. -/
inductive Sh where
  | keep
  | strs
  | ints (k : IntKind)
  | recs (m : Nat)
  | agg (l : List Sh)
mutual
def nilA : Sh → A → A
  | .strs, .nilsl => .d (.strs [])
  | .ints k, .nilsl => .d (.ints k [])
  | .recs m, .nilsl => .d (.recs m 0 fun _ _ => .strs [])
  | .agg l, .agg xs => .agg (nilL l xs)
  | _, x => x
def nilL : List Sh → List A → List A
  | s :: r, x :: xs => nilA s x :: nilL r xs
  | _, xs => xs
end
theorem nil_data {ok : Nat → Prop} {w : World} {x : D} (h : x.isSl = true) (h0 : x.cnt = 0) : RD ok w x (.slice none 0 0) := by
  rw [RD_sl h, h0]; exact ⟨none, 0, rfl, Nat.le_refl _, by omega, fun h => by omega⟩
mutual
theorem Rel_nil {ρ : Rho} {ok : Nat → Prop} {w : World} : ∀ (s : Sh) (x : A) (v : Value), Rel ρ ok w x v → Rel ρ ok w (nilA s x) v
  | .keep, x, v, h => by cases x <;> exact h
  | .strs, x, v, h => by
    cases x
    case nilsl => obtain rfl := h; exact nil_data (x := .strs []) rfl rfl
    all_goals exact h
  | .ints k, x, v, h => by
    cases x
    case nilsl => obtain rfl := h; exact nil_data (x := .ints k []) rfl rfl
    all_goals exact h
  | .recs m, x, v, h => by
    cases x
    case nilsl => obtain rfl := h; exact nil_data (x := .recs m 0 fun _ _ => .strs []) rfl rfl
    all_goals exact h
  | .agg l, x, v, h => by
    cases x
    case agg xs => obtain ⟨vs, e, hr, ho⟩ := h; exact ⟨vs, e, RelL_nil l xs _ hr, ho⟩
    all_goals exact h
theorem RelL_nil {ρ : Rho} {ok : Nat → Prop} {w : World} : ∀ (s : List Sh) (x : List A) (v : List Value), RelL ρ ok w x v → RelL ρ ok w (nilL s x) v
  | [], x, v, h => by cases x <;> exact h
  | _ :: _, [], v, h => h
  | s :: r, x :: xs, [], h => h.elim
  | s :: r, x :: xs, v :: vs, h => ⟨Rel_nil s x v h.1, RelL_nil r xs vs h.2⟩
end
mutual
theorem nilA_bd {n : Nat} : ∀ (s : Sh) (x : A), bdA n x = true → bdA n (nilA s x) = true
  | .keep, x, h => by cases x <;> exact h
  | .strs, x, h => by cases x <;> first | exact h | rfl
  | .ints k, x, h => by cases x <;> first | exact h | rfl
  | .recs m, x, h => by cases x <;> first | exact h | rfl
  | .agg l, x, h => by
    cases x
    case agg xs => exact nilL_bd l xs h
    all_goals exact h
theorem nilL_bd {n : Nat} : ∀ (s : List Sh) (x : List A), bdL n x = true → bdL n (nilL s x) = true
  | [], x, h => by cases x <;> exact h
  | _ :: _, [], h => h
  | s :: r, x :: xs, h => by
    simp only [bdL, nilL, Bool.and_eq_true] at h ⊢
    exact ⟨nilA_bd s x h.1, nilL_bd r xs h.2⟩
end
/-- A function that reads what it is handed, and answers with scalars or with new memory. -/
def lend (sh : List Sh) (L : List A → Option LR) (as : List A) (hp : Heap) (nx : Nat) : Option R := match L (nilL sh (vwL hp as).2) with
  | some r => lend2 hp nx (vwL hp as).1 r
  | none => none
theorem conjL_intro : ∀ {ps : List Prop} {X : Prop}, conjL ps X → (∀ p ∈ ps, p) ∧ X
  | [], X, h => ⟨by simp, h⟩
  | p :: r, X, h => by
    obtain ⟨h1, h2⟩ := h
    obtain ⟨h3, h4⟩ := conjL_intro h2
    exact ⟨fun q hq => by
      rcases List.mem_cons.1 hq with rfl | hq
      · exact h1
      · exact h3 q hq, h4⟩
mutual
theorem upA_bd (k : Nat) : ∀ (x : A), bdA 0 x = true → upA k x = x
  | .d x, _ => rfl
  | .nilptr, _ => rfl
  | .nilsl, _ => rfl
  | .niliface, _ => rfl
  | .nilfunc, _ => rfl
  | .nilmap, _ => rfl
  | .ptr n o, h => by simp [bdA, Nat.blt] at h
  | .pel n i j, h => by simp [bdA, Nat.blt] at h
  | .dpt x i j, _ => rfl
  | .sl n o l, h => by simp [bdA, Nat.blt] at h
  | .func g l, h => by simp only [bdA] at h; simp only [upA, upL_bd k l h]
  | .iface t x, h => by simp only [bdA] at h; simp only [upA, upA_bd k x h]
  | .mp n, h => by simp [bdA, Nat.blt] at h
  | .agg l, h => by simp only [bdA] at h; simp only [upA, upL_bd k l h]
  | .tup l, h => by simp only [bdA] at h; simp only [upA, upL_bd k l h]
  | .any, _ => rfl
theorem upL_bd (k : Nat) : ∀ (x : List A), bdL 0 x = true → upL k x = x
  | [], _ => rfl
  | x :: r, h => by simp only [bdL, Bool.and_eq_true] at h; simp only [upL, upA_bd k x h.1, upL_bd k r h.2]
end

theorem lend_of {P : Program} {f : Nat} {sh : List Sh} {L : List A → Option LR}
    (hL : ∀ as r, L as = some r → r.pre → ∀ ρ ok w vs, Good ρ 0 ok [] w → RelL ρ ok w as vs → bdL 0 as = true → flatHp r.hp' ∧ CallsTo P f vs.toArray w (After ρ 0 ok [] w r.val r.hp' r.nx' r.kill)) : CtOk P f (lend sh L) := by
  have key : ∀ as hp nx r, lend sh L as hp nx = some r → ∃ r0, L (nilL sh (vwL hp as).2) = some r0 ∧ lend2 hp nx (vwL hp as).1 r0 = some r := fun as hp nx r h => by
    unfold lend at h
    split at h
    · rename_i r0 h0; exact ⟨r0, h0, h⟩
    · simp at h
  refine ⟨fun as hp nx r h he => ?_, fun as hp nx r h hk n hn hmod => ?_, fun as hp nx r h hpre ρ ok w vs G hr => ?_⟩
  · obtain ⟨r0, _, h⟩ := key as hp nx r h
    unfold lend2 at h
    split at h
    · split at h
      · simp at h; subst h; exact ⟨rfl, rfl, rfl⟩
      · simp at h; subst h; simp at he
    · simp at h
  · obtain ⟨r0, _, h⟩ := key as hp nx r h
    unfold lend2 at h
    split at h
    · split at h
      · simp at h; subst h; rfl
      · simp at h; subst h; exact hget_upHp_old hn _
    · simp at h
  · obtain ⟨r0, h0, h⟩ := key as hp nx r h
    unfold lend2 at h
    split at h
    case h_2 => simp at h
    rename_i hc
    simp only [Bool.and_eq_true, List.isEmpty_iff] at hc
    obtain ⟨⟨c1, c2⟩, c3⟩ := hc
    have hpre : conjL (vwL hp as).1 r0.pre := by
      split at h <;> (simp at h; subst h; exact hpre)
    obtain ⟨hv, hpre0⟩ := conjL_intro hpre
    let ok1 : Nat → Prop := fun b => ok b ∨ ∃ n o, hget hp n = some o ∧ (ρ n).b = some b
    have hV : VwOk ρ ok ok1 hp ⟨hp, []⟩ := ⟨fun n o h => h, fun b h => .inl h, fun n o b h1 h2 => .inr ⟨n, o, h1, h2⟩, fun n h => by simp at h⟩
    have hr1 := eqvL_ok G.now hV as _ vs (vwL_eqv hp as hv) (hr ρ (Agree.refl _ _))
    have G1 : Good ρ 0 ok1 [] w := G.none (ok1 := ok1) (fun b hb => by
      rcases hb with hb | ⟨n, o, h1, h2⟩
      · exact G.now.oklt b hb
      · exact G.now.lt n o b h1 h2) (fun b hb => .inl hb)
    obtain ⟨hfl, hct⟩ := hL _ r0 h0 hpre0 ρ ok1 w vs G1 (RelL_nil sh _ vs hr1) (nilL_bd sh _ (vwL_bd hp as))
    refine CallsTo.mono hct fun v w' he => ?_
    obtain ⟨ρ2, ok2, S2, hx2⟩ := he
    simp only [c3] at S2
    have hle : ∀ b, ok b → ok2 b := fun b hb => S2.okm b (.inl hb)
    have Gf : Good ρ2 r0.nx' ok r0.hp' w' := ⟨G.gl.mono (fun _ h => h) (fun b hb => S2.evo.block b (G.now.oklt b hb) fun h => Own.none h), S2.good.bd, fun ρ1 ha => by
      have S := S2.good.sat ρ1 ha
      exact ⟨S.inj, S.lt, fun n o b h1 h2 hk => S.nok n o b h1 h2 (hle b hk), fun b hb => S.oklt b (hle b hb), fun n o h1 => noDO_holds (noDH_get c2 h1) (flatHp_get hfl h1) (S.obj n o h1)⟩⟩
    have A1 : After ρ 0 ok [] w r0.val r0.hp' r0.nx' [] v w' := ⟨ρ2, ok, ⟨Gf, ⟨S2.evo.os, S2.evo.tape, S2.evo.output, S2.evo.size, fun b hb hn => S2.evo.block b hb fun h => Own.none h⟩, fun _ h => h, S2.nxm, fun n hn _ => by omega, fun b hb => S2.org b hb, fun b hb => .inl hb⟩, fun ρ1 ha => noD_rel _ _ c1 (hx2 ρ1 ha)⟩
    have H := After.up G A1
    split at h
    · rename_i hc
      simp only [Bool.and_eq_true, List.isEmpty_iff] at hc
      obtain ⟨⟨d1, d2⟩, d3⟩ := hc
      have d2 := Nat.eq_of_beq_eq_true d2
      simp at h; subst h
      simp only
      rw [d1, d2, upA_bd _ _ d3] at H
      simpa [upHp] using H
    · simp at h; subst h; exact H

/-- What is shown of a run on data. -/
def RunsD (C : Cfg) (inl : Inl) (f : Nat) (fn : Func) (as : List A) (r : LR) : Prop :=
  (r.as = as ∨ (bdL 0 r.as = true ∧ ∀ p ∈ eqvL ⟨[], []⟩ as r.as, p)) ∧ flatHp r.hp' ∧
  afun C inl f fn r.as [] 0 fun x hp' nx' kl => conjL (weak 0 ⟨[(true, x)], hp', nx', kl⟩ ⟨[(true, r.val)], r.hp', r.nx', r.kill⟩) True

theorem runsD_after (hC : CfgOk C) (hI : InlOk C inl) (hm : C.P.follows .mixedOrders = true) {f : Nat} {fn : Func} (hf : C.P.funcs[f]? = some fn) (hcall : ∀ (vs : Array Value) (w : World), (callFunc f vs).run C.P w = .ok (.enter f vs) w)
    {as : List A} {r : LR} (h : RunsD C inl f fn as r) {ρ : Rho} {ok : Nat → Prop} {w : World} {vs : List Value} (G : Good ρ 0 ok [] w) (hr : RelL ρ ok w as vs) (hb : bdL 0 as = true) :
    flatHp r.hp' ∧ CallsTo C.P f vs.toArray w (After ρ 0 ok [] w r.val r.hp' r.nx' r.kill) := by
  obtain ⟨q1, q3, q2⟩ := h
  refine ⟨q3, ?_⟩
  have hr2 : RelL ρ ok w r.as vs := by
    rcases q1 with q1 | ⟨_, q1⟩
    · rw [q1]; exact hr
    · exact eqvL_ok (ok' := ok) G.now ⟨fun n o h => by simp [hget] at h, fun b h => h, fun n o b h => by simp [hget] at h, fun n h => by simp at h⟩ _ _ vs q1 hr
  have hb2 : bdL 0 r.as = true := by
    rcases q1 with q1 | ⟨q1, _⟩
    · rw [q1]; exact hb
    · exact q1
  unfold CallsTo
  rw [hcall]
  refine Calls.mono (afun_ok hC hI hm hf q2 G fun ρ' _ => RelL_bd 0 (fun m hm => by omega) _ vs hb2 hr2) fun e w' he => ?_
  cases e with
  | returned v =>
    obtain ⟨x, hp', nx', kl, hK, ρ', ok', hst, hx⟩ := he
    obtain ⟨hK, _⟩ := conjL_mem hK
    let B : Base := ⟨ρ, 0, ok, [], w⟩
    have M : Mach B ρ' ok' ⟨[(true, x)], hp', nx', kl⟩ ⟨#[v], []⟩ w' := ⟨hst, fun ρ1 ha => ⟨fun _ => hx ρ1 ha, by simp, trivial⟩, rfl⟩
    obtain ⟨ρ2, ok2, M2⟩ := weak_ok (B := B) hK M
    exact ⟨ρ2, ok2, M2.step, fun ρ1 ha => (M2.fr ρ1 ha).1 rfl⟩
  | panicked _ => exact he.elim
  | outgrown => exact he.elim
/-- A call that only adds memory of its own, and answers with scalars. -/
theorem After.of_below {ρ : Rho} {ok : Nat → Prop} {w w' : World} {x : A} {v : Value} (G : Good ρ 0 ok [] w) (h : Go.RowKit.Below w.heap.size w w') (hb : bdA 0 x = true) (hr : Rel ρ ok w' x v) : After ρ 0 ok [] w x [] 0 [] v w' :=
  ⟨ρ, ok, ⟨⟨G.gl.mono (fun _ h => h) (fun b hk => h.block b (G.now.oklt b hk)), G.bd, fun ρ1 ha => ⟨fun n m o o' b h1 => by simp [hget] at h1, fun n o b h1 => by simp [hget] at h1, fun n o b h1 => by simp [hget] at h1, fun b hk => Nat.lt_of_lt_of_le (G.now.oklt b hk) h.size, fun n o h1 => by simp [hget] at h1⟩⟩,
    Evo.of_below h, fun _ h => h, Nat.le_refl _, fun _ _ _ => rfl, fun b hb => (Own.none hb).elim, fun b hb => .inl hb⟩, fun ρ1 _ => Rel_bd 0 (fun m hm => by omega) _ _ hb hr⟩
end Ax

set_option linter.unusedVariables false
set_option linter.unusedSimpArgs false
namespace Ax
open Go

theorem enter_of {P : Program} {f : Nat} {fn : Func} (h : P.funcs[f]? = some fn) (h1 : (fn.name == "runtime.NumGoroutine") = false) (h2 : fn.body.isNone = false) (vs : Array Value) (w : World) : (callFunc f vs).run P w = .ok (.enter f vs) w := by
  have h1' : ¬ fn.name = "runtime.NumGoroutine" := fun e => by rw [e] at h1; simp at h1
  have h2' : ¬ fn.body = none := fun e => by rw [e] at h2; simp at h2
  simp [callFunc, go_sem, h, h1', h2']

structure GamOk (P : Program) (Γ : Nat → CE) : Prop where
  inls : ∀ f, Γ f = .inl → ∀ (vs : Array Value) (w : World), (callFunc f vs).run P w = .ok (.enter f vs) w
  cts : ∀ f g, Γ f = .ct g → CtOk P f g
def gam0 : Nat → CE := fun _ => .no
def gct (f : Nat) (g : List A → Heap → Nat → Option R) (Γ : Nat → CE) : Nat → CE := fun n => bif Nat.beq n f then .ct g else Γ n
def ginl (f : Nat) (Γ : Nat → CE) : Nat → CE := fun n => bif Nat.beq n f then .inl else Γ n
variable {P : Program} {Γ : Nat → CE}
theorem gam0_ok : GamOk P gam0 := ⟨fun f h => by simp [gam0] at h, fun f g h => by simp [gam0] at h⟩
theorem GamOk.ct {f : Nat} {g : List A → Heap → Nat → Option R} (h : CtOk P f g) (hΓ : GamOk P Γ) : GamOk P (gct f g Γ) := by
  refine ⟨fun n hn => ?_, fun n g' hn => ?_⟩ <;> (unfold gct at hn; cases e : Nat.beq n f <;> rw [e] at hn)
  · exact hΓ.inls n hn
  · simp at hn
  · exact hΓ.cts n g' hn
  · simp at hn; subst hn; rw [Nat.eq_of_beq_eq_true e]; exact h
theorem GamOk.inl {f : Nat} (h : ∀ (vs : Array Value) (w : World), (callFunc f vs).run P w = .ok (.enter f vs) w) (hΓ : GamOk P Γ) : GamOk P (ginl f Γ) := by
  refine ⟨fun n hn => ?_, fun n g' hn => ?_⟩ <;> (unfold ginl at hn; cases e : Nat.beq n f <;> rw [e] at hn)
  · exact hΓ.inls n hn
  · rw [Nat.eq_of_beq_eq_true e]; exact h
  · exact hΓ.cts n g' hn
  · simp at hn
theorem GamOk.cfg (hΓ : GamOk P Γ) (ann : Nat → Nat → Ann) : CfgOk { P := P, Γ := Γ, ann := ann } := ⟨hΓ.inls, hΓ.cts⟩

theorem own_ct_g (hΓ : GamOk P Γ) (hm : P.follows .mixedOrders = true) {f : Nat} {fn : Func} (hf : P.funcs[f]? = some fn) (hcall : ∀ (vs : Array Value) (w : World), (callFunc f vs).run P w = .ok (.enter f vs) w)
    {L : List A → Heap → Nat → Option LR} (hL : ∀ as hp nx r, L as hp nx = some r → r.pre → ∃ ann n, RunsL { P := P, Γ := Γ, ann := ann } (inlN { P := P, Γ := Γ, ann := ann } n) f fn as hp nx r) : CtOk P f (own L) :=
  own_of fun as hp nx r h hpre ρ ok w vs G hr => by
    obtain ⟨ann, n, h1⟩ := hL as hp nx r h hpre
    unfold CallsTo
    rw [hcall]
    refine Calls.mono (runs_after (hΓ.cfg ann) (inlN_ok (hΓ.cfg ann) hm n) hm hf h1 G hr) fun e w' he => ?_
    cases e with
    | returned v => exact he
    | panicked _ => exact he
    | outgrown => exact he
theorem lend_ct_g (hΓ : GamOk P Γ) (hm : P.follows .mixedOrders = true) {f : Nat} {fn : Func} (hf : P.funcs[f]? = some fn) (hcall : ∀ (vs : Array Value) (w : World), (callFunc f vs).run P w = .ok (.enter f vs) w)
    {sh : List Sh} {L : List A → Option LR} (hL : ∀ as r, L as = some r → r.pre → ∃ ann n, RunsD { P := P, Γ := Γ, ann := ann } (inlN { P := P, Γ := Γ, ann := ann } n) f fn as r) : CtOk P f (lend sh L) :=
  lend_of fun as r h hpre ρ ok w vs G hr hb => by
    obtain ⟨ann, n, h1⟩ := hL as r h hpre
    exact runsD_after (hΓ.cfg ann) (inlN_ok (hΓ.cfg ann) hm n) hm hf hcall h1 G hr hb

def St.addK (st : St) (k : List Nat) : St := { st with kl := k ++ st.kl }

/-! ### records -/
def dI : D → Int
  | .int _ n => n
  | _ => 0
def dB : D → Bool
  | .bool b => b
  | _ => false
def dS : D → List UInt8
  | .str s => s
  | _ => []
def dL : D → List (List UInt8)
  | .strs l => l
  | _ => []
theorem recs_of {α : Type} (l : List α) (d : α) {f : Nat → α} (h : ∀ i, f i = l.getD i d) : (List.range l.length).map f = l := by
  apply List.ext_getElem
  · simp
  · intro i h1 h2
    simp [h, List.getD, h2]
/-- Bytes as numbers. -/
def I (s : List UInt8) : List Int := s.map fun b => (b.toNat : Int)
end Ax

set_option linter.unusedVariables false
set_option linter.unusedSimpArgs false
namespace Ax
open Go
theorem sameRec_self {m n : Nat} {c : Nat → Nat → D} : sameRec (.recs m n c) (.recs m n c) ↔ True := ⟨fun _ => trivial, fun _ => ⟨rfl, rfl, fun _ _ _ _ => rfl⟩⟩
theorem dP_iff {γ d : Bool} {X : Prop} : dP γ d X ↔ ((γ = true → d = true) ∧ X) := by cases γ <;> cases d <;> simp [dP]
theorem wrap64 {x : Int} (h : -9223372036854775808 ≤ x) (h' : x ≤ 9223372036854775807) : IntKind.wrap .i64 x = x := by
  have : IntKind.wrap .i64 x = x := by
    simp only [IntKind.wrap, IntKind.signed, IntKind.bits]
    simp
    omega
  exact this
theorem wrap8 (x : Int) : IntKind.wrap .u8 x = x % 256 := by simp [IntKind.wrap, IntKind.signed, IntKind.bits]
theorem wrap8' {x : Int} (h : 0 ≤ x) (h' : x < 256) : IntKind.wrap .u8 x = x := by rw [wrap8]; omega
theorem fdiv_pow (x : Int) (hx : 0 ≤ x) (k : Nat) : x.fdiv (2 ^ k) = ((x.toNat / 2 ^ k : Nat) : Int) := by
  obtain ⟨m, rfl⟩ := Int.eq_ofNat_of_zero_le hx
  have : ((2 : Int) ^ k) = ((2 ^ k : Nat) : Int) := by simp
  rw [this, Int.ofNat_fdiv]
  simp
/-- The lowest n bytes of a number, the highest first. -/
def be : Nat → Int → List UInt8
  | 0, _ => []
  | n + 1, x => UInt8.ofNat (x.toNat / 2 ^ (8 * n)) :: be n x
theorem be_len (x : Int) : ∀ n, (be n x).length = n
  | 0 => rfl
  | n + 1 => by simp [be, be_len x n]
/-- Does it not fit? -/
def beBad (n x : Int) : Bool := if x < 0 then true else if n < 8 then !decide (x.fdiv (2 ^ (8 * n).toNat) = 0) else false
/-- What is laid. -/
def num (n x : Int) : List UInt8 := if beBad n x then [] else be n.toNat x
theorem num_len (n x : Int) : (num n x).length ≤ n.toNat := by unfold num; split <;> simp [be_len]
theorem I_app (a b : List UInt8) : I (a ++ b) = I a ++ I b := by simp [I]
theorem I_len (a : List UInt8) : (I a).length = a.length := by simp [I]
theorem map_I (s : List UInt8) : List.map (fun b => (b.toNat : Int)) s = I s := rfl
theorem I_nil : I [] = [] := rfl
theorem byte_of (x : Int) (hx : 0 ≤ x) (n : Nat) : IntKind.wrap .u8 (x.fdiv (2 ^ n)) = ((UInt8.ofNat (x.toNat / 2 ^ n)).toNat : Int) := by
  rw [fdiv_pow x hx, wrap8]; simp
theorem be_step (c : List Int) (x : Int) (hx : 0 ≤ x) (n : Nat) : c ++ [IntKind.wrap .u8 (x.fdiv (2 ^ (8 * n)))] ++ I (be n x) = c ++ I (be (n + 1) x) := by
  rw [byte_of x hx]; simp [be, I]
theorem strOfInts_I (s : List UInt8) : strOfInts (I s) = s := by
  simp only [strOfInts, I, List.map_map]
  conv => rhs; rw [← List.map_id s]
  apply List.map_congr_left
  intro b _
  simp
end Ax

set_option linter.unusedVariables false
set_option linter.unusedSimpArgs false
namespace Ax
open Go
/-! ### a reader: what is left, and the first error -/
def rawOk (n : Int) (s : List UInt8) (e : Int) : Bool := decide (e = 0) && (decide (0 ≤ n) && decide (n ≤ (s.length : Int)))
def rawV (n : Int) (s : List UInt8) (e : Int) : List UInt8 := if rawOk n s e then s.take n.toNat else []
def rawS (n : Int) (s : List UInt8) (e : Int) : List UInt8 := if rawOk n s e then s.drop n.toNat else s
def rawE (n : Int) (s : List UInt8) (e : Int) : Int := if e = 0 then (if n < 0 then 1 else if (s.length : Int) < n then 2 else 0) else e
def failE (x e : Int) : Int := if e = 0 then x else e
def beVal (l : List UInt8) : Int := l.foldl (fun x b => x * 256 + (b.toNat : Int)) 0
def rdV (n : Int) (s : List UInt8) (e : Int) : Int := beVal (rawV n s e)
def e8E (s : List UInt8) (e : Int) : Int := if 8 ≤ s.length ∧ 127 < byteAt s 0 then failE 3 e else e
def txE1 (most : Int) (s : List UInt8) (e : Int) : Int := if (if most < 0 then 0 else most) < rdV 2 s e then failE 4 (rawE 2 s e) else rawE 2 s e
def txV (most : Int) (s : List UInt8) (e : Int) : List UInt8 := rawV (rdV 2 s e) (rawS 2 s e) (txE1 most s e)
def txE (most : Int) (s : List UInt8) (e : Int) : Int := rawE (rdV 2 s e) (rawS 2 s e) (txE1 most s e)
def txS (most : Int) (s : List UInt8) (e : Int) : List UInt8 := if txE most s e = 0 then rawS (rdV 2 s e) (rawS 2 s e) (txE1 most s e) else s
def endE (s : List UInt8) (e : Int) : Int := if 0 < s.length then failE 3 e else e

/-- A reader's two cells at once. -/
abbrev RS := List UInt8 × Int
def rawP (n : Int) (p : RS) : RS := (rawS n p.1 p.2, rawE n p.1 p.2)
def failP (x : Int) (p : RS) : RS := (p.1, failE x p.2)
def e8P (p : RS) : RS := (rawS 8 p.1 (e8E p.1 p.2), rawE 8 p.1 (e8E p.1 p.2))
def txP (most : Int) (p : RS) : RS := (txS most p.1 p.2, txE most p.1 p.2)
def endP (p : RS) : RS := (p.1, endE p.1 p.2)
theorem rawP_1 (n : Int) (s : List UInt8) (e : Int) : (rawP n (s, e)).1 = rawS n s e := by simp only [rawP]
theorem rawP_2 (n : Int) (s : List UInt8) (e : Int) : (rawP n (s, e)).2 = rawE n s e := by simp only [rawP]
theorem failP_1 (n : Int) (s : List UInt8) (e : Int) : (failP n (s, e)).1 = s := by simp only [failP]
theorem failP_2 (n : Int) (s : List UInt8) (e : Int) : (failP n (s, e)).2 = failE n e := by simp only [failP]
theorem e8P_1 (s : List UInt8) (e : Int) : (e8P (s, e)).1 = rawS 8 s (e8E s e) := by simp only [e8P]
theorem e8P_2 (s : List UInt8) (e : Int) : (e8P (s, e)).2 = rawE 8 s (e8E s e) := by simp only [e8P]
theorem txP_1 (n : Int) (s : List UInt8) (e : Int) : (txP n (s, e)).1 = txS n s e := by simp only [txP]
theorem txP_2 (n : Int) (s : List UInt8) (e : Int) : (txP n (s, e)).2 = txE n s e := by simp only [txP]
theorem endP_1 (s : List UInt8) (e : Int) : (endP (s, e)).1 = s := by simp only [endP]
theorem endP_2 (s : List UInt8) (e : Int) : (endP (s, e)).2 = endE s e := by simp only [endP]

theorem rawV_len (n : Int) (s : List UInt8) (e : Int) : (rawV n s e).length ≤ s.length := by
  unfold rawV; split
  · simp; omega
  · simp
theorem rawV_len' (n : Int) (s : List UInt8) (e : Int) : (rawV n s e).length ≤ n.toNat := by
  unfold rawV; split
  · simp; omega
  · simp
theorem beVal_app (l : List UInt8) (b : UInt8) : beVal (l ++ [b]) = beVal l * 256 + (b.toNat : Int) := by simp [beVal, List.foldl_append]
theorem beVal_nonneg : ∀ l : List UInt8, 0 ≤ beVal l := fun l => by
  unfold beVal
  have : ∀ (l : List UInt8) (a : Int), 0 ≤ a → 0 ≤ l.foldl (fun x b => x * 256 + (b.toNat : Int)) a := by
    intro l
    induction l with
    | nil => intro a h; exact h
    | cons b r ih => intro a h; exact ih _ (by show 0 ≤ a * 256 + (b.toNat : Int); omega)
  exact this l 0 (by omega)
theorem foldl_be (l : List UInt8) (a : Int) : l.foldl (fun x b => x * 256 + (b.toNat : Int)) a = a * 256 ^ l.length + beVal l := by
  unfold beVal
  induction l generalizing a with
  | nil => simp
  | cons b r ih =>
    simp only [List.foldl_cons, List.length_cons]
    rw [ih (a * 256 + _), ih (0 * 256 + _)]
    rw [Int.add_mul, Int.pow_succ, Int.mul_assoc, Int.mul_comm 256 (256 ^ r.length)]
    simp only [Int.zero_mul, Int.zero_add]
    omega
theorem beVal_lt (l : List UInt8) : beVal l < 256 ^ l.length := by
  induction l with
  | nil => simp [beVal]
  | cons b r ih =>
    have h1 : beVal (b :: r) = (b.toNat : Int) * 256 ^ r.length + beVal r := by
      have := foldl_be r ((0 : Int) * 256 + (b.toNat : Int))
      simp only [beVal, List.foldl_cons] at this ⊢
      rw [this]; simp [beVal]
    have hb : (b.toNat : Int) < 256 := by have := b.toNat_lt; omega
    rw [h1, List.length_cons, Int.pow_succ]
    have hp : (0 : Int) < 256 ^ r.length := Int.pow_pos (by omega)
    have : (b.toNat : Int) * 256 ^ r.length ≤ 255 * 256 ^ r.length := Int.mul_le_mul_of_nonneg_right (by omega) (by omega)
    omega
theorem beVal_take_le (l : List UInt8) (i : Nat) : beVal (l.take i) ≤ beVal l := by
  have h := List.take_append_drop i l
  have : beVal l = beVal (l.take i) * 256 ^ (l.drop i).length + beVal (l.drop i) := by
    conv => lhs; rw [← h]
    unfold beVal
    rw [List.foldl_append, foldl_be]
    rfl
  have h1 := beVal_nonneg (l.drop i)
  have h2 := beVal_nonneg (l.take i)
  have hp : (1 : Int) ≤ 256 ^ (l.drop i).length := Int.pow_pos (by omega)
  have := Int.mul_le_mul_of_nonneg_left hp h2
  omega
theorem rdV_small (n : Int) (s : List UInt8) (e : Int) (h : n ≤ 7) : rdV n s e < 72057594037927936 := by
  have h1 := beVal_lt (rawV n s e)
  have h2 := rawV_len' n s e
  have h3 : (256 : Int) ^ (rawV n s e).length ≤ 256 ^ 7 := by
    have e1 : ∀ k : Nat, (256 : Int) ^ k = ((256 ^ k : Nat) : Int) := fun k => by simp
    rw [e1, e1]
    exact Int.ofNat_le.2 (Nat.pow_le_pow_right (by omega) (by omega))
  have h4 : (256 : Int) ^ 7 = 72057594037927936 := by decide
  unfold rdV; omega
theorem rdV_lt (n : Nat) (s : List UInt8) (e : Int) : rdV n s e < 256 ^ n := by
  have h1 := beVal_lt (rawV n s e)
  have h2 := rawV_len' n s e
  have h3 : (256 : Int) ^ (rawV n s e).length ≤ 256 ^ n := by
    have e1 : ∀ k : Nat, (256 : Int) ^ k = ((256 ^ k : Nat) : Int) := fun k => by simp
    rw [e1, e1]
    exact Int.ofNat_le.2 (Nat.pow_le_pow_right (by omega) (by omega))
  unfold rdV; omega
theorem rdV_1 (s : List UInt8) (e : Int) : rdV 1 s e < 256 := rdV_lt 1 s e
theorem rdV_2 (s : List UInt8) (e : Int) : rdV 2 s e < 65536 := rdV_lt 2 s e
theorem beBad_ok (n : Nat) (x : Int) (h0 : 0 ≤ x) (h : x < 256 ^ n) : beBad n x = false := by
  unfold beBad
  rw [if_neg (by omega)]
  split
  · have e : (8 * (n : Int)).toNat = 8 * n := by omega
    rw [e, fdiv_pow x h0]
    have : x.toNat / 2 ^ (8 * n) = 0 := by
      apply Nat.div_eq_of_lt
      have e1 : (256 : Int) ^ n = ((2 ^ (8 * n) : Nat) : Int) := by rw [Nat.pow_mul]; simp
      rw [e1] at h; omega
    simp [this]
  · rfl
theorem num_ok (n : Nat) (x : Int) (h0 : 0 ≤ x) (h : x < 256 ^ n) : num n x = be n x := by unfold num; rw [beBad_ok n x h0 h]; simp
theorem rdV_nonneg (n : Int) (s : List UInt8) (e : Int) : 0 ≤ rdV n s e := beVal_nonneg _
theorem rdV_8 (s : List UInt8) (e : Int) : rdV 8 s (e8E s e) ≤ 9223372036854775807 := by
  unfold rdV rawV
  cases hk : rawOk 8 s (e8E s e) with
  | false => simp [beVal]
  | true =>
    simp only [rawOk, Bool.and_eq_true, decide_eq_true_eq] at hk
    obtain ⟨h1, _, h3⟩ := hk
    simp only [if_true]
    have h8 : 8 ≤ s.length := by omega
    match s, h8 with
    | b :: r, h8 =>
      have hb : ¬ 127 < byteAt (b :: r) 0 := fun h => by
        unfold e8E at h1
        rw [if_pos ⟨h8, h⟩] at h1
        unfold failE at h1
        split at h1 <;> omega
      simp only [byteAt, List.getD_cons_zero] at hb
      have e1 : (8 : Int).toNat = 8 := rfl
      rw [e1, List.take_succ_cons]
      have h1 : beVal (b :: r.take 7) = (b.toNat : Int) * 256 ^ (r.take 7).length + beVal (r.take 7) := by
        have := foldl_be (r.take 7) ((0 : Int) * 256 + (b.toNat : Int))
        simp only [beVal, List.foldl_cons] at this ⊢
        rw [this]; simp [beVal]
      have h2 := beVal_lt (r.take 7)
      have h3 : (r.take 7).length = 7 := by simp at h8 ⊢; omega
      rw [h3] at h1 h2
      have h4 : (256 : Int) ^ 7 = 72057594037927936 := by decide
      rw [h4] at h1 h2
      omega
/-- x<<8|b. -/
theorem shl_or (x b : Int) (hx : 0 ≤ x) (hx' : x * 256 + b ≤ 9223372036854775807) (hb : 0 ≤ b) (hb' : b < 256) : bitsI .or .i64 (IntKind.wrap .i64 (x * 2 ^ 8)) b = x * 256 + b := by
  obtain ⟨m, rfl⟩ := Int.eq_ofNat_of_zero_le hx
  obtain ⟨c, rfl⟩ := Int.eq_ofNat_of_zero_le hb
  have e1 : IntKind.wrap .i64 ((m : Int) * 2 ^ 8) = ((m * 256 : Nat) : Int) := by rw [wrap64] <;> simp <;> omega
  rw [e1]
  simp only [bitsI]
  have e2 : (BitVec.ofInt IntKind.i64.bits ((m * 256 : Nat) : Int) ||| BitVec.ofInt IntKind.i64.bits ((c : Nat) : Int)).toNat = m * 256 + c := by
    have h64 : IntKind.i64.bits = 64 := rfl
    rw [BitVec.toNat_or]
    have t1 : (BitVec.ofInt IntKind.i64.bits ((m * 256 : Nat) : Int)).toNat = m * 256 := by
      rw [h64, BitVec.ofInt_natCast, BitVec.toNat_ofNat]; apply Nat.mod_eq_of_lt; omega
    have t2 : (BitVec.ofInt IntKind.i64.bits ((c : Nat) : Int)).toNat = c := by
      rw [h64, BitVec.ofInt_natCast, BitVec.toNat_ofNat]; apply Nat.mod_eq_of_lt; omega
    rw [t1, t2]
    have : m * 256 = 2 ^ 8 * m := by omega
    rw [this, ← Nat.two_pow_add_eq_or_of_lt (by omega : c < 2 ^ 8)]
  rw [e2, wrap64] <;> simp <;> omega
theorem strLt_irrefl : ∀ a : List UInt8, strLt a a = false
  | [] => rfl
  | x :: r => by simp only [strLt, Op.bytesLess]; have := strLt_irrefl r; simp only [strLt] at this; simp [this]
theorem strLt_total : ∀ a b : List UInt8, strLt a b = false → a ≠ b → strLt b a = true
  | [], [], _, h => (h rfl).elim
  | [], _ :: _, h, _ => by simp [strLt, Op.bytesLess] at h
  | _ :: _, [], _, _ => by simp [strLt, Op.bytesLess]
  | x :: r, y :: s, h, hn => by
    simp only [strLt, Op.bytesLess] at h ⊢
    by_cases e : x = y
    · subst e
      have := strLt_total r s
      simp only [strLt] at this
      simp at h ⊢
      exact this h (fun e => hn (by rw [e]))
    · grind
theorem strLt_asymm : ∀ a b : List UInt8, strLt a b = true → strLt b a = false
  | [], [], h => by simp [strLt, Op.bytesLess] at h
  | [], _ :: _, _ => by simp [strLt, Op.bytesLess]
  | _ :: _, [], h => by simp [strLt, Op.bytesLess] at h
  | x :: r, y :: s, h => by
    simp only [strLt, Op.bytesLess] at h ⊢
    by_cases e : x = y
    · subst e
      have := strLt_asymm r s
      simp only [strLt] at this
      simp at h ⊢
      exact this h
    · grind
theorem strLt_le {a b : List UInt8} : (strLt a b = true ∨ a = b) ↔ strLt b a = false := by
  constructor
  · rintro (h | rfl)
    · exact strLt_asymm a b h
    · exact strLt_irrefl a
  · intro h
    by_cases e : a = b
    · exact .inr e
    · exact .inl (strLt_total b a h (Ne.symm e))
theorem wrap64_byte (b : Int) (h : 0 ≤ b) (h' : b < 256) : IntKind.wrap .i64 b = b := wrap64 (by omega) (by omega)
end Ax
