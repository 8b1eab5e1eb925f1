/- Operations that act: append, and all of them together. Conditions: none; lemmas. -/
import Derived.Test.YtfohmbookjnkgaaGreatDoorAxC
import Derived.Calls
set_option linter.unusedVariables false
set_option linter.unusedSimpArgs false
namespace Ax
open Go
variable {P : Program} {ρ : Rho} {nx : Nat} {ok : Nat → Prop} {w : World} {hp : Heap}

theorem own_row {w1 : World} {e N n : Nat} {l : Loc} {v : Value} {cells : List Value} {x : D} (ho : OwnS w1 e l v N cells) (hx : x.isSl = true) (hw : x.wid = l.m) (hN : x.cnt = N) (hb : N ≤ 281474976710656)
    (hc : ∀ i j, i < N → j < x.wid → ∃ u, cells[i * x.wid + j]? = some u ∧ RD ok w1 (x.at i j) u) {ρ' : Rho} (hn : ρ' n = l) : Holds ρ' ok w1 n (.row e x) ∧ Rel ρ' ok w1 (.sl n 0 N) v := by
  rcases ho with ⟨h1, rfl, rfl, rfl⟩ | ⟨b, ad, c, arr, fz, h1, rfl, hlc, had, hh, hu, hs, hcs, rfl⟩
  · refine ⟨⟨hx, by rw [hn]; exact hw, by omega, ?_⟩, ?_⟩
    · rw [hn, h1]; exact hN
    · simp only [Rel]; rw [hn, h1]; simp
  · refine ⟨⟨hx, by rw [hn]; exact hw, by omega, ?_⟩, ?_⟩
    · rw [hn, h1]
      refine ⟨arr, fz, hh, hu, hs, ?_, fun i j hi hj => ?_⟩
      · rw [hN, hw, hs, ← hcs]; exact Nat.mul_le_mul_right _ hlc
      · obtain ⟨u, q1, q2⟩ := hc i j (by omega) hj
        exact ⟨u, by simpa using take_get q1, q2⟩
    · simp only [Rel]; rw [hn, h1]
      exact ⟨ad, c, rfl, hlc, by rw [Nat.zero_add]; exact hcs, fun h => by rw [Nat.zero_mul]; exact had h⟩
theorem own_vals {w1 : World} {e N n : Nat} {l : Loc} {v : Value} {cells : List Value} {L : List A} (ho : OwnS w1 e l v N cells) (hs : l.b ≠ none) (hL : L.length = N * l.m) {ρ' : Rho} (hr : RelL ρ' ok w1 L cells) (h1 : ∀ u ∈ cells, one u = true)
    (hn : ρ' n = l) : Holds ρ' ok w1 n (.vals e l.m L) ∧ Rel ρ' ok w1 (.sl n 0 N) v := by
  rcases ho with ⟨h2, rfl, rfl, rfl⟩ | ⟨b, ad, c, arr, fz, h2, rfl, hlc, had, hh, hu, hsz, hcs, rfl⟩
  · exact absurd h2 hs
  · refine ⟨⟨b, arr, fz, by rw [hn]; exact h2, by rw [hn], hh, hu, by rw [hn]; exact hsz, ?_, by rw [hL]; exact hr, by rw [hL]; exact h1⟩, ?_⟩
    · rw [hL, hsz, ← hcs]; exact Nat.mul_le_mul_right _ hlc
    · simp only [Rel]; rw [hn, h2]
      exact ⟨ad, c, rfl, hlc, by rw [Nat.zero_add]; exact hcs, fun h => by rw [Nat.zero_mul]; exact had h⟩

/-- A row of data as somebody's own slice. -/
theorem row_own (S : Sat ρ ok hp w) {n ty : Nat} {z : D} {v : Value} (ho : hget hp n = some (.row ty z)) (hr : Rel ρ ok w (.sl n 0 z.cnt) v) :
    ∃ olds, OwnS w ty (ρ n) v z.cnt olds ∧ ∀ i j, i < z.cnt → j < z.wid → ∃ u, olds[i * z.wid + j]? = some u ∧ RD ok w (z.at i j) u := by
  obtain ⟨hsl, hm, hc, hrow⟩ := S.obj n _ ho
  simp only [Rel] at hr
  cases hb : (ρ n).b with
  | none =>
    rw [hb] at hr
    obtain ⟨_, h0, rfl⟩ := hr
    exact ⟨[], .inl ⟨hb, rfl, h0, rfl⟩, fun i j hi => by omega⟩
  | some b =>
    rw [hb] at hr hrow
    obtain ⟨ad, c, rfl, hlc, hsz, had⟩ := hr
    obtain ⟨arr, fz, hh, hu, hasz, hcw, hcell⟩ := hrow
    refine ⟨_, .inr ⟨b, ad, c, arr, fz, hb, rfl, hlc, fun h => by simpa using had h, hh, hu, hasz, by rw [Nat.zero_add] at hsz; exact hsz, rfl⟩, fun i j hi hj => ?_⟩
    obtain ⟨u, q1, q2⟩ := hcell i j hi hj
    refine ⟨u, ?_, q2⟩
    rw [List.getElem?_take, if_pos]
    · simpa using q1
    · rw [← hm]
      have : i * z.wid + z.wid ≤ z.cnt * z.wid := by rw [← Nat.succ_mul]; exact Nat.mul_le_mul_right _ hi
      omega
theorem vals_own (g : Good ρ nx ok hp w) {n ty m len : Nat} {L : List A} {v : Value} (ho : hget hp n = some (.vals ty m L)) (hl : len * m = L.length) (hr : Rel ρ ok w (.sl n 0 len) v) :
    (ρ n).m = m ∧ (ρ n).b ≠ none ∧ ∃ olds, OwnS w ty (ρ n) v len olds ∧ RelGL ρ nx ok w L olds ∧ ∀ u ∈ olds, one u = true := by
  obtain ⟨b, arr, fz, hb, hm, hh, hu, hsz, hll, hrl, h1⟩ := g.now.obj n _ ho
  simp only [Rel] at hr
  rw [hb] at hr
  obtain ⟨ad, c, rfl, hlc, hcs, had⟩ := hr
  refine ⟨hm.symm, by rw [hb]; simp, arr.toList.take L.length, .inr ⟨b, ad, c, arr, fz, hb, rfl, hlc, fun h => by simpa using had h, hh, hu, hsz, by rw [Nat.zero_add] at hcs; exact hcs, by rw [← hm, hl]⟩, fun ρ' ha => ?_, h1⟩
  obtain ⟨b2, arr2, fz2, hb2, _, hh2, _, _, _, hr2, _⟩ := (g.sat ρ' ha).obj n _ ho
  obtain rfl : b2 = b := by rw [ha n (g.bd n _ ho), hb] at hb2; simpa using hb2.symm
  rw [hh] at hh2
  simp at hh2
  obtain ⟨rfl, rfl, rfl⟩ := hh2
  exact hr2

/-- The cells of two rows, one behind the other. -/
theorem cells_app {w1 : World} {z y z' : D} {olds news : List Value} (h : z.app y = some z') (hl : olds.length = z.cnt * z.wid)
    (h1 : ∀ i j, i < z.cnt → j < z.wid → ∃ u, olds[i * z.wid + j]? = some u ∧ RD ok w1 (z.at i j) u)
    (h2 : ∀ i j, i < nD y → j < widS y → ∃ u, news[i * widS y + j]? = some u ∧ RD ok w1 (atS y i j) u) :
    ∀ i j, i < z.cnt + nD y → j < z'.wid → ∃ u, (olds ++ news)[i * z'.wid + j]? = some u ∧ RD ok w1 (z'.at i j) u := by
  obtain ⟨_, _, a1, a2, a3, a4, a5⟩ := app_ok h
  intro i j hi hj
  rw [a1] at hj ⊢
  by_cases hc : i < z.cnt
  · obtain ⟨u, q1, q2⟩ := h1 i j hc hj
    refine ⟨u, ?_, by rw [a4 i j hc]; exact q2⟩
    rw [List.getElem?_append_left (List.getElem?_eq_some_iff.1 q1).1]; exact q1
  · rw [a2] at h2
    obtain ⟨u, q1, q2⟩ := h2 (i - z.cnt) j (by omega) hj
    have e : i = z.cnt + (i - z.cnt) := by omega
    refine ⟨u, ?_, by rw [e, a5 (i - z.cnt) j (by omega) hj]; exact q2⟩
    have hge : z.cnt * z.wid ≤ i * z.wid := Nat.mul_le_mul_right _ (by omega)
    rw [List.getElem?_append_right (by rw [hl]; omega), hl, ← q1, Nat.sub_mul]
    congr 1; omega

theorem killL_len (n : Nat) : ∀ l : List A, (killL n l).length = l.length
  | [] => rfl
  | x :: r => by simp [killL, killL_len n r]
theorem own_len {w1 : World} {e : Nat} {l : Loc} {v : Value} {len : Nat} {olds : List Value} (h : OwnS w1 e l v len olds) : olds.length = len * l.m := by
  rcases h with ⟨_, _, rfl, rfl⟩ | ⟨b, ad, c, arr, fz, _, _, hc, _, _, _, hsz, hcs, rfl⟩
  · simp
  · rw [List.length_take]
    have : len * l.m ≤ c * l.m := Nat.mul_le_mul_right _ hc
    simp; omega

theorem okP_addP {p : Option Prop} {q : Prop} (h : addP p q) : okP p ∧ q := by
  cases p with
  | none => exact ⟨trivial, h⟩
  | some r => exact h

theorem append_eff (g : Good ρ nx ok hp w) {t t' ty : Nat} {s x : A} {v a : Value} {r : R} (h : appendA P t hp nx s x = some r) (hu : srcT P t' = true) (hpre : r.pre)
    (hs : RelG ρ nx ok w s v) (hx : RelG ρ nx ok w x a) :
    Eff ρ nx ok hp w r ((do pure (Next.value (← Builtin.append_ #[t, t'] ty #[v, a])) : Sem Next).run P w) := by
  unfold appendA at h
  cases he : elT P t with
  | none => simp [he] at h
  | some e =>
    have ht := underlying_of_elT he
    simp only [he] at h
    have hfr : ∀ {w1 : World}, Evo (fun b => False) w w1 → ∀ b, ok b → w1.heap[b]? = w.heap[b]? := fun hev b hb => hev.block b (g.now.oklt b hb) (fun h => h)
    cases hsrc : srcOf hp x with
    | none =>
      simp only [hsrc] at h
      cases x with
      | nilsl =>
        simp only at h
        cases hsz : elSz P e with
        | none => simp [hsz] at h
        | some m =>
          simp only [hsz, Option.isNone_some, cond_false] at h
          obtain ⟨z, i, zv, hz, hk, hzl, hi, hiz, his, h0, hb0, hby, hvs⟩ := elSz_ok hsz
          obtain rfl := hx.now
          have hS : Src P w m (.slice none 0 0) 0 [] := ⟨fun w' _ => by simp [Builtin.lenOf], fun w' _ => run_firstCells_none w' m 0 0 0, by simp, by simp⟩
          cases s with
          | nilsl =>
            simp at h; subst h
            obtain rfl := hs.now
            exact ⟨_, w, ρ, .inl (run_v' (run_app_nil0 (P := P) ht hu hi his hS (Nat.le_refl 0))), Step.refl g, hs⟩
          | sl n off len =>
            simp at h; subst h
            have hs' := hs.now
            simp only [Rel] at hs'
            cases hb : (ρ n).b with
            | none =>
              rw [hb] at hs'
              obtain ⟨_, _, rfl⟩ := hs'
              exact ⟨_, w, ρ, .inl (run_v' (run_app_nil0 (P := P) ht hu hi his hS (Nat.le_refl 0))), Step.refl g, hs⟩
            | some b =>
              rw [hb] at hs'
              obtain ⟨ad, c, rfl, hlc, _⟩ := hs'
              exact ⟨_, w, ρ, .inl (run_v' (run_app_room (P := P) ht hu hi his hS hlc (by simp [storeCells]))), Step.refl g, hs⟩
          | _ => simp at h
      | _ => simp at h
    | some q =>
      obtain ⟨p, src⟩ := q
      simp only [hsrc] at h
      cases src with
      | inl y =>
        simp only at h
        cases s with
        | nilsl =>
          simp only at h
          cases hap : (emptyLike y).app y with
          | none => simp [hap] at h
          | some y' =>
            simp only [hap] at h
            cases hsm : sameN (some y'.wid) (elSz P e) with
            | false => simp [hsm] at h
            | true =>
              simp only [hsm, cond_true, Option.some.injEq] at h
              subst h
              obtain ⟨hP, hlim⟩ := okP_addP hpre
              obtain ⟨m, e1, e2⟩ := sameN_spec hsm
              obtain ⟨z, i, zv, hz, hk, hzl, hi, hiz, his, h0, hb0, hby, hvs⟩ := elSz_ok e2
              simp at e1
              rw [hby] at hlim
              simp only [lim] at hlim
              obtain rfl := hs.now
              obtain ⟨a0, a1, a2, a3, a4, a5, a6⟩ := app_ok hap
              have hem : (emptyLike y).cnt = 0 := by cases y <;> simp [emptyLike, D.cnt, D.isSl] at a0 ⊢
              obtain ⟨news, hS, hcell⟩ := srcA_ok g.now hsrc hP hx.now
              rw [a3, ← a2, e1] at hS
              have hn : y'.cnt = nD y := by omega
              obtain ⟨v', w1, l', hrun, hown, hlm, hlb, hev, hlt, hnone⟩ := app_run (P := P) (ty := ty) (l := ⟨none, m, 0⟩) ht hu hi hiz hvs his h0 hb0 rfl (by simp) (.inl ⟨rfl, rfl, rfl, rfl⟩) hS (by rw [Nat.zero_add, ← hn]; exact hlim)
              have hev' : Evo (fun _ => False) w w1 := ⟨hev.os, hev.tape, hev.output, hev.size, fun b hb _ => hev.block b hb (by simp)⟩
              have hc2 := cells_app (ok := ok) (w1 := w1) (olds := []) hap (by simp [hem]) (fun i j hi => by omega) (fun i j hi hj => by
                obtain ⟨u, q1, q2⟩ := hcell i j hi hj
                exact ⟨u, q1, RD_mono (fun _ h => h) (hfr hev') _ _ q2⟩)
              rw [hem, Nat.zero_add] at hc2
              rw [Nat.zero_add] at hown
              have hle : nD y ≤ 281474976710656 := by
                have : y'.cnt ≤ y'.cnt * i.bytes := Nat.le_mul_of_pos_right _ hb0
                omega
              have key : ∀ ρ' : Rho, ρ' nx = l' → Holds ρ' ok w1 nx (.row e y') ∧ Rel ρ' ok w1 (.sl nx 0 (nD y)) v' := fun ρ' hn' => own_row hown a1 (by rw [hlm]; exact e1) hn hle hc2 hn'
              refine ⟨_, _, _, .inl (run_v' hrun), step_new g l' (fun b hb => ?_) hev' hlt fun ρ' ha => (key ρ' (upd_agree ha).2).1, fun ρ' ha => ?_⟩
              · rcases hlb b hb with h | h
                · simp at h
                · exact h
              · show Rel ρ' ok w1 (.sl nx 0 y'.cnt) v'
                rw [hn]; exact (key ρ' (upd_agree ha).2).2
        | sl n off len =>
          simp only at h
          cases ho : hget hp n with
          | none => simp [ho] at h
          | some o => cases o with
            | row ty' z0 =>
              simp only [ho] at h
              cases hap : z0.app y with
              | none => simp [hap] at h
              | some z' =>
                simp only [hap] at h
                cases hsm : (Nat.beq off 0 && Nat.beq ty' e && sameN (some z'.wid) (elSz P e)) with
                | false => simp [hsm] at h
                | true =>
                  simp only [hsm, cond_true, Option.some.injEq] at h
                  subst h
                  simp only [Bool.and_eq_true] at hsm
                  obtain ⟨⟨c1, c2⟩, c3⟩ := hsm
                  obtain rfl := Nat.eq_of_beq_eq_true c1
                  obtain rfl := Nat.eq_of_beq_eq_true c2
                  obtain ⟨hP, hlc, hlim⟩ := okP_addP hpre
                  subst hlc
                  obtain ⟨m, e1, e2⟩ := sameN_spec c3
                  obtain ⟨z, i, zv, hz, hk, hzl, hi, hiz, his, h0, hb0, hby, hvs⟩ := elSz_ok e2
                  simp at e1
                  rw [hby] at hlim
                  simp only [lim] at hlim
                  obtain ⟨a0, a1, a2, a3, a4, a5, a6⟩ := app_ok hap
                  obtain ⟨hsl, hm, hc, hrow⟩ := g.now.obj n _ ho
                  obtain ⟨olds, hown0, hold⟩ := row_own g.now ho hs.now
                  obtain ⟨news, hS, hcell⟩ := srcA_ok g.now hsrc hP hx.now
                  rw [a3, ← a2, e1] at hS
                  have hwm : (ρ n).m = m := by rw [← hm, ← a2]; exact e1
                  obtain ⟨v', w1, l', hrun, hown, hlm, hlb, hev, hlt, hnone⟩ := app_run (P := P) (ty := ty) ht hu hi hiz hvs his h0 hb0 hwm (fun b hb => g.now.lt n _ b ho hb) hown0 hS (by rw [← a4]; exact hlim)
                  have hss : ∀ b, ok b → w1.heap[b]? = w.heap[b]? := fun b hb => hev.block b (g.now.oklt b hb) (fun hbn => g.now.nok n _ b ho hbn hb)
                  have hc2 := cells_app (ok := ok) (w1 := w1) hap (by rw [own_len hown0, ← hm]) (fun i j hi hj => by
                      obtain ⟨u, q1, q2⟩ := hold i j hi hj
                      exact ⟨u, q1, RD_mono (fun _ h => h) hss _ _ q2⟩) (fun i j hi hj => by
                      obtain ⟨u, q1, q2⟩ := hcell i j hi hj
                      exact ⟨u, q1, RD_mono (fun _ h => h) hss _ _ q2⟩)
                  have hle : z0.cnt + nD y ≤ 281474976710656 := by
                    have : z'.cnt ≤ z'.cnt * i.bytes := Nat.le_mul_of_pos_right _ hb0
                    omega
                  have key : ∀ ρ' : Rho, ρ' n = l' → Holds ρ' ok w1 n (.row ty' z') ∧ Rel ρ' ok w1 (.sl n 0 (z0.cnt + nD y)) v' := fun ρ' hn' => own_row hown a1 (by rw [hlm]; exact e1) a4 hle hc2 hn'
                  have hnx := g.bd n _ ho
                  refine ⟨_, _, _, .inl (run_v' hrun), step_row g ho l' hlb hev hlt fun ρ' ha => (key ρ' ((ha n hnx).trans (upd_same _ _ _))).1, fun ρ' ha => ?_⟩
                  show Rel ρ' ok w1 (.sl n 0 z'.cnt) v'
                  rw [a4]; exact (key ρ' ((ha n hnx).trans (upd_same _ _ _))).2
            | _ => simp [ho] at h
        | _ => simp at h
      | inr ml =>
        obtain ⟨m0, L⟩ := ml
        simp only at h
        obtain ⟨n0, news, hnl, hS, hrn⟩ := srcL_ok (P := P) g hsrc hx
        cases s with
        | nilsl =>
          simp only at h
          cases hsm : (sameN (some m0) (elSz P e) && Nat.blt 0 m0 && Nat.blt 0 L.length) with
          | false => simp [hsm] at h
          | true =>
            simp only [hsm, cond_true, Option.some.injEq] at h
            subst h
            simp only [Bool.and_eq_true, Nat.blt_eq] at hsm
            obtain ⟨⟨c1, c2⟩, c3⟩ := hsm
            obtain ⟨m, e1, e2⟩ := sameN_spec c1
            obtain ⟨z, i, zv, hz, hk, hzl, hi, hiz, his, h0, hb0, hby, hvs⟩ := elSz_ok e2
            simp at e1; subst e1
            have hlim : L.length * byT P e ≤ lim := hpre
            rw [hby] at hlim
            simp only [lim] at hlim
            obtain rfl := hs.now
            have hnle : n0 ≤ L.length := by rw [← hnl]; exact Nat.le_mul_of_pos_right _ c2
            obtain ⟨v', w1, l', hrun, hown, hlm, hlb, hev, hlt, hnone⟩ := app_run (P := P) (ty := ty) (l := ⟨none, m0, 0⟩) ht hu hi hiz hvs his h0 hb0 rfl (by simp) (.inl ⟨rfl, rfl, rfl, rfl⟩) hS (by rw [Nat.zero_add]; exact Nat.le_trans (Nat.mul_le_mul_right _ hnle) hlim)
            have hev' : Evo (fun _ => False) w w1 := ⟨hev.os, hev.tape, hev.output, hev.size, fun b hb _ => hev.block b hb (by simp)⟩
            have hne : l'.b ≠ none := fun hb => by
              have := (hnone hb).1
              have : n0 = 0 := by omega
              rw [this] at hnl; simp at hnl; rw [← hnl] at c3; omega
            rw [Nat.zero_add] at hown
            have hdiv : L.length / m0 = n0 := by rw [← hnl]; exact Nat.mul_div_cancel _ c2
            have key : ∀ ρ' : Rho, Agree nx ρ ρ' → ρ' nx = l' → Holds ρ' ok w1 nx (.vals e m0 L) ∧ Rel ρ' ok w1 (.sl nx 0 n0) v' := fun ρ' ha hn' => by
              have := own_vals (ok := ok) (n := nx) hown hne (L := L) (by rw [hlm, hnl]) (ρ' := ρ') (RelL_mono (fun _ h => h) (hfr hev') _ _ (by simpa using hrn ρ' ha)) (by simpa using hS.one) hn'
              rwa [hlm] at this
            refine ⟨_, _, _, .inl (run_v' hrun), step_new g l' (fun b hb => ?_) hev' hlt fun ρ' ha => (key ρ' (upd_agree ha).1 (upd_agree ha).2).1, fun ρ' ha => ?_⟩
            · rcases hlb b hb with h | h
              · simp at h
              · exact h
            · show Rel ρ' ok w1 (.sl nx 0 (L.length / m0)) v'
              rw [hdiv]; exact (key ρ' (upd_agree ha).1 (upd_agree ha).2).2
        | sl n off len =>
          simp only at h
          cases ho : hget hp n with
          | none => simp [ho] at h
          | some o => cases o with
            | vals ty' m' L' =>
              simp only [ho] at h
              cases hsm : (Nat.beq off 0 && Nat.beq ty' e && Nat.beq m0 m' && sameN (some m0) (elSz P e) && Nat.beq (len * m0) L'.length && Nat.blt 0 m0) with
              | false => simp [hsm] at h
              | true =>
                simp only [hsm, cond_true, Option.some.injEq] at h
                subst h
                simp only [Bool.and_eq_true] at hsm
                obtain ⟨⟨⟨⟨⟨c1, c2⟩, c3⟩, c4⟩, c5⟩, c6⟩ := hsm
                obtain rfl := Nat.eq_of_beq_eq_true c1
                obtain rfl := Nat.eq_of_beq_eq_true c2
                obtain rfl := Nat.eq_of_beq_eq_true c3
                have c5 := Nat.eq_of_beq_eq_true c5
                rw [Nat.blt_eq] at c6
                obtain ⟨m, e1, e2⟩ := sameN_spec c4
                obtain ⟨z, i, zv, hz, hk, hzl, hi, hiz, his, h0, hb0, hby, hvs⟩ := elSz_ok e2
                simp at e1; subst e1
                have hlim : (L' ++ L).length * byT P ty' ≤ lim := hpre
                rw [hby] at hlim
                simp only [lim] at hlim
                obtain ⟨hwm, hbn, olds, hown0, hro, ho1⟩ := vals_own g ho c5 hs.now
                have htot : (L' ++ L).length = (len + n0) * m0 := by rw [List.length_append, ← c5, ← hnl, Nat.add_mul]
                have hnle : len + n0 ≤ (L' ++ L).length := by rw [htot]; exact Nat.le_mul_of_pos_right _ c6
                obtain ⟨v', w1, l', hrun, hown, hlm, hlb, hev, hlt, hnone⟩ := app_run (P := P) (ty := ty) ht hu hi hiz hvs his h0 hb0 hwm (fun b hb => g.now.lt n _ b ho hb) hown0 hS (Nat.le_trans (Nat.mul_le_mul_right _ hnle) hlim)
                have hss : ∀ b, ok b → w1.heap[b]? = w.heap[b]? := fun b hb => hev.block b (g.now.oklt b hb) (fun hbn => g.now.nok n _ b ho hbn hb)
                have hne : l'.b ≠ none := fun hb => hbn (by rw [(hnone hb).2] at hb; exact hb)
                have hdiv : (L' ++ L).length / m0 = len + n0 := by rw [htot]; exact Nat.mul_div_cancel _ c6
                have hnx := g.bd n _ ho
                have key : ∀ ρ' : Rho, Agree nx (upd ρ n l') ρ' → Holds ρ' ok w1 n (.vals ty' m0 (killL n (L' ++ L))) ∧ Rel ρ' ok w1 (.sl n 0 (len + n0)) v' := fun ρ' ha => by
                  have hn' : ρ' n = l' := (ha n hnx).trans (upd_same _ _ _)
                  let ρ0 : Rho := fun q => if q = n then ρ n else ρ' q
                  have h0 : Agree nx ρ ρ0 := fun q hq => by
                    show (if q = n then ρ n else ρ' q) = ρ q
                    by_cases e : q = n
                    · rw [if_pos e, e]
                    · rw [if_neg e, ha q hq, upd_ne _ _ _ _ e]
                  have hrl := RelL_kill n (ρ := ρ0) (ρ' := ρ') (fun q hq => (if_neg hq).symm) _ _ (RelL_append (hro ρ0 h0) (hrn ρ0 h0))
                  have := own_vals (ok := ok) (n := n) hown hne (L := killL n (L' ++ L)) (by rw [hlm, killL_len]; exact htot) (ρ' := ρ') (RelL_mono (fun _ h => h) hss _ _ hrl) (fun u hu => by
                    simp only [List.mem_append] at hu
                    exact hu.elim (ho1 u) (hS.one u)) hn'
                  rwa [hlm] at this
                refine ⟨_, _, _, .inl (run_v' hrun), step_row g ho l' hlb hev hlt fun ρ' ha => (key ρ' ha).1, fun ρ' ha => ?_⟩
                show Rel ρ' ok w1 (.sl n 0 ((L' ++ L).length / m0)) v'
                rw [hdiv]; exact (key ρ' ha).2
            | _ => simp [ho] at h
        | _ => simp at h
end Ax

set_option linter.unusedVariables false
set_option linter.unusedSimpArgs false
namespace Ax
open Go
variable {P : Program} {ρ : Rho} {nx : Nat} {ok : Nat → Prop} {w : World} {hp : Heap}

theorem FrG.rel {fr : List (Bool × A)} {a : Act} (F : FrG ρ nx ok w fr a.tmps.toList) (x : Operand) (hd : dfO fr x = true) : RelG ρ nx ok w (evO fr x) (a.eval x) := fun ρ' ha => rdO_ok (F ρ' ha) x hd
theorem FrG.now {fr : List (Bool × A)} {vs : List Value} (F : FrG ρ nx ok w fr vs) : FrR ρ ok w fr vs := F ρ (Agree.refl _ _)
theorem FrG.list {fr : List (Bool × A)} {a : Act} (F : FrG ρ nx ok w fr a.tmps.toList) (l : List Operand) (hd : dfAll fr l = true) : RelGL ρ nx ok w (l.map (evO fr)) (l.map a.eval) := fun ρ' ha => RelL_map (F ρ' ha) l hd

theorem aeff_ok (g : Good ρ nx ok hp w) {fr : List (Bool × A)} {a : Act} (F : FrG ρ nx ok w fr a.tmps.toList) (o : Oper) {r : R} (hd : dfAll fr o.op.operands.toList = true)
    (h : aeff P fr hp nx o.op = some r) (hpre : r.pre) : Eff ρ nx ok hp w r ((execOp a.eval o).run P w) := by
  obtain ⟨dst, op, ty, pos, af, gd⟩ := o
  simp only at hd h
  have R := fun (x : Operand) (hx : x ∈ op.operands.toList) => F.rel x (dfAll_mem hd x hx)
  cases op with
  | alloc t => exact alloc_eff g h
  | box t x => exact box_eff g h (R x (by simp [Op.operands]))
  | store t x y => exact store_eff g h hpre (R x (by simp [Op.operands])) (R y (by simp [Op.operands]))
  | buildSlice t n ps =>
    have hmem : dfAll fr (ps.toList.map (·.2)) = true := by simpa [Op.operands] using hd
    exact buildSlice_eff g h hpre (by simpa [Function.comp_def] using F.list _ hmem)
  | makeSlice t l c => exact makeSlice_eff g h hpre (R l (by simp [Op.operands])) (R c (by simp [Op.operands]))
  | convert s d x => exact bytes_eff g h hpre (R x (by simp [Op.operands]))
  | call c =>
    obtain ⟨callee, args, ats⟩ := c
    simp only [aeff] at h
    cases callee with
    | builtin b =>
      cases b with
      | append =>
        simp only at h
        split at h
        · rename_i s x ha
          split at h
          · rename_i t t' ht
            cases hu : srcT P t' with
            | false => simp [hu] at h
            | true =>
              simp only [hu, cond_true] at h
              have hae : args = #[s, x] := by rw [← Array.toArray_toList (xs := args), ha]
              have hte : ats = #[t, t'] := by rw [← Array.toArray_toList (xs := ats), ht]
              subst hae; subst hte
              have := append_eff (P := P) (ty := ty) g h hu hpre (R s (by simp [Op.operands, Call.operands])) (R x (by simp [Op.operands, Call.operands]))
              have e : (execOp a.eval ⟨dst, .call ⟨.builtin .append, #[s, x], #[t, t']⟩, ty, pos, af, gd⟩).run P w = (do pure (Next.value (← Builtin.append_ #[t, t'] ty #[a.eval s, a.eval x])) : Sem Next).run P w := by
                simp [execOp, resolve, invoke, builtin]
              rw [e]; exact this
          · simp at h
        · simp at h
      | _ => simp at h
    | _ => simp at h
  | _ => simp [aeff] at h
end Ax

set_option linter.unusedVariables false
set_option linter.unusedSimpArgs false
namespace Ax
open Go

/-- Where a run began. -/
structure Base where
  ρ : Rho
  nx : Nat
  ok : Nat → Prop
  hp : Heap
  w : World
structure Mach (B : Base) (ρ : Rho) (ok : Nat → Prop) (st : St) (a : Act) (w : World) : Prop where
  step : Step B.ρ B.nx B.ok B.hp B.w ρ st.nx ok st.hp w st.kl
  fr : FrG ρ st.nx ok w st.fr a.tmps.toList
  df : a.defers = []
theorem Mach.good {B : Base} {ρ : Rho} {ok : Nat → Prop} {st : St} {a : Act} {w : World} (M : Mach B ρ ok st a w) : Good ρ st.nx ok st.hp w := M.step.good

variable {P : Program} {B : Base} {ρ : Rho} {ok : Nat → Prop} {st : St} {a : Act} {w : World}

theorem put_toList (a : Act) (d : Nat) (v : Value) : (a.put (some d) v).tmps.toList = a.tmps.toList.set d v := by simp [Act.put]
theorem put_defers (a : Act) (d : Option Nat) (v : Value) : (a.put d v).defers = a.defers := by cases d <;> rfl
theorem FrG_put {nx : Nat} {fr : List (Bool × A)} (F : FrG ρ nx ok w fr a.tmps.toList) (d : Option Nat) (g : Bool) (x : A) (v : Value) (h1 : g = true → RelG ρ nx ok w x v) (h2 : g = false → v = undef) :
    FrG ρ nx ok w (putFr fr d g x) (a.put d v).tmps.toList := fun ρ' ha => by
  cases d with
  | none => exact F ρ' ha
  | some d => rw [put_toList]; exact FrR_set (F ρ' ha) d g x v (fun hg => h1 hg ρ' ha) h2

/-! ### guards -/
theorem gcond_ok {fr : List (Bool × A)} {vs : Array Value} {all : Array Oper} {o : Oper} {γ : Bool} (F : FrR ρ ok w fr vs.toList) (h : gcond fr all o.guard = some γ) : Region.wanted o (yielded all vs) = γ := by
  unfold Region.wanted
  cases hg : o.guard with
  | none => rw [hg] at h; simp [gcond] at h; simp [h]
  | some jw =>
    obtain ⟨j, want⟩ := jw
    rw [hg] at h
    simp only [gcond] at h
    cases hd : (all[j]?).bind (·.dst) with
    | none => simp [hd] at h
    | some d =>
      simp only [hd] at h
      have hy : yielded all vs j = match vs[d]? with
        | some (.bool b) => some b
        | _ => none := by simp only [yielded, hd, Option.bind_some]; rfl
      simp only
      rw [hy]
      unfold rdT at h
      cases hx : fr[d]? with
      | none => simp [List.getD, hx] at h
      | some q =>
        obtain ⟨g, x⟩ := q
        obtain ⟨v, hv, h1, h2⟩ := FrR_get F d g x hx
        have hv' : vs[d]? = some v := by simpa using hv
        rw [hv']
        simp only [List.getD, hx, Option.getD_some] at h
        cases g with
        | false =>
          obtain rfl := h2 rfl
          have : γ = false := by
            split at h <;> simp_all
          rw [this]; rfl
        | true =>
          split at h
          · rename_i b heq
            simp at heq
            obtain ⟨rfl, rfl⟩ := heq
            obtain rfl := h1 rfl
            simp at h
            rw [← h]
            cases b <;> cases want <;> rfl
          · rename_i heq; simp at heq; obtain ⟨rfl, rfl⟩ := heq; simp at h
          · simp at h
theorem gset_ok {nx : Nat} {fr : List (Bool × A)} {all : Array Oper} {o : Oper} {γ : Bool} (F : FrG ρ nx ok w fr a.tmps.toList) (h : Region.wanted o (yielded all a.tmps) = γ) : FrG ρ nx ok w (gset fr all o.guard γ) a.tmps.toList := by
  unfold gset
  cases hg : o.guard with
  | none => exact F
  | some jw =>
    obtain ⟨j, want⟩ := jw
    simp only
    cases hd : (all[j]?).bind (·.dst) with
    | none => exact F
    | some d =>
      cases γ with
      | false =>
        simp only
        split
        · rename_i b hb
          have hx : fr[d]? = some (true, .d (.bool b)) := by
            unfold rdT at hb
            cases e : fr[d]? with
            | none => simp [List.getD, e] at hb
            | some q => simp [List.getD, e] at hb; rw [hb]
          have hg1 : gcond fr all o.guard = some (true && (bif want then b else !b)) := by
            rw [hg]; simp only [gcond, hd]; rw [hb]
          have hw := gcond_ok F.now hg1
          rw [h] at hw
          have hbw : b = !want := by cases b <;> cases want <;> simp at hw ⊢
          intro ρ' ha
          obtain ⟨v, hv, h1, _⟩ := FrR_get (F ρ' ha) d true (.d (.bool b)) hx
          have e : v = .bool b := h1 rfl
          have hl : a.tmps.toList.set d v = a.tmps.toList := by
            obtain ⟨hlt, he⟩ := List.getElem?_eq_some_iff.1 hv
            rw [← he, List.set_getElem_self]
          have := FrR_set (F ρ' ha) d true (.d (.bool (!want))) v (fun _ => by rw [e, hbw]; rfl) (by simp)
          rwa [hl] at this
        · exact F
      | true =>
        simp only [Region.wanted, hg, yielded, hd, Option.bind_some] at h
        cases hv : a.tmps[d]? with
        | none => simp [hv] at h
        | some v =>
          rw [hv] at h
          have e : v = .bool want := by
            cases v <;> simp at h
            rw [h]
          have hl : a.tmps.toList.set d v = a.tmps.toList := by
            have : a.tmps.toList[d]? = some v := by simpa using hv
            obtain ⟨hlt, he⟩ := List.getElem?_eq_some_iff.1 this
            rw [← he, List.set_getElem_self]
          intro ρ' ha
          have := FrR_set (F ρ' ha) d true (.d (.bool want)) v (fun _ => e) (by simp)
          rwa [hl] at this

/-! ### calls -/
/-- What a call of f comes to. -/
def CallsTo (P : Program) (f : Nat) (vs : Array Value) (w : World) (R : Value → World → Prop) : Prop := match (callFunc f vs).run P w with
  | .ok (.enter f' args) w' => Calls P f' args w' fun
    | .returned v, w'' => R v w''
    | _, _ => False
  | .ok (.value v) w' => R v w'
  | _ => False
def After (ρ : Rho) (nx : Nat) (ok : Nat → Prop) (hp : Heap) (w : World) (x : A) (hp' : Heap) (nx' : Nat) (kill : List Nat) (v : Value) (w' : World) : Prop :=
  ∃ ρ' ok', Step ρ nx ok hp w ρ' nx' ok' hp' w' kill ∧ RelG ρ' nx' ok' w' x v
structure CtOk (P : Program) (f : Nat) (g : List A → Heap → Nat → Option R) : Prop where
  pure : ∀ as hp nx r, g as hp nx = some r → r.eff = false → r.hp = hp ∧ r.nx = nx ∧ r.kill = []
  frame : ∀ as hp nx r, g as hp nx = some r → r.kill = [] → ∀ n, n < nx → n ∉ r.mod → hget r.hp n = hget hp n
  calls : ∀ as hp nx r, g as hp nx = some r → r.pre → ∀ ρ ok w vs, Good ρ nx ok hp w → RelGL ρ nx ok w as vs → CallsTo P f vs.toArray w (After ρ nx ok hp w r.val r.hp r.nx r.kill)
structure CfgOk (C : Cfg) : Prop where
  inl : ∀ f, C.Γ f = .inl → ∀ (vs : Array Value) (w : World), (callFunc f vs).run C.P w = .ok (.enter f vs) w
  ct : ∀ f g, C.Γ f = .ct g → CtOk C.P f g
def InlOk (C : Cfg) (inl : Inl) : Prop := ∀ f as hp nx K, C.Γ f = .inl → inl f as hp nx K → ∀ ρ ok w vs, Good ρ nx ok hp w → RelGL ρ nx ok w as vs →
  CallsTo C.P f vs.toArray w fun v w' => ∃ x hp' nx' kl, K x hp' nx' kl ∧ After ρ nx ok hp w x hp' nx' kl v w'

theorem run_callOf {fr : List (Bool × A)} {c : Call} {f : Nat} {as : List A} {nx : Nat} (F : FrG ρ nx ok w fr a.tmps.toList) (o : Oper) (ho : o.op = .call c) (hd : dfAll fr c.operands.toList = true) (h : callOf fr c = some (f, as)) :
    ∃ vs : List Value, RelGL ρ nx ok w as vs ∧ (execOp a.eval o).run P w = (callFunc f vs.toArray).run P w := by
  obtain ⟨callee, args, ats⟩ := c
  simp only [callOf] at h
  cases callee with
  | value X =>
    simp only at h
    split at h
    · rename_i g cap hX
      simp only [Option.some.injEq, Prod.mk.injEq] at h
      obtain ⟨rfl, rfl⟩ := h
      have hXr := F.rel X (dfAll_mem hd X (by simp [Call.operands]))
      rw [hX] at hXr
      obtain ⟨cvs, he, _⟩ := hXr.now
      have hargs : dfAll fr args.toList = true := by
        simp [Call.operands, dfAll] at hd
        exact hd.2
      refine ⟨args.toList.map a.eval ++ cvs.toList, fun ρ' ha => ?_, ?_⟩
      · obtain ⟨cvs', he', hr'⟩ := hXr ρ' ha
        rw [he] at he'
        simp at he'
        subst he'
        exact RelL_append (F.list _ hargs ρ' ha) hr'
      · have e : (args.map a.eval) ++ cvs = (args.toList.map a.eval ++ cvs.toList).toArray := by apply Array.ext'; simp
        simp [execOp, ho, resolve, Deferred.ofValue, he, invoke, ← e]
    · simp at h
  | _ => simp at h
end Ax

set_option linter.unusedVariables false
set_option linter.unusedSimpArgs false
namespace Ax
open Go
variable {C : Cfg} {B : Base} {ρ : Rho} {ok : Nat → Prop} {st : St} {a : Act} {w : World} {next : Act → World → Prop} {Q : Exit → Act → World → Prop}

theorem wp_callsTo {P : Program} {o : Oper} {f : Nat} {vs : Array Value} {R : Value → World → Prop} (he : (execOp a.eval o).run P w = (callFunc f vs).run P w) (h : CallsTo P f vs w R) (hn : ∀ v w', R v w' → next (a.put o.dst v) w') : o.wp P a w next Q := by
  unfold Oper.wp
  rw [he]
  unfold CallsTo at h
  split at h
  · rename_i f' args w' hr
    rw [hr]
    refine Calls.mono h fun e w'' hR => ?_
    cases e with
    | returned v => exact hn v w'' hR
    | panicked c => exact hR.elim
    | outgrown => exact hR.elim
  · rename_i v w' hr
    rw [hr]
    exact hn v w' h
  · exact h.elim
theorem wp_value {P : Program} {o : Oper} {v : Value} {w' : World} (he : (execOp a.eval o).run P w = .ok (.value v) w') (hn : next (a.put o.dst v) w') : o.wp P a w next Q := by
  unfold Oper.wp; rw [he]; exact hn
theorem wp_skip' {P : Program} {o : Oper} {w' : World} (he : (execOp a.eval o).run P w = .ok .skip w') (hn : next (a.put o.dst undef) w') : o.wp P a w next Q := by
  unfold Oper.wp; rw [he]; exact hn

theorem killsFr_nil (fr : List (Bool × A)) : killsFr [] fr = fr := rfl
/-- The state after an operation that acts. -/
theorem Mach.act (M : Mach B ρ ok st a w) {fr : List (Bool × A)} (F : FrG ρ st.nx ok w fr a.tmps.toList) {dst : Option Nat} {x : A} {v : Value} {hp : Heap} {nx : Nat} {kill : List Nat} {w' : World} (h : After ρ st.nx ok st.hp w x hp nx kill v w') :
    ∃ ρ' ok', Mach B ρ' ok' (({ st with fr := fr } : St).act dst x hp nx kill) (a.put dst v) w' := by
  obtain ⟨ρ', ok', hs, hv⟩ := h
  exact ⟨ρ', ok', M.step.trans hs, FrG_put (a := ⟨a.tmps, a.defers⟩) (hs.fr M.good F) dst true x v (fun _ => hv) (by simp), by rw [put_defers]; exact M.df⟩
theorem Mach.val (M : Mach B ρ ok st a w) {fr : List (Bool × A)} (F : FrG ρ st.nx ok w fr a.tmps.toList) {dst : Option Nat} {g : Bool} {x : A} {v : Value} (h1 : g = true → RelG ρ st.nx ok w x v) (h2 : g = false → v = undef) :
    Mach B ρ ok (({ st with fr := fr } : St).val dst g x) (a.put dst v) w :=
  ⟨M.step, FrG_put F dst g x v h1 h2, by rw [put_defers]; exact M.df⟩

theorem okP_and {p : Option Prop} {X : Prop} (h : andP p true X) : okP p ∧ X := by
  cases p with
  | none => exact ⟨trivial, h⟩
  | some q => exact h
theorem okP_andF {p : Option Prop} {X : Prop} (h : andP p false X) : X := by
  cases p with
  | none => exact h
  | some q => exact h.2
theorem dP_true {b : Bool} {X : Prop} (h : dP true b X) : b = true ∧ X := by
  cases b with
  | true => exact ⟨rfl, h⟩
  | false => exact absurd h.1 (by simp)
theorem dP_false {b : Bool} {X : Prop} (h : dP false b X) : X := by
  cases b with
  | true => exact h
  | false => exact h.2

theorem semOp_cases {fr : List (Bool × A)} {hp : Heap} {nx : Nat} {op : Op} :
    (∃ c x y, op = .pick c x y) ∨ semOp C fr hp nx op = (match aval C.P fr hp op with
    | some (p, v) => .val p v
    | none => match aeff C.P fr hp nx op with
      | some r => .act r
      | none => match op with
        | .call c => semCall C fr hp nx c
        | _ => .bad) := by
  cases op with
  | pick c x y => exact .inl ⟨c, x, y, rfl⟩
  | _ => exact .inr rfl

theorem dfOp_all {fr : List (Bool × A)} {op : Op} (h : ∀ c x y, op ≠ .pick c x y) (hd : dfOp fr op = true) : dfAll fr op.operands.toList = true := by
  cases op with
  | pick c x y => exact absurd rfl (h c x y)
  | _ => exact hd

/-- The value of an operation, in every world that answers. -/
theorem avalG (M : Good ρ st.nx ok st.hp w) {P : Program} (F : FrG ρ st.nx ok w st.fr a.tmps.toList) (o : Oper) {p : Option Prop} {v : A} (hd : dfAll st.fr o.op.operands.toList = true) (h : aval P st.fr st.hp o.op = some (p, v)) (hP : okP p) :
    ∃ u, (execOp a.eval o).run P w = .ok (.value u) w ∧ RelG ρ st.nx ok w v u := by
  obtain ⟨u, q1, q2⟩ := aval_ok M.now F.now o hd h hP
  refine ⟨u, q1, fun ρ' ha => ?_⟩
  obtain ⟨u', p1, p2⟩ := aval_ok (M.sat ρ' ha) (F ρ' ha) o hd h hP
  rw [q1] at p1
  simp at p1
  subst p1
  exact p2

theorem pickA_t (x y : A) : pickA true x y = x ∨ pickA true x y = .any := by
  unfold pickA
  split
  · exact .inl rfl
  · rename_i k p k' q
    cases h : kEq k k' with
    | true => exact .inl rfl
    | false => exact .inr rfl
  · exact .inl rfl
  · exact .inl rfl
theorem pickA_f (x y : A) : pickA false x y = y ∨ pickA false x y = .any := by
  unfold pickA
  split
  · exact .inl rfl
  · rename_i k p k' q
    cases h : kEq k k' with
    | true => rw [kEq_iff.1 h]; exact .inl rfl
    | false => exact .inr rfl
  · exact .inl rfl
  · exact .inl rfl
theorem pickA_rel {nx : Nat} {x y : A} {v : Value} (h : x = y ∨ x = .any) (hr : RelG ρ nx ok w y v) : RelG ρ nx ok w x v := by
  rcases h with rfl | rfl
  · exact hr
  · exact fun _ _ => trivial
theorem op_val (hC : CfgOk C) (M : Mach B ρ ok st a w) (o : Oper) {p : Option Prop} {v : A} (h : semOp C st.fr st.hp st.nx o.op = .val p v) (hd : dfOp st.fr o.op = true) (hP : okP p)
    (hn : ∀ u ρ' ok' w', Mach B ρ' ok' (st.val o.dst true v) (a.put o.dst u) w' → next (a.put o.dst u) w') : o.wp C.P a w next Q := by
  rcases semOp_cases (C := C) (fr := st.fr) (hp := st.hp) (nx := st.nx) (op := o.op) with ⟨c, x, y, ho⟩ | hs
  · rw [ho] at h hd
    simp only [semOp] at h
    simp only [dfOp, Bool.and_eq_true] at hd
    obtain ⟨hdc, hd2⟩ := hd
    have hcr := M.fr.rel c hdc
    split at h
    · rename_i b hb
      simp only [SR.val.injEq] at h
      obtain ⟨rfl, rfl⟩ := h
      rw [hb] at hcr hd2
      have hcv := hcr.now
      have hrun : (execOp a.eval o).run C.P w = .ok (.value (if b then a.eval x else a.eval y)) w := by
        have hcv' : a.eval c = .bool b := hcv
        simp [execOp, ho, hcv', asBool]
      refine wp_value hrun (hn _ ρ ok w (M.val M.fr (fun _ => ?_) (by simp)))
      cases b with
      | true => exact pickA_rel (pickA_t _ _) (M.fr.rel x hd2)
      | false => exact pickA_rel (pickA_f _ _) (M.fr.rel y hd2)
    · simp at h
  · have hnp : ∀ c x y, o.op ≠ .pick c x y := by
      intro c x y e
      rw [e] at hs
      rw [e] at h hd
      simp only [semOp] at hs
      simp only [dfOp, Bool.and_eq_true] at hd
      have e2 : aval C.P st.fr st.hp (.pick c x y) = none := rfl
      have e3 : aeff C.P st.fr st.hp st.nx (.pick c x y) = none := rfl
      rw [e2, e3] at hs
      simp only [semOp] at h
      rw [h] at hs
      simp at hs
    have hda := dfOp_all hnp hd
    rw [h] at hs
    cases ha : aval C.P st.fr st.hp o.op with
    | some q =>
      obtain ⟨p', v'⟩ := q
      rw [ha] at hs
      simp only [SR.val.injEq] at hs
      obtain ⟨rfl, rfl⟩ := hs
      obtain ⟨u, q1, q2⟩ := avalG M.good M.fr o hda ha hP
      exact wp_value q1 (hn u ρ ok w (M.val M.fr (fun _ => q2) (by simp)))
    | none =>
      rw [ha] at hs
      simp only at hs
      cases he : aeff C.P st.fr st.hp st.nx o.op with
      | some r => rw [he] at hs; simp at hs
      | none =>
        rw [he] at hs
        simp only at hs
        split at hs
        · rename_i c hc
          unfold semCall at hs
          cases hcall : callOf st.fr c with
          | none => simp [hcall] at hs
          | some q =>
            obtain ⟨f, as⟩ := q
            simp only [hcall] at hs
            cases hΓ : C.Γ f with
            | ct g =>
              simp only [hΓ] at hs
              cases hg : g as st.hp st.nx with
              | none => simp [hg] at hs
              | some r =>
                simp only [hg] at hs
                cases hre : r.eff with
                | true => simp [hre] at hs
                | false =>
                  simp only [hre, cond_false, SR.val.injEq] at hs
                  obtain ⟨rfl, rfl⟩ := hs
                  have hct := hC.ct f g hΓ
                  obtain ⟨e1, e2, e3⟩ := hct.pure _ _ _ r hg hre
                  obtain ⟨vs, hvs, hrun⟩ := run_callOf (P := C.P) M.fr o hc (by rw [hc] at hda; exact hda) hcall
                  have hcalls := hct.calls _ _ _ r hg hP ρ ok w vs M.good hvs
                  rw [e1, e2, e3] at hcalls
                  refine wp_callsTo hrun hcalls fun v w' hA => ?_
                  obtain ⟨ρ', ok', hM⟩ := M.act (dst := o.dst) M.fr hA
                  exact hn v ρ' ok' w' hM
            | inl => simp [hΓ] at hs
            | no => simp [hΓ] at hs
        · simp at hs

theorem op_act (hC : CfgOk C) (M : Mach B ρ ok st a w) (o : Oper) {fr : List (Bool × A)} (F : FrG ρ st.nx ok w fr a.tmps.toList) {r : R} (h : semOp C st.fr st.hp st.nx o.op = .act r) (hd : dfOp st.fr o.op = true) (hP : r.pre)
    (hn : ∀ u ρ' ok' w', Mach B ρ' ok' (({ st with fr := fr } : St).act o.dst r.val r.hp r.nx r.kill) (a.put o.dst u) w' → next (a.put o.dst u) w') : o.wp C.P a w next Q := by
  rcases semOp_cases (C := C) (fr := st.fr) (hp := st.hp) (nx := st.nx) (op := o.op) with ⟨c, x, y, ho⟩ | hs
  · rw [ho] at h
    simp only [semOp] at h
    split at h <;> simp at h
  · rw [h] at hs
    cases ha : aval C.P st.fr st.hp o.op with
    | some q => rw [ha] at hs; simp at hs
    | none =>
      rw [ha] at hs
      simp only at hs
      have hnp : ∀ c x y, o.op ≠ .pick c x y := by
        intro c x y e
        rw [e] at hs
        have e3 : aeff C.P st.fr st.hp st.nx (.pick c x y) = none := rfl
        rw [e3] at hs
        simp at hs
      have hda := dfOp_all hnp hd
      cases he : aeff C.P st.fr st.hp st.nx o.op with
      | some r' =>
        rw [he] at hs
        simp only [SR.act.injEq] at hs
        subst hs
        obtain ⟨u, w1, ρ1, hrun, hst, hv⟩ := aeff_ok M.good M.fr o hda he hP
        obtain ⟨ρ', ok', hM⟩ := M.act (dst := o.dst) F ⟨ρ1, ok, hst, hv⟩
        rcases hrun with hrun | ⟨hrun, rfl⟩
        · exact wp_value hrun (hn u ρ' ok' w1 hM)
        · exact wp_skip' hrun (hn undef ρ' ok' w1 hM)
      | none =>
        rw [he] at hs
        simp only at hs
        split at hs
        · rename_i c hc
          unfold semCall at hs
          cases hcall : callOf st.fr c with
          | none => simp [hcall] at hs
          | some q =>
            obtain ⟨f, as⟩ := q
            simp only [hcall] at hs
            cases hΓ : C.Γ f with
            | ct g =>
              simp only [hΓ] at hs
              cases hg : g as st.hp st.nx with
              | none => simp [hg] at hs
              | some r' =>
                simp only [hg] at hs
                cases hre : r'.eff with
                | false => simp [hre] at hs
                | true =>
                  simp only [hre, cond_true, SR.act.injEq] at hs
                  subst hs
                  obtain ⟨vs, hvs, hrun⟩ := run_callOf (P := C.P) M.fr o hc (by rw [hc] at hda; exact hda) hcall
                  have hcalls := (hC.ct f g hΓ).calls _ _ _ r hg hP ρ ok w vs M.good hvs
                  refine wp_callsTo hrun hcalls fun v w' hA => ?_
                  obtain ⟨ρ', ok', hM⟩ := M.act (dst := o.dst) F hA
                  exact hn v ρ' ok' w' hM
            | inl => simp [hΓ] at hs
            | no => simp [hΓ] at hs
        · simp at hs

theorem op_inl {inl : Inl} (hI : InlOk C inl) (M : Mach B ρ ok st a w) (o : Oper) {fr : List (Bool × A)} (F : FrG ρ st.nx ok w fr a.tmps.toList) {f : Nat} {as : List A} {K : A → Heap → Nat → List Nat → Prop} (h : semOp C st.fr st.hp st.nx o.op = .inl f as) (hd : dfOp st.fr o.op = true)
    (hi : inl f as st.hp st.nx K)
    (hn : ∀ u ρ' ok' w' x hp nx kl, K x hp nx kl → Mach B ρ' ok' (({ st with fr := fr } : St).act o.dst x hp nx kl) (a.put o.dst u) w' → next (a.put o.dst u) w') : o.wp C.P a w next Q := by
  rcases semOp_cases (C := C) (fr := st.fr) (hp := st.hp) (nx := st.nx) (op := o.op) with ⟨c, x, y, ho⟩ | hs
  · rw [ho] at h
    simp only [semOp] at h
    split at h <;> simp at h
  · rw [h] at hs
    cases ha : aval C.P st.fr st.hp o.op with
    | some q => rw [ha] at hs; simp at hs
    | none =>
      rw [ha] at hs
      simp only at hs
      cases he : aeff C.P st.fr st.hp st.nx o.op with
      | some r' => rw [he] at hs; simp at hs
      | none =>
        rw [he] at hs
        simp only at hs
        split at hs
        · rename_i c hc
          have hda : dfAll st.fr o.op.operands.toList = true := by rw [hc] at hd ⊢; exact hd
          unfold semCall at hs
          cases hcall : callOf st.fr c with
          | none => simp [hcall] at hs
          | some q =>
            obtain ⟨f', as'⟩ := q
            simp only [hcall] at hs
            cases hΓ : C.Γ f' with
            | ct g =>
              simp only [hΓ] at hs
              cases hg : g as' st.hp st.nx with
              | none => simp [hg] at hs
              | some r' => simp only [hg] at hs; cases hre : r'.eff <;> simp [hre] at hs
            | inl =>
              simp only [hΓ, SR.inl.injEq] at hs
              obtain ⟨rfl, rfl⟩ := hs
              obtain ⟨vs, hvs, hrun⟩ := run_callOf (P := C.P) M.fr o hc (by rw [hc] at hda; exact hda) hcall
              have hcalls := hI f as st.hp st.nx K hΓ hi ρ ok w vs M.good hvs
              refine wp_callsTo hrun hcalls fun v w' ⟨x, hp', nx', kl, hK, hA⟩ => ?_
              obtain ⟨ρ', ok', hM⟩ := M.act (dst := o.dst) F hA
              exact hn v ρ' ok' w' x hp' nx' kl hK hM
            | no => simp [hΓ] at hs
        · simp at hs
end Ax

set_option linter.unusedVariables false
set_option linter.unusedSimpArgs false
namespace Ax
open Go
variable {C : Cfg} {inl : Inl} {B : Base} {Q : Exit → Act → World → Prop}

theorem drop_cons {α : Type} {l : List α} {i : Nat} {x : α} {r : List α} (h : l.drop i = x :: r) : l[i]? = some x ∧ l.drop (i + 1) = r := by
  constructor
  · have : (l.drop i)[0]? = some x := by rw [h]; rfl
    simpa using this
  · rw [← List.drop_drop, h]; rfl

theorem aops_ok (hC : CfgOk C) (hI : InlOk C inl) (all : Array Oper) {K : St → Prop} (hQ : ∀ st ρ ok a w, K st → Mach B ρ ok st a w → Q .normal a w) :
    ∀ (rest : List Oper) (i : Nat), all.toList.drop i = rest → ∀ st ρ ok a w, aops C inl all rest st K → Mach B ρ ok st a w → wpOps C.P all Q (List.range' i rest.length) a w
  | [], i, _, st, ρ, ok, a, w, h, M => hQ st ρ ok a w h M
  | o :: rest, i, hd, st, ρ, ok, a, w, h, M => by
    obtain ⟨hi, hd'⟩ := drop_cons hd
    have hi' : all[i]? = some o := by simpa using hi
    have ih := aops_ok hC hI all hQ rest (i + 1) hd'
    rw [List.length_cons, List.range'_succ, wpOps]
    simp only [hi']
    simp only [aops] at h
    cases hg : gcond st.fr all o.guard with
    | none => simp [hg] at h
    | some γ =>
      simp only [hg] at h
      have hw := gcond_ok M.fr.now hg
      rw [hw]
      have hF := gset_ok M.fr hw
      cases hs : semOp C st.fr st.hp st.nx o.op with
      | val p v =>
        simp only [hs] at h
        cases γ with
        | true =>
          rw [if_pos rfl]
          obtain ⟨h1, h2⟩ := dP_true h
          obtain ⟨hP, h3⟩ := okP_and h2
          exact .inl (op_val hC M o hs h1 hP fun u ρ' ok' w' M' => ih _ ρ' ok' _ w' h3 M')
        | false =>
          rw [if_neg (by simp)]
          have h1 := okP_andF (dP_false h)
          exact ih _ ρ ok _ w h1 (M.val M.fr (by simp) (fun _ => rfl))
      | act r =>
        simp only [hs] at h
        rw [ifB_iff] at h
        cases γ with
        | true =>
          rw [if_pos rfl]
          obtain ⟨h1, h2, h3⟩ := dP_true (h.1 rfl)
          exact .inl (op_act hC M o hF hs h1 h2 fun u ρ' ok' w' M' => ih _ ρ' ok' _ w' h3 M')
        | false =>
          rw [if_neg (by simp)]
          exact ih _ ρ ok _ w (h.2 rfl) (M.val hF (by simp) (fun _ => rfl))
      | inl f as =>
        simp only [hs] at h
        rw [ifB_iff] at h
        cases γ with
        | true =>
          rw [if_pos rfl]
          obtain ⟨h1, h2⟩ := dP_true (h.1 rfl)
          exact .inl (op_inl hI M o hF hs h1 h2 fun u ρ' ok' w' x hp nx kl hK M' => ih _ ρ' ok' _ w' hK M')
        | false =>
          rw [if_neg (by simp)]
          exact ih _ ρ ok _ w (h.2 rfl) (M.val hF (by simp) (fun _ => rfl))
      | bad =>
        simp only [hs] at h
        obtain ⟨rfl, h1⟩ := h
        rw [if_neg (by simp)]
        exact ih _ ρ ok _ w h1 (M.val M.fr (by simp) (fun _ => rfl))

theorem region_ok (hC : CfgOk C) (hI : InlOk C inl) {id : Nat} {ops : Array Oper} {K : St → Prop} (hQ : ∀ st ρ ok a w, K st → Mach B ρ ok st a w → Q .normal a w) {st : St} {ρ : Rho} {ok : Nat → Prop} {a : Act} {w : World}
    (h : aops C inl ops ops.toList st K) (M : Mach B ρ ok st a w) : (Code.region id ops false).wp C.P Q a w := by
  refine wp_region ?_
  have := aops_ok hC hI ops hQ ops.toList 0 rfl st ρ ok a w h M
  rw [List.range_eq_range']
  simpa using this
end Ax

set_option linter.unusedVariables false
set_option linter.unusedSimpArgs false
namespace Ax
open Go

/-! ### what an operation looks at -/
def agreeO (fr fr' : List (Bool × A)) (op : Op) : Prop := ∀ x ∈ op.operands.toList, rdO fr x = rdO fr' x
theorem agree_ev {fr fr' : List (Bool × A)} {op : Op} (h : agreeO fr fr' op) {x : Operand} (hx : x ∈ op.operands.toList) : evO fr x = evO fr' x ∧ dfO fr x = dfO fr' x := by
  have := h x hx
  exact ⟨congrArg Prod.snd this, congrArg Prod.fst this⟩
theorem map_ev {fr fr' : List (Bool × A)} {l : List Operand} (h : ∀ x ∈ l, rdO fr x = rdO fr' x) : l.map (evO fr) = l.map (evO fr') :=
  List.map_congr_left fun x hx => congrArg Prod.snd (h x hx)
theorem dfAll_congr {fr fr' : List (Bool × A)} : ∀ {l : List Operand}, (∀ x ∈ l, rdO fr x = rdO fr' x) → dfAll fr l = dfAll fr' l
  | [], _ => rfl
  | x :: r, h => by
    simp only [dfAll]
    rw [dfAll_congr (l := r) (fun y hy => h y (by simp [hy]))]
    have : dfO fr x = dfO fr' x := congrArg Prod.fst (h x (by simp))
    rw [this]
theorem dfOp_congr {fr fr' : List (Bool × A)} {op : Op} (h : agreeO fr fr' op) : dfOp fr op = dfOp fr' op := by
  cases op with
  | pick c x y =>
    obtain ⟨h1, h2⟩ := agree_ev h (x := c) (by simp [Op.operands])
    obtain ⟨h3, h4⟩ := agree_ev h (x := x) (by simp [Op.operands])
    obtain ⟨h5, h6⟩ := agree_ev h (x := y) (by simp [Op.operands])
    simp only [dfOp, h1, h2, h4, h6]
  | _ => exact dfAll_congr h

section
variable {P : Program} {fr fr' : List (Bool × A)} {hp hp' : Heap}
theorem loadA_congr {t : Nat} {x : A} (h : ∀ n ∈ nameOf x, hget hp n = hget hp' n) : loadA P t hp x = loadA P t hp' x := by
  cases x <;> first | rfl | (simp only [loadA]; rw [h _ (by simp [nameOf])])
theorem convA_congr {s d : Nat} {x : A} (h : ∀ n ∈ nameOf x, hget hp n = hget hp' n) : convA P s d hp x = convA P s d hp' x := by
  have : convB hp x = convB hp' x := by
    cases x <;> first | rfl | (simp only [convB, viewSl]; rw [h _ (by simp [nameOf])])
  unfold convA; rw [this]
theorem widH_congr {n : Nat} (h : hget hp n = hget hp' n) : widH hp n = widH hp' n := by unfold widH; rw [h]
theorem indexAddrA_congr {t : Nat} {x i : A} (h : ∀ n ∈ nameOf x, hget hp n = hget hp' n) : indexAddrA P t hp x i = indexAddrA P t hp' x i := by
  cases x with
  | sl n o l => have hw := widH_congr (h n (by simp [nameOf])); simp only [indexAddrA, hw]
  | pel n k j =>
    have hw := widH_congr (h n (by simp [nameOf]))
    cases j with
    | zero => simp only [indexAddrA, hw]
    | succ j => rfl
  | _ => rfl
theorem sliceA_congr {t : Nat} {x : A} {lo hi : Option A} (h : ∀ n ∈ nameOf x, hget hp n = hget hp' n) : sliceA P t hp x lo hi = sliceA P t hp' x lo hi := by
  cases x with
  | sl n o l => have hw := widH_congr (h n (by simp [nameOf])); simp only [sliceA, hw]
  | _ => rfl

theorem aval_congr {op : Op} {l : List Nat} (h : agreeO fr fr' op) (hl : looks fr op = some l) (hg : ∀ n ∈ l, hget hp n = hget hp' n) : aval P fr hp op = aval P fr' hp' op := by
  have E := fun (x : Operand) (hx : x ∈ op.operands.toList) => (agree_ev h hx).1
  cases op with
  | move x => simp only [aval, E x (by simp [Op.operands])]
  | assign x => simp only [aval, E x (by simp [Op.operands])]
  | build t ps =>
    have : (ps.toList.map fun p => (p.1, evO fr p.2)) = (ps.toList.map fun p => (p.1, evO fr' p.2)) := List.map_congr_left fun p hp => by
      rw [E p.2 (by simp [Op.operands]; exact ⟨p.1, by simpa using hp⟩)]
    simp only [aval, this]
  | load t x =>
    have e := E x (by simp [Op.operands])
    simp only [looks, Option.some.injEq] at hl; subst hl
    simp only [aval]; rw [← e]; exact loadA_congr hg
  | nilCheck x => simp only [aval, E x (by simp [Op.operands])]
  | binOp b t x y yt => simp only [aval, E x (by simp [Op.operands]), E y (by simp [Op.operands])]
  | unOp b t x => simp only [aval, E x (by simp [Op.operands])]
  | convert s d x =>
    have e := E x (by simp [Op.operands])
    simp only [looks, Option.some.injEq] at hl; subst hl
    simp only [aval]; rw [← e]; exact convA_congr hg
  | makeInterface t x => simp only [aval, E x (by simp [Op.operands])]
  | makeFunc f first cap =>
    have : cap.toList.map (evO fr) = cap.toList.map (evO fr') := List.map_congr_left fun x hx => E x (by simp [Op.operands]; right; simpa using hx)
    cases f <;> simp only [aval, this]
  | slice t x lo hi mx =>
    have e := E x (by simp [Op.operands])
    simp only [looks, Option.some.injEq] at hl; subst hl
    have elo : lo.map (evO fr) = lo.map (evO fr') := by
      cases lo with
      | none => rfl
      | some y => simp [E y (by simp [Op.operands])]
    have ehi : hi.map (evO fr) = hi.map (evO fr') := by
      cases hi with
      | none => rfl
      | some y => simp [E y (by simp [Op.operands])]
    simp only [aval]
    rw [← elo, ← ehi, ← e, sliceA_congr hg]
  | fieldAddr t x f => simp only [aval, E x (by simp [Op.operands])]
  | field t x f => simp only [aval, E x (by simp [Op.operands])]
  | indexAddr t x i =>
    have e := E x (by simp [Op.operands])
    simp only [looks, Option.some.injEq] at hl; subst hl
    simp only [aval]; rw [← e, ← E i (by simp [Op.operands])]; exact indexAddrA_congr hg
  | index t x i => simp only [aval, E x (by simp [Op.operands]), E i (by simp [Op.operands])]
  | extract x i => simp only [aval, E x (by simp [Op.operands])]
  | call c =>
    obtain ⟨callee, args, ats⟩ := c
    have ha : args.toList.map (evO fr) = args.toList.map (evO fr') := List.map_congr_left fun x hx => E x (by
      simp [Op.operands, Call.operands]; right; simpa using hx)
    have h1 : ∀ x, args.toList = [x] → evO fr x = evO fr' x := fun x hx => by
      rw [hx] at ha; simpa using ha
    cases callee with
    | builtin b =>
      cases b with
      | len =>
        simp only [aval]
        split
        · rename_i x hx
          rw [h1 x hx]
        · rfl
      | _ => simp only [aval, ha]
    | _ => rfl
  | _ => rfl

theorem aeff_congr {nx : Nat} {op : Op} (h : agreeO fr fr' op) : aeff P fr hp nx op = aeff P fr' hp nx op := by
  have E := fun (x : Operand) (hx : x ∈ op.operands.toList) => (agree_ev h hx).1
  cases op with
  | box t x => simp only [aeff, E x (by simp [Op.operands])]
  | store t x y => simp only [aeff, E x (by simp [Op.operands]), E y (by simp [Op.operands])]
  | buildSlice t n ps =>
    have : (ps.toList.map fun p => (p.1, evO fr p.2)) = (ps.toList.map fun p => (p.1, evO fr' p.2)) := List.map_congr_left fun p hp => by
      rw [E p.2 (by simp [Op.operands]; exact ⟨p.1, by simpa using hp⟩)]
    simp only [aeff, this]
  | makeSlice t x y => simp only [aeff, E x (by simp [Op.operands]), E y (by simp [Op.operands])]
  | convert s d x => simp only [aeff, E x (by simp [Op.operands])]
  | call c =>
    obtain ⟨callee, args, ats⟩ := c
    have ha : args.toList.map (evO fr) = args.toList.map (evO fr') := List.map_congr_left fun x hx => E x (by
      simp [Op.operands, Call.operands]; right; simpa using hx)
    cases callee with
    | builtin b =>
      cases b with
      | append =>
        simp only [aeff]
        split
        · rename_i x y hx
          rw [hx] at ha
          simp at ha
          rw [ha.1, ha.2]
        · rfl
      | _ => rfl
    | _ => rfl
  | _ => rfl
end

section
variable {C : Cfg} {fr fr' : List (Bool × A)} {hp hp' : Heap} {nx nx' : Nat} {op : Op}
theorem callOf_congr {c : Call} (h : agreeO fr fr' (.call c)) : callOf fr c = callOf fr' c := by
  obtain ⟨callee, args, ats⟩ := c
  have E := fun (x : Operand) (hx : x ∈ (Op.call ⟨callee, args, ats⟩).operands.toList) => (agree_ev h hx).1
  have ha : args.toList.map (evO fr) = args.toList.map (evO fr') := List.map_congr_left fun x hx => E x (by
    have hx' : x ∈ args := by simpa using hx
    simp [Op.operands, Call.operands]; cases callee <;> simp [hx'])
  cases callee with
  | value f => simp only [callOf, E f (by simp [Op.operands, Call.operands]), ha]
  | _ => rfl
/-- The same stage of memory. -/
theorem semOp_congr (h : agreeO fr fr' op) : semOp C fr hp nx op = semOp C fr' hp nx op := by
  have E := fun (x : Operand) (hx : x ∈ op.operands.toList) => (agree_ev h hx).1
  have hv : aval C.P fr hp op = aval C.P fr' hp op := by
    cases hl : looks fr op with
    | some l => exact aval_congr h hl fun _ _ => rfl
    | none =>
      cases op with
      | call c =>
        obtain ⟨callee, args, ats⟩ := c
        cases callee <;> first | rfl | simp [looks] at hl
      | _ => simp [looks] at hl
  have he := aeff_congr (P := C.P) (hp := hp) (nx := nx) h
  cases op with
  | pick c x y => simp only [semOp, E c (by simp [Op.operands]), E x (by simp [Op.operands]), E y (by simp [Op.operands])]
  | call c => simp only [semOp, hv, he, semCall, callOf_congr h]
  | _ => simp only [semOp, hv, he]
/-- Another stage of memory: a value. -/
theorem semOp_at {p : Option Prop} {v : A} {l : List Nat} (h : agreeO fr fr' op) (hs : semOp C fr hp nx op = .val p v) (hl : looks fr op = some l) (hg : ∀ n ∈ l, hget hp n = hget hp' n) : semOp C fr' hp' nx' op = .val p v := by
  have hv := aval_congr (P := C.P) h hl hg
  have E := fun (x : Operand) (hx : x ∈ op.operands.toList) => (agree_ev h hx).1
  rcases semOp_cases (C := C) (fr := fr) (hp := hp) (nx := nx) (op := op) with ⟨c, x, y, rfl⟩ | h1
  · simp only [semOp, ← E c (by simp [Op.operands]), ← E x (by simp [Op.operands]), ← E y (by simp [Op.operands])] at hs ⊢
    exact hs
  · rcases semOp_cases (C := C) (fr := fr') (hp := hp') (nx := nx') (op := op) with ⟨c, x, y, rfl⟩ | h2
    · simp only [semOp, ← E c (by simp [Op.operands]), ← E x (by simp [Op.operands]), ← E y (by simp [Op.operands])] at hs ⊢
      exact hs
    · rw [h2]
      rw [h1] at hs
      cases ha : aval C.P fr hp op with
      | some q =>
        rw [← hv, ha]
        rw [ha] at hs
        exact hs
      | none =>
        rw [ha] at hs
        simp only at hs
        cases he : aeff C.P fr hp nx op with
        | some r => rw [he] at hs; simp at hs
        | none =>
          rw [he] at hs
          simp only at hs
          split at hs
          · rename_i c
            obtain ⟨callee, args, ats⟩ := c
            cases callee with
            | builtin b => simp [semCall, callOf] at hs
            | _ => simp [looks] at hl
          · simp at hs
end
end Ax

set_option linter.unusedVariables false
set_option linter.unusedSimpArgs false
namespace Ax
open Go
variable {C : Cfg} {all : Array Oper}

def appE (e : Ent) (s : St) : St := ⟨putFr (killsFr e.kill s.fr) e.o.dst e.γ e.val, bif e.eff then e.hp else s.hp, bif e.eff then e.nx else s.nx, e.kill ++ s.kl⟩
def appL (L : Nat → Bool) : Nat → List Ent → St → St
  | _, [], s => s
  | i, e :: r, s => appL L (i + 1) r (bif L i then appE e s else s)

/-- What is known of an entry. -/
def EntOk (C : Cfg) (all : Array Oper) (e : Ent) : Prop := gcond e.st.fr all e.o.guard = some e.γ ∧
  ((e.eff = false ∧ e.kill = [] ∧ (e.γ = true → ∃ p, semOp C e.st.fr e.st.hp e.st.nx e.o.op = .val p e.val ∧ dfOp e.st.fr e.o.op = true ∧ okP p)) ∨
   (e.eff = true ∧ e.γ = true ∧ ∃ r, semOp C e.st.fr e.st.hp e.st.nx e.o.op = .act r ∧ dfOp e.st.fr e.o.op = true ∧ r.pre ∧ e.val = r.val ∧ e.hp = r.hp ∧ e.nx = r.nx ∧ e.kill = r.kill ∧ e.mod = r.mod))
def Runs (C : Cfg) (all : Array Oper) : List Oper → List Ent → St → St → Prop
  | [], [], s, s' => s = s'
  | o :: r, e :: es, s, s' => e.o = o ∧ e.st = s ∧ EntOk C all e ∧ Runs C all r es (appE e s) s'
  | _, _, _, _ => False

theorem appE_val {o : Oper} {γ : Bool} {st : St} {v : A} : appE ⟨o, γ, false, st, v, st.hp, st.nx, [], []⟩ st = st.val o.dst γ v := rfl
theorem appE_act {o : Oper} {st : St} {r : R} : appE ⟨o, true, true, st, r.val, r.hp, r.nx, r.kill, r.mod⟩ st = st.act o.dst r.val r.hp r.nx r.kill := rfl

theorem aopsT_runs {K : St → List Ent → Prop} : ∀ (rest : List Oper) (st : St) (tr : List Ent), aopsT C all rest st tr K → ∃ es st', Runs C all rest es st st' ∧ K st' (es.reverse ++ tr)
  | [], st, tr, h => ⟨[], st, rfl, h⟩
  | o :: rest, st, tr, h => by
    simp only [aopsT] at h
    cases hg : gcond st.fr all o.guard with
    | none => simp [hg] at h
    | some γ =>
      simp only [hg] at h
      -- one entry more
      have more : ∀ (e : Ent), e.o = o → e.st = st → EntOk C all e → aopsT C all rest (appE e st) (e :: tr) K → ∃ es st', Runs C all (o :: rest) es st st' ∧ K st' (es.reverse ++ tr) := by
        intro e ho hst hok hr
        obtain ⟨es, st', h1, h2⟩ := aopsT_runs rest _ _ hr
        exact ⟨e :: es, st', ⟨ho, hst, hok, h1⟩, by simpa using h2⟩
      have dead : γ = false → aopsT C all rest (st.val o.dst false .any) (⟨o, false, false, st, .any, st.hp, st.nx, [], []⟩ :: tr) K → ∃ es st', Runs C all (o :: rest) es st st' ∧ K st' (es.reverse ++ tr) := fun hγ hr =>
        more ⟨o, false, false, st, .any, st.hp, st.nx, [], []⟩ rfl rfl ⟨by rw [hg, hγ], .inl ⟨rfl, rfl, by simp⟩⟩ hr
      cases hs : semOp C st.fr st.hp st.nx o.op with
      | val p v =>
        simp only [hs] at h
        cases γ with
        | true =>
          obtain ⟨h1, h2⟩ := dP_true h
          obtain ⟨hP, h3⟩ := okP_and h2
          exact more ⟨o, true, false, st, v, st.hp, st.nx, [], []⟩ rfl rfl ⟨hg, .inl ⟨rfl, rfl, fun _ => ⟨p, hs, h1, hP⟩⟩⟩ h3
        | false => exact more ⟨o, false, false, st, v, st.hp, st.nx, [], []⟩ rfl rfl ⟨hg, .inl ⟨rfl, rfl, by simp⟩⟩ (okP_andF (dP_false h))
      | act r =>
        simp only [hs] at h
        rw [ifB_iff] at h
        cases γ with
        | true =>
          obtain ⟨h1, h2, h3⟩ := dP_true (h.1 rfl)
          exact more ⟨o, true, true, st, r.val, r.hp, r.nx, r.kill, r.mod⟩ rfl rfl ⟨hg, .inr ⟨rfl, rfl, r, hs, h1, h2, rfl, rfl, rfl, rfl, rfl⟩⟩ h3
        | false => exact dead rfl (h.2 rfl)
      | inl f as => simp only [hs] at h; exact dead h.1 h.2
      | bad => simp only [hs] at h; exact dead h.1 h.2

/-! ### slots -/
theorem killsFr_get (k : List Nat) (fr : List (Bool × A)) (t : Nat) : (killsFr k fr)[t]? = (fr[t]?).map fun p => (p.1, killsA k p.2) := by rw [killsFr_eq, List.getElem?_map]
theorem appE_other {e : Ent} {s : St} {t : Nat} (hk : e.kill = []) (hd : e.o.dst ≠ some t) : (appE e s).fr[t]? = s.fr[t]? := by
  simp only [appE, hk, killsFr_nil]
  unfold putFr
  cases h : e.o.dst with
  | none => rfl
  | some d => rw [List.getElem?_set_ne (fun e' => hd (by rw [h, e']))]
theorem appE_same {e : Ent} {s s' : St} {t : Nat} (h : s.fr[t]? = s'.fr[t]?) : (appE e s).fr[t]? = (appE e s').fr[t]? := by
  simp only [appE]
  unfold putFr
  have hk : (killsFr e.kill s.fr)[t]? = (killsFr e.kill s'.fr)[t]? := by rw [killsFr_get, killsFr_get, h]
  cases e.o.dst with
  | none => exact hk
  | some d =>
    simp only
    rw [List.getElem?_set, List.getElem?_set]
    by_cases hd : d = t
    · subst hd
      rw [if_pos rfl, if_pos rfl]
      by_cases hl : d < (killsFr e.kill s.fr).length
      · have : d < (killsFr e.kill s'.fr).length := by
          rw [List.getElem?_eq_getElem hl] at hk
          exact (List.getElem?_eq_some_iff.1 hk.symm).1
        rw [if_pos hl, if_pos this]
      · have : ¬ d < (killsFr e.kill s'.fr).length := fun h' => hl (by
          rw [List.getElem?_eq_getElem h'] at hk
          exact (List.getElem?_eq_some_iff.1 hk).1)
        rw [if_neg hl, if_neg this]
    · rw [if_neg hd, if_neg hd, hk]
/-- The same slot behind two runs of which one may have killed more. -/
def Kin (ks : List Nat) (x y : Option (Bool × A)) : Prop := (x = none ∧ y = none) ∨ ∃ g c k k', (∀ n ∈ k, n ∈ ks) ∧ (∀ n ∈ k', n ∈ ks) ∧ x = some (g, killsA k c) ∧ y = some (g, killsA k' c)
variable {ks : List Nat}
theorem Kin.refl (x : Option (Bool × A)) : Kin ks x x := by
  cases x with
  | none => exact .inl ⟨rfl, rfl⟩
  | some p => exact .inr ⟨p.1, p.2, [], [], by simp, by simp, rfl, rfl⟩
theorem killsA_app (k k' : List Nat) (x : A) : killsA (k ++ k') x = killsA k' (killsA k x) := by simp [killsA, List.foldl_append]
theorem Kin.left {x y : Option (Bool × A)} (h : Kin ks x y) (k : List Nat) (hk : ∀ n ∈ k, n ∈ ks) : Kin ks (x.map fun p => (p.1, killsA k p.2)) y := by
  rcases h with ⟨rfl, rfl⟩ | ⟨g, c, k1, k2, h1, h2, rfl, rfl⟩
  · exact .inl ⟨rfl, rfl⟩
  · exact .inr ⟨g, c, k1 ++ k, k2, fun n hn => (List.mem_append.1 hn).elim (h1 n) (hk n), h2, by simp [killsA_app], rfl⟩
theorem Kin.right {x y : Option (Bool × A)} (h : Kin ks x y) (k : List Nat) (hk : ∀ n ∈ k, n ∈ ks) : Kin ks x (y.map fun p => (p.1, killsA k p.2)) := by
  rcases h with ⟨rfl, rfl⟩ | ⟨g, c, k1, k2, h1, h2, rfl, rfl⟩
  · exact .inl ⟨rfl, rfl⟩
  · exact .inr ⟨g, c, k1, k2 ++ k, h1, fun n hn => (List.mem_append.1 hn).elim (h2 n) (hk n), rfl, by simp [killsA_app]⟩
theorem appE_other' {e : Ent} {s : St} {t : Nat} (hd : e.o.dst ≠ some t) : (appE e s).fr[t]? = (s.fr[t]?).map fun p => (p.1, killsA e.kill p.2) := by
  simp only [appE]
  unfold putFr
  cases h : e.o.dst with
  | none => exact killsFr_get _ _ _
  | some d => simp only; rw [List.getElem?_set_ne (fun e' => hd (by rw [h, e'])), killsFr_get]
theorem appE_kin {e : Ent} {s s' : St} {t : Nat} (hk : ∀ n ∈ e.kill, n ∈ ks) (h : Kin ks s.fr[t]? s'.fr[t]?) : Kin ks (appE e s).fr[t]? (appE e s').fr[t]? := by
  by_cases hd : e.o.dst = some t
  · simp only [appE]
    unfold putFr
    rw [hd]
    simp only
    have hl : t < (killsFr e.kill s.fr).length ↔ t < (killsFr e.kill s'.fr).length := by
      rw [killsFr_eq, killsFr_eq, List.length_map, List.length_map]
      rcases h with ⟨h1, h2⟩ | ⟨g, c, k1, k2, _, _, h1, h2⟩
      · rw [List.getElem?_eq_none_iff] at h1 h2; omega
      · have := (List.getElem?_eq_some_iff.1 h1).1
        have := (List.getElem?_eq_some_iff.1 h2).1
        omega
    rw [List.getElem?_set, List.getElem?_set, if_pos rfl, if_pos rfl]
    by_cases hlt : t < (killsFr e.kill s.fr).length
    · rw [if_pos hlt, if_pos (hl.1 hlt)]; exact Kin.refl _
    · rw [if_neg hlt, if_neg fun h' => hlt (hl.2 h')]; exact .inl ⟨rfl, rfl⟩
  · rw [appE_other' hd, appE_other' hd]
    exact (h.left _ hk).right _ hk
theorem slot_kin {L L' : Nat → Bool} {t : Nat} : ∀ (es : List Ent) (i : Nat) (s s' : St), (∀ e ∈ es, ∀ n ∈ e.kill, n ∈ ks) → Kin ks s.fr[t]? s'.fr[t]? →
    (∀ j e, es[j]? = some e → e.o.dst = some t → L (i + j) = L' (i + j)) → Kin ks (appL L i es s).fr[t]? (appL L' i es s').fr[t]?
  | [], _, _, _, _, h, _ => h
  | e :: r, i, s, s', hks, h, hr => by
    simp only [appL]
    have hke := hks e List.mem_cons_self
    refine slot_kin r (i + 1) _ _ (fun e' he' => hks e' (List.mem_cons_of_mem _ he')) ?_ fun j e' he hk => by
      have := hr (j + 1) e' he hk
      rwa [show i + (j + 1) = i + 1 + j by omega] at this
    by_cases hd : e.o.dst = some t
    · have := hr 0 e rfl hd
      simp only [Nat.add_zero] at this
      rw [this]
      cases L' i with
      | true => exact appE_kin hke h
      | false => exact h
    · cases L i <;> cases L' i
      · exact h
      · simp only [cond_false, cond_true]; rw [appE_other' hd]; exact h.right _ hke
      · simp only [cond_false, cond_true]; rw [appE_other' hd]; exact h.left _ hke
      · exact appE_kin hke h
mutual
theorem solid_of_kill {n : Nat} (hn : n ∈ ks) : ∀ x : A, solidA ks (killA n x) = true → killA n x = x
  | .d _, _ => rfl
  | .nilptr, _ => rfl
  | .nilsl, _ => rfl
  | .niliface, _ => rfl
  | .nilfunc, _ => rfl
  | .nilmap, _ => rfl
  | .dpt _ _ _, _ => rfl
  | .any, h => by simp [killA, solidA] at h
  | .ptr k o, h => by simp only [killA] at h ⊢; cases e : Nat.beq k n <;> rw [e] at h <;> first | rfl | simp [solidA] at h
  | .pel k i j, h => by simp only [killA] at h ⊢; cases e : Nat.beq k n <;> rw [e] at h <;> first | rfl | simp [solidA] at h
  | .sl k o l, h => by simp only [killA] at h ⊢; cases e : Nat.beq k n <;> rw [e] at h <;> first | rfl | simp [solidA] at h
  | .mp k, h => by simp only [killA] at h ⊢; cases e : Nat.beq k n <;> rw [e] at h <;> first | rfl | simp [solidA] at h
  | .agg l, h => by simp only [killA, solidA] at h ⊢; rw [solidL_of_kill hn l h]
  | .tup l, h => by simp only [killA, solidA] at h ⊢; rw [solidL_of_kill hn l h]
  | .func f l, h => by simp only [killA, solidA] at h ⊢; rw [solidL_of_kill hn l h]
  | .iface t v, h => by simp only [killA, solidA] at h ⊢; rw [solid_of_kill hn v h]
theorem solidL_of_kill {n : Nat} (hn : n ∈ ks) : ∀ l : List A, solidL ks (killL n l) = true → killL n l = l
  | [], _ => rfl
  | x :: r, h => by
    simp only [killL, solidL, Bool.and_eq_true] at h ⊢
    rw [solid_of_kill hn x h.1, solidL_of_kill hn r h.2]
end
theorem free_ne {k n : Nat} (hn : n ∈ ks) (h : (!(ks.any (Nat.beq k))) = true) : Nat.beq k n = false := by
  cases e : Nat.beq k n with
  | false => rfl
  | true =>
    have := Nat.eq_of_beq_eq_true e; subst this
    have : ks.any (Nat.beq k) = true := List.any_eq_true.2 ⟨k, hn, Nat.beq_refl k⟩
    rw [this] at h; simp at h
mutual
theorem kill_free {n : Nat} (hn : n ∈ ks) : ∀ x : A, freeA ks x = true → killA n x = x
  | .d _, _ => rfl
  | .nilptr, _ => rfl
  | .nilsl, _ => rfl
  | .niliface, _ => rfl
  | .nilfunc, _ => rfl
  | .nilmap, _ => rfl
  | .dpt _ _ _, _ => rfl
  | .any, _ => rfl
  | .ptr k o, h => by simp only [freeA] at h; simp only [killA, free_ne hn h, cond_false]
  | .pel k i j, h => by simp only [freeA] at h; simp only [killA, free_ne hn h, cond_false]
  | .sl k o l, h => by simp only [freeA] at h; simp only [killA, free_ne hn h, cond_false]
  | .mp k, h => by simp only [freeA] at h; simp only [killA, free_ne hn h, cond_false]
  | .agg l, h => by simp only [killA]; rw [killL_free hn l h]
  | .tup l, h => by simp only [killA]; rw [killL_free hn l h]
  | .func f l, h => by simp only [killA]; rw [killL_free hn l h]
  | .iface t v, h => by simp only [killA]; rw [kill_free hn v h]
theorem killL_free {n : Nat} (hn : n ∈ ks) : ∀ l : List A, freeL ks l = true → killL n l = l
  | [], _ => rfl
  | x :: r, h => by
    simp only [freeL, Bool.and_eq_true] at h
    simp only [killL]
    rw [kill_free hn x h.1, killL_free hn r h.2]
end
mutual
theorem free_of_solid : ∀ x : A, solidA ks x = true → freeA ks x = true
  | .d _, _ => rfl
  | .nilptr, _ => rfl
  | .nilsl, _ => rfl
  | .niliface, _ => rfl
  | .nilfunc, _ => rfl
  | .nilmap, _ => rfl
  | .dpt _ _ _, _ => rfl
  | .any, _ => rfl
  | .ptr k o, h => h
  | .pel k i j, h => h
  | .sl k o l, h => h
  | .mp k, h => h
  | .agg l, h => freeL_of_solid l h
  | .tup l, h => freeL_of_solid l h
  | .func f l, h => freeL_of_solid l h
  | .iface t v, h => free_of_solid v h
theorem freeL_of_solid : ∀ l : List A, solidL ks l = true → freeL ks l = true
  | [], _ => rfl
  | x :: r, h => by
    simp only [solidL, Bool.and_eq_true] at h
    simp only [freeL, Bool.and_eq_true]
    exact ⟨free_of_solid x h.1, freeL_of_solid r h.2⟩
end
theorem kills_free : ∀ (k : List Nat) (x : A), (∀ n ∈ k, n ∈ ks) → freeA ks x = true → killsA k x = x
  | [], _, _, _ => rfl
  | n :: k, x, hk, h => by
    have : killsA (n :: k) x = killsA k (killA n x) := rfl
    rw [this, kill_free (hk n List.mem_cons_self) x h, kills_free k x (fun m hm => hk m (List.mem_cons_of_mem _ hm)) h]
theorem solid_of_kills : ∀ (k : List Nat) (x : A), (∀ n ∈ k, n ∈ ks) → solidA ks (killsA k x) = true → killsA k x = x
  | [], _, _, _ => rfl
  | n :: k, x, hk, h => by
    have e : killsA (n :: k) x = killsA k (killA n x) := rfl
    rw [e] at h ⊢
    have h1 := solid_of_kills k (killA n x) (fun m hm => hk m (List.mem_cons_of_mem _ hm)) h
    rw [h1] at h ⊢
    exact solid_of_kill (hk n List.mem_cons_self) x h
theorem Kin.solid {x y : Option (Bool × A)} (h : Kin ks x y) (hs : ∀ p, y = some p → solidA ks p.2 = true) : x = y := by
  rcases h with ⟨rfl, rfl⟩ | ⟨g, c, k1, k2, q1, q2, rfl, rfl⟩
  · rfl
  · have h1 := hs _ rfl
    have h2 := solid_of_kills k2 c q2 h1
    rw [h2] at h1 ⊢
    rw [kills_free k1 c q1 (free_of_solid c h1)]
theorem allKills_mem : ∀ {es : List Ent} {e : Ent}, e ∈ es → ∀ n ∈ e.kill, n ∈ allKills es
  | [], _, h, _, _ => by simp at h
  | x :: r, e, h, n, hn => by
    simp only [allKills, List.mem_append]
    rcases List.mem_cons.1 h with rfl | h
    · exact .inl hn
    · exact .inr (allKills_mem h n hn)
theorem slot_agree {L L' : Nat → Bool} {t : Nat} : ∀ (es : List Ent) (i : Nat) (s s' : St), s.fr[t]? = s'.fr[t]? →
    (∀ j e, es[j]? = some e → (e.kill ≠ [] ∨ e.o.dst = some t) → L (i + j) = L' (i + j)) → (appL L i es s).fr[t]? = (appL L' i es s').fr[t]?
  | [], _, _, _, h, _ => h
  | e :: r, i, s, s', h, hr => by
    simp only [appL]
    refine slot_agree r (i + 1) _ _ ?_ fun j e' he hk => by
      have := hr (j + 1) e' he hk
      rwa [show i + (j + 1) = i + 1 + j by omega] at this
    by_cases hk : e.kill ≠ [] ∨ e.o.dst = some t
    · have := hr 0 e rfl hk
      simp only [Nat.add_zero] at this
      rw [this]
      cases L' i with
      | true => exact appE_same h
      | false => exact h
    · simp only [not_or, Decidable.not_not] at hk
      have a : ∀ (b : Bool) (s : St), (bif b then appE e s else s).fr[t]? = s.fr[t]? := fun b s => by
        cases b with
        | true => exact appE_other hk.1 hk.2
        | false => rfl
      rw [a, a, h]
theorem rdT_get {fr fr' : List (Bool × A)} {t : Nat} (h : fr[t]? = fr'[t]?) : rdT fr t = rdT fr' t := by simp [rdT, List.getD_eq_getElem?_getD, h]

/-! ### memory -/
/-- Whoever acted ahead, if anybody did. -/
def PreE (es : List Ent) (L : Nat → Bool) : Prop := ∀ i j e e', es[i]? = some e → es[j]? = some e' → e.eff = true → e'.eff = true → i < j → L j = true → L i = true

/-- At entry i of the run in text order. -/
def AtI (es : List Ent) (s0 : St) : Prop := ∀ i e, es[i]? = some e → e.st = appL (fun j => decide (j < i)) 0 es s0

theorem appL_snoc (L : Nat → Bool) : ∀ (es : List Ent) (i : Nat) (e : Ent) (s : St), appL L i (es ++ [e]) s = (bif L (i + es.length) then appE e (appL L i es s) else appL L i es s)
  | [], i, e, s => by simp [appL]
  | x :: r, i, e, s => by
    simp only [List.cons_append, appL]
    rw [appL_snoc L r (i + 1)]
    simp only [List.length_cons]
    rw [show i + 1 + r.length = i + (r.length + 1) by omega]
theorem appL_congr {L L' : Nat → Bool} : ∀ (es : List Ent) (i : Nat) (s : St), (∀ j, j < es.length → L (i + j) = L' (i + j)) → appL L i es s = appL L' i es s
  | [], _, _, _ => rfl
  | e :: r, i, s, h => by
    simp only [appL]
    have h0 := h 0 (by simp)
    simp only [Nat.add_zero] at h0
    rw [h0]
    exact appL_congr r (i + 1) _ fun j hj => by
      have := h (j + 1) (by simp; omega)
      rwa [show i + (j + 1) = i + 1 + j by omega] at this
theorem appL_none {L : Nat → Bool} : ∀ (es : List Ent) (i : Nat) (s : St), (∀ j, j < es.length → L (i + j) = false) → appL L i es s = s
  | [], _, _, _ => rfl
  | e :: r, i, s, h => by
    simp only [appL]
    have h0 := h 0 (by simp)
    simp only [Nat.add_zero] at h0
    rw [h0]
    exact appL_none r (i + 1) _ fun j hj => by
      have := h (j + 1) (by simp; omega)
      rwa [show i + (j + 1) = i + 1 + j by omega] at this
theorem Runs_at : ∀ {ops : List Oper} {es : List Ent} {s s' : St}, Runs C all ops es s s' → ops.length = es.length ∧ s' = appL (fun _ => true) 0 es s ∧
    (∀ (i : Nat) (e : Ent), es[i]? = some e → EntOk C all e ∧ ops[i]? = some e.o) ∧ AtI es s
  | [], [], s, s', h => ⟨rfl, h.symm, fun i e he => by simp at he, fun i e he => by simp at he⟩
  | [], _ :: _, _, _, h => h.elim
  | _ :: _, [], _, _, h => h.elim
  | o :: r, e :: es, s, s', h => by
    obtain ⟨h1, h2, h3, h4⟩ := h
    obtain ⟨q1, q2, q3, q4⟩ := Runs_at h4
    have sh : ∀ (L : Nat → Bool) (es : List Ent) (i : Nat) (s : St), appL L (i + 1) es s = appL (fun j => L (j + 1)) i es s := by
      intro L es
      induction es with
      | nil => intro i s; rfl
      | cons x xs ih => intro i s; simp only [appL]; rw [ih]
    refine ⟨by simp [q1], ?_, ?_, ?_⟩
    · rw [q2]; simp only [appL, cond_true]; rw [sh]
    · intro i e' he
      cases i with
      | zero => simp at he; subst he; exact ⟨h3, by rw [h1]; rfl⟩
      | succ i => simpa using q3 i e' (by simpa using he)
    · intro i e' he
      cases i with
      | zero =>
        simp at he; subst he
        rw [h2]
        exact (appL_none _ 0 _ fun j _ => by simp).symm
      | succ i =>
        have := q4 i e' (by simpa using he)
        rw [this]
        simp only [appL]
        have e0 : decide (0 < i + 1) = true := by simp
        rw [e0, cond_true, sh]
        exact appL_congr _ _ _ fun j _ => by simp
end Ax
