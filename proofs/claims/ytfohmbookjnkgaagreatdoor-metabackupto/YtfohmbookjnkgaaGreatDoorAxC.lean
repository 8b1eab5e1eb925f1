/- From one world to the next: new objects, objects written. Conditions: none; lemmas. -/
import Derived.Test.YtfohmbookjnkgaaGreatDoorAxB
import Derived.Laws.OwnMore
import Derived.Laws.IdiomStrings
set_option linter.unusedVariables false
set_option linter.unusedSimpArgs false
namespace Ax
open Go
variable {P : Program} {ρ : Rho} {nx : Nat} {ok : Nat → Prop} {w : World} {hp : Heap}

theorem upd_agree {l : Loc} {ρ' : Rho} (h : Agree (nx + 1) (upd ρ nx l) ρ') : Agree nx ρ ρ' ∧ ρ' nx = l :=
  ⟨fun m hm => (h m (by omega)).trans (upd_ne _ _ _ _ (by omega)), (h nx (by omega)).trans (upd_same _ _ _)⟩

/-- A new object. -/
theorem step_new (g : Good ρ nx ok hp w) {o : O} {w1 : World} (l : Loc) (hb : ∀ b, l.b = some b → b = w.heap.size) (hev : Evo (fun _ => False) w w1) (hlt : ∀ b, l.b = some b → b < w1.heap.size)
    (hold : ∀ ρ', Agree (nx + 1) (upd ρ nx l) ρ' → Holds ρ' ok w1 nx o) : Step ρ nx ok hp w (upd ρ nx l) (nx + 1) ok (hset hp nx o) w1 [] := by
  have fresh : ∀ n o', hget hp n = some o' → n ≠ nx := fun n o' h => Nat.ne_of_lt (g.bd n o' h)
  have hblk : ∀ b, b < w.heap.size → w1.heap[b]? = w.heap[b]? := fun b hb => hev.block b hb (fun h => h)
  refine ⟨⟨g.gl.mono (fun _ h => h) (fun b hb => hblk b (g.now.oklt b hb)), ?_, fun ρ' ha => ?_⟩, ?_, fun _ h => h, by omega, fun n hn _ => upd_ne _ _ _ _ (by omega), ?_, fun _ h => .inl h⟩
  · intro n o' h
    rw [hget_hset] at h
    split at h
    · omega
    · have := g.bd n o' h; omega
  · obtain ⟨hag, hnx⟩ := upd_agree ha
    have S := g.sat ρ' hag
    have key : ∀ n o' b, hget (hset hp nx o) n = some o' → (ρ' n).b = some b → (n = nx ∧ b = w.heap.size) ∨ (n ≠ nx ∧ hget hp n = some o' ∧ b < w.heap.size) := by
      intro n o' b h1 h2
      rw [hget_hset] at h1
      split at h1
      · rename_i e; subst e; rw [hnx] at h2; exact .inl ⟨rfl, hb b h2⟩
      · rename_i e; exact .inr ⟨e, h1, S.lt n o' b h1 h2⟩
    refine ⟨?_, ?_, ?_, fun b hb => Nat.lt_of_lt_of_le (S.oklt b hb) hev.size, ?_⟩
    · intro n m o1 o2 b h1 h2 h3 h4
      rcases key n o1 b h1 h3 with ⟨e1, e2⟩ | ⟨e1, e2, e3⟩ <;> rcases key m o2 b h2 h4 with ⟨f1, f2⟩ | ⟨f1, f2, f3⟩
      · omega
      · omega
      · omega
      · exact S.inj n m o1 o2 b e2 f2 h3 h4
    · intro n o1 b h1 h2
      rcases key n o1 b h1 h2 with ⟨e1, e2⟩ | ⟨_, _, e3⟩
      · subst e1; rw [hnx] at h2; exact hlt b h2
      · exact Nat.lt_of_lt_of_le e3 hev.size
    · intro n o1 b h1 h2 hk
      rcases key n o1 b h1 h2 with ⟨_, e2⟩ | ⟨_, e2, e3⟩
      · have := S.oklt b hk; omega
      · exact S.nok n o1 b e2 h2 hk
    · intro n o1 h1
      rw [hget_hset] at h1
      split at h1
      · rename_i e; subst e; simp at h1; subst h1; exact hold ρ' ha
      · exact Holds_mono (fun _ h => h) (fun b hb => hblk b (S.oklt b hb)) (fun b hb => hblk b (S.lt n o1 b h1 hb)) (S.obj n o1 h1)
  · exact ⟨hev.os, hev.tape, hev.output, hev.size, fun b hb _ => hblk b hb⟩
  · intro b ⟨n, o', h1, h2⟩
    rw [hget_hset] at h1
    split at h1
    · rename_i e; subst e; rw [upd_same] at h2; exact .inr (by rw [hb b h2]; exact Nat.le_refl _)
    · rename_i e; rw [upd_ne _ _ _ _ e] at h2; exact .inl ⟨n, o', h1, h2⟩

/-- An object written in place. -/
theorem step_set (g : Good ρ nx ok hp w) {n : Nat} {o0 o : O} {w1 : World} (hn : hget hp n = some o0) (hev : Evo (fun b => (ρ n).b = some b) w w1)
    (hold : ∀ ρ', Agree nx ρ ρ' → Holds ρ' ok w1 n o) : Step ρ nx ok hp w ρ nx ok (hset hp n o) w1 [] := by
  have hnx := g.bd n o0 hn
  have old : ∀ m o', hget (hset hp n o) m = some o' → ∃ o1, hget hp m = some o1 ∧ (m ≠ n → o1 = o') := by
    intro m o' h
    rw [hget_hset] at h
    split at h
    · rename_i e; subst e; exact ⟨o0, hn, fun h => absurd rfl h⟩
    · exact ⟨o', h, fun _ => rfl⟩
  refine ⟨⟨g.gl.mono (fun _ h => h) (fun b hb => hev.block b (g.now.oklt b hb) fun he => g.now.nok n o0 b hn he hb), ?_, fun ρ' ha => ?_⟩, ?_, fun _ h => h, Nat.le_refl _, fun _ _ _ => rfl, ?_, fun _ h => .inl h⟩
  · intro m o' h
    obtain ⟨o1, h1, _⟩ := old m o' h
    exact g.bd m o1 h1
  · have S := g.sat ρ' ha
    have hρn := ha n hnx
    refine ⟨?_, ?_, ?_, fun b hb => Nat.lt_of_lt_of_le (S.oklt b hb) hev.size, ?_⟩
    · intro m m' o1 o2 b h1 h2
      obtain ⟨p1, q1, _⟩ := old m o1 h1
      obtain ⟨p2, q2, _⟩ := old m' o2 h2
      exact S.inj m m' p1 p2 b q1 q2
    · intro m o1 b h1 h2
      obtain ⟨p1, q1, _⟩ := old m o1 h1
      exact Nat.lt_of_lt_of_le (S.lt m p1 b q1 h2) hev.size
    · intro m o1 b h1 h2
      obtain ⟨p1, q1, _⟩ := old m o1 h1
      exact S.nok m p1 b q1 h2
    · intro m o1 h1
      rw [hget_hset] at h1
      split at h1
      · rename_i e; subst e; simp at h1; subst h1; exact hold ρ' ha
      · rename_i e
        refine Holds_mono (fun _ h => h) (fun b hb => hev.block b (S.oklt b hb) fun hbn => ?_) (fun b hb => hev.block b (S.lt m o1 b h1 hb) fun hbn => ?_) (S.obj m o1 h1)
        · rw [← hρn] at hbn; exact S.nok n o0 b hn hbn hb
        · rw [← hρn] at hbn; exact e (S.inj m n o1 o0 b h1 hn hb hbn)
  · exact ⟨hev.os, hev.tape, hev.output, hev.size, fun b hb hno => hev.block b hb fun hbn => hno ⟨n, o0, hn, hbn⟩⟩
  · intro b ⟨m, o', h1, h2⟩
    obtain ⟨o1, q1, _⟩ := old m o' h1
    exact .inl ⟨m, o1, q1, h2⟩

/-- A row appended to: in place, or in a new block. -/
theorem step_row (g : Good ρ nx ok hp w) {n : Nat} {o0 o : O} {w1 : World} (hn : hget hp n = some o0) (l : Loc) (hl : ∀ b, l.b = some b → (ρ n).b = some b ∨ b = w.heap.size)
    (hev : Evo (fun b => (ρ n).b = some b) w w1) (hlt : ∀ b, l.b = some b → b < w1.heap.size)
    (hold : ∀ ρ', Agree nx (upd ρ n l) ρ' → Holds ρ' ok w1 n o) : Step ρ nx ok hp w (upd ρ n l) nx ok (hset (killHp n hp) n o) w1 [n] := by
  have hnx := g.bd n o0 hn
  have old : ∀ m o', hget (hset (killHp n hp) n o) m = some o' → m ≠ n → ∃ o1, hget hp m = some o1 ∧ o' = killO n o1 := by
    intro m o' h hm
    rw [hget_hset, if_neg hm, hget_killHp] at h
    cases h1 : hget hp m with
    | none => simp [h1] at h
    | some o1 => simp [h1] at h; exact ⟨o1, rfl, h.symm⟩
  refine ⟨⟨g.gl.mono (fun _ h => h) (fun b hb => hev.block b (g.now.oklt b hb) fun he => g.now.nok n o0 b hn he hb), ?_, fun ρ' ha => ?_⟩, ?_, fun _ h => h, Nat.le_refl _, fun m _ hm => upd_ne _ _ _ _ (by simpa using hm), ?_, fun _ h => .inl h⟩
  · intro m o' h
    by_cases e : m = n
    · omega
    · obtain ⟨o1, h1, _⟩ := old m o' h e
      exact g.bd m o1 h1
  · have hρn : ρ' n = l := (ha n hnx).trans (upd_same _ _ _)
    let ρ0 : Rho := fun m => if m = n then ρ n else ρ' m
    have h0n : ρ0 n = ρ n := if_pos rfl
    have h0m : ∀ m, m ≠ n → ρ0 m = ρ' m := fun m h => if_neg h
    have S := g.sat ρ0 fun m hm => by
      by_cases e : m = n
      · subst e; exact h0n
      · exact (h0m m e).trans ((ha m hm).trans (upd_ne _ _ _ _ e))
    have hlt0 : ∀ b, (ρ' n).b = some b → (ρ n).b = some b ∨ b = w.heap.size := fun b hb => hl b (by rw [← hρn]; exact hb)
    have hsep : ∀ m o1 b, hget hp m = some o1 → m ≠ n → (ρ' m).b = some b → (ρ' n).b ≠ some b := by
      intro m o1 b h1 hm h2 h3
      rcases hlt0 b h3 with h4 | h4
      · exact hm (S.inj m n o1 o0 b h1 hn (by rw [h0m m hm]; exact h2) (by rw [h0n]; exact h4))
      · have := S.lt m o1 b h1 (by rw [h0m m hm]; exact h2); omega
    refine ⟨?_, ?_, ?_, fun b hb => Nat.lt_of_lt_of_le (S.oklt b hb) hev.size, ?_⟩
    · intro m m' o1 o2 b h1 h2 h3 h4
      by_cases e : m = n <;> by_cases e' : m' = n
      · omega
      · obtain ⟨p2, q2, _⟩ := old m' o2 h2 e'
        subst e
        exact absurd h3 (hsep m' p2 b q2 e' h4)
      · obtain ⟨p1, q1, _⟩ := old m o1 h1 e
        subst e'
        exact absurd h4 (hsep m p1 b q1 e h3)
      · obtain ⟨p1, q1, _⟩ := old m o1 h1 e
        obtain ⟨p2, q2, _⟩ := old m' o2 h2 e'
        exact S.inj m m' p1 p2 b q1 q2 (by rw [h0m m e]; exact h3) (by rw [h0m m' e']; exact h4)
    · intro m o1 b h1 h2
      by_cases e : m = n
      · subst e; exact hlt b (by rw [← hρn]; exact h2)
      · obtain ⟨p1, q1, _⟩ := old m o1 h1 e
        exact Nat.lt_of_lt_of_le (S.lt m p1 b q1 (by rw [h0m m e]; exact h2)) hev.size
    · intro m o1 b h1 h2 hk
      by_cases e : m = n
      · subst e
        rcases hlt0 b h2 with h4 | h4
        · exact S.nok m o0 b hn (by rw [h0n]; exact h4) hk
        · have := S.oklt b hk; omega
      · obtain ⟨p1, q1, _⟩ := old m o1 h1 e
        exact S.nok m p1 b q1 (by rw [h0m m e]; exact h2) hk
    · intro m o1 h1
      by_cases e : m = n
      · subst e
        rw [hget_hset, if_pos rfl] at h1
        simp at h1; subst h1
        exact hold ρ' ha
      · obtain ⟨p1, q1, rfl⟩ := old m o1 h1 e
        refine Holds_kill n (ρ := ρ0) (fun m hm => (h0m m hm).symm) e ?_
        refine Holds_mono (fun _ h => h) (fun b hb => hev.block b (S.oklt b hb) fun hbn => ?_) (fun b hb => hev.block b (S.lt m p1 b q1 hb) fun hbn => ?_) (S.obj m p1 q1)
        · exact S.nok n o0 b hn (by rw [h0n]; exact hbn) hb
        · exact e (S.inj m n p1 o0 b q1 hn hb (by rw [h0n]; exact hbn))
  · exact ⟨hev.os, hev.tape, hev.output, hev.size, fun b hb hno => hev.block b hb fun hbn => hno ⟨n, o0, hn, hbn⟩⟩
  · intro b ⟨m, o', h1, h2⟩
    by_cases e : m = n
    · subst e
      rw [upd_same] at h2
      rcases hl b h2 with h3 | h3
      · exact .inl ⟨m, o0, hn, h3⟩
      · exact .inr (by omega)
    · obtain ⟨o1, q1, _⟩ := old m o' h1 e
      rw [upd_ne _ _ _ _ e] at h2
      exact .inl ⟨m, o1, q1, h2⟩

theorem evo_alloc (own : Nat → Prop) (w : World) (o : Obj) : Evo own w (w.alloc o) := ⟨rfl, rfl, rfl, by simp, fun k hk _ => heap_alloc_old w o k hk⟩
theorem evo_drew_alloc (own : Nat → Prop) (w : World) (o : Obj) : Evo own w (w.drew.alloc o) := ⟨rfl, rfl, rfl, by simp, fun k hk _ => heap_alloc_old w.drew o k hk⟩
theorem evo_setRow (w : World) (b : Nat) (cs : Array Value) : Evo (fun k => some b = some k) w (w.setRow b cs) :=
  ⟨rfl, rfl, rfl, by simp, fun k _ hk => setRow_other w b k cs (fun e => hk (by rw [e]))⟩
theorem unfr0 (n : Nat) : unfr (0, 0) n := fun off _ h => by omega

theorem RelG.now {x : A} {v : Value} (h : RelG ρ nx ok w x v) : Rel ρ ok w x v := h ρ (Agree.refl _ _)
theorem RelG.all_mono {w1 : World} {l : List A} {vs : List Value} (hw : ∀ b, ok b → w1.heap[b]? = w.heap[b]?) (h : RelGL ρ nx ok w l vs) : RelGL ρ nx ok w1 l vs :=
  fun ρ' ha => RelL_mono (fun _ h => h) hw _ _ (h ρ' ha)

/-- A new object of cells. -/
theorem new_cells (g : Good ρ nx ok hp w) (t : Nat) {l : List A} {arr : Array Value} (hr : RelGL ρ nx ok w l arr.toList) (h1 : ∀ u ∈ arr.toList, one u = true) :
    Step ρ nx ok hp w (upd ρ nx ⟨some w.heap.size, 0, 0⟩) (nx + 1) ok (hset hp nx (.cells t l)) (w.alloc (.cells arr t)) [] ∧
    RelG (upd ρ nx ⟨some w.heap.size, 0, 0⟩) (nx + 1) ok (w.alloc (.cells arr t)) (.ptr nx 0) (.pointer (some ⟨w.heap.size, 0, none⟩)) := by
  refine ⟨step_new g _ (fun b h => by simpa using h.symm) (evo_alloc _ _ _) (fun b h => by simp at h; subst h; simp) fun ρ' ha => ?_, fun ρ' ha => ?_⟩
  · obtain ⟨hag, hnx⟩ := upd_agree ha
    refine ⟨w.heap.size, arr, (0, 0), by rw [hnx], heap_alloc_new w _, unfr0 _, ?_, h1⟩
    exact RelL_mono (fun _ h => h) (fun b hb => heap_alloc_old w _ b (g.now.oklt b hb)) _ _ (hr ρ' hag)
  · obtain ⟨hag, hnx⟩ := upd_agree ha
    exact ⟨w.heap.size, by rw [hnx], rfl⟩

/-- A new row of data, as a slice of its first elements. -/
theorem new_row (g : Good ρ nx ok hp w) (t : Nat) {x : D} {arr : Array Value} {fz : Nat × Nat} {w1 : World} (hw1 : w1.heap[w.heap.size]? = some (.cells arr t fz)) (hfz : unfr fz arr.size) (hev : Evo (fun _ => False) w w1) (hlt : w.heap.size < w1.heap.size) (hx : x.isSl = true) (hc : x.cnt ≤ 281474976710656) (hs : x.cnt * x.wid ≤ arr.size)
    (hr : ∀ i j, i < x.cnt → j < x.wid → ∃ u, arr[i * x.wid + j]? = some u ∧ RD ok w (x.at i j) u) :
    Step ρ nx ok hp w (upd ρ nx ⟨some w.heap.size, x.wid, arr.size⟩) (nx + 1) ok (hset hp nx (.row t x)) w1 [] := by
  refine step_new g _ (fun b h => by simpa using h.symm) hev (fun b h => by simp at h; omega) fun ρ' ha => ?_
  obtain ⟨hag, hnx⟩ := upd_agree ha
  refine ⟨hx, by rw [hnx], hc, ?_⟩
  rw [hnx]
  refine ⟨arr, fz, hw1, hfz, rfl, hs, fun i j hi hj => ?_⟩
  obtain ⟨u, q1, q2⟩ := hr i j hi hj
  exact ⟨u, q1, RD_mono (fun _ h => h) (fun b hb => hev.block b (g.now.oklt b hb) (fun h => h)) _ _ q2⟩
theorem new_sl {l : Loc} {t n c : Nat} {w1 : World} (hl : l.b = some t) (hn : n ≤ c) (hc : c * l.m = l.sz) : RelG (upd ρ nx l) (nx + 1) ok w1 (.sl nx 0 n) (.slice (some ⟨t, 0, none⟩) n c) := fun ρ' ha => by
  obtain ⟨hag, hnx⟩ := upd_agree ha
  simp only [Rel]
  rw [hnx, hl]
  exact ⟨_, c, rfl, hn, by simpa using hc, fun _ => by simp⟩

/-- A new row of values. -/
theorem new_vals (g : Good ρ nx ok hp w) (t m : Nat) {l : List A} {arr : Array Value} {w1 : World} (hw1 : w1.heap[w.heap.size]? = some (.cells arr t (0, 0))) (hev : Evo (fun _ => False) w w1) (hlt : w.heap.size < w1.heap.size) (hs : l.length ≤ arr.size)
    (hr : RelGL ρ nx ok w l (arr.toList.take l.length)) (h1 : ∀ u ∈ arr.toList.take l.length, one u = true) :
    Step ρ nx ok hp w (upd ρ nx ⟨some w.heap.size, m, arr.size⟩) (nx + 1) ok (hset hp nx (.vals t m l)) w1 [] := by
  refine step_new g _ (fun b h => by simpa using h.symm) hev (fun b h => by simp at h; omega) fun ρ' ha => ?_
  obtain ⟨hag, hnx⟩ := upd_agree ha
  refine ⟨w.heap.size, arr, (0, 0), by rw [hnx], by rw [hnx], hw1, unfr0 _, by rw [hnx], hs, ?_, h1⟩
  exact RelL_mono (fun _ h => h) (fun b hb => hev.block b (g.now.oklt b hb) (fun h => h)) _ _ (hr ρ' hag)
end Ax

set_option linter.unusedVariables false
set_option linter.unusedSimpArgs false
namespace Ax
open Go
variable {P : Program} {ρ : Rho} {nx : Nat} {ok : Nat → Prop} {w : World} {hp : Heap}

/-- What an operation that acts comes to. -/
def Eff (ρ : Rho) (nx : Nat) (ok : Nat → Prop) (hp : Heap) (w : World) (r : R) (res : Result Next) : Prop :=
  ∃ u w1 ρ1, (res = .ok (.value u) w1 ∨ (res = .ok .skip w1 ∧ u = undef)) ∧ Step ρ nx ok hp w ρ1 r.nx ok r.hp w1 r.kill ∧ RelG ρ1 r.nx ok w1 r.val u
theorem run_v' {s : Sem Value} {u : Value} {w w' : World} (h : s.run P w = .ok u w') : (do pure (Next.value (← s)) : Sem Next).run P w = .ok (.value u) w' := by
  simp [h]

theorem run_alloc {t : Nat} {z : Value} (h : (zeroValue t).run P w = .ok z w) : (Instr.alloc t true (.tuple #[])).run P w = .ok (.pointer (some ⟨w.heap.size, 0, none⟩)) (w.alloc (.cells z.cells t)) := by
  simp [Instr.alloc, h, newVar, newRow]
theorem run_box {t : Nat} {z : Value} : (Instr.box t z).run P w = .ok (.pointer (some ⟨w.heap.size, 0, none⟩)) (w.alloc (.cells z.cells t)) := by
  simp [Instr.box, newVar, newRow]

theorem isRepI_eq {k : IntKind} : ∀ (n : Nat) (l : List A), isRepI k n l = true → l = List.replicate n (.d (.int k 0))
  | 0, [], _ => rfl
  | 0, _ :: _, h => by simp [isRepI] at h
  | n + 1, [], h => by simp [isRepI] at h
  | n + 1, x :: r, h => by
    cases x with
    | d y => cases y with
      | int k' z =>
        simp only [isRepI, Bool.and_eq_true] at h
        obtain ⟨⟨hk, hz⟩, hr⟩ := h
        obtain rfl := kEq_iff.1 hk
        have : z = 0 := by
          cases z with
          | ofNat q => simp only at hz; have := Nat.eq_of_beq_eq_true hz; subst this; rfl
          | negSucc _ => simp at hz
        subst this
        rw [isRepI_eq n r hr]; rfl
      | _ => simp [isRepI] at h
    | _ => simp [isRepI] at h
theorem isRepS_eq : ∀ (n : Nat) (l : List A), isRepS n l = true → l = List.replicate n (.d (.str []))
  | 0, [], _ => rfl
  | 0, _ :: _, h => by simp [isRepS] at h
  | n + 1, [], h => by simp [isRepS] at h
  | n + 1, x :: r, h => by
    cases x with
    | d y => cases y with
      | str s =>
        simp only [isRepS, Bool.and_eq_true] at h
        obtain ⟨hk, hr⟩ := h
        obtain rfl := List.isEmpty_iff.1 hk
        rw [isRepS_eq n r hr]; rfl
      | _ => simp [isRepS] at h
    | _ => simp [isRepS] at h
theorem repD_ok {n : Nat} {l : List A} {y : D} (h : repD n l = some y) : y.isSl = true ∧ y.cnt = n ∧ y.wid = 1 ∧ l.length = n ∧ ∀ i j, i < n → l[i]? = some (.d (y.at i j)) := by
  unfold repD at h
  split at h
  · rename_i k z0 r
    cases hb : isRepI k n (.d (.int k z0) :: r) with
    | false => simp [hb] at h
    | true =>
      simp only [hb, cond_true, Option.some.injEq] at h
      subst h
      have e := isRepI_eq _ _ hb
      refine ⟨rfl, by simp [D.cnt], rfl, by rw [e]; simp, fun i j hi => ?_⟩
      rw [e]
      simp [List.getElem?_replicate, hi, D.at, List.getD_eq_getElem?_getD]
  · rename_i s0 r
    cases hb : isRepS n (.d (.str s0) :: r) with
    | false => simp [hb] at h
    | true =>
      simp only [hb, cond_true, Option.some.injEq] at h
      subst h
      have e := isRepS_eq _ _ hb
      refine ⟨rfl, by simp [D.cnt], rfl, by rw [e]; simp, fun i j hi => ?_⟩
      rw [e]
      simp [List.getElem?_replicate, hi, D.at, List.getD_eq_getElem?_getD]
  · simp at h

theorem RelG_ofVal (v : Value) : RelG ρ nx ok w (ofVal v) v := fun _ _ => ofVal_ok v
theorem zeroG {t : Nat} {z : A} (h : zeroA P t = some z) : ∃ v, (∀ w : World, (zeroValue t).run P w = .ok v w) ∧ RelG ρ nx ok w z v ∧ ∃ i, P.info? t = some i ∧ i.zero = some v := by
  unfold zeroA at h
  cases hi : P.info? t with
  | none => simp [hi] at h
  | some i =>
    cases hz : i.zero with
    | none => simp [hi, hz] at h
    | some v =>
      simp [hi, hz] at h; subst h
      exact ⟨v, fun w => by simp [zeroValue, typeInfo, hi, hz], RelG_ofVal v, i, rfl, hz⟩
theorem cellsG {x : A} {a : Value} (hx : known x = true) (ha : RelG ρ nx ok w x a) : RelGL ρ nx ok w (cellsA x) a.cells.toList ∧ ∀ u ∈ a.cells.toList, one u = true :=
  ⟨fun ρ' h => (cells_ok hx (ha ρ' h)).1, (cells_ok hx ha.now).2⟩

theorem alloc_eff (g : Good ρ nx ok hp w) {t : Nat} {fr : List (Bool × A)} {r : R} (h : aeff P fr hp nx (.alloc t) = some r) :
    Eff ρ nx ok hp w r ((do pure (Next.value (← Instr.alloc t true (.tuple #[]))) : Sem Next).run P w) := by
  simp only [aeff] at h
  cases hz : zeroA P t with
  | none => simp [hz] at h
  | some z =>
    simp only [hz] at h
    cases hk : known z with
    | false => simp [hk] at h
    | true =>
      simp only [hk, Bool.not_true, cond_false] at h
      obtain ⟨zv, hzv, hzr, _⟩ := zeroG (P := P) (ρ := ρ) (nx := nx) (ok := ok) (w := w) hz
      obtain ⟨hcr, hc1⟩ := cellsG hk hzr
      have hrun := run_v' (run_alloc (hzv w))
      have plain : Eff ρ nx ok hp w ⟨True, .ptr nx 0, hset hp nx (.cells t (cellsA z)), nx + 1, [], [], true⟩ ((do pure (Next.value (← Instr.alloc t true (.tuple #[]))) : Sem Next).run P w) := by
        obtain ⟨q1, q2⟩ := new_cells g t hcr hc1
        exact ⟨_, _, _, .inl hrun, q1, q2⟩
      split at h
      · rename_i len e hu
        split at h
        · rename_i y hy
          simp only [Option.some.injEq] at h; subst h
          cases hlen : (Nat.blt 8 len && Nat.ble len lim) with
          | false => simp [hlen] at hy
          | true =>
            simp only [hlen, cond_true] at hy
            simp only [Bool.and_eq_true] at hlen
            have hl2 : len ≤ lim := Nat.le_of_ble_eq_true hlen.2
            obtain ⟨p1, p2, p3, p4, p5⟩ := repD_ok hy
            have hsz := RelL_len (hcr ρ (Agree.refl _ _))
            have hst := new_row g t (x := y) (arr := zv.cells) (w1 := w.alloc (.cells zv.cells t)) (heap_alloc_new w _) (unfr0 _) (evo_alloc _ _ _) (by simp) p1 (by rw [p2]; simp only [lim] at hl2; omega)
              (by rw [p2, p3, Nat.mul_one, ← p4, hsz]; simp) (fun i j hi hj => by
                rw [p3] at hj ⊢
                obtain rfl : j = 0 := by omega
                rw [p2] at hi
                obtain ⟨u, q1, q2⟩ := RelL_get (hcr ρ (Agree.refl _ _)) i _ (p5 i 0 hi)
                refine ⟨u, by simpa using q1, q2⟩)
            refine ⟨_, _, _, .inl hrun, hst, fun ρ' ha => ?_⟩
            obtain ⟨hag, hnx⟩ := upd_agree ha
            exact ⟨w.heap.size, by rw [hnx], by simp⟩
        · simp only [Option.some.injEq] at h; subst h; exact plain
      · simp only [Option.some.injEq] at h; subst h; exact plain

theorem box_eff (g : Good ρ nx ok hp w) {t : Nat} {X : Operand} {v : Value} {fr : List (Bool × A)} {r : R} (h : aeff P fr hp nx (.box t X) = some r) (hr : RelG ρ nx ok w (evO fr X) v) :
    Eff ρ nx ok hp w r ((do pure (Next.value (← Instr.box t v)) : Sem Next).run P w) := by
  simp only [aeff] at h
  cases hk : known (evO fr X) with
  | false => simp [hk] at h
  | true =>
    simp only [hk, Bool.not_true, cond_false, Option.some.injEq] at h
    subst h
    obtain ⟨hcr, hc1⟩ := cellsG hk hr
    obtain ⟨q1, q2⟩ := new_cells g t hcr hc1
    exact ⟨_, _, _, .inl (run_v' run_box), q1, q2⟩

/-! ### stores -/
theorem run_storeCells_row (b o : Nat) (t : Nat) (fz : Nat × Nat) : ∀ (vs : List Value) (i : Nat) (cur : Array Value) (w : World), w.heap[b]? = some (.cells cur t fz) → unfr fz cur.size → o + i + vs.length ≤ cur.size → (∀ v ∈ vs, one v = true) →
    (storeCells ⟨b, o, none⟩ vs i).run P w = .ok () (w.setRow b (cur.toList.take (o + i) ++ vs ++ cur.toList.drop (o + i + vs.length)).toArray)
  | [], i, cur, w, hg, _, _, _ => by
    simp only [storeCells, List.append_nil, List.length_nil, Nat.add_zero, List.take_append_drop, Array.toArray_toList]
    rw [setRow_self w b cur t fz hg]
    rfl
  | v :: rest, i, cur, w, hg, hf, hl, h1 => by
    have hi : o + i < cur.size := by simp at hl; omega
    have hadd : (⟨b, o, none⟩ : Addr).add i = ⟨b, o + i, none⟩ := addr_add b o i
    have hcell : w.cell? ⟨b, o + i, none⟩ = some cur[o + i] := by simp [World.cell?, hg, hi]
    have hfro : w.frozen? ⟨b, o + i, none⟩ = false := by
      have := hf (o + i) hi
      simp only [World.frozen?, hg]
      cases e : (decide (fz.1 ≤ o + i) && decide (o + i < fz.2)) with
      | false => rfl
      | true => simp at e; exact absurd e this
    have hst : (store ((⟨b, o, none⟩ : Addr).add i) v).run P w = .ok () (w.setRow b (cur.setIfInBounds (o + i) v)) := by
      rw [hadd, run_store P w _ v _ (h1 v (by simp)), hcell]
      simp [hfro, setCell_eq_setRow w b (o + i) cur t fz v hg]
    have ih := run_storeCells_row b o t fz rest (i + 1) (cur.setIfInBounds (o + i) v) (w.setRow b (cur.setIfInBounds (o + i) v)) (setRow_heap w b cur _ t _ hg) (by simpa using hf) (by simp at hl ⊢; omega) (fun x hx => h1 x (by simp [hx]))
    simp only [storeCells, Sem.run_bind, hst, Result.andThen_ok]
    rw [ih, setRow_setRow]
    congr 2
    apply Array.ext'
    have e1 : (cur.toList.set (o + i) v).take (o + (i + 1)) = cur.toList.take (o + i) ++ [v] := by
      rw [show o + (i + 1) = (o + i) + 1 by omega, List.take_succ_eq_append_getElem (by simp; omega)]
      simp [List.take_set]
      rw [List.set_eq_of_length_le (by simp; omega)]
    have e2 : (cur.toList.set (o + i) v).drop (o + (i + 1) + rest.length) = cur.toList.drop (o + i + (v :: rest).length) := by
      rw [List.drop_set, if_pos (by omega)]
      congr 1
      simp; omega
    simp only [Array.toList_setIfInBounds, e1, e2]
    simp

theorem run_storeVar {t b o ty : Nat} {cur : Array Value} {fz : Nat × Nat} {v : Value} (hg : w.heap[b]? = some (.cells cur ty fz)) (hf : unfr fz cur.size) (hs : szO P t = some v.cells.size) (hl : o + v.cells.size ≤ cur.size) (h1 : ∀ u ∈ v.cells.toList, one u = true) :
    (do Instr.storeAt t (.pointer (some ⟨b, o, none⟩)) v; pure Next.skip : Sem Next).run P w = .ok .skip (w.setRow b (cur.toList.take o ++ v.cells.toList ++ cur.toList.drop (o + v.cells.size)).toArray) := by
  have h := run_storeCells_row (P := P) b o ty fz v.cells.toList 0 cur w hg hf (by simpa using hl) h1
  simp only [Nat.add_zero, Array.length_toList] at h
  simp [Instr.storeAt, Instr.sureAddr, storeVar, run_szO hs, h]
end Ax

set_option linter.unusedVariables false
set_option linter.unusedSimpArgs false
namespace Ax
open Go
variable {P : Program} {ρ : Rho} {nx : Nat} {ok : Nat → Prop} {w : World} {hp : Heap}

theorem upd_ok {y z y' : D} {i j : Nat} (h : y.upd i j z = some y') : y'.isSl = true ∧ y'.wid = y.wid ∧ y'.cnt = y.cnt ∧
    (j < y.wid → i < y.cnt → y'.at i j = z) ∧ ∀ i' j', j < y.wid → j' < y.wid → ¬ (i' = i ∧ j' = j) → y'.at i' j' = y.at i' j' := by
  unfold D.upd at h
  split at h
  · simp at h; subst h
    refine ⟨rfl, rfl, by simp [D.cnt], fun hj hi => ?_, fun i' j' hj hj' hn => ?_⟩
    · simp [D.at, D.cnt] at hi ⊢; simp [List.getD_eq_getElem?_getD, hi]
    · simp [D.wid] at hj hj'
      have : i' ≠ i := fun e => hn ⟨e, by omega⟩
      simp [D.at, List.getD_eq_getElem?_getD, List.getElem?_set_ne (Ne.symm this)]
  · rename_i k l k' n
    cases hkk : kEq k k' with
    | false => simp [hkk] at h
    | true =>
      obtain rfl := kEq_iff.1 hkk
      simp [hkk] at h; subst h
      refine ⟨rfl, rfl, by simp [D.cnt], fun hj hi => ?_, fun i' j' hj hj' hn => ?_⟩
      · simp [D.at, D.cnt] at hi ⊢; simp [List.getD_eq_getElem?_getD, hi]
      · simp [D.wid] at hj hj'
        have : i' ≠ i := fun e => hn ⟨e, by omega⟩
        simp [D.at, List.getD_eq_getElem?_getD, List.getElem?_set_ne (Ne.symm this)]
  · simp at h; subst h
    refine ⟨rfl, rfl, rfl, fun hj hi => ?_, fun i' j' hj hj' hn => ?_⟩
    · have e1 : Nat.beq i i = true := Nat.beq_refl i
      have e2 : Nat.beq j j = true := Nat.beq_refl j
      simp [D.at, e1, e2]
    · cases e : (Nat.beq i' i && Nat.beq j' j) with
      | false => simp [D.at, e]
      | true =>
        simp only [Bool.and_eq_true] at e
        exact absurd ⟨Nat.eq_of_beq_eq_true e.1, Nat.eq_of_beq_eq_true e.2⟩ hn
  · simp at h

theorem splice_cells {cur : Array Value} {vs : List Value} {o : Nat} (hl : o + vs.length ≤ cur.size) :
    (cur.toList.take o ++ vs ++ cur.toList.drop (o + vs.length)).toArray.size = cur.size := by
  simp; omega
theorem splice_get {cur : Array Value} {u : Value} {o q : Nat} (hl : o < cur.size) :
    (cur.toList.take o ++ [u] ++ cur.toList.drop (o + 1)).toArray[q]? = if q = o then some u else cur[q]? := by
  have e : cur.toList.take o ++ [u] ++ cur.toList.drop (o + 1) = cur.toList.set o u := by
    rw [List.set_eq_take_append_cons_drop, if_pos (by simpa using hl)]
    simp
  rw [e]
  simp [List.getElem?_set]
  by_cases h : q = o
  · subst h; simp [hl]
  · simp [h, Ne.symm h]

theorem store_eff (g : Good ρ nx ok hp w) {t : Nat} {X Y : Operand} {a v : Value} {fr : List (Bool × A)} {r : R} (h : aeff P fr hp nx (.store t X Y) = some r) (hpre : r.pre)
    (hx : RelG ρ nx ok w (evO fr X) a) (hy : RelG ρ nx ok w (evO fr Y) v) :
    Eff ρ nx ok hp w r ((do Instr.storeAt t a v; pure Next.skip : Sem Next).run P w) := by
  simp only [aeff, Option.map_eq_some_iff] at h
  obtain ⟨⟨p, hp'⟩, h, rfl⟩ := h
  generalize evO fr X = x at h hx
  generalize evO fr Y = y at h hy
  unfold storeAt at h
  cases x with
  | ptr n off =>
    obtain ⟨b, hb, rfl⟩ := hx.now
    simp only at h
    cases ho : hget hp n with
    | none => simp [ho] at h
    | some o => cases o with
      | cells ty l =>
        simp only [ho] at h
        cases hc : (known y && sameN (some (cellsA y).length) (szO P t) && Nat.ble (off + (cellsA y).length) l.length) with
        | false => simp [hc] at h
        | true =>
          simp only [hc, cond_true, Option.some.injEq, Prod.mk.injEq] at h
          obtain ⟨rfl, rfl⟩ := h
          simp only [Bool.and_eq_true] at hc
          obtain ⟨⟨hk, hs⟩, hle⟩ := hc
          have hle := Nat.le_of_ble_eq_true hle
          obtain ⟨m, e1, e2⟩ := sameN_spec hs
          simp at e1
          obtain ⟨hcr, hc1⟩ := cellsG hk hy
          have hlen : (cellsA y).length = v.cells.size := by simpa using RelL_len (hcr ρ (Agree.refl _ _))
          obtain ⟨b', arr, fz, hb', hh, hu, hr, h1⟩ := g.now.obj n _ ho
          obtain rfl : b = b' := by rw [hb] at hb'; simpa using hb'
          have hal := RelL_len hr
          simp at hal
          have hrun := run_storeVar (P := P) (t := t) (o := off) hh hu (by rw [e2, ← e1, hlen]) (by omega) hc1
          refine ⟨_, _, ρ, .inr ⟨hrun, rfl⟩, step_set g ho ?_ (fun ρ' ha => ?_), fun _ _ => trivial⟩
          · exact ⟨rfl, rfl, rfl, by simp, fun k _ hk => setRow_other w b k _ (fun e => hk (by rw [e]; exact hb))⟩
          · have hn := ha n (g.bd n _ ho)
            obtain ⟨b2, arr2, fz2, hb2, hh2, _, hr2, _⟩ := (g.sat ρ' ha).obj n _ ho
            obtain rfl : b2 = b := by rw [hn, hb] at hb2; simpa using hb2.symm
            rw [hh] at hh2
            simp at hh2
            obtain ⟨rfl, rfl, rfl⟩ := hh2
            refine ⟨b2, _, fz, by rw [hn]; exact hb, setRow_heap w b2 arr _ ty _ hh, ?_, ?_, ?_⟩
            · have := splice_cells (cur := arr) (vs := v.cells.toList) (o := off) (by simp; omega)
              simp only [Array.length_toList] at this
              rw [this]; exact hu
            · have hall := RelL_append (RelL_append (RelL_take hr2 off) (hcr ρ' ha)) (RelL_drop hr2 (off + (cellsA y).length))
              rw [hlen] at hall ⊢
              refine RelL_mono (fun _ h => h) (fun k hk => setRow_other w b2 k _ (fun e => ?_)) _ _ (by simpa using hall)
              subst e; exact g.now.nok n _ k ho hb hk
            · intro u hu'
              simp only [List.mem_append] at hu'
              rcases hu' with (h' | h') | h'
              · exact h1 u (List.mem_of_mem_take h')
              · exact hc1 u h'
              · exact h1 u (List.mem_of_mem_drop h')
      | _ => simp [ho] at h
  | pel n i j =>
    obtain ⟨b, hb, rfl⟩ := hx.now
    simp only at h
    cases ho : hget hp n with
    | none => simp [ho] at h
    | some o => cases o with
      | row ty z =>
        simp only [ho] at h
        cases y with
        | d q =>
          simp only at h
          cases hc : (sameN (some 1) (szO P t) && Nat.blt j z.wid) with
          | false => simp [hc] at h
          | true =>
            simp only [hc, cond_true, Option.map_eq_some_iff, Prod.mk.injEq] at h
            obtain ⟨z', hz', rfl, rfl⟩ := h
            simp only [Bool.and_eq_true] at hc
            obtain ⟨m, e1, e2⟩ := sameN_spec hc.1
            simp at e1; subst e1
            have hj : j < z.wid := by simpa [Nat.blt_eq] using hc.2
            have hi : i < z.cnt := hpre
            obtain ⟨u1, u2, u3, u4, u5⟩ := upd_ok hz'
            obtain ⟨hsl, hm, hcn, hrow⟩ := g.now.obj n _ ho
            rw [hb] at hrow
            obtain ⟨arr, fz, hh, hu, hsz, hle, hcell⟩ := hrow
            have hone := one_RD hy.now
            have hcv : v.cells = #[v] := by cases v <;> first | rfl | simp [Value.oneCell'] at hone
            have hoff : i * z.wid + j < arr.size := by
              have : i * z.wid + z.wid ≤ z.cnt * z.wid := by rw [← Nat.succ_mul]; exact Nat.mul_le_mul_right _ hi
              omega
            have hrun := run_storeVar (P := P) (t := t) (o := i * (ρ n).m + j) (v := v) hh hu (by rw [e2, hcv]; rfl) (by rw [hcv, ← hm]; simp; omega) (by rw [hcv]; simpa using hone)
            rw [hcv, ← hm] at hrun
            refine ⟨_, _, ρ, .inr ⟨by rw [← hm]; exact hrun, rfl⟩, step_set g ho ?_ (fun ρ' ha => ?_), fun _ _ => trivial⟩
            · exact ⟨rfl, rfl, rfl, by simp, fun k _ hk => setRow_other w b k _ (fun e => hk (by rw [e]; exact hb))⟩
            · have hn := ha n (g.bd n _ ho)
              refine ⟨u1, by rw [u2, hn]; exact hm, by rw [u3]; exact hcn, ?_⟩
              rw [hn, hb]
              have hss : ∀ k, ok k → (w.setRow b (arr.toList.take (i * z.wid + j) ++ [v] ++ arr.toList.drop (i * z.wid + j + 1)).toArray).heap[k]? = w.heap[k]? := fun k hk =>
                setRow_other w b k _ (fun e => by subst e; exact g.now.nok n _ k ho hb hk)
              have hsize := splice_cells (cur := arr) (vs := [v]) (o := i * z.wid + j) (by simp; omega)
              simp only [List.length_cons, List.length_nil, Nat.zero_add] at hsize
              refine ⟨_, fz, setRow_heap w b arr _ ty _ hh, ?_, ?_, ?_, fun i' j' hi' hj' => ?_⟩
              · exact hsize ▸ hu
              · exact hsize.trans hsz
              · rw [u3, u2]; exact hsize ▸ hle
              · rw [u3] at hi'; rw [u2] at hj'
                have hg := splice_get (cur := arr) (u := v) (o := i * z.wid + j) (q := i' * z.wid + j') hoff
                rw [u2]
                by_cases e : i' = i ∧ j' = j
                · obtain ⟨rfl, rfl⟩ := e
                  rw [if_pos rfl] at hg
                  refine ⟨v, hg, ?_⟩
                  rw [u4 hj hi]
                  exact RD_mono (fun _ h => h) hss _ _ hy.now
                · have hne : i' * z.wid + j' ≠ i * z.wid + j := fun he => by
                    have h1 : (i' * z.wid + j') / z.wid = i' := by
                      rw [Nat.mul_comm, Nat.mul_add_div (by omega), Nat.div_eq_of_lt hj']; simp
                    have h2 : (i * z.wid + j) / z.wid = i := by
                      rw [Nat.mul_comm, Nat.mul_add_div (by omega), Nat.div_eq_of_lt hj]; simp
                    have h3 : i' = i := by rw [← h1, ← h2, he]
                    subst h3
                    exact e ⟨rfl, by omega⟩
                  rw [if_neg hne] at hg
                  obtain ⟨u, q1, q2⟩ := hcell i' j' hi' hj'
                  refine ⟨u, hg.trans q1, ?_⟩
                  rw [u5 i' j' hj hj' e]
                  exact RD_mono (fun _ h => h) hss _ _ q2
        | _ => simp at h
      | vals ty m l =>
        simp only [ho] at h
        cases hc : (known y && sameN (some (cellsA y).length) (szO P t) && Nat.ble (i * m + j + (cellsA y).length) l.length) with
        | false => simp [hc] at h
        | true =>
          simp only [hc, cond_true, Option.some.injEq, Prod.mk.injEq] at h
          obtain ⟨rfl, rfl⟩ := h
          simp only [Bool.and_eq_true] at hc
          obtain ⟨⟨hk, hs⟩, hle⟩ := hc
          have hle := Nat.le_of_ble_eq_true hle
          obtain ⟨m', e1, e2⟩ := sameN_spec hs
          simp at e1
          obtain ⟨hcr, hc1⟩ := cellsG hk hy
          have hlen : (cellsA y).length = v.cells.size := by simpa using RelL_len (hcr ρ (Agree.refl _ _))
          obtain ⟨b', arr, fz, hb', hm, hh, hu, hsz, hll, hr, h1⟩ := g.now.obj n _ ho
          obtain rfl : b = b' := by rw [hb] at hb'; simpa using hb'
          subst hm
          have hrun := run_storeVar (P := P) (t := t) (o := i * (ρ n).m + j) hh hu (by rw [e2, ← e1, hlen]) (by omega) hc1
          refine ⟨_, _, ρ, .inr ⟨hrun, rfl⟩, step_set g ho ?_ (fun ρ' ha => ?_), fun _ _ => trivial⟩
          · exact ⟨rfl, rfl, rfl, by simp, fun k _ hk => setRow_other w b k _ (fun e => hk (by rw [e]; exact hb))⟩
          · have hn := ha n (g.bd n _ ho)
            obtain ⟨b2, arr2, fz2, hb2, _, hh2, _, _, _, hr2, _⟩ := (g.sat ρ' ha).obj n _ ho
            obtain rfl : b2 = b := by rw [hn, hb] at hb2; simpa using hb2.symm
            rw [hh] at hh2
            simp at hh2
            obtain ⟨rfl, rfl, rfl⟩ := hh2
            have hsize := splice_cells (cur := arr) (vs := v.cells.toList) (o := i * (ρ n).m + j) (by simp; omega)
            simp only [Array.length_toList] at hsize
            have hlen2 : (l.take (i * (ρ n).m + j) ++ cellsA y ++ l.drop (i * (ρ n).m + j + (cellsA y).length)).length = l.length := by
              simp; omega
            have htk : (arr.toList.take (i * (ρ n).m + j) ++ v.cells.toList ++ arr.toList.drop (i * (ρ n).m + j + v.cells.size)).take l.length =
                (arr.toList.take l.length).take (i * (ρ n).m + j) ++ v.cells.toList ++ (arr.toList.take l.length).drop (i * (ρ n).m + j + v.cells.size) := by
              rw [List.take_append, List.take_append, List.take_take, List.take_take, List.drop_take]
              rw [hlen] at hle
              congr 1
              · congr 1
                · congr 1; omega
                · rw [List.take_of_length_le]; simp; omega
              · congr 1; simp; omega
            refine ⟨b2, _, fz, by rw [hn]; exact hb, by rw [hn], setRow_heap w b2 arr _ ty _ hh, ?_, ?_, ?_, ?_, ?_⟩
            · exact hsize ▸ hu
            · rw [hn]; exact hsize.trans hsz
            · rw [hlen2]; exact hsize ▸ hll
            · rw [hlen2]
              show RelL ρ' ok _ _ (List.take l.length _)
              rw [htk]
              have hall := RelL_append (RelL_append (RelL_take hr2 (i * (ρ n).m + j)) (hcr ρ' ha)) (RelL_drop hr2 (i * (ρ n).m + j + (cellsA y).length))
              rw [hlen] at hall ⊢
              refine RelL_mono (fun _ h => h) (fun k hk => setRow_other w b2 k _ (fun e => ?_)) _ _ hall
              subst e; exact g.now.nok n _ k ho hb hk
            · rw [hlen2]
              show ∀ u ∈ List.take l.length _, _
              rw [htk]
              intro u hu'
              simp only [List.mem_append] at hu'
              rcases hu' with (h' | h') | h'
              · exact h1 u (List.mem_of_mem_take h')
              · exact hc1 u h'
              · exact h1 u (List.mem_of_mem_drop h')
      | _ => simp [ho] at h
  | _ => simp at h
end Ax

set_option linter.unusedVariables false
set_option linter.unusedSimpArgs false
namespace Ax
open Go
variable {P : Program} {ρ : Rho} {nx : Nat} {ok : Nat → Prop} {w : World} {hp : Heap}

theorem elSz_ok {e m : Nat} (h : elSz P e = some m) : ∃ z i v, zeroA P e = some z ∧ known z = true ∧ (cellsA z).length = m ∧ P.info? e = some i ∧ i.zero = some v ∧ i.size = m ∧ 0 < m ∧ 0 < i.bytes ∧ byT P e = i.bytes ∧ v.cells.size = m := by
  unfold elSz at h
  split at h
  · rename_i z m' hz hs
    cases hc : (known z && Nat.beq (cellsA z).length m' && Nat.blt 0 m' && Nat.blt 0 (byT P e)) with
    | false => simp [hc] at h
    | true =>
      simp only [hc, cond_true, Option.some.injEq] at h
      subst h
      simp only [Bool.and_eq_true, Nat.blt_eq] at hc
      obtain ⟨⟨⟨hk, hl⟩, hm⟩, hb⟩ := hc
      obtain ⟨v, _, hv, i, hi, hiz⟩ := zeroG (P := P) (ρ := fun _ => ⟨none, 0, 0⟩) (nx := 0) (ok := fun _ => False) (w := default) hz
      have hs' : i.size = m' := by simpa [szO, hi] using hs
      have hb' : byT P e = i.bytes := by simp [byT, hi]
      have hl' := Nat.eq_of_beq_eq_true hl
      refine ⟨z, i, v, hz, hk, hl', hi, hiz, hs', hm, by omega, hb', ?_⟩
      have := RelL_len (cells_ok hk hv.now).1
      rw [hl'] at this
      simpa using this.symm
  · simp at h

theorem lay_len {place : Nat → Option (Nat × Nat)} : ∀ (parts : List (Nat × A)) (cs r : List A), lay place cs parts = some r → r.length = cs.length
  | [], cs, r, h => by simp [lay] at h; rw [h]
  | (i, x) :: ps, cs, r, h => by
    simp only [lay] at h
    cases hpl : place i with
    | none => simp [hpl] at h
    | some q =>
      obtain ⟨off, sz⟩ := q
      simp only [hpl] at h
      cases hc : (known x && Nat.beq (cellsA x).length sz && Nat.ble (off + sz) cs.length) with
      | false => simp [hc] at h
      | true =>
        simp only [hc, cond_true] at h
        simp only [Bool.and_eq_true] at hc
        have e1 := Nat.eq_of_beq_eq_true hc.1.2
        have e2 := Nat.le_of_ble_eq_true hc.2
        rw [lay_len ps _ r h]
        simp; omega

theorem repL_len {n : Nat} {l : List A} : (repL n l).length = n * l.length := by
  induction n with
  | zero => simp [repL]
  | succ n ih => simp [repL, ih, Nat.succ_mul, Nat.add_comm]
theorem repL_get {l : List A} : ∀ (n i : Nat), i < n * l.length → (repL n l)[i]? = l[i % l.length]?
  | 0, i, h => by simp at h
  | n + 1, i, h => by
    simp only [repL]
    by_cases hi : i < l.length
    · rw [List.getElem?_append_left hi, Nat.mod_eq_of_lt hi]
    · rw [List.getElem?_append_right (by omega), repL_get n (i - l.length) (by rw [Nat.succ_mul] at h; omega)]
      congr 1
      rw [Nat.mod_eq_sub_mod (a := i) (by omega)]
theorem rep_ok {n : Nat} {l : List A} {z : Array Value} (h : RelL ρ ok w l z.toList) (hz : 0 < l.length) : RelL ρ ok w (repL n l) (madeCells z (n * l.length)).toList := by
  have hl := RelL_len h
  simp at hl
  refine RelL_of (by rw [repL_len]; simp [size_madeCells]) fun i x v hx hv => ?_
  have hi : i < n * l.length := by
    have := (List.getElem?_eq_some_iff.1 hx).1
    rwa [repL_len] at this
  rw [repL_get n i hi] at hx
  obtain ⟨u, q1, q2⟩ := RelL_get h _ x hx
  simp [madeCells, hi] at hv
  have hm : i % z.size < z.size := Nat.mod_lt _ (by omega)
  rw [hl] at q1
  simp [hm] at q1
  rw [← hv, getElem!_pos z (i % z.size) hm, q1]
  exact q2

theorem allInts_ok {k : IntKind} : ∀ (l : List A), allInts k l = true → (asInts l).length = l.length ∧ ∀ i, i < l.length → l[i]? = some (.d (.int k ((asInts l).getD i 0)))
  | [], _ => ⟨rfl, fun i h => by simp at h⟩
  | x :: r, h => by
    cases x with
    | d y => cases y with
      | int k' n =>
        simp only [allInts, Bool.and_eq_true] at h
        obtain rfl := kEq_iff.1 h.1
        obtain ⟨h1, h2⟩ := allInts_ok r h.2
        refine ⟨by simp [asInts, h1], fun i hi => ?_⟩
        cases i with
        | zero => rfl
        | succ i => simpa [asInts] using h2 i (by simpa using hi)
      | _ => simp [allInts] at h
    | _ => simp [allInts] at h
theorem allStrs_ok : ∀ (l : List A), allStrs l = true → (asStrs l).length = l.length ∧ ∀ i, i < l.length → l[i]? = some (.d (.str ((asStrs l).getD i [])))
  | [], _ => ⟨rfl, fun i h => by simp at h⟩
  | x :: r, h => by
    cases x with
    | d y => cases y with
      | str s =>
        simp only [allStrs] at h
        obtain ⟨h1, h2⟩ := allStrs_ok r h
        refine ⟨by simp [asStrs, h1], fun i hi => ?_⟩
        cases i with
        | zero => rfl
        | succ i => simpa [asStrs] using h2 i (by simpa using hi)
      | _ => simp [allStrs] at h
    | _ => simp [allStrs] at h
theorem allD_ok : ∀ (l : List A), allD l = true → ∀ (i : Nat) (x : A), l[i]? = some x → ∀ v, Rel ρ ok w x v → RD ok w (cellD x) v
  | [], _, i, x, h => by simp at h
  | y :: r, h, i, x, hx => by
    have hr : allD r = true := by cases y <;> first | exact h | simp [allD] at h
    cases i with
    | zero =>
      simp at hx; subst hx
      intro v hv
      cases y with
      | d z => exact hv
      | nilsl => obtain rfl := hv; exact RD_nil rfl rfl none 0
      | _ => simp [allD] at h
    | succ i => exact allD_ok r hr i x (by simpa using hx)

/-- The row of some cells. -/
theorem rowOf_step (g : Good ρ nx ok hp w) {e sz n : Nat} {l : List A} {arr : Array Value} (hn : n * sz ≤ 16777216) (h0 : 0 < sz) (hl : l.length = n * sz) (hr : RelGL ρ nx ok w l arr.toList) (h1 : ∀ u ∈ arr.toList, one u = true) :
    Step ρ nx ok hp w (upd ρ nx ⟨some w.heap.size, sz, arr.size⟩) (nx + 1) ok (hset hp nx (rowOf P e sz n l)) (w.alloc (.cells arr e)) [] := by
  have hal : arr.size = n * sz := by have := RelL_len (hr ρ (Agree.refl _ _)); simp at this; omega
  have hnn : n ≤ n * sz := Nat.le_mul_of_pos_right n h0
  have vals : Step ρ nx ok hp w (upd ρ nx ⟨some w.heap.size, sz, arr.size⟩) (nx + 1) ok (hset hp nx (.vals e sz l)) (w.alloc (.cells arr e)) [] := by
    have ht : arr.toList.take l.length = arr.toList := List.take_of_length_le (by simp; omega)
    exact new_vals g e sz (heap_alloc_new w _) (evo_alloc _ _ _) (by simp) (by omega) (by rw [ht]; exact hr) (by rw [ht]; exact h1)
  unfold rowOf
  split
  · rename_i k _
    cases hc : (Nat.beq sz 1 && allInts k l) with
    | false => exact vals
    | true =>
      simp only [Bool.and_eq_true] at hc
      have hsz := Nat.eq_of_beq_eq_true hc.1
      subst hsz
      obtain ⟨q1, q2⟩ := allInts_ok l hc.2
      refine new_row g e (x := .ints k (asInts l)) (heap_alloc_new w _) (unfr0 _) (evo_alloc _ _ _) (by simp) rfl (by simp [D.cnt]; omega) (by simp [D.cnt, D.wid]; omega) fun i j hi hj => ?_
      simp [D.cnt, D.wid] at hi hj
      subst hj
      obtain ⟨u, p1, p2⟩ := RelL_get (hr ρ (Agree.refl _ _)) i _ (q2 i (by omega))
      exact ⟨u, by simpa [D.wid] using p1, p2⟩
  · cases hc : (Nat.beq sz 1 && allStrs l) with
    | false => exact vals
    | true =>
      simp only [Bool.and_eq_true] at hc
      have hsz := Nat.eq_of_beq_eq_true hc.1
      subst hsz
      obtain ⟨q1, q2⟩ := allStrs_ok l hc.2
      refine new_row g e (x := .strs (asStrs l)) (heap_alloc_new w _) (unfr0 _) (evo_alloc _ _ _) (by simp) rfl (by simp [D.cnt]; omega) (by simp [D.cnt, D.wid]; omega) fun i j hi hj => ?_
      simp [D.cnt, D.wid] at hi hj
      subst hj
      obtain ⟨u, p1, p2⟩ := RelL_get (hr ρ (Agree.refl _ _)) i _ (q2 i (by omega))
      exact ⟨u, by simpa [D.wid] using p1, p2⟩
  · cases hc : allD l with
    | false => exact vals
    | true =>
      refine new_row g e (x := .recs sz n fun i j => cellD (l.getD (i * sz + j) .any)) (heap_alloc_new w _) (unfr0 _) (evo_alloc _ _ _) (by simp) rfl (by simp [D.cnt]; omega) (by simp [D.cnt, D.wid]; omega) fun i j hi hj => ?_
      simp only [D.cnt, D.wid] at hi hj ⊢
      have hij : i * sz + j < l.length := by
        rw [hl]
        have : i * sz + sz ≤ n * sz := by rw [← Nat.succ_mul]; exact Nat.mul_le_mul_right _ hi
        omega
      obtain ⟨u, p1, p2⟩ := RelL_getD (hr ρ (Agree.refl _ _)) (i * sz + j) hij
      refine ⟨u, by simpa using p1, ?_⟩
      refine allD_ok l hc (i * sz + j) _ ?_ u p2
      simp [List.getD_eq_getElem?_getD, List.getElem?_eq_getElem hij]
  · exact vals

theorem run_buildSlice {t e n sz : Nat} {parts : Array (Nat × Value)} {i : TypeInfo} {v : Value} {cells : Array Value} (ht : P.underlying t = some (.slice e)) (hi : P.info? e = some i) (hz : i.zero = some v) (hs : i.size = sz) (hn : n * sz ≤ 16777216)
    (hf : Instr.fill (fun i => some (i * sz, sz)) (madeCells v.cells (n * sz)) parts.toList = some cells) :
    (Instr.buildSlice t n parts).run P w = .ok (.slice (some ⟨w.heap.size, 0, none⟩) n n) (w.alloc (.cells cells e)) := by
  subst hs
  have hn' : ¬ (16777216 < n * i.size) := by omega
  by_cases h0 : n * i.size = 0
  · have hf' : Instr.fill (fun k => some (k * i.size, i.size)) #[] parts.toList = some cells := by simpa [madeCells, h0, Array.range_zero'] using hf
    have h0' : n = 0 ∨ i.size = 0 := Nat.mul_eq_zero.1 h0
    simp [Instr.buildSlice, run_underlying ht, Go.sizeOf, typeInfo, hi, hn', h0, h0', hf', newRow, Array.range_zero']
  · have hf' : Instr.fill (fun k => some (k * i.size, i.size)) ((Array.range (n * i.size)).map (v.cells[· % v.cells.size]!)) parts.toList = some cells := hf
    have h0' : ¬ (n = 0 ∨ i.size = 0) := fun h => h0 (Nat.mul_eq_zero.2 h)
    simp [Instr.buildSlice, run_underlying ht, Go.sizeOf, typeInfo, zeroValue, hi, hz, hn', h0, h0', hf', newRow]

theorem buildSlice_eff (g : Good ρ nx ok hp w) {t n : Nat} {ps : Array (Nat × Operand)} {ev : Operand → Value} {fr : List (Bool × A)} {r : R} (h : aeff P fr hp nx (.buildSlice t n ps) = some r) (hpre : r.pre)
    (hx : RelGL ρ nx ok w (ps.toList.map fun p => evO fr p.2) (ps.toList.map fun p => ev p.2)) :
    Eff ρ nx ok hp w r ((do pure (Next.value (← Instr.buildSlice t n (ps.map fun (i, x) => (i, ev x)))) : Sem Next).run P w) := by
  simp only [aeff] at h
  cases he : elT P t with
  | none => simp [he] at h
  | some e =>
    simp only [he] at h
    cases hz : zeroA P e with
    | none => simp [hz] at h
    | some z => cases hs : elSz P e with
      | none => simp [hz, hs] at h
      | some sz =>
        simp only [hz, hs] at h
        cases hk : known z with
        | false => simp [hk] at h
        | true =>
          simp only [hk, cond_true, Option.map_eq_some_iff] at h
          obtain ⟨l, hl, rfl⟩ := h
          have hn : n * sz ≤ 16777216 := hpre
          obtain ⟨z', i, v, hz', _, hzl, hi, hiz, his, h0, _, _, hvs⟩ := elSz_ok hs
          rw [hz] at hz'
          obtain rfl : z = z' := by simpa using hz'
          have hll : l.length = n * sz := by rw [lay_len _ _ _ hl, repL_len, hzl]
          have hv : RelG ρ nx ok w z v := fun ρ' _ => by
            have : z = ofVal v := by
              simp [zeroA, hi, hiz] at hz; exact hz.symm
            rw [this]; exact ofVal_ok v
          have hfill : ∀ ρ', Agree nx ρ ρ' → ∃ out, Instr.fill (fun i => some (i * sz, sz)) (madeCells v.cells (n * sz)) ((ps.map fun (i, x) => (i, ev x)).toList) = some out ∧ RelL ρ' ok w l out.toList ∧ (∀ u ∈ out.toList, one u = true) := fun ρ' ha => by
            obtain ⟨q1, q2⟩ := cells_ok hk (hv ρ' ha)
            have hrep := rep_ok (n := n) q1 (by rw [hzl]; exact h0)
            rw [hzl] at hrep
            refine lay_ok (vparts := (ps.map fun (i, x) => (i, ev x)).toList) _ _ _ l hl hrep (fun u hu => ?_) (by simp [Function.comp_def]) (by simpa [Function.comp_def] using hx ρ' ha)
            simp only [madeCells, Array.toList_map, List.mem_map] at hu
            obtain ⟨k, _, rfl⟩ := hu
            have hm : k % v.cells.size < v.cells.size := Nat.mod_lt _ (by omega)
            rw [getElem!_pos v.cells _ hm]
            exact q2 _ (by simp)
          obtain ⟨out, hf, _, h1⟩ := hfill ρ (Agree.refl _ _)
          have hr : RelGL ρ nx ok w l out.toList := fun ρ' ha => by
            obtain ⟨out', hf', hr', _⟩ := hfill ρ' ha
            rw [hf] at hf'
            obtain rfl : out = out' := by simpa using hf'
            exact hr'
          have hal : out.size = n * sz := by have := RelL_len (hr ρ (Agree.refl _ _)); simp at this; omega
          have hrun := run_buildSlice (P := P) (w := w) (underlying_of_elT he) hi hiz his hn hf
          exact ⟨_, _, _, .inl (run_v' hrun), rowOf_step g hn h0 hll hr h1, new_sl rfl (Nat.le_refl _) (by simp [hal])⟩

theorem zeroRow_ok {e n : Nat} {y : D} (h : zeroRow P e n = some y) : y.isSl = true ∧ y.cnt = n ∧ y.wid = 1 ∧ ∃ q, zeroA P e = some (.d q) ∧ ∀ i j, i < n → y.at i j = q := by
  unfold zeroRow at h
  split at h
  · rename_i k z hz
    simp at h; subst h
    exact ⟨rfl, by simp [D.cnt], rfl, _, hz, fun i j hi => by simp [D.at, List.getD_eq_getElem?_getD, List.getElem?_replicate, hi]⟩
  · rename_i s hz
    simp at h; subst h
    exact ⟨rfl, by simp [D.cnt], rfl, _, hz, fun i j hi => by simp [D.at, List.getD_eq_getElem?_getD, List.getElem?_replicate, hi]⟩
  · simp at h

theorem makeSlice_eff (g : Good ρ nx ok hp w) {t : Nat} {X Y : Operand} {a c : Value} {fr : List (Bool × A)} {r : R} (h : aeff P fr hp nx (.makeSlice t X Y) = some r) (hpre : r.pre)
    (hx : RelG ρ nx ok w (evO fr X) a) (hy : RelG ρ nx ok w (evO fr Y) c) :
    Eff ρ nx ok hp w r ((do pure (Next.value (← Instr.makeSlice t a c)) : Sem Next).run P w) := by
  simp only [aeff] at h
  split at h
  · rename_i e l' c' he hl hc
    rw [hl] at hx; rw [hc] at hy
    obtain rfl := hx.now
    obtain rfl := hy.now
    cases hs : sameN (some 1) (elSz P e) with
    | false => simp [hs] at h
    | true =>
      simp only [hs, Bool.not_true, cond_false, Option.map_eq_some_iff] at h
      obtain ⟨y, hy', rfl⟩ := h
      obtain ⟨h0, hlc, hb⟩ := hpre
      obtain ⟨m, e1, e2⟩ := sameN_spec hs
      simp at e1; subst e1
      obtain ⟨z, i, v, hz, hk, hzl, hi, hiz, his, _, hb0, hby, hvs⟩ := elSz_ok e2
      rw [hby] at hb
      have hcb : c'.toNat ≤ c'.toNat * i.bytes := Nat.le_mul_of_pos_right _ hb0
      simp only [lim] at hb
      obtain ⟨y1, y2, y3, q, hq, y4⟩ := zeroRow_ok hy'
      rw [hz] at hq
      obtain rfl : z = .d q := by simpa using hq
      have hv : RD ok w q v := by
        have : A.d q = ofVal v := by simp [zeroA, hi, hiz] at hz; exact hz.symm
        have h := ofVal_ok (ρ := ρ) (ok := ok) (w := w) v
        rw [← this] at h; exact h
      have hone := one_RD hv
      have hcv : v.cells = #[v] := by cases v <;> first | rfl | simp [Value.oneCell'] at hone
      have hrun := run_make (P := P) w t e i v (underlying_of_elT he) hi hiz .i64 .i64 l' c' h0 hlc (by
        have : ((c'.toNat * i.bytes : Nat) : Int) ≤ 140737488355328 := by omega
        rw [Int.natCast_mul] at this
        have e : (c'.toNat : Int) = c' := by omega
        rw [e, Int.mul_comm] at this
        omega) (by omega)
      rw [his, hcv, Nat.mul_one] at hrun
      have hst := new_row g e (x := y) (arr := madeCells #[v] c'.toNat) (heap_alloc_new w _) (unfr0 _) (evo_alloc _ _ _) (by simp) y1 (by omega) (by rw [y2, y3, size_madeCells]; omega) (fun i' j' hi' hj' => by
        rw [y3] at hj' ⊢
        rw [y2] at hi'
        obtain rfl : j' = 0 := by omega
        refine ⟨v, ?_, ?_⟩
        · simp [madeCells, Nat.mod_one]
          have : i' < c'.toNat := by omega
          simp [this]
        · rw [y4 i' 0 hi']; exact hv)
      refine ⟨_, _, _, .inl (run_v' hrun), hst, new_sl rfl (by omega) ?_⟩
      simp [y3, size_madeCells]
  · simp at h

theorem bytes_eff (g : Good ρ nx ok hp w) {s d : Nat} {X : Operand} {a : Value} {fr : List (Bool × A)} {r : R} (h : aeff P fr hp nx (.convert s d X) = some r) (hpre : r.pre) (hx : RelG ρ nx ok w (evO fr X) a) :
    Eff ρ nx ok hp w r ((do pure (Next.value (← convert s d a)) : Sem Next).run P w) := by
  simp only [aeff] at h
  split at h
  · rename_i b hb
    rw [hb] at hx
    obtain ⟨rfl, hlen⟩ := hx.now
    split at h
    · rename_i hs
      split at h
      · rename_i e he
        split at h
        · rename_i hu
          simp only [Option.some.injEq] at h
          subst h
          have hpre : b.length ≤ 140737488355328 := hpre
          have hrun := run_bytes_of_string (P := P) w s d e ⟨b.toArray⟩ hs (underlying_of_elT he) hu
          have hsz : (⟨b.toArray⟩ : ByteArray).size = b.length := by simp [ByteArray.size]
          have hge := grownCap_ge w (⟨b.toArray⟩ : ByteArray).size 0 e
          rw [hsz] at hge
          have hbs : (bytesRow ⟨b.toArray⟩ (grownCap w (⟨b.toArray⟩ : ByteArray).size 0 e)).size = grownCap w (⟨b.toArray⟩ : ByteArray).size 0 e := by
            rw [hsz]
            rw [bytesRow, Array.size_append, Array.size_map, Array.size_replicate, hsz]; show b.length + _ = _; omega
          have hst := new_row g e (x := .ints .u8 (b.map fun b => (b.toNat : Int))) (arr := bytesRow ⟨b.toArray⟩ (grownCap w (⟨b.toArray⟩ : ByteArray).size 0 e)) (fz := ((bytesRow ⟨b.toArray⟩ (grownCap w (⟨b.toArray⟩ : ByteArray).size 0 e)).size, (bytesRow ⟨b.toArray⟩ (grownCap w (⟨b.toArray⟩ : ByteArray).size 0 e)).size + 1)) (w1 := _) (heap_alloc_new w.drew _) (fun off ho hc => by
              have h1 := hc.1; have h2 : off < _ := ho; omega) (evo_drew_alloc _ _ _) (by simp) rfl (by simp [D.cnt]; omega) (by rw [hbs]; simp [D.cnt, D.wid]; rw [hsz]; omega) (fun i j hi hj => by
              simp [D.cnt, D.wid] at hi hj
              subst hj
              refine ⟨.int .u8 (b[i].toNat : Int), ?_, ?_⟩
              · show (bytesRow _ _)[i * 1 + 0]? = _; rw [Nat.mul_one, Nat.add_zero, bytesRow]
                rw [Array.getElem?_append_left (by simpa using hi)]
                simp [hi]
              · simp [RD, D.at, List.getD_eq_getElem?_getD, hi])
          refine ⟨_, _, _, .inl (run_v' hrun), hst, ?_⟩
          rw [hsz]
          refine new_sl rfl hge ?_
          rw [← hsz, hbs]; simp [D.wid]
        · simp at h
      · simp at h
    · simp at h
  · simp at h
end Ax

set_option linter.unusedVariables false
set_option linter.unusedSimpArgs false
namespace Ax
open Go
variable {P : Program} {ρ : Rho} {nx : Nat} {ok : Nat → Prop} {w : World} {hp : Heap}

/-! ### what is appended -/
def nD : D → Nat
  | .str s => s.length
  | y => y.cnt
def widS : D → Nat
  | .str _ => 1
  | y => y.wid
def atS : D → Nat → Nat → D
  | .str s, i, _ => .int .u8 ((s.getD i 0).toNat : Int)
  | y, i, j => y.at i j
theorem app_ok {z y z' : D} (h : z.app y = some z') : z.isSl = true ∧ z'.isSl = true ∧ z'.wid = z.wid ∧ widS y = z.wid ∧ z'.cnt = z.cnt + nD y ∧
    (∀ i j, i < z.cnt → z'.at i j = z.at i j) ∧ ∀ i j, i < nD y → j < z.wid → z'.at (z.cnt + i) j = atS y i j := by
  unfold D.app at h
  split at h
  · simp at h; subst h
    refine ⟨rfl, rfl, rfl, rfl, by simp [D.cnt, nD], fun i j hi => ?_, fun i j hi hj => ?_⟩
    · simp [D.cnt] at hi; simp [D.at, List.getD_eq_getElem?_getD, List.getElem?_append, hi]
    · simp [D.at, atS, D.cnt, List.getD_eq_getElem?_getD, List.getElem?_append, show ∀ q : Nat, ¬ (q + i < q) from fun q => by omega]
  · rename_i k l k' r
    cases hk : kEq k k' with
    | false => simp [hk] at h
    | true =>
      obtain rfl := kEq_iff.1 hk
      simp [hk] at h; subst h
      refine ⟨rfl, rfl, rfl, rfl, by simp [D.cnt, nD], fun i j hi => ?_, fun i j hi hj => ?_⟩
      · simp [D.cnt] at hi; simp [D.at, List.getD_eq_getElem?_getD, List.getElem?_append, hi]
      · simp [D.at, atS, D.cnt, List.getD_eq_getElem?_getD, List.getElem?_append, show ∀ q : Nat, ¬ (q + i < q) from fun q => by omega]
  · rename_i l s
    simp at h; subst h
    refine ⟨rfl, rfl, rfl, rfl, by simp [D.cnt, nD], fun i j hi => ?_, fun i j hi hj => ?_⟩
    · simp [D.cnt] at hi; simp [D.at, List.getD_eq_getElem?_getD, List.getElem?_append, hi]
    · simp [nD] at hi
      simp [D.at, atS, D.cnt, List.getD_eq_getElem?_getD, List.getElem?_append, hi]
  · rename_i m n c m' n' c'
    cases hk : Nat.beq m m' with
    | false => simp [hk] at h
    | true =>
      obtain rfl := Nat.eq_of_beq_eq_true hk
      simp [hk] at h; subst h
      refine ⟨rfl, rfl, rfl, rfl, by simp [D.cnt, nD], fun i j hi => ?_, fun i j hi hj => ?_⟩
      · simp [D.cnt] at hi
        have : Nat.blt i n = true := by simpa [Nat.blt_eq] using hi
        simp [D.at, this]
      · have : Nat.blt (n + i) n = false := by
          cases e : Nat.blt (n + i) n with
          | false => rfl
          | true => simp [Nat.blt_eq] at e; omega
        simp [D.at, atS, D.cnt, this]
  · simp at h

/-- What append reads of its second argument. -/
structure Src (P : Program) (w : World) (sz : Nat) (x : Value) (n : Nat) (news : List Value) : Prop where
  len : ∀ w', w'.heap = w.heap → (Builtin.lenOf x).run P w' = .ok n w'
  cells : ∀ w', w'.heap = w.heap → (Builtin.firstCells sz n x).run P w' = .ok news.toArray w'
  size : news.length = n * sz
  one : ∀ u ∈ news, one u = true

theorem take_get {α : Type} {l : List α} {n j : Nat} {v : α} (h : (l.take n)[j]? = some v) : l[j]? = some v := by
  rw [List.getElem?_take] at h
  split at h
  · exact h
  · simp at h
theorem cell?_heap {w w' : World} (h : w'.heap = w.heap) (a : Addr) : w'.cell? a = w.cell? a := by unfold World.cell?; rw [h]

theorem src_str {s : List UInt8} : Src P w 1 (strV s) s.length (s.map fun b => .int .u8 (b.toNat : Int)) := by
  refine ⟨fun w' _ => ?_, fun w' _ => ?_, by simp, fun u hu => ?_⟩
  · simp [Builtin.lenOf, strV, ByteArray.size]
  · simp only [Builtin.firstCells, strV]
    have : ((⟨s.toArray⟩ : ByteArray).extract 0 s.length).data = s.toArray := by
      have h : (⟨s.toArray⟩ : ByteArray).extract 0 s.length = ⟨s.toArray⟩ := by
        apply ByteArray.ext
        simp
      rw [h]
    simp [this]
  · simp at hu
    obtain ⟨b, _, rfl⟩ := hu
    rfl
theorem src_sl {a : Option Addr} {n c m : Nat} {C : Nat → Nat → Value → Prop} (hC : ∀ i j u, C i j u → one u = true)
    (h : 0 < n → ∃ ad : Addr, a = some ad ∧ ∀ i j, i < n → j < m → ∃ u, w.cell? (ad.add (i * m + j)) = some u ∧ C i j u) :
    ∃ news, Src P w m (.slice a n c) n news ∧ ∀ i j, i < n → j < m → ∃ u, news[i * m + j]? = some u ∧ C i j u := by
  rcases Nat.eq_zero_or_pos n with h0 | h0
  · subst h0
    refine ⟨[], ⟨fun w' _ => by simp [Builtin.lenOf], fun w' _ => ?_, by simp, by simp⟩, fun i j hi => by omega⟩
    cases a with
    | none => simp [Builtin.firstCells]
    | some ad => exact run_firstCells_some w' m 0 ad 0 c [] (by simp) (by simp)
  · obtain ⟨ad, rfl, hc⟩ := h h0
    have hcell : ∀ q, q < n * m → ∃ u, w.cell? (ad.add q) = some u ∧ one u = true := fun q hq => by
      rcases Nat.eq_zero_or_pos m with hm | hm
      · subst hm; simp at hq
      · obtain ⟨u, h1, h2⟩ := hc (q / m) (q % m) (Nat.div_lt_of_lt_mul (by rwa [Nat.mul_comm] at hq)) (Nat.mod_lt _ hm)
        refine ⟨u, ?_, hC _ _ _ h2⟩
        rw [← h1]; congr 2
        rw [Nat.mul_comm]; exact (Nat.div_add_mod q m).symm
    have hget : ∀ q, q < n * m → ((List.range (n * m)).map fun q => (w.cell? (ad.add q)).getD undef)[q]? = w.cell? (ad.add q) := fun q hq => by
      obtain ⟨u, hu, _⟩ := hcell q hq
      rw [List.getElem?_map, List.getElem?_range hq]
      simp [hu]
    refine ⟨(List.range (n * m)).map fun q => (w.cell? (ad.add q)).getD undef, ⟨fun w' _ => by simp [Builtin.lenOf], fun w' hw' => ?_, by simp, fun u hu => ?_⟩, fun i j hi hj => ?_⟩
    · refine run_firstCells_some w' m n ad n c _ (by simp) fun j v hv => ?_
      have hj : j < n * m := by simpa using (List.getElem?_eq_some_iff.1 hv).1
      rw [cell?_heap hw', ← hget j hj]; exact hv
    · simp only [List.mem_map, List.mem_range] at hu
      obtain ⟨q, hq, rfl⟩ := hu
      obtain ⟨u, hu, h1⟩ := hcell q hq
      rw [hu]; exact h1
    · obtain ⟨u, h1, h2⟩ := hc i j hi hj
      refine ⟨u, ?_, h2⟩
      rw [hget]
      · exact h1
      · have : i * m + m ≤ n * m := by rw [← Nat.succ_mul]; exact Nat.mul_le_mul_right _ hi
        omega

theorem srcA_ok (S : Sat ρ ok hp w) {x : A} {y : D} {p : Option Prop} {a : Value} (h : srcOf hp x = some (p, .inl y)) (hP : okP p) (hr : Rel ρ ok w x a) :
    ∃ news, Src P w (widS y) a (nD y) news ∧ ∀ i j, i < nD y → j < widS y → ∃ u, news[i * widS y + j]? = some u ∧ RD ok w (atS y i j) u := by
  have sl : ∀ (z : D) (hz : z.isSl = true) (hr : SlR (fun _ => True) w z.cnt z.wid (fun i j u => RD ok w (z.at i j) u) a),
      ∃ news, Src P w (widS z) a (nD z) news ∧ ∀ i j, i < nD z → j < widS z → ∃ u, news[i * widS z + j]? = some u ∧ RD ok w (atS z i j) u := fun z hz hr => by
    obtain ⟨ao, c, rfl, _, _, hc⟩ := hr
    have e1 : nD z = z.cnt := by cases z <;> first | rfl | simp [D.isSl] at hz
    have e2 : widS z = z.wid := by cases z <;> first | rfl | simp [D.isSl] at hz
    have e3 : atS z = z.at := by cases z <;> first | rfl | simp [D.isSl] at hz
    rw [e1, e2, e3]
    refine src_sl (fun i j u hu => one_RD hu) fun h0 => ?_
    obtain ⟨ad, q1, _, q2⟩ := hc h0
    exact ⟨ad, q1, q2⟩
  cases x with
  | d z =>
    cases z with
    | str s =>
      simp [srcOf] at h; obtain ⟨rfl, rfl⟩ := h
      obtain ⟨rfl, _⟩ := hr
      refine ⟨_, src_str, fun i j hi hj => ?_⟩
      simp [nD, widS] at hi hj
      subst hj
      exact ⟨.int .u8 ((s.getD i 0).toNat : Int), by simp [widS, List.getD_eq_getElem?_getD, hi], rfl⟩
    | strs l =>
      simp [srcOf, D.isSl] at h; obtain ⟨rfl, rfl⟩ := h
      exact sl _ rfl (SlR_mono (fun _ _ => trivial) (fun _ _ => rfl) (fun _ _ _ _ _ h => h) ((RD_sl rfl).1 hr))
    | ints k l =>
      simp [srcOf, D.isSl] at h; obtain ⟨rfl, rfl⟩ := h
      exact sl _ rfl (SlR_mono (fun _ _ => trivial) (fun _ _ => rfl) (fun _ _ _ _ _ h => h) ((RD_sl rfl).1 hr))
    | recs m n c =>
      simp [srcOf, D.isSl] at h; obtain ⟨rfl, rfl⟩ := h
      exact sl _ rfl (SlR_mono (fun _ _ => trivial) (fun _ _ => rfl) (fun _ _ _ _ _ h => h) ((RD_sl rfl).1 hr))
    | _ => simp [srcOf, D.isSl] at h
  | sl n off len =>
    simp only [srcOf] at h
    cases ho : hget hp n with
    | none => simp [ho] at h
    | some o => cases o with
      | row ty z =>
        simp [ho] at h
        obtain ⟨rfl, rfl⟩ := h
        have hcnt : off + len ≤ z.cnt := hP
        obtain ⟨hsl, hm, hc, hrow⟩ := S.obj n _ ho
        refine sl _ (cut_isSl hsl _ _) ?_
        simp only [Rel] at hr
        cases hb : (ρ n).b with
        | none =>
          rw [hb] at hr
          obtain ⟨_, rfl, rfl⟩ := hr
          have := cut_nil hsl off
          exact ⟨none, 0, by rw [this], by omega, by omega, fun h => by omega⟩
        | some b =>
          rw [hb] at hr hrow
          obtain ⟨ad, cp, rfl, hlc, hsz, had⟩ := hr
          obtain ⟨arr, fz, hh, hu, hasz, hcw, hcell⟩ := hrow
          have e1 : (z.cut off len).cnt = len := by
            cases z with
            | strs l => simp [D.cut, D.cnt] at hcnt ⊢; omega
            | ints k l => simp [D.cut, D.cnt] at hcnt ⊢; omega
            | recs m n c => rfl
            | _ => simp [D.isSl] at hsl
          have e3 : ∀ i j, i < len → (z.cut off len).at i j = z.at (off + i) j := fun i j hi => by
            cases z with
            | strs l => simp [D.cut, D.at, List.getD_eq_getElem?_getD, List.getElem?_take, hi, List.getElem?_drop]
            | ints k l => simp [D.cut, D.at, List.getD_eq_getElem?_getD, List.getElem?_take, hi, List.getElem?_drop]
            | recs m n c => rfl
            | _ => simp [D.isSl] at hsl
          rw [e1, cut_wid]
          refine ⟨some ad, cp, rfl, hlc, by omega, fun h0 => ⟨ad, rfl, trivial, fun i j hi hj => ?_⟩⟩
          obtain rfl := had (by omega)
          obtain ⟨u, hu1, hu2⟩ := hcell (off + i) j (by omega) hj
          refine ⟨u, ?_, by show RD ok w ((z.cut off len).at i j) u; rw [e3 i j hi]; exact hu2⟩
          rw [addr_add, cell_at hh, ← hm, ← Nat.add_assoc, ← Nat.add_mul]
          exact hu1
      | vals ty m l => 
        simp only [ho] at h
        cases hc : (Nat.beq off 0 && Nat.beq (len * m) l.length) with
        | false => simp [hc] at h
        | true => simp [hc] at h
      | _ => simp [ho] at h
  | _ => simp [srcOf] at h

theorem srcL_ok (g : Good ρ nx ok hp w) {x : A} {m : Nat} {l : List A} {p : Option Prop} {a : Value} (h : srcOf hp x = some (p, .inr (m, l))) (hr : RelG ρ nx ok w x a) :
    ∃ n news, n * m = l.length ∧ Src P w m a n news ∧ RelGL ρ nx ok w l news := by
  cases x with
  | d z =>
    exfalso
    cases z <;> simp [srcOf, D.isSl] at h
  | sl n off len =>
    simp only [srcOf] at h
    cases ho : hget hp n with
    | none => simp [ho] at h
    | some o => cases o with
      | vals ty m' l' =>
        simp only [ho] at h
        cases hc : (Nat.beq off 0 && Nat.beq (len * m') l'.length) with
        | false => simp [hc] at h
        | true =>
          simp [hc] at h
          obtain ⟨rfl, rfl, rfl⟩ := h
          simp only [Bool.and_eq_true] at hc
          obtain rfl := Nat.eq_of_beq_eq_true hc.1
          have hl := Nat.eq_of_beq_eq_true hc.2
          obtain ⟨b, arr, fz, hb, hm, hh, hu, hsz, hll, hrl, h1⟩ := g.now.obj n _ ho
          have hr0 := hr.now
          simp only [Rel] at hr0
          rw [hb] at hr0
          obtain ⟨ad, cp, rfl, hlc, hcs, had⟩ := hr0
          refine ⟨len, arr.toList.take l'.length, hl, ⟨fun w' _ => by simp [Builtin.lenOf], fun w' hw' => ?_, ?_, h1⟩, fun ρ' ha => ?_⟩
          · refine run_firstCells_some w' m' len ad len cp _ (by rw [List.length_take, hl]; simp; omega) fun j v hv => ?_
            rcases Nat.eq_zero_or_pos cp with h0 | h0
            · subst h0
              obtain rfl : len = 0 := by omega
              simp at hl
              rw [← hl] at hv; simp at hv
            · obtain rfl := had h0
              rw [addr_add, cell?_heap hw', cell_at hh]
              simpa using take_get hv
          · rw [List.length_take, hl]; simp; omega
          · obtain ⟨b2, arr2, fz2, hb2, _, hh2, _, _, _, hr2, _⟩ := (g.sat ρ' ha).obj n _ ho
            obtain rfl : b2 = b := by rw [ha n (g.bd n _ ho), hb] at hb2; simpa using hb2.symm
            rw [hh] at hh2
            simp at hh2
            obtain ⟨rfl, rfl, rfl⟩ := hh2
            exact hr2
      | row ty z => simp [ho] at h
      | _ => simp [ho] at h
  | _ => simp [srcOf] at h
end Ax

set_option linter.unusedVariables false
set_option linter.unusedSimpArgs false
namespace Ax
open Go
variable {P : Program} {ρ : Rho} {nx : Nat} {ok : Nat → Prop} {w : World} {hp : Heap}

theorem srcT_ok {t : Nat} (h : srcT P t = true) : (∃ e, P.underlying t = some (.slice e)) ∨ P.underlying t = some .string := by
  unfold srcT at h
  split at h
  · rename_i e hu; exact .inl ⟨e, hu⟩
  · rename_i hu; exact .inr hu
  · simp at h

/-- A slice of somebody's own row. -/
def OwnS (w : World) (e : Nat) (l : Loc) (v : Value) (len : Nat) (olds : List Value) : Prop :=
  (l.b = none ∧ v = .slice none 0 0 ∧ len = 0 ∧ olds = []) ∨
  ∃ b ad c arr fz, l.b = some b ∧ v = .slice (some ad) len c ∧ len ≤ c ∧ (0 < c → ad = ⟨b, 0, none⟩) ∧ w.heap[b]? = some (.cells arr e fz) ∧ unfr fz arr.size ∧ arr.size = l.sz ∧ c * l.m = l.sz ∧ olds = arr.toList.take (len * l.m)

section
variable {t t' ty e : Nat} {i : TypeInfo} {z : Value} {sz : Nat}
theorem run_app_room (ht : P.underlying t = some (.slice e)) (hu : srcT P t' = true) (hi : P.info? e = some i) (hs : i.size = sz) {ad : Addr} {len c n : Nat} {x : Value} {news : List Value} (hx : Src P w sz x n news)
    (hroom : len + n ≤ c) {w1 : World} (hst : (storeCells (ad.add (len * sz)) news).run P w = .ok () w1) :
    (Builtin.append_ #[t, t'] ty #[.slice (some ad) len c, x]).run P w = .ok (.slice (some ad) (len + n) c) w1 := by
  subst hs
  have h1 := hx.len w rfl
  have h2 := hx.cells w rfl
  rcases srcT_ok hu with ⟨e', hd⟩ | hd <;> simp [Builtin.append_, run_underlying ht, run_underlying hd, Go.sizeOf, typeInfo, hi, h1, h2, hroom, hst]

theorem run_app_nil0 (ht : P.underlying t = some (.slice e)) (hu : srcT P t' = true) (hi : P.info? e = some i) (hs : i.size = sz) {len c : Nat} {x : Value} {news : List Value} (hx : Src P w sz x 0 news) (hc : len ≤ c) :
    (Builtin.append_ #[t, t'] ty #[.slice none len c, x]).run P w = .ok (.slice none len c) w := by
  subst hs
  have h1 := hx.len w rfl
  have h2 := hx.cells w rfl
  rcases srcT_ok hu with ⟨e', hd⟩ | hd <;> simp [Builtin.append_, run_underlying ht, run_underlying hd, Go.sizeOf, typeInfo, hi, h1, h2, hc]

theorem run_app_grow (ht : P.underlying t = some (.slice e)) (hu : srcT P t' = true) (hi : P.info? e = some i) (hs : i.size = sz) (hz : i.zero = some z) (hb : 0 < i.bytes) {a : Option Addr} {len c n : Nat} {x : Value} {news olds : List Value} (hx : Src P w sz x n news)
    (hold : ∀ w', w'.heap = w.heap → (Builtin.firstCells sz len (.slice a len c)).run P w' = .ok olds.toArray w') (hg : c < len + n) (hfit : (len + n) * i.bytes ≤ 140737488355328) :
    (Builtin.append_ #[t, t'] ty #[.slice a len c, x]).run P w = .ok (.slice (some ⟨w.heap.size, 0, none⟩) (len + n) (grownCap w (len + n) c e))
      (w.drew.alloc (.cells (olds.toArray ++ news.toArray ++ Builtin.zeroCells z.cells (grownCap w (len + n) c e - (len + n))) e)) := by
  subst hs
  have h1 := hx.len w rfl
  have h2 := hx.cells w.drew rfl
  have h3 := hold w.drew rfl
  have hn : ¬ (len + n ≤ c) := by omega
  have h63 : ¬ (9223372036854775807 < ((len : Int) + (n : Int)) ∧ i.bytes = 0) := by omega
  have h48 := growslice_fits hg hfit
  have h48' : ¬ (281474976710656 < Builtin.nextslicecap (len + n) c * i.bytes) := by omega
  have hb' : ¬ (i.bytes = 0) := by omega
  rcases srcT_ok hu with ⟨e', hd⟩ | hd <;> simp [Builtin.append_, run_underlying ht, run_underlying hd, Go.sizeOf, typeInfo, zeroValue, hi, hz, h1, hn, hb', h48', Question.forced, h2, h3, newRow, grownCap]
  all_goals (congr 2; apply Array.ext'; simp [List.append_assoc])

theorem app_run (ht : P.underlying t = some (.slice e)) (hu : srcT P t' = true) (hi : P.info? e = some i) (hz : i.zero = some z) (hzs : z.cells.size = sz) (hs : i.size = sz) (h0 : 0 < sz) (hb : 0 < i.bytes)
    {l : Loc} {v x : Value} {len n : Nat} {olds news : List Value} (hl : l.m = sz) (hlt : ∀ b, l.b = some b → b < w.heap.size) (ho : OwnS w e l v len olds) (hx : Src P w sz x n news) (hfit : (len + n) * i.bytes ≤ 140737488355328) :
    ∃ v' w1 l', (Builtin.append_ #[t, t'] ty #[v, x]).run P w = .ok v' w1 ∧ OwnS w1 e l' v' (len + n) (olds ++ news) ∧ l'.m = sz ∧ (∀ b, l'.b = some b → l.b = some b ∨ b = w.heap.size) ∧ Evo (fun b => l.b = some b) w w1 ∧
      (∀ b, l'.b = some b → b < w1.heap.size) ∧ (l'.b = none → len + n = 0 ∧ l' = l) := by
  have hlo : olds.length = len * sz := by
    rcases ho with ⟨_, _, rfl, rfl⟩ | ⟨b, ad, c, arr, fz, _, _, hc, _, _, _, hsz, hcs, rfl⟩
    · simp
    · rw [List.length_take, hl]
      have : len * sz ≤ c * sz := Nat.mul_le_mul_right _ hc
      rw [hl] at hcs
      simp; omega
  -- a new row
  have grow : ∀ (a : Option Addr) (c : Nat), v = .slice a len c → c < len + n → (∀ w', w'.heap = w.heap → (Builtin.firstCells sz len (.slice a len c)).run P w' = .ok olds.toArray w') →
      ∃ v' w1 l', (Builtin.append_ #[t, t'] ty #[v, x]).run P w = .ok v' w1 ∧ OwnS w1 e l' v' (len + n) (olds ++ news) ∧ l'.m = sz ∧ (∀ b, l'.b = some b → l.b = some b ∨ b = w.heap.size) ∧ Evo (fun b => l.b = some b) w w1 ∧
      (∀ b, l'.b = some b → b < w1.heap.size) ∧ (l'.b = none → len + n = 0 ∧ l' = l) := by
    intro a c hv hg hold
    subst hv
    have hge := grownCap_ge w (len + n) c e
    have hrun := run_app_grow (P := P) (ty := ty) ht hu hi hs hz hb hx hold hg hfit
    refine ⟨_, _, ⟨some w.heap.size, sz, grownCap w (len + n) c e * sz⟩, hrun, .inr ⟨w.heap.size, _, _, _, (0, 0), rfl, rfl, hge, fun _ => rfl, heap_alloc_new w.drew _, unfr0 _, ?_, rfl, ?_⟩, rfl, fun b h => .inr (by simpa using h.symm), evo_drew_alloc _ _ _, fun b h => by simp at h; subst h; simp, fun h => by simp at h⟩
    · simp only [Array.size_append, List.size_toArray, size_zeroCells, hzs, hlo, hx.size, ← Nat.add_mul]
      congr 1; omega
    · simp only [Array.toList_append, List.append_assoc]
      rw [← List.append_assoc]
      have : (olds ++ news).length = (len + n) * sz := by rw [List.length_append, hlo, hx.size, Nat.add_mul]
      rw [← this]
      exact List.take_left.symm
  rcases ho with ⟨hlb, rfl, rfl, rfl⟩ | ⟨b, ad, c, arr, fz, hlb, rfl, hlc, had, hh, huf, hasz, hcs, rfl⟩
  · rcases Nat.eq_zero_or_pos n with hn | hn
    · subst hn
      have hn0 : news = [] := List.eq_nil_of_length_eq_zero (by rw [hx.size]; simp)
      subst hn0
      have hrun := run_app_nil0 (P := P) (ty := ty) ht hu hi hs hx (Nat.le_refl 0)
      exact ⟨_, _, l, hrun, .inl ⟨hlb, rfl, rfl, rfl⟩, hl, fun b h => .inl h, Evo.refl _ _, hlt, fun _ => ⟨rfl, rfl⟩⟩
    · exact grow none 0 rfl (by omega) fun w' _ => run_firstCells_none w' sz 0 0 0
  · rw [hl] at hcs
    by_cases hroom : len + n ≤ c
    · rcases Nat.eq_zero_or_pos c with hc0 | hc0
      · subst hc0
        obtain rfl : len = 0 := by omega
        obtain rfl : n = 0 := by omega
        have hn0 : news = [] := List.eq_nil_of_length_eq_zero (by rw [hx.size]; simp)
        subst hn0
        have hrun := run_app_room (P := P) (ty := ty) (ad := ad) (w1 := w) ht hu hi hs hx hroom (by simp [storeCells])
        exact ⟨_, _, l, hrun, .inr ⟨b, ad, 0, arr, fz, hlb, rfl, Nat.le_refl _, had, hh, huf, hasz, by rw [hl]; exact hcs, by simp⟩, hl, fun b h => .inl h, Evo.refl _ _, hlt, fun h => by rw [hlb] at h; simp at h⟩
      · obtain rfl := had hc0
        have hle : len * sz + news.length ≤ arr.size := by
          rw [hx.size, ← Nat.add_mul, hasz, ← hcs]; exact Nat.mul_le_mul_right _ hroom
        have hst := run_storeCells_row (P := P) b (len * sz) e fz news 0 arr w hh huf (by simpa using hle) hx.one
        simp only [Nat.add_zero] at hst
        have hrun := run_app_room (P := P) (ty := ty) (ad := ⟨b, 0, none⟩) (c := c) ht hu hi hs hx hroom (by rw [addr_add, Nat.zero_add]; exact hst)
        have hsz2 := splice_cells (cur := arr) (vs := news) (o := len * sz) hle
        refine ⟨_, _, l, hrun, .inr ⟨b, _, c, _, fz, hlb, rfl, hroom, fun _ => rfl, setRow_heap w b arr _ e _ hh, ?_, ?_, by rw [hl]; exact hcs, ?_⟩, hl, fun b h => .inl h, ?_, fun k hk => ?_, fun h => by rw [hlb] at h; simp at h⟩
        · exact hsz2 ▸ huf
        · exact hsz2.trans hasz
        · rw [hl]
          have : (arr.toList.take (len * sz) ++ news).length = (len + n) * sz := by
            rw [List.length_append, hx.size, Nat.add_mul, List.length_take]; simp; omega
          rw [← this]
          exact List.take_left.symm
        · exact ⟨rfl, rfl, rfl, by simp, fun k _ hk => setRow_other w b k _ (fun e => hk (by rw [e]; exact hlb))⟩
        · have := hlt k hk; simpa using this
    · refine grow (some ad) c rfl (by omega) fun w' hw' => ?_
      refine run_firstCells_some w' sz len ad len c _ hlo fun j u hu' => ?_
      rcases Nat.eq_zero_or_pos c with hc0 | hc0
      · subst hc0
        obtain rfl : len = 0 := by omega
        simp at hu'
      · obtain rfl := had hc0
        rw [addr_add, cell?_heap hw', cell_at hh]
        simpa using take_get hu'
end
end Ax
