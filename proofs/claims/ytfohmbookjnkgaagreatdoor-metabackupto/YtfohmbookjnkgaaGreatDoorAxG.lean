/- What the sets come to. Conditions: none; definitions and lemmas. -/
import Derived.Test.YtfohmbookjnkgaaGreatDoorAxF
import Derived.Laws.RangeString
import Derived.Lib.ItoaLen
import Derived.Lib.Join
import Derived.Shelf.Strings.FuncGrows
import Derived.Deep.Slices
import Derived.Lib.LaidTab
set_option linter.unusedVariables false
set_option linter.unusedSimpArgs false
namespace Ax
open Go
def okAt (ids : List (List UInt8)) (j : Nat) : Bool := decide ((ids.getD j []).length = 32) && (decide (j = 0) || strLt (ids.getD (j - 1) []) (ids.getD j []))
def okIds (ids : List (List UInt8)) : Bool := (List.range ids.length).all (okAt ids)
/-- quorum.Check. -/
def chkSet (ids : List (List UInt8)) (need : Int) : Int := if decide (1 ≤ ids.length) && decide (ids.length ≤ 16) && decide (1 ≤ need) && decide (need ≤ ids.length) && okIds ids then 0 else 1
theorem okIds_iff {ids : List (List UInt8)} : okIds ids = true ↔ ∀ j, j < ids.length → okAt ids j = true := by simp [okIds, List.all_eq_true]
theorem chkSet_zero {ids : List (List UInt8)} {need : Int} : chkSet ids need = 0 ↔ 1 ≤ ids.length ∧ ids.length ≤ 16 ∧ 1 ≤ need ∧ need ≤ ids.length ∧ okIds ids = true := by
  unfold chkSet; split
  · rename_i h; simp only [Bool.and_eq_true, decide_eq_true_eq] at h; simp [h]
  · rename_i h; simp only [Bool.and_eq_true, decide_eq_true_eq] at h
    constructor
    · intro h'; omega
    · intro h'; exact (h ⟨⟨⟨⟨h'.1, h'.2.1⟩, h'.2.2.1⟩, h'.2.2.2.1⟩, h'.2.2.2.2⟩).elim
theorem chkSet_one {ids : List (List UInt8)} {need : Int} : chkSet ids need = 1 ↔ ¬ (1 ≤ ids.length ∧ ids.length ≤ 16 ∧ 1 ≤ need ∧ need ≤ ids.length ∧ okIds ids = true) := by
  rw [← chkSet_zero]; unfold chkSet; split <;> simp
/-- What quorum.Lay lays. -/
def laySet (ids : List (List UInt8)) (need : Int) : List UInt8 := if chkSet ids need = 0 then num 1 ids.length ++ ids.flatten ++ num 1 need else []
theorem flatten_len {ids : List (List UInt8)} (h : ∀ x ∈ ids, x.length = 32) : ids.flatten.length = 32 * ids.length := by
  induction ids with
  | nil => rfl
  | cons x r ih =>
    rw [List.flatten_cons, List.length_append, ih (fun y hy => h y (List.mem_cons_of_mem _ hy)), h x List.mem_cons_self, List.length_cons]; omega
theorem okIds_len {ids : List (List UInt8)} (h : okIds ids = true) : ∀ x ∈ ids, x.length = 32 := by
  intro x hx
  obtain ⟨i, hi, rfl⟩ := List.getElem_of_mem hx
  have := okIds_iff.1 h i hi
  simp only [okAt, Bool.and_eq_true, decide_eq_true_eq] at this
  have h1 := this.1
  simpa [List.getD, hi] using h1
/-- What is read so many times. -/
def rdIds : Nat → List UInt8 → Int → List (List UInt8)
  | 0, _, _ => []
  | n + 1, s, e => rawV 32 s e :: rdIds n (rawS 32 s e) (rawE 32 s e)
def rdIdsS : Nat → List UInt8 → Int → List UInt8
  | 0, s, _ => s
  | n + 1, s, e => rdIdsS n (rawS 32 s e) (rawE 32 s e)
def rdIdsE : Nat → List UInt8 → Int → Int
  | 0, _, e => e
  | n + 1, s, e => rdIdsE n (rawS 32 s e) (rawE 32 s e)
theorem rdIds_len : ∀ (n : Nat) (s : List UInt8) (e : Int), (rdIds n s e).length = n
  | 0, _, _ => rfl
  | n + 1, s, e => by simp [rdIds, rdIds_len n]
theorem rdIds_succ : ∀ (n : Nat) (s : List UInt8) (e : Int), rdIds (n + 1) s e = rdIds n s e ++ [rawV 32 (rdIdsS n s e) (rdIdsE n s e)] ∧
    rdIdsS (n + 1) s e = rawS 32 (rdIdsS n s e) (rdIdsE n s e) ∧ rdIdsE (n + 1) s e = rawE 32 (rdIdsS n s e) (rdIdsE n s e)
  | 0, _, _ => ⟨rfl, rfl, rfl⟩
  | n + 1, s, e => by
    obtain ⟨h1, h2, h3⟩ := rdIds_succ n (rawS 32 s e) (rawE 32 s e)
    refine ⟨?_, h2, h3⟩
    rw [rdIds, h1]; rfl
theorem rawS_len (n : Int) (s : List UInt8) (e : Int) : (rawS n s e).length ≤ s.length := by
  unfold rawS; split
  · simp
  · simp
theorem rdIdsS_len : ∀ (n : Nat) (s : List UInt8) (e : Int), (rdIdsS n s e).length ≤ s.length
  | 0, _, _ => Nat.le_refl _
  | n + 1, s, e => Nat.le_trans (rdIdsS_len n _ _) (rawS_len _ _ _)
/-- quorum.Take. -/
def tkN (s : List UInt8) (e : Int) : Nat := (rdV 1 s e).toNat
def tkIds0 (s : List UInt8) (e : Int) : List (List UInt8) := rdIds (tkN s e) (rawS 1 s e) (rawE 1 s e)
def tkS1 (s : List UInt8) (e : Int) : List UInt8 := rdIdsS (tkN s e) (rawS 1 s e) (rawE 1 s e)
def tkE1 (s : List UInt8) (e : Int) : Int := rdIdsE (tkN s e) (rawS 1 s e) (rawE 1 s e)
def tkNeed0 (s : List UInt8) (e : Int) : Int := rdV 1 (tkS1 s e) (tkE1 s e)
def tkS (s : List UInt8) (e : Int) : List UInt8 := rawS 1 (tkS1 s e) (tkE1 s e)
def tkE (s : List UInt8) (e : Int) : Int := if chkSet (tkIds0 s e) (tkNeed0 s e) = 0 then rawE 1 (tkS1 s e) (tkE1 s e) else failE 3 (rawE 1 (tkS1 s e) (tkE1 s e))
def tkIds (s : List UInt8) (e : Int) : List (List UInt8) := if tkE s e = 0 then tkIds0 s e else []
def tkNeed (s : List UInt8) (e : Int) : Int := if tkE s e = 0 then tkNeed0 s e else 0
def tkP (p : RS) : RS := (tkS p.1 p.2, tkE p.1 p.2)
theorem tkP_1 (s : List UInt8) (e : Int) : (tkP (s, e)).1 = tkS s e := by simp only [tkP]
theorem tkP_2 (s : List UInt8) (e : Int) : (tkP (s, e)).2 = tkE s e := by simp only [tkP]
end Ax

set_option linter.unusedVariables false
set_option linter.unusedSimpArgs false
namespace Ax
open Go
def hexD (n : Nat) : UInt8 := ([48, 49, 50, 51, 52, 53, 54, 55, 56, 57, 97, 98, 99, 100, 101, 102] : List UInt8).getD n 0
def hexS (s : List UInt8) : List UInt8 := s.flatMap fun b => [hexD (b.toNat / 16), hexD (b.toNat % 16)]
theorem hexS_len (s : List UInt8) : (hexS s).length = 2 * s.length := by
  induction s with
  | nil => rfl
  | cons b r ih => simp [hexS] at ih ⊢; omega
theorem hexS_snoc (s : List UInt8) (b : UInt8) : hexS (s ++ [b]) = hexS s ++ [hexD (b.toNat / 16), hexD (b.toNat % 16)] := by simp [hexS]
theorem and15 (b : Nat) (h : b < 256) : bitsI .and .u8 (b : Int) 15 = ((b % 16 : Nat) : Int) := by
  simp only [bitsI]
  have h8 : IntKind.u8.bits = 8 := rfl
  have e : (BitVec.ofInt IntKind.u8.bits (b : Int) &&& BitVec.ofInt IntKind.u8.bits 15).toNat = b % 16 := by
    have t1 : (BitVec.ofInt IntKind.u8.bits (b : Int)).toNat = b := by
      rw [h8, BitVec.ofInt_natCast, BitVec.toNat_ofNat]; exact Nat.mod_eq_of_lt h
    have t2 : (BitVec.ofInt IntKind.u8.bits 15).toNat = 15 := by decide
    rw [BitVec.toNat_and, t1, t2]
    exact Nat.and_two_pow_sub_one_eq_mod b 4
  rw [e, wrap8']
  · omega
  · omega
theorem shr4 (b : Nat) : (b : Int).fdiv (2 ^ 4) = ((b / 16 : Nat) : Int) := by
  have := fdiv_pow (b : Int) (by omega) 4
  simpa using this
theorem hexD_at (n : Nat) : byteAt [48, 49, 50, 51, 52, 53, 54, 55, 56, 57, 97, 98, 99, 100, 101, 102] n = ((hexD n).toNat : Int) := rfl

/-! ### runes -/
theorem decode_high (s : ByteArray) (pos : Nat) (h : pos < s.size) (ha : 128 ≤ (s[pos]'h).toNat) : 128 ≤ (Utf8.decode s pos).1 := by
  have hb : (s.get! (pos + 0)).toNat = (s[pos]'h).toNat := by
    have : s.get! pos = s[pos] := by
      simp [ByteArray.get!, ByteArray.get, getElem!_pos, h]
      rfl
    simp [this]
  unfold Utf8.decode
  simp only [hb]
  rw [if_neg (by omega)]
  have he : 128 ≤ Utf8.runeError := by decide
  repeat' split
  all_goals first | exact he | (simp only [Bool.and_eq_true, decide_eq_true_eq, ge_iff_le] at *; omega)
/-- A byte that no origin has. -/
def badB (b : UInt8) : Bool := decide (b.toNat < 33) || decide (126 < b.toNat)
/-- note.origin. -/
def okOrigin (s : List UInt8) : Bool := !decide (s = []) && (decide (s.length ≤ 64) && !s.any badB)
end Ax

set_option linter.unusedVariables false
set_option linter.unusedSimpArgs false
namespace Ax
open Go
def noteE (org : List UInt8) (size : Int) (root : List UInt8) : Int := if okOrigin org && (decide (0 ≤ size) && (decide (size ≤ 1024) && decide (root.length = 32))) then 0 else 1
def noteHead : List UInt8 := [111, 115, 116, 108, 101, 114, 32, 99, 104, 101, 99, 107, 112, 111, 105, 110, 116]
def noteV (org : List UInt8) (size : Int) (root : List UInt8) : List UInt8 := if noteE org size root = 0 then noteHead ++ 10 :: (org ++ 10 :: (Lib.itoa size ++ 10 :: (hexS root ++ [10]))) else []
theorem join5 (a b c d : List UInt8) : Lib.join [a, b, c, d, []] [10] = a ++ 10 :: (b ++ 10 :: (c ++ 10 :: (d ++ [10]))) := by simp [Lib.join, List.intercalate]
theorem noteE_zero {org : List UInt8} {size : Int} {root : List UInt8} : noteE org size root = 0 ↔ okOrigin org = true ∧ 0 ≤ size ∧ size ≤ 1024 ∧ root.length = 32 := by
  unfold noteE; split
  · rename_i h; simpa using h
  · rename_i h; simp at h ⊢; omega
theorem okOrigin_len {s : List UInt8} (h : okOrigin s = true) : 1 ≤ s.length ∧ s.length ≤ 64 := by
  simp only [okOrigin, Bool.and_eq_true, Bool.not_eq_true', decide_eq_false_iff_not, decide_eq_true_eq] at h
  have : s.length ≠ 0 := fun e => h.1 (List.eq_nil_of_length_eq_zero e)
  omega
end Ax

set_option linter.unusedVariables false
set_option linter.unusedSimpArgs false
namespace Ax
open Go
/-! ### records: tg -/
abbrev tgT := (Int) × (Int) × (List UInt8)
def tgD : tgT := (0, 0, [])
def tgC (l : List tgT) (i j : Nat) : D := match j with
  | 0 => .int .i64 (l.getD i tgD).1
  | 1 => .int .i64 (l.getD i tgD).2.1
  | _ => .str (l.getD i tgD).2.2
def tgOf (n : Nat) (c : Nat → Nat → D) : List tgT := (List.range n).map fun i => (dI (c i 0), dI (c i 1), dS (c i 2))
def tgOk (n : Nat) (c : Nat → Nat → D) : Prop := ∀ i j, i < n → j < 3 → c i j = tgC (tgOf n c) i j
theorem tgOf_len (n : Nat) (c : Nat → Nat → D) : (tgOf n c).length = n := by simp [tgOf]
theorem tgOf_C (l : List tgT) : tgOf l.length (tgC l) = l := recs_of l tgD (fun i => by simp [tgC, dI, dB, dS, dL])
theorem tgOk_C (l : List tgT) : tgOk l.length (tgC l) := fun i j _ _ => by rw [tgOf_C]
theorem tg_open {n : Nat} {c : Nat → Nat → D} (h : tgOk n c) : sameRec (.recs 3 n c) (.recs 3 (tgOf n c).length (tgC (tgOf n c))) := ⟨rfl, (tgOf_len n c).symm, h⟩
theorem tgC_app (l : List tgT) (n : Nat) (r : tgT) (c : Nat → Nat → D) (hn : n = 1) (hc : ∀ j, j < 3 → c 0 j = tgC [r] 0 j) : sameRec (.recs 3 (l.length + n) fun i j => bif Nat.blt i l.length then tgC l i j else c (i - l.length) j) (.recs 3 (l ++ [r]).length (tgC (l ++ [r]))) := by
  subst hn
  refine ⟨rfl, by simp, fun i j hi hj => ?_⟩
  have hlt : ∀ a b : Nat, Nat.blt a b = decide (a < b) := fun a b => by rw [Bool.eq_iff_iff]; simp [Nat.blt, Nat.ble_eq, Nat.succ_le_iff]
  by_cases h : i < l.length
  · simp only [hlt, h, decide_true, cond_true]; have e : (l ++ [r]).getD i tgD = l.getD i tgD := by simp [List.getD, List.getElem?_append_left h]
    simp only [tgC, e]
  · have e : i = l.length := by omega
    subst e
    simp only [hlt, h, decide_false, cond_false, Nat.sub_self]
    rw [hc j hj]; simp [tgC]
theorem tgC_flat (l : List tgT) (i j : Nat) : flatD (tgC l i j) = true := by unfold tgC; split <;> rfl
/-! ### records: sg -/
abbrev sgT := (List UInt8) × (List UInt8)
def sgD : sgT := ([], [])
def sgC (l : List sgT) (i j : Nat) : D := match j with
  | 0 => .str (l.getD i sgD).1
  | _ => .str (l.getD i sgD).2
def sgOf (n : Nat) (c : Nat → Nat → D) : List sgT := (List.range n).map fun i => (dS (c i 0), dS (c i 1))
def sgOk (n : Nat) (c : Nat → Nat → D) : Prop := ∀ i j, i < n → j < 2 → c i j = sgC (sgOf n c) i j
theorem sgOf_len (n : Nat) (c : Nat → Nat → D) : (sgOf n c).length = n := by simp [sgOf]
theorem sgOf_C (l : List sgT) : sgOf l.length (sgC l) = l := recs_of l sgD (fun i => by simp [sgC, dI, dB, dS, dL])
theorem sgOk_C (l : List sgT) : sgOk l.length (sgC l) := fun i j _ _ => by rw [sgOf_C]
theorem sg_open {n : Nat} {c : Nat → Nat → D} (h : sgOk n c) : sameRec (.recs 2 n c) (.recs 2 (sgOf n c).length (sgC (sgOf n c))) := ⟨rfl, (sgOf_len n c).symm, h⟩
theorem sgC_app (l : List sgT) (n : Nat) (r : sgT) (c : Nat → Nat → D) (hn : n = 1) (hc : ∀ j, j < 2 → c 0 j = sgC [r] 0 j) : sameRec (.recs 2 (l.length + n) fun i j => bif Nat.blt i l.length then sgC l i j else c (i - l.length) j) (.recs 2 (l ++ [r]).length (sgC (l ++ [r]))) := by
  subst hn
  refine ⟨rfl, by simp, fun i j hi hj => ?_⟩
  have hlt : ∀ a b : Nat, Nat.blt a b = decide (a < b) := fun a b => by rw [Bool.eq_iff_iff]; simp [Nat.blt, Nat.ble_eq, Nat.succ_le_iff]
  by_cases h : i < l.length
  · simp only [hlt, h, decide_true, cond_true]; have e : (l ++ [r]).getD i sgD = l.getD i sgD := by simp [List.getD, List.getElem?_append_left h]
    simp only [sgC, e]
  · have e : i = l.length := by omega
    subst e
    simp only [hlt, h, decide_false, cond_false, Nat.sub_self]
    rw [hc j hj]; simp [sgC]
theorem sgC_flat (l : List sgT) (i j : Nat) : flatD (sgC l i j) = true := by unfold sgC; split <;> rfl
/-! ### documents -/
structure Doc where
  kind : Int
  ver : Int
  exp : Int
  r0 : List (List UInt8)
  n0 : Int
  r1 : List (List UInt8)
  n1 : Int
  r2 : List (List UInt8)
  n2 : Int
  r3 : List (List UInt8)
  n3 : Int
  wi : List (List UInt8)
  wn : Int
  log : List UInt8
  org : List UInt8
  tg : List tgT
  pO : List UInt8
  pS : Int
  pR : List UInt8
  of_ : Int
  hash : List UInt8
def rootOk (d : Doc) : Bool := decide (noteE d.org 0 d.log = 0) && (decide (chkSet d.r0 d.n0 = 0) && (decide (chkSet d.r1 d.n1 = 0) && (decide (chkSet d.r2 d.n2 = 0) && (decide (chkSet d.r3 d.n3 = 0) && decide (chkSet d.wi d.wn = 0)))))
def goodFrom : Int → List tgT → Bool
  | _, [] => true
  | last, t :: r => (decide (last < t.1) && (decide (t.1 ≤ 255) && (decide (0 ≤ t.2.1) && (decide (t.2.1 < 1024) && decide (t.2.2.length = 32))))) && goodFrom t.1 r
def tgsOk (l : List tgT) : Bool := goodFrom 0 l && decide (l.length ≤ 64)
def tsOk (of_ : Int) (hash : List UInt8) : Bool := decide (1 ≤ of_) && (decide (of_ ≤ 65535) && decide (hash.length = 32))
def snapOk (d : Doc) : Bool := decide (noteE d.pO d.pS d.pR = 0) && tsOk d.of_ d.hash
def noSets (d : Doc) : Bool := decide (d.r0 = [] ∧ d.n0 = 0) && (decide (d.r1 = [] ∧ d.n1 = 0) && (decide (d.r2 = [] ∧ d.n2 = 0) && (decide (d.r3 = [] ∧ d.n3 = 0) && decide (d.wi = [] ∧ d.wn = 0))))
def noRoot (d : Doc) : Bool := noSets d && (decide (d.log = []) && decide (d.org = []))
def noTgs (d : Doc) : Bool := decide (d.tg = [])
def noTs (d : Doc) : Bool := decide (d.of_ = 0) && decide (d.hash = [])
def noPt (d : Doc) : Bool := decide (d.pO = []) && (decide (d.pS = 0) && decide (d.pR = []))
def headOk (d : Doc) : Bool := decide (1 ≤ d.ver) && (decide (d.ver ≤ 65535) && (decide (0 ≤ d.exp) && decide (d.exp ≤ 1099511627776)))
def bodyOk (d : Doc) : Bool :=
  if d.kind = 1 then rootOk d && (noTgs d && (noTs d && noPt d))
  else if d.kind = 2 then tgsOk d.tg && (noRoot d && (noTs d && noPt d))
  else if d.kind = 3 then snapOk d && (noRoot d && noTgs d)
  else if d.kind = 4 then tsOk d.of_ d.hash && (noRoot d && (noTgs d && noPt d))
  else false
/-- meta.Check. -/
def chkDoc (d : Doc) : Int := if headOk d && bodyOk d then 0 else 1
def headB (kind ver exp : Int) : List UInt8 := num 1 kind ++ (num 2 ver ++ num 8 exp)
def layT (t : tgT) : List UInt8 := num 1 t.1 ++ (num 2 t.2.1 ++ t.2.2)
def layTs (l : List tgT) : List UInt8 := l.flatMap layT
def textB (s : List UInt8) : List UInt8 := num 2 s.length ++ s
def bodyB (d : Doc) : List UInt8 :=
  if d.kind = 1 then laySet d.r0 d.n0 ++ (laySet d.r1 d.n1 ++ (laySet d.r2 d.n2 ++ (laySet d.r3 d.n3 ++ (laySet d.wi d.wn ++ (d.log ++ textB d.org)))))
  else if d.kind = 2 then num 1 d.tg.length ++ layTs d.tg
  else if d.kind = 3 then num 2 d.of_ ++ (d.hash ++ (textB d.pO ++ (num 2 d.pS ++ d.pR)))
  else num 2 d.of_ ++ d.hash
/-- meta.Encode. -/
def encDoc (d : Doc) : List UInt8 := headB d.kind d.ver d.exp ++ bodyB d
theorem num_len1 (x : Int) : (num 1 x).length ≤ 1 := num_len 1 x
theorem num_len2 (x : Int) : (num 2 x).length ≤ 2 := num_len 2 x
theorem num_len8 (x : Int) : (num 8 x).length ≤ 8 := num_len 8 x
theorem laySet_len (ids : List (List UInt8)) (need : Int) : (laySet ids need).length ≤ 600 := by
  unfold laySet; split
  · rename_i h
    obtain ⟨c1, c2, c3, c4, c5⟩ := chkSet_zero.1 h
    have h1 := flatten_len (okIds_len c5)
    have h2 := num_len1 ids.length
    have h3 := num_len1 need
    simp only [List.length_append]; omega
  · simp
theorem chk_facts {d : Doc} (h : chkDoc d = 0) : 1 ≤ d.ver ∧ d.ver ≤ 65535 ∧ 0 ≤ d.exp ∧ d.exp ≤ 1099511627776 ∧ bodyOk d = true := by
  unfold chkDoc at h
  split at h
  · rename_i h1
    simp only [headOk, Bool.and_eq_true, decide_eq_true_eq] at h1
    exact ⟨h1.1.1, h1.1.2.1, h1.1.2.2.1, h1.1.2.2.2, h1.2⟩
  · simp at h
theorem goodFrom_mem : ∀ {l : List tgT} {last : Int}, goodFrom last l = true → ∀ t ∈ l, (0 ≤ last → 0 ≤ t.1) ∧ t.1 ≤ 255 ∧ 0 ≤ t.2.1 ∧ t.2.1 < 1024 ∧ t.2.2.length = 32
  | [], _, _, t, h => by simp at h
  | x :: r, last, hg, t, h => by
    simp only [goodFrom, Bool.and_eq_true, decide_eq_true_eq] at hg
    rcases List.mem_cons.1 h with rfl | h
    · exact ⟨fun _ => by omega, by omega, by omega, by omega, by omega⟩
    · have := goodFrom_mem hg.2 t h
      exact ⟨fun h0 => this.1 (by omega), this.2⟩
theorem layTs_app (l : List tgT) (t : tgT) : layTs (l ++ [t]) = layTs l ++ layT t := by simp [layTs]
theorem layTs_len {l : List tgT} (h : ∀ t ∈ l, t.2.2.length = 32) : (layTs l).length ≤ 35 * l.length := by
  induction l with
  | nil => simp [layTs]
  | cons t r ih =>
    have h1 := ih fun x hx => h x (List.mem_cons_of_mem _ hx)
    have h2 := h t List.mem_cons_self
    have h3 := num_len1 t.1
    have h4 := num_len2 t.2.1
    simp only [layTs, List.flatMap_cons, List.length_append, List.length_cons, layT] at h1 ⊢
    omega
def encV (d : Doc) : List UInt8 := if chkDoc d = 0 then encDoc d else []
end Ax

set_option linter.unusedVariables false
set_option linter.unusedSimpArgs false
namespace Ax
open Go
def rdTg (s : List UInt8) (e : Int) : tgT := (rdV 1 s e, rdV 2 (rawS 1 s e) (rawE 1 s e), rawV 32 (rawS 2 (rawS 1 s e) (rawE 1 s e)) (rawE 2 (rawS 1 s e) (rawE 1 s e)))
def rdTS (s : List UInt8) (e : Int) : List UInt8 := rawS 32 (rawS 2 (rawS 1 s e) (rawE 1 s e)) (rawE 2 (rawS 1 s e) (rawE 1 s e))
def rdTE (s : List UInt8) (e : Int) : Int := rawE 32 (rawS 2 (rawS 1 s e) (rawE 1 s e)) (rawE 2 (rawS 1 s e) (rawE 1 s e))
def rdTs : Nat → List UInt8 → Int → List tgT
  | 0, _, _ => []
  | n + 1, s, e => rdTg s e :: rdTs n (rdTS s e) (rdTE s e)
def rdTsS : Nat → List UInt8 → Int → List UInt8
  | 0, s, _ => s
  | n + 1, s, e => rdTsS n (rdTS s e) (rdTE s e)
def rdTsE : Nat → List UInt8 → Int → Int
  | 0, _, e => e
  | n + 1, s, e => rdTsE n (rdTS s e) (rdTE s e)
theorem rdTs_len : ∀ (n : Nat) (s : List UInt8) (e : Int), (rdTs n s e).length = n
  | 0, _, _ => rfl
  | n + 1, s, e => by simp [rdTs, rdTs_len n]
theorem rdTs_succ : ∀ (n : Nat) (s : List UInt8) (e : Int), rdTs (n + 1) s e = rdTs n s e ++ [rdTg (rdTsS n s e) (rdTsE n s e)] ∧
    rdTsS (n + 1) s e = rdTS (rdTsS n s e) (rdTsE n s e) ∧ rdTsE (n + 1) s e = rdTE (rdTsS n s e) (rdTsE n s e)
  | 0, _, _ => ⟨rfl, rfl, rfl⟩
  | n + 1, s, e => by
    obtain ⟨h1, h2, h3⟩ := rdTs_succ n (rdTS s e) (rdTE s e)
    refine ⟨?_, h2, h3⟩
    rw [rdTs, h1]; rfl
theorem rdTS_len (s : List UInt8) (e : Int) : (rdTS s e).length ≤ s.length :=
  Nat.le_trans (rawS_len _ _ _) (Nat.le_trans (rawS_len _ _ _) (rawS_len _ _ _))
theorem rdTsS_len : ∀ (n : Nat) (s : List UInt8) (e : Int), (rdTsS n s e).length ≤ s.length
  | 0, _, _ => Nat.le_refl _
  | n + 1, s, e => Nat.le_trans (rdTsS_len n _ _) (rdTS_len _ _)
theorem tkS_len (s : List UInt8) (e : Int) : (tkS s e).length ≤ s.length :=
  Nat.le_trans (rawS_len _ _ _) (Nat.le_trans (rdIdsS_len _ _ _) (rawS_len _ _ _))
theorem txS_len (m : Int) (s : List UInt8) (e : Int) : (txS m s e).length ≤ s.length := by
  unfold txS; split
  · exact Nat.le_trans (rawS_len _ _ _) (rawS_len _ _ _)
  · exact Nat.le_refl _
/-! ### the head -/
def dK (s : List UInt8) : Int := rdV 1 s 0
def dV (s : List UInt8) : Int := rdV 2 (rawS 1 s 0) (rawE 1 s 0)
def dX (s : List UInt8) : Int := rdV 8 (rawP 2 (rawP 1 (s, 0))).1 (e8E (rawP 2 (rawP 1 (s, 0))).1 (rawP 2 (rawP 1 (s, 0))).2)
def dR (s : List UInt8) : RS := e8P (rawP 2 (rawP 1 (s, 0)))
def tkI (p : RS) : List (List UInt8) := tkIds p.1 p.2
def tkNd (p : RS) : Int := tkNeed p.1 p.2
def dRoot (k v x : Int) (p : RS) : Doc := ⟨k, v, x, tkIds p.1 p.2, tkNeed p.1 p.2, tkIds (tkP p).1 (tkP p).2, tkNeed (tkP p).1 (tkP p).2, tkIds (tkP (tkP p)).1 (tkP (tkP p)).2, tkNeed (tkP (tkP p)).1 (tkP (tkP p)).2,
  tkIds (tkP (tkP (tkP p))).1 (tkP (tkP (tkP p))).2, tkNeed (tkP (tkP (tkP p))).1 (tkP (tkP (tkP p))).2, tkIds (tkP (tkP (tkP (tkP p)))).1 (tkP (tkP (tkP (tkP p)))).2, tkNeed (tkP (tkP (tkP (tkP p)))).1 (tkP (tkP (tkP (tkP p)))).2,
  rawV 32 (tkP (tkP (tkP (tkP (tkP p))))).1 (tkP (tkP (tkP (tkP (tkP p))))).2, txV 64 (rawP 32 (tkP (tkP (tkP (tkP (tkP p)))))).1 (rawP 32 (tkP (tkP (tkP (tkP (tkP p)))))).2, [], [], 0, [], 0, []⟩
def pRoot (p : RS) : RS := txP 64 (rawP 32 (tkP (tkP (tkP (tkP (tkP p))))))
def tgN (p : RS) : Nat := (rdV 1 p.1 p.2).toNat
def dTgs (k v x : Int) (p : RS) : Doc := ⟨k, v, x, [], 0, [], 0, [], 0, [], 0, [], 0, [], [], rdTs (tgN p) (rawP 1 p).1 (rawP 1 p).2, [], 0, [], 0, []⟩
def dSnap (k v x : Int) (p : RS) : Doc := ⟨k, v, x, [], 0, [], 0, [], 0, [], 0, [], 0, [], [], [], txV 64 (rawP 32 (rawP 2 p)).1 (rawP 32 (rawP 2 p)).2, rdV 2 (txP 64 (rawP 32 (rawP 2 p))).1 (txP 64 (rawP 32 (rawP 2 p))).2,
  rawV 32 (rawP 2 (txP 64 (rawP 32 (rawP 2 p)))).1 (rawP 2 (txP 64 (rawP 32 (rawP 2 p)))).2, rdV 2 p.1 p.2, rawV 32 (rawP 2 p).1 (rawP 2 p).2⟩
def pSnap (p : RS) : RS := rawP 32 (rawP 2 (txP 64 (rawP 32 (rawP 2 p))))
def dTs (k v x : Int) (p : RS) : Doc := ⟨k, v, x, [], 0, [], 0, [], 0, [], 0, [], 0, [], [], [], [], 0, [], rdV 2 p.1 p.2, rawV 32 (rawP 2 p).1 (rawP 2 p).2⟩
def zeroDoc : Doc := ⟨0, 0, 0, [], 0, [], 0, [], 0, [], 0, [], 0, [], [], [], [], 0, [], 0, []⟩
def dNone (k v x : Int) : Doc := ⟨k, v, x, [], 0, [], 0, [], 0, [], 0, [], 0, [], [], [], [], 0, [], 0, []⟩
def dRaw (k v x : Int) (p : RS) : Doc := if k = 1 then dRoot k v x p else if k = 2 then dTgs k v x p else if k = 3 then dSnap k v x p else if k = 4 then dTs k v x p else dNone k v x
def dEnd (k : Int) (p : RS) : Int := if k = 1 then endE (pRoot p).1 (pRoot p).2
  else if k = 2 then endE (rdTsS (tgN p) (rawP 1 p).1 (rawP 1 p).2) (rdTsE (tgN p) (rawP 1 p).1 (rawP 1 p).2)
  else if k = 3 then endE (pSnap p).1 (pSnap p).2
  else if k = 4 then endE (rawP 32 (rawP 2 p)).1 (rawP 32 (rawP 2 p)).2
  else endE p.1 p.2
def decOk (k v x : Int) (p : RS) : Bool := decide (dEnd k p = 0) && decide (chkDoc (dRaw k v x p) = 0)
def decP (k v x : Int) (p : RS) : Doc := if decOk k v x p then dRaw k v x p else zeroDoc
def decQ (k v x : Int) (p : RS) : Int := if decOk k v x p then 0 else 3
/-- meta.Decode. -/
def decD (s : List UInt8) : Doc := decP (dK s) (dV s) (dX s) (dR s)
def decE (s : List UInt8) : Int := decQ (dK s) (dV s) (dX s) (dR s)
theorem rawP_len (n : Int) (p : RS) : (rawP n p).1.length ≤ p.1.length := rawS_len _ _ _
theorem e8P_len (p : RS) : (e8P p).1.length ≤ p.1.length := rawS_len _ _ _
theorem tkP_len (p : RS) : (tkP p).1.length ≤ p.1.length := tkS_len _ _
theorem txP_len (n : Int) (p : RS) : (txP n p).1.length ≤ p.1.length := txS_len _ _ _
theorem rdV_le (n : Int) (s : List UInt8) (e : Int) (h : n ≤ 7) : rdV n s e ≤ 9223372036854775807 := by have := rdV_small n s e h; omega
theorem raw32_len (s : List UInt8) (e : Int) : (rawV 32 s e).length ≤ 1000000000 := by have := rawV_len' 32 s e; have : (32 : Int).toNat = 32 := rfl; omega
theorem dec_no {k v x : Int} {p : RS} {E : Int} {d : Doc} (hE : dEnd k p = E) (hd : dRaw k v x p = d) (h : ¬ E = 0 ∨ ¬ chkDoc d = 0) : decP k v x p = zeroDoc ∧ decQ k v x p = 3 := by
  have : decOk k v x p = false := by
    unfold decOk; rw [hE, hd]
    rcases h with h | h <;> simp [h]
  unfold decP decQ; rw [this]; exact ⟨rfl, rfl⟩
theorem dec_yes {k v x : Int} {p : RS} {E : Int} {d : Doc} (hE : dEnd k p = E) (hd : dRaw k v x p = d) (h : E = 0 ∧ chkDoc d = 0) : decP k v x p = d ∧ decQ k v x p = 0 := by
  have : decOk k v x p = true := by
    unfold decOk; rw [hE, hd]; simp [h.1, h.2]
  unfold decP decQ; rw [this]; exact ⟨hd, rfl⟩
theorem at_recs (l : List tgT) (n : Nat) : (fun i j => (D.recs 3 n (tgC l)).at (0 + i) j) = tgC l := by funext i j; simp [D.at]
theorem tgOf_0 : (tgOf 0 fun _ _ => D.strs []) = [] := rfl
theorem tgOk_0 : tgOk 0 fun _ _ => D.strs [] := fun i j hi => by omega
end Ax

set_option linter.unusedVariables false
set_option linter.unusedSimpArgs false
namespace Ax
open Go
/-! ### signatures -/
def sg1 (p : RS) : sgT := (rawV 32 p.1 p.2, txV 1024 (rawP 32 p).1 (rawP 32 p).2)
def sgP (p : RS) : RS := txP 1024 (rawP 32 p)
def rdSg : Nat → RS → List sgT
  | 0, _ => []
  | n + 1, p => sg1 p :: rdSg n (sgP p)
def rdSgP : Nat → RS → RS
  | 0, p => p
  | n + 1, p => rdSgP n (sgP p)
theorem rdSg_len : ∀ (n : Nat) (p : RS), (rdSg n p).length = n
  | 0, _ => rfl
  | n + 1, p => by simp [rdSg, rdSg_len n]
theorem rdSg_succ : ∀ (n : Nat) (p : RS), rdSg (n + 1) p = rdSg n p ++ [sg1 (rdSgP n p)] ∧ rdSgP (n + 1) p = sgP (rdSgP n p)
  | 0, _ => ⟨rfl, rfl⟩
  | n + 1, p => by
    obtain ⟨h1, h2⟩ := rdSg_succ n (sgP p)
    refine ⟨?_, h2⟩
    rw [rdSg, h1]; rfl
theorem rdSgP_len : ∀ (n : Nat) (p : RS), (rdSgP n p).1.length ≤ p.1.length
  | 0, _ => Nat.le_refl _
  | n + 1, p => Nat.le_trans (rdSgP_len n _) (Nat.le_trans (txP_len _ _) (rawP_len _ _))
def tsN (p : RS) : Nat := (rdV 1 p.1 p.2).toNat
/-- quorum.TakeSigs. -/
def tsP (p : RS) : RS := rdSgP (tsN p) (rawP 1 p)
def tsL (p : RS) : List sgT := if (tsP p).2 = 0 then rdSg (tsN p) (rawP 1 p) else []
theorem tsP_len (p : RS) : (tsP p).1.length ≤ p.1.length := Nat.le_trans (rdSgP_len _ _) (rawP_len _ _)
/-- meta.Unseal. -/
def unP (s : List UInt8) : RS := tsP (txP 65535 (s, 0))
def unOk (s : List UInt8) : Bool := decide (endE (unP s).1 (unP s).2 = 0) && decide ((tsL (txP 65535 (s, 0))).length ≤ 16)
def unB (s : List UInt8) : List UInt8 := if unOk s then txV 65535 s 0 else []
def unL (s : List UInt8) : List sgT := if unOk s then tsL (txP 65535 (s, 0)) else []
def unE (s : List UInt8) : Int := if unOk s then 0 else 3
/-- meta.Open, without sets. -/
def opE (s : List UInt8) (kind : Int) : Int := if unE s = 0 then (if decE (unB s) = 0 then (if (decD (unB s)).kind = kind then 0 else 1) else decE (unB s)) else unE s
def opB (s : List UInt8) (kind : Int) : List UInt8 := if opE s kind = 0 then unB s else []
def opD (s : List UInt8) (kind : Int) : Doc := if opE s kind = 0 then decD (unB s) else zeroDoc
theorem unB_len (s : List UInt8) : (unB s).length ≤ s.length := by
  unfold unB; split
  · exact Nat.le_trans (rawV_len _ _ _) (rawS_len _ _ _)
  · simp
theorem at_sg (l : List sgT) (n : Nat) : (fun i j => (D.recs 2 n (sgC l)).at (0 + i) j) = sgC l := by funext i j; simp [D.at]
/-! ### the same -/
def sameTB (a b : Doc) : Bool :=
  decide (a.r0 = b.r0 ∧ a.n0 = b.n0) && (decide (a.r1 = b.r1 ∧ a.n1 = b.n1) && (decide (a.r2 = b.r2 ∧ a.n2 = b.n2) && (decide (a.r3 = b.r3 ∧ a.n3 = b.n3) && (decide (a.tg = b.tg) &&
  (decide (a.kind = b.kind) && (decide (a.ver = b.ver) && (decide (a.exp = b.exp) && (decide (a.wi = b.wi ∧ a.wn = b.wn) && (decide (a.log = b.log) && (decide (a.org = b.org) && ((decide (a.pO = b.pO) && (decide (a.pS = b.pS) && decide (a.pR = b.pR))) && (decide (a.of_ = b.of_) && decide (a.hash = b.hash)))))))))))))
theorem sameTB_iff {a b : Doc} : sameTB a b = true ↔ a = b := by
  cases a; cases b
  simp only [sameTB, Bool.and_eq_true, decide_eq_true_eq, Doc.mk.injEq]
  constructor
  · rintro ⟨⟨h1, h2⟩, ⟨h3, h4⟩, ⟨h5, h6⟩, ⟨h7, h8⟩, h9, h10, h11, h12, ⟨h13, h14⟩, h15, h16, ⟨h17, h18, h19⟩, h20, h21⟩
    exact ⟨h10, h11, h12, h1, h2, h3, h4, h5, h6, h7, h8, h13, h14, h15, h16, h9, h17, h18, h19, h20, h21⟩
  · rintro ⟨h10, h11, h12, h1, h2, h3, h4, h5, h6, h7, h8, h13, h14, h15, h16, h9, h17, h18, h19, h20, h21⟩
    exact ⟨⟨h1, h2⟩, ⟨h3, h4⟩, ⟨h5, h6⟩, ⟨h7, h8⟩, h9, h10, h11, h12, ⟨h13, h14⟩, h15, h16, ⟨h17, h18, h19⟩, h20, h21⟩
/-- Two lists, as far as that. -/
theorem ext_getD {α : Type} {a b : List α} {d : α} (hl : a.length = b.length) (h : ∀ j, j < a.length → a.getD j d = b.getD j d) : a = b := by
  apply List.ext_getElem hl
  intro i h1 h2
  have := h i h1
  simpa [List.getD, h1, h2] using this
end Ax

set_option linter.unusedVariables false
set_option linter.unusedSimpArgs false
namespace Ax
open Go
/-! ### what was laid is read -/
theorem raw_ok (a t : List UInt8) (n : Nat) (hn : a.length = n) : rawV n (a ++ t) 0 = a ∧ rawS n (a ++ t) 0 = t ∧ rawE n (a ++ t) 0 = 0 := by
  have h : rawOk n (a ++ t) 0 = true := by simp [rawOk]; omega
  have hc : ((n : Nat) : Int).toNat = n := by omega
  subst hn
  refine ⟨by simp [rawV, h], by simp [rawS, h], ?_⟩
  unfold rawE
  rw [if_pos rfl, if_neg (by omega), if_neg (by simp; omega)]
theorem beVal_be (x : Int) (h0 : 0 ≤ x) : ∀ n : Nat, beVal (be n x) = x % 256 ^ n
  | 0 => by simp [be, beVal, Int.emod_one]
  | n + 1 => by
    have h1 : beVal (be (n + 1) x) = ((UInt8.ofNat (x.toNat / 2 ^ (8 * n))).toNat : Int) * 256 ^ n + beVal (be n x) := by
      have := foldl_be (be n x) ((0 : Int) * 256 + ((UInt8.ofNat (x.toNat / 2 ^ (8 * n))).toNat : Int))
      rw [be_len] at this
      simp only [be, beVal, List.foldl_cons] at this ⊢
      rw [this]; simp [beVal]
    rw [h1, beVal_be x h0 n]
    obtain ⟨m, rfl⟩ := Int.eq_ofNat_of_zero_le h0
    have e1 : (256 : Int) ^ n = ((256 ^ n : Nat) : Int) := by simp
    have e2 : (256 : Int) ^ (n + 1) = ((256 ^ (n + 1) : Nat) : Int) := by simp
    have e3 : (2 : Nat) ^ (8 * n) = 256 ^ n := by rw [Nat.pow_mul]
    have e4 : (UInt8.ofNat ((m : Int).toNat / 2 ^ (8 * n))).toNat = (m / 256 ^ n) % 256 := by
      rw [e3]; simp
    rw [e4, e1, e2]
    have : m % 256 ^ (n + 1) = (m / 256 ^ n) % 256 * 256 ^ n + m % 256 ^ n := by
      rw [Nat.pow_succ, Nat.mod_mul]; rw [Nat.mul_comm (256 ^ n)]; omega
    have := congrArg (fun k : Nat => (k : Int)) this
    simp only [Int.natCast_add, Int.natCast_mul, Int.natCast_emod] at this ⊢
    omega
theorem num_rd (n : Nat) (x : Int) (h0 : 0 ≤ x) (h : x < 256 ^ n) (t : List UInt8) : rdV n (num n x ++ t) 0 = x ∧ rawS n (num n x ++ t) 0 = t ∧ rawE n (num n x ++ t) 0 = 0 := by
  rw [num_ok n x h0 h]
  obtain ⟨h1, h2, h3⟩ := raw_ok (be n x) t n (be_len x n)
  refine ⟨?_, h2, h3⟩
  unfold rdV; rw [h1, beVal_be x h0]; exact Int.emod_eq_of_lt h0 h
theorem num_rd1 (x : Int) (h0 : 0 ≤ x) (h : x < 256) (t : List UInt8) : rdV 1 (num 1 x ++ t) 0 = x ∧ rawS 1 (num 1 x ++ t) 0 = t ∧ rawE 1 (num 1 x ++ t) 0 = 0 := num_rd 1 x h0 (by omega) t
theorem num_rd2 (x : Int) (h0 : 0 ≤ x) (h : x < 65536) (t : List UInt8) : rdV 2 (num 2 x ++ t) 0 = x ∧ rawS 2 (num 2 x ++ t) 0 = t ∧ rawE 2 (num 2 x ++ t) 0 = 0 := num_rd 2 x h0 (by omega) t
theorem num_rd8 (x : Int) (h0 : 0 ≤ x) (h : x < 9223372036854775808) (t : List UInt8) : e8E (num 8 x ++ t) 0 = 0 ∧ rdV 8 (num 8 x ++ t) 0 = x ∧ rawS 8 (num 8 x ++ t) 0 = t ∧ rawE 8 (num 8 x ++ t) 0 = 0 := by
  refine ⟨?_, num_rd 8 x h0 (by omega) t⟩
  unfold e8E
  rw [if_neg]
  rintro ⟨_, h1⟩
  rw [show (8 : Int) = ((8 : Nat) : Int) from rfl, num_ok 8 x h0 (by omega)] at h1
  simp only [be, byteAt, List.cons_append, List.getD_cons_zero] at h1
  have : x.toNat / 2 ^ (8 * 7) < 128 := by
    apply Nat.div_lt_of_lt_mul; omega
  have e : (UInt8.ofNat (x.toNat / 2 ^ (8 * 7))).toNat = x.toNat / 2 ^ (8 * 7) := by simp; omega
  rw [e] at h1; omega
theorem raw32_ok (a t : List UInt8) (h : a.length = 32) : rawV 32 (a ++ t) 0 = a ∧ rawS 32 (a ++ t) 0 = t ∧ rawE 32 (a ++ t) 0 = 0 := raw_ok a t 32 h
theorem text_rd (s t : List UInt8) (m : Int) (h : (s.length : Int) ≤ m) (h2 : s.length < 65536) : txV m (textB s ++ t) 0 = s ∧ txS m (textB s ++ t) 0 = t ∧ txE m (textB s ++ t) 0 = 0 := by
  have e : textB s ++ t = num 2 s.length ++ (s ++ t) := by simp [textB]
  obtain ⟨h1, h3, h4⟩ := num_rd2 s.length (by omega) (by omega) (s ++ t)
  obtain ⟨r1, r2, r3⟩ := raw_ok s t s.length rfl
  have e1 : txE1 m (textB s ++ t) 0 = 0 := by
    unfold txE1; rw [e, h1, h4, if_neg]
    rw [if_neg (by omega)]; omega
  have e2 : txE m (textB s ++ t) 0 = 0 := by unfold txE; rw [e1, e, h1, h3]; exact r3
  refine ⟨by unfold txV; rw [e1, e, h1, h3]; exact r1, ?_, e2⟩
  unfold txS; rw [if_pos e2, e1, e, h1, h3]; exact r2
theorem ids_rd : ∀ (ids : List (List UInt8)) (h : ∀ x ∈ ids, x.length = 32) (t : List UInt8), rdIds ids.length (ids.flatten ++ t) 0 = ids ∧ rdIdsS ids.length (ids.flatten ++ t) 0 = t ∧ rdIdsE ids.length (ids.flatten ++ t) 0 = 0
  | [], _, t => ⟨rfl, rfl, rfl⟩
  | x :: r, h, t => by
    have e : (x :: r).flatten ++ t = x ++ (r.flatten ++ t) := by simp
    obtain ⟨r1, r2, r3⟩ := raw32_ok x (r.flatten ++ t) (h x List.mem_cons_self)
    obtain ⟨i1, i2, i3⟩ := ids_rd r (fun y hy => h y (List.mem_cons_of_mem _ hy)) t
    simp only [List.length_cons, rdIds, rdIdsS, rdIdsE]
    rw [e, r1, r2, r3, i1, i2, i3]; exact ⟨rfl, rfl, rfl⟩
theorem set_rd (ids : List (List UInt8)) (need : Int) (h : chkSet ids need = 0) (t : List UInt8) : tkIds (laySet ids need ++ t) 0 = ids ∧ tkNeed (laySet ids need ++ t) 0 = need ∧ tkP (laySet ids need ++ t, 0) = (t, 0) := by
  obtain ⟨c1, c2, c3, c4, c5⟩ := chkSet_zero.1 h
  have e : laySet ids need ++ t = num 1 ids.length ++ (ids.flatten ++ (num 1 need ++ t)) := by unfold laySet; rw [if_pos h]; simp
  obtain ⟨h1, h2, h3⟩ := num_rd1 ids.length (by omega) (by omega) (ids.flatten ++ (num 1 need ++ t))
  obtain ⟨i1, i2, i3⟩ := ids_rd ids (okIds_len c5) (num 1 need ++ t)
  obtain ⟨n1, n2, n3⟩ := num_rd1 need (by omega) (by omega) t
  rw [e]
  have eN : tkN (num 1 ids.length ++ (ids.flatten ++ (num 1 need ++ t))) 0 = ids.length := by unfold tkN; rw [h1]; omega
  have e0 : tkIds0 (num 1 ids.length ++ (ids.flatten ++ (num 1 need ++ t))) 0 = ids := by unfold tkIds0; rw [eN, h2, h3]; exact i1
  have e1 : tkS1 (num 1 ids.length ++ (ids.flatten ++ (num 1 need ++ t))) 0 = num 1 need ++ t := by unfold tkS1; rw [eN, h2, h3]; exact i2
  have e2 : tkE1 (num 1 ids.length ++ (ids.flatten ++ (num 1 need ++ t))) 0 = 0 := by unfold tkE1; rw [eN, h2, h3]; exact i3
  have e3 : tkNeed0 (num 1 ids.length ++ (ids.flatten ++ (num 1 need ++ t))) 0 = need := by unfold tkNeed0; rw [e1, e2]; exact n1
  have e4 : tkE (num 1 ids.length ++ (ids.flatten ++ (num 1 need ++ t))) 0 = 0 := by unfold tkE; rw [e0, e3, if_pos h, e1, e2]; exact n3
  refine ⟨by unfold tkIds; rw [if_pos e4]; exact e0, by unfold tkNeed; rw [if_pos e4]; exact e3, ?_⟩
  unfold tkP; simp only; rw [e4]; unfold tkS; rw [e1, e2, n2]
theorem tgs_rd : ∀ (l : List tgT) (h : ∀ t ∈ l, 0 ≤ t.1 ∧ t.1 ≤ 255 ∧ 0 ≤ t.2.1 ∧ t.2.1 < 1024 ∧ t.2.2.length = 32) (t : List UInt8), rdTs l.length (layTs l ++ t) 0 = l ∧ rdTsS l.length (layTs l ++ t) 0 = t ∧ rdTsE l.length (layTs l ++ t) 0 = 0
  | [], _, t => ⟨rfl, rfl, rfl⟩
  | x :: r, h, t => by
    obtain ⟨v, at_, leaf⟩ := x
    obtain ⟨a1, a2, a3, a4, a5⟩ := h _ List.mem_cons_self
    simp only at a1 a2 a3 a4 a5
    have e : layTs ((v, at_, leaf) :: r) ++ t = num 1 v ++ (num 2 at_ ++ (leaf ++ (layTs r ++ t))) := by simp [layTs, layT]
    obtain ⟨p1, p2, p3⟩ := num_rd1 v (by omega) (by omega) (num 2 at_ ++ (leaf ++ (layTs r ++ t)))
    obtain ⟨q1, q2, q3⟩ := num_rd2 at_ (by omega) (by omega) (leaf ++ (layTs r ++ t))
    obtain ⟨r1, r2, r3⟩ := raw32_ok leaf (layTs r ++ t) a5
    obtain ⟨i1, i2, i3⟩ := tgs_rd r (fun y hy => h y (List.mem_cons_of_mem _ hy)) t
    simp only [List.length_cons, rdTs, rdTsS, rdTsE, rdTg, rdTS, rdTE]
    rw [e, p1, p2, p3, q1, q2, q3, r1, r2, r3, i1, i2, i3]; exact ⟨rfl, rfl, rfl⟩

theorem endE_nil : endE [] 0 = 0 := rfl
/-- A good document's bytes are read as it was. -/
theorem dec_enc {d : Doc} (h : chkDoc d = 0) : decD (encDoc d) = d ∧ decE (encDoc d) = 0 := by
  obtain ⟨v1, v2, x1, x2, hb⟩ := chk_facts h
  have hk : 1 ≤ d.kind ∧ d.kind ≤ 4 := by
    unfold bodyOk at hb
    split at hb; · omega
    split at hb; · omega
    split at hb; · omega
    split at hb; · omega
    simp at hb
  have e : encDoc d = num 1 d.kind ++ (num 2 d.ver ++ (num 8 d.exp ++ bodyB d)) := by simp [encDoc, headB]
  obtain ⟨k1, k2, k3⟩ := num_rd1 d.kind (by omega) (by omega) (num 2 d.ver ++ (num 8 d.exp ++ bodyB d))
  obtain ⟨w1, w2, w3⟩ := num_rd2 d.ver (by omega) (by omega) (num 8 d.exp ++ bodyB d)
  obtain ⟨y0, y1, y2, y3⟩ := num_rd8 d.exp (by omega) (by omega) (bodyB d)
  have eK : dK (encDoc d) = d.kind := by unfold dK; rw [e]; exact k1
  have eV : dV (encDoc d) = d.ver := by unfold dV; rw [e, k2, k3]; exact w1
  have eP : rawP 2 (rawP 1 (encDoc d, 0)) = (num 8 d.exp ++ bodyB d, 0) := by
    have : rawP 1 (encDoc d, 0) = (num 2 d.ver ++ (num 8 d.exp ++ bodyB d), 0) := by unfold rawP; simp only; rw [e, k2, k3]
    rw [this]; unfold rawP; simp only; rw [w2, w3]
  have eX : dX (encDoc d) = d.exp := by unfold dX; rw [eP]; simp only; rw [y0]; exact y1
  have eR : dR (encDoc d) = (bodyB d, 0) := by unfold dR; rw [eP]; unfold e8P; simp only; rw [y0, y2, y3]
  suffices hs : dRaw d.kind d.ver d.exp (bodyB d, 0) = d ∧ dEnd d.kind (bodyB d, 0) = 0 by
    unfold decD decE
    rw [eK, eV, eX, eR]
    have : decOk d.kind d.ver d.exp (bodyB d, 0) = true := by unfold decOk; rw [hs.1, hs.2]; simp [h]
    unfold decP decQ; rw [this]; simp [hs.1]
  obtain ⟨kind, ver, exp, r0, n0, r1, n1, r2, n2, r3, n3, wi, wn, log, org, tg, pO, pS, pR, of_, hash⟩ := d
  simp only at hk hb ⊢
  by_cases e1 : kind = 1
  · simp only [bodyOk, if_pos e1, rootOk, noTgs, noTs, noPt, Bool.and_eq_true, decide_eq_true_eq] at hb
    obtain ⟨⟨a0, a1, a2, a3, a4, a5⟩, b1, ⟨b2, b3⟩, b4, b5, b6⟩ := hb
    obtain ⟨o1, _, _, o4⟩ := noteE_zero.1 a0
    have o5 := okOrigin_len o1
    have eB : bodyB ⟨kind, ver, exp, r0, n0, r1, n1, r2, n2, r3, n3, wi, wn, log, org, tg, pO, pS, pR, of_, hash⟩ = laySet r0 n0 ++ (laySet r1 n1 ++ (laySet r2 n2 ++ (laySet r3 n3 ++ (laySet wi wn ++ (log ++ (textB org ++ [])))))) := by simp [bodyB, e1]
    rw [eB]
    obtain ⟨p1, p2, p3⟩ := set_rd r0 n0 a1 (laySet r1 n1 ++ (laySet r2 n2 ++ (laySet r3 n3 ++ (laySet wi wn ++ (log ++ (textB org ++ []))))))
    obtain ⟨q1, q2, q3⟩ := set_rd r1 n1 a2 (laySet r2 n2 ++ (laySet r3 n3 ++ (laySet wi wn ++ (log ++ (textB org ++ [])))))
    obtain ⟨s1, s2, s3⟩ := set_rd r2 n2 a3 (laySet r3 n3 ++ (laySet wi wn ++ (log ++ (textB org ++ []))))
    obtain ⟨t1, t2, t3⟩ := set_rd r3 n3 a4 (laySet wi wn ++ (log ++ (textB org ++ [])))
    obtain ⟨u1, u2, u3⟩ := set_rd wi wn a5 (log ++ (textB org ++ []))
    obtain ⟨l1, l2, l3⟩ := raw32_ok log (textB org ++ []) o4
    obtain ⟨m1, m2, m3⟩ := text_rd org [] 64 (by omega) (by omega)
    have l4 : rawP 32 (log ++ (textB org ++ []), 0) = (textB org ++ [], 0) := by unfold rawP; simp only; rw [l2, l3]
    constructor
    · unfold dRaw; rw [if_pos e1]; unfold dRoot
      rw [p3, q3, s3, t3, u3, l4]
      simp only
      rw [p1, p2, q1, q2, s1, s2, t1, t2, u1, u2, l1, m1, b1, b2, b3, b4, b5, b6]
    · unfold dEnd; rw [if_pos e1]; unfold pRoot
      rw [p3, q3, s3, t3, u3, l4]
      unfold txP; simp only; rw [m2, m3]; rfl
  · by_cases e2 : kind = 2
    · simp only [bodyOk, if_neg e1, if_pos e2, tgsOk, noRoot, noSets, noTs, noPt, Bool.and_eq_true, decide_eq_true_eq] at hb
      obtain ⟨⟨a0, a1⟩, ⟨⟨⟨c1, c2⟩, ⟨c3, c4⟩, ⟨c5, c6⟩, ⟨c7, c8⟩, c9, c10⟩, c11, c12⟩, ⟨b2, b3⟩, b4, b5, b6⟩ := hb
      have hm := goodFrom_mem a0
      have eB : bodyB ⟨kind, ver, exp, r0, n0, r1, n1, r2, n2, r3, n3, wi, wn, log, org, tg, pO, pS, pR, of_, hash⟩ = num 1 tg.length ++ (layTs tg ++ []) := by simp [bodyB, e2]
      rw [eB]
      obtain ⟨p1, p2, p3⟩ := num_rd1 tg.length (by omega) (by omega) (layTs tg ++ [])
      obtain ⟨q1, q2, q3⟩ := tgs_rd tg (fun t ht => ⟨(hm t ht).1 (by omega), (hm t ht).2⟩) []
      have eN : tgN (num 1 tg.length ++ (layTs tg ++ []), 0) = tg.length := by unfold tgN; simp only; rw [p1]; omega
      have eP : rawP 1 (num 1 tg.length ++ (layTs tg ++ []), 0) = (layTs tg ++ [], 0) := by unfold rawP; simp only; rw [p2, p3]
      constructor
      · unfold dRaw; rw [if_neg e1, if_pos e2]; unfold dTgs
        rw [eN, eP]; simp only; rw [q1, c1, c2, c3, c4, c5, c6, c7, c8, c9, c10, c11, c12, b2, b3, b4, b5, b6]
      · unfold dEnd; rw [if_neg e1, if_pos e2, eN, eP]; simp only; rw [q2, q3]; rfl
    · by_cases e3 : kind = 3
      · simp only [bodyOk, if_neg e1, if_neg e2, if_pos e3, snapOk, tsOk, noRoot, noSets, noTgs, Bool.and_eq_true, decide_eq_true_eq] at hb
        obtain ⟨⟨a0, a1, a2, a3⟩, ⟨⟨⟨c1, c2⟩, ⟨c3, c4⟩, ⟨c5, c6⟩, ⟨c7, c8⟩, c9, c10⟩, c11, c12⟩, b1⟩ := hb
        obtain ⟨o1, o2, o3, o4⟩ := noteE_zero.1 a0
        have o5 := okOrigin_len o1
        have eB : bodyB ⟨kind, ver, exp, r0, n0, r1, n1, r2, n2, r3, n3, wi, wn, log, org, tg, pO, pS, pR, of_, hash⟩ = num 2 of_ ++ (hash ++ (textB pO ++ (num 2 pS ++ (pR ++ [])))) := by simp [bodyB, e3]
        rw [eB]
        obtain ⟨p1, p2, p3⟩ := num_rd2 of_ (by omega) (by omega) (hash ++ (textB pO ++ (num 2 pS ++ (pR ++ []))))
        obtain ⟨q1, q2, q3⟩ := raw32_ok hash (textB pO ++ (num 2 pS ++ (pR ++ []))) a3
        obtain ⟨s1, s2, s3⟩ := text_rd pO (num 2 pS ++ (pR ++ [])) 64 (by omega) (by omega)
        obtain ⟨t1, t2, t3⟩ := num_rd2 pS (by omega) (by omega) (pR ++ [])
        obtain ⟨u1, u2, u3⟩ := raw32_ok pR [] o4
        have f1 : rawP 2 (num 2 of_ ++ (hash ++ (textB pO ++ (num 2 pS ++ (pR ++ [])))), 0) = (hash ++ (textB pO ++ (num 2 pS ++ (pR ++ []))), 0) := by unfold rawP; simp only; rw [p2, p3]
        have f2 : rawP 32 (hash ++ (textB pO ++ (num 2 pS ++ (pR ++ []))), 0) = (textB pO ++ (num 2 pS ++ (pR ++ [])), 0) := by unfold rawP; simp only; rw [q2, q3]
        have f3 : txP 64 (textB pO ++ (num 2 pS ++ (pR ++ [])), 0) = (num 2 pS ++ (pR ++ []), 0) := by unfold txP; simp only; rw [s2, s3]
        have f4 : rawP 2 (num 2 pS ++ (pR ++ []), 0) = (pR ++ [], 0) := by unfold rawP; simp only; rw [t2, t3]
        constructor
        · unfold dRaw; rw [if_neg e1, if_neg e2, if_pos e3]; unfold dSnap
          rw [f1, f2, f3, f4]; simp only; rw [p1, q1, s1, t1, u1, b1, c1, c2, c3, c4, c5, c6, c7, c8, c9, c10, c11, c12]
        · unfold dEnd; rw [if_neg e1, if_neg e2, if_pos e3]; unfold pSnap
          rw [f1, f2, f3, f4]; unfold rawP; simp only; rw [u2, u3]; rfl
      · have e4 : kind = 4 := by omega
        simp only [bodyOk, if_neg e1, if_neg e2, if_neg e3, if_pos e4, tsOk, noRoot, noSets, noTgs, noPt, Bool.and_eq_true, decide_eq_true_eq] at hb
        obtain ⟨⟨a1, a2, a3⟩, ⟨⟨⟨c1, c2⟩, ⟨c3, c4⟩, ⟨c5, c6⟩, ⟨c7, c8⟩, c9, c10⟩, c11, c12⟩, b1, b4, b5, b6⟩ := hb
        have eB : bodyB ⟨kind, ver, exp, r0, n0, r1, n1, r2, n2, r3, n3, wi, wn, log, org, tg, pO, pS, pR, of_, hash⟩ = num 2 of_ ++ (hash ++ []) := by simp [bodyB, e4]
        rw [eB]
        obtain ⟨p1, p2, p3⟩ := num_rd2 of_ (by omega) (by omega) (hash ++ [])
        obtain ⟨q1, q2, q3⟩ := raw32_ok hash [] a3
        have f1 : rawP 2 (num 2 of_ ++ (hash ++ []), 0) = (hash ++ [], 0) := by unfold rawP; simp only; rw [p2, p3]
        constructor
        · unfold dRaw; rw [if_neg e1, if_neg e2, if_neg e3, if_pos e4]; unfold dTs
          rw [f1]; simp only; rw [p1, q1, b1, b4, b5, b6, c1, c2, c3, c4, c5, c6, c7, c8, c9, c10, c11, c12]
        · unfold dEnd; rw [if_neg e1, if_neg e2, if_neg e3, if_pos e4, f1]; unfold rawP; simp only; rw [q2, q3]; rfl
end Ax

set_option linter.unusedVariables false
set_option linter.unusedSimpArgs false
namespace Ax
open Go
/-- A reader that keeps its first error, and looks at no more than it takes. -/
structure Loc1 (P : RS → RS) : Prop where
  bad : ∀ p : RS, p.2 ≠ 0 → (P p).2 ≠ 0
  ext : ∀ s t : List UInt8, (P (s, 0)).2 = 0 → P (s ++ t, 0) = ((P (s, 0)).1 ++ t, 0)
theorem Loc1.comp {P Q : RS → RS} (hP : Loc1 P) (hQ : Loc1 Q) : Loc1 fun p => Q (P p) where
  bad p h := hQ.bad _ (hP.bad p h)
  ext s t h := by
    have h1 : (P (s, 0)).2 = 0 := Classical.byContradiction fun e => hQ.bad _ e h
    have e : P (s, 0) = ((P (s, 0)).1, 0) := Prod.ext rfl h1
    rw [hP.ext s t h1]
    rw [e] at h ⊢
    exact hQ.ext _ t h
theorem Loc1.id : Loc1 fun p => p := ⟨fun _ h => h, fun _ _ _ => rfl⟩
theorem raw_bad {n : Int} {s : List UInt8} {e : Int} (h : e ≠ 0) : rawE n s e = e := by unfold rawE; rw [if_neg h]
theorem raw_ext {n : Int} {s : List UInt8} (t : List UInt8) (h : rawE n s 0 = 0) : rawV n (s ++ t) 0 = rawV n s 0 ∧ rawS n (s ++ t) 0 = rawS n s 0 ++ t ∧ rawE n (s ++ t) 0 = 0 ∧ 0 ≤ n ∧ n ≤ s.length := by
  unfold rawE at h
  rw [if_pos rfl] at h
  split at h
  · simp at h
  split at h
  · simp at h
  rename_i h1 h2
  have o1 : rawOk n s 0 = true := by simp [rawOk]; omega
  have o2 : rawOk n (s ++ t) 0 = true := by simp [rawOk]; omega
  have hle : n.toNat ≤ s.length := by omega
  refine ⟨by rw [rawV, rawV, if_pos o1, if_pos o2, List.take_append_of_le_length hle], by rw [rawS, rawS, if_pos o1, if_pos o2, List.drop_append_of_le_length hle], ?_, by omega, by omega⟩
  unfold rawE; rw [if_pos rfl, if_neg (by omega), if_neg (by simp; omega)]
theorem rawP_loc (n : Int) : Loc1 (rawP n) := ⟨fun p h => by unfold rawP; simp only; rw [raw_bad h]; exact h, fun s t h => by
  obtain ⟨_, h2, h3, _⟩ := raw_ext t h
  unfold rawP; simp only; rw [h2, h3]⟩
theorem rdV_ext {n : Int} {s : List UInt8} (t : List UInt8) (h : rawE n s 0 = 0) : rdV n (s ++ t) 0 = rdV n s 0 := by unfold rdV; rw [(raw_ext t h).1]
theorem failE_bad {x e : Int} (h : e ≠ 0) : failE x e = e := by unfold failE; rw [if_neg h]
theorem failE_ne {x e : Int} (hx : x ≠ 0) : failE x e ≠ 0 := by unfold failE; split <;> assumption
theorem e8P_loc : Loc1 e8P := by
  have hb : ∀ (s : List UInt8) (e : Int), e ≠ 0 → e8E s e = e := fun s e h => by unfold e8E; rw [failE_bad h]; exact ite_self _
  refine ⟨fun p h => ?_, fun s t h => ?_⟩
  · unfold e8P; simp only; rw [hb _ _ h, raw_bad h]; exact h
  · unfold e8P at h ⊢
    simp only at h ⊢
    have h0 : e8E s 0 = 0 := Classical.byContradiction fun e => by rw [raw_bad e] at h; exact e h
    rw [h0] at h ⊢
    obtain ⟨_, h2, h3, _, h5⟩ := raw_ext t h
    have h1 : e8E (s ++ t) 0 = 0 := by
      have hb : byteAt (s ++ t) 0 = byteAt s 0 := by
        unfold byteAt
        have : (s ++ t).getD 0 0 = s.getD 0 0 := by
          have hlt : 0 < s.length := by omega
          simp [List.getD, List.getElem?_append_left hlt]
        rw [this]
      unfold e8E at h0 ⊢
      rw [hb, if_neg]
      rintro ⟨_, h6⟩
      rw [if_pos ⟨by omega, h6⟩] at h0
      exact failE_ne (by decide) h0
    rw [h1, h2, h3]
theorem txP_loc (m : Int) : Loc1 (txP m) := by
  have hb : ∀ (s : List UInt8) (e : Int), e ≠ 0 → txE m s e = e := fun s e h => by
    unfold txE txE1; rw [raw_bad h, failE_bad h, ite_self]; exact raw_bad h
  refine ⟨fun p h => by unfold txP; simp only; rw [hb _ _ h]; exact h, fun s t h => ?_⟩
  unfold txP at h ⊢
  simp only at h ⊢
  have h1 : txE1 m s 0 = 0 := Classical.byContradiction fun e => by unfold txE at h; rw [raw_bad e] at h; exact e h
  have h2 : rawE 2 s 0 = 0 ∧ ¬ (if m < 0 then 0 else m) < rdV 2 s 0 := by
    unfold txE1 at h1
    by_cases hn : (if m < 0 then 0 else m) < rdV 2 s 0
    · rw [if_pos hn] at h1; exact (failE_ne (by decide) h1).elim
    · rw [if_neg hn] at h1; exact ⟨h1, hn⟩
  obtain ⟨_, r2, r3, _⟩ := raw_ext t h2.1
  have h4 : txE1 m (s ++ t) 0 = 0 := by unfold txE1; rw [rdV_ext t h2.1, if_neg h2.2]; exact r3
  have h5 : rawE (rdV 2 s 0) (rawS 2 s 0) 0 = 0 := by unfold txE at h; rwa [h1] at h
  obtain ⟨_, q2, q3, _⟩ := raw_ext t h5
  have h6 : txE m (s ++ t) 0 = 0 := by unfold txE; rw [h4, rdV_ext t h2.1, r2]; exact q3
  rw [h6]
  unfold txS
  rw [if_pos h, if_pos h6, h1, h4, rdV_ext t h2.1, r2, q2]
theorem ids_bad : ∀ (n : Nat) (s : List UInt8) (e : Int), e ≠ 0 → rdIdsE n s e ≠ 0
  | 0, _, _, h => h
  | n + 1, s, e, h => ids_bad n _ _ (by rw [raw_bad h]; exact h)
theorem ids_ext : ∀ (n : Nat) (s t : List UInt8), rdIdsE n s 0 = 0 → rdIds n (s ++ t) 0 = rdIds n s 0 ∧ rdIdsS n (s ++ t) 0 = rdIdsS n s 0 ++ t ∧ rdIdsE n (s ++ t) 0 = 0
  | 0, _, _, _ => ⟨rfl, rfl, rfl⟩
  | n + 1, s, t, h => by
    have h1 : rawE 32 s 0 = 0 := Classical.byContradiction fun e => ids_bad n _ _ e h
    obtain ⟨r1, r2, r3, _⟩ := raw_ext t h1
    simp only [rdIdsE, h1] at h
    obtain ⟨i1, i2, i3⟩ := ids_ext n (rawS 32 s 0) t h
    simp only [rdIds, rdIdsS, rdIdsE]
    rw [r1, r2, r3, h1, i1, i2, i3]; exact ⟨rfl, rfl, rfl⟩
theorem tkP_loc : Loc1 tkP := by
  have hb : ∀ (s : List UInt8) (e : Int), e ≠ 0 → tkE s e ≠ 0 := fun s e h => by
    have h1 : tkE1 s e ≠ 0 := ids_bad _ _ _ (by rw [raw_bad h]; exact h)
    unfold tkE; rw [raw_bad h1, failE_bad h1, ite_self]; exact h1
  refine ⟨fun p h => hb _ _ h, fun s t h => ?_⟩
  unfold tkP at h ⊢
  simp only at h ⊢
  have hc : chkSet (tkIds0 s 0) (tkNeed0 s 0) = 0 := Classical.byContradiction fun e => by
    unfold tkE at h; rw [if_neg e] at h; exact failE_ne (by decide) h
  have h1 : rawE 1 (tkS1 s 0) (tkE1 s 0) = 0 := by unfold tkE at h; rwa [if_pos hc] at h
  have h2 : tkE1 s 0 = 0 := Classical.byContradiction fun e => by rw [raw_bad e] at h1; exact e h1
  have h3 : rawE 1 s 0 = 0 := Classical.byContradiction fun e => ids_bad _ _ _ e h2
  obtain ⟨_, r2, r3, _⟩ := raw_ext t h3
  have h2' : rdIdsE (tkN s 0) (rawS 1 s 0) 0 = 0 := by have := h2; unfold tkE1 at this; rwa [h3] at this
  obtain ⟨i1, i2, i3⟩ := ids_ext _ _ t h2'
  have eN : tkN (s ++ t) 0 = tkN s 0 := by unfold tkN; rw [rdV_ext t h3]
  have e0 : tkIds0 (s ++ t) 0 = tkIds0 s 0 := by unfold tkIds0; rw [eN, r2, r3, h3]; exact i1
  have e1 : tkS1 (s ++ t) 0 = tkS1 s 0 ++ t := by unfold tkS1; rw [eN, r2, r3, h3]; exact i2
  have e2 : tkE1 (s ++ t) 0 = 0 := by unfold tkE1; rw [eN, r2, r3]; exact i3
  rw [h2] at h1
  obtain ⟨_, q2, q3, _⟩ := raw_ext t h1
  have e3 : tkNeed0 (s ++ t) 0 = tkNeed0 s 0 := by unfold tkNeed0; rw [e1, e2, h2]; exact rdV_ext t h1
  have e4 : tkE (s ++ t) 0 = 0 := by unfold tkE; rw [e0, e3, if_pos hc, e1, e2]; exact q3
  have e5 : tkS (s ++ t) 0 = tkS s 0 ++ t := by unfold tkS; rw [e1, e2, h2]; exact q2
  rw [e4, e5]
def rdTsP (n : Nat) (p : RS) : RS := (rdTsS n p.1 p.2, rdTsE n p.1 p.2)
theorem rdTsP_loc : ∀ n, Loc1 (rdTsP n)
  | 0 => Loc1.id
  | n + 1 => ((rawP_loc 1).comp (rawP_loc 2)).comp (rawP_loc 32) |>.comp (rdTsP_loc n)
def pTgs (p : RS) : RS := rdTsP (tgN p) (rawP 1 p)
theorem pTgs_loc : Loc1 pTgs := by
  refine ⟨fun p h => (rdTsP_loc _).bad _ ((rawP_loc 1).bad p h), fun s t h => ?_⟩
  have h1 : rawE 1 s 0 = 0 := Classical.byContradiction fun e => (rdTsP_loc _).bad _ e h
  have eN : tgN (s ++ t, 0) = tgN (s, 0) := by unfold tgN; simp only; rw [rdV_ext t h1]
  have := ((rawP_loc 1).comp (rdTsP_loc (tgN (s, 0)))).ext s t h
  unfold pTgs; rw [eN]; exact this
theorem Loc1.of {P Q : RS → RS} (h : ∀ p, Q p = P p) (hP : Loc1 P) : Loc1 Q := by
  have : Q = P := funext h
  rw [this]; exact hP
theorem pRoot_loc : Loc1 pRoot := by
  have h2 := tkP_loc.comp tkP_loc
  have h4 := h2.comp h2
  have h5 := h4.comp tkP_loc
  have h6 := h5.comp (rawP_loc 32)
  have h7 := h6.comp (txP_loc 64)
  exact Loc1.of (fun p => by unfold pRoot; rfl) h7
theorem pSnap_loc : Loc1 pSnap := (rawP_loc 2).comp (rawP_loc 32) |>.comp (txP_loc 64) |>.comp (rawP_loc 2) |>.comp (rawP_loc 32)
def pEnd (k : Int) (p : RS) : RS := if k = 1 then pRoot p else if k = 2 then pTgs p else if k = 3 then pSnap p else if k = 4 then rawP 32 (rawP 2 p) else p
theorem pEnd_loc (k : Int) : Loc1 (pEnd k) := by
  unfold pEnd
  by_cases h1 : k = 1
  · simp only [if_pos h1]; exact pRoot_loc
  by_cases h2 : k = 2
  · simp only [if_neg h1, if_pos h2]; exact pTgs_loc
  by_cases h3 : k = 3
  · simp only [if_neg h1, if_neg h2, if_pos h3]; exact pSnap_loc
  by_cases h4 : k = 4
  · simp only [if_neg h1, if_neg h2, if_neg h3, if_pos h4]; exact (rawP_loc 2).comp (rawP_loc 32)
  simp only [if_neg h1, if_neg h2, if_neg h3, if_neg h4]; exact Loc1.id
theorem dEnd_eq (k : Int) (p : RS) : dEnd k p = endE (pEnd k p).1 (pEnd k p).2 := by
  unfold dEnd pEnd
  repeat' split
  all_goals rfl
theorem endE_zero {s : List UInt8} {e : Int} (h : endE s e = 0) : s = [] ∧ e = 0 := by
  unfold endE at h
  split at h
  · exact (failE_ne (by decide) h).elim
  · exact ⟨List.eq_nil_of_length_eq_zero (by omega), h⟩
/-- Bytes behind a document's are refused. -/
theorem dec_more {s t : List UInt8} (h : decE s = 0) (ht : t ≠ []) : decE (s ++ t) = 3 := by
  have h0 : dEnd (dK s) (dR s) = 0 := by
    unfold decE decQ at h
    split at h
    · rename_i h1; unfold decOk at h1; simp only [Bool.and_eq_true, decide_eq_true_eq] at h1; exact h1.1
    · simp at h
  rw [dEnd_eq] at h0
  obtain ⟨e1, e2⟩ := endE_zero h0
  have h1 : (dR s).2 = 0 := Classical.byContradiction fun e => (pEnd_loc _).bad _ e e2
  have hR : Loc1 fun p => e8P (rawP 2 (rawP 1 p)) := (rawP_loc 1).comp (rawP_loc 2) |>.comp e8P_loc
  have h2 : (rawP 2 (rawP 1 (s, 0))).2 = 0 := Classical.byContradiction fun e => e8P_loc.bad _ e h1
  have h3 : rawE 1 s 0 = 0 := Classical.byContradiction fun e => (rawP_loc 2).bad (rawP 1 (s, 0)) e h2
  have eK : dK (s ++ t) = dK s := rdV_ext t h3
  have eR : dR (s ++ t) = ((dR s).1 ++ t, 0) := hR.ext s t h1
  have eS : dR s = ((dR s).1, 0) := Prod.ext rfl h1
  have e3 : pEnd (dK s) ((dR s).1 ++ t, 0) = (t, 0) := by
    have := (pEnd_loc (dK s)).ext (dR s).1 t (by rw [← eS]; exact e2)
    rw [this, ← eS, e1]; rfl
  have e4 : dEnd (dK (s ++ t)) (dR (s ++ t)) ≠ 0 := by
    rw [eK, eR, dEnd_eq, e3]
    intro hz
    exact ht (endE_zero hz).1
  unfold decE decQ
  rw [if_neg]
  unfold decOk
  simp [e4]
theorem decE_or (s : List UInt8) : decE s = 0 ∨ decE s = 3 := by unfold decE decQ; split <;> simp
/-- No proper beginning of a document's bytes is read. -/
theorem dec_less {s : List UInt8} (h : decE s = 0) {n : Nat} (hn : n < s.length) : decE (s.take n) = 3 := by
  rcases decE_or (s.take n) with h1 | h1
  · have := dec_more h1 (t := s.drop n) (fun e => by have := congrArg List.length e; simp at this; omega)
    rw [List.take_append_drop] at this
    omega
  · exact h1
end Ax

set_option linter.unusedVariables false
set_option linter.unusedSimpArgs false
namespace Ax
open Go
theorem chk01 (d : Doc) : chkDoc d = 0 ∨ chkDoc d = 1 := by unfold chkDoc; split <;> simp
theorem open_seal {d : Doc} (h : chkDoc d = 0) (hl : (encDoc d).length ≤ 65535) : opE (textB (encDoc d) ++ num 1 0) d.kind = 0 ∧ opB (textB (encDoc d) ++ num 1 0) d.kind = encDoc d ∧ opD (textB (encDoc d) ++ num 1 0) d.kind = d := by
  obtain ⟨h1, h2⟩ := dec_enc h
  obtain ⟨t1, t2, t3⟩ := text_rd (encDoc d) (num 1 0) 65535 (by omega) (by omega)
  have e1 : txP 65535 (textB (encDoc d) ++ num 1 0, 0) = (num 1 0 ++ [], 0) := by unfold txP; simp only; rw [t2, t3, List.append_nil]
  obtain ⟨n1, n2, n3⟩ := num_rd1 0 (by omega) (by omega) []
  have e2 : tsN (num 1 0 ++ [], 0) = 0 := by unfold tsN; simp only; rw [n1]; rfl
  have e3 : tsP (num 1 0 ++ [], 0) = ([], 0) := by unfold tsP; rw [e2]; show rawP 1 (num 1 0 ++ [], 0) = _; unfold rawP; simp only; rw [n2, n3]
  have e4 : tsL (num 1 0 ++ [], 0) = [] := by unfold tsL; rw [e2, e3, if_pos rfl]; rfl
  have e5 : unOk (textB (encDoc d) ++ num 1 0) = true := by unfold unOk unP; rw [e1, e3, e4]; rfl
  have e6 : unB (textB (encDoc d) ++ num 1 0) = encDoc d := by unfold unB; rw [e5]; exact t1
  have e7 : unE (textB (encDoc d) ++ num 1 0) = 0 := by unfold unE; rw [e5]; rfl
  have e8 : opE (textB (encDoc d) ++ num 1 0) d.kind = 0 := by unfold opE; rw [e6, e7, h2, h1]; simp
  exact ⟨e8, by rw [opB, if_pos e8, e6], by rw [opD, if_pos e8, e6, h1]⟩
theorem enc_len {d : Doc} (h : chkDoc d = 0) : 0 < (encDoc d).length ∧ (encDoc d).length ≤ 10000 := by
  obtain ⟨v1, v2, x1, x2, hb⟩ := chk_facts h
  have hh : 1 ≤ (num 1 d.kind).length := by
    have hk : 1 ≤ d.kind ∧ d.kind ≤ 4 := by
      unfold bodyOk at hb
      split at hb; · omega
      split at hb; · omega
      split at hb; · omega
      split at hb; · omega
      simp at hb
    rw [show (1 : Int) = ((1 : Nat) : Int) from rfl, num_ok 1 _ (by omega) (by omega), be_len]; exact Nat.le_refl _
  have k1 := num_len1 d.kind
  have k2 := num_len2 d.ver
  have k8 := num_len8 d.exp
  have hB : (bodyB d).length ≤ 9000 := by
    unfold bodyOk at hb
    unfold bodyB
    split
    · rename_i hk
      simp only [if_pos hk, rootOk, Bool.and_eq_true, decide_eq_true_eq] at hb
      obtain ⟨o1, _, _, o4⟩ := noteE_zero.1 hb.1.1
      have o5 := okOrigin_len o1
      have l0 := laySet_len d.r0 d.n0
      have l1 := laySet_len d.r1 d.n1
      have l2 := laySet_len d.r2 d.n2
      have l3 := laySet_len d.r3 d.n3
      have l4 := laySet_len d.wi d.wn
      have l5 := num_len2 d.org.length
      simp only [List.length_append, textB]; omega
    · rename_i hk
      rw [if_neg hk] at hb
      split
      · rename_i hk2
        simp only [if_pos hk2, tgsOk, Bool.and_eq_true, decide_eq_true_eq] at hb
        have hm := goodFrom_mem hb.1.1
        have := layTs_len fun t ht => (hm t ht).2.2.2.2
        have l1 := num_len1 d.tg.length
        simp only [List.length_append]; omega
      · rename_i hk2
        rw [if_neg hk2] at hb
        split
        · rename_i hk3
          simp only [if_pos hk3, snapOk, tsOk, Bool.and_eq_true, decide_eq_true_eq] at hb
          obtain ⟨o1, _, _, o4⟩ := noteE_zero.1 hb.1.1
          have o5 := okOrigin_len o1
          have l1 := num_len2 d.of_
          have l2 := num_len2 d.pO.length
          have l3 := num_len2 d.pS
          simp only [List.length_append, textB]; omega
        · rename_i hk3
          rw [if_neg hk3] at hb
          split at hb
          · simp only [tsOk, Bool.and_eq_true, decide_eq_true_eq] at hb
            have l1 := num_len2 d.of_
            simp only [List.length_append]; omega
          · simp at hb
  simp only [encDoc, headB, List.length_append]; omega
def exDoc : Doc := ⟨4, 1, 9, [], 0, [], 0, [], 0, [], 0, [], 0, [], [], [], [], 0, [], 1, strOfInts (List.take 32 (List.replicate 32 0))⟩
theorem ex_chk : chkDoc exDoc = 0 := by decide +kernel
theorem ex_enc : (encDoc exDoc).length = 45 ∧ List.take 3 (encDoc exDoc) = [4, 0, 1] := by decide +kernel
end Ax

set_option linter.unusedVariables false
set_option linter.unusedSimpArgs false
namespace Ax
open Go
theorem idxFrom_iff {p : Nat → Bool} (hp : ∀ x, 128 ≤ x → p x = true) (s : ByteArray) : ∀ (f pos : Nat), s.size ≤ pos + f → (0 ≤ Lib.idxFuncFrom p true s f pos ↔ ∃ j, pos ≤ j ∧ ∃ h : j < s.size, p (s[j]'h).toNat = true)
  | 0, pos, hf => by
    simp only [Lib.idxFuncFrom]
    constructor
    · intro h; omega
    · rintro ⟨j, h1, h2, _⟩; omega
  | f + 1, pos, hf => by
    unfold Lib.idxFuncFrom
    split
    · rename_i hlt
      by_cases hb : (s[pos]'hlt).toNat < 128
      · rw [decode_ascii s pos hlt hb]
        simp only
        split
        · rename_i hp1
          exact ⟨fun _ => ⟨pos, Nat.le_refl _, hlt, hp1⟩, fun _ => by omega⟩
        · rename_i hp1
          rw [idxFrom_iff hp s f (pos + 1) (by omega)]
          constructor
          · rintro ⟨j, h1, h2, h3⟩; exact ⟨j, by omega, h2, h3⟩
          · rintro ⟨j, h1, h2, h3⟩
            refine ⟨j, ?_, h2, h3⟩
            by_cases e : j = pos
            · subst e; exact absurd h3 hp1
            · omega
      · have h1 := decode_high s pos hlt (by omega)
        rw [if_pos (hp _ h1)]
        exact ⟨fun _ => ⟨pos, Nat.le_refl _, hlt, hp _ (by omega)⟩, fun _ => by omega⟩
    · rename_i hge
      constructor
      · intro h; omega
      · rintro ⟨j, h1, h2, _⟩; omega
theorem idxFunc_any {p : Nat → Bool} (hp : ∀ x, 128 ≤ x → p x = true) (s : List UInt8) : decide (0 ≤ Lib.idxFunc p true ⟨s.toArray⟩) = s.any fun b => p b.toNat := by
  rw [Bool.eq_iff_iff, decide_eq_true_eq, Lib.idxFunc, idxFrom_iff hp _ _ _ (by omega), List.any_eq_true]
  constructor
  · rintro ⟨j, _, h, h1⟩
    have hj : j < s.length := h
    exact ⟨s[j], List.getElem_mem hj, h1⟩
  · rintro ⟨b, hb, h1⟩
    obtain ⟨j, hj, rfl⟩ := List.getElem_of_mem hb
    exact ⟨j, Nat.zero_le _, hj, h1⟩
end Ax

set_option linter.unusedVariables false
set_option linter.unusedSimpArgs false
namespace Ax
open Go
theorem Globs.below {ok : Nat → Prop} {w w' : World} (h : Globs ok w) (hl : ∀ b, ok b → b < w.heap.size) (hb : Go.RowKit.Below w.heap.size w w') : Globs ok w' := h.mono (fun _ h => h) (fun b hk => hb.block b (hl b hk))
theorem Good.below {ρ : Rho} {ok : Nat → Prop} {w w' : World} (G : Good ρ 0 ok [] w) (hb : Go.RowKit.Below w.heap.size w w') : Good ρ 0 ok [] w' :=
  ⟨G.gl.below G.now.oklt hb, fun n o h => by simp [hget] at h, fun ρ1 _ => ⟨fun n m o o' b h1 => by simp [hget] at h1, fun n o b h1 => by simp [hget] at h1, fun n o b h1 => by simp [hget] at h1, fun b hk => Nat.lt_of_lt_of_le (G.now.oklt b hk) hb.size, fun n o h1 => by simp [hget] at h1⟩⟩
/-- A pure call on scalars: the world is as it was, but for what is new. -/
theorem calls_pure {P : Program} {f : Nat} {g : List A → Heap → Nat → Option R} (hct : CtOk P f g) (henter : ∀ (vs : Array Value) (w : World), (callFunc f vs).run P w = .ok (.enter f vs) w) {xs : List A} {r : R}
    (hg : g xs [] 0 = some r) (hpre : r.pre) (hv : bdA 0 r.val = true) {ρ : Rho} {ok : Nat → Prop} {w : World} (G : Good ρ 0 ok [] w) {vs : List Value} (hr : RelGL ρ 0 ok w xs vs) :
    Calls P f vs.toArray w fun e w' => ∃ v ok', e = .returned v ∧ Rel ρ ok' w' r.val v ∧ Go.RowKit.Below w.heap.size w w' := by
  have h := hct.calls xs [] 0 r hg hpre ρ ok w vs G hr
  unfold CallsTo at h
  rw [henter] at h
  refine Calls.mono h fun e w' he => ?_
  cases e with
  | returned v =>
    obtain ⟨ρ', ok', hst, hx⟩ := he
    exact ⟨v, ok', rfl, Rel_bd 0 (fun m hm => by omega) _ _ hv hx.now, ⟨hst.evo.os, hst.evo.tape, hst.evo.output, hst.evo.size, fun b hb => hst.evo.block b hb fun h => Own.none h⟩⟩
  | panicked _ => exact he.elim
  | outgrown => exact he.elim
/-- A call of the library's that answers with a scalar. -/
theorem CallsTo.of_calls {P : Program} {f : Nat} {vs : List Value} {w : World} (henter : ∀ (vs : Array Value) (w : World), (callFunc f vs).run P w = .ok (.enter f vs) w) {ρ : Rho} {ok : Nat → Prop} (G : Good ρ 0 ok [] w) {x : A} {v : Value} (hb : bdA 0 x = true)
    (hr : ∀ w', Rel ρ ok w' x v) (h : Calls P f vs.toArray w fun e w' => e = .returned v ∧ Go.RowKit.Below w.heap.size w w') : CallsTo P f vs.toArray w (After ρ 0 ok [] w x [] 0 []) := by
  unfold CallsTo
  rw [henter]
  refine Calls.mono h fun e w' he => ?_
  obtain ⟨rfl, hw⟩ := he
  exact After.of_below G hw hb (hr w')
theorem RelL_2 {ρ : Rho} {ok : Nat → Prop} {w : World} {x y : A} {vs : List Value} (h : RelL ρ ok w [x, y] vs) : ∃ u v, vs = [u, v] ∧ Rel ρ ok w x u ∧ Rel ρ ok w y v := by
  match vs, h with
  | [u, v], h => exact ⟨u, v, rfl, h.1, h.2.1⟩
theorem RelL_1 {ρ : Rho} {ok : Nat → Prop} {w : World} {x : A} {vs : List Value} (h : RelL ρ ok w [x] vs) : ∃ u, vs = [u] ∧ Rel ρ ok w x u := by
  match vs, h with
  | [u], h => exact ⟨u, rfl, h.1⟩
theorem strV_str {s : List UInt8} : strV s = .string ⟨s.toArray⟩ := rfl
/-- The cells of a slice of strings. -/
theorem strs_cells {ok : Nat → Prop} {w : World} {l : List (List UInt8)} {v : Value} (h : RD ok w (.strs l) v) (h0 : 0 < l.length) :
    ∃ bk o c, v = .slice (some ⟨bk, o, none⟩) l.length c ∧ l.length ≤ c ∧ ok bk ∧ l.length ≤ 281474976710656 ∧ ∀ (j : Nat) x, (l.map fun s => (⟨s.toArray⟩ : ByteArray))[j]? = some x → w.cell? ⟨bk, o + j, none⟩ = some (.string x) := by
  obtain ⟨a, cp, e, h1, h2, h3⟩ := h
  obtain ⟨ad, ea, hk, hc⟩ := h3 h0
  have hsp : ad.spot = none := by
    obtain ⟨u, hu, _⟩ := hc 0 0 h0 (by omega)
    have : ad.add (0 * 1 + 0) = ad := by simp [Addr.add]
    rw [this] at hu
    unfold World.cell? at hu
    split at hu
    · cases hs : ad.spot with
      | none => rfl
      | some _ => rw [hs] at hu; simp at hu
    · simp at hu
  have ead : ad = ⟨ad.block, ad.off, none⟩ := by cases ad; simp at hsp; simp [hsp]
  refine ⟨ad.block, ad.off, cp, by rw [e, ea, ← ead], h1, hk, h2, fun j x hx => ?_⟩
  rw [List.getElem?_map] at hx
  cases hj : l[j]? with
  | none => rw [hj] at hx; simp at hx
  | some s =>
    rw [hj] at hx; simp at hx
    have hlt : j < l.length := (List.getElem?_eq_some_iff.1 hj).1
    obtain ⟨u, hu, hu2, _⟩ := hc j 0 hlt (by omega)
    have e1 : ad.add (j * 1 + 0) = ⟨ad.block, ad.off + j, none⟩ := by rw [ead, addr_add]; simp
    rw [e1] at hu
    rw [hu, hu2, ← hx]
    have : l.getD j [] = s := by simp [List.getD, hj]
    rw [this]; rfl
end Ax

set_option linter.unusedVariables false
set_option linter.unusedSimpArgs false
namespace Ax
open Go Go.Deep
inductive Lf where
  | bool
  | int (k : IntKind)
  | str
inductive Leaf where
  | sc (l : Lf)
  | strs
  | ints (k : IntKind)
  | recs (l : List Lf)
def scOf : List Leaf → Option (List Lf)
  | [] => some []
  | .sc l :: r => (scOf r).map (l :: ·)
  | _ :: _ => none
def leafOf : List Lf → Option Leaf
  | [] => none
  | [.str] => some .strs
  | [.int k] => some (.ints k)
  | l => some (.recs l)
mutual
def leaves (P : Program) : Nat → TypeId → Option (List Leaf)
  | 0, _ => none
  | n + 1, t => match P.underlying t with
    | some .bool => some [.sc .bool]
    | some (.int k) => some [.sc (.int k)]
    | some .string => some [.sc .str]
    | some (.slice e) => match leaves P n e with
      | some ls => match scOf ls with
        | some l => if l.length = P.cellsOf e then (leafOf l).map (fun x => [x]) else none
        | none => none
      | none => none
    | some (.struct fs) => match leavesF P n 0 fs.toList with
      | some ls => if ls.length = P.cellsOf t then some ls else none
      | none => none
    | some (.array k e) => match leaves P n e with
      | some ls => if ls.length = P.cellsOf e ∧ k * P.cellsOf e = P.cellsOf t then some (List.replicate k ls).flatten else none
      | none => none
    | _ => none
def leavesF (P : Program) : Nat → Nat → List Field → Option (List Leaf)
  | _, _, [] => some []
  | 0, _, _ :: _ => none
  | n + 1, o, f :: r => match leaves P n f.type, leavesF P n (o + P.cellsOf f.type) r with
    | some a, some b => if f.offset = o ∧ a.length = P.cellsOf f.type then some (a ++ b) else none
    | _, _ => none
end
def ScOk (B : Nat) : Lf → D → Prop
  | .bool, x => ∃ b, x = .bool b
  | .int k, x => ∃ n, x = .int k n ∧ k.min ≤ n ∧ n ≤ k.max
  | .str, x => ∃ s, x = .str s ∧ s.length ≤ B
def LeafOk (B : Nat) : Leaf → A → Prop
  | .sc l, x => ∃ d, x = .d d ∧ ScOk B l d
  | .strs, x => ∃ l, x = .d (.strs l) ∧ l.length ≤ B ∧ ∀ s ∈ l, s.length ≤ B
  | .ints k, x => ∃ l, x = .d (.ints k l) ∧ l.length ≤ B ∧ ∀ z ∈ l, k.min ≤ z ∧ z ≤ k.max
  | .recs ls, x => ∃ n c, x = .d (.recs ls.length n c) ∧ n ≤ B ∧ ∀ (i j : Nat) l, i < n → ls[j]? = some l → ScOk B l (c i j)
def LeavesOk (B : Nat) : List Leaf → List A → Prop
  | [], [] => True
  | l :: r, x :: s => LeafOk B l x ∧ LeavesOk B r s
  | _, _ => False
theorem LeavesOk_app {B : Nat} : ∀ {a : List Leaf} {x : List A} {b : List Leaf} {y : List A}, LeavesOk B a x → LeavesOk B b y → LeavesOk B (a ++ b) (x ++ y)
  | [], [], _, _, _, h => h
  | _ :: _, _ :: _, _, _, h, h' => ⟨h.1, LeavesOk_app h.2 h'⟩
  | [], _ :: _, _, _, h, _ => h.elim
  | _ :: _, [], _, _, h, _ => h.elim
theorem LeavesOk_len {B : Nat} : ∀ {a : List Leaf} {x : List A}, LeavesOk B a x → x.length = a.length
  | [], [], _ => rfl
  | _ :: _, _ :: _, h => congrArg (· + 1) (LeavesOk_len h.2)
  | [], _ :: _, h => h.elim
  | _ :: _, [], h => h.elim
theorem LeavesOk_sc {B : Nat} : ∀ {ls : List Leaf} {l : List Lf} {x : List A}, scOf ls = some l → LeavesOk B ls x → ∀ (j : Nat) q, l[j]? = some q → ∃ d, x[j]? = some (A.d d) ∧ ScOk B q d
  | [], l, x, h, _, j, q, hj => by simp [scOf] at h; subst h; simp at hj
  | .sc p :: r, l, x :: s, h, ho, j, q, hj => by
    simp only [scOf, Option.map_eq_some_iff] at h
    obtain ⟨l', h1, rfl⟩ := h
    cases j with
    | zero =>
      simp at hj; subst hj
      obtain ⟨d, rfl, hd⟩ := ho.1
      exact ⟨d, rfl, hd⟩
    | succ j => exact LeavesOk_sc h1 ho.2 j q (by simpa using hj)
  | .strs :: _, l, _, h, _, _, _, _ => by simp [scOf] at h
  | .ints _ :: _, l, _, h, _, _, _, _ => by simp [scOf] at h
  | .recs _ :: _, l, _, h, _, _, _, _ => by simp [scOf] at h
  | _ :: _, _, [], _, ho, _, _, _ => ho.elim
theorem scOf_len : ∀ {ls : List Leaf} {l : List Lf}, scOf ls = some l → l.length = ls.length
  | [], l, h => by simp [scOf] at h; subst h; rfl
  | .sc p :: r, l, h => by
    simp only [scOf, Option.map_eq_some_iff] at h
    obtain ⟨l', h1, rfl⟩ := h
    simp [scOf_len h1]
  | .strs :: _, l, h => by simp [scOf] at h
  | .ints _ :: _, l, h => by simp [scOf] at h
  | .recs _ :: _, l, h => by simp [scOf] at h
theorem RelL_app {ρ : Rho} {ok : Nat → Prop} {w : World} : ∀ {a : List A} {x : List Value} {b : List A} {y : List Value}, RelL ρ ok w a x → RelL ρ ok w b y → RelL ρ ok w (a ++ b) (x ++ y)
  | [], [], _, _, _, h => h
  | _ :: _, _ :: _, _, _, h, h' => ⟨h.1, RelL_app h.2 h'⟩
  | [], _ :: _, _, _, h, _ => h.elim
  | _ :: _, [], _, _, h, _ => h.elim
theorem RelL_at {ρ : Rho} {ok : Nat → Prop} {w : World} : ∀ {a : List A} {x : List Value}, RelL ρ ok w a x → ∀ (j : Nat) q, a[j]? = some q → ∃ v, x[j]? = some v ∧ Rel ρ ok w q v
  | [], [], _, j, q, h => by simp at h
  | _ :: _, v :: _, h, 0, q, hj => by simp at hj; subst hj; exact ⟨v, rfl, h.1⟩
  | _ :: _, _ :: _, h, j + 1, q, hj => by
    obtain ⟨v, h1, h2⟩ := RelL_at h.2 j q (by simpa using hj)
    exact ⟨v, by simpa using h1, h2⟩
  | [], _ :: _, h, _, _, _ => h.elim
  | _ :: _, [], h, _, _, _ => h.elim
theorem RelL_length {ρ : Rho} {ok : Nat → Prop} {w : World} : ∀ {a : List A} {x : List Value}, RelL ρ ok w a x → x.length = a.length
  | [], [], _ => rfl
  | _ :: _, _ :: _, h => congrArg (· + 1) (RelL_length h.2)
  | [], _ :: _, h => h.elim
  | _ :: _, [], h => h.elim
/-- A measure that grows with what is read. -/
structure IsBulk {H : Type} (bk : DataW H → Nat) : Prop where
  str : ∀ s, s.length ≤ bk (.lit (.string s))
  len : ∀ e r, e.length ≤ bk (.slice e r)
  elem : ∀ e r d, d ∈ e → bk d ≤ bk (.slice e r)
  part : ∀ e d, d ∈ e → bk d ≤ bk (.agg e)
def inW (w : World) (b : Nat) : Prop := b < w.heap.size
theorem cell_lt {w : World} {a : Addr} {v : Value} (h : w.cell? a = some v) : a.block < w.heap.size := by
  unfold World.cell? at h
  cases hb : w.heap[a.block]? with
  | none => rw [hb] at h; simp at h
  | some o => exact (Array.getElem?_eq_some_iff.1 hb).1
section
variable {H : Type} {enc : TypeId × Value → H} {P : Program} {w : World} {base : Nat} {spare : Nat → Bool} {held : Bool} {bk : DataW H → Nat} {ρ : Rho} {B : Nat}
theorem wf_int {k : IntKind} {n : Int} (h : (Lit.int k n).wf = true) : k.min ≤ n ∧ n ≤ k.max := by
  simpa [Lit.wf] using h
theorem rd_row {e : TypeId} {l : List Lf} {q : Leaf} {a : Addr} {len cap m f : Nat} {Dt : Nat → DataW H} {Pl : Nat → List MemPlace} {hq : leafOf l = some q} (hl : l.length = P.cellsOf e) (hlen : len ≤ cap) (hB : len ≤ B) (hB2 : B ≤ 281474976710656) (hlm : len ≤ m)
    (h : ∀ i, i < m → ∃ cs', w.cells? base (a.add (i * P.cellsOf e)) (P.cellsOf e) = some cs' ∧ DataW.trod enc P w base spare held f e cs' = some (Dt i, Pl i))
    (ih : ∀ (i : Nat) (cs' : List Value), i < len → DataW.trod enc P w base spare held f e cs' = some (Dt i, Pl i) → ∀ (j : Nat) q, l[j]? = some q → ∃ d v, cs'[j]? = some v ∧ ScOk B q d ∧ RD (inW w) w d v) (hSB : B ≤ SB) :
    ∃ x, LeafOk B q x ∧ Rel ρ (inW w) w x (.slice (some a) len cap) := by
  have hne : 0 < l.length := by cases l <;> simp [leafOf] at hq ⊢
  have key : ∀ i, i < len → ∃ cs' : List D, cs'.length = l.length ∧ ∀ (j : Nat) q, l[j]? = some q → ∃ u, w.cell? (a.add (i * l.length + j)) = some u ∧ ScOk B q (cs'.getD j (.strs [])) ∧ RD (inW w) w (cs'.getD j (.strs [])) u := fun i hi => by
    obtain ⟨cs', h1, h2⟩ := h i (by omega)
    have h3 := ih i cs' hi h2
    obtain ⟨_, c1, c2⟩ := World.cells?_some h1
    have h4 : ∀ j, j < l.length → ∃ d, ∀ q, l[j]? = some q → ∃ v, cs'[j]? = some v ∧ ScOk B q d ∧ RD (inW w) w d v := fun j hj => by
      obtain ⟨d, v, e1, e2, e3⟩ := h3 j _ (List.getElem?_eq_getElem hj)
      exact ⟨d, fun q hq => by rw [List.getElem?_eq_getElem hj] at hq; simp only [Option.some.injEq] at hq; subst hq; exact ⟨v, e1, e2, e3⟩⟩
    haveI : Inhabited D := ⟨.strs []⟩
    obtain ⟨g, hg⟩ := choose_lt h4
    refine ⟨(List.range l.length).map g, by simp, fun j q hj => ?_⟩
    have hj' : j < l.length := (List.getElem?_eq_some_iff.1 hj).1
    obtain ⟨v, e1, e2, e3⟩ := hg j hj' q hj
    have : ((List.range l.length).map g).getD j (.strs []) = g j := by simp [List.getD, hj']
    rw [this]
    refine ⟨v, ?_, e2, e3⟩
    have := c2 j (by omega)
    rw [Addr.add_add, ← hl] at this
    rw [this, e1]
  haveI : Inhabited (List D) := ⟨[]⟩
  obtain ⟨g, hg⟩ := choose_lt (α := List D) key
  have hrow : SlR (inW w) w len l.length (fun i j u => RD (inW w) w ((g i).getD j (.strs [])) u) (.slice (some a) len cap) := by
    refine ⟨some a, cap, rfl, hlen, by omega, fun h0 => ⟨a, rfl, ?_, fun i j hi hj => ?_⟩⟩
    · obtain ⟨u, h1, _⟩ := (hg 0 h0).2 0 _ (List.getElem?_eq_getElem hne)
      have := cell_lt h1
      have ha : (a.add (0 * l.length + 0)).block = a.block := by simp [Addr.add]
      rw [ha] at this; exact this
    · obtain ⟨u, h1, _, h2⟩ := (hg i hi).2 j _ (List.getElem?_eq_getElem hj)
      exact ⟨u, h1, h2⟩
  have hsc : ∀ (i j : Nat) q, i < len → l[j]? = some q → ScOk B q ((g i).getD j (.strs [])) := fun i j q hi hj => by
    obtain ⟨u, _, h1, _⟩ := (hg i hi).2 j q hj
    exact h1
  unfold leafOf at hq
  split at hq
  · simp at hq
  · simp at hq; subst hq
    have h1 : ∀ i, i < len → ∃ s, (g i).getD 0 (.strs []) = .str s ∧ s.length ≤ B := fun i hi => hsc i 0 .str hi rfl
    obtain ⟨S, hS⟩ := choose_lt h1
    refine ⟨.d (.strs ((List.range len).map S)), ⟨_, rfl, by simpa using hB, fun s hs => ?_⟩, ?_⟩
    · obtain ⟨i, hi, rfl⟩ := List.mem_map.1 hs
      exact (hS i (by simpa using hi)).2
    · show SlR _ _ _ _ _ _
      simp only [List.length_map, List.length_range]
      obtain ⟨a', cp, e1, e2, e3, e4⟩ := hrow
      refine ⟨a', cp, e1, e2, e3, fun h0 => ?_⟩
      obtain ⟨ad, f1, f2, f3⟩ := e4 h0
      refine ⟨ad, f1, f2, fun i j hi hj => ?_⟩
      obtain rfl : j = 0 := by omega
      obtain ⟨u, k1, k2⟩ := f3 i 0 hi (by simp)
      rw [(hS i hi).1] at k2
      have : ((List.range len).map S).getD i [] = S i := by simp [List.getD, hi]
      refine ⟨u, k1, ?_⟩
      simp only [this]
      exact k2
  · rename_i k
    simp at hq; subst hq
    have h1 : ∀ i, i < len → ∃ s, (g i).getD 0 (.strs []) = .int k s ∧ k.min ≤ s ∧ s ≤ k.max := fun i hi => hsc i 0 (.int k) hi rfl
    obtain ⟨S, hS⟩ := choose_lt h1
    refine ⟨.d (.ints k ((List.range len).map S)), ⟨_, rfl, by simpa using hB, fun s hs => ?_⟩, ?_⟩
    · obtain ⟨i, hi, rfl⟩ := List.mem_map.1 hs
      exact (hS i (by simpa using hi)).2
    · show SlR _ _ _ _ _ _
      simp only [List.length_map, List.length_range]
      obtain ⟨a', cp, e1, e2, e3, e4⟩ := hrow
      refine ⟨a', cp, e1, e2, e3, fun h0 => ?_⟩
      obtain ⟨ad, f1, f2, f3⟩ := e4 h0
      refine ⟨ad, f1, f2, fun i j hi hj => ?_⟩
      obtain rfl : j = 0 := by omega
      obtain ⟨u, k1, k2⟩ := f3 i 0 hi (by simp)
      rw [(hS i hi).1] at k2
      have : ((List.range len).map S).getD i 0 = S i := by simp [List.getD, hi]
      refine ⟨u, k1, ?_⟩
      simp only [this]
      exact k2
  · simp at hq; subst hq
    exact ⟨.d (.recs l.length len fun i j => (g i).getD j (.strs [])), ⟨len, _, rfl, hB, hsc⟩, hrow⟩
theorem rd_nil {l : List Lf} {q : Leaf} (hq : leafOf l = some q) : ∃ x, LeafOk B q x ∧ Rel ρ (inW w) w x (.slice none 0 0) := by
  unfold leafOf at hq
  split at hq
  · simp at hq
  · simp at hq; subst hq; exact ⟨.d (.strs []), ⟨[], rfl, by simp, by simp⟩, nil_data (x := .strs []) rfl rfl⟩
  · rename_i k; simp at hq; subst hq; exact ⟨.d (.ints k []), ⟨[], rfl, by simp, by simp⟩, nil_data (x := .ints k []) rfl rfl⟩
  · simp at hq; subst hq; exact ⟨.d (.recs l.length 0 fun _ _ => .strs []), ⟨0, _, rfl, by simp, fun i j q hi => by omega⟩, nil_data (x := .recs l.length 0 fun _ _ => .strs []) rfl rfl⟩
theorem trod_arr {t e : TypeId} {k f : Nat} {cs : List Value} {x : DataW H × List MemPlace} (ht : P.underlying t = some (.array k e)) (h : DataW.trod enc P w base spare held f t cs = some x) :
    ∃ (xs : List (DataW H × List MemPlace)) (n : Nat), x = (.agg (xs.map (·.1)), xs.flatMap (·.2)) ∧ cs.length = P.cellsOf t ∧ xs.length = k ∧
      ∀ i, i < k → DataW.trod enc P w base spare held n e ((cs.drop (i * P.cellsOf e)).take (P.cellsOf e)) = xs[i]? := by
  cases f with
  | zero => simp [DataW.trod] at h
  | succ n =>
    simp only [DataW.trod, ht] at h
    split at h
    · rename_i hl
      obtain ⟨xs, hm, hx⟩ := Option.map_eq_some_iff.1 h
      have hxl : xs.length = k := by simpa using Lib.mapM_length hm
      refine ⟨xs, n, hx.symm, hl, hxl, fun i hi => ?_⟩
      obtain ⟨b, hb, hf⟩ := Lib.mapM_at hm i i (by simp [hi])
      rw [hb, hf]
    · simp at h
theorem arr_ok {ls : List Leaf} {c : Nat} {cs : List Value} (k : Nat) (hl : k * c ≤ cs.length) (h : ∀ i, i < k → ∃ zs, LeavesOk B ls zs ∧ RelL ρ (inW w) w zs ((cs.drop (i * c)).take c)) :
    ∃ zs, LeavesOk B (List.replicate k ls).flatten zs ∧ RelL ρ (inW w) w zs (cs.take (k * c)) := by
  induction k with
  | zero => simp only [Nat.zero_mul, List.take_zero, List.replicate_zero, List.flatten_nil]; exact ⟨[], trivial, trivial⟩
  | succ k ih =>
    obtain ⟨zs, h1, h2⟩ := ih (by rw [Nat.succ_mul] at hl; omega) fun i hi => h i (by omega)
    obtain ⟨bs, h3, h4⟩ := h k (by omega)
    refine ⟨zs ++ bs, ?_, ?_⟩
    · rw [List.replicate_succ', List.flatten_append]; simpa using LeavesOk_app h1 h3
    · rw [Nat.succ_mul, List.take_add]; exact RelL_app h2 h4
/-- WHAT IS READ, AS DATA. -/
theorem leaves_ok (hbk : IsBulk bk) (hB2 : B ≤ 281474976710656) : ∀ (n : Nat),
    (∀ {t : TypeId} {ls : List Leaf}, leaves P n t = some ls → ∀ {f : Nat} {cs : List Value} {x : DataW H × List MemPlace}, DataW.trod enc P w base spare held f t cs = some x → bk x.1 ≤ B → ∃ zs, LeavesOk B ls zs ∧ RelL ρ (inW w) w zs cs) ∧
    (∀ {o : Nat} {fs : List Field} {ls : List Leaf}, leavesF P n o fs = some ls → ∀ {f : Nat} {cs : List Value} {xs : List (DataW H × List MemPlace)}, (∀ (i : Nat) (g : Field), fs[i]? = some g → DataW.trod enc P w base spare held f g.type ((cs.drop g.offset).take (P.cellsOf g.type)) = xs[i]?) → xs.length = fs.length → (∀ x ∈ xs, bk x.1 ≤ B) → ls.length = (cs.drop o).length →
      ∃ zs, LeavesOk B ls zs ∧ RelL ρ (inW w) w zs (cs.drop o))
  | 0 => ⟨fun h => by simp [leaves] at h, fun {o fs ls} h => by
      cases fs with
      | nil => 
        simp [leavesF] at h; subst h
        intro f cs xs _ _ _ hl
        have : cs.drop o = [] := List.eq_nil_of_length_eq_zero (by simpa using hl.symm)
        rw [this]; exact ⟨[], trivial, trivial⟩
      | cons f r => simp [leavesF] at h⟩
  | n + 1 => by
    obtain ⟨ih1, ih2⟩ := leaves_ok hbk hB2 n
    have hSB : B ≤ SB := by unfold SB; omega
    refine ⟨fun {t ls} h {f cs x} ht hb => ?_, fun {o fs ls} h {f cs xs} hx hlen hb hl => ?_⟩
    · unfold leaves at h
      split at h
      · rename_i hu
        obtain ⟨b, rfl, rfl⟩ := DataW.trod_bool hu ht
        simp at h; subst h
        exact ⟨[.d (.bool b)], ⟨⟨_, rfl, _, rfl⟩, trivial⟩, rfl, trivial⟩
      · rename_i k hu
        obtain ⟨z, rfl, rfl, hw⟩ := DataW.trod_int hu ht
        simp at h; subst h
        exact ⟨[.d (.int k z)], ⟨⟨_, rfl, _, rfl, wf_int hw⟩, trivial⟩, rfl, trivial⟩
      · rename_i hu
        obtain ⟨s, rfl, rfl, hw⟩ := DataW.trod_string hu ht
        simp at h; subst h
        have h1 : s.data.toList.length ≤ B := Nat.le_trans (hbk.str _) hb
        exact ⟨[.d (.str s.data.toList)], ⟨⟨_, rfl, _, rfl, h1⟩, trivial⟩, ⟨by simp [strV], by omega⟩, trivial⟩
      · rename_i e hu
        split at h
        case h_2 => simp at h
        rename_i ls' hls
        split at h
        case h_2 => simp at h
        rename_i l hsc
        split at h
        case isFalse => simp at h
        rename_i hce
        rw [Option.map_eq_some_iff] at h
        obtain ⟨q, hq, rfl⟩ := h
        rcases open_slice hu ht with ⟨rfl, rfl⟩ | ⟨a, len, cap, m, f', Dt, Pl, rfl, hba, hlc, hcm, hm, rfl, hx⟩
        · obtain ⟨y, h1, h2⟩ := rd_nil (B := B) (w := w) (ρ := ρ) hq
          exact ⟨[y], ⟨h1, trivial⟩, h2, trivial⟩
        · have hlm : len ≤ m := by rw [hm]; split <;> omega
          have hlB : len ≤ B := by have := hbk.len ((List.range len).map Dt) ((List.range (m - len)).map fun j => Dt (len + j)); simp only [List.length_map, List.length_range] at this; exact Nat.le_trans this hb
          obtain ⟨y, h1, h2⟩ := rd_row (B := B) (ρ := ρ) (hq := hq) hce hlc hlB hB2 hlm hx (fun i cs' hi hcs j q' hj => by
            have hbi : bk (Dt i) ≤ B := Nat.le_trans (hbk.elem _ _ _ (List.mem_map.2 ⟨i, by simpa using hi, rfl⟩)) hb
            obtain ⟨zs, e1, e2⟩ := ih1 hls hcs hbi
            obtain ⟨d, g1, g2⟩ := LeavesOk_sc hsc e1 j q' hj
            obtain ⟨v, k1, k2⟩ := RelL_at e2 j _ g1
            exact ⟨d, v, k1, g2, k2⟩) hSB
          exact ⟨[y], ⟨h1, trivial⟩, h2, trivial⟩
      · rename_i fs hu
        split at h
        case h_2 => simp at h
        rename_i ls' hls
        split at h
        case isFalse => simp at h
        rename_i hce
        simp at h; subst h
        obtain ⟨xs, f', rfl, rfl, hcl, hxl, hf⟩ := DataW.trod_struct hu ht
        have := ih2 hls (cs := cs) (xs := xs) (f := f') (fun i g hg => hf i g (by simpa using hg)) (by simpa using hxl) (fun y hy => Nat.le_trans (hbk.part _ _ (List.mem_map.2 ⟨y, hy, rfl⟩)) hb) (by simpa [hcl] using hce)
        simpa using this
      · rename_i k e hu
        split at h
        case h_2 => simp at h
        rename_i ls' hls
        split at h
        case isFalse => simp at h
        rename_i hce
        simp at h; subst h
        obtain ⟨xs, f', rfl, hcl, hxl, hf⟩ := trod_arr hu ht
        have := arr_ok (B := B) (ρ := ρ) (w := w) (ls := ls') (c := P.cellsOf e) (cs := cs) k (by rw [hce.2, hcl]; exact Nat.le_refl _) (fun i hi => by
          have h1 := hf i hi
          rw [List.getElem?_eq_getElem (by omega)] at h1
          exact ih1 hls h1 (Nat.le_trans (hbk.part _ _ (List.mem_map.2 ⟨_, List.getElem_mem (by omega), rfl⟩)) hb))
        rwa [hce.2, ← hcl, List.take_length] at this
      · simp at h
    · cases fs with
      | nil =>
        simp [leavesF] at h; subst h
        have : cs.drop o = [] := List.eq_nil_of_length_eq_zero (by simpa using hl.symm)
        rw [this]; exact ⟨[], trivial, trivial⟩
      | cons g r =>
        unfold leavesF at h
        split at h
        case h_2 => simp at h
        rename_i la lb ha hb'
        split at h
        case isFalse => simp at h
        rename_i hc
        simp at h; subst h
        match xs, hlen with
        | x :: xs, hlen =>
          have h0 := hx 0 g rfl
          simp only [List.getElem?_cons_zero] at h0
          rw [hc.1] at h0
          obtain ⟨zs, e1, e2⟩ := ih1 ha h0 (hb x (by simp))
          obtain ⟨bs, e3, e4⟩ := ih2 hb' (cs := cs) (xs := xs) (f := f) (fun i g' hg => by
            have := hx (i + 1) g' (by simpa using hg)
            simpa using this) (by simpa using hlen) (fun y hy => hb y (by simp [hy])) (by
              simp only [List.length_append, List.length_drop] at hl ⊢; omega)
          refine ⟨zs ++ bs, LeavesOk_app e1 e3, ?_⟩
          have := RelL_app e2 e4
          rwa [← List.drop_drop, List.take_append_drop] at this
end
theorem LeavesOk_nil {B : Nat} {l : List A} : LeavesOk B [] l ↔ l = [] := by cases l <;> simp [LeavesOk]
theorem LeavesOk_cons {B : Nat} {q : Leaf} {r : List Leaf} {l : List A} : LeavesOk B (q :: r) l ↔ ∃ x s, l = x :: s ∧ LeafOk B q x ∧ LeavesOk B r s := by
  cases l with
  | nil => simp [LeavesOk]
  | cons x s => exact ⟨fun h => ⟨x, s, rfl, h.1, h.2⟩, fun ⟨_, _, e, h1, h2⟩ => by obtain ⟨rfl, rfl⟩ := List.cons.inj e; exact ⟨h1, h2⟩⟩
theorem leaf_one {B : Nat} {ρ : Rho} {ok : Nat → Prop} {w : World} {q : Leaf} {x : A} {v : Value} (h : LeafOk B q x) (hr : Rel ρ ok w x v) : one v = true := by
  have sl : ∀ d : D, d.isSl = true → RD ok w d v → one v = true := fun d hd hr => by
    rw [RD_sl hd] at hr
    obtain ⟨a, cp, rfl, _⟩ := hr
    rfl
  cases q with
  | sc l =>
    obtain ⟨d, rfl, h⟩ := h
    cases l with
    | bool => obtain ⟨b, rfl⟩ := h; obtain rfl := hr; rfl
    | int k => obtain ⟨b, rfl, _⟩ := h; obtain rfl := hr; rfl
    | str => obtain ⟨b, rfl, _⟩ := h; obtain ⟨rfl, _⟩ := hr; rfl
  | strs => obtain ⟨l, rfl, _⟩ := h; exact sl _ rfl hr
  | ints k => obtain ⟨l, rfl, _⟩ := h; exact sl _ rfl hr
  | recs k => obtain ⟨n, c, rfl, _⟩ := h; exact sl _ rfl hr
theorem leaves_one {B : Nat} {ρ : Rho} {ok : Nat → Prop} {w : World} : ∀ {ls : List Leaf} {l : List A} {vs : List Value}, LeavesOk B ls l → RelL ρ ok w l vs → ∀ u ∈ vs, one u = true
  | [], [], [], _, _ => by simp
  | _ :: _, _ :: _, _ :: _, h, hr => fun u hu => by
    rcases List.mem_cons.1 hu with rfl | hu
    · exact leaf_one h.1 hr.1
    · exact leaves_one h.2 hr.2 u hu
  | [], _ :: _, _, h, _ => h.elim
  | _ :: _, [], _, h, _ => h.elim
  | _, [], _ :: _, _, hr => hr.elim
  | _, _ :: _, [], _, hr => hr.elim
end Ax
