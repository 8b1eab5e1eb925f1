/- MetaBack: the law. -/
import Derived.Test.YtfohmbookjnkgaaGreatDoorM11
import Derived.Test.YtfohmbookjnkgaaGreatDoorAxG
import Derived.Test.YtfohmbookjnkgaaGreatDoorCards
import Derived.Test.YtfohmbookjnkgaaGreatDoorTie
import Derived.WalkKit
import Derived.ProofKit
import Derived.OpenShut
import Derived.Deep.DeepHandedRow
import Derived.Stop.LaidErr
import Derived.Lib.LaidTab
import Derived.WideKeyArgs
import Derived.Below
set_option linter.unusedVariables false
set_option maxRecDepth 100000
set_option maxHeartbeats 4000000
namespace Go.Proofs.YtfohmbookjnkgaaGreatDoor.Mx
open Go Go.ChangeShapes Go.WideShapes Go.ChangeAt Go.RowKit Ax
theorem bulk_one {H : Type} (d : DataW H) : 1 ≤ Rows.uptoBulk d := by
  cases d with
  | lit l => cases l <;> simp [Rows.uptoBulk]
  | nil => simp [Rows.uptoBulk]
  | ptr d => simp [Rows.uptoBulk]
  | slice elems spare => simp [Rows.uptoBulk]
  | agg parts => simp [Rows.uptoBulk]
  | iface t d => simp [Rows.uptoBulk]
  | map entries => simp [Rows.uptoBulk]
  | held h => simp [Rows.uptoBulk]
theorem bulk_part {H : Type} {d : DataW H} {l : List (DataW H)} (h : d ∈ l) : Rows.uptoBulk d ≤ Rows.uptoBulkAll l := by
  induction l with
  | nil => cases h
  | cons x r ih =>
    simp only [Rows.uptoBulkAll]
    cases List.mem_cons.1 h with
    | inl e => subst e; omega
    | inr e => have := ih e; omega
theorem bulk_len {H : Type} (l : List (DataW H)) : l.length ≤ Rows.uptoBulkAll l := by
  induction l with
  | nil => simp [Rows.uptoBulkAll]
  | cons x r ih => have := bulk_one x; simp only [Rows.uptoBulkAll, List.length_cons]; omega
theorem isBulk {H : Type} : IsBulk (Rows.uptoBulk (H := H)) where
  str s := by simp [Rows.uptoBulk]
  len e r := by have := bulk_len e; simp only [Rows.uptoBulk]; omega
  elem e r d h := by have := bulk_part h; simp only [Rows.uptoBulk]; omega
  part e d h := by have := bulk_part h; simp only [Rows.uptoBulk]; omega
theorem bulk_bound {H : Type} {l : List (DataW H)} (hk : Rows.uptoSmall H l = true) : Rows.uptoBulkAll l ≤ 1048576 := by
  simpa [Rows.uptoSmall] using hk
theorem ownKnob0 : ownKnob Tryz.prog.godebug = none := by kernel_rfl
theorem gTab10 : Tryz.prog.globalNamed "internal/strconv.uint64pow10" = some 2 := by kernel_rfl
theorem leaves30 : leaves Tryz.prog 20 30 = some [.sc (.int .i64), .sc (.int .i64), .sc (.int .i64), .strs, .sc (.int .i64), .strs, .sc (.int .i64), .strs, .sc (.int .i64), .strs, .sc (.int .i64), .strs, .sc (.int .i64), .sc .str, .sc .str, .recs [.int .i64, .int .i64, .str], .sc .str, .sc (.int .i64), .sc .str, .sc (.int .i64), .sc .str] := by kernel_rfl
theorem leaves31 : leaves Tryz.prog 20 31 = some [.sc (.int .u16)] := by kernel_rfl
theorem gType10 : (Tryz.prog.globals[2]?).map (·.type) = some 227 := by kernel_rfl
theorem cells227 : Tryz.prog.cellsOf 227 = 20 := by kernel_rfl
theorem cells104 : Tryz.prog.cellsOf 104 = 1 := by kernel_rfl
theorem enter_all (f : Nat) (fn : Func) (h : Tryz.prog.funcs[f]? = some fn) : True := trivial
/-- What a row's list gives: the table, and the world is good. -/
theorem good_of {W : World} {n1 n2 : String} {d1 d2 : DataW Unit} (h : laidMet Tryz.prog [(n1, d1), (n2, d2), ("internal/strconv.uint64pow10", Rows.laid_internal_strconv_uint64pow10)] W) : Ax.Good (fun _ => ⟨none, 0, 0⟩) 0 (inW W) [] W := by
  have h3 := laidMet.tail (laidMet.tail h)
  have ht : Lib.TabIs Tryz.prog W "internal/strconv.uint64pow10" .u64 Lib.pow10Tab := Lib.tabIs_of_head (rest := []) gTab10 gType10 Tryz.underlying227 Tryz.underlying104 cells104 cells227 h3
  unfold Lib.TabIs World.var? at ht
  rw [gTab10] at ht
  simp only [Option.bind_some] at ht
  split at ht
  case h_2 => simp at ht
  rename_i cs t fz hb
  simp only [Option.some.injEq] at ht
  refine ⟨fun b p hp => ?_, fun n o h => by simp [hget] at h, fun ρ1 _ => ⟨fun n m o o' b h1 => by simp [hget] at h1, fun n o b h1 => by simp [hget] at h1, fun n o b h1 => by simp [hget] at h1, fun b hk => hk, fun n o h1 => by simp [hget] at h1⟩⟩
  unfold glob at hp
  split at hp
  · rename_i e
    simp only [Option.some.injEq] at hp
    subst e; subst hp
    exact ⟨(Array.getElem?_eq_some_iff.1 hb).1, cs, t, fz, hb, ht⟩
  · simp at hp
def layAt (b : Nat) (cs : Array Value) (h : Array Obj) : Array Obj := h.modify b fun
  | .cells _ t frozen => .cells cs t frozen
  | o => o
noncomputable def laidWorld (os : Os) : World :=
  { World.holding Tryz.prog os ⟨#[], #[], []⟩ with heap := layAt 7 #[.int .u8 0, .int .u8 1, .int .u8 56, .int .u8 2, .int .u8 57, .int .u8 49, .int .u8 28, .int .u8 3, .int .u8 61, .int .u8 58, .int .u8 42, .int .u8 50, .int .u8 38, .int .u8 29, .int .u8 17, .int .u8 4, .int .u8 62, .int .u8 47, .int .u8 59, .int .u8 36, .int .u8 45, .int .u8 43, .int .u8 51, .int .u8 22, .int .u8 53, .int .u8 39, .int .u8 33, .int .u8 30, .int .u8 24, .int .u8 18, .int .u8 12, .int .u8 5, .int .u8 63, .int .u8 55, .int .u8 48, .int .u8 27, .int .u8 60, .int .u8 41, .int .u8 37, .int .u8 16, .int .u8 46, .int .u8 35, .int .u8 44, .int .u8 21, .int .u8 52, .int .u8 32, .int .u8 23, .int .u8 11, .int .u8 54, .int .u8 26, .int .u8 40, .int .u8 15, .int .u8 34, .int .u8 20, .int .u8 31, .int .u8 10, .int .u8 25, .int .u8 14, .int .u8 19, .int .u8 9, .int .u8 13, .int .u8 8, .int .u8 7, .int .u8 6] (layAt 6 #[.int .u8 0, .int .u8 1, .int .u8 28, .int .u8 2, .int .u8 29, .int .u8 14, .int .u8 24, .int .u8 3, .int .u8 30, .int .u8 22, .int .u8 20, .int .u8 15, .int .u8 25, .int .u8 17, .int .u8 4, .int .u8 8, .int .u8 31, .int .u8 27, .int .u8 13, .int .u8 23, .int .u8 21, .int .u8 19, .int .u8 16, .int .u8 7, .int .u8 26, .int .u8 12, .int .u8 18, .int .u8 6, .int .u8 11, .int .u8 5, .int .u8 10, .int .u8 9] (layAt 2 #[.int .u64 1, .int .u64 10, .int .u64 100, .int .u64 1000, .int .u64 10000, .int .u64 100000, .int .u64 1000000, .int .u64 10000000, .int .u64 100000000, .int .u64 1000000000, .int .u64 10000000000, .int .u64 100000000000, .int .u64 1000000000000, .int .u64 10000000000000, .int .u64 100000000000000, .int .u64 1000000000000000, .int .u64 10000000000000000, .int .u64 100000000000000000, .int .u64 1000000000000000000, .int .u64 10000000000000000000] (World.holding Tryz.prog os ⟨#[], #[], []⟩).heap)) }
theorem laidOut : laidOutB Tryz.prog = true := by kernel_rfl
theorem stays_all {H : Type} {enc : TypeId × Value → H} {W W' : World} {sp : Nat → Bool} : ∀ {ts : List TypeId} {vs : List Value} {ds : List (DataW H)} {ps : List MemPlace}, DataW.TrodAll enc Tryz.prog W 0 (fun _ => true) true ts vs ds ps →
    (∀ t ∈ ts, Tryz.prog.readableRec t = true ∧ t < Tryz.prog.types.size) → (∀ p ∈ ps, W.sameAt W' p) → (∀ p ∈ ps, sp p.block = true) → DataW.TrodAll enc Tryz.prog W' 0 sp true ts vs ds ps
  | [], _, _, _, h, _, _, _ => by
    obtain ⟨rfl, rfl, rfl⟩ := trodAll_nil h
    exact trodAll_mk0
  | t :: ts, _, _, _, h, hr, hs, hsp => by
    obtain ⟨v, vs1, d, ds1, a, b, rfl, rfl, rfl, h1, h2⟩ := trodAll_cons h
    have ht := hr t (by simp)
    exact ⟨a, b, Go.WideElems.Trod_stays laidOut ht.1 ht.2 h1 (fun p hp => hs p (by simp [hp])) (fun p hp => hsp p (by simp [hp])), stays_all h2 (fun t h => hr t (by simp [h])) (fun p hp => hs p (by simp [hp])) (fun p hp => hsp p (by simp [hp])), rfl⟩
/-- WHERE THE CALL ANSWERS true AND MEMORY ONLY GREW: what the rows ask. -/
theorem post_true {H : Type} {enc : TypeId × Value → H} {f : Func} {s : ChangeSpec} {fresh handsOn again : Bool} {W W' : World} {args : Array Value} {ds gs : List (DataW H)} {before : List MemPlace} (hv : s.vars = []) (hr : f.resultTypes = #[4])
    (hts : ∀ t ∈ f.params.toList, Tryz.prog.readableRec t = true ∧ t < Tryz.prog.types.size) (hfn : s.fn H ds = ⟨[.lit (.bool true)], ds, []⟩)
    (hW : DataW.Whole enc Tryz.prog f.params.toList s.vars false W args.toList ds gs before) (hb : Below W.heap.size W W') : s.post enc Tryz.prog f false fresh handsOn again W args (.bool true) W' := by
  have hlt := hW.lt
  have hW0 := hW
  obtain ⟨p, q, hA, hV, rfl, hfz, hnd⟩ := hW
  rw [hv] at hV
  obtain ⟨rfl, rfl⟩ := trodVars_none hV
  simp only [List.append_nil] at hlt hfz hW0
  have hsame : ∀ x ∈ p, W.sameAt W' x := fun x hx => hb.same (hlt x hx)
  have hres : ∀ (b : Nat) (sp : Nat → Bool) (hd : Bool), DataW.TrodAll enc Tryz.prog W' b sp hd f.resultTypes.toList ((Value.bool true).resultList f.resultTypes.size) [.lit (.bool true)] [] := fun b sp hd => by
    rw [hr]
    exact trodAll_cons_mk (shut_bool Tryz.underlying4 _) trodAll_mk0
  have hargs : ∀ sp : Nat → Bool, (∀ x ∈ p, sp x.block = true) → DataW.TrodAll enc Tryz.prog W' 0 sp true f.params.toList args.toList ds p := fun sp hsp => stays_all hA hts hsame hsp
  have hold : ∀ x ∈ p, (fun b => decide (b < W.heap.size)) x.block = true := fun x hx => by simpa using hlt x hx
  refine ⟨ds, [], p, [], p, [], hW0, ?_, ?_, ?_, hb.frame _, fun _ => ?_⟩
  · rw [List.append_nil, hfn]; exact hres _ _ _
  · rw [List.append_nil, hfn]; exact hargs _ hold
  · rw [List.append_nil, hfn, hv]; rfl
  · refine ⟨ok_one hr rfl (okWide_bool_mk Tryz.underlying4 _), [.lit (.bool true)] ++ ds, [], p, ⟨p, [], ?_, by rw [hv]; rfl, by simp, ?_, fun h => by cases h⟩, fun x hx _ => hx⟩
    · exact trodAll_append (hargs _ (fun _ _ => rfl)) (hres 0 (fun _ => true) true)
    · intro b off hp
      rw [hb.frozen (by exact hlt _ hp)]
      exact hfz b off hp
theorem enter3 : ∀ (vs : Array Value) (w : World), Go.Sem.run Tryz.prog (callFunc 3 vs) w = .ok (.enter 3 vs) w := enter_of Tryz.func3 (by kernel_rfl) (by kernel_rfl)
theorem contract3 (H : Type) (enc : TypeId × Value → H) (W : World) (base : Nat) (args : Array Value) (ds gs : List (DataW H)) (before : List MemPlace)
    (hval : ∀ (j : Nat) t v, Tryz.f3.params[j]? = some t → args[j]? = some v → Value.okWide Tryz.prog W .any base t v)
    (hW : DataW.Whole enc Tryz.prog Tryz.f3.params.toList Rows.metaBackSpec.vars false W args.toList ds gs before) (hk : Rows.uptoSmall H (ds ++ gs) = true) (hL : laidMetH Tryz.prog Rows.metaBackRow.laid W) :
    Calls Tryz.prog 3 args W fun e W' => ∃ v, e = .returned v ∧ Rows.metaBackSpec.post enc Tryz.prog Tryz.f3 false true false false W args v W' := by
  have hW' := hW
  obtain ⟨p, q, hA, hV, rfl, hfz, hnd⟩ := hW
  rw [Tryz.params3] at hA hval
  obtain ⟨v0, vs0, d0, ds0, p0, q0, hargs, rfl, rfl, h0, r0⟩ := trodAll_cons hA
  obtain ⟨v1, vs1, d1, ds1, p1, q1, rfl, rfl, rfl, h1, r1⟩ := trodAll_cons r0
  obtain ⟨rfl, rfl, rfl⟩ := trodAll_nil r1
  obtain rfl : args = #[v0, v1] := by cases args; simp_all
  obtain ⟨rfl, rfl⟩ := trodVars_none hV
  have hB := bulk_bound hk
  simp only [List.append_nil, Rows.uptoBulkAll] at hB
  have G := good_of (show laidMet Tryz.prog _ W from hL)
  have hv0 := hval 0 30 v0 rfl rfl
  have hv1 := hval 1 31 v1 rfl rfl
  simp only [Value.okWide, Tryz.underlying30] at hv0
  obtain ⟨cs, rfl, hcs, _⟩ := hv0
  obtain ⟨f0, h0⟩ := h0
  obtain ⟨f1, h1'⟩ := id h1
  obtain ⟨z, rfl, rfl, _, hz⟩ := open_int Tryz.underlying31 hv1 h1
  obtain ⟨xs, a1, a2⟩ := (leaves_ok (P := Tryz.prog) (w := W) (ρ := fun _ => ⟨none, 0, 0⟩) (B := 1048576) isBulk (by decide) 20).1 leaves30 h0 (by simp only; omega)
  have hone := leaves_one a1 a2
  simp only [LeavesOk_cons, LeavesOk_nil, LeafOk, ScOk] at a1
  obtain ⟨_, _, rfl, ⟨_, rfl, kind, rfl, _, _⟩, ⟨_, _, rfl, ⟨_, rfl, ver, rfl, _, _⟩, ⟨_, _, rfl, ⟨_, rfl, exp, rfl, _, _⟩, ⟨_, _, rfl, ⟨r0, rfl, h_r0, _⟩, ⟨_, _, rfl, ⟨_, rfl, n0, rfl, _, _⟩, ⟨_, _, rfl, ⟨r1, rfl, h_r1, _⟩, ⟨_, _, rfl, ⟨_, rfl, n1, rfl, _, _⟩, ⟨_, _, rfl, ⟨r2, rfl, h_r2, _⟩, ⟨_, _, rfl, ⟨_, rfl, n2, rfl, _, _⟩, ⟨_, _, rfl, ⟨r3, rfl, h_r3, _⟩, ⟨_, _, rfl, ⟨_, rfl, n3, rfl, _, _⟩, ⟨_, _, rfl, ⟨wi, rfl, h_wi, _⟩, ⟨_, _, rfl, ⟨_, rfl, wn, rfl, _, _⟩, ⟨_, _, rfl, ⟨_, rfl, log, rfl, h_log⟩, ⟨_, _, rfl, ⟨_, rfl, org, rfl, h_org⟩, ⟨_, _, rfl, ⟨tgn, tgc, rfl, h_tg, h_tgc⟩, ⟨_, _, rfl, ⟨_, rfl, pO, rfl, h_pO⟩, ⟨_, _, rfl, ⟨_, rfl, pS, rfl, _, _⟩, ⟨_, _, rfl, ⟨_, rfl, pR, rfl, h_pR⟩, ⟨_, _, rfl, ⟨_, rfl, of_, rfl, _, _⟩, ⟨_, _, rfl, ⟨_, rfl, hash, rfl, h_hash⟩, rfl⟩⟩⟩⟩⟩⟩⟩⟩⟩⟩⟩⟩⟩⟩⟩⟩⟩⟩⟩⟩⟩ := a1
  have htg : tgOk tgn tgc := fun i j hi hj => by
    obtain ⟨x0, g0, _⟩ := h_tgc i 0 (.int .i64) hi rfl
    obtain ⟨x1, g1, _⟩ := h_tgc i 1 (.int .i64) hi rfl
    obtain ⟨x2, g2, _⟩ := h_tgc i 2 .str hi rfl
    have e : (tgOf tgn tgc).getD i tgD = (x0, x1, x2) := by simp [tgOf, List.getD, hi, g0, g1, g2, dI, dS]
    match j, hj with
    | 0, _ => simp only [tgC, e]; exact g0
    | 1, _ => simp only [tgC, e]; exact g1
    | 2, _ => simp only [tgC, e]; exact g2
  have hrel : RelL (fun _ => ⟨none, 0, 0⟩) (inW W) W [.agg [.d (.int .i64 kind), .d (.int .i64 ver), .d (.int .i64 exp), .d (.strs r0), .d (.int .i64 n0), .d (.strs r1), .d (.int .i64 n1), .d (.strs r2), .d (.int .i64 n2), .d (.strs r3), .d (.int .i64 n3), .d (.strs wi), .d (.int .i64 wn), .d (.str log), .d (.str org), .d (.recs 3 tgn tgc), .d (.str pO), .d (.int .i64 pS), .d (.str pR), .d (.int .i64 of_), .d (.str hash)], .d (.int .u16 z)] [.agg cs, .int .u16 z] := ⟨⟨cs, rfl, a2, hone⟩, rfl, trivial⟩
  obtain ⟨z1, z2⟩ := wf_int hz
  have z1 : 0 ≤ z := z1
  have z2 : z ≤ 65535 := z2
  obtain ⟨r, hr, hpre, hval⟩ : ∃ r, lend [.agg [.keep, .keep, .keep, .strs, .keep, .strs, .keep, .strs, .keep, .strs, .keep, .strs, .keep, .keep, .keep, .recs 3, .keep, .keep, .keep, .keep, .keep], .keep] L_metaback [.agg [.d (.int .i64 kind), .d (.int .i64 ver), .d (.int .i64 exp), .d (.strs r0), .d (.int .i64 n0), .d (.strs r1), .d (.int .i64 n1), .d (.strs r2), .d (.int .i64 n2), .d (.strs r3), .d (.int .i64 n3), .d (.strs wi), .d (.int .i64 wn), .d (.str log), .d (.str org), .d (.recs 3 tgn tgc), .d (.str pO), .d (.int .i64 pS), .d (.str pR), .d (.int .i64 of_), .d (.str hash)], .d (.int .u16 z)] [] 0 = some r ∧ r.pre ∧ r.val = .d (.bool true) := ⟨_, rfl, ⟨htg, by omega, by omega, by omega, by omega, by omega, by omega, by omega, by omega, z1, z2⟩, rfl⟩
  refine (calls_pure ct_metaback enter3 hr hpre (by rw [hval]; rfl) G (fun ρ' _ => RelL_bd 0 (fun m hm => by omega) _ _ rfl hrel)).mono fun e W' hh => ?_
  obtain ⟨v, ok', rfl, hv, hb⟩ := hh
  rw [hval] at hv
  obtain rfl := hv
  exact ⟨_, rfl, post_true rfl rfl (fun t ht => by
    rw [Tryz.params3] at ht
    simp only [List.mem_cons, List.mem_nil_iff, or_false] at ht
    rcases ht with rfl | rfl <;> exact ⟨by kernel_rfl, of_decide_eq_true (by kernel_rfl)⟩) rfl hW' hb⟩
theorem laid_met3 (os : Os) (args : Array Value) : laidMet Tryz.prog Rows.metaBackUptoRow.laid ((laidWorld os).forCall (fun _ _ => 0) ⟨#[], args, []⟩).memory :=
  laidMet_of_run' 8 (by kernel_rfl) (by kernel_rfl)
def args3 : Array Value := #[.agg #[.int .i64 0, .int .i64 0, .int .i64 0, .slice none 0 0, .int .i64 0, .slice none 0 0, .int .i64 0, .slice none 0 0, .int .i64 0, .slice none 0 0, .int .i64 0, .slice none 0 0, .int .i64 0, .string ⟨#[]⟩, .string ⟨#[]⟩, .slice none 0 0, .string ⟨#[]⟩, .int .i64 0, .string ⟨#[]⟩, .int .i64 0, .string ⟨#[]⟩], .int .u16 0]
def ds3 {H : Type} : List (DataW H) := [.agg [.lit (.int .i64 0), .lit (.int .i64 0), .lit (.int .i64 0), .agg [.agg [.nil, .lit (.int .i64 0)], .agg [.nil, .lit (.int .i64 0)], .agg [.nil, .lit (.int .i64 0)], .agg [.nil, .lit (.int .i64 0)]], .agg [.nil, .lit (.int .i64 0)], .lit (.string []), .lit (.string []), .nil, .agg [.lit (.string []), .lit (.int .i64 0), .lit (.string [])], .lit (.int .i64 0), .lit (.string [])], .lit (.int .u16 0)]
theorem reads3 (os : Os) {H : Type} (enc : TypeId × Value → H) : ∃ places, DataW.whole enc Tryz.prog ((laidWorld os).forCall (fun _ _ => 0) ⟨#[], args3, []⟩).memory Tryz.f3.params.toList Rows.metaBackSpec.vars false args3.toList 8 = some (ds3, [], places) := ⟨[], by kernel_rfl⟩
theorem lifted3 (os : Os) (started : os.Started) (H : Type) (enc : TypeId × Value → H) (F : Stop.Interp) :
    ReturnsInHanded {} Tryz.checked os 3 .any ((Rows.OpenSpec.upto Rows.metaBackSpec).preRow enc Tryz.prog Tryz.f3 Rows.metaBackUptoRow.domain false Rows.metaBackUptoRow.laid) (((Rows.OpenSpec.upto Rows.metaBackSpec).at F).post enc Tryz.prog Tryz.f3 false true false false) := by
  obtain ⟨places, hx⟩ := reads3 os enc
  have hs : Rows.uptoSmall H (ds3 ++ []) = true := by kernel_rfl
  refine returnsInHanded_of_row (C := Tryz.checked) (s := Rows.OpenSpec.upto Rows.metaBackSpec) ownKnob0 started (by kernel_rfl) Tryz.func3
    (witness_row_at (enc := enc) (C := Tryz.checked) false (laidWorld os) args3 rfl (by kernel_rfl) (by kernel_rfl) (by kernel_rfl)
      (OpenSpec.preRow_of_cond 8 hx (by kernel_rfl) (fun k hk => by cases hk; exact hs) (by kernel_rfl) (laid_met3 os args3))) ?_
  intro W base args ds gs before hval hW _ hcond _ hL _ _
  exact contract3 H enc W base args ds gs before hval hW (hcond _ rfl) hL
theorem said3 : Rows.MetaBackUptoSaid :=
  OpenClaim.holds_of_cond 3 Tryz.f3 rfl rfl rfl rfl rfl rfl rfl ⟨rfl, rfl, rfl, rfl, rfl⟩ rfl rfl rfl rfl rfl (by kernel_rfl) Tryz.func3 (by kernel_rfl)
    (of_decide_eq_true (by kernel_rfl)) (by unfold Func.isWrapper; first | (rw [if_pos (by decide +kernel)]; kernel_rfl) | (rw [if_neg (by decide +kernel)]; exact ⟨rfl, rfl⟩))
    (fun os started H enc _ F => by rw [OpenClaim.pre_eq_preRow]; exact lifted3 os started H enc F)
theorem plain3 (f : FuncId) (fn : Func) (hf : Tryz.pinned.checked.prog.funcNamed "ostler/ostlerlaw14.MetaBack" = some f) (hfn : Tryz.pinned.checked.prog.funcs[f]? = some fn) :
    true = Tryz.pinned.checked.prog.looks [] ∧ ∀ (j : Nat) t, fn.params[j]? = some t → Tryz.pinned.checked.prog.wantsStandIn t = false := by
  obtain rfl : f = 3 := Option.some.inj ((show Tryz.prog.funcNamed "ostler/ostlerlaw14.MetaBack" = some 3 by kernel_rfl).symm.trans hf) |>.symm
  obtain rfl : fn = Tryz.f3 := (Option.some.inj (Tryz.func3.symm.trans hfn)).symm
  refine ⟨by kernel_rfl, fun j t ht => ?_⟩
  rw [Tryz.params3] at ht
  have := Array.mem_of_getElem? ht
  simp only [List.mem_toArray, List.mem_cons, List.mem_nil_iff, or_false] at this
  rcases this with rfl | rfl
  · exact (show Tryz.prog.wantsStandIn 30 = false by kernel_rfl)
  · exact (show Tryz.prog.wantsStandIn 31 = false by kernel_rfl)
end Go.Proofs.YtfohmbookjnkgaaGreatDoor.Mx
namespace Go.Proofs.YtfohmbookjnkgaaGreatDoor
open Go Mx
theorem metaBackUpto : Rows.MetaBackUptoCardSaid :=
  Claim7.holds_tied_plain_at .later [] _ _ _ _ said3 (fun _ h => by cases h) (by kernel_rfl) (fun _ h => by cases h) metaBackUpto_row_tie rfl ⟨rfl, rfl⟩ (by kernel_rfl) rfl plain3 (by kernel_rfl)
end Go.Proofs.YtfohmbookjnkgaaGreatDoor
