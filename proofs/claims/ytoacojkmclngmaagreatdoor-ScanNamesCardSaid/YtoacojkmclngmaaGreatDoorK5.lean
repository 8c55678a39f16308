/- Texts of the session, one behind the other: what the code computes, function by function, and its contracts. -/
import Derived.RangeFuncNested
import Derived.RangeFuncBound
import Derived.RangeFuncCalls
import Derived.RangeFuncLeaves
import Derived.Shelf.Abstract
import Derived.Shelf.RegionOpen
import Derived.WalkKit
import Derived.OwnWalkIn
import Derived.TacticsInMore
import Derived.LoopNIn
import Derived.LoopIn
import Derived.Test.YtoacojkmclngmaaGreatDoorProg
import Derived.Deep.RegionHeld3
import Derived.Shelf.SlSortCmp.WholeK
import Derived.Shelf.Strings.BuilderK
import Derived.Test.YtoacojkmclngmaaGreatDoorK1
import Derived.Test.YtoacojkmclngmaaGreatDoorK2
import Derived.Test.YtoacojkmclngmaaGreatDoorK3
import Derived.Test.YtoacojkmclngmaaGreatDoorK4
/- trie.New: the walk. -/
namespace Go.Proofs.YtoacojkmclngmaaGreatDoor
open Go.RowKit Go.Proofs.YtoacojkmclngmaaGreatDoorW.PrintWords Go.Proofs.YtoacojkmclngmaaGreatDoorW.PrintLast Go.Proofs.YtoacojkmclngmaaGreatDoorW.PrintMore
set_option linter.unusedVariables false
set_option linter.unusedSimpArgs false
def trieGo : List ByteArray → Nat → List Path → List Int → Option (List Path × List Int)
  | [], _, P, wd => some (P, wd)
  | s :: l, x, P, wd => if (putGo P wd [] s.data.toList).2[(putGo P wd [] s.data.toList).1.idxOf s.data.toList]? = some (-1) then trieGo l (x + 1) (putGo P wd [] s.data.toList).1 ((putGo P wd [] s.data.toList).2.set ((putGo P wd [] s.data.toList).1.idxOf s.data.toList) (x : Int)) else none
theorem putGo_length : ∀ (s : List UInt8) (P : List Path) (wd : List Int) (p : Path), (putGo P wd p s).1.length ≤ P.length + s.length
  | [], P, wd, p => Nat.le_refl _
  | c :: s, P, wd, p => by
    unfold putGo
    split
    · have := putGo_length s P wd (p ++ [c]); simp; omega
    · have := putGo_length s (P ++ [p ++ [c]]) (wd ++ [-1]) (p ++ [c]); simp at *; omega
theorem putGo_head : ∀ (s : List UInt8) (P : List Path) (wd : List Int) (p : Path), P[0]? = some [] → (putGo P wd p s).1[0]? = some []
  | [], P, wd, p, h => h
  | c :: s, P, wd, p, h => by
    unfold putGo
    split
    · exact putGo_head s P wd _ h
    · refine putGo_head s _ _ _ ?_
      rw [List.getElem?_append_left (List.getElem?_eq_some_iff.1 h).1]; exact h
theorem idx_of {l : List Path} {i : Nat} {a : Path} (h : l.Nodup) (hi : l[i]? = some a) : l.idxOf a = i := by
  obtain ⟨hl, rfl⟩ := List.getElem?_eq_some_iff.1 hi
  exact h.idxOf_getElem i hl
def oddV (s : ByteArray) : Bool := decide (s.size = 0) || decide (64 < s.size)
set_option maxHeartbeats 1000000 in
theorem odd_same (s : ByteArray) (w : World) : Calls Tryz.prog 115 #[.string s] w fun e w' => e = .returned (.bool (oddV s)) ∧ w' = w := by
  have he : s.toList.isEmpty = decide (s.size = 0) := by
    rw [Lib.toList_data, Bool.eq_iff_iff]
    simp only [List.isEmpty_iff, decide_eq_true_eq]
    constructor
    · intro h; have := congrArg List.length h; rw [Array.length_toList] at this; exact this
    · intro h; exact List.eq_nil_of_length_eq_zero (by rw [Array.length_toList]; exact h)
  unfold oddV
  rw [← he]
  clear he
  cases h : s.toList.isEmpty with
  | true =>
    go_enter Tryz.func115, Tryz.ntmps115
    go_wp2
    go_ret
    exact ⟨by simp [h], rfl⟩
  | false =>
    have hh := Aside0.mk h
    go_enter Tryz.func115, Tryz.ntmps115
    go_wp2
    go_ret
    refine ⟨?_, rfl⟩
    simp
    constructor <;> intro h <;> omega
theorem odd_pred (w : World) : PredAt Tryz.prog 115 #[] Value.string oddV w := fun W x _ => (odd_same x W).mono fun e w' ⟨he, hw⟩ => ⟨he, 0, hw⟩
theorem trie_start (vw : Value) (W : World) (base : Nat) (hb : base ≤ W.heap.size) :
    TrieAt vw (((W.alloc (.map #[] 0)).alloc (.cells #[.map (some W.heap.size), .int .i64 (-1)] 127)).alloc (.cells #[vw, .slice (some ⟨W.heap.size + 1, 0, none⟩) 1 1] 130)) base (W.heap.size + 2) (W.heap.size + 1) 1 [[]] [[]] [W.heap.size] [-1] := by
  have h1 : (W.alloc (.map #[] 0)).heap.size = W.heap.size + 1 := World.size_alloc _ _
  have h2 : ((W.alloc (.map #[] 0)).alloc (.cells #[.map (some W.heap.size), .int .i64 (-1)] 127)).heap.size = W.heap.size + 2 := by rw [World.size_alloc, h1]
  refine ⟨?_, ?_, rfl, rfl, by omega, by simp; exact hb, by simp, by simp, ?_, ?_⟩
  · rw [← h2]; exact heap_alloc_new _ _
  · have := (World.ownsRow_lit (base := base) (e := 127) (size := 2) (W.alloc (.map #[] 0)) #[.map (some W.heap.size), .int .i64 (-1)] 1 (by rw [h1]; omega) (by decide) rfl).alloc (.cells #[vw, .slice (some ⟨W.heap.size + 1, 0, none⟩) 1 1] 130)
    rw [h1] at this
    exact this
  · intro p c hp
    have := List.mem_singleton.1 hp
    simp at this
  · intro i m p hm hp
    have em := List.mem_singleton.1 (List.mem_of_getElem? hm)
    have ep := List.mem_singleton.1 (List.mem_of_getElem? hp)
    subst em ep
    refine ⟨.map [], (((World.ownsMap_made (H := Nat) W Tryz.prog 5 (plainElem Tryz.prog 3)).alloc _).alloc _).mono (Nat.zero_le _), Maps.isMap_empty, fun c j _ hc => ?_, fun _ _ => rfl⟩
    have := List.mem_singleton.1 hc
    simp at this
set_option maxHeartbeats 8000000 in
set_option maxRecDepth 100000 in
theorem new_calls (w : World) (b c : Nat) (ws : List ByteArray) (hrow : ∀ j u, (ws.map Value.string)[j]? = some u → w.cell? ((⟨b, 0, none⟩ : Addr).add j) = some u) (hb : b < w.heap.size) (hn : 0 < ws.length) (hn2 : ws.length ≤ 1000) (hok : ∀ s ∈ ws, oddV s = false) (PF : List Path) (wF : List Int) (hgo : trieGo ws 0 [[]] [-1] = some (PF, wF)) :
    Calls Tryz.prog 88 #[.slice (some ⟨b, 0, none⟩) ws.length c] w fun e w' => ∃ (t g cc : Nat) (ms : List Nat) (vw : Value), e = .returned (.tuple #[.pointer (some ⟨t, 0, none⟩), .int .i64 0]) ∧ TrieAt vw w' w.heap.size t g cc PF PF ms wF ∧ PF[0]? = some [] ∧ Below w.heap.size w w' := by
  have hcell : ∀ j (hj : j < ws.length), w.cell? ⟨b, j, none⟩ = some (.string (ws[j]'hj)) := fun j hj => by
    have := hrow j (.string (ws[j]'hj)) (by rw [List.getElem?_map, List.getElem?_eq_getElem hj]; rfl)
    rw [add_plain] at this
    simpa using this
  have HCE := Aside0.mk hcell
  have eg : ∀ args w, (callFunc 115 args).run Tryz.prog w = .ok (.enter 115 args) w := enters_of Tryz.func115 (by kernel_rfl) rfl
  have hcf := Tryz.slices_ContainsFunc Value.string oddV 115 #[] eg b 0 ws.length c ws w (odd_pred w) (Nat.le_refl _) (by omega) (fun j hj => by
    rw [Nat.zero_add, hcell j hj, getElem!_pos ws j hj])
  have hany : (ws.take ws.length).any oddV = false := by
    rw [List.take_length, List.any_eq_false]
    intro s hs; simp [hok s hs]
  rw [hany] at hcf
  have HCF := Aside0.mk hcf
  have hcl := fun W (hW : ∀ j (hj : j < ws.length), W.cell? ⟨b, j, none⟩ = some (.string (ws[j]'hj))) => Tryz.slices_Clone_string b 0 ws.length c ws W (Nat.le_refl _) (by omega) (fun j hj => by rw [Nat.zero_add, hW j hj, List.getD_eq_getElem?_getD, List.getElem?_eq_getElem hj]; rfl)
  have HCL := Aside0.mk hcl
  have HGO := Aside0.mk hgo
  have HOK := Aside0.mk hok
  have HB := Aside0.mk hb
  have hmm := @run_makeMap Tryz.prog
  have hnz : ¬ (1000 : Int) < (ws.length : Int) := by omega
  clear hcf hcl hgo hok hany eg hcell hrow
  go_enter Tryz.func88, Tryz.ntmps88
  go_upto_region 6 with (first | (go_at_call 116; (with_reducible refine HCF.out.mono ?_); rintro e w1 ⟨rfl, q, rfl⟩))
  have HC2 := Aside0.mk (HCL.out (w.drewN q) HCE.out)
  go_upto_block 1 with (first | (go_at_call 117; (with_reducible refine HC2.out.mono ?_); rintro e w2 ⟨vw, rfl, ho, hnn, hb⟩; obtain ⟨Av, cv, rfl⟩ := own_slice ho; have HO2 := Aside0.mk ho; have HB2 := Aside0.mk (below_weaken (pw_below_drewN (Below.refl _ w) q) (Nat.le_refl _) hb); clear ho hnn hb))
  have hle2 : w.heap.size ≤ w2.heap.size := HB2.out.size
  have HT0 := Aside0.mk (trie_start (.slice Av ws.length cv) w2 w.heap.size hle2)
  have HB3 := Aside0.mk (below_alloc (below_alloc (below_alloc HB2.out (.map #[] 0)) (.cells #[.map (some w2.heap.size), .int .i64 (-1)] 127)) (.cells #[.slice Av ws.length cv, .slice (some ⟨w2.heap.size + 1, 0, none⟩) 1 1] 130))
  have hpt : w2.heap.size + 1 + 1 = w2.heap.size + 2 := rfl
  rw [hpt]
  clear hpt hle2 HO2 HB2 HC2 HCL HCF
  generalize (((w2.alloc (.map #[] 0)).alloc (.cells #[.map (some w2.heap.size), .int .i64 (-1)] 127)).alloc (.cells #[.slice Av ws.length cv, .slice (some ⟨w2.heap.size + 1, 0, none⟩) 1 1] 130)) = W3 at HT0 HB3 ⊢
  generalize w2.heap.size + 1 = g0 at HT0 ⊢
  generalize w2.heap.size + 2 = t0 at HT0 ⊢
  generalize [w2.heap.size] = ms0 at HT0
  go_wp2
  go_loopw [25] (fun v25 wr => ∃ (k gg cc : Nat) (Q : List Path) (mq : List Nat) (wq : List Int), k ≤ ws.length ∧ v25 = .int .i64 k ∧ Aside0 (trieGo (ws.drop k) k Q wq = some (PF, wF)) ∧ Q.length ≤ 1 + 64 * k ∧ Aside0 (Q[0]? = some []) ∧ Aside0 (TrieAt (.slice Av ws.length cv) wr w.heap.size t0 gg cc Q Q mq wq) ∧ Aside0 (Below w.heap.size w wr)) (fun v25 _ => ws.length - (intOf v25).toNat)
  case atStart => exact ⟨0, g0, 1, [[]], ms0, [-1], Nat.zero_le _, rfl, HGO, by simp, ⟨rfl⟩, HT0, HB3⟩
  case round =>
    obtain ⟨k, gg, cc, Q, mq, wq, hk, rfl, HG, hlen, HH, HT, HB4⟩ := hrel
    by_cases hlt : k < ws.length
    · have hlz : (k : Int) < (ws.length : Int) := by omega
      obtain ⟨s, hs⟩ : ∃ s, s = ws[k]'hlt := ⟨_, rfl⟩
      have hc := (HB4.out.cell (p := ⟨b, k, none⟩) HB.out).trans (HCE.out k hlt)
      rw [← hs] at hc
      have hsz : s.size ≤ 64 := by
        have := HOK.out s (by rw [hs]; exact List.getElem_mem hlt)
        unfold oddV at this
        simp at this
        omega
      have hg2 := HG.out
      rw [List.drop_eq_getElem_cons hlt, ← hs, trieGo] at hg2
      split at hg2
      case isFalse => cases hg2
      rename_i hfree
      have HG2 := Aside0.mk hg2
      have HFR := Aside0.mk hfree
      have hput := put_calls (.slice Av ws.length cv) wr w.heap.size t0 gg cc Q mq wq s (k : Int) HT.out HH.out HB4.out.size (by omega) _ _ rfl
      have HPUT := Aside0.mk hput
      have HLQ : Aside0 ((putGo Q wq [] s.data.toList).1.length ≤ Q.length + s.size) := ⟨by have := putGo_length s.data.toList Q wq []; rw [Array.length_toList] at this; exact this⟩
      clear hs hg2 hfree hput HG
      go_wp2_with (first | (go_at_call 118; (with_reducible refine HPUT.out.mono ?_); rintro e w4 ⟨g4, c4, i4, ms4, hi4, rfl, ht4, hb4⟩; have hidx : (putGo Q wq [] s.data.toList).1.idxOf s.data.toList = i4 := idx_of ht4.pn hi4; have htr : decide ((putGo Q wq [] s.data.toList).2[i4]? = some (-1)) = true := decide_eq_true (by rw [← hidx]; exact HFR.out); rw [htr]; have HI4 := Aside0.mk hidx; have HT4 := Aside0.mk ht4; have HB5 := Aside0.mk (HB4.out.trans hb4); clear hi4 ht4 hb4 hidx htr))
      go_roundw
      case rel =>
        have hT := HT4.out
        rw [← HI4.out] at hT
        exact ⟨k + 1, g4, c4, _, ms4, _, by omega, by go_num, HG2, by have := HLQ.out; omega, ⟨putGo_head _ _ _ _ HH.out⟩, ⟨hT⟩, HB5⟩
      case measure => first | (simp [intOf]; done) | (simp [intOf]; omega)
    · have : k = ws.length := by omega
      subst this
      have hfin := HG.out
      rw [List.drop_of_length_le (Nat.le_refl _), trieGo] at hfin
      injection hfin with hfin
      injection hfin with e1 e2
      subst e1 e2
      clear HG
      go_wp2
      go_ret2
      exact ⟨t0, gg, cc, mq, _, rfl, HT.out, HH.out, HB4.out⟩
end Go.Proofs.YtoacojkmclngmaaGreatDoor
/- A law for a range over a function. -/
namespace Go.Proofs.YtoacojkmclngmaaGreatDoor
open Go.RowKit
set_option linter.unusedVariables false
theorem wp_range1 {P : Program} {n : Nat} {g : Operand} {ps : Array Tmp} {assign body : Code} {Q : Exit → Act → World → Prop} {a : Act} {w : World} {gf : Nat} {lb : Array Value} (hg : a.eval g = .func (.func gf) #[] lb)
    (eg : ∀ args w, (callFunc gf args).run P w = .ok (.enter gf args) w) {α : Type} {encs : α → Array Value} (hps : ∀ x, (encs x).size = ps.size) (I : List α → World → Prop) (Kp : World → World → Prop) (xs : List α) (N : Nat)
    (hI : ∀ pre W l o o', w.heap.size ≤ l → I pre W → W.heap[l]? = some o → o.isCells = false → I pre (W.putObj l o')) (hI0 : ∀ o₁ o₂ : Obj, I [] ((w.alloc o₁).alloc o₂))
    (hKt : ∀ {A B C : World}, Kp A B → Kp B C → Kp A C) (hKb : ∀ (W : World) (l : Nat) (o' : Obj), w.heap.size ≤ l → Kp W (W.putObj l o')) (a₁ : α → Act)
    (hassign : ∀ (l : Nat) (x : α) (W : World) (K : Act → World → Prop), K (a₁ x) W → assign.wpIn (Fence.wide.inRound l) (n - 1 - 1) P (Exit.then K (fun _ _ _ => False)) { tmps := (ps.zip (encs x)).foldl (fun t (p, v) => t.setIfInBounds p v) a.tmps, defers := [] } W)
    (hbody : ∀ (l : Nat) (pre : List α) (x : α) (W : World), I pre W → pre.length < N → body.wpIn (Fence.wide.inRound l) (n - 1 - 1) P (fun e _ W' => e = .normal ∧ KeepsOthers W W' ∧ Kp W W' ∧ I (pre ++ [x]) W') (a₁ x) W)
    (hseq : ∀ (l D : Nat) (r : Obj) (W : World), w.heap.size ≤ l → w.heap.size ≤ D →
      (∀ o₁ o₂ : Obj, W = (w.alloc o₁).alloc o₂ → True) → (∃ o₁ o₂ : Obj, W = (w.alloc o₁).alloc o₂) →
      (∀ pre x W1, (I pre W1 ∧ W1.heap[l]? = some r ∧ W1.heap[D]? = some (.deferred (some []))) → pre.length < N → YieldAt Fence.wide (n - 1 - 1) P l (encs x) W1 fun e W' => e = .returned (.bool true) ∧ (I (pre ++ [x]) W' ∧ W'.heap[l]? = some r ∧ W'.heap[D]? = some (.deferred (some []))) ∧ Kp W1 W') →
      (I [] W ∧ W.heap[l]? = some r ∧ W.heap[D]? = some (.deferred (some []))) →
      CallsIn Fence.wide (n - 1) P gf (#[.func (.yield l) #[] #[]] ++ lb) W fun e W' => (∃ v, e = .returned v) ∧ (I xs W' ∧ W'.heap[l]? = some r ∧ W'.heap[D]? = some (.deferred (some []))))
    (hdone : ∀ (D : Nat) (W : World), w.heap.size ≤ D → I xs W → W.heap[D]? = some (.deferred (some [])) → Q .normal { a with defers := { target := .collected D, args := #[] } :: a.defers } W) :
    (Code.rangeFunc g ps assign body).wpIn Fence.wide n P Q a w := by
  refine wpIn_rangeFunc ?_
  intro fn hfn
  obtain ⟨rec, hrec⟩ : ∃ rec : LoopState → Option Code → Loop, rec = fun st pe => { state := st, pending := pe, fn, tmps := a.tmps, params := ps, assign, body, defers := w.heap.size } := ⟨_, rfl⟩
  obtain ⟨W1, hW1⟩ : ∃ W1, W1 = (w.alloc (.deferred (some []))).alloc (.loop (rec .ready none)) := ⟨_, rfl⟩
  have hsz : (w.alloc (.deferred (some []))).heap.size = w.heap.size + 1 := World.size_alloc _ _
  have hL1 : W1.heap[w.heap.size + 1]? = some (.loop (rec .ready none)) := by
    rw [hW1, ← hsz]; exact World.alloc_heap_new _ _
  have hK1 : W1.heap[w.heap.size]? = some (.deferred (some [])) := by
    rw [hW1]; exact (Below.heap_alloc _ _ _ (by rw [hsz]; omega)).trans (World.alloc_heap_new w _)
  refine ⟨w.heap.size + 1, [{ target := .collected w.heap.size, args := #[] }], W1, { target := .fn (.func gf) lb, args := #[.func (.yield (w.heap.size + 1)) #[] #[]] }, W1, gf, #[.func (.yield (w.heap.size + 1)) #[] #[]] ++ lb, W1, ?_, ?_, fun _ _ => trivial, ?_, fun h => absurd h (by decide), ?_⟩
  · rw [hW1, hrec]; exact run_enterLoop_outer _ _ _ _ _
  · simp only [resolve, hg]
    simp [go_sem]
  · simp [invoke, go_sem, eg]
  · refine (hseq (w.heap.size + 1) w.heap.size (.loop (rec .ready none)) W1 (by omega) (Nat.le_refl _) (fun _ _ _ => trivial) ⟨_, _, hW1⟩ ?_ ⟨hW1 ▸ hI0 _ _, hL1, hK1⟩).mono ?_
    · rintro pre x W ⟨hi, hl, hk⟩ hlen
      have hlt : w.heap.size + 1 < W.heap.size := (Array.getElem?_eq_some_iff.1 hl).1
      have hy := run_yield (P := P) (args := encs x) hl (by rw [hrec]; exact hps x)
      rw [hrec] at hy
      refine ⟨fn, _, assign, body, hy, roundIn_of_wpIn hfn (hassign _ x W _ ⟨_, run_beginRound hl (by rw [hrec]), ?_⟩)⟩
      have hl2 : (W.putObj (w.heap.size + 1) (.loop { rec .ready none with state := .busy })).heap[w.heap.size + 1]? = some (.loop { rec .ready none with state := .busy }) := World.putObj_heap_same hlt
      have hk2 : (W.putObj (w.heap.size + 1) (.loop { rec .ready none with state := .busy })).heap[w.heap.size]? = some (.deferred (some [])) := (World.putObj_heap_other (by omega)).trans hk
      refine wpIn_mono (hbody _ pre x _ (hI _ _ _ _ _ (by omega) hi hl rfl) hlen) ?_
      rintro e a3 W3 ⟨rfl, ho3, hk3, hi3⟩
      have hl3 := ho3.same _ _ hl2 rfl
      have hk4 := ho3.same _ _ hk2 rfl
      have hlt3 := (Array.getElem?_eq_some_iff.1 hl3).1
      have hend := run_endRound (P := P) none hl3
      have e2 : ({ ({ rec .ready none with state := .busy } : Loop) with state := if (none : Option Code).isNone then .ready else .done, pending := none } : Loop) = rec .ready none := by rw [hrec]; rfl
      rw [e2] at hend
      exact ⟨_, _, hend, rfl, ⟨hI _ _ _ _ _ (by omega) hi3 hl3 rfl, World.putObj_heap_same hlt3, (World.putObj_heap_other (by omega)).trans hk4⟩, hKt (hKb W _ _ (by omega)) (hKt hk3 (hKb W3 _ _ (by omega)))⟩
    · rintro e W2 ⟨⟨v, rfl⟩, hi, hl, hk⟩
      refine ⟨none, _, (by have := run_endLoop (P := P) hl (by rw [hrec]; simp); rw [hrec] at this; exact this), ?_⟩
      exact hdone _ _ (Nat.le_refl _) (hI _ _ _ _ _ (by omega) hi hl rfl) ((World.putObj_heap_other (by omega)).trans hk)
end Go.Proofs.YtoacojkmclngmaaGreatDoor
/- (*trie.Trie).Longest: the walk. -/
namespace Go.Proofs.YtoacojkmclngmaaGreatDoor
open Go.RowKit Go.Proofs.YtoacojkmclngmaaGreatDoorW.PrintWords Go.Proofs.YtoacojkmclngmaaGreatDoorW.PrintLast Go.Proofs.YtoacojkmclngmaaGreatDoorW.PrintMore
set_option linter.unusedVariables false
set_option linter.unusedSimpArgs false
attribute [local go_sem] Oper.semAt_some
set_option maxHeartbeats 4000000 in
set_option maxRecDepth 100000 in
theorem step_calls (vw : Value) (w : World) (base t g c : Nat) (P : List Path) (ms : List Nat) (wd : List Int) (hT : TrieAt vw w base t g c P P ms wd) (a : Nat) (p : Path) (hp : P[a]? = some p) (ch : UInt8) (hs : P.length ≤ 100000) :
    Calls Tryz.prog 145 #[.pointer (some ⟨t, 0, none⟩), .int .i64 (a : Int), .int .u8 (ch.toNat : Int)] w fun e w' => ∃ cv : Int, e = .returned (.tuple #[.int .i64 cv, .bool (decide (p ++ [ch] ∈ P))]) ∧ (∀ j : Nat, P[j]? = some (p ++ [ch]) → cv = j) ∧ w' = w := by
  have haq : a < P.length := (List.getElem?_eq_some_iff.1 hp).1
  obtain ⟨m, hm⟩ : ∃ m, ms[a]? = some m := ⟨_, List.getElem?_eq_getElem (by rw [hT.lm]; exact haq)⟩
  obtain ⟨y, hy⟩ : ∃ y, wd[a]? = some y := ⟨_, List.getElem?_eq_getElem (by rw [hT.lw]; exact haq)⟩
  obtain ⟨ct0, ct1, ft1⟩ := hT.cells
  obtain ⟨cn0, cn1, fn1⟩ := hT.node hm hy
  obtain ⟨D, hD, hN⟩ := hT.maps a m _ hm hp
  have HD := Aside0.mk hD
  have hkey := Aside0.mk (key_u8 ch)
  have HZ3 : Aside0 (∀ w : World, (zeroValue 3).run Tryz.prog w = .ok (.int .i64 0) w) := ⟨fun w => by kernel_rfl⟩
  have HN := Aside0.mk hN
  have HPN := Aside0.mk hT.pn
  have hal : ¬ (P.length : Int) ≤ (a : Int) := by omega
  have ha0 : ¬ (a : Int) < 0 := by omega
  clear hm hy hN hD hp hT
  by_cases hin : p ++ [ch] ∈ P
  · obtain ⟨j, hj, hje⟩ := List.getElem_of_mem hin
    have hje2 : P[j]? = some (p ++ [ch]) := by rw [List.getElem?_eq_getElem hj, hje]
    have hth := HN.out.there ch j hje2 hin
    have hhas := hth.1
    have HAT := Aside0.mk hth.2
    have HU : Aside0 (∀ j2 : Nat, P[j2]? = some (p ++ [ch]) → (j : Int) = j2) := ⟨fun j2 h2 => by rw [(List.getElem?_inj hj HPN.out).1 (hje2.trans h2.symm)]⟩
    rw [decide_eq_true hin]
    clear hje hje2 hth hin hj
    go_enter Tryz.func145, Tryz.ntmps145
    go_wp2_with (first | (at_lookup; refine wpList_lookup_own_ok_int _ rfl _ _ 125 rfl 5 3 .i64 (Maps.int_keyed Tryz.underlying5) Tryz.underlying125 Tryz.underlying3 (HZ3.out _) m P.length D rfl HD.out _ _ rfl hkey.out ?_; intro cv hat hwc; rw [HAT.out] at hat; obtain rfl : cv = (j : Int) := (by injection hat with hat; injection hat with _ hat; exact hat.symm); clear hat hwc))
    go_ret2
    exact ⟨_, rfl, HU.out, rfl⟩
  · have hno := HN.out.no ch hin
    have HU : Aside0 (∀ (cv : Int) (j2 : Nat), P[j2]? = some (p ++ [ch]) → cv = j2) := ⟨fun cv j2 h2 => absurd (List.mem_of_getElem? h2) hin⟩
    rw [decide_eq_false hin]
    clear hin
    go_enter Tryz.func145, Tryz.ntmps145
    go_wp2_with (first | (at_lookup; refine wpList_lookup_own_ok_int _ rfl _ _ 125 rfl 5 3 .i64 (Maps.int_keyed Tryz.underlying5) Tryz.underlying125 Tryz.underlying3 (HZ3.out _) m P.length D rfl HD.out _ _ rfl hkey.out ?_; intro cv hat hwc; clear hat hwc))
    go_ret2
    exact ⟨_, rfl, HU.out _, rfl⟩
set_option maxHeartbeats 4000000 in
set_option maxRecDepth 100000 in
theorem word_calls (vw : Value) (w : World) (base t g c : Nat) (P : List Path) (ms : List Nat) (wd : List Int) (hT : TrieAt vw w base t g c P P ms wd) (a : Nat) (y : Int) (hy : wd[a]? = some y) (hs : P.length ≤ 100000) :
    Calls Tryz.prog 146 #[.pointer (some ⟨t, 0, none⟩), .int .i64 (a : Int)] w fun e w' => e = .returned (.tuple #[.int .i64 (if y = -1 then 0 else y), .bool (decide (y ≠ -1))]) ∧ w' = w := by
  have haq : a < P.length := by rw [← hT.lw]; exact (List.getElem?_eq_some_iff.1 hy).1
  obtain ⟨m, hm⟩ : ∃ m, ms[a]? = some m := ⟨_, List.getElem?_eq_getElem (by rw [hT.lm]; exact haq)⟩
  obtain ⟨ct0, ct1, ft1⟩ := hT.cells
  obtain ⟨cn0, cn1, fn1⟩ := hT.node hm hy
  have hal : ¬ (P.length : Int) ≤ (a : Int) := by omega
  have ha0 : ¬ (a : Int) < 0 := by omega
  clear hm hy hT
  by_cases h1 : y = -1
  · subst h1
    go_enter Tryz.func146, Tryz.ntmps146
    go_wp2
    go_ret2
    exact ⟨by simp, rfl⟩
  · have hyb : (y == -1) = false := by simpa using h1
    go_enter Tryz.func146, Tryz.ntmps146
    go_wp2
    go_ret2
    exact ⟨by simp [h1], rfl⟩
def prefGo (P : List Path) (wd : List Int) (s : List UInt8) : Nat → Nat → List (Int × Int)
  | 0, _ => []
  | k + 1, i => if s.take (i + 1) ∈ P then (if (wd.getD (P.idxOf (s.take (i + 1))) (-1)) = -1 then prefGo P wd s k (i + 1) else (wd.getD (P.idxOf (s.take (i + 1))) (-1), ((i + 1 : Nat) : Int)) :: prefGo P wd s k (i + 1)) else []
theorem prefGo_length (P : List Path) (wd : List Int) (s : List UInt8) : ∀ k i, (prefGo P wd s k i).length ≤ k
  | 0, _ => Nat.le_refl _
  | k + 1, i => by
    unfold prefGo
    split
    · split
      · exact Nat.le_succ_of_le (prefGo_length P wd s k (i + 1))
      · have := prefGo_length P wd s k (i + 1); simp; omega
    · simp
set_option maxHeartbeats 8000000 in
set_option maxRecDepth 100000 in
theorem ends1_in (n l Bs Bt : Nat) (hn : 3 ≤ n) (vw : Value) (base t g c : Nat) (P : List Path) (ms : List Nat) (wd : List Int) (h0P : P[0]? = some []) (hP : P.length ≤ 100000) (s : ByteArray) (hs : s.size ≤ 140737488355328) (J : List (Int × Int) → World → Prop)
    (hJT : ∀ pre W, J pre W → TrieAt vw W base t g c P P ms wd ∧ W.cell? ⟨Bs, 0, none⟩ = some (.string s) ∧ W.cell? ⟨Bt, 0, none⟩ = some (.pointer (some ⟨t, 0, none⟩))) (hJd : ∀ pre W, J pre W → J pre W.drew)
    (hY : ∀ pre x W, J pre W → pre.length < s.size + 1 → YieldAt Fence.wide (n - 1) Tryz.prog l #[.int .i64 x.1, .int .i64 x.2] W fun e W' => e = .returned (.bool true) ∧ J (pre ++ [x]) W')
    (W : World) (h0 : J [] W) :
    CallsIn Fence.wide n Tryz.prog 144 #[.func (.yield l) #[] #[], .pointer (some ⟨Bs, 0, none⟩), .pointer (some ⟨Bt, 0, none⟩)] W fun e W' => (∃ v, e = .returned v) ∧ J (prefGo P wd s.data.toList s.size 0) W' := by
  have HJT := Aside0.mk hJT
  have HJD := Aside0.mk hJd
  have HY := Aside0.mk hY
  have HJ := Aside0.mk h0
  have HL : Aside0 (s.data.toList.length = s.size) := ⟨by rw [Array.length_toList]; rfl⟩
  have hmx : Tryz.prog.follows .mixedOrders = true := by kernel_rfl
  clear hJT hJd hY h0
  have hz := (HJT.out _ _ HJ.out).2.1
  refine callsIn_of_wp Tryz.func144 rfl trivial ?_ rfl
  simp only [Tryz.ntmps144, List.size_toArray, List.length_cons, List.length_nil, Nat.reduceAdd, Nat.reduceSub, Array.replicate_succ, Array.replicate_zero, List.push_toArray, List.append_toArray, List.nil_append, List.cons_append]
  gi_wp2
  gi_loopw [12, 4] (fun v12 v4 wr => ∃ (k a : Nat) (pre : List (Int × Int)), k ≤ s.size ∧ v12 = .int .i64 k ∧ v4 = .int .i64 a ∧ Aside0 (P[a]? = some (s.data.toList.take k)) ∧ Aside0 (prefGo P wd s.data.toList s.size 0 = pre ++ prefGo P wd s.data.toList (s.size - k) k) ∧ Aside0 (J pre wr)) (fun v12 _ _ => s.size - (intOf v12).toNat)
  case atStart => exact ⟨0, 0, [], Nat.zero_le _, rfl, rfl, ⟨h0P⟩, ⟨rfl⟩, HJ⟩
  case round =>
    obtain ⟨k, a, pre, hk, rfl, rfl, HA, HE, HJ1⟩ := hrel
    clear hz
    obtain ⟨hT, hz, hzt⟩ := HJT.out _ _ HJ1.out
    have HT := Aside0.mk hT
    clear hT
    by_cases hlt : k < s.size
    · have hlz : (k : Int) < (s.size : Int) := by omega
      have hkl : k < s.data.toList.length := by rw [HL.out]; exact hlt
      obtain ⟨ch, hch⟩ : ∃ ch, ch = s.data.toList[k] := ⟨_, rfl⟩
      have hbt : ((s[k]'hlt).toNat : Int) = (ch.toNat : Int) := by rw [hch]; rfl
      have htk : s.data.toList.take (k + 1) = s.data.toList.take k ++ [ch] := by rw [take_snoc _ _ hkl, hch]
      have HTK := Aside0.mk htk
      clear htk hch
      have hbz : ((s[k]'hlt).toNat : Int) = (ch.toNat : Int) := hbt
      have hst := step_calls vw wr.drew base t g c P ms wd (HT.out.below (below_drew1 (Below.refl _ _))) a _ HA.out ch hP
      have HJD1 := Aside0.mk (HJD.out _ _ HJ1.out)
      have hsk : s.size - k = (s.size - (k + 1)) + 1 := by omega
      have he := HE.out
      rw [hsk, prefGo] at he
      rw [← HTK.out] at hst
      by_cases hin : s.data.toList.take (k + 1) ∈ P
      · rw [if_pos hin] at he
        rw [decide_eq_true hin] at hst
        have HST := Aside0.mk hst
        obtain ⟨j, hj, hje⟩ := List.getElem_of_mem hin
        have hje2 : P[j]? = some (s.data.toList.take (k + 1)) := by rw [List.getElem?_eq_getElem hj, hje]
        have hix : P.idxOf (s.data.toList.take (k + 1)) = j := idx_of HT.out.pn hje2
        obtain ⟨y, hy⟩ : ∃ y, wd[j]? = some y := ⟨_, List.getElem?_eq_getElem (by rw [HT.out.lw]; exact hj)⟩
        have hgd : wd.getD (P.idxOf (s.data.toList.take (k + 1))) (-1) = y := by rw [hix, List.getD_eq_getElem?_getD, hy]; rfl
        rw [hgd] at he
        have hwc := word_calls vw wr.drew base t g c P ms wd (HT.out.below (below_drew1 (Below.refl _ _))) j y hy hP
        have HJE := Aside0.mk hje2
        clear hst hix hgd hje hje2 hy hj hin HE
        by_cases h1 : y = -1
        · subst h1
          rw [if_pos rfl] at he
          rw [if_pos rfl] at hwc
          have hdf : decide ((-1 : Int) ≠ -1) = false := by decide
          rw [hdf] at hwc
          have HW := Aside0.mk hwc
          have HE2 := Aside0.mk he
          clear hwc he hdf
          gi_wp2
          gi_region_with_o ((first | refine ⟨trivial, fun h => absurd h (by decide), ?_⟩ | refine ⟨trivial, ?_⟩); (refine (callsIn_wide.2 HST.out).mono ?_); rintro e w2 ⟨cv, rfl, hcv, rfl⟩; obtain rfl : cv = (j : Int) := hcv j HJE.out; clear hcv)
          all_goals gi_wp2_with (first | ((first | refine ⟨trivial, fun h => absurd h (by decide), ?_⟩ | refine ⟨trivial, ?_⟩); (refine (callsIn_wide.2 HW.out).mono ?_); rintro e w2 ⟨rfl, rfl⟩))
          all_goals refine ⟨fun _ h => (by cases h), ?_⟩
          all_goals gi_wp2
          all_goals
            go_roundw
            case rel => exact ⟨k + 1, j, pre, by omega, by go_num, rfl, HJE, HE2, HJD1⟩
            case measure => first | (simp [intOf]; done) | (simp [intOf]; omega)
        · rw [if_neg h1] at he
          rw [if_neg h1] at hwc
          rw [decide_eq_true h1] at hwc
          have HW := Aside0.mk hwc
          have HE2 := Aside0.mk he
          clear hwc he
          have hlen : pre.length < s.size + 1 := by
            have h2 := congrArg List.length HE2.out
            have h3 := prefGo_length P wd s.data.toList s.size 0
            rw [List.length_append, List.length_cons] at h2
            omega
          obtain ⟨fn, tmps, assign, body, hy, hR⟩ := HY.out pre (y, ((k + 1 : Nat) : Int)) wr.drew HJD1.out hlen
          have hy2 : (Instr.yield l #[.int .i64 y, .int .i64 ((k : Int) + 1)]).run Tryz.prog wr.drew = .ok (.round l fn tmps assign body) wr.drew := hy
          clear hy
          gi_wp2
          gi_region_with_o ((first | refine ⟨trivial, fun h => absurd h (by decide), ?_⟩ | refine ⟨trivial, ?_⟩); (refine (callsIn_wide.2 HST.out).mono ?_); rintro e w2 ⟨cv, rfl, hcv, rfl⟩; obtain rfl : cv = (j : Int) := hcv j HJE.out; clear hcv)
          all_goals gi_wp2_with (first | ((first | refine ⟨trivial, fun h => absurd h (by decide), ?_⟩ | refine ⟨trivial, ?_⟩); (refine (callsIn_wide.2 HW.out).mono ?_); rintro e w2 ⟨rfl, rfl⟩))
          all_goals
            refine ⟨fun h => absurd h (by decide), hR.mono ?_⟩
            rintro e W3 ⟨rfl, hJ3⟩
            have HJ3 := Aside0.mk hJ3
            clear hJ3
            gi_wp2
            go_roundw
            case rel => exact ⟨k + 1, j, pre ++ [(y, ((k + 1 : Nat) : Int))], by omega, by go_num, rfl, HJE, ⟨by rw [HE2.out, List.append_assoc]; rfl⟩, HJ3⟩
            case measure => first | (simp [intOf]; done) | (simp [intOf]; omega)
      · rw [if_neg hin, List.append_nil] at he
        rw [decide_eq_false hin] at hst
        have HST := Aside0.mk hst
        have HE2 := Aside0.mk he
        clear he hst hin
        gi_wp2
        gi_region_with_o ((first | refine ⟨trivial, fun h => absurd h (by decide), ?_⟩ | refine ⟨trivial, ?_⟩); (refine (callsIn_wide.2 HST.out).mono ?_); rintro e w2 ⟨cv, rfl, hcv, rfl⟩; clear hcv)
        all_goals gi_wp2
        all_goals
          (try simp only [Exit.inBlock, Exit.then])
          refine bodyPost_ret (results_none rfl _ _ _) rfl ?_
          exact ⟨⟨_, rfl⟩, HE2.out ▸ HJD1.out⟩
    · have hks : k = s.size := by omega
      have he := HE.out
      rw [hks, Nat.sub_self, prefGo, List.append_nil] at he
      have HE2 := Aside0.mk he
      clear he HE
      subst hks
      gi_wp2
      go_end0
      exact ⟨⟨_, rfl⟩, HE2.out ▸ HJ1.out⟩
end Go.Proofs.YtoacojkmclngmaaGreatDoor
/- (*trie.Trie).Longest: the caller. -/
namespace Go.Proofs.YtoacojkmclngmaaGreatDoor
open Go.RowKit Go.Proofs.YtoacojkmclngmaaGreatDoorW.PrintWords Go.Proofs.YtoacojkmclngmaaGreatDoorW.PrintLast Go.Proofs.YtoacojkmclngmaaGreatDoorW.PrintMore
set_option linter.unusedVariables false
set_option linter.unusedSimpArgs false
attribute [local go_sem] Oper.semAt_some
def lastW (l : List (Int × Int)) : Int × Int := l.getLast?.getD (-1, 0)
theorem lastW_snoc (l : List (Int × Int)) (x : Int × Int) : lastW (l ++ [x]) = x := by simp [lastW]
theorem ends_made (t : Nat) (s : ByteArray) (w : World) : Calls Tryz.prog 119 #[.pointer (some ⟨t, 0, none⟩), .string s] w fun e w' => e = .returned (.func (.func 144) #[] #[.pointer (some ⟨w.heap.size + 1, 0, none⟩), .pointer (some ⟨w.heap.size, 0, none⟩)]) ∧ w' = (w.alloc (.cells #[.pointer (some ⟨t, 0, none⟩)] 99)).alloc (.cells #[.string s] 9) := by
  go_enter Tryz.func119, Tryz.ntmps119
  go_wp2
  go_ret
  exact ⟨by simp, rfl⟩
structure LgAt (w w2 : World) (pre : List (Int × Int)) (W : World) : Prop where
  b1 : W.heap[w.heap.size]? = some (.cells #[.int .i64 (lastW pre).1] 3 (0, 0))
  b2 : W.heap[w.heap.size + 1]? = some (.cells #[.int .i64 (lastW pre).2] 3 (0, 0))
  rest : ∀ k, k < w.heap.size + 4 → k ≠ w.heap.size → k ≠ w.heap.size + 1 → W.heap[k]? = w2.heap[k]?
  below : Below w.heap.size w W
  size : w.heap.size + 4 ≤ W.heap.size
theorem LgAt.put {w w2 W : World} {pre : List (Int × Int)} {l : Nat} (o' : Obj) (h : LgAt w w2 pre W) (hl : w.heap.size + 4 ≤ l) : LgAt w w2 pre (W.putObj l o') :=
  ⟨(World.putObj_heap_other (by omega)).trans h.b1, (World.putObj_heap_other (by omega)).trans h.b2, fun k hk h1 h2 => (World.putObj_heap_other (by omega)).trans (h.rest k hk h1 h2), h.below.grown (grownBy_putObj' W l o') h.below.size (fun k e => by cases e; omega), by rw [World.putObj_size]; exact h.size⟩
theorem LgAt.drew {w w2 W : World} {pre : List (Int × Int)} (h : LgAt w w2 pre W) : LgAt w w2 pre W.drew := ⟨h.b1, h.b2, h.rest, below_drew h.below, h.size⟩
theorem LgAt.step {w w2 W : World} {pre : List (Int × Int)} (h : LgAt w w2 pre W) (x : Int × Int) : LgAt w w2 (pre ++ [x]) ((W.setCell ⟨w.heap.size, 0, none⟩ (.int .i64 x.1)).setCell ⟨w.heap.size + 1, 0, none⟩ (.int .i64 x.2)) := by
  refine ⟨?_, ?_, fun k hk h1 h2 => ?_, (h.below.setCell (p := ⟨w.heap.size, 0, none⟩) (Nat.le_refl _) _).setCell (p := ⟨w.heap.size + 1, 0, none⟩) (by show w.heap.size ≤ w.heap.size + 1; omega) _, by simpa [World.setCell] using h.size⟩
  · rw [lastW_snoc]
    exact blk_far (p := ⟨w.heap.size + 1, 0, none⟩) (blk_put h.b1 0 _ rfl) (show w.heap.size ≠ w.heap.size + 1 by omega) _
  · rw [lastW_snoc]
    exact blk_put (blk_far (p := ⟨w.heap.size, 0, none⟩) h.b2 (show w.heap.size + 1 ≠ w.heap.size by omega) _) 0 _ rfl
  · exact (Below.heap_setCell _ _ _ k (by show k ≠ w.heap.size + 1; omega)).trans ((Below.heap_setCell _ _ _ k (by show k ≠ w.heap.size; omega)).trans (h.rest k hk h1 h2))
set_option maxHeartbeats 8000000 in
set_option maxRecDepth 100000 in
theorem longest_calls (vw : Value) (w : World) (base t g c : Nat) (P : List Path) (ms : List Nat) (wd : List Int) (hT : TrieAt vw w base t g c P P ms wd) (h0P : P[0]? = some []) (hP : P.length ≤ 100000) (s : ByteArray) (hs : s.size ≤ 140737488355328) :
    Calls Tryz.prog 90 #[.pointer (some ⟨t, 0, none⟩), .string s] w fun e w' => e = .returned (.tuple #[.int .i64 (lastW (prefGo P wd s.data.toList s.size 0)).1, .int .i64 (lastW (prefGo P wd s.data.toList s.size 0)).2]) ∧ Below w.heap.size w w' := by
  have HT := Aside0.mk hT
  have hmx : Tryz.prog.follows .mixedOrders = true := by kernel_rfl
  clear hT
  refine (callsIn_wide (n := 7)).1 ?_
  refine callsIn_of_wp_marks Tryz.func90 rfl trivial ?_ rfl
  simp only [Tryz.ntmps90, List.size_toArray, List.length_cons, List.length_nil, Nat.reduceAdd, Nat.reduceSub, Array.replicate_succ, Array.replicate_zero, List.push_toArray, List.append_toArray, List.nil_append, List.cons_append]
  gi_wp2_with (first | ((first | refine ⟨trivial, fun h => absurd h (by decide), ?_⟩ | refine ⟨trivial, ?_⟩); (refine (callsIn_wide.2 (ends_made t s _)).mono ?_); rintro e w2 ⟨rfl, rfl⟩))
  have e3 : w.heap.size + 1 + 1 + 1 = w.heap.size + 3 := rfl
  have e2 : w.heap.size + 1 + 1 = w.heap.size + 2 := rfl
  rw [e3, e2]
  clear e3 e2
  obtain ⟨w4, hw4⟩ : ∃ w4, w4 = ((((w.alloc (.cells #[.int .i64 (-1)] 3)).alloc (.cells #[.int .i64 0] 3)).alloc (.cells #[.pointer (some ⟨t, 0, none⟩)] 99)).alloc (.cells #[.string s] 9)) := ⟨_, rfl⟩
  have s1 : (w.alloc (.cells #[.int .i64 (-1)] 3)).heap.size = w.heap.size + 1 := World.size_alloc _ _
  have s2 : ((w.alloc (.cells #[.int .i64 (-1)] 3)).alloc (.cells #[.int .i64 0] 3)).heap.size = w.heap.size + 2 := by rw [World.size_alloc, s1]
  have s3 : (((w.alloc (.cells #[.int .i64 (-1)] 3)).alloc (.cells #[.int .i64 0] 3)).alloc (.cells #[.pointer (some ⟨t, 0, none⟩)] 99)).heap.size = w.heap.size + 3 := by rw [World.size_alloc, s2]
  have s4 : w4.heap.size = w.heap.size + 4 := by rw [hw4, World.size_alloc, s3]
  have k1 : w4.heap[w.heap.size]? = some (.cells #[.int .i64 (-1)] 3 (0, 0)) := by rw [hw4]; exact blk_alloc (blk_alloc (blk_alloc (heap_alloc_new w _) _) _) _
  have k2 : w4.heap[w.heap.size + 1]? = some (.cells #[.int .i64 0] 3 (0, 0)) := by rw [hw4, ← s1]; exact blk_alloc (blk_alloc (heap_alloc_new _ _) _) _
  have k3 : w4.heap[w.heap.size + 2]? = some (.cells #[.pointer (some ⟨t, 0, none⟩)] 99 (0, 0)) := by rw [hw4, ← s2]; exact blk_alloc (heap_alloc_new _ _) _
  have k4 : w4.heap[w.heap.size + 3]? = some (.cells #[.string s] 9 (0, 0)) := by rw [hw4, ← s3]; exact heap_alloc_new _ _
  have hb4 : Below w.heap.size w w4 := by rw [hw4]; exact below_alloc (below_alloc (below_alloc (below_alloc (Below.refl _ _) _) _) _) _
  rw [← hw4]
  clear s1 s2 s3 hw4
  have h04 : LgAt w w4 [] w4 := ⟨k1, k2, fun _ _ _ _ => rfl, hb4, by omega⟩
  refine wp_range1 (gf := 144) (lb := #[.pointer (some ⟨w.heap.size + 3, 0, none⟩), .pointer (some ⟨w.heap.size + 2, 0, none⟩)]) (α := Int × Int) (encs := fun x => #[.int .i64 x.1, .int .i64 x.2]) rfl (enters_of Tryz.func144 (by kernel_rfl) rfl) (fun _ => rfl)
    (LgAt w w4) (fun _ _ => True) (prefGo P wd s.data.toList s.size 0) (s.size + 1)
    (fun pre W l o o' hl h hb hc => h.put o' (by omega)) (fun o₁ o₂ => ?start) (fun _ _ => trivial) (fun _ _ _ _ => trivial)
    (fun x => { tmps := #[.pointer (some ⟨t, 0, none⟩), .string s, undef, undef, .int .i64 0, .int .i64 0, .pointer (some ⟨w.heap.size, 0, none⟩), .pointer (some ⟨w.heap.size + 1, 0, none⟩), .int .i64 x.1, .int .i64 x.2, .pointer (some ⟨t, 0, none⟩), .string s, .func (.func 144) #[] #[.pointer (some ⟨w.heap.size + 3, 0, none⟩), .pointer (some ⟨w.heap.size + 2, 0, none⟩)], .int .i64 x.1, .int .i64 x.2, undef, undef, undef, undef], defers := [] }) ?assign ?body ?seq ?done
  case start => exact ⟨blk_alloc (blk_alloc k1 _) _, blk_alloc (blk_alloc k2 _) _, fun k hk _ _ => (Below.heap_alloc _ _ k (by rw [World.size_alloc]; omega)).trans (Below.heap_alloc _ _ k (by omega)), below_alloc (below_alloc hb4 _) _, by simp only [World.size_alloc]; omega⟩
  case assign =>
    intro l x W K hK
    gi_wp2
    exact hK
  case body =>
    rintro l pre x W hF hlt
    have f1 := blk_frozen hF.b1 0
    have f2 := blk_frozen hF.b2 0
    have HF := Aside0.mk hF
    have g1 : W.cell? ⟨w.heap.size, 0, none⟩ = some (.int .i64 (lastW pre).1) := (blk_cell hF.b1 0).trans rfl
    have g2 : W.cell? ⟨w.heap.size + 1, 0, none⟩ = some (.int .i64 (lastW pre).2) := (blk_cell hF.b2 0).trans rfl
    clear hF
    gi_wp2
    exact ⟨(KeepsOthers.setCell _ _ _).trans (KeepsOthers.setCell _ _ _), HF.out.step x⟩
  case seq =>
    rintro l D r W hl hD _ ⟨o₁, o₂, hW⟩ hY h0
    refine ends1_in (7 - 1) l (w.heap.size + 3) (w.heap.size + 2) (by omega) vw base t g c P ms wd h0P hP s hs (fun pre W => LgAt w w4 pre W ∧ W.heap[l]? = some r ∧ W.heap[D]? = some (.deferred (some []))) (fun pre W h => ⟨HT.out.below h.1.below, ?_, ?_⟩) (fun pre W h => ⟨h.1.drew, h.2.1, h.2.2⟩) (fun pre x W1 hj hlt => (hY pre x W1 hj hlt).mono (fun e w' h => ⟨h.1, h.2.1⟩)) W h0
    · have h1 := (h.1.rest (w.heap.size + 3) (by omega) (by omega) (by omega)).trans k4
      exact (blk_cell h1 0).trans rfl
    · have h1 := (h.1.rest (w.heap.size + 2) (by omega) (by omega) (by omega)).trans k3
      exact (blk_cell h1 0).trans rfl
  case done =>
    rintro D W hD hF hK
    have g1 : W.cell? ⟨w.heap.size, 0, none⟩ = some (.int .i64 (lastW (prefGo P wd s.data.toList s.size 0)).1) := (blk_cell hF.b1 0).trans rfl
    have g2 : W.cell? ⟨w.heap.size + 1, 0, none⟩ = some (.int .i64 (lastW (prefGo P wd s.data.toList s.size 0)).2) := (blk_cell hF.b2 0).trans rfl
    have HF3 := Aside0.mk ((hF.drew).put (.deferred none) (l := D) (by omega))
    have hK2 : W.drew.heap[D]? = some (.deferred (some [])) := hK
    have HK := Aside0.mk hK2
    clear hF hK hK2
    gi_wp2
    refine wpIn_mono (Q := NoPanic _) ?_ (fun e a w h => NoPanic.imp e a w h)
    gi_region_with_o (fail)
    all_goals refine NoPanic.normal ?_
    all_goals gi_wp2
    all_goals refine ⟨by simp, .inl ⟨_, _, rfl, run_takeDeferred HK.out, ?_⟩⟩
    all_goals exact ⟨_, results_tmp2 rfl _ _ _, rfl, HF3.out.below⟩
end Go.Proofs.YtoacojkmclngmaaGreatDoor
/- What a trie of words holds: the plain law. -/
namespace Go.Proofs.YtoacojkmclngmaaGreatDoor
set_option linter.unusedVariables false
set_option linter.unusedSimpArgs false
structure PutSpec (P : List Path) (wd : List Int) (p : Path) (s : List UInt8) (P' : List Path) (wd' : List Int) : Prop where
  pre : P <+: P'
  wpre : wd <+: wd'
  len : wd'.length = P'.length
  nd : P'.Nodup
  mem : p ++ s ∈ P'
  new : ∀ i, P.length ≤ i → i < P'.length → wd'[i]? = some (-1)
  from_ : ∀ q ∈ P', q ∈ P ∨ ∃ r, r <+: s ∧ q = p ++ r
  all : ∀ r, r <+: s → p ++ r ∈ P'
theorem putGo_spec : ∀ (s : List UInt8) (P : List Path) (wd : List Int) (p : Path), P.Nodup → p ∈ P → wd.length = P.length → PutSpec P wd p s (putGo P wd p s).1 (putGo P wd p s).2
  | [], P, wd, p, hn, hp, hl => ⟨List.prefix_refl _, List.prefix_refl _, hl, hn, by show p ++ [] ∈ P; simpa using hp, fun i h1 h2 => by have : i < P.length := h2; omega, fun q hq => .inl hq, fun r hr => by show p ++ r ∈ P; rw [List.prefix_nil.1 hr]; simpa using hp⟩
  | c :: s, P, wd, p, hn, hp, hl => by
    unfold putGo
    split
    · rename_i hin
      have h := putGo_spec s P wd (p ++ [c]) hn hin hl
      refine ⟨h.pre, h.wpre, h.len, h.nd, by have := h.mem; simpa using this, h.new, fun q hq => ?_, fun r hr => ?_⟩
      · rcases h.from_ q hq with h1 | ⟨r, hr, rfl⟩
        · exact .inl h1
        · exact .inr ⟨c :: r, by simpa using hr, by simp⟩
      · cases r with
        | nil => simpa using List.IsPrefix.subset h.pre hp
        | cons d r =>
          obtain ⟨rfl, hr2⟩ := List.cons_prefix_cons.1 hr
          have := h.all r hr2
          simpa using this
    · rename_i hno
      have hn2 : (P ++ [p ++ [c]]).Nodup := List.nodup_append.2 ⟨hn, by simp, fun a ha b hb => by rw [List.mem_singleton.1 hb]; rintro rfl; exact hno ha⟩
      have h := putGo_spec s (P ++ [p ++ [c]]) (wd ++ [-1]) (p ++ [c]) hn2 (by simp) (by simp [hl])
      refine ⟨(List.prefix_append _ _).trans h.pre, (List.prefix_append _ _).trans h.wpre, h.len, h.nd, by have := h.mem; simpa using this, fun i h1 h2 => ?_, fun q hq => ?_, fun r hr => ?_⟩
      · rcases Nat.lt_or_ge i (P.length + 1) with h3 | h3
        · have hi : i = P.length := by omega
          subst hi
          have hw := h.wpre
          obtain ⟨z, hz⟩ := hw
          rw [← hz, List.append_assoc, List.getElem?_append_right (by omega), hl, Nat.sub_self]; rfl
        · exact h.new i (by simpa using h3) h2
      · rcases h.from_ q hq with h1 | ⟨r, hr, rfl⟩
        · rcases List.mem_append.1 h1 with h1 | h1
          · exact .inl h1
          · exact .inr ⟨[c], by simp, by rw [List.mem_singleton.1 h1]⟩
        · exact .inr ⟨c :: r, by simpa using hr, by simp⟩
      · cases r with
        | nil => simpa using List.IsPrefix.subset ((List.prefix_append _ _).trans h.pre) hp
        | cons d r =>
          obtain ⟨rfl, hr2⟩ := List.cons_prefix_cons.1 hr
          have := h.all r hr2
          simpa using this
structure TrieOf (P : List Path) (wd : List Int) (D : List Path) : Prop where
  nd : P.Nodup
  len : wd.length = P.length
  root : [] ∈ P
  word : ∀ (i : Nat) (q : Path), P[i]? = some q → (wd[i]? = some (-1) ∧ q ∉ D) ∨ ∃ k : Nat, D[k]? = some q ∧ wd[i]? = some (k : Int)
  pre : ∀ q, q ∈ P ↔ q = [] ∨ ∃ d ∈ D, q <+: d
theorem trieGo_spec : ∀ (l : List ByteArray) (P : List Path) (wd : List Int) (D : List Path), TrieOf P wd D → (D ++ l.map (fun s => s.data.toList)).Nodup → ∃ P' wd', trieGo l D.length P wd = some (P', wd') ∧ TrieOf P' wd' (D ++ l.map (fun s => s.data.toList)) ∧ P'[0]? = P[0]?
  | [], P, wd, D, h, hn => ⟨P, wd, rfl, by simpa using h, rfl⟩
  | s :: l, P, wd, D, h, hn => by
    have hp := putGo_spec s.data.toList P wd [] h.nd h.root h.len
    obtain ⟨P1, wd1, hP1⟩ : ∃ P1 wd1, putGo P wd [] s.data.toList = (P1, wd1) := ⟨_, _, rfl⟩
    rw [hP1] at hp
    simp only [List.nil_append] at hp
    have hsD : s.data.toList ∉ D := by
      intro hm
      have := (List.nodup_append.1 hn).2.2 _ hm (s.data.toList) (by simp)
      exact this rfl
    have hmem : s.data.toList ∈ P1 := by simpa using hp.mem
    obtain ⟨i, hi, hie⟩ := List.getElem_of_mem hmem
    have hie2 : P1[i]? = some s.data.toList := by rw [List.getElem?_eq_getElem hi, hie]
    have hidx : P1.idxOf s.data.toList = i := idx_of hp.nd hie2
    have hwi : wd1[i]? = some (-1) := by
      rcases Nat.lt_or_ge i P.length with hlt | hge
      · have hPi : P[i]? = some s.data.toList := by
          obtain ⟨z, hz⟩ := hp.pre
          rw [← hz, List.getElem?_append_left hlt] at hie2
          exact hie2
        rcases h.word i _ hPi with ⟨h1, _⟩ | ⟨k, hk, _⟩
        · obtain ⟨z, hz⟩ := hp.wpre
          rw [← hz, List.getElem?_append_left (by rw [h.len]; exact hlt)]
          exact h1
        · exact absurd (List.mem_of_getElem? hk) hsD
      · exact hp.new i hge hi
    have hiw : i < wd1.length := by rw [hp.len]; exact hi
    have hT : TrieOf P1 (wd1.set i (D.length : Int)) (D ++ [s.data.toList]) := by
      refine ⟨hp.nd, by rw [List.length_set]; exact hp.len, List.IsPrefix.subset hp.pre h.root, fun j q hj => ?_, fun q => ⟨fun hq => ?_, fun hq => ?_⟩⟩
      · by_cases hji : j = i
        · subst hji
          rw [hie2] at hj
          injection hj with hj
          subst hj
          exact .inr ⟨D.length, by simp, by rw [List.getElem?_set_self hiw]⟩
        · have hqs : q ≠ s.data.toList := fun e => hji (by
            have hjl := (List.getElem?_eq_some_iff.1 hj).1
            exact (List.getElem?_inj hjl hp.nd).1 (hj.trans (e ▸ hie2.symm)))
          rw [List.getElem?_set_ne (Ne.symm hji)]
          rcases Nat.lt_or_ge j P.length with hlt | hge
          · have hPj : P[j]? = some q := by
              obtain ⟨z, hz⟩ := hp.pre
              rw [← hz, List.getElem?_append_left hlt] at hj
              exact hj
            have hwj : wd1[j]? = wd[j]? := by
              obtain ⟨z, hz⟩ := hp.wpre
              rw [← hz, List.getElem?_append_left (by rw [h.len]; exact hlt)]
            rw [hwj]
            rcases h.word j q hPj with ⟨h1, h2⟩ | ⟨k, hk, h1⟩
            · exact .inl ⟨h1, by simp [h2, hqs]⟩
            · exact .inr ⟨k, by rw [List.getElem?_append_left (List.getElem?_eq_some_iff.1 hk).1]; exact hk, h1⟩
          · have hjl := (List.getElem?_eq_some_iff.1 hj).1
            refine .inl ⟨hp.new j hge hjl, ?_⟩
            intro hqD
            rcases List.mem_append.1 hqD with hqD | hqD
            · have hqP : q ∈ P := (h.pre q).2 (.inr ⟨q, hqD, List.prefix_refl _⟩)
              obtain ⟨j2, hj2, hje⟩ := List.getElem_of_mem hqP
              have h3 : P1[j2]? = some q := by
                obtain ⟨z, hz⟩ := hp.pre
                rw [← hz, List.getElem?_append_left hj2, List.getElem?_eq_getElem hj2, hje]
              have := (List.getElem?_inj hjl hp.nd).1 (hj.trans h3.symm)
              omega
            · exact hqs (List.mem_singleton.1 hqD)
      · rcases hp.from_ q hq with h1 | ⟨r, hr, rfl⟩
        · rcases (h.pre q).1 h1 with h2 | ⟨d, hd, h2⟩
          · exact .inl h2
          · exact .inr ⟨d, List.mem_append.2 (.inl hd), h2⟩
        · exact .inr ⟨s.data.toList, by simp, by simpa using hr⟩
      · rcases hq with rfl | ⟨d, hd, hq⟩
        · exact List.IsPrefix.subset hp.pre h.root
        · rcases List.mem_append.1 hd with hd | hd
          · exact List.IsPrefix.subset hp.pre ((h.pre q).2 (.inr ⟨d, hd, hq⟩))
          · rw [List.mem_singleton.1 hd] at hq
            simpa using hp.all q hq
    have hn2 : (D ++ [s.data.toList] ++ l.map (fun s => s.data.toList)).Nodup := by simpa using hn
    obtain ⟨P', wd', hgo, hT', h0⟩ := trieGo_spec l P1 (wd1.set i (D.length : Int)) (D ++ [s.data.toList]) hT hn2
    refine ⟨P', wd', ?_, by simpa using hT', ?_⟩
    · rw [trieGo, hP1]
      simp only
      rw [hidx, if_pos hwi]
      simpa using hgo
    · rw [h0]
      obtain ⟨z, hz⟩ := hp.pre
      rw [← hz, List.getElem?_append_left]
      exact List.length_pos_of_mem h.root
theorem trie_root : TrieOf [[]] [-1] [] := ⟨by simp, rfl, by simp, fun i q hq => by
  have := List.mem_singleton.1 (List.mem_of_getElem? hq)
  subst this
  have hi := (List.getElem?_eq_some_iff.1 hq).1
  obtain rfl : i = 0 := by simpa using hi
  exact .inl ⟨rfl, by simp⟩, fun q => by simp⟩
end Go.Proofs.YtoacojkmclngmaaGreatDoor
namespace Go.Proofs.YtoacojkmclngmaaGreatDoor.Pz
open Go.RowKit Go.Proofs.YtoacojkmclngmaaGreatDoorW.PrintWords Go.Proofs.YtoacojkmclngmaaGreatDoorW.PrintLast Go.Proofs.YtoacojkmclngmaaGreatDoorW.PrintMore
attribute [local go_sem] max2_int min2_int max_two min_two max_three min_three max_four min_four   -- for this text's walks alone
attribute [local go_sem] rune_str
set_option linter.unusedVariables false
set_option linter.unusedSimpArgs false
section
open Go.Shelf Go.RowKit Go.Lib Go.Sort
def trieV : List Path × List Int := (trieGo namesV 0 [[]] [-1]).getD ([], [])
theorem names_fine : ∀ s ∈ namesV, oddV s = false := by
  have h : namesV.all (fun s => !oddV s) = true := by kernel_rfl
  intro s hs
  have := List.all_eq_true.1 h s hs
  simpa using this
theorem names_nodup : (namesV.map (fun s => s.data.toList)).Nodup := by
  have h := ascE_pairwise allV allV_asc
  have e : namesV.map (fun s => s.data.toList) = allV.map (fun x => x.f0.data.toList) := by unfold namesV; rw [List.map_map]; rfl
  rw [e]
  refine List.Pairwise.map _ (fun x y hxy => ?_) h
  intro he
  have h1 : x.f0.toList = y.f0.toList := by rw [Lib.toList_data, Lib.toList_data]; exact he
  rw [h1] at hxy
  exact List.lt_irrefl _ hxy
theorem trieV_of : trieGo namesV 0 [[]] [-1] = some (trieV.1, trieV.2) ∧ TrieOf trieV.1 trieV.2 (namesV.map (fun s => s.data.toList)) ∧ trieV.1[0]? = some [] := by
  obtain ⟨P', wd', h1, h2, h3⟩ := trieGo_spec namesV [[]] [-1] [] trie_root (by simpa using names_nodup)
  rw [List.length_nil] at h1
  have e : trieV = (P', wd') := by unfold trieV; rw [h1]; rfl
  rw [e]
  exact ⟨h1, by simpa using h2, h3⟩
theorem trieV_eq : trieGo namesV 0 [[]] [-1] = some (trieV.1, trieV.2) := trieV_of.1
theorem trieGo_length : ∀ (l : List ByteArray) (x : Nat) (P : List Path) (wd : List Int) (P' : List Path) (wd' : List Int), (∀ s ∈ l, oddV s = false) → trieGo l x P wd = some (P', wd') → P'.length ≤ P.length + 64 * l.length
  | [], x, P, wd, P', wd', _, h => by
    injection h with h
    injection h with h1 h2
    subst h1
    simp
  | s :: l, x, P, wd, P', wd', hs, h => by
    unfold trieGo at h
    split at h
    case isFalse => cases h
    have ih := trieGo_length l _ _ _ P' wd' (fun a ha => hs a (List.mem_cons_of_mem _ ha)) h
    have h1 := putGo_length s.data.toList P wd []
    have h2 := hs s (List.mem_cons_self)
    unfold oddV at h2
    simp at h2
    rw [Array.length_toList] at h1
    have h3 : (putGo P wd [] s.data.toList).1.length ≤ P.length + s.size := h1
    simp only [List.length_cons]
    omega
theorem trieV_len : trieV.1.length ≤ 100000 := by
  have h := trieGo_length namesV 0 [[]] [-1] trieV.1 trieV.2 names_fine trieV_eq
  rw [namesV_len] at h
  simp at h
  omega
theorem trieV_words : ∀ x ∈ trieV.2, -1 ≤ x ∧ x < 134 := by
  intro x hx
  obtain ⟨i, hi, rfl⟩ := List.getElem_of_mem hx
  have hT := trieV_of.2.1
  have hiP : i < trieV.1.length := by rw [← hT.len]; exact hi
  rcases hT.word i _ (List.getElem?_eq_getElem hiP) with ⟨h1, _⟩ | ⟨k, hk, h1⟩
  · rw [List.getElem?_eq_getElem hi] at h1
    injection h1 with h1
    omega
  · rw [List.getElem?_eq_getElem hi] at h1
    injection h1 with h1
    have := (List.getElem?_eq_some_iff.1 hk).1
    rw [List.length_map, namesV_len] at this
    omega
def longV (s : ByteArray) : Int × Int := lastW (prefGo trieV.1 trieV.2 s.data.toList s.size 0)
def namedV (s : ByteArray) : ByteArray × Int := if (longV s).2 = 0 then (⟨#[]⟩, 0) else ((allV.toArray[(longV s).1.toNat]!).f1, (longV s).2)
theorem prefGo_mem (P : List Path) (wd : List Int) (s : List UInt8) : ∀ (k i : Nat) (x : Int × Int), x ∈ prefGo P wd s k i → x.1 ∈ wd ∧ x.1 ≠ -1 ∧ (i : Int) < x.2 ∧ x.2 ≤ (i : Int) + k
  | 0, i, x, h => by simp [prefGo] at h
  | k + 1, i, x, h => by
    unfold prefGo at h
    split at h
    · split at h
      · have := prefGo_mem P wd s k (i + 1) x h
        refine ⟨this.1, this.2.1, by omega, by omega⟩
      · rename_i hne
        rcases List.mem_cons.1 h with rfl | h
        · refine ⟨?_, hne, by show (i : Int) < ((i + 1 : Nat) : Int); omega, by show ((i + 1 : Nat) : Int) ≤ _; omega⟩
          rw [List.getD_eq_getElem?_getD] at hne ⊢
          cases hg : wd[P.idxOf (s.take (i + 1))]? with
          | none => rw [hg] at hne; exact absurd rfl hne
          | some y => exact List.mem_of_getElem? hg
        · have := prefGo_mem P wd s k (i + 1) x h
          refine ⟨this.1, this.2.1, by omega, by omega⟩
    · simp at h
theorem longV_spec (s : ByteArray) : (longV s).2 = 0 ∨ (0 ≤ (longV s).1 ∧ (longV s).1 < 134 ∧ 0 < (longV s).2 ∧ (longV s).2 ≤ s.size) := by
  unfold longV lastW
  cases h : (prefGo trieV.1 trieV.2 s.data.toList s.size 0).getLast? with
  | none => exact .inl rfl
  | some x =>
    right
    have hm := prefGo_mem _ _ _ _ _ x (List.mem_of_getLast? h)
    have hw := trieV_words x.1 hm.1
    simp only [Option.getD_some]
    refine ⟨?_, hw.2, by omega, by omega⟩
    have := hm.2.1
    omega
def entity_Named.f (a0 : ByteArray) : Option (ByteArray × Int) := if a0.size ≤ 140737488355328 then some (namedV a0) else none
set_option maxHeartbeats 4000000 in
set_option maxRecDepth 100000 in
theorem entity_Named.calls (a0 : ByteArray) (r1 : ByteArray) (r2 : Int) (w : World) (hG : Glob w) (h : entity_Named.f a0 = some (r1, r2)) :
    Calls Tryz.prog 65 #[.string a0] w fun e w' => e = .returned (.tuple #[.string r1, .int .i64 r2]) ∧ Below w.heap.size w w' := by
  unfold entity_Named.f at h
  split at h
  case isFalse => cases h
  rename_i hs
  have h2 := Option.some.inj h
  clear h
  have HNF := Aside0.mk names_fine
  have HNL := Aside0.mk namesV_len
  have HAL := Aside0.mk allV_len
  have hsp := longV_spec a0
  have HTL := Aside0.mk trieV_len
  have HTE := Aside0.mk trieV_eq
  obtain ⟨q, hq⟩ : ∃ q, q = longV a0 := ⟨_, rfl⟩
  unfold namedV at h2
  rw [← hq] at h2 hsp
  have HQ : Aside0 (lastW (prefGo trieV.1 trieV.2 a0.data.toList a0.size 0) = q) := ⟨hq.symm⟩
  clear hq
  obtain ⟨q1, q2⟩ := q
  simp only at h2 hsp
  have H2 := Aside0.mk h2
  clear h2
  go_enter Tryz.func65, Tryz.ntmps65
  go_upto_region 4 with (first
    | (go_at_call 89; (with_reducible refine (names_row _).mono ?_); rintro e w1 ⟨v, rfl, ho, hb⟩; obtain ⟨g1, c1, rfl, hge, hlt, hcs⟩ := row_some ho (by decide); have HC1 := Aside0.mk hcs; have HB1 := Aside0.mk hb; have HL1 := Aside0.mk hlt; have hnew := new_calls w1 g1 c1 namesV hcs hlt (by rw [HNL.out]; decide) (by rw [HNL.out]; decide) HNF.out trieV.1 trieV.2 HTE.out; rw [HNL.out] at hnew; have HNEW := Aside0.mk hnew; clear ho hb hcs hge hlt hnew)
    | (go_at_call 88; ((with_reducible refine HNEW.out.mono ?_); rintro e w2 ⟨t, g2, c2, ms, vw, rfl, hT, h0, hb⟩; have HT := Aside0.mk hT; have H0 := Aside0.mk h0; have HB2 := Aside0.mk (below_weaken HB1.out HB1.out.size hb); have hlg := longest_calls vw w2 _ t g2 c2 trieV.1 ms trieV.2 hT h0 HTL.out a0 hs; rw [HQ.out] at hlg; have HLG := Aside0.mk hlg; clear hT h0 hb hlg)))
  by_cases hz : q2 = 0
  · subst hz
    have h2 := H2.out
    rw [if_pos rfl] at h2
    injection h2 with e1 e2
    subst e1 e2
    go_wp2_with (first | (go_at_call 90; (with_reducible refine HLG.out.mono ?_); rintro e w3 ⟨rfl, hb⟩; have HB3 := Aside0.mk (below_weaken HB2.out HB2.out.size hb); clear hb))
    go_ret2
    exact ⟨rfl, HB3.out⟩
  · have h2 := H2.out
    rw [if_neg hz] at h2
    injection h2 with e1 e2
    subst e2
    have hsp2 := hsp.resolve_left hz
    obtain ⟨m, rfl⟩ : ∃ m : Nat, q1 = m := ⟨q1.toNat, by omega⟩
    have hm : m < 134 := by omega
    have hmz : (m : Int) < 134 := by omega
    have hzb : (q2 == 0) = false := by simpa using hz
    have hml : m < allV.length := by rw [HAL.out]; exact hm
    have hel : allV.toArray[(m : Int).toNat]! = allV[m]'hml := by rw [Int.toNat_natCast, getElem!_pos _ m (by simpa using hml)]; simp
    rw [hel] at e1
    obtain ⟨x, hx⟩ : ∃ x, x = (allV[m]'hml).f1 := ⟨_, rfl⟩
    rw [← hx] at e1
    subst e1
    have HX := Aside0.mk hx
    have HML := Aside0.mk hml
    clear hel H2 hsp hsp2 hx
    go_wp2_with (first
      | (go_at_call 90; (with_reducible refine HLG.out.mono ?_); rintro e w3 ⟨rfl, hb⟩; have HB3 := Aside0.mk (below_weaken HB2.out HB2.out.size hb); clear hb)
      | (go_at_call 91; (with_reducible refine (all_row _).mono ?_); rintro e w4 ⟨b, c, rfl, hge, hlt, hh, hb⟩; have HB4 := Aside0.mk (below_weaken HB3.out HB3.out.size hb); have hcl := (holds_cells hh m HML.out).2; rw [← HX.out] at hcl; clear hge hlt hh hb))
    go_ret2
    exact ⟨rfl, HB4.out⟩
end
end Go.Proofs.YtoacojkmclngmaaGreatDoor.Pz
namespace Go.Proofs.YtoacojkmclngmaaGreatDoor.Pz
open Go.RowKit Go.Proofs.YtoacojkmclngmaaGreatDoorW.PrintWords Go.Proofs.YtoacojkmclngmaaGreatDoorW.PrintLast Go.Proofs.YtoacojkmclngmaaGreatDoorW.PrintMore
attribute [local go_sem] max2_int min2_int max_two min_two max_three min_three max_four min_four   -- for this text's walks alone
attribute [local go_sem] rune_str
set_option linter.unusedVariables false
set_option linter.unusedSimpArgs false
def isLetter (c : Int) : Bool := decide (65 ≤ c) && decide (c ≤ 90) || decide (97 ≤ c) && decide (c ≤ 122)
theorem letter_bits (c : Int) (h0 : 0 ≤ c) (h1 : c ≤ 255) : (decide (97 ≤ bits BinOp.or IntKind.u8 c 32) && decide (bits BinOp.or IntKind.u8 c 32 ≤ 122)) = isLetter c := by
  have h : ∀ n : Fin 256, (decide (97 ≤ bits BinOp.or IntKind.u8 (n.val : Int) 32) && decide (bits BinOp.or IntKind.u8 (n.val : Int) 32 ≤ 122)) = isLetter (n.val : Int) := by decide +kernel
  have := h ⟨c.toNat, by omega⟩
  simpa [Int.toNat_of_nonneg h0] using this
theorem Letter_same (c : Int) (h0 : 0 ≤ c) (h1 : c ≤ 255) (w : World) : Calls Tryz.prog 92 #[.int .u8 c] w fun e w' => e = .returned (.bool (isLetter c)) ∧ w = w' := by
  rw [← letter_bits c h0 h1]
  go_enter Tryz.func92, Tryz.ntmps92
  go_wp2_with (go_at_call 39; refine (between_same _ _ _ _).mono ?_; rintro e w2 ⟨rfl, rfl⟩)
  go_ret
  exact ⟨rfl, rfl⟩
def class_Letter.f (a0 : Int) : Option Bool := if 0 ≤ a0 ∧ a0 ≤ 255 then some (isLetter a0) else none
theorem class_Letter.calls (a0 : Int) (r : Bool) (w : World) (h : class_Letter.f a0 = some r) :
    Calls Tryz.prog 92 #[.int .u8 a0] w fun e w' => e = .returned (.bool r) ∧ Drawn0 w w' := by
  unfold class_Letter.f at h
  split at h
  case isFalse => cases h
  rename_i hs
  obtain rfl := Option.some.inj h
  exact (Letter_same a0 hs.1 hs.2 w).mono fun e w' ⟨he, hw⟩ => ⟨he, hw ▸ Drawn0.refl w⟩
end Go.Proofs.YtoacojkmclngmaaGreatDoor.Pz
namespace Go.Proofs.YtoacojkmclngmaaGreatDoor.Pz
open Go.RowKit Go.Proofs.YtoacojkmclngmaaGreatDoorW.PrintWords Go.Proofs.YtoacojkmclngmaaGreatDoorW.PrintLast Go.Proofs.YtoacojkmclngmaaGreatDoorW.PrintMore
attribute [local go_sem] max2_int min2_int max_two min_two max_three min_three max_four min_four   -- for this text's walks alone
attribute [local go_sem] rune_str
set_option linter.unusedVariables false
set_option linter.unusedSimpArgs false
def charref_goes.f (a0 : Int) : Option (Bool) := if a0 = 61 then (some true) else ((class_Letter.f a0).bind fun t113 => (if t113 = true then (some true) else ((class_Digit.f a0).bind fun t114 => (some t114))))
set_option maxHeartbeats 8000000 in
set_option maxRecDepth 100000 in
theorem charref_goes.calls (a0 : Int) (r : Bool) (w : World) (h : charref_goes.f a0 = some r) :
    Calls Tryz.prog 66 #[.int .u8 a0] w fun e w' => e = .returned (.bool r) ∧ Drawn0 w w' := by
  have H : (if a0 = 61 then (some true) else ((class_Letter.f a0).bind fun t113 => (if t113 = true then (some true) else ((class_Digit.f a0).bind fun t114 => (some t114))))) = some r := h
  clear h
  by_cases c2 : a0 = 61
  · rw [if_pos c2] at H
    have c2b0 : (a0 == 61) = true := beq_iff_eq.mpr c2
    have c2b1 : (a0 != 61) = false := bne_eq_false_iff_eq.mpr c2
    clear c2
    obtain rfl := Option.some.inj H
    go_enter Tryz.func66, Tryz.ntmps66
    go_wp2
    go_ret
    exact ⟨by first | rfl | (simp; done) | (simp [*]; done), by repeat (first | exact Drawn0.refl _ | apply Drawn0.step)⟩
  · rw [if_neg c2] at H
    have c2b0 : (a0 == 61) = false := beq_eq_false_iff_ne.mpr c2
    have c2b1 : (a0 != 61) = true := bne_iff_ne.mpr c2
    replace H := Option.bind_eq_some_iff.mp H
    obtain ⟨t113, A30, H⟩ := H
    replace H : (if t113 = true then (some true) else ((class_Digit.f a0).bind fun t114 => (some t114))) = some r := H
    have A3 := Aside0.mk A30
    clear A30
    by_cases c4 : t113 = true
    · subst c4
      have H1 : (some true) = some r := by rw [if_pos rfl] at H; exact H
      clear H
      have H := H1
      clear H1
      obtain rfl := Option.some.inj H
      go_enter Tryz.func66, Tryz.ntmps66
      go_wp2_with (first | (go_at_call 92; refine calls_of_args (args' := #[.int .u8 a0]) (by first | rfl | rfl) ?_; (with_reducible refine (class_Letter.calls a0 true _ A3.out).mono ?_); rintro e w' ⟨rfl, ⟨nd, rfl⟩⟩))
      go_ret
      exact ⟨by first | rfl | (simp; done) | (simp [*]; done), by repeat (first | exact Drawn0.refl _ | apply Drawn0.step)⟩
    · replace c4 := Bool.eq_false_iff.mpr c4
      subst c4
      have H1 : ((class_Digit.f a0).bind fun t114 => (some t114)) = some r := by rw [if_neg (show ¬ (false = true) by decide)] at H; exact H
      clear H
      have H := H1
      clear H1
      replace H := Option.bind_eq_some_iff.mp H
      obtain ⟨t114, A50, H⟩ := H
      replace H : (some t114) = some r := H
      have A5 := Aside0.mk A50
      clear A50
      obtain rfl := Option.some.inj H
      go_enter Tryz.func66, Tryz.ntmps66
      go_wp2_with (first | (go_at_call 92; refine calls_of_args (args' := #[.int .u8 a0]) (by first | rfl | rfl) ?_; (with_reducible refine (class_Letter.calls a0 false _ A3.out).mono ?_); rintro e w' ⟨rfl, ⟨nd, rfl⟩⟩) | (go_at_call 41; refine calls_of_args (args' := #[.int .u8 a0]) (by first | rfl | rfl) ?_; (with_reducible refine (class_Digit.calls a0 t114 _ A5.out).mono ?_); rintro e w' ⟨rfl, ⟨nd, rfl⟩⟩))
      go_ret
      exact ⟨by first | rfl | (simp; done) | (simp [*]; done), by repeat (first | exact Drawn0.refl _ | apply Drawn0.step)⟩
end Go.Proofs.YtoacojkmclngmaaGreatDoor.Pz
namespace Go.Proofs.YtoacojkmclngmaaGreatDoor.Pz
open Go.RowKit Go.Proofs.YtoacojkmclngmaaGreatDoorW.PrintWords Go.Proofs.YtoacojkmclngmaaGreatDoorW.PrintLast Go.Proofs.YtoacojkmclngmaaGreatDoorW.PrintMore
attribute [local go_sem] max2_int min2_int max_two min_two max_three min_three max_four min_four   -- for this text's walks alone
attribute [local go_sem] rune_str
set_option linter.unusedVariables false
set_option linter.unusedSimpArgs false
def charref_One.f (a0 : ByteArray) (a1 : Bool) : Option (ByteArray × Int) := (strings_HasPrefix.f a0 (⟨#[38]⟩ : ByteArray)).bind fun t115 => (if t115 = true then ((strings_HasPrefix.f a0 (⟨#[38, 35]⟩ : ByteArray)).bind fun t116 => (if t116 = true then ((charref_numeric.f a0).bind fun bt117 => (some (bt117.1, bt117.2))) else (if 1 ≤ (a0.size : Int) then ((entity_Named.f (a0.extract 1 a0.size)).bind fun bt119 => (if bt119.2 = 0 then (some ((⟨#[]⟩ : ByteArray), 0)) else (if a1 = true then (if 0 ≤ bt119.2 then (if bt119.2 < (a0.size : Int) then (if (bt a0 bt119.2) = 59 then (some (bt119.1, wrap64 (bt119.2 + 1))) else (if (wrap64 (bt119.2 + 1)) < (a0.size : Int) then (if 0 ≤ (wrap64 (bt119.2 + 1)) then ((charref_goes.f (bt a0 (wrap64 (bt119.2 + 1)))).bind fun t121 => (if t121 = true then (some ((⟨#[]⟩ : ByteArray), 0)) else (some (bt119.1, wrap64 (bt119.2 + 1))))) else (none)) else (some (bt119.1, wrap64 (bt119.2 + 1))))) else (none)) else (none)) else (some (bt119.1, wrap64 (bt119.2 + 1)))))) else (none)))) else (some ((⟨#[]⟩ : ByteArray), 0)))
set_option maxHeartbeats 8000000 in
set_option maxRecDepth 100000 in
theorem charref_One.calls (a0 : ByteArray) (a1 : Bool) (r1 : ByteArray) (r2 : Int) (w : World) (hG : Glob w) (h : charref_One.f a0 a1 = some (r1, r2)) :
    Calls Tryz.prog 45 #[.string a0, .bool a1] w fun e w' => e = .returned (.tuple #[.string r1, .int .i64 r2]) ∧ Below w.heap.size w w' := by
  have HB := Aside0.mk (Below.refl w.heap.size w)
  have H : ((strings_HasPrefix.f a0 (⟨#[38]⟩ : ByteArray)).bind fun t115 => (if t115 = true then ((strings_HasPrefix.f a0 (⟨#[38, 35]⟩ : ByteArray)).bind fun t116 => (if t116 = true then ((charref_numeric.f a0).bind fun bt117 => (some (bt117.1, bt117.2))) else (if 1 ≤ (a0.size : Int) then ((entity_Named.f (a0.extract 1 a0.size)).bind fun bt119 => (if bt119.2 = 0 then (some ((⟨#[]⟩ : ByteArray), 0)) else (if a1 = true then (if 0 ≤ bt119.2 then (if bt119.2 < (a0.size : Int) then (if (bt a0 bt119.2) = 59 then (some (bt119.1, wrap64 (bt119.2 + 1))) else (if (wrap64 (bt119.2 + 1)) < (a0.size : Int) then (if 0 ≤ (wrap64 (bt119.2 + 1)) then ((charref_goes.f (bt a0 (wrap64 (bt119.2 + 1)))).bind fun t121 => (if t121 = true then (some ((⟨#[]⟩ : ByteArray), 0)) else (some (bt119.1, wrap64 (bt119.2 + 1))))) else (none)) else (some (bt119.1, wrap64 (bt119.2 + 1))))) else (none)) else (none)) else (some (bt119.1, wrap64 (bt119.2 + 1)))))) else (none)))) else (some ((⟨#[]⟩ : ByteArray), 0)))) = some (r1, r2) := h
  clear h
  replace H := Option.bind_eq_some_iff.mp H
  obtain ⟨t115, A30, H⟩ := H
  replace H : (if t115 = true then ((strings_HasPrefix.f a0 (⟨#[38, 35]⟩ : ByteArray)).bind fun t116 => (if t116 = true then ((charref_numeric.f a0).bind fun bt117 => (some (bt117.1, bt117.2))) else (if 1 ≤ (a0.size : Int) then ((entity_Named.f (a0.extract 1 a0.size)).bind fun bt119 => (if bt119.2 = 0 then (some ((⟨#[]⟩ : ByteArray), 0)) else (if a1 = true then (if 0 ≤ bt119.2 then (if bt119.2 < (a0.size : Int) then (if (bt a0 bt119.2) = 59 then (some (bt119.1, wrap64 (bt119.2 + 1))) else (if (wrap64 (bt119.2 + 1)) < (a0.size : Int) then (if 0 ≤ (wrap64 (bt119.2 + 1)) then ((charref_goes.f (bt a0 (wrap64 (bt119.2 + 1)))).bind fun t121 => (if t121 = true then (some ((⟨#[]⟩ : ByteArray), 0)) else (some (bt119.1, wrap64 (bt119.2 + 1))))) else (none)) else (some (bt119.1, wrap64 (bt119.2 + 1))))) else (none)) else (none)) else (some (bt119.1, wrap64 (bt119.2 + 1)))))) else (none)))) else (some ((⟨#[]⟩ : ByteArray), 0))) = some (r1, r2) := H
  have A3 := Aside0.mk A30
  clear A30
  by_cases c4 : t115 = true
  · subst c4
    have H1 : ((strings_HasPrefix.f a0 (⟨#[38, 35]⟩ : ByteArray)).bind fun t116 => (if t116 = true then ((charref_numeric.f a0).bind fun bt117 => (some (bt117.1, bt117.2))) else (if 1 ≤ (a0.size : Int) then ((entity_Named.f (a0.extract 1 a0.size)).bind fun bt119 => (if bt119.2 = 0 then (some ((⟨#[]⟩ : ByteArray), 0)) else (if a1 = true then (if 0 ≤ bt119.2 then (if bt119.2 < (a0.size : Int) then (if (bt a0 bt119.2) = 59 then (some (bt119.1, wrap64 (bt119.2 + 1))) else (if (wrap64 (bt119.2 + 1)) < (a0.size : Int) then (if 0 ≤ (wrap64 (bt119.2 + 1)) then ((charref_goes.f (bt a0 (wrap64 (bt119.2 + 1)))).bind fun t121 => (if t121 = true then (some ((⟨#[]⟩ : ByteArray), 0)) else (some (bt119.1, wrap64 (bt119.2 + 1))))) else (none)) else (some (bt119.1, wrap64 (bt119.2 + 1))))) else (none)) else (none)) else (some (bt119.1, wrap64 (bt119.2 + 1)))))) else (none)))) = some (r1, r2) := by rw [if_pos rfl] at H; exact H
    clear H
    have H := H1
    clear H1
    replace H := Option.bind_eq_some_iff.mp H
    obtain ⟨t116, A50, H⟩ := H
    replace H : (if t116 = true then ((charref_numeric.f a0).bind fun bt117 => (some (bt117.1, bt117.2))) else (if 1 ≤ (a0.size : Int) then ((entity_Named.f (a0.extract 1 a0.size)).bind fun bt119 => (if bt119.2 = 0 then (some ((⟨#[]⟩ : ByteArray), 0)) else (if a1 = true then (if 0 ≤ bt119.2 then (if bt119.2 < (a0.size : Int) then (if (bt a0 bt119.2) = 59 then (some (bt119.1, wrap64 (bt119.2 + 1))) else (if (wrap64 (bt119.2 + 1)) < (a0.size : Int) then (if 0 ≤ (wrap64 (bt119.2 + 1)) then ((charref_goes.f (bt a0 (wrap64 (bt119.2 + 1)))).bind fun t121 => (if t121 = true then (some ((⟨#[]⟩ : ByteArray), 0)) else (some (bt119.1, wrap64 (bt119.2 + 1))))) else (none)) else (some (bt119.1, wrap64 (bt119.2 + 1))))) else (none)) else (none)) else (some (bt119.1, wrap64 (bt119.2 + 1)))))) else (none))) = some (r1, r2) := H
    have A5 := Aside0.mk A50
    clear A50
    by_cases c6 : t116 = true
    · subst c6
      have H1 : ((charref_numeric.f a0).bind fun bt117 => (some (bt117.1, bt117.2))) = some (r1, r2) := by rw [if_pos rfl] at H; exact H
      clear H
      have H := H1
      clear H1
      replace H := Option.bind_eq_some_iff.mp H
      obtain ⟨⟨t117, t118⟩, A70, H⟩ := H
      replace H : (some (t117, t118)) = some (r1, r2) := H
      have A7 := Aside0.mk A70
      clear A70
      simp only [Option.some.injEq, Prod.mk.injEq] at H
      obtain ⟨rfl, rfl⟩ := H
      go_enter Tryz.func45, Tryz.ntmps45
      go_wp2_with (first | ((with_reducible refine gate_callee (f := 63) rfl ?_); refine goesL_ (some 11) rfl rfl Tryz.func63 (by kernel_rfl) rfl #[.string a0, .string (⟨#[38]⟩ : ByteArray)] rfl (by (try simp only [List.map_toArray, List.map_cons, List.map_nil]); first | done | rfl | (simp only [List.length_drop, List.length_take]; rfl)) ?_; (with_reducible refine (strings_HasPrefix.calls a0 (⟨#[38]⟩ : ByteArray) true _ A3.out).mono ?_); rintro e w' ⟨rfl, ⟨nd, rfl⟩⟩; refine ⟨_, rfl, ?_⟩) | ((with_reducible refine gate_callee (f := 63) rfl ?_); refine goesL_ (some 15) rfl rfl Tryz.func63 (by kernel_rfl) rfl #[.string a0, .string (⟨#[38, 35]⟩ : ByteArray)] rfl (by (try simp only [List.map_toArray, List.map_cons, List.map_nil]); first | done | rfl | (simp only [List.length_drop, List.length_take]; rfl)) ?_; (with_reducible refine (strings_HasPrefix.calls a0 (⟨#[38, 35]⟩ : ByteArray) true _ A5.out).mono ?_); rintro e w' ⟨rfl, ⟨nd, rfl⟩⟩; refine ⟨_, rfl, ?_⟩) | ((with_reducible refine gate_callee (f := 64) rfl ?_); refine goesL_ (some 17) rfl rfl Tryz.func64 (by kernel_rfl) rfl #[.string a0] rfl (by (try simp only [List.map_toArray, List.map_cons, List.map_nil]); first | done | rfl | (simp only [List.length_drop, List.length_take]; rfl)) ?_; (with_reducible refine (charref_numeric.calls a0 t117 t118 _ ?side1 A7.out).mono ?_); (case side1 => exact Glob.below hG (by repeat (first | (with_reducible first | exact HB.out | apply below_alloc | apply pw_below_drewN | apply below_drew1) | exact HB.out))); rintro e w8 ⟨rfl, hb⟩; refine ⟨_, rfl, ?_⟩; have n0_ := Aside0.mk (below_step (by repeat (first | (with_reducible first | exact HB.out | apply below_alloc | apply pw_below_drewN | apply below_drew1) | exact HB.out)) hb); clear HB; have HB := n0_; clear n0_; (try clear hb); (try clear hb2); (try clear hk); (try clear hi)))
      go_ret2
      exact ⟨by first | rfl | (simp [errW_none, errW_some] <;> rfl) | (simp [*, errW_none, errW_some] <;> rfl), by repeat (first | (with_reducible first | exact HB.out | apply below_alloc | apply pw_below_drewN | apply below_drew1) | exact HB.out)⟩
    · replace c6 := Bool.eq_false_iff.mpr c6
      subst c6
      have H1 : (if 1 ≤ (a0.size : Int) then ((entity_Named.f (a0.extract 1 a0.size)).bind fun bt119 => (if bt119.2 = 0 then (some ((⟨#[]⟩ : ByteArray), 0)) else (if a1 = true then (if 0 ≤ bt119.2 then (if bt119.2 < (a0.size : Int) then (if (bt a0 bt119.2) = 59 then (some (bt119.1, wrap64 (bt119.2 + 1))) else (if (wrap64 (bt119.2 + 1)) < (a0.size : Int) then (if 0 ≤ (wrap64 (bt119.2 + 1)) then ((charref_goes.f (bt a0 (wrap64 (bt119.2 + 1)))).bind fun t121 => (if t121 = true then (some ((⟨#[]⟩ : ByteArray), 0)) else (some (bt119.1, wrap64 (bt119.2 + 1))))) else (none)) else (some (bt119.1, wrap64 (bt119.2 + 1))))) else (none)) else (none)) else (some (bt119.1, wrap64 (bt119.2 + 1)))))) else (none)) = some (r1, r2) := by rw [if_neg (show ¬ (false = true) by decide)] at H; exact H
      clear H
      have H := H1
      clear H1
      by_cases c9 : 1 ≤ (a0.size : Int)
      · rw [if_pos c9] at H
        have c9b0 := eq_true c9
        have c9b1 : decide (1 ≤ (a0.size : Int)) = true := decide_eq_true c9
        clear c9
        replace H := Option.bind_eq_some_iff.mp H
        obtain ⟨⟨t119, t120⟩, A100, H⟩ := H
        replace H : (if t120 = 0 then (some ((⟨#[]⟩ : ByteArray), 0)) else (if a1 = true then (if 0 ≤ t120 then (if t120 < (a0.size : Int) then (if (bt a0 t120) = 59 then (some (t119, wrap64 (t120 + 1))) else (if (wrap64 (t120 + 1)) < (a0.size : Int) then (if 0 ≤ (wrap64 (t120 + 1)) then ((charref_goes.f (bt a0 (wrap64 (t120 + 1)))).bind fun t121 => (if t121 = true then (some ((⟨#[]⟩ : ByteArray), 0)) else (some (t119, wrap64 (t120 + 1))))) else (none)) else (some (t119, wrap64 (t120 + 1))))) else (none)) else (none)) else (some (t119, wrap64 (t120 + 1))))) = some (r1, r2) := H
        have A10 := Aside0.mk A100
        clear A100
        by_cases c11 : t120 = 0
        · rw [if_pos c11] at H
          have c11b0 : (t120 == 0) = true := beq_iff_eq.mpr c11
          have c11b1 : (t120 != 0) = false := bne_eq_false_iff_eq.mpr c11
          clear c11
          simp only [Option.some.injEq, Prod.mk.injEq] at H
          obtain ⟨rfl, rfl⟩ := H
          go_enter Tryz.func45, Tryz.ntmps45
          go_wp2_with (first | ((with_reducible refine gate_callee (f := 63) rfl ?_); refine goesL_ (some 11) rfl rfl Tryz.func63 (by kernel_rfl) rfl #[.string a0, .string (⟨#[38]⟩ : ByteArray)] rfl (by (try simp only [List.map_toArray, List.map_cons, List.map_nil]); first | done | rfl | (simp only [List.length_drop, List.length_take]; rfl)) ?_; (with_reducible refine (strings_HasPrefix.calls a0 (⟨#[38]⟩ : ByteArray) true _ A3.out).mono ?_); rintro e w' ⟨rfl, ⟨nd, rfl⟩⟩; refine ⟨_, rfl, ?_⟩) | ((with_reducible refine gate_callee (f := 63) rfl ?_); refine goesL_ (some 15) rfl rfl Tryz.func63 (by kernel_rfl) rfl #[.string a0, .string (⟨#[38, 35]⟩ : ByteArray)] rfl (by (try simp only [List.map_toArray, List.map_cons, List.map_nil]); first | done | rfl | (simp only [List.length_drop, List.length_take]; rfl)) ?_; (with_reducible refine (strings_HasPrefix.calls a0 (⟨#[38, 35]⟩ : ByteArray) false _ A5.out).mono ?_); rintro e w' ⟨rfl, ⟨nd, rfl⟩⟩; refine ⟨_, rfl, ?_⟩) | ((with_reducible refine gate_callee (f := 65) rfl ?_); refine goesL_ (some 23) rfl rfl Tryz.func65 (by kernel_rfl) rfl #[.string (a0.extract 1 a0.size)] rfl (by (try simp only [List.map_toArray, List.map_cons, List.map_nil]); first | done | rfl | (simp only [List.length_drop, List.length_take]; rfl)) ?_; (with_reducible refine (entity_Named.calls (a0.extract 1 a0.size) t119 t120 _ ?side1 A10.out).mono ?_); (case side1 => exact Glob.below hG (by repeat (first | (with_reducible first | exact HB.out | apply below_alloc | apply pw_below_drewN | apply below_drew1) | exact HB.out))); rintro e w12 ⟨rfl, hb⟩; refine ⟨_, rfl, ?_⟩; have n0_ := Aside0.mk (below_step (by repeat (first | (with_reducible first | exact HB.out | apply below_alloc | apply pw_below_drewN | apply below_drew1) | exact HB.out)) hb); clear HB; have HB := n0_; clear n0_; (try clear hb); (try clear hb2); (try clear hk); (try clear hi)))
          go_ret2
          exact ⟨by first | rfl | (simp [errW_none, errW_some] <;> rfl) | (simp [*, errW_none, errW_some] <;> rfl), by repeat (first | (with_reducible first | exact HB.out | apply below_alloc | apply pw_below_drewN | apply below_drew1) | exact HB.out)⟩
        · rw [if_neg c11] at H
          have c11b0 : (t120 == 0) = false := beq_eq_false_iff_ne.mpr c11
          have c11b1 : (t120 != 0) = true := bne_iff_ne.mpr c11
          by_cases c13 : a1 = true
          · subst c13
            have H1 : (if 0 ≤ t120 then (if t120 < (a0.size : Int) then (if (bt a0 t120) = 59 then (some (t119, wrap64 (t120 + 1))) else (if (wrap64 (t120 + 1)) < (a0.size : Int) then (if 0 ≤ (wrap64 (t120 + 1)) then ((charref_goes.f (bt a0 (wrap64 (t120 + 1)))).bind fun t121 => (if t121 = true then (some ((⟨#[]⟩ : ByteArray), 0)) else (some (t119, wrap64 (t120 + 1))))) else (none)) else (some (t119, wrap64 (t120 + 1))))) else (none)) else (none)) = some (r1, r2) := by rw [if_pos rfl] at H; exact H
            clear H
            have H := H1
            clear H1
            by_cases c14 : 0 ≤ t120
            · rw [if_pos c14] at H
              have c14b0 : decide (0 ≤ t120) = true := decide_eq_true c14
              clear c14
              by_cases c15 : t120 < (a0.size : Int)
              · rw [if_pos c15] at H
                have c15b0 : decide (t120 < (a0.size : Int)) = true := decide_eq_true c15
                clear c15
                by_cases c17 : (bt a0 t120) = 59
                · rw [if_pos c17] at H
                  have c17b0 : ((bt a0 t120) == 59) = true := beq_iff_eq.mpr c17
                  have c17b1 : ((bt a0 t120) != 59) = false := bne_eq_false_iff_eq.mpr c17
                  clear c17
                  simp only [Option.some.injEq, Prod.mk.injEq] at H
                  obtain ⟨rfl, rfl⟩ := H
                  go_enter Tryz.func45, Tryz.ntmps45
                  go_wp2_with (first | ((with_reducible refine gate_callee (f := 63) rfl ?_); refine goesL_ (some 11) rfl rfl Tryz.func63 (by kernel_rfl) rfl #[.string a0, .string (⟨#[38]⟩ : ByteArray)] rfl (by (try simp only [List.map_toArray, List.map_cons, List.map_nil]); first | done | rfl | (simp only [List.length_drop, List.length_take]; rfl)) ?_; (with_reducible refine (strings_HasPrefix.calls a0 (⟨#[38]⟩ : ByteArray) true _ A3.out).mono ?_); rintro e w' ⟨rfl, ⟨nd, rfl⟩⟩; refine ⟨_, rfl, ?_⟩) | ((with_reducible refine gate_callee (f := 63) rfl ?_); refine goesL_ (some 15) rfl rfl Tryz.func63 (by kernel_rfl) rfl #[.string a0, .string (⟨#[38, 35]⟩ : ByteArray)] rfl (by (try simp only [List.map_toArray, List.map_cons, List.map_nil]); first | done | rfl | (simp only [List.length_drop, List.length_take]; rfl)) ?_; (with_reducible refine (strings_HasPrefix.calls a0 (⟨#[38, 35]⟩ : ByteArray) false _ A5.out).mono ?_); rintro e w' ⟨rfl, ⟨nd, rfl⟩⟩; refine ⟨_, rfl, ?_⟩) | ((with_reducible refine gate_callee (f := 65) rfl ?_); refine goesL_ (some 23) rfl rfl Tryz.func65 (by kernel_rfl) rfl #[.string (a0.extract 1 a0.size)] rfl (by (try simp only [List.map_toArray, List.map_cons, List.map_nil]); first | done | rfl | (simp only [List.length_drop, List.length_take]; rfl)) ?_; (with_reducible refine (entity_Named.calls (a0.extract 1 a0.size) t119 t120 _ ?side1 A10.out).mono ?_); (case side1 => exact Glob.below hG (by repeat (first | (with_reducible first | exact HB.out | apply below_alloc | apply pw_below_drewN | apply below_drew1) | exact HB.out))); rintro e w18 ⟨rfl, hb⟩; refine ⟨_, rfl, ?_⟩; have n0_ := Aside0.mk (below_step (by repeat (first | (with_reducible first | exact HB.out | apply below_alloc | apply pw_below_drewN | apply below_drew1) | exact HB.out)) hb); clear HB; have HB := n0_; clear n0_; (try clear hb); (try clear hb2); (try clear hk); (try clear hi); have p16 : 0 ≤ (t120 : Int) := of_decide_eq_true (by first | (with_reducible assumption) | assumption); have q16 : t120 < (a0.size : Int) := of_decide_eq_true (by first | (with_reducible assumption) | assumption); have hx16 := bt_at a0 t120; replace p16 := eq_true p16; replace q16 := eq_true q16))
                  go_ret2
                  exact ⟨by first | rfl | (simp [errW_none, errW_some] <;> rfl) | (simp [*, errW_none, errW_some] <;> rfl), by repeat (first | (with_reducible first | exact HB.out | apply below_alloc | apply pw_below_drewN | apply below_drew1) | exact HB.out)⟩
                · rw [if_neg c17] at H
                  have c17b0 : ((bt a0 t120) == 59) = false := beq_eq_false_iff_ne.mpr c17
                  have c17b1 : ((bt a0 t120) != 59) = true := bne_iff_ne.mpr c17
                  by_cases c19 : (wrap64 (t120 + 1)) < (a0.size : Int)
                  · rw [if_pos c19] at H
                    have c19b0 : decide ((wrap64 (t120 + 1)) < (a0.size : Int)) = true := decide_eq_true c19
                    clear c19
                    obtain ⟨ji20, hji20⟩ : ∃ j_ : Int, (wrap64 (t120 + 1)) = j_ := ⟨_, rfl⟩
                    replace H : (if 0 ≤ (ji20) then ((charref_goes.f (bt a0 (ji20))).bind fun t121 => (if t121 = true then (some ((⟨#[]⟩ : ByteArray), 0)) else (some (t119, ji20)))) else (none)) = some (r1, r2) := by first | (rw [hji20] at H; exact H) | (simp only [hji20] at H ⊢; exact H)
                    (try rw [hji20] at c19b0)
                    (try rw [hji20] at A3)
                    (try rw [hji20] at A5)
                    (try rw [hji20] at A10)
                    have hji20w : (IntKind.i64.wrap (t120 + 1)) = ji20 := (i64_w _).trans hji20
                    by_cases c21 : 0 ≤ (ji20)
                    · rw [if_pos c21] at H
                      have c21b0 : decide (0 ≤ (ji20)) = true := decide_eq_true c21
                      clear c21
                      replace H := Option.bind_eq_some_iff.mp H
                      obtain ⟨t121, A230, H⟩ := H
                      replace H : (if t121 = true then (some ((⟨#[]⟩ : ByteArray), 0)) else (some (t119, ji20))) = some (r1, r2) := H
                      have A23 := Aside0.mk A230
                      clear A230
                      by_cases c24 : t121 = true
                      · subst c24
                        have H1 : (some ((⟨#[]⟩ : ByteArray), 0)) = some (r1, r2) := by rw [if_pos rfl] at H; exact H
                        clear H
                        have H := H1
                        clear H1
                        simp only [Option.some.injEq, Prod.mk.injEq] at H
                        obtain ⟨rfl, rfl⟩ := H
                        go_enter Tryz.func45, Tryz.ntmps45
                        go_wp2_with (first | ((with_reducible refine gate_callee (f := 63) rfl ?_); refine goesL_ (some 11) rfl rfl Tryz.func63 (by kernel_rfl) rfl #[.string a0, .string (⟨#[38]⟩ : ByteArray)] rfl (by (try simp only [List.map_toArray, List.map_cons, List.map_nil]); first | done | rfl | (simp only [List.length_drop, List.length_take]; rfl)) ?_; (with_reducible refine (strings_HasPrefix.calls a0 (⟨#[38]⟩ : ByteArray) true _ A3.out).mono ?_); rintro e w' ⟨rfl, ⟨nd, rfl⟩⟩; refine ⟨_, rfl, ?_⟩) | ((with_reducible refine gate_callee (f := 63) rfl ?_); refine goesL_ (some 15) rfl rfl Tryz.func63 (by kernel_rfl) rfl #[.string a0, .string (⟨#[38, 35]⟩ : ByteArray)] rfl (by (try simp only [List.map_toArray, List.map_cons, List.map_nil]); first | done | rfl | (simp only [List.length_drop, List.length_take]; rfl)) ?_; (with_reducible refine (strings_HasPrefix.calls a0 (⟨#[38, 35]⟩ : ByteArray) false _ A5.out).mono ?_); rintro e w' ⟨rfl, ⟨nd, rfl⟩⟩; refine ⟨_, rfl, ?_⟩) | ((with_reducible refine gate_callee (f := 65) rfl ?_); refine goesL_ (some 23) rfl rfl Tryz.func65 (by kernel_rfl) rfl #[.string (a0.extract 1 a0.size)] rfl (by (try simp only [List.map_toArray, List.map_cons, List.map_nil]); first | done | rfl | (simp only [List.length_drop, List.length_take]; rfl)) ?_; (with_reducible refine (entity_Named.calls (a0.extract 1 a0.size) t119 t120 _ ?side1 A10.out).mono ?_); (case side1 => exact Glob.below hG (by repeat (first | (with_reducible first | exact HB.out | apply below_alloc | apply pw_below_drewN | apply below_drew1) | exact HB.out))); rintro e w25 ⟨rfl, hb⟩; refine ⟨_, rfl, ?_⟩; have n0_ := Aside0.mk (below_step (by repeat (first | (with_reducible first | exact HB.out | apply below_alloc | apply pw_below_drewN | apply below_drew1) | exact HB.out)) hb); clear HB; have HB := n0_; clear n0_; (try clear hb); (try clear hb2); (try clear hk); (try clear hi); have p16 : 0 ≤ (t120 : Int) := of_decide_eq_true (by first | (with_reducible assumption) | assumption); have q16 : t120 < (a0.size : Int) := of_decide_eq_true (by first | (with_reducible assumption) | assumption); have hx16 := bt_at a0 t120; replace p16 := eq_true p16; replace q16 := eq_true q16; have p22 : 0 ≤ ((ji20) : Int) := of_decide_eq_true (by first | (with_reducible assumption) | assumption); have q22 : (ji20) < (a0.size : Int) := of_decide_eq_true (by first | (with_reducible assumption) | assumption); have hx22 := bt_at a0 (ji20); replace p22 := eq_true p22; replace q22 := eq_true q22) | (go_at_call 66; refine calls_of_args (args' := #[.int .u8 (bt a0 (ji20))]) (by first | rfl | rfl) ?_; (with_reducible refine (charref_goes.calls (bt a0 (ji20)) true _ A23.out).mono ?_); rintro e w' ⟨rfl, ⟨nd, rfl⟩⟩))
                        go_ret2
                        exact ⟨by first | rfl | (simp [errW_none, errW_some] <;> rfl) | (simp only [← hji20]; first | rfl | (simp [errW_none, errW_some] <;> rfl)) | (simp [*, errW_none, errW_some] <;> rfl), by repeat (first | (with_reducible first | exact HB.out | apply below_alloc | apply pw_below_drewN | apply below_drew1) | exact HB.out)⟩
                      · replace c24 := Bool.eq_false_iff.mpr c24
                        subst c24
                        have H1 : (some (t119, ji20)) = some (r1, r2) := by rw [if_neg (show ¬ (false = true) by decide)] at H; exact H
                        clear H
                        have H := H1
                        clear H1
                        simp only [Option.some.injEq, Prod.mk.injEq] at H
                        obtain ⟨rfl, rfl⟩ := H
                        go_enter Tryz.func45, Tryz.ntmps45
                        go_wp2_with (first | ((with_reducible refine gate_callee (f := 63) rfl ?_); refine goesL_ (some 11) rfl rfl Tryz.func63 (by kernel_rfl) rfl #[.string a0, .string (⟨#[38]⟩ : ByteArray)] rfl (by (try simp only [List.map_toArray, List.map_cons, List.map_nil]); first | done | rfl | (simp only [List.length_drop, List.length_take]; rfl)) ?_; (with_reducible refine (strings_HasPrefix.calls a0 (⟨#[38]⟩ : ByteArray) true _ A3.out).mono ?_); rintro e w' ⟨rfl, ⟨nd, rfl⟩⟩; refine ⟨_, rfl, ?_⟩) | ((with_reducible refine gate_callee (f := 63) rfl ?_); refine goesL_ (some 15) rfl rfl Tryz.func63 (by kernel_rfl) rfl #[.string a0, .string (⟨#[38, 35]⟩ : ByteArray)] rfl (by (try simp only [List.map_toArray, List.map_cons, List.map_nil]); first | done | rfl | (simp only [List.length_drop, List.length_take]; rfl)) ?_; (with_reducible refine (strings_HasPrefix.calls a0 (⟨#[38, 35]⟩ : ByteArray) false _ A5.out).mono ?_); rintro e w' ⟨rfl, ⟨nd, rfl⟩⟩; refine ⟨_, rfl, ?_⟩) | ((with_reducible refine gate_callee (f := 65) rfl ?_); refine goesL_ (some 23) rfl rfl Tryz.func65 (by kernel_rfl) rfl #[.string (a0.extract 1 a0.size)] rfl (by (try simp only [List.map_toArray, List.map_cons, List.map_nil]); first | done | rfl | (simp only [List.length_drop, List.length_take]; rfl)) ?_; (with_reducible refine (entity_Named.calls (a0.extract 1 a0.size) t119 t120 _ ?side1 A10.out).mono ?_); (case side1 => exact Glob.below hG (by repeat (first | (with_reducible first | exact HB.out | apply below_alloc | apply pw_below_drewN | apply below_drew1) | exact HB.out))); rintro e w26 ⟨rfl, hb⟩; refine ⟨_, rfl, ?_⟩; have n0_ := Aside0.mk (below_step (by repeat (first | (with_reducible first | exact HB.out | apply below_alloc | apply pw_below_drewN | apply below_drew1) | exact HB.out)) hb); clear HB; have HB := n0_; clear n0_; (try clear hb); (try clear hb2); (try clear hk); (try clear hi); have p16 : 0 ≤ (t120 : Int) := of_decide_eq_true (by first | (with_reducible assumption) | assumption); have q16 : t120 < (a0.size : Int) := of_decide_eq_true (by first | (with_reducible assumption) | assumption); have hx16 := bt_at a0 t120; replace p16 := eq_true p16; replace q16 := eq_true q16; have p22 : 0 ≤ ((ji20) : Int) := of_decide_eq_true (by first | (with_reducible assumption) | assumption); have q22 : (ji20) < (a0.size : Int) := of_decide_eq_true (by first | (with_reducible assumption) | assumption); have hx22 := bt_at a0 (ji20); replace p22 := eq_true p22; replace q22 := eq_true q22) | (go_at_call 66; refine calls_of_args (args' := #[.int .u8 (bt a0 (ji20))]) (by first | rfl | rfl) ?_; (with_reducible refine (charref_goes.calls (bt a0 (ji20)) false _ A23.out).mono ?_); rintro e w' ⟨rfl, ⟨nd, rfl⟩⟩))
                        go_ret2
                        exact ⟨by first | rfl | (simp [errW_none, errW_some] <;> rfl) | (simp only [← hji20]; first | rfl | (simp [errW_none, errW_some] <;> rfl)) | (simp [*, errW_none, errW_some] <;> rfl), by repeat (first | (with_reducible first | exact HB.out | apply below_alloc | apply pw_below_drewN | apply below_drew1) | exact HB.out)⟩
                    · rw [if_neg c21] at H
                      exact absurd H (by simp)
                  · rw [if_neg c19] at H
                    have c19b0 : decide ((wrap64 (t120 + 1)) < (a0.size : Int)) = false := decide_eq_false c19
                    clear c19
                    simp only [Option.some.injEq, Prod.mk.injEq] at H
                    obtain ⟨rfl, rfl⟩ := H
                    go_enter Tryz.func45, Tryz.ntmps45
                    go_wp2_with (first | ((with_reducible refine gate_callee (f := 63) rfl ?_); refine goesL_ (some 11) rfl rfl Tryz.func63 (by kernel_rfl) rfl #[.string a0, .string (⟨#[38]⟩ : ByteArray)] rfl (by (try simp only [List.map_toArray, List.map_cons, List.map_nil]); first | done | rfl | (simp only [List.length_drop, List.length_take]; rfl)) ?_; (with_reducible refine (strings_HasPrefix.calls a0 (⟨#[38]⟩ : ByteArray) true _ A3.out).mono ?_); rintro e w' ⟨rfl, ⟨nd, rfl⟩⟩; refine ⟨_, rfl, ?_⟩) | ((with_reducible refine gate_callee (f := 63) rfl ?_); refine goesL_ (some 15) rfl rfl Tryz.func63 (by kernel_rfl) rfl #[.string a0, .string (⟨#[38, 35]⟩ : ByteArray)] rfl (by (try simp only [List.map_toArray, List.map_cons, List.map_nil]); first | done | rfl | (simp only [List.length_drop, List.length_take]; rfl)) ?_; (with_reducible refine (strings_HasPrefix.calls a0 (⟨#[38, 35]⟩ : ByteArray) false _ A5.out).mono ?_); rintro e w' ⟨rfl, ⟨nd, rfl⟩⟩; refine ⟨_, rfl, ?_⟩) | ((with_reducible refine gate_callee (f := 65) rfl ?_); refine goesL_ (some 23) rfl rfl Tryz.func65 (by kernel_rfl) rfl #[.string (a0.extract 1 a0.size)] rfl (by (try simp only [List.map_toArray, List.map_cons, List.map_nil]); first | done | rfl | (simp only [List.length_drop, List.length_take]; rfl)) ?_; (with_reducible refine (entity_Named.calls (a0.extract 1 a0.size) t119 t120 _ ?side1 A10.out).mono ?_); (case side1 => exact Glob.below hG (by repeat (first | (with_reducible first | exact HB.out | apply below_alloc | apply pw_below_drewN | apply below_drew1) | exact HB.out))); rintro e w27 ⟨rfl, hb⟩; refine ⟨_, rfl, ?_⟩; have n0_ := Aside0.mk (below_step (by repeat (first | (with_reducible first | exact HB.out | apply below_alloc | apply pw_below_drewN | apply below_drew1) | exact HB.out)) hb); clear HB; have HB := n0_; clear n0_; (try clear hb); (try clear hb2); (try clear hk); (try clear hi); have p16 : 0 ≤ (t120 : Int) := of_decide_eq_true (by first | (with_reducible assumption) | assumption); have q16 : t120 < (a0.size : Int) := of_decide_eq_true (by first | (with_reducible assumption) | assumption); have hx16 := bt_at a0 t120; replace p16 := eq_true p16; replace q16 := eq_true q16))
                    go_ret2
                    exact ⟨by first | rfl | (simp [errW_none, errW_some] <;> rfl) | (simp [*, errW_none, errW_some] <;> rfl), by repeat (first | (with_reducible first | exact HB.out | apply below_alloc | apply pw_below_drewN | apply below_drew1) | exact HB.out)⟩
              · rw [if_neg c15] at H
                exact absurd H (by simp)
            · rw [if_neg c14] at H
              exact absurd H (by simp)
          · replace c13 := Bool.eq_false_iff.mpr c13
            subst c13
            have H1 : (some (t119, wrap64 (t120 + 1))) = some (r1, r2) := by rw [if_neg (show ¬ (false = true) by decide)] at H; exact H
            clear H
            have H := H1
            clear H1
            simp only [Option.some.injEq, Prod.mk.injEq] at H
            obtain ⟨rfl, rfl⟩ := H
            go_enter Tryz.func45, Tryz.ntmps45
            go_wp2_with (first | ((with_reducible refine gate_callee (f := 63) rfl ?_); refine goesL_ (some 11) rfl rfl Tryz.func63 (by kernel_rfl) rfl #[.string a0, .string (⟨#[38]⟩ : ByteArray)] rfl (by (try simp only [List.map_toArray, List.map_cons, List.map_nil]); first | done | rfl | (simp only [List.length_drop, List.length_take]; rfl)) ?_; (with_reducible refine (strings_HasPrefix.calls a0 (⟨#[38]⟩ : ByteArray) true _ A3.out).mono ?_); rintro e w' ⟨rfl, ⟨nd, rfl⟩⟩; refine ⟨_, rfl, ?_⟩) | ((with_reducible refine gate_callee (f := 63) rfl ?_); refine goesL_ (some 15) rfl rfl Tryz.func63 (by kernel_rfl) rfl #[.string a0, .string (⟨#[38, 35]⟩ : ByteArray)] rfl (by (try simp only [List.map_toArray, List.map_cons, List.map_nil]); first | done | rfl | (simp only [List.length_drop, List.length_take]; rfl)) ?_; (with_reducible refine (strings_HasPrefix.calls a0 (⟨#[38, 35]⟩ : ByteArray) false _ A5.out).mono ?_); rintro e w' ⟨rfl, ⟨nd, rfl⟩⟩; refine ⟨_, rfl, ?_⟩) | ((with_reducible refine gate_callee (f := 65) rfl ?_); refine goesL_ (some 23) rfl rfl Tryz.func65 (by kernel_rfl) rfl #[.string (a0.extract 1 a0.size)] rfl (by (try simp only [List.map_toArray, List.map_cons, List.map_nil]); first | done | rfl | (simp only [List.length_drop, List.length_take]; rfl)) ?_; (with_reducible refine (entity_Named.calls (a0.extract 1 a0.size) t119 t120 _ ?side1 A10.out).mono ?_); (case side1 => exact Glob.below hG (by repeat (first | (with_reducible first | exact HB.out | apply below_alloc | apply pw_below_drewN | apply below_drew1) | exact HB.out))); rintro e w28 ⟨rfl, hb⟩; refine ⟨_, rfl, ?_⟩; have n0_ := Aside0.mk (below_step (by repeat (first | (with_reducible first | exact HB.out | apply below_alloc | apply pw_below_drewN | apply below_drew1) | exact HB.out)) hb); clear HB; have HB := n0_; clear n0_; (try clear hb); (try clear hb2); (try clear hk); (try clear hi)))
            go_ret2
            exact ⟨by first | rfl | (simp [errW_none, errW_some] <;> rfl) | (simp [*, errW_none, errW_some] <;> rfl), by repeat (first | (with_reducible first | exact HB.out | apply below_alloc | apply pw_below_drewN | apply below_drew1) | exact HB.out)⟩
      · rw [if_neg c9] at H
        exact absurd H (by simp)
  · replace c4 := Bool.eq_false_iff.mpr c4
    subst c4
    have H1 : (some ((⟨#[]⟩ : ByteArray), 0)) = some (r1, r2) := by rw [if_neg (show ¬ (false = true) by decide)] at H; exact H
    clear H
    have H := H1
    clear H1
    simp only [Option.some.injEq, Prod.mk.injEq] at H
    obtain ⟨rfl, rfl⟩ := H
    go_enter Tryz.func45, Tryz.ntmps45
    go_wp2_with (first | ((with_reducible refine gate_callee (f := 63) rfl ?_); refine goesL_ (some 11) rfl rfl Tryz.func63 (by kernel_rfl) rfl #[.string a0, .string (⟨#[38]⟩ : ByteArray)] rfl (by (try simp only [List.map_toArray, List.map_cons, List.map_nil]); first | done | rfl | (simp only [List.length_drop, List.length_take]; rfl)) ?_; (with_reducible refine (strings_HasPrefix.calls a0 (⟨#[38]⟩ : ByteArray) false _ A3.out).mono ?_); rintro e w' ⟨rfl, ⟨nd, rfl⟩⟩; refine ⟨_, rfl, ?_⟩))
    go_ret2
    exact ⟨by first | rfl | (simp [errW_none, errW_some] <;> rfl) | (simp [*, errW_none, errW_some] <;> rfl), by repeat (first | (with_reducible first | exact HB.out | apply below_alloc | apply pw_below_drewN | apply below_drew1) | exact HB.out)⟩
end Go.Proofs.YtoacojkmclngmaaGreatDoor.Pz
/- strings.Builder at this program: copyCheck, WriteString, String, of a builder that the call itself has made. After the shelf's own proofs (their layings do not fit here: copyCheck's last way is refused by the loader). -/
namespace Go.Proofs.YtoacojkmclngmaaGreatDoor
open Go.RowKit
set_option linter.unusedVariables false
theorem infoByte : (Tryz.prog.info? 5).map (fun i => (i.zero, i.size, i.bytes)) = some (some (.int .u8 0), 1, 1) := by kernel_rfl
theorem sizeBuilder : (Tryz.prog.info? 64).map (·.size) = some 2 := by kernel_rfl
theorem liesBuilder : liesAt Tryz.prog Tryz.prog.depth 64 (2 / Tryz.prog.cellsOf 64) 0 64 1 = true := by kernel_rfl
set_option maxHeartbeats 1000000 in
set_option maxRecDepth 100000 in
theorem bd_copyCheck_used (b : Nat) (w : World) (h0 : w.cell? ⟨b, 0, none⟩ = some (.pointer (some ⟨b, 0, none⟩))) :
    Calls Tryz.prog 62 #[.pointer (some ⟨b, 0, none⟩)] w fun e w' => e = .returned (.tuple #[]) ∧ w' = w := by
  obtain ⟨j, hj, _⟩ := Option.map_eq_some_iff.1 sizeBuilder
  go_enter Tryz.func62, Tryz.ntmps62
  go_wp2
  rw [Lib.run_neq_ptr_same w _ Tryz.underlying62 hj]
  go_wp2
  go_end0
  exact ⟨rfl, rfl⟩
set_option maxHeartbeats 1000000 in
set_option maxRecDepth 100000 in
theorem bd_copyCheck_fresh (b : Nat) (w : World) (h0 : w.cell? ⟨b, 0, none⟩ = some (.pointer none)) (hsh : w.shape? b = some (64, 2)) (hfz : w.frozen? ⟨b, 0, none⟩ = false) :
    Calls Tryz.prog 62 #[.pointer (some ⟨b, 0, none⟩)] w fun e w' => e = .returned (.tuple #[]) ∧ w' = w.setCell ⟨b, 0, none⟩ (.pointer (some ⟨b, 0, none⟩)) := by
  obtain ⟨j, hj, hjs⟩ := Option.map_eq_some_iff.1 sizeBuilder
  go_enter Tryz.func62, Tryz.ntmps62
  go_wp2
  rw [Lib.run_to_unsafe w ⟨b, 0, none⟩ Tryz.underlying62 Tryz.underlying95 hj (by rw [hjs]; decide) hsh (Nat.zero_lt_succ 1)]
  simp only [Result.andThen]
  rw [Oper.upon_value]
  go_wp2
  rw [run_callFunc_extern Tryz.func82 (by kernel_rfl) (by kernel_rfl) (by kernel_rfl) (e := Extern.AbiNoEscape.same) (by kernel_rfl)]
  rw [Lib.run_noEscape]
  simp only [Result.andThen]
  rw [Oper.upon_value]
  go_wp2
  rw [Lib.run_from_unsafe w ⟨b, 0, none⟩ Tryz.underlying95 Tryz.underlying62 hj hsh liesBuilder]
  simp only [Result.andThen]
  rw [Oper.upon_value]
  go_wp2
  go_end0
  exact ⟨rfl, rfl⟩
theorem bd_copyCheck (B b : Nat) (bs : List Value) (w : World) (h : Lib.IsBuilderF 64 5 B b bs w) :
    Calls Tryz.prog 62 #[.pointer (some ⟨b, 0, none⟩)] w fun e w' => e = .returned (.tuple #[]) ∧ (Lib.BuilderAtF 64 5 B b (.pointer (some ⟨b, 0, none⟩)) bs w' ∧ Below B w w' ∧ Lib.OthersKept 5 (some b) w w') := by
  rcases h with h | h
  · refine (bd_copyCheck_fresh b w h.cell0 h.shape h.frozen0).mono ?_
    rintro e w' ⟨rfl, rfl⟩
    exact ⟨rfl, h.used _, (Below.refl B w).setCell (p := ⟨b, 0, none⟩) h.1 _, (Lib.OthersKept.refl _ _ w).setCell ⟨b, 0, none⟩ rfl _⟩
  · refine (bd_copyCheck_used b w h.cell0).mono ?_
    rintro e w' ⟨rfl, rfl⟩
    exact ⟨rfl, h, Below.refl B _, Lib.OthersKept.refl _ _ _⟩
set_option maxHeartbeats 2000000 in
set_option maxRecDepth 100000 in
theorem bd_WriteString (B b : Nat) (bs : List Value) (s : ByteArray) (w : World) (h : Lib.IsBuilderF 64 5 B b bs w) (hlen : bs.length + s.size ≤ 140737488355328) (hBw : B ≤ w.heap.size) :
    Calls Tryz.prog 44 #[.pointer (some ⟨b, 0, none⟩), .string s] w fun e w' => e = .returned (.tuple #[.int .i64 s.size, .nilIface]) ∧ (Lib.BuilderAtF 64 5 B b (.pointer (some ⟨b, 0, none⟩)) (bs ++ Lib.strCells s) w' ∧ Below B w w' ∧ Lib.OthersKept 5 (some b) w w') := by
  obtain ⟨i0, hi, hz0, hz1, hz2⟩ := info_parts infoByte
  go_enter Tryz.func44, Tryz.ntmps44
  go_wp2_with (go_at_call 62; refine (bd_copyCheck B b bs _ h).mono ?_)
  rintro e w1 ⟨rfl, h1, hb1, hk1⟩
  obtain ⟨hB, v, hbk, hown, hne⟩ := h1
  have c0 : w1.cell? ⟨b, 0, none⟩ = some (.pointer (some ⟨b, 0, none⟩)) := by rw [Lib.cell_of_heap hbk]; rfl
  have c1 : w1.cell? ⟨b, 1, none⟩ = some v := by rw [Lib.cell_of_heap hbk]; rfl
  go_wp2_with (at_builtin; refine Lib.wpList_append_own_stringF _ rfl _ _ 58 9 rfl B 5 i0 Tryz.underlying58 Tryz.underlying9 hi hz0 hz1 hz2 _ _ _ rfl hown s rfl ?c3 ?c4 ?c5 ?_)
  case c3 => unfold maxLen; omega
  case c4 => omega
  case c5 => have := hb1.size; omega
  intro v' w2 hown' hgrow _
  have hlt : b < w1.heap.size := by
    rcases Nat.lt_or_ge b w1.heap.size with h' | h'
    · exact h'
    · simp [Array.getElem?_eq_none h'] at hbk
  have hb2 : w2.heap[b]? = some (.cells #[.pointer (some ⟨b, 0, none⟩), v] 64 (0, 0)) := by
    rw [hgrow.block b hlt (fun e => hne e.symm)]
    exact hbk
  have d0 : w2.cell? ⟨b, 0, none⟩ = some (.pointer (some ⟨b, 0, none⟩)) := by rw [Lib.cell_of_heap hb2]; rfl
  have d1 : w2.cell? ⟨b, 1, none⟩ = some v := by rw [Lib.cell_of_heap hb2]; rfl
  have f1 : w2.frozen? ⟨b, 1, none⟩ = false := Lib.frozen_of_heap hb2 1
  obtain ⟨ao, n', cap, rfl⟩ : ∃ ao n' cap, v' = .slice ao n' cap := by
    rcases hown'.2 with ⟨hv, _⟩ | ⟨g, cap, cur, fz, hv, _⟩
    · exact ⟨_, _, _, hv⟩
    · exact ⟨_, _, _, hv⟩
  go_wp2
  go_ret2
  refine ⟨rfl, ?_, ?_, (hk1.grown hgrow (Lib.ownsRowF_kind hown)).setCell ⟨b, 1, none⟩ rfl _⟩
  · exact Lib.BuilderAtF.put (T := 64) (e := 5) hB hb2 (bs' := bs ++ Lib.strCells s) (by simpa [Lib.strCells_length] using hown') (by decide)
  · exact (hb1.grown hgrow (by have := hb1.size; omega) (fun k hk => (hown.lt k hk).1)).setCell (p := ⟨b, 1, none⟩) hB _
open Go.Proofs.YtoacojkmclngmaaGreatDoorW.PrintWords in
theorem bd_below {T e : TypeId} {B b : Nat} {bs : List Value} {w w1 : World} (h : Lib.IsBuilderF T e B b bs w) (hb : Below w.heap.size w w1) : Lib.IsBuilderF T e B b bs w1 := by
  have one : ∀ p, Lib.BuilderAtF T e B b p bs w → Lib.BuilderAtF T e B b p bs w1 := by
    intro p h
    have hlt := h.lt
    obtain ⟨hB, v, hbk, hown, hne⟩ := h
    exact ⟨hB, v, (hb.block b hlt).trans hbk, hown.kept (grown_of_below hb none) (by cases v.ownBlock <;> simp), hne⟩
  rcases h with h | h
  · exact .inl (one _ h)
  · exact .inr (one _ h)
theorem strCells_byteCells (s : ByteArray) : Lib.strCells s = Lib.byteCells s.data.toList := by
  simp [Lib.strCells, Lib.byteCells]
theorem bd_write (B b : Nat) (l : List UInt8) (s : ByteArray) (w : World) (h : Lib.IsBuilderF 64 5 B b (Lib.byteCells l) w) (hlen : l.length + s.size ≤ 140737488355328) (hBw : B ≤ w.heap.size) :
    Calls Tryz.prog 44 #[.pointer (some ⟨b, 0, none⟩), .string s] w fun e w' => e = .returned (.tuple #[.int .i64 s.size, .nilIface]) ∧ Lib.IsBuilderF 64 5 B b (Lib.byteCells (l ++ s.data.toList)) w' ∧ Below B w w' := by
  refine (bd_WriteString B b _ s w h (by simpa [Lib.byteCells] using hlen) hBw).mono ?_
  rintro e w' ⟨he, h1, h2, _⟩
  refine ⟨he, .inr ?_, h2⟩
  rw [strCells_byteCells] at h1
  simpa [Lib.byteCells] using h1
end Go.Proofs.YtoacojkmclngmaaGreatDoor
