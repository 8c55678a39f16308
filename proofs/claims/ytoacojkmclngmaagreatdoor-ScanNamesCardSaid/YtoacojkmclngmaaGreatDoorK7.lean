/- Texts of the session, one behind the other: what the code computes, function by function, and its contracts. -/
import Derived.Deep.RegionHeld3
import Derived.Laws.EntriesVeiled
import Derived.Lib.ConvBytes
import Derived.Lib.AtoiErrMem
import Derived.Test.YtoacojkmclngmaaGreatDoorK1
import Derived.Test.YtoacojkmclngmaaGreatDoorK2
import Derived.Test.YtoacojkmclngmaaGreatDoorK3
import Derived.Test.YtoacojkmclngmaaGreatDoorK4
import Derived.Test.YtoacojkmclngmaaGreatDoorK5
import Derived.Test.YtoacojkmclngmaaGreatDoorK6
namespace Go.Proofs.YtoacojkmclngmaaGreatDoor.Pz
open Go.RowKit Go.Proofs.YtoacojkmclngmaaGreatDoorW.PrintWords Go.Proofs.YtoacojkmclngmaaGreatDoorW.PrintLast Go.Proofs.YtoacojkmclngmaaGreatDoorW.PrintMore
attribute [local go_sem] max2_int min2_int max_two min_two max_three min_three max_four min_four   -- for this text's walks alone
attribute [local go_sem] rune_str
set_option linter.unusedVariables false
set_option linter.unusedSimpArgs false
def IsS56 (w0 W : World) (g : Nat) (f0 : ByteArray) (f1 : Bool) (f2 : ByteArray) (f3 : Int) : Prop := W.heap[g]? = some (.cells #[.string f0, .bool f1, .string f2, .int .i64 f3] 56 (0, 0)) ∧ w0.heap.size ≤ g
theorem IsS56.grown {w0 W : World} {g : Nat} {f0 : ByteArray} {f1 : Bool} {f2 : ByteArray} {f3 : Int} {W1 : World} {row : Option Nat} (h : IsS56 w0 W g f0 f1 f2 f3) (hw : W.grownBy W1 row) (hne : some g ≠ row) : IsS56 w0 W1 g f0 f1 f2 f3 := by
  obtain ⟨hb, hg⟩ := h
  exact ⟨blk_grown hb hw hne, hg⟩
theorem IsS56.own_neN {w0 W : World} {g : Nat} {f0 : ByteArray} {f1 : Bool} {f2 : ByteArray} {f3 : Int} {α : Type} {d : Kd α} {e : Nat} {base : Nat} {ok : Nat → Prop} {v : Value} {xs : List α} (h : IsS56 w0 W g f0 f1 f2 f3) (ho : Kd.N d e W base ok v xs) (ht : e ≠ 56) : some g ≠ v.ownBlock := by
  obtain ⟨hb, hg⟩ := h
  exact Kd.N_ne ho hb ht
theorem IsS56.fresh {w0 W : World} {g : Nat} {f0 : ByteArray} {f1 : Bool} {f2 : ByteArray} {f3 : Int} (h : IsS56 w0 W g f0 f1 f2 f3) : ∀ k, W.heap.size ≤ k → k ≠ g := by
  obtain ⟨hb, hg⟩ := h
  exact Kd.freshB hb
theorem IsS56.kept {w0 W : World} {g : Nat} {f0 : ByteArray} {f1 : Bool} {f2 : ByteArray} {f3 : Int} {W1 : World} {S : Nat → Prop} (h : IsS56 w0 W g f0 f1 f2 f3) (hk : Kept W W1 S) (hne : ¬ S g) : IsS56 w0 W1 g f0 f1 f2 f3 := by
  obtain ⟨hb, hg⟩ := h
  exact ⟨blk_kept hb hk hne, hg⟩
theorem IsS56.below {w0 W : World} {g : Nat} {f0 : ByteArray} {f1 : Bool} {f2 : ByteArray} {f3 : Int} {W1 : World} (h : IsS56 w0 W g f0 f1 f2 f3) (hw : Below W.heap.size W W1) : IsS56 w0 W1 g f0 f1 f2 f3 := h.grown (grown_of_below hw none) (by simp)
theorem IsS56.alloc {w0 W : World} {g : Nat} {f0 : ByteArray} {f1 : Bool} {f2 : ByteArray} {f3 : Int} (h : IsS56 w0 W g f0 f1 f2 f3) (o : Obj) : IsS56 w0 (W.alloc o) g f0 f1 f2 f3 := h.below (below_alloc (Below.refl _ _) o)
theorem IsS56.drewN {w0 W : World} {g : Nat} {f0 : ByteArray} {f1 : Bool} {f2 : ByteArray} {f3 : Int} (h : IsS56 w0 W g f0 f1 f2 f3) (m : Nat) : IsS56 w0 (W.drewN m) g f0 f1 f2 f3 := h
theorem IsS56.drew {w0 W : World} {g : Nat} {f0 : ByteArray} {f1 : Bool} {f2 : ByteArray} {f3 : Int} (h : IsS56 w0 W g f0 f1 f2 f3) : IsS56 w0 W.drew g f0 f1 f2 f3 := h
theorem IsS56.at_ {w0 W : World} {g : Nat} {f0 : ByteArray} {f1 : Bool} {f2 : ByteArray} {f3 : Int} {w' : World} {m : Nat} (hq : W.drewN m = w') (h : IsS56 w0 W g f0 f1 f2 f3) : IsS56 w0 w' g f0 f1 f2 f3 := by subst hq; exact IsS56.drewN h m
theorem IsS56.apart {w0 W : World} {g : Nat} {f0 : ByteArray} {f1 : Bool} {f2 : ByteArray} {f3 : Int} {α : Type} {d : Kd α} {e : Nat} {base : Nat} {ok : Nat → Prop} {v : Value} {xs : List α} (h : IsS56 w0 W g f0 f1 f2 f3) (ho : d.R e W base ok v xs) (ht : ∀ q, q ∈ e :: d.E → q ≠ 56) : d.R e W base (fun k => ok k ∧ k ≠ g) v xs := by
  obtain ⟨hb, hg⟩ := h
  exact Kd.R_types ho hb ht
theorem IsS56.own_ne {w0 W : World} {g : Nat} {f0 : ByteArray} {f1 : Bool} {f2 : ByteArray} {f3 : Int} {α : Type} {d : Kd α} {e : Nat} {base : Nat} {ok : Nat → Prop} {v : Value} {xs : List α} (h : IsS56 w0 W g f0 f1 f2 f3) (ho : d.R e W base ok v xs) (ht : e ≠ 56) : some g ≠ v.ownBlock := by
  obtain ⟨hb, hg⟩ := h
  exact Kd.R_ne ho hb ht
theorem IsS56.apartQ {w0 W : World} {g : Nat} {f0 : ByteArray} {f1 : Bool} {f2 : ByteArray} {f3 : Int} {α : Type} {d : Kd α} {e : Nat} {base : Nat} {ok : Nat → Prop} {v : Value} {xs : List α} (h : IsS56 w0 W g f0 f1 f2 f3) (ho : d.Q e W base ok v xs) (ht : ∀ q, q ∈ e :: d.E → q ≠ 56) : d.Q e W base (fun k => ok k ∧ k ≠ g) v xs := by
  obtain ⟨hb, hg⟩ := h
  exact Kd.Q_types ho hb ht
theorem IsS56.own_neQ {w0 W : World} {g : Nat} {f0 : ByteArray} {f1 : Bool} {f2 : ByteArray} {f3 : Int} {α : Type} {d : Kd α} {e : Nat} {base : Nat} {ok : Nat → Prop} {v : Value} {xs : List α} (h : IsS56 w0 W g f0 f1 f2 f3) (ho : d.Q e W base ok v xs) (ht : e ≠ 56) : some g ≠ v.ownBlock := by
  obtain ⟨hb, hg⟩ := h
  exact Kd.Q_ne ho hb ht
theorem IsS56.apartS {w0 W : World} {g : Nat} {f0 : ByteArray} {f1 : Bool} {f2 : ByteArray} {f3 : Int} {α : Type} {d : Kd α} {e : Nat} {base : Nat} {ok : Nat → Prop} {v : Value} {xs : List α} (h : IsS56 w0 W g f0 f1 f2 f3) (ho : d.S e W base ok v xs) (ht : ∀ q, q ∈ e :: d.E → q ≠ 56) : d.S e W base (fun k => ok k ∧ k ≠ g) v xs := by
  obtain ⟨hb, hg⟩ := h
  exact Kd.S_types ho hb ht
theorem IsS56.own_neS {w0 W : World} {g : Nat} {f0 : ByteArray} {f1 : Bool} {f2 : ByteArray} {f3 : Int} {α : Type} {d : Kd α} {e : Nat} {base : Nat} {ok : Nat → Prop} {v : Value} {xs : List α} (h : IsS56 w0 W g f0 f1 f2 f3) (ho : d.S e W base ok v xs) (ht : e ≠ 56) : some g ≠ v.ownBlock := by
  obtain ⟨hb, hg⟩ := h
  exact Kd.S_ne ho hb ht
theorem IsS56.lt {w0 W : World} {g : Nat} {f0 : ByteArray} {f1 : Bool} {f2 : ByteArray} {f3 : Int} (h : IsS56 w0 W g f0 f1 f2 f3) : g < W.heap.size := by
  obtain ⟨hb, hg⟩ := h
  exact blk_lt hb
theorem IsS56.ge {w0 W : World} {g : Nat} {f0 : ByteArray} {f1 : Bool} {f2 : ByteArray} {f3 : Int} (h : IsS56 w0 W g f0 f1 f2 f3) : w0.heap.size ≤ g := by
  obtain ⟨hb, hg⟩ := h
  exact hg
theorem IsS56.ne_blk {w0 W : World} {g : Nat} {f0 : ByteArray} {f1 : Bool} {f2 : ByteArray} {f3 : Int} {a : Nat} {cs : Array Value} {t : TypeId} {fr : Nat × Nat} (h : IsS56 w0 W g f0 f1 f2 f3) (hb2 : W.heap[a]? = some (.cells cs t fr)) (ht : t ≠ 56) : g ≠ a := by
  obtain ⟨hb, hg⟩ := h
  rintro rfl
  rw [hb] at hb2
  injection hb2 with hb2
  injection hb2 with _ ht2
  exact ht ht2.symm
theorem IsS56.far {w0 W : World} {g : Nat} {f0 : ByteArray} {f1 : Bool} {f2 : ByteArray} {f3 : Int} {p : Addr} (h : IsS56 w0 W g f0 f1 f2 f3) (hne : g ≠ p.block) (u : Value) : IsS56 w0 (W.setCell p u) g f0 f1 f2 f3 := by
  obtain ⟨hb, hg⟩ := h
  exact ⟨blk_far hb hne u, hg⟩
theorem cellS56_0 {W : World} {g : Nat} {f0 : ByteArray} {f1 : Bool} {f2 : ByteArray} {f3 : Int} (h : W.heap[g]? = some (.cells #[.string f0, .bool f1, .string f2, .int .i64 f3] 56 (0, 0))) : W.cell? ⟨g, 0, none⟩ = some (.string f0) := (blk_cell h 0).trans rfl
theorem IsS56.set_0 {w0 W : World} {g : Nat} {f0 : ByteArray} {f1 : Bool} {f2 : ByteArray} {f3 : Int} (h : IsS56 w0 W g f0 f1 f2 f3) (x : ByteArray) : IsS56 w0 (W.setCell ⟨g, 0, none⟩ (.string x)) g x f1 f2 f3 := by
  obtain ⟨hb, hg⟩ := h
  exact ⟨by simpa using blk_set hb 0 (.string x), hg⟩
theorem cellS56_1 {W : World} {g : Nat} {f0 : ByteArray} {f1 : Bool} {f2 : ByteArray} {f3 : Int} (h : W.heap[g]? = some (.cells #[.string f0, .bool f1, .string f2, .int .i64 f3] 56 (0, 0))) : W.cell? ⟨g, 1, none⟩ = some (.bool f1) := (blk_cell h 1).trans rfl
theorem IsS56.set_1 {w0 W : World} {g : Nat} {f0 : ByteArray} {f1 : Bool} {f2 : ByteArray} {f3 : Int} (h : IsS56 w0 W g f0 f1 f2 f3) (x : Bool) : IsS56 w0 (W.setCell ⟨g, 1, none⟩ (.bool x)) g f0 x f2 f3 := by
  obtain ⟨hb, hg⟩ := h
  exact ⟨by simpa using blk_set hb 1 (.bool x), hg⟩
theorem cellS56_2 {W : World} {g : Nat} {f0 : ByteArray} {f1 : Bool} {f2 : ByteArray} {f3 : Int} (h : W.heap[g]? = some (.cells #[.string f0, .bool f1, .string f2, .int .i64 f3] 56 (0, 0))) : W.cell? ⟨g, 2, none⟩ = some (.string f2) := (blk_cell h 2).trans rfl
theorem IsS56.set_2 {w0 W : World} {g : Nat} {f0 : ByteArray} {f1 : Bool} {f2 : ByteArray} {f3 : Int} (h : IsS56 w0 W g f0 f1 f2 f3) (x : ByteArray) : IsS56 w0 (W.setCell ⟨g, 2, none⟩ (.string x)) g f0 f1 x f3 := by
  obtain ⟨hb, hg⟩ := h
  exact ⟨by simpa using blk_set hb 2 (.string x), hg⟩
theorem cellS56_3 {W : World} {g : Nat} {f0 : ByteArray} {f1 : Bool} {f2 : ByteArray} {f3 : Int} (h : W.heap[g]? = some (.cells #[.string f0, .bool f1, .string f2, .int .i64 f3] 56 (0, 0))) : W.cell? ⟨g, 3, none⟩ = some (.int .i64 f3) := (blk_cell h 3).trans rfl
theorem IsS56.set_3 {w0 W : World} {g : Nat} {f0 : ByteArray} {f1 : Bool} {f2 : ByteArray} {f3 : Int} (h : IsS56 w0 W g f0 f1 f2 f3) (x : Int) : IsS56 w0 (W.setCell ⟨g, 3, none⟩ (.int .i64 x)) g f0 f1 f2 x := by
  obtain ⟨hb, hg⟩ := h
  exact ⟨by simpa using blk_set hb 3 (.int .i64 x), hg⟩
theorem IsS56.new (w0 W : World) (f0 : ByteArray) (f1 : Bool) (f2 : ByteArray) (f3 : Int) (hB : Below w0.heap.size w0 W) : IsS56 w0 (W.alloc (.cells #[.string f0, .bool f1, .string f2, .int .i64 f3] 56)) W.heap.size f0 f1 f2 f3 := ⟨by simpa using heap_alloc_new W _, hB.size⟩
def scan_New.f  : Option (ByteArray × Bool × ByteArray × Int) := some ((⟨#[]⟩ : ByteArray), false, (⟨#[]⟩ : ByteArray), 0)
set_option maxHeartbeats 8000000 in
set_option maxRecDepth 100000 in
theorem scan_New.calls  (r1 : ByteArray) (r2 : Bool) (r3 : ByteArray) (r4 : Int) (w0 w : World) (hB : Below w0.heap.size w0 w) (h : scan_New.f  = some (r1, r2, r3, r4)) :
    Calls Tryz.prog 16 #[] w fun e w' => ∃ g_ : Nat, e = .returned (.pointer (some ⟨g_, 0, none⟩)) ∧ IsS56 w0 w' g_ r1 r2 r3 r4 ∧ Below w0.heap.size w0 w' ∧ Below w.heap.size w w' := by
  have hu56 := Tryz.underlying56
  have HBW := Aside0.mk (Below.refl w.heap.size w)
  have HW0 := Aside0.mk hB.size
  have HB := Aside0.mk hB
  clear hB
  have H : (some ((⟨#[]⟩ : ByteArray), false, (⟨#[]⟩ : ByteArray), 0)) = some (r1, r2, r3, r4) := h
  clear h
  simp only [Option.some.injEq, Prod.mk.injEq] at H
  obtain ⟨rfl, rfl, rfl, rfl⟩ := H
  go_enter Tryz.func16, Tryz.ntmps16
  go_wp2_with (first | ((with_reducible refine gate_dst (N := 2) rfl ?_); refine box_event ?hg (N := 2) ?hd (cs := #[.string (⟨#[]⟩ : ByteArray), .bool false, .string (⟨#[]⟩ : ByteArray), .int .i64 0]) (t := 56) ?hr ?_; (case hd => rfl); (case hg => rfl); (case hr => first | (go_simp; done) | (go_simp; rfl)); intro gb127 hg w1 hbox hb; have n0_ := Aside0.mk (below_step HBW.out hb); have n1_ := Aside0.mk (below_step (by repeat (first | (with_reducible first | exact HB.out | apply below_alloc | apply pw_below_drewN | apply below_drew1) | exact HB.out)) hb); have n2_ := Aside0.mk (hbox); have n3_ := Aside0.mk ((by rw [hg]; exact (below_size (by repeat (first | (with_reducible first | exact HBW.out | apply below_alloc | apply pw_below_drewN | apply below_drew1) | exact HBW.out))) : w.heap.size ≤ gb127)); have n4_ := Aside0.mk ((Nat.le_trans HW0.out (by rw [hg]; exact (below_size (by repeat (first | (with_reducible first | exact HBW.out | apply below_alloc | apply pw_below_drewN | apply below_drew1) | exact HBW.out))) : w.heap.size ≤ gb127) : w0.heap.size ≤ gb127)); clear HBW; clear HB; have HBW := n0_; have HB := n1_; have BK127 := n2_; have GW127 := n3_; have GE127 := n4_; clear n0_ n1_ n2_ n3_ n4_; clear hb hbox hg))
  go_ret
  exact ⟨_, rfl, (show IsS56 w0 _ gb127 (⟨#[]⟩ : ByteArray) false (⟨#[]⟩ : ByteArray) 0 from ⟨by (with_reducible repeat (first | refine blk_drewN ?_ _ | refine blk_drew ?_ | refine blk_alloc ?_ _)); exact BK127.out, GE127.out⟩), by repeat (first | (with_reducible first | exact HB.out | apply below_alloc | apply pw_below_drewN | apply below_drew1 | refine below_set ?_ GE127.out) | exact HB.out), by repeat (first | (with_reducible first | exact HBW.out | apply below_alloc | apply pw_below_drewN | apply below_drew1 | refine below_set ?_ GW127.out) | exact HBW.out)⟩
end Go.Proofs.YtoacojkmclngmaaGreatDoor.Pz
namespace Go.Proofs.YtoacojkmclngmaaGreatDoor.Pz
open Go.RowKit Go.Proofs.YtoacojkmclngmaaGreatDoorW.PrintWords Go.Proofs.YtoacojkmclngmaaGreatDoorW.PrintLast Go.Proofs.YtoacojkmclngmaaGreatDoorW.PrintMore
attribute [local go_sem] max2_int min2_int max_two min_two max_three min_three max_four min_four   -- for this text's walks alone
attribute [local go_sem] rune_str
set_option linter.unusedVariables false
set_option linter.unusedSimpArgs false
def scan_mode_text.f (a0_0 : ByteArray) (a0_1 : Int) (a1 : ByteArray) : Option (ByteArray) := if a0_1 = 0 then (if a0_1 < 2 then ((charref_Decode.f a1 false).bind fun t124 => (some t124)) else (some a1)) else ((scan_heal.f a1).bind fun t125 => (if a0_1 < 2 then ((charref_Decode.f t125 false).bind fun t126 => (some t126)) else (some t125)))
set_option maxHeartbeats 8000000 in
set_option maxRecDepth 100000 in
theorem scan_mode_text.calls (a0_0 : ByteArray) (a0_1 : Int) (a1 : ByteArray) (r : ByteArray) (w : World) (hG : Glob w) (h : scan_mode_text.f a0_0 a0_1 a1 = some r) :
    Calls Tryz.prog 78 #[.agg #[.string a0_0, .int .i64 a0_1], .string a1] w fun e w' => e = .returned (.string r) ∧ Below w.heap.size w w' := by
  have hu54 := Tryz.underlying54
  have HB := Aside0.mk (Below.refl w.heap.size w)
  have H : (if a0_1 = 0 then (if a0_1 < 2 then ((charref_Decode.f a1 false).bind fun t124 => (some t124)) else (some a1)) else ((scan_heal.f a1).bind fun t125 => (if a0_1 < 2 then ((charref_Decode.f t125 false).bind fun t126 => (some t126)) else (some t125)))) = some r := h
  clear h
  by_cases c3 : a0_1 = 0
  · rw [if_pos c3] at H
    have c3b0 : (a0_1 == 0) = true := beq_iff_eq.mpr c3
    have c3b1 : (a0_1 != 0) = false := bne_eq_false_iff_eq.mpr c3
    clear c3
    by_cases c4 : a0_1 < 2
    · rw [if_pos c4] at H
      have c4b0 : decide (a0_1 < 2) = true := decide_eq_true c4
      clear c4
      replace H := Option.bind_eq_some_iff.mp H
      obtain ⟨t124, A50, H⟩ := H
      replace H : (some t124) = some r := H
      have A5 := Aside0.mk A50
      clear A50
      obtain rfl := Option.some.inj H
      go_enter Tryz.func78, Tryz.ntmps78
      go_wp2_with (first | ((with_reducible refine gate_dst (N := 2) rfl ?_); refine box_event ?hg (N := 2) ?hd (cs := #[.string a0_0, .int .i64 a0_1]) (t := 54) ?hr ?_; (case hd => rfl); (case hg => rfl); (case hr => first | (go_simp; done) | (go_simp; rfl)); intro gb123 hg w6 hbox hb; have n0_ := Aside0.mk (below_step (by repeat (first | (with_reducible first | exact HB.out | apply below_alloc | apply pw_below_drewN | apply below_drew1) | exact HB.out)) hb); have n1_ := Aside0.mk (hbox); have n2_ := Aside0.mk ((by rw [hg]; exact (below_size (by repeat (first | (with_reducible first | exact HB.out | apply below_alloc | apply pw_below_drewN | apply below_drew1) | exact HB.out))) : w.heap.size ≤ gb123)); have n3_ := Aside0.mk ((by rw [hg]; exact (below_size (by repeat (first | (with_reducible first | exact HB.out | apply below_alloc | apply pw_below_drewN | apply below_drew1) | exact HB.out))) : w.heap.size ≤ gb123)); clear HB; have HB := n0_; have BK123 := n1_; have GW123 := n2_; have GE123 := n3_; clear n0_ n1_ n2_ n3_; clear hb hbox hg; have hcz7_0 : w6.cell? ⟨gb123, 0, none⟩ = some (.string a0_0) := (blk_cell BK123.out 0).trans rfl; have hcz7_1 : w6.cell? ⟨gb123, 1, none⟩ = some (.int .i64 a0_1) := (blk_cell BK123.out 1).trans rfl; have hfz7_0 := blk_frozen BK123.out 0; have hfz7_1 := blk_frozen BK123.out 1) | ((with_reducible refine gate_callee (f := 25) rfl ?_); refine goesL_ (some 14) rfl rfl Tryz.func25 (by kernel_rfl) rfl #[.string a1, .bool false] rfl (by (try simp only [List.map_toArray, List.map_cons, List.map_nil]); first | done | rfl | (simp only [List.length_drop, List.length_take]; rfl)) ?_; (with_reducible refine (charref_Decode.calls a1 false t124 _ ?side1 A5.out).mono ?_); (case side1 => exact Glob.below hG (by repeat (first | (with_reducible first | exact HB.out | apply below_alloc | apply pw_below_drewN | apply below_drew1 | refine below_set ?_ GE123.out) | exact HB.out))); rintro e w8 ⟨rfl, hb⟩; refine ⟨_, rfl, ?_⟩; have n0_ := Aside0.mk (blk_below (g := gb123) (o := .cells #[.string a0_0, .int .i64 a0_1] 54 (0, 0)) (by (with_reducible repeat (first | refine blk_drewN ?_ _ | refine blk_drew ?_ | refine blk_alloc ?_ _)); exact BK123.out) hb); have n1_ := Aside0.mk (below_step (by repeat (first | (with_reducible first | exact HB.out | apply below_alloc | apply pw_below_drewN | apply below_drew1 | refine below_set ?_ GE123.out) | exact HB.out)) hb); clear BK123; clear HB; have BK123 := n0_; have HB := n1_; clear n0_ n1_; (try clear hb); (try clear hb2); (try clear hk); (try clear hi)))
      go_ret
      exact ⟨by first | rfl | (simp [errW_none, errW_some] <;> rfl) | (simp [*, errW_none, errW_some] <;> rfl), by repeat (first | (with_reducible first | exact HB.out | apply below_alloc | apply pw_below_drewN | apply below_drew1 | refine below_set ?_ GE123.out) | exact HB.out)⟩
    · rw [if_neg c4] at H
      have c4b0 : decide (a0_1 < 2) = false := decide_eq_false c4
      clear c4
      obtain rfl := Option.some.inj H
      go_enter Tryz.func78, Tryz.ntmps78
      go_wp2_with (first | ((with_reducible refine gate_dst (N := 2) rfl ?_); refine box_event ?hg (N := 2) ?hd (cs := #[.string a0_0, .int .i64 a0_1]) (t := 54) ?hr ?_; (case hd => rfl); (case hg => rfl); (case hr => first | (go_simp; done) | (go_simp; rfl)); intro gb123 hg w9 hbox hb; have n0_ := Aside0.mk (below_step (by repeat (first | (with_reducible first | exact HB.out | apply below_alloc | apply pw_below_drewN | apply below_drew1) | exact HB.out)) hb); have n1_ := Aside0.mk (hbox); have n2_ := Aside0.mk ((by rw [hg]; exact (below_size (by repeat (first | (with_reducible first | exact HB.out | apply below_alloc | apply pw_below_drewN | apply below_drew1) | exact HB.out))) : w.heap.size ≤ gb123)); have n3_ := Aside0.mk ((by rw [hg]; exact (below_size (by repeat (first | (with_reducible first | exact HB.out | apply below_alloc | apply pw_below_drewN | apply below_drew1) | exact HB.out))) : w.heap.size ≤ gb123)); clear HB; have HB := n0_; have BK123 := n1_; have GW123 := n2_; have GE123 := n3_; clear n0_ n1_ n2_ n3_; clear hb hbox hg; have hcz10_0 : w9.cell? ⟨gb123, 0, none⟩ = some (.string a0_0) := (blk_cell BK123.out 0).trans rfl; have hcz10_1 : w9.cell? ⟨gb123, 1, none⟩ = some (.int .i64 a0_1) := (blk_cell BK123.out 1).trans rfl; have hfz10_0 := blk_frozen BK123.out 0; have hfz10_1 := blk_frozen BK123.out 1))
      go_ret
      exact ⟨by first | rfl | (simp [errW_none, errW_some] <;> rfl) | (simp [*, errW_none, errW_some] <;> rfl), by repeat (first | (with_reducible first | exact HB.out | apply below_alloc | apply pw_below_drewN | apply below_drew1 | refine below_set ?_ GE123.out) | exact HB.out)⟩
  · rw [if_neg c3] at H
    have c3b0 : (a0_1 == 0) = false := beq_eq_false_iff_ne.mpr c3
    have c3b1 : (a0_1 != 0) = true := bne_iff_ne.mpr c3
    replace H := Option.bind_eq_some_iff.mp H
    obtain ⟨t125, A110, H⟩ := H
    replace H : (if a0_1 < 2 then ((charref_Decode.f t125 false).bind fun t126 => (some t126)) else (some t125)) = some r := H
    have A11 := Aside0.mk A110
    clear A110
    by_cases c12 : a0_1 < 2
    · rw [if_pos c12] at H
      have c12b0 : decide (a0_1 < 2) = true := decide_eq_true c12
      clear c12
      replace H := Option.bind_eq_some_iff.mp H
      obtain ⟨t126, A130, H⟩ := H
      replace H : (some t126) = some r := H
      have A13 := Aside0.mk A130
      clear A130
      obtain rfl := Option.some.inj H
      go_enter Tryz.func78, Tryz.ntmps78
      go_wp2_with (first | ((with_reducible refine gate_dst (N := 2) rfl ?_); refine box_event ?hg (N := 2) ?hd (cs := #[.string a0_0, .int .i64 a0_1]) (t := 54) ?hr ?_; (case hd => rfl); (case hg => rfl); (case hr => first | (go_simp; done) | (go_simp; rfl)); intro gb123 hg w14 hbox hb; have n0_ := Aside0.mk (below_step (by repeat (first | (with_reducible first | exact HB.out | apply below_alloc | apply pw_below_drewN | apply below_drew1) | exact HB.out)) hb); have n1_ := Aside0.mk (hbox); have n2_ := Aside0.mk ((by rw [hg]; exact (below_size (by repeat (first | (with_reducible first | exact HB.out | apply below_alloc | apply pw_below_drewN | apply below_drew1) | exact HB.out))) : w.heap.size ≤ gb123)); have n3_ := Aside0.mk ((by rw [hg]; exact (below_size (by repeat (first | (with_reducible first | exact HB.out | apply below_alloc | apply pw_below_drewN | apply below_drew1) | exact HB.out))) : w.heap.size ≤ gb123)); clear HB; have HB := n0_; have BK123 := n1_; have GW123 := n2_; have GE123 := n3_; clear n0_ n1_ n2_ n3_; clear hb hbox hg; have hcz15_0 : w14.cell? ⟨gb123, 0, none⟩ = some (.string a0_0) := (blk_cell BK123.out 0).trans rfl; have hcz15_1 : w14.cell? ⟨gb123, 1, none⟩ = some (.int .i64 a0_1) := (blk_cell BK123.out 1).trans rfl; have hfz15_0 := blk_frozen BK123.out 0; have hfz15_1 := blk_frozen BK123.out 1) | ((with_reducible refine gate_callee (f := 109) rfl ?_); refine goesL_ (some 9) rfl rfl Tryz.func109 (by kernel_rfl) rfl #[.string a1] rfl (by (try simp only [List.map_toArray, List.map_cons, List.map_nil]); first | done | rfl | (simp only [List.length_drop, List.length_take]; rfl)) ?_; (with_reducible refine (scan_heal.calls a1 t125 _ ?side1 A11.out).mono ?_); (case side1 => exact Glob.below hG (by repeat (first | (with_reducible first | exact HB.out | apply below_alloc | apply pw_below_drewN | apply below_drew1 | refine below_set ?_ GE123.out) | exact HB.out))); rintro e w16 ⟨rfl, hb⟩; refine ⟨_, rfl, ?_⟩; have n0_ := Aside0.mk (blk_below (g := gb123) (o := .cells #[.string a0_0, .int .i64 a0_1] 54 (0, 0)) (by (with_reducible repeat (first | refine blk_drewN ?_ _ | refine blk_drew ?_ | refine blk_alloc ?_ _)); exact BK123.out) hb); have n1_ := Aside0.mk (below_step (by repeat (first | (with_reducible first | exact HB.out | apply below_alloc | apply pw_below_drewN | apply below_drew1 | refine below_set ?_ GE123.out) | exact HB.out)) hb); clear BK123; clear HB; have BK123 := n0_; have HB := n1_; clear n0_ n1_; (try clear hb); (try clear hb2); (try clear hk); (try clear hi); have hcz17_0 : w16.cell? ⟨gb123, 0, none⟩ = some (.string a0_0) := (blk_cell BK123.out 0).trans rfl; have hcz17_1 : w16.cell? ⟨gb123, 1, none⟩ = some (.int .i64 a0_1) := (blk_cell BK123.out 1).trans rfl; have hfz17_0 := blk_frozen BK123.out 0; have hfz17_1 := blk_frozen BK123.out 1) | ((with_reducible refine gate_callee (f := 25) rfl ?_); refine goesL_ (some 14) rfl rfl Tryz.func25 (by kernel_rfl) rfl #[.string t125, .bool false] rfl (by (try simp only [List.map_toArray, List.map_cons, List.map_nil]); first | done | rfl | (simp only [List.length_drop, List.length_take]; rfl)) ?_; (with_reducible refine (charref_Decode.calls t125 false t126 _ ?side1 A13.out).mono ?_); (case side1 => exact Glob.below hG (by repeat (first | (with_reducible first | exact HB.out | apply below_alloc | apply pw_below_drewN | apply below_drew1 | refine below_set ?_ GE123.out) | exact HB.out))); rintro e w18 ⟨rfl, hb⟩; refine ⟨_, rfl, ?_⟩; have n0_ := Aside0.mk (blk_below (g := gb123) (o := .cells #[.string a0_0, .int .i64 a0_1] 54 (0, 0)) (by (with_reducible repeat (first | refine blk_drewN ?_ _ | refine blk_drew ?_ | refine blk_alloc ?_ _)); exact BK123.out) hb); have n1_ := Aside0.mk (below_step (by repeat (first | (with_reducible first | exact HB.out | apply below_alloc | apply pw_below_drewN | apply below_drew1 | refine below_set ?_ GE123.out) | exact HB.out)) hb); clear BK123; clear HB; have BK123 := n0_; have HB := n1_; clear n0_ n1_; (try clear hb); (try clear hb2); (try clear hk); (try clear hi)))
      go_ret
      exact ⟨by first | rfl | (simp [errW_none, errW_some] <;> rfl) | (simp [*, errW_none, errW_some] <;> rfl), by repeat (first | (with_reducible first | exact HB.out | apply below_alloc | apply pw_below_drewN | apply below_drew1 | refine below_set ?_ GE123.out) | exact HB.out)⟩
    · rw [if_neg c12] at H
      have c12b0 : decide (a0_1 < 2) = false := decide_eq_false c12
      clear c12
      obtain rfl := Option.some.inj H
      go_enter Tryz.func78, Tryz.ntmps78
      go_wp2_with (first | ((with_reducible refine gate_dst (N := 2) rfl ?_); refine box_event ?hg (N := 2) ?hd (cs := #[.string a0_0, .int .i64 a0_1]) (t := 54) ?hr ?_; (case hd => rfl); (case hg => rfl); (case hr => first | (go_simp; done) | (go_simp; rfl)); intro gb123 hg w19 hbox hb; have n0_ := Aside0.mk (below_step (by repeat (first | (with_reducible first | exact HB.out | apply below_alloc | apply pw_below_drewN | apply below_drew1) | exact HB.out)) hb); have n1_ := Aside0.mk (hbox); have n2_ := Aside0.mk ((by rw [hg]; exact (below_size (by repeat (first | (with_reducible first | exact HB.out | apply below_alloc | apply pw_below_drewN | apply below_drew1) | exact HB.out))) : w.heap.size ≤ gb123)); have n3_ := Aside0.mk ((by rw [hg]; exact (below_size (by repeat (first | (with_reducible first | exact HB.out | apply below_alloc | apply pw_below_drewN | apply below_drew1) | exact HB.out))) : w.heap.size ≤ gb123)); clear HB; have HB := n0_; have BK123 := n1_; have GW123 := n2_; have GE123 := n3_; clear n0_ n1_ n2_ n3_; clear hb hbox hg; have hcz20_0 : w19.cell? ⟨gb123, 0, none⟩ = some (.string a0_0) := (blk_cell BK123.out 0).trans rfl; have hcz20_1 : w19.cell? ⟨gb123, 1, none⟩ = some (.int .i64 a0_1) := (blk_cell BK123.out 1).trans rfl; have hfz20_0 := blk_frozen BK123.out 0; have hfz20_1 := blk_frozen BK123.out 1) | ((with_reducible refine gate_callee (f := 109) rfl ?_); refine goesL_ (some 9) rfl rfl Tryz.func109 (by kernel_rfl) rfl #[.string a1] rfl (by (try simp only [List.map_toArray, List.map_cons, List.map_nil]); first | done | rfl | (simp only [List.length_drop, List.length_take]; rfl)) ?_; (with_reducible refine (scan_heal.calls a1 t125 _ ?side1 A11.out).mono ?_); (case side1 => exact Glob.below hG (by repeat (first | (with_reducible first | exact HB.out | apply below_alloc | apply pw_below_drewN | apply below_drew1 | refine below_set ?_ GE123.out) | exact HB.out))); rintro e w21 ⟨rfl, hb⟩; refine ⟨_, rfl, ?_⟩; have n0_ := Aside0.mk (blk_below (g := gb123) (o := .cells #[.string a0_0, .int .i64 a0_1] 54 (0, 0)) (by (with_reducible repeat (first | refine blk_drewN ?_ _ | refine blk_drew ?_ | refine blk_alloc ?_ _)); exact BK123.out) hb); have n1_ := Aside0.mk (below_step (by repeat (first | (with_reducible first | exact HB.out | apply below_alloc | apply pw_below_drewN | apply below_drew1 | refine below_set ?_ GE123.out) | exact HB.out)) hb); clear BK123; clear HB; have BK123 := n0_; have HB := n1_; clear n0_ n1_; (try clear hb); (try clear hb2); (try clear hk); (try clear hi); have hcz22_0 : w21.cell? ⟨gb123, 0, none⟩ = some (.string a0_0) := (blk_cell BK123.out 0).trans rfl; have hcz22_1 : w21.cell? ⟨gb123, 1, none⟩ = some (.int .i64 a0_1) := (blk_cell BK123.out 1).trans rfl; have hfz22_0 := blk_frozen BK123.out 0; have hfz22_1 := blk_frozen BK123.out 1))
      go_ret
      exact ⟨by first | rfl | (simp [errW_none, errW_some] <;> rfl) | (simp [*, errW_none, errW_some] <;> rfl), by repeat (first | (with_reducible first | exact HB.out | apply below_alloc | apply pw_below_drewN | apply below_drew1 | refine below_set ?_ GE123.out) | exact HB.out)⟩
end Go.Proofs.YtoacojkmclngmaaGreatDoor.Pz
namespace Go.Proofs.YtoacojkmclngmaaGreatDoor.Pz
open Go.RowKit Go.Proofs.YtoacojkmclngmaaGreatDoorW.PrintWords Go.Proofs.YtoacojkmclngmaaGreatDoorW.PrintLast Go.Proofs.YtoacojkmclngmaaGreatDoorW.PrintMore
attribute [local go_sem] max2_int min2_int max_two min_two max_three min_three max_four min_four   -- for this text's walks alone
attribute [local go_sem] rune_str
set_option linter.unusedVariables false
set_option linter.unusedSimpArgs false
def beginsV (s w : ByteArray) : Bool := decide (w.size ≤ s.size) && (lowerB (s.extract 0 w.size)).toList == w.toList
theorem begins_f (s w : ByteArray) (h : s.size ≤ 140737488355328) : scan_begins.f s w = some (beginsV s w) := by
  unfold scan_begins.f beginsV
  by_cases h1 : w.size ≤ s.size
  · have h2 : class_Lower.f (s.extract 0 w.size) = some (lowerB (s.extract 0 w.size)) := by
      unfold class_Lower.f
      rw [if_pos (by rw [ByteArray.size_extract]; omega)]
    rw [if_pos (by omega), if_pos (by omega), if_pos (by omega)]
    simp [h1, h2]
  · rw [if_neg (by omega)]
    simp [h1]
def endAt (e s : ByteArray) (n : Nat) : Option Bool :=
  if s.data.toList[n]? = some 60 then
    if s.size - n ≤ e.size then (if beginsV e (lowerB (s.extract n s.size)) = true then some false else none)
    else if beginsV (s.extract n s.size) e = true ∧ 0 ≤ Lib.indexByte [9, 10, 12, 13, 32, 47, 62] (s.data.toList.getD (n + e.size) 0) then some true else none
  else none
def endsGo (e s : ByteArray) : Nat → Nat → Int × Bool
  | 0, n => ((s.size : Int), false)
  | k + 1, n => match endAt e s n with
    | some b => ((n : Int), b)
    | none => endsGo e s k (n + 1)
def tagEnd (name : ByteArray) : ByteArray := (⟨#[60, 47]⟩ : ByteArray) ++ name
def scan_mode_ends.f (a0_0 : ByteArray) (a0_1 : Int) (a1 : ByteArray) : Option (Int × Bool) :=
  if a1.size ≤ 140737488355328 ∧ a0_0.size ≤ 70368744177664 then some (endsGo (tagEnd a0_0) a1 a1.size 0) else none
theorem endsGo_step (e s : ByteArray) (n : Nat) (h : n < s.size) : endsGo e s (s.size - n) n = match endAt e s n with
    | some b => ((n : Int), b)
    | none => endsGo e s (s.size - (n + 1)) (n + 1) := by
  obtain ⟨k, hk⟩ : ∃ k, s.size - n = k + 1 := ⟨s.size - n - 1, by omega⟩
  have hk2 : s.size - (n + 1) = k := by omega
  rw [hk, hk2]; rfl
theorem data_at (s : ByteArray) (n : Nat) (h : n < s.size) : s.data.toList[n]? = some (s[n]'h) := by
  have h2 : n < s.data.toList.length := by rw [Array.length_toList]; exact h
  rw [List.getElem?_eq_getElem h2]; rfl
set_option maxHeartbeats 4000000 in
set_option maxRecDepth 100000 in
theorem scan_mode_ends.calls (a0_0 : ByteArray) (a0_1 : Int) (a1 : ByteArray) (r1 : Int) (r2 : Bool) (w : World) (h : scan_mode_ends.f a0_0 a0_1 a1 = some (r1, r2)) :
    Calls Tryz.prog 104 #[.agg #[.string a0_0, .int .i64 a0_1], .string a1] w fun e w' => e = .returned (.tuple #[.int .i64 r1, .bool r2]) ∧ Below w.heap.size w w' := by
  unfold scan_mode_ends.f at h
  split at h
  case isFalse => cases h
  rename_i hs
  obtain ⟨hs1, hs0⟩ := hs
  have h := Option.some.inj h
  have HRES : Aside0 (endsGo (tagEnd a0_0) a1 a1.size 0 = (r1, r2)) := ⟨h⟩
  clear h
  go_enter Tryz.func104, Tryz.ntmps104
  go_wp2
  obtain ⟨E, hE⟩ : ∃ E : ByteArray, E = ({ data := #[60, 47] } : ByteArray) ++ a0_0 := ⟨_, rfl⟩
  have hEs : E.size = 2 + a0_0.size := by rw [hE, ByteArray.size_append]; rfl
  have HE : Aside0 (tagEnd a0_0 = E) := ⟨hE.symm⟩
  have HB := Aside0.mk ((Below.refl w.heap.size w).alloc (Nat.le_refl _) (Obj.cells #[Value.string a0_0, Value.int IntKind.i64 a0_1] 54))
  generalize w.alloc (Obj.cells #[Value.string a0_0, Value.int IntKind.i64 a0_1] 54) = w1 at HB ⊢
  rw [← hE]
  have HES := Aside0.mk hEs
  have hEi : (E.size : Int) ≤ 140737488355328 := by omega
  clear hE hEs
  go_loopw [14] (fun i wr => ∃ k : Nat, k ≤ a1.size ∧ i = .int .i64 k ∧ Aside0 (endsGo (tagEnd a0_0) a1 (a1.size - k) k = (r1, r2)) ∧ Aside0 (Below w.heap.size w wr)) (fun i _ => a1.size - (intOf i).toNat)
  case atStart => exact ⟨0, Nat.zero_le _, rfl, HRES, HB⟩
  case round =>
    obtain ⟨k, hk, rfl, hr, hb⟩ := hrel
    by_cases hlt : k < a1.size
    · have hstep := endsGo_step (tagEnd a0_0) a1 k hlt
      rw [hr.out] at hstep
      have HST := Aside0.mk hstep
      clear hstep
      have hda := data_at a1 k hlt
      have ht : (a1.extract k a1.size).size = a1.size - k := by rw [ByteArray.size_extract]; omega
      have hti : ((a1.extract k a1.size).size : Int) = (a1.size : Int) - k := by rw [ht]; omega
      by_cases hc : (a1[k]'hlt) = 60
      · have hcb : (((a1[k]'hlt).toNat : Int) != 60) = false := by rw [hc]; rfl
        rw [hc] at hda
        by_cases hle : a1.size - k ≤ E.size
        · have hlow : class_Lower.f (a1.extract k a1.size) = some (lowerB (a1.extract k a1.size)) := by
            unfold class_Lower.f; rw [if_pos (by omega)]
          have hbeg := begins_f E (lowerB (a1.extract k a1.size)) (by omega)
          have hle1 : ((a1.size - k : Nat) : Int) ≤ (E.size : Int) := by omega
          have hat : endAt (tagEnd a0_0) a1 k = if beginsV E (lowerB (a1.extract k a1.size)) = true then some false else none := by
            unfold endAt; rw [HE.out, if_pos hda, if_pos hle]
          rw [hat] at HST
          have HLE := Aside0.mk hle
          have HTI := Aside0.mk hti
          clear hda hat ht hle hti hc
          cases hbv : beginsV E (lowerB (a1.extract k a1.size))
          · rw [hbv] at hbeg HST
            simp only [Bool.false_eq_true, if_false] at HST
            clear hbv
            go_wp2_with (first | (go_at_call 132; (with_reducible refine (class_Lower.calls (a1.extract k a1.size) (lowerB (a1.extract k a1.size)) _ hlow).mono ?_); rintro e w2 ⟨rfl, hb2⟩; have HB2 := Aside0.mk (below_step hb.out hb2); clear hb2) | (go_at_call 112; (with_reducible refine (scan_begins.calls E (lowerB (a1.extract k a1.size)) false _ hbeg).mono ?_); rintro e w3 ⟨rfl, hb3⟩; have HB3 := Aside0.mk (below_step HB2.out hb3); clear hb3))
            go_roundw
            case rel => exact ⟨k + 1, by omega, by go_num, ⟨HST.out.symm⟩, HB3⟩
            case measure => simp [intOf]; omega
          · rw [hbv] at hbeg HST
            simp only [if_true, Prod.mk.injEq] at HST
            obtain ⟨rfl, rfl⟩ := HST.out
            clear hbv
            go_wp2_with (first | (go_at_call 132; (with_reducible refine (class_Lower.calls (a1.extract k a1.size) (lowerB (a1.extract k a1.size)) _ hlow).mono ?_); rintro e w2 ⟨rfl, hb2⟩; have HB2 := Aside0.mk (below_step hb.out hb2); clear hb2) | (go_at_call 112; (with_reducible refine (scan_begins.calls E (lowerB (a1.extract k a1.size)) true _ hbeg).mono ?_); rintro e w3 ⟨rfl, hb3⟩; have HB3 := Aside0.mk (below_step HB2.out hb3); clear hb3))
            go_ret2
            exact ⟨rfl, HB3.out⟩
        · have hbeg := begins_f (a1.extract k a1.size) E (by omega)
          have hle1 : ¬ ((a1.size - k : Nat) : Int) ≤ (E.size : Int) := by omega
          have hle2 : (E.size : Int) < ((a1.size - k : Nat) : Int) := by omega
          have hat : endAt (tagEnd a0_0) a1 k = if beginsV (a1.extract k a1.size) E = true ∧ 0 ≤ Lib.indexByte [9, 10, 12, 13, 32, 47, 62] (a1.data.toList.getD (k + E.size) 0) then some true else none := by
            unfold endAt; rw [HE.out, if_pos hda, if_neg hle]
          rw [hat] at HST
          have hke : k + E.size < a1.size := by omega
          have hidx : (E.size : Nat) < (a1.extract k a1.size).size := by omega
          have hbyte : (a1.extract k a1.size)[E.size]'hidx = a1.data.toList.getD (k + E.size) 0 := by
            have h2 : k + E.size < a1.data.toList.length := by rw [Array.length_toList]; exact hke
            rw [List.getD_eq_getElem?_getD, List.getElem?_eq_getElem h2, ByteArray.getElem_extract]
            rfl
          have hidxi : (E.size : Int) < ((a1.extract k a1.size).size : Int) := by omega
          have HLE := Aside0.mk hle
          have HTI := Aside0.mk hti
          clear hda hat ht hle hti hc hke
          cases hbv : beginsV (a1.extract k a1.size) E
          · rw [hbv] at hbeg HST
            simp only [Bool.false_eq_true, false_and, if_false] at HST
            clear hbv hbyte hidx
            go_wp2_with (first | (go_at_call 112; (with_reducible refine (scan_begins.calls (a1.extract k a1.size) E false _ hbeg).mono ?_); rintro e w3 ⟨rfl, hb3⟩; have HB3 := Aside0.mk (below_step hb.out hb3); clear hb3))
            go_roundw
            case rel => exact ⟨k + 1, by omega, by go_num, ⟨HST.out.symm⟩, HB3⟩
            case measure => simp [intOf]; omega
          · rw [hbv] at hbeg HST
            simp only [true_and] at HST
            obtain ⟨ix, hixv⟩ : ∃ ix, ix = Lib.indexByte [9, 10, 12, 13, 32, 47, 62] (a1.data.toList.getD (k + E.size) 0) := ⟨_, rfl⟩
            have hix : ∀ W : World, Calls Tryz.prog 43 #[.string ⟨#[9, 10, 12, 13, 32, 47, 62]⟩, .int .u8 (((a1.extract k a1.size)[E.size]'hidx).toNat : Int)] W fun e w' => e = .returned (.int .i64 ix) ∧ w' = W := fun W => (Tryz.strings_IndexByte _ _ W).mono fun e w' ⟨he, hw⟩ => ⟨by rw [he, hixv, ← hbyte]; simp, hw⟩
            rw [← hixv] at HST
            clear hbv hbyte hixv
            by_cases hpos : 0 ≤ ix
            · rw [if_pos hpos] at HST
              simp only [Prod.mk.injEq] at HST
              obtain ⟨rfl, rfl⟩ := HST.out
              go_wp2_with (first | (go_at_call 112; (with_reducible refine (scan_begins.calls (a1.extract k a1.size) E true _ hbeg).mono ?_); rintro e w3 ⟨rfl, hb3⟩; have HB3 := Aside0.mk (below_step hb.out hb3); clear hb3) | (go_at_call 43; (with_reducible refine (hix _).mono ?_); rintro e w4 ⟨rfl, rfl⟩))
              go_ret2
              exact ⟨rfl, HB3.out⟩
            · rw [if_neg hpos] at HST
              go_wp2_with (first | (go_at_call 112; (with_reducible refine (scan_begins.calls (a1.extract k a1.size) E true _ hbeg).mono ?_); rintro e w3 ⟨rfl, hb3⟩; have HB3 := Aside0.mk (below_step hb.out hb3); clear hb3) | (go_at_call 43; (with_reducible refine (hix _).mono ?_); rintro e w4 ⟨rfl, rfl⟩))
              go_roundw
              case rel => exact ⟨k + 1, by omega, by go_num, ⟨HST.out.symm⟩, HB3⟩
              case measure => simp [intOf]; omega
      · have hcn : (((a1[k]'hlt).toNat : Int) != 60) = true := by
          have : (a1[k]'hlt).toNat ≠ 60 := fun e => hc (UInt8.toNat_inj.1 e)
          simp; omega
        have hat : endAt (tagEnd a0_0) a1 k = none := by
          unfold endAt
          rw [if_neg]
          rw [hda]
          simpa using hc
        rw [hat] at HST
        clear hat hda ht hti hc
        go_wp2
        go_roundw
        case rel => exact ⟨k + 1, by omega, by go_num, ⟨HST.out.symm⟩, hb⟩
        case measure => simp [intOf]; omega
    · have hz : a1.size - k = 0 := by omega
      have hres : ((a1.size : Int), false) = (r1, r2) := by
        rw [← hr.out, hz]; rfl
      simp only [Prod.mk.injEq] at hres
      obtain ⟨rfl, rfl⟩ := hres
      clear hz
      go_wp2
      go_ret2
      exact ⟨rfl, hb.out⟩
end Go.Proofs.YtoacojkmclngmaaGreatDoor.Pz
namespace Go.Proofs.YtoacojkmclngmaaGreatDoor.Pz
open Go.RowKit Go.Proofs.YtoacojkmclngmaaGreatDoorW.PrintWords Go.Proofs.YtoacojkmclngmaaGreatDoorW.PrintLast Go.Proofs.YtoacojkmclngmaaGreatDoorW.PrintMore
attribute [local go_sem] max2_int min2_int max_two min_two max_three min_three max_four min_four   -- for this text's walks alone
attribute [local go_sem] rune_str
set_option linter.unusedVariables false
set_option linter.unusedSimpArgs false
def scan_opens.j0 : Nat → ByteArray → Bool → Option (Bool × Bool)
  | 0, _, _ => none
  | k + 1, x0, x5 => if x5 = true then (some (false, false)) else (if (x0.size : Int) = 1 then (some (false, true)) else (if x0.toList = ([60, 47] : List UInt8) then (some (false, true)) else (if 1 < (x0.size : Int) then ((class_Letter.f (bt x0 1)).bind fun t128 => (if t128 = true then (some (true, false)) else (if (bt x0 1) = 33 then (some (true, false)) else (if (bt x0 1) = 63 then (some (true, false)) else (some (((bt x0 1) == 47), false)))))) else (none))))
def scan_opens.f (k : Nat) (a0 : ByteArray) : Option (Bool × Bool) := if a0.toList = ([] : List UInt8) then (scan_opens.j0 k a0 true) else (if 0 < (a0.size : Int) then (scan_opens.j0 k a0 ((bt a0 0) != 60)) else (none))
theorem scan_opens.mono_l : ∀ k, (∀ y0 y1, LeO (scan_opens.j0 k y0 y1) (scan_opens.j0 (k + 1) y0 y1))
  | 0 => fun _ _ r h => by simp [scan_opens.j0] at h
  | k + 1 => by
    have ih0 := scan_opens.mono_l k
    · intro y0 y1
      unfold scan_opens.j0
      repeat' first
      | (with_reducible exact ih0 _ _)
      | (with_reducible exact LeO.refl _)
      | (with_reducible exact LeO.none _)
      | (with_reducible refine LeO.ite ?_ ?_)
      | (with_reducible refine LeO.bind ?_ (fun _ => ?_))
      | exact ih0 _ _
      | exact LeO.none _
      | refine LeO.ite ?_ ?_
      | refine LeO.bind ?_ (fun _ => ?_)
theorem scan_opens.mono : ∀ a0 k, LeO (scan_opens.f k a0) (scan_opens.f (k + 1) a0) := by
  intro a0 k
  have ih0 := scan_opens.mono_l k
  unfold scan_opens.f
  repeat' first
      | (with_reducible exact ih0 _ _)
      | (with_reducible exact LeO.refl _)
      | (with_reducible exact LeO.none _)
      | (with_reducible refine LeO.ite ?_ ?_)
      | (with_reducible refine LeO.bind ?_ (fun _ => ?_))
      | exact ih0 _ _
      | exact LeO.none _
      | refine LeO.ite ?_ ?_
      | refine LeO.bind ?_ (fun _ => ?_)
set_option maxHeartbeats 8000000 in
set_option maxRecDepth 100000 in
theorem scan_opens.calls (k : Nat) (a0 : ByteArray) (r1 : Bool) (r2 : Bool) (w : World) (h : scan_opens.f k a0 = some (r1, r2)) :
    Calls Tryz.prog 105 #[.string a0] w fun e w' => e = .returned (.tuple #[.bool r1, .bool r2]) ∧ Drawn0 w w' := by
  have H : (if a0.toList = ([] : List UInt8) then (scan_opens.j0 k a0 true) else (if 0 < (a0.size : Int) then (scan_opens.j0 k a0 ((bt a0 0) != 60)) else (none))) = some (r1, r2) := h
  clear h
  have HC2 := Aside0.mk H
  clear H
  go_enter Tryz.func105, Tryz.ntmps105
  go_upto_region 1 with (fail)
  go_cut [5] (fun v5 wc => ∃ (kq : Nat) (x5_1 : Bool), v5 = .bool x5_1 ∧ Aside0 (scan_opens.j0 kq a0 x5_1 = some (r1, r2)) ∧ Aside0 (kq ≤ k) ∧ Drawn0 w wc)
  case first =>
    have H := HC2.out
    clear HC2
    by_cases c3 : a0.toList = ([] : List UInt8)
    · rw [if_pos c3] at H
      have c3b0 : (a0.toList == ([] : List UInt8)) = true := beq_iff_eq.mpr c3
      have c3b1 : (a0.toList != ([] : List UInt8)) = false := bne_eq_false_iff_eq.mpr c3
      clear c3
      (first | rw [c3b0] | (simp only [i64_w, i32_w]; rw [c3b0]) | skip)
      have H' := Aside0.mk H
      clear H
      go_wp2
      go_meet
      case rel => exact ⟨_, (true), (by first | rfl | (simp; done) | (simp [*]; done) | (simp; unfold wrap64; omega) | (simp; rfl)), H', ⟨by first | omega | exact Nat.le_refl _⟩, by repeat (first | exact Drawn0.refl _ | apply Drawn0.step)⟩
    · rw [if_neg c3] at H
      have c3b0 : (a0.toList == ([] : List UInt8)) = false := beq_eq_false_iff_ne.mpr c3
      have c3b1 : (a0.toList != ([] : List UInt8)) = true := bne_iff_ne.mpr c3
      (first | rw [c3b0] | (simp only [i64_w, i32_w]; rw [c3b0]) | skip)
      by_cases c4 : 0 < (a0.size : Int)
      · rw [if_pos c4] at H
        have c4b0 : decide (0 < (a0.size : Int)) = true := decide_eq_true c4
        have c4b1 : decide (0 < a0.size) = true := decide_eq_true (by omega)
        clear c4
        have H' := Aside0.mk H
        clear H
        have p5 : 0 ≤ (0 : Int) := (by omega)
        have q5 : 0 < a0.size := (by have : (0 : Int) < (a0.size : Int) := of_decide_eq_true (by first | (with_reducible assumption) | assumption); omega)
        have hx5 : ∀ h : 0 < a0.size, ((a0[0]'h).toNat : Int) = bt a0 0 := bt_at a0 0
        clear p5
        have qi5 : (0 < (a0.size : Int)) = True := eq_true (of_decide_eq_true (by first | (with_reducible assumption) | assumption))
        replace q5 := eq_true q5
        go_wp2
        go_meet
        case rel => exact ⟨_, (((bt a0 0) != 60)), (by first | rfl | (simp; done) | (simp [*]; done) | (simp; unfold wrap64; omega) | (simp; rfl)), H', ⟨by first | omega | exact Nat.le_refl _⟩, by repeat (first | exact Drawn0.refl _ | apply Drawn0.step)⟩
      · rw [if_neg c4] at H
        exact absurd H (by simp)
  case rest =>
    clear HC2
    try clear c1
    try clear p2
    try clear c3
    try clear c3b0
    try clear c3b1
    try clear c4
    try clear c4b0
    try clear c4b1
    try clear p5
    try clear q5
    try clear hx5
    try clear qi5
    try clear p5
    try clear q5
    obtain ⟨kq, x5_1, rfl, HA, HJ1, ⟨mc1, rfl⟩⟩ := hcut
    cases kq with
    | zero => exact absurd HA.out (by simp [scan_opens.j0])
    | succ kj1 =>
      have H := HA.out
      clear HA
      simp only [scan_opens.j0] at H
      by_cases c6 : x5_1 = true
      · subst c6
        have H1 : (some (false, false)) = some (r1, r2) := by rw [if_pos rfl] at H; exact H
        clear H
        have H := H1
        clear H1
        simp only [Option.some.injEq, Prod.mk.injEq] at H
        obtain ⟨rfl, rfl⟩ := H
        go_wp2
        go_ret2
        exact ⟨by first | rfl | (simp; done) | (simp [*]; done), by repeat (first | exact Drawn0.refl _ | apply Drawn0.step)⟩
      · replace c6 := Bool.eq_false_iff.mpr c6
        subst c6
        have H1 : (if (a0.size : Int) = 1 then (some (false, true)) else (if a0.toList = ([60, 47] : List UInt8) then (some (false, true)) else (if 1 < (a0.size : Int) then ((class_Letter.f (bt a0 1)).bind fun t128 => (if t128 = true then (some (true, false)) else (if (bt a0 1) = 33 then (some (true, false)) else (if (bt a0 1) = 63 then (some (true, false)) else (some (((bt a0 1) == 47), false)))))) else (none)))) = some (r1, r2) := by rw [if_neg (show ¬ (false = true) by decide)] at H; exact H
        clear H
        have H := H1
        clear H1
        by_cases c7 : (a0.size : Int) = 1
        · rw [if_pos c7] at H
          have c7b0 : ((a0.size : Int) == 1) = true := beq_iff_eq.mpr c7
          have c7b1 : ((a0.size : Int) != 1) = false := bne_eq_false_iff_eq.mpr c7
          clear c7
          simp only [Option.some.injEq, Prod.mk.injEq] at H
          obtain ⟨rfl, rfl⟩ := H
          go_wp2
          go_ret2
          exact ⟨by first | rfl | (simp; done) | (simp [*]; done), by repeat (first | exact Drawn0.refl _ | apply Drawn0.step)⟩
        · rw [if_neg c7] at H
          have c7b0 : ((a0.size : Int) == 1) = false := beq_eq_false_iff_ne.mpr c7
          have c7b1 : ((a0.size : Int) != 1) = true := bne_iff_ne.mpr c7
          by_cases c8 : a0.toList = ([60, 47] : List UInt8)
          · rw [if_pos c8] at H
            have c8b0 : (a0.toList == ([60, 47] : List UInt8)) = true := beq_iff_eq.mpr c8
            have c8b1 : (a0.toList != ([60, 47] : List UInt8)) = false := bne_eq_false_iff_eq.mpr c8
            clear c8
            simp only [Option.some.injEq, Prod.mk.injEq] at H
            obtain ⟨rfl, rfl⟩ := H
            go_wp2
            go_ret2
            exact ⟨by first | rfl | (simp; done) | (simp [*]; done), by repeat (first | exact Drawn0.refl _ | apply Drawn0.step)⟩
          · rw [if_neg c8] at H
            have c8b0 : (a0.toList == ([60, 47] : List UInt8)) = false := beq_eq_false_iff_ne.mpr c8
            have c8b1 : (a0.toList != ([60, 47] : List UInt8)) = true := bne_iff_ne.mpr c8
            by_cases c9 : 1 < (a0.size : Int)
            · rw [if_pos c9] at H
              have c9b0 : decide (1 < (a0.size : Int)) = true := decide_eq_true c9
              have c9b1 : decide (1 < a0.size) = true := decide_eq_true (by omega)
              clear c9
              replace H := Option.bind_eq_some_iff.mp H
              obtain ⟨t128, A110, H⟩ := H
              replace H : (if t128 = true then (some (true, false)) else (if (bt a0 1) = 33 then (some (true, false)) else (if (bt a0 1) = 63 then (some (true, false)) else (some (((bt a0 1) == 47), false))))) = some (r1, r2) := H
              have A11 := Aside0.mk A110
              clear A110
              by_cases c12 : t128 = true
              · subst c12
                have H1 : (some (true, false)) = some (r1, r2) := by rw [if_pos rfl] at H; exact H
                clear H
                have H := H1
                clear H1
                simp only [Option.some.injEq, Prod.mk.injEq] at H
                obtain ⟨rfl, rfl⟩ := H
                have p10 : 0 ≤ (1 : Int) := (by omega)
                have q10 : 1 < a0.size := (by have : (1 : Int) < (a0.size : Int) := of_decide_eq_true (by first | (with_reducible assumption) | assumption); omega)
                have hx10 : ∀ h : 1 < a0.size, ((a0[1]'h).toNat : Int) = bt a0 1 := bt_at a0 1
                clear p10
                have qi10 : (1 < (a0.size : Int)) = True := eq_true (of_decide_eq_true (by first | (with_reducible assumption) | assumption))
                replace q10 := eq_true q10
                go_wp2_with (first | ((with_reducible refine gate_callee (f := 92) rfl ?_); refine goesL_ (some 22) rfl rfl Tryz.func92 (by kernel_rfl) rfl #[.int .u8 (bt a0 1)] rfl (by (try simp only [List.map_toArray, List.map_cons, List.map_nil]); first | done | rfl | (simp only [List.length_drop, List.length_take]; rfl)) ?_; (with_reducible refine (class_Letter.calls (bt a0 1) true _ A11.out).mono ?_); rintro e w' ⟨rfl, ⟨nd, rfl⟩⟩; refine ⟨_, rfl, ?_⟩))
                go_ret2
                exact ⟨by first | rfl | (simp; done) | (simp [*]; done), by repeat (first | exact Drawn0.refl _ | apply Drawn0.step)⟩
              · replace c12 := Bool.eq_false_iff.mpr c12
                subst c12
                have H1 : (if (bt a0 1) = 33 then (some (true, false)) else (if (bt a0 1) = 63 then (some (true, false)) else (some (((bt a0 1) == 47), false)))) = some (r1, r2) := by rw [if_neg (show ¬ (false = true) by decide)] at H; exact H
                clear H
                have H := H1
                clear H1
                by_cases c13 : (bt a0 1) = 33
                · rw [if_pos c13] at H
                  have c13b0 : ((bt a0 1) == 33) = true := beq_iff_eq.mpr c13
                  have c13b1 : ((bt a0 1) != 33) = false := bne_eq_false_iff_eq.mpr c13
                  clear c13
                  simp only [Option.some.injEq, Prod.mk.injEq] at H
                  obtain ⟨rfl, rfl⟩ := H
                  have p10 : 0 ≤ (1 : Int) := (by omega)
                  have q10 : 1 < a0.size := (by have : (1 : Int) < (a0.size : Int) := of_decide_eq_true (by first | (with_reducible assumption) | assumption); omega)
                  have hx10 : ∀ h : 1 < a0.size, ((a0[1]'h).toNat : Int) = bt a0 1 := bt_at a0 1
                  clear p10
                  have qi10 : (1 < (a0.size : Int)) = True := eq_true (of_decide_eq_true (by first | (with_reducible assumption) | assumption))
                  replace q10 := eq_true q10
                  go_wp2_with (first | ((with_reducible refine gate_callee (f := 92) rfl ?_); refine goesL_ (some 22) rfl rfl Tryz.func92 (by kernel_rfl) rfl #[.int .u8 (bt a0 1)] rfl (by (try simp only [List.map_toArray, List.map_cons, List.map_nil]); first | done | rfl | (simp only [List.length_drop, List.length_take]; rfl)) ?_; (with_reducible refine (class_Letter.calls (bt a0 1) false _ A11.out).mono ?_); rintro e w' ⟨rfl, ⟨nd, rfl⟩⟩; refine ⟨_, rfl, ?_⟩))
                  go_ret2
                  exact ⟨by first | rfl | (simp; done) | (simp [*]; done), by repeat (first | exact Drawn0.refl _ | apply Drawn0.step)⟩
                · rw [if_neg c13] at H
                  have c13b0 : ((bt a0 1) == 33) = false := beq_eq_false_iff_ne.mpr c13
                  have c13b1 : ((bt a0 1) != 33) = true := bne_iff_ne.mpr c13
                  by_cases c14 : (bt a0 1) = 63
                  · rw [if_pos c14] at H
                    have c14b0 : ((bt a0 1) == 63) = true := beq_iff_eq.mpr c14
                    have c14b1 : ((bt a0 1) != 63) = false := bne_eq_false_iff_eq.mpr c14
                    clear c14
                    simp only [Option.some.injEq, Prod.mk.injEq] at H
                    obtain ⟨rfl, rfl⟩ := H
                    have p10 : 0 ≤ (1 : Int) := (by omega)
                    have q10 : 1 < a0.size := (by have : (1 : Int) < (a0.size : Int) := of_decide_eq_true (by first | (with_reducible assumption) | assumption); omega)
                    have hx10 : ∀ h : 1 < a0.size, ((a0[1]'h).toNat : Int) = bt a0 1 := bt_at a0 1
                    clear p10
                    have qi10 : (1 < (a0.size : Int)) = True := eq_true (of_decide_eq_true (by first | (with_reducible assumption) | assumption))
                    replace q10 := eq_true q10
                    go_wp2_with (first | ((with_reducible refine gate_callee (f := 92) rfl ?_); refine goesL_ (some 22) rfl rfl Tryz.func92 (by kernel_rfl) rfl #[.int .u8 (bt a0 1)] rfl (by (try simp only [List.map_toArray, List.map_cons, List.map_nil]); first | done | rfl | (simp only [List.length_drop, List.length_take]; rfl)) ?_; (with_reducible refine (class_Letter.calls (bt a0 1) false _ A11.out).mono ?_); rintro e w' ⟨rfl, ⟨nd, rfl⟩⟩; refine ⟨_, rfl, ?_⟩))
                    go_ret2
                    exact ⟨by first | rfl | (simp; done) | (simp [*]; done), by repeat (first | exact Drawn0.refl _ | apply Drawn0.step)⟩
                  · rw [if_neg c14] at H
                    have c14b0 : ((bt a0 1) == 63) = false := beq_eq_false_iff_ne.mpr c14
                    have c14b1 : ((bt a0 1) != 63) = true := bne_iff_ne.mpr c14
                    simp only [Option.some.injEq, Prod.mk.injEq] at H
                    obtain ⟨rfl, rfl⟩ := H
                    have p10 : 0 ≤ (1 : Int) := (by omega)
                    have q10 : 1 < a0.size := (by have : (1 : Int) < (a0.size : Int) := of_decide_eq_true (by first | (with_reducible assumption) | assumption); omega)
                    have hx10 : ∀ h : 1 < a0.size, ((a0[1]'h).toNat : Int) = bt a0 1 := bt_at a0 1
                    clear p10
                    have qi10 : (1 < (a0.size : Int)) = True := eq_true (of_decide_eq_true (by first | (with_reducible assumption) | assumption))
                    replace q10 := eq_true q10
                    go_wp2_with (first | ((with_reducible refine gate_callee (f := 92) rfl ?_); refine goesL_ (some 22) rfl rfl Tryz.func92 (by kernel_rfl) rfl #[.int .u8 (bt a0 1)] rfl (by (try simp only [List.map_toArray, List.map_cons, List.map_nil]); first | done | rfl | (simp only [List.length_drop, List.length_take]; rfl)) ?_; (with_reducible refine (class_Letter.calls (bt a0 1) false _ A11.out).mono ?_); rintro e w' ⟨rfl, ⟨nd, rfl⟩⟩; refine ⟨_, rfl, ?_⟩))
                    go_ret2
                    exact ⟨by first | rfl | (simp; done) | (simp [*]; done), by repeat (first | exact Drawn0.refl _ | apply Drawn0.step)⟩
            · rw [if_neg c9] at H
              exact absurd H (by simp)
end Go.Proofs.YtoacojkmclngmaaGreatDoor.Pz
namespace Go.Proofs.YtoacojkmclngmaaGreatDoor.Pz
open Go.RowKit Go.Proofs.YtoacojkmclngmaaGreatDoorW.PrintWords Go.Proofs.YtoacojkmclngmaaGreatDoorW.PrintLast Go.Proofs.YtoacojkmclngmaaGreatDoorW.PrintMore
attribute [local go_sem] max2_int min2_int max_two min_two max_three min_three max_four min_four   -- for this text's walks alone
attribute [local go_sem] rune_str
set_option linter.unusedVariables false
set_option linter.unusedSimpArgs false
def runGo (s : ByteArray) : Nat → Nat → Option (Int × Bool)
  | 0, _ => some ((s.size : Int), false)
  | k + 1, n => (scan_opens.f 2 (s.extract n s.size)).bind fun o => if o.1 = true ∨ o.2 = true then some ((n : Int), o.1) else runGo s k (n + 1)
def scan_Scanner_run.f (s0_0 : ByteArray) (s0_1 : Bool) (s0_2 : ByteArray) (s0_3 : Int) : Option (Int × Bool × ByteArray × Bool × ByteArray × Int) :=
  if s0_3 = 3 then some ((s0_0.size : Int), false, s0_0, s0_1, s0_2, s0_3)
  else if s0_3 = 1 ∨ s0_3 = 2 then (scan_mode_ends.f s0_2 s0_3 s0_0).bind fun e => some (e.1, e.2, s0_0, s0_1, s0_2, s0_3)
  else if s0_0.size ≤ 140737488355328 then (runGo s0_0 s0_0.size 0).bind fun e => some (e.1, e.2, s0_0, s0_1, s0_2, s0_3) else none
theorem runGo_step (s : ByteArray) (n : Nat) (h : n < s.size) : runGo s (s.size - n) n = (scan_opens.f 2 (s.extract n s.size)).bind fun o => if o.1 = true ∨ o.2 = true then some ((n : Int), o.1) else runGo s (s.size - (n + 1)) (n + 1) := by
  obtain ⟨k, hk⟩ : ∃ k, s.size - n = k + 1 := ⟨s.size - n - 1, by omega⟩
  have hk2 : s.size - (n + 1) = k := by omega
  rw [hk, hk2]; rfl
set_option maxHeartbeats 4000000 in
set_option maxRecDepth 100000 in
theorem scan_Scanner_run.calls (g : Nat) (s0_0 : ByteArray) (s0_1 : Bool) (s0_2 : ByteArray) (s0_3 : Int) (r1 : Int) (r2 : Bool) (r3 : ByteArray) (r4 : Bool) (r5 : ByteArray) (r6 : Int) (w0 w : World) (hI : IsS56 w0 w g s0_0 s0_1 s0_2 s0_3) (hB : Below w0.heap.size w0 w) (hG : Glob w0) (h : scan_Scanner_run.f s0_0 s0_1 s0_2 s0_3 = some (r1, r2, r3, r4, r5, r6)) :
    Calls Tryz.prog 76 #[.pointer (some ⟨g, 0, none⟩)] w fun e w' => e = .returned (.tuple #[.int .i64 r1, .bool r2]) ∧ IsS56 w0 w' g r3 r4 r5 r6 ∧ Below w0.heap.size w0 w' ∧ KeepBut w w' g none := by
  unfold scan_Scanner_run.f at h
  have HI0 := Aside0.mk hI
  have HK0 := Aside0.mk (KeepBut.refl w g none)
  have HB0 := Aside0.mk hB
  have HG0 := Aside0.mk hG
  obtain ⟨HGz, hgz⟩ := hI
  have hc0 := cellS56_0 HGz
  have hc1 := cellS56_1 HGz
  have hc2 := cellS56_2 HGz
  have hc3 := cellS56_3 HGz
  have hf0 := blk_frozen HGz 0
  have hf1 := blk_frozen HGz 1
  have hf2 := blk_frozen HGz 2
  have hf3 := blk_frozen HGz 3
  clear HGz hgz hB hG
  by_cases hm3 : s0_3 = 3
  · subst hm3
    rw [if_pos rfl] at h
    simp only [Option.some.injEq, Prod.mk.injEq] at h
    obtain ⟨rfl, rfl, rfl, rfl, rfl, rfl⟩ := h
    go_enter Tryz.func76, Tryz.ntmps76
    go_wp2
    go_ret2
    exact ⟨rfl, HI0.out, HB0.out, HK0.out⟩
  · rw [if_neg hm3] at h
    by_cases hm12 : s0_3 = 1 ∨ s0_3 = 2
    · rw [if_pos hm12] at h
      replace h := Option.bind_eq_some_iff.1 h
      obtain ⟨⟨e1, e2⟩, he, h⟩ := h
      have HE := Aside0.mk he
      clear he
      simp only [Option.some.injEq, Prod.mk.injEq] at h
      obtain ⟨rfl, rfl, rfl, rfl, rfl, rfl⟩ := h
      rcases hm12 with rfl | rfl
      · clear hm3
        go_enter Tryz.func76, Tryz.ntmps76
        go_wp2
        go_region_held3 (fun w' => w'.cell? ⟨g, 0, none⟩ = some (.string s0_0) ∧ w'.cell? ⟨g, 2, none⟩ = some (.string s0_2) ∧ w'.cell? ⟨g, 3, none⟩ = some (.int .i64 1) ∧ Aside0 (IsS56 w0 w' g s0_0 s0_1 s0_2 1) ∧ Aside0 (Below w0.heap.size w0 w') ∧ Aside0 (KeepBut w w' g none)) (first | exact ⟨hc0, hc2, hc3, ⟨HI0.out.drew⟩, ⟨below_drew1 HB0.out⟩, ⟨keep_drew HK0.out⟩⟩ | exact ⟨pw_cell_below hbn hc0, pw_cell_below hbn hc2, pw_cell_below hbn hc3, ⟨IsS56.below HI0.out.drew hbn⟩, ⟨below_weaken (below_drew1 HB0.out) (below_drew1 HB0.out).size hbn⟩, ⟨KeepBut.trans (keep_drew HK0.out) (KeepBut.of_below hbn g none) (.inl rfl)⟩⟩) (first | (go_at_call 104; refine (scan_mode_ends.calls s0_2 1 s0_0 e1 e2 _ HE.out).mono ?_; rintro e w2 ⟨rfl, hbn⟩))
        go_split_ands
        go_wp2
        go_ret2
        exact ⟨rfl, Aside0.out (by assumption), Aside0.out (by assumption), Aside0.out (by assumption)⟩
      · clear hm3
        go_enter Tryz.func76, Tryz.ntmps76
        go_wp2
        go_region_held3 (fun w' => w'.cell? ⟨g, 0, none⟩ = some (.string s0_0) ∧ w'.cell? ⟨g, 2, none⟩ = some (.string s0_2) ∧ w'.cell? ⟨g, 3, none⟩ = some (.int .i64 2) ∧ Aside0 (IsS56 w0 w' g s0_0 s0_1 s0_2 2) ∧ Aside0 (Below w0.heap.size w0 w') ∧ Aside0 (KeepBut w w' g none)) (first | exact ⟨hc0, hc2, hc3, ⟨HI0.out.drew⟩, ⟨below_drew1 HB0.out⟩, ⟨keep_drew HK0.out⟩⟩ | exact ⟨pw_cell_below hbn hc0, pw_cell_below hbn hc2, pw_cell_below hbn hc3, ⟨IsS56.below HI0.out.drew hbn⟩, ⟨below_weaken (below_drew1 HB0.out) (below_drew1 HB0.out).size hbn⟩, ⟨KeepBut.trans (keep_drew HK0.out) (KeepBut.of_below hbn g none) (.inl rfl)⟩⟩) (first | (go_at_call 104; refine (scan_mode_ends.calls s0_2 2 s0_0 e1 e2 _ HE.out).mono ?_; rintro e w2 ⟨rfl, hbn⟩))
        go_split_ands
        go_wp2
        go_ret2
        exact ⟨rfl, Aside0.out (by assumption), Aside0.out (by assumption), Aside0.out (by assumption)⟩
    · rw [if_neg hm12] at h
      split at h
      case isFalse => cases h
      rename_i hs
      replace h := Option.bind_eq_some_iff.1 h
      obtain ⟨⟨e1, e2⟩, he, h⟩ := h
      have HE := Aside0.mk he
      clear he
      simp only [Option.some.injEq, Prod.mk.injEq] at h
      obtain ⟨rfl, rfl, rfl, rfl, rfl, rfl⟩ := h
      have hm3' : (s0_3 == 3) = false := by simpa using hm3
      have hm1' : (s0_3 == 1) = false := by simp only [not_or] at hm12; simpa using hm12.1
      have hm2' : (s0_3 == 2) = false := by simp only [not_or] at hm12; simpa using hm12.2
      clear hm12 hm3 hc0 hc1 hc2 hc3 hf0 hf1 hf2 hf3
      have HCELLS : ∀ W : World, IsS56 w0 W g s0_0 s0_1 s0_2 s0_3 → True := fun _ _ => trivial
      clear HCELLS
      obtain ⟨HGz, hgz⟩ := HI0.out
      have hc0 := cellS56_0 HGz
      have hc3 := cellS56_3 HGz
      have hf0 := blk_frozen HGz 0
      have hf3 := blk_frozen HGz 3
      clear HGz hgz
      go_enter Tryz.func76, Tryz.ntmps76
      go_wp2
      clear hc0 hc3 hf0 hf3
      go_loopw [41] (fun i wr => ∃ k : Nat, k ≤ s0_0.size ∧ i = .int .i64 k ∧ Aside0 (runGo s0_0 (s0_0.size - k) k = some (e1, e2)) ∧ Aside0 (IsS56 w0 wr g s0_0 s0_1 s0_2 s0_3) ∧ Aside0 (Below w0.heap.size w0 wr) ∧ Aside0 (KeepBut w wr g none)) (fun i _ => s0_0.size - (intOf i).toNat)
      case atStart => exact ⟨0, Nat.zero_le _, rfl, HE, HI0, HB0, HK0⟩
      case round =>
        obtain ⟨k, hk, rfl, hr, HI1, HB1, HK1⟩ := hrel
        obtain ⟨HGz, hgz⟩ := HI1.out
        have hc0 := cellS56_0 HGz
        have hf0 := blk_frozen HGz 0
        clear HGz hgz
        by_cases hlt : k < s0_0.size
        · have hstep := runGo_step s0_0 k hlt
          rw [hr.out] at hstep
          replace hstep := Option.bind_eq_some_iff.1 hstep.symm
          obtain ⟨⟨o1, o2⟩, ho, hstep⟩ := hstep
          have HO := Aside0.mk ho
          clear ho
          by_cases hoo : o1 = true ∨ o2 = true
          · rw [if_pos hoo] at hstep
            simp only [Option.some.injEq, Prod.mk.injEq] at hstep
            obtain ⟨rfl, rfl⟩ := hstep
            have hoo' : (if o1 = true then true else o2) = true := by
              rcases hoo with rfl | rfl
              · rfl
              · cases o1 <;> rfl
            cases o1
            · have ho2 : o2 = true := by simpa using hoo
              subst ho2
              clear hoo hoo'
              go_wp2_with (first | (go_at_call 105; (with_reducible refine (scan_opens.calls 2 (s0_0.extract k s0_0.size) false true _ HO.out).mono ?_); rintro e w1 ⟨rfl, ⟨nd, rfl⟩⟩))
              go_ret2
              exact ⟨rfl, by repeat (first | exact HI1.out | apply IsS56.drewN), by repeat (first | exact HB1.out | apply pw_below_drewN), by repeat (first | exact HK1.out | apply keep_drewN)⟩
            · clear hoo hoo'
              go_wp2_with (first | (go_at_call 105; (with_reducible refine (scan_opens.calls 2 (s0_0.extract k s0_0.size) true o2 _ HO.out).mono ?_); rintro e w1 ⟨rfl, ⟨nd, rfl⟩⟩))
              go_ret2
              exact ⟨rfl, by repeat (first | exact HI1.out | apply IsS56.drewN), by repeat (first | exact HB1.out | apply pw_below_drewN), by repeat (first | exact HK1.out | apply keep_drewN)⟩
          · rw [if_neg hoo] at hstep
            simp only [not_or, Bool.not_eq_true] at hoo
            obtain ⟨rfl, rfl⟩ := hoo
            have HST := Aside0.mk hstep
            clear hstep
            go_wp2_with (first | (go_at_call 105; (with_reducible refine (scan_opens.calls 2 (s0_0.extract k s0_0.size) false false _ HO.out).mono ?_); rintro e w1 ⟨rfl, ⟨nd, rfl⟩⟩))
            go_roundw
            case rel => exact ⟨k + 1, by omega, by go_num, HST, ⟨by repeat (first | exact HI1.out | apply IsS56.drewN)⟩, ⟨by repeat (first | exact HB1.out | apply pw_below_drewN)⟩, ⟨by repeat (first | exact HK1.out | apply keep_drewN)⟩⟩
            case measure => simp [intOf]; omega
        · have hkk : k = s0_0.size := by omega
          subst hkk
          rw [Nat.sub_self] at hr
          have hr2 := hr.out
          unfold runGo at hr2
          simp only [Option.some.injEq, Prod.mk.injEq] at hr2
          obtain ⟨rfl, rfl⟩ := hr2
          go_wp2
          go_ret2
          exact ⟨rfl, HI1.out, HB1.out, HK1.out⟩
end Go.Proofs.YtoacojkmclngmaaGreatDoor.Pz
namespace Go.Proofs.YtoacojkmclngmaaGreatDoor.Pz
open Go.RowKit Go.Proofs.YtoacojkmclngmaaGreatDoorW.PrintWords Go.Proofs.YtoacojkmclngmaaGreatDoorW.PrintLast Go.Proofs.YtoacojkmclngmaaGreatDoorW.PrintMore
attribute [local go_sem] max2_int min2_int max_two min_two max_three min_three max_four min_four   -- for this text's walks alone
attribute [local go_sem] rune_str
set_option linter.unusedVariables false
set_option linter.unusedSimpArgs false
def strings_LastIndexByte.f (a0 : ByteArray) (a1 : Int) : Option Int := if a0.size < 4611686018427387904 then some (Lib.lastIndexByte a0 a1) else none
theorem strings_LastIndexByte.calls (a0 : ByteArray) (a1 : Int) (r : Int) (w : World) (h : strings_LastIndexByte.f a0 a1 = some r) :
    Calls Tryz.prog 106 #[.string a0, .int .u8 a1] w fun e w' => e = .returned (.int .i64 r) ∧ Drawn0 w w' := by
  unfold strings_LastIndexByte.f at h
  split at h
  case isFalse => cases h
  rename_i hs
  obtain rfl := Option.some.inj h
  exact (Tryz.strings_LastIndexByte a0 a1 hs w).mono fun e w' ⟨he, hw⟩ => ⟨he, hw ▸ Drawn0.refl w⟩
end Go.Proofs.YtoacojkmclngmaaGreatDoor.Pz
namespace Go.Proofs.YtoacojkmclngmaaGreatDoor.Pz
open Go.RowKit Go.Proofs.YtoacojkmclngmaaGreatDoorW.PrintWords Go.Proofs.YtoacojkmclngmaaGreatDoorW.PrintLast Go.Proofs.YtoacojkmclngmaaGreatDoorW.PrintMore
attribute [local go_sem] max2_int min2_int max_two min_two max_three min_three max_four min_four   -- for this text's walks alone
attribute [local go_sem] rune_str
set_option linter.unusedVariables false
set_option linter.unusedSimpArgs false
def goesB (c : Int) : Bool := isLetter c || isDigit c || (c == 35)
set_option maxHeartbeats 1000000 in
theorem goes_same (c : Int) (h0 : 0 ≤ c) (h1 : c ≤ 255) (w : World) : Calls Tryz.prog 107 #[.int .u8 c] w fun e w' => e = .returned (.bool (goesB c)) ∧ w = w' := by
  unfold goesB
  cases hl : isLetter c <;> cases hd : isDigit c <;>
  · go_enter Tryz.func107, Tryz.ntmps107
    go_wp2_with (first | (go_at_call 92; (with_reducible refine (Letter_same c h0 h1 _).mono ?_); rintro e w2 ⟨rfl, rfl⟩; try rw [hl]) | (go_at_call 41; (with_reducible refine (Digit_same c _).mono ?_); rintro e w3 ⟨rfl, rfl⟩; try rw [hd]))
    go_ret
    exact ⟨by simp, rfl⟩
set_option maxHeartbeats 1000000 in
theorem notGoes_same (c : Int) (b : Nat) (h0 : 0 ≤ c) (h1 : c ≤ 255) (w : World) (hc : w.cell? ⟨b, 0, none⟩ = some (.func (.func 107) #[] #[])) : Calls Tryz.prog 108 #[.int .u8 c, .pointer (some ⟨b, 0, none⟩)] w fun e w' => e = .returned (.bool (!goesB c)) ∧ w = w' := by
  go_enter Tryz.func108, Tryz.ntmps108
  go_wp2_with (first | (go_at_call 107; (with_reducible refine (goes_same c h0 h1 _).mono ?_); rintro e w2 ⟨rfl, rfl⟩))
  go_ret
  exact ⟨rfl, rfl⟩
set_option maxHeartbeats 2000000 in
theorem idx_goes (s : ByteArray) (bb b cap : Nat) (w : World) (hs : s.size ≤ 140737488355328) (hf : w.cell? ⟨b, 0, none⟩ = some (.func (.func 107) #[] #[])) (hc : ∀ j, (h : j < s.size) → w.cell? ⟨bb, j, none⟩ = some (.int .u8 ((s[j]'h).toNat : Int))) :
    Calls Tryz.prog 60 #[.slice (some ⟨bb, 0, none⟩) s.size cap, .func (.func 108) #[] #[.pointer (some ⟨b, 0, none⟩)]] w fun e w' => ∃ r : Int, e = .returned (.int .i64 r) ∧ (0 ≤ r ↔ ∃ j, ∃ h : j < s.size, goesB ((s[j]'h).toNat : Int) = false) ∧ w = w' := by
  have HC := Aside0.mk hc
  clear hc
  go_enter Tryz.func60, Tryz.ntmps60
  go_wp2
  go_loopw [8] (fun i wr => ∃ k : Nat, k ≤ s.size ∧ i = .int .i64 k ∧ w = wr ∧ Aside0 (∀ j, j < k → (h : j < s.size) → goesB ((s[j]'h).toNat : Int) = true)) (fun i _ => s.size - (intOf i).toNat)
  case atStart => exact ⟨0, Nat.zero_le _, rfl, rfl, ⟨fun j hj => absurd hj (Nat.not_lt_zero _)⟩⟩
  case round =>
    obtain ⟨k, hk, rfl, rfl, HA⟩ := hrel
    by_cases hlt : k < s.size
    · have hlti : (k : Int) < (s.size : Int) := by omega
      have hcell := HC.out k hlt
      obtain ⟨c, hcc⟩ : ∃ c : Int, c = ((s[k]'hlt).toNat : Int) := ⟨_, rfl⟩
      have h0 : 0 ≤ c := by omega
      have h1 : c ≤ 255 := by have := (s[k]'hlt).toNat_lt; omega
      rw [← hcc] at hcell
      have HCC := Aside0.mk hcc
      clear hcc
      cases hg : goesB c with
      | true =>
        go_wp2_with (first | (go_at_call 108; (with_reducible refine (notGoes_same c b h0 h1 _ hf).mono ?_); rintro e w2 ⟨rfl, rfl⟩; rw [hg]))
        go_roundw
        case rel =>
          have hA2 : ∀ j, j < k + 1 → (h : j < s.size) → goesB ((s[j]'h).toNat : Int) = true := by
            intro j hj h
            rcases Nat.lt_or_ge j k with q | q
            · exact HA.out j q h
            · obtain rfl : j = k := by omega
              rw [← HCC.out]; exact hg
          exact ⟨k + 1, by omega, by go_num, (by first | rfl | trivial), ⟨hA2⟩⟩
        case measure => simp [intOf]; omega
      | false =>
        go_wp2_with (first | (go_at_call 108; (with_reducible refine (notGoes_same c b h0 h1 _ hf).mono ?_); rintro e w2 ⟨rfl, rfl⟩; rw [hg]))
        go_ret
        exact ⟨_, rfl, ⟨fun _ => ⟨k, hlt, by rw [← HCC.out]; exact hg⟩, fun _ => by omega⟩, rfl⟩
    · have : k = s.size := by omega
      subst this
      go_wp2
      go_ret
      exact ⟨-1, rfl, ⟨fun h => absurd h (by decide), fun ⟨j, h, hj⟩ => by rw [HA.out j h h] at hj; cases hj⟩, rfl⟩
set_option maxHeartbeats 2000000 in
theorem contains_goes (s : ByteArray) (bb b cap : Nat) (w : World) (hs : s.size ≤ 140737488355328) (hf : w.cell? ⟨b, 0, none⟩ = some (.func (.func 107) #[] #[])) (hc : ∀ j, (h : j < s.size) → w.cell? ⟨bb, j, none⟩ = some (.int .u8 ((s[j]'h).toNat : Int))) :
    Calls Tryz.prog 42 #[.slice (some ⟨bb, 0, none⟩) s.size cap, .func (.func 108) #[] #[.pointer (some ⟨b, 0, none⟩)]] w fun e w' => ∃ r : Bool, e = .returned (.bool r) ∧ (r = true ↔ ∃ j, ∃ h : j < s.size, goesB ((s[j]'h).toNat : Int) = false) ∧ w = w' := by
  have HC := Aside0.mk hc
  clear hc
  go_enter Tryz.func42, Tryz.ntmps42
  go_wp2_with (first | (go_at_call 60; (with_reducible refine (idx_goes s bb b cap _ hs hf HC.out).mono ?_); rintro e w2 ⟨r, rfl, hr, rfl⟩; have HR := Aside0.mk hr; clear hr))
  go_ret
  exact ⟨_, rfl, by simpa using HR.out, rfl⟩
def openV (a0 : ByteArray) : Int := if Lib.lastIndexByte a0 38 < 0 then 0 else if (a0.extract ((Lib.lastIndexByte a0 38).toNat + 1) a0.size).data.toList.all (fun b => goesB (b.toNat : Int)) = true then (a0.size : Int) - Lib.lastIndexByte a0 38 else 0
def scan_open.f (a0 : ByteArray) : Option Int := if a0.size ≤ 140737488355328 then some (openV a0) else none
theorem any_goes (s : ByteArray) : (∃ j, ∃ h : j < s.size, goesB ((s[j]'h).toNat : Int) = false) ↔ s.data.toList.all (fun b => goesB (b.toNat : Int)) = false := by
  rw [List.all_eq_false]
  constructor
  · rintro ⟨j, h, hj⟩
    exact ⟨s[j]'h, by rw [← Array.mem_def]; exact Array.getElem_mem (xs := s.data) h, by simp [hj]⟩
  · rintro ⟨x, hx, hg⟩
    obtain ⟨i, hi, rfl⟩ := List.getElem_of_mem hx
    have hi2 : i < s.size := by rw [Array.length_toList] at hi; exact hi
    exact ⟨i, hi2, by have hq : ¬ goesB ((s.data.toList[i]'hi).toNat : Int) = true := hg
                      rw [Array.getElem_toList] at hq
                      exact Bool.eq_false_iff.2 hq⟩
set_option maxHeartbeats 4000000 in
set_option maxRecDepth 100000 in
theorem scan_open.calls (a0 : ByteArray) (r : Int) (w : World) (hG : Glob w) (h : scan_open.f a0 = some r) :
    Calls Tryz.prog 77 #[.string a0] w fun e w' => e = .returned (.int .i64 r) ∧ Below w.heap.size w w' := by
  have hmf : ∀ (fn : Fn) (first cap : Array Value) (w : World), (Instr.makeFunc fn first cap).run Tryz.prog w = .ok (.func fn first cap) w := fun _ _ _ _ => rfl
  unfold scan_open.f at h
  split at h
  case isFalse => cases h
  rename_i hs
  obtain rfl := Option.some.inj h
  have HN : Aside0 (strings_LastIndexByte.f a0 38 = some (Lib.lastIndexByte a0 38)) := ⟨by unfold strings_LastIndexByte.f; rw [if_pos (by omega)]⟩
  clear h
  unfold openV
  have hsp : Lib.lastIndexByte a0 38 = -1 ∨ ∃ m : Nat, m < a0.size ∧ Lib.lastIndexByte a0 38 = m := by
    rcases Lib.lastIdx_spec a0 38 a0.size with h1 | ⟨i, hi, h2, _, _⟩
    · exact .inl h1.1
    · exact .inr ⟨i, hi, h2⟩
  generalize Lib.lastIndexByte a0 38 = at_ at HN hsp ⊢
  have HB := Aside0.mk (Below.refl w.heap.size w)
  rcases hsp with rfl | ⟨m, hm, rfl⟩
  · rw [if_pos (by decide)]
    go_enter Tryz.func77, Tryz.ntmps77
    go_wp2_with (first | (go_at_call 106; (with_reducible refine (strings_LastIndexByte.calls a0 38 (-1) _ HN.out).mono ?_); rintro e w1 ⟨rfl, hd⟩; have HB1 := Aside0.mk (hd.below); clear hd))
    go_ret
    exact ⟨rfl, by repeat (first | (with_reducible first | refine below_set ?_ (HB1.out.size) | exact HB1.out | apply below_alloc | apply pw_below_drewN | apply below_drew1) | exact HB1.out)⟩
  · rw [if_neg (by omega), Int.toNat_natCast]
    generalize hall : ((a0.extract (m + 1) a0.size).data.toList.all fun b => goesB (b.toNat : Int)) = al
    have HAL := Aside0.mk hall
    clear hall
    have hw : wrap64 ((m : Int) + 1) = ((m + 1 : Nat) : Int) := by unfold wrap64; omega
    have hb1 : ((m + 1 : Nat) : Int) ≤ (a0.size : Int) := by omega
    obtain ⟨s1, hs1⟩ : ∃ s1, s1 = a0.extract (m + 1) a0.size := ⟨_, rfl⟩
    have hconv := fun W => Lib.run_convert_string_bytes (P := Tryz.prog) W 9 58 5 (a0.extract (m + 1) a0.size) Tryz.underlying9 Tryz.underlying58 Tryz.underlying5
    go_enter Tryz.func77, Tryz.ntmps77
    go_upto_region 3 with (first | (go_at_call 106; (with_reducible refine (strings_LastIndexByte.calls a0 38 (m : Int) _ HN.out).mono ?_); rintro e w1 ⟨rfl, hd⟩; have HB1 := Aside0.mk (hd.below); clear hd))
    obtain ⟨W2, hW2⟩ : ∃ W2, W2 = w1.alloc (Obj.cells #[Value.func (Fn.func 107) #[] #[]] 60) := ⟨_, rfl⟩
    rw [← hW2]
    have HB2 : Aside0 (Below w.heap.size w W2) := ⟨by rw [hW2]; exact below_alloc HB1.out _⟩
    have hcell : W2.cell? ⟨w1.heap.size, 0, none⟩ = some (.func (.func 107) #[] #[]) := by rw [hW2]; exact (blk_cell (heap_alloc_new w1 _) 0).trans rfl
    have hlt : w1.heap.size < W2.heap.size := by rw [hW2]; show _ < (w1.heap.push _).size; rw [Array.size_push]; omega
    clear hW2
    have hcf0 := contains_goes s1 W2.heap.size w1.heap.size (grownCap W2 s1.size 0 5) (Lib.bytesWorld W2 5 s1) (by rw [hs1, ByteArray.size_extract]; omega) ((Lib.bytesWorld_old W2 5 s1 _ hlt).trans hcell) (fun j hj => by
      rw [Lib.bytesWorld_cell W2 5 s1 j hj]
      have hj2 : j < s1.data.toList.length := by rw [Array.length_toList]; exact hj
      rw [List.getD_eq_getElem?_getD, List.getElem?_eq_getElem hj2, Option.getD_some, Array.getElem_toList]
      rfl)
    have hszx : s1.size = a0.size - (m + 1) := by rw [hs1, ByteArray.size_extract]; omega
    have hcf := hcf0.mono (R' := fun e w' => ∃ r : Bool, e = .returned (.bool r) ∧ (r = true ↔ s1.data.toList.all (fun b => goesB (b.toNat : Int)) = false) ∧ Lib.bytesWorld W2 5 s1 = w') (fun e w' ⟨r, he, hr, hw⟩ => ⟨r, he, hr.trans (any_goes s1), hw⟩)
    rw [hszx, hs1, HAL.out] at hcf
    clear hcf0 hszx
    have HCF := Aside0.mk hcf
    have HBW := Aside0.mk (Lib.bytesWorld_below W2 5 s1)
    have HCV := hconv W2
    clear hcf hconv hcell
    subst hs1
    cases al with
    | true =>
      go_wp2_with (first | (go_at_call 42; (with_reducible refine HCF.out.mono ?_); rintro e w4 ⟨r, rfl, hr, rfl⟩; obtain rfl : r = false := (by cases r with | false => rfl | true => exact absurd (hr.1 rfl) (by decide)); clear hr))
      go_ret
      exact ⟨rfl, below_weaken HB2.out HB2.out.size HBW.out⟩
    | false =>
      go_wp2_with (first | (go_at_call 42; (with_reducible refine HCF.out.mono ?_); rintro e w4 ⟨r, rfl, hr, rfl⟩; obtain rfl : r = true := hr.2 rfl; clear hr))
      go_ret
      exact ⟨rfl, below_weaken HB2.out HB2.out.size HBW.out⟩
end Go.Proofs.YtoacojkmclngmaaGreatDoor.Pz
namespace Go.Proofs.YtoacojkmclngmaaGreatDoor.Pz
open Go.RowKit Go.Proofs.YtoacojkmclngmaaGreatDoorW.PrintWords Go.Proofs.YtoacojkmclngmaaGreatDoorW.PrintLast Go.Proofs.YtoacojkmclngmaaGreatDoorW.PrintMore
attribute [local go_sem] max2_int min2_int max_two min_two max_three min_three max_four min_four   -- for this text's walks alone
attribute [local go_sem] rune_str
set_option linter.unusedVariables false
set_option linter.unusedSimpArgs false
def scan_reader_remark.f (s0_0 : ByteArray) (s0_1 : Bool) : Option (Int × ByteArray × ByteArray × (List (S36)) × Bool × ByteArray × Bool) := (scan_reader_until.f s0_0 s0_1 (⟨#[62]⟩ : ByteArray)).bind fun bt145 => ((scan_heal.f bt145.1).bind fun t148 => ((scan_reader_skip.f bt145.2.1 bt145.2.2 1).bind fun bt150 => (some (4, (⟨#[]⟩ : ByteArray), t148, ([] : List (S36)), false, bt150.2.1, bt150.2.2))))
set_option maxHeartbeats 8000000 in
set_option maxRecDepth 100000 in
theorem scan_reader_remark.calls (g : Nat) (s0_0 : ByteArray) (s0_1 : Bool) (r1 : Int) (r2 : ByteArray) (r3 : ByteArray) (r4 : List (S36)) (r5 : Bool) (r6 : ByteArray) (r7 : Bool) (w0 w : World) (hI : IsS52 w0 w g s0_0 s0_1) (hB : Below w0.heap.size w0 w) (hG : Glob w0) (h : scan_reader_remark.f s0_0 s0_1 = some (r1, r2, r3, r4, r5, r6, r7)) :
    Calls Tryz.prog 111 #[.pointer (some ⟨g, 0, none⟩)] w fun e w' => ∃ v3_ : Value, e = .returned (.agg #[.int .i64 r1, .string r2, .string r3, v3_, .bool r5]) ∧ Kd.R k36 36 w' w.heap.size (fun _ => True) v3_ r4 ∧ IsS52 w0 w' g r6 r7 ∧ Below w0.heap.size w0 w' ∧ KeepBut w w' g none := by
  have hu33 := Tryz.underlying33
  have HI0 := Aside0.mk hI
  have HK := Aside0.mk (KeepBut.refl w g none)
  have HL := Aside0.mk hB.size
  clear hI
  have HW0 := Aside0.mk hB.size
  have HB := Aside0.mk hB
  clear hB
  have H : ((scan_reader_until.f s0_0 s0_1 (⟨#[62]⟩ : ByteArray)).bind fun bt145 => ((scan_heal.f bt145.1).bind fun t148 => ((scan_reader_skip.f bt145.2.1 bt145.2.2 1).bind fun bt150 => (some (4, (⟨#[]⟩ : ByteArray), t148, ([] : List (S36)), false, bt150.2.1, bt150.2.2))))) = some (r1, r2, r3, r4, r5, r6, r7) := h
  clear h
  replace H := Option.bind_eq_some_iff.mp H
  obtain ⟨⟨t145, t146, t147⟩, A20, H⟩ := H
  replace H : ((scan_heal.f t145).bind fun t148 => ((scan_reader_skip.f t146 t147 1).bind fun bt150 => (some (4, (⟨#[]⟩ : ByteArray), t148, ([] : List (S36)), false, bt150.2.1, bt150.2.2)))) = some (r1, r2, r3, r4, r5, r6, r7) := H
  have A2 := Aside0.mk A20
  clear A20
  replace H := Option.bind_eq_some_iff.mp H
  obtain ⟨t148, A30, H⟩ := H
  replace H : ((scan_reader_skip.f t146 t147 1).bind fun bt150 => (some (4, (⟨#[]⟩ : ByteArray), t148, ([] : List (S36)), false, bt150.2.1, bt150.2.2))) = some (r1, r2, r3, r4, r5, r6, r7) := H
  have A3 := Aside0.mk A30
  clear A30
  replace H := Option.bind_eq_some_iff.mp H
  obtain ⟨⟨t150, t151, t152⟩, A40, H⟩ := H
  replace H : (some (4, (⟨#[]⟩ : ByteArray), t148, ([] : List (S36)), false, t151, t152)) = some (r1, r2, r3, r4, r5, r6, r7) := H
  have A4 := Aside0.mk A40
  clear A40
  simp only [Option.some.injEq, Prod.mk.injEq] at H
  obtain ⟨rfl, rfl, rfl, rfl, rfl, rfl, rfl⟩ := H
  go_enter Tryz.func111, Tryz.ntmps111
  go_wp2_with (first | ((with_reducible refine gate_dst (N := 2) rfl ?_); refine box_event ?hg (N := 2) ?hd (cs := #[.int .i64 0, .string (⟨#[]⟩ : ByteArray), .string (⟨#[]⟩ : ByteArray), .slice none 0 0, .bool false]) (t := 33) ?hr ?_; (case hd => rfl); (case hg => rfl); (case hr => first | (go_simp; done) | (go_simp; rfl)); intro gb144 hg w5 hbox hb; have n0_ := Aside0.mk (IsS52.below (by repeat (first | (with_reducible first | exact HI0.out | apply IsS52.alloc | apply IsS52.drewN | apply IsS52.drew | apply IsS52.set_0 | apply IsS52.set_1) | exact HI0.out)) hb); have n1_ := Aside0.mk (KeepBut.trans (by repeat (first | (with_reducible first | exact HK.out | apply KeepBut.set_ | apply keep_drewN | apply keep_drew | apply keep_alloc) | exact HK.out)) (KeepBut.of_below hb g none) (.inl rfl)); have n2_ := Aside0.mk (below_step (by repeat (first | (with_reducible first | exact HB.out | apply below_alloc | apply pw_below_drewN | apply below_drew1 | refine below_set ?_ (IsS52.ge HI0.out)) | exact HB.out)) hb); have n3_ := Aside0.mk (hbox); have n4_ := Aside0.mk ((by rw [hg]; exact (keep_size (w := w) (g := g) (row := none) (by repeat (first | (with_reducible first | exact HK.out | apply KeepBut.set_ | apply keep_drewN | apply keep_drew | apply keep_alloc) | exact HK.out))) : w.heap.size ≤ gb144)); have n5_ := Aside0.mk ((Nat.le_trans HW0.out (by rw [hg]; exact (keep_size (w := w) (g := g) (row := none) (by repeat (first | (with_reducible first | exact HK.out | apply KeepBut.set_ | apply keep_drewN | apply keep_drew | apply keep_alloc) | exact HK.out))) : w.heap.size ≤ gb144) : w0.heap.size ≤ gb144)); have n6_ := Aside0.mk ((by rw [hg]; exact Nat.ne_of_lt (IsS52.lt (show IsS52 w0 _ g s0_0 s0_1 from by repeat (first | (with_reducible first | exact HI0.out | apply IsS52.alloc | apply IsS52.drewN | apply IsS52.drew | apply IsS52.set_0 | apply IsS52.set_1) | exact HI0.out))) : g ≠ gb144)); have n7_ := Aside0.mk ((by rw [hg]; exact Nat.ne_of_gt (IsS52.lt (show IsS52 w0 _ g s0_0 s0_1 from by repeat (first | (with_reducible first | exact HI0.out | apply IsS52.alloc | apply IsS52.drewN | apply IsS52.drew | apply IsS52.set_0 | apply IsS52.set_1) | exact HI0.out))) : gb144 ≠ g)); clear HI0; clear HK; clear HB; have HI0 := n0_; have HK := n1_; have HB := n2_; have BK144 := n3_; have GW144 := n4_; have GE144 := n5_; have NB0_144 := n6_; have NB144_0 := n7_; clear n0_ n1_ n2_ n3_ n4_ n5_ n6_ n7_; clear hb hbox hg) | ((with_reducible refine gate_callee (f := 136) rfl ?_); refine goesL_ (some 5) rfl rfl Tryz.func136 (by kernel_rfl) rfl #[.pointer (some ⟨g, 0, none⟩), .string (⟨#[62]⟩ : ByteArray)] rfl (by (try simp only [List.map_toArray, List.map_cons, List.map_nil]); first | done | rfl | (simp only [List.length_drop, List.length_take]; rfl)) ?_; (with_reducible refine (scan_reader_until.calls g s0_0 s0_1 (⟨#[62]⟩ : ByteArray) t145 t146 t147 w0 _ ?side1 ?side2 A2.out).mono ?_); (case side1 => repeat (first | (with_reducible first | exact HI0.out | apply IsS52.alloc | apply IsS52.drewN | apply IsS52.drew | apply IsS52.set_0 | apply IsS52.set_1 | refine IsS52.far ?_ NB0_144.out _) | exact HI0.out)); (case side2 => repeat (first | (with_reducible first | exact HB.out | apply below_alloc | apply pw_below_drewN | apply below_drew1 | refine below_set ?_ (IsS52.ge HI0.out) | refine below_set ?_ GE144.out) | exact HB.out)); rintro e w6 ⟨rfl, hi, hb, hk⟩; refine ⟨_, rfl, ?_⟩; have n0_ := Aside0.mk (KeepBut.blk hk (g' := gb144) (o := .cells #[.int .i64 0, .string (⟨#[]⟩ : ByteArray), .string (⟨#[]⟩ : ByteArray), .slice none 0 0, .bool false] 33 (0, 0)) (by (with_reducible repeat (first | refine blk_drewN ?_ _ | refine blk_drew ?_ | refine blk_alloc ?_ _)); exact BK144.out) NB144_0.out (by simp)); have n1_ := Aside0.mk (KeepBut.trans (by repeat (first | (with_reducible first | exact HK.out | apply KeepBut.set_ | apply keep_drewN | apply keep_drew | apply keep_alloc | refine keep_far ?_ GW144.out _) | exact HK.out)) hk (.inl rfl)); have n2_ := Aside0.mk (hb); have n3_ := Aside0.mk (hi); clear BK144; clear HK; clear HB; clear HI0; have BK144 := n0_; have HK := n1_; have HB := n2_; have HI0 := n3_; clear n0_ n1_ n2_ n3_; (try clear hb); (try clear hb2); (try clear hk); (try clear hi)) | ((with_reducible refine gate_callee (f := 109) rfl ?_); refine goesL_ (some 6) rfl rfl Tryz.func109 (by kernel_rfl) rfl #[.string t145] rfl (by (try simp only [List.map_toArray, List.map_cons, List.map_nil]); first | done | rfl | (simp only [List.length_drop, List.length_take]; rfl)) ?_; (with_reducible refine (scan_heal.calls t145 t148 _ ?side1 A3.out).mono ?_); (case side1 => exact Glob.below hG (by repeat (first | (with_reducible first | exact HB.out | apply below_alloc | apply pw_below_drewN | apply below_drew1 | refine below_set ?_ (IsS52.ge HI0.out) | refine below_set ?_ GE144.out) | exact HB.out))); rintro e w7 ⟨rfl, hb⟩; refine ⟨_, rfl, ?_⟩; have n0_ := Aside0.mk (IsS52.below (by repeat (first | (with_reducible first | exact HI0.out | apply IsS52.alloc | apply IsS52.drewN | apply IsS52.drew | apply IsS52.set_0 | apply IsS52.set_1 | refine IsS52.far ?_ NB0_144.out _) | exact HI0.out)) hb); have n1_ := Aside0.mk (blk_below (g := gb144) (o := .cells #[.int .i64 0, .string (⟨#[]⟩ : ByteArray), .string (⟨#[]⟩ : ByteArray), .slice none 0 0, .bool false] 33 (0, 0)) (by (with_reducible repeat (first | refine blk_drewN ?_ _ | refine blk_drew ?_ | refine blk_alloc ?_ _)); exact BK144.out) hb); have n2_ := Aside0.mk (KeepBut.trans (by repeat (first | (with_reducible first | exact HK.out | apply KeepBut.set_ | apply keep_drewN | apply keep_drew | apply keep_alloc | refine keep_far ?_ GW144.out _) | exact HK.out)) (KeepBut.of_below hb g none) (.inl rfl)); have n3_ := Aside0.mk (below_step (by repeat (first | (with_reducible first | exact HB.out | apply below_alloc | apply pw_below_drewN | apply below_drew1 | refine below_set ?_ (IsS52.ge HI0.out) | refine below_set ?_ GE144.out) | exact HB.out)) hb); clear HI0; clear BK144; clear HK; clear HB; have HI0 := n0_; have BK144 := n1_; have HK := n2_; have HB := n3_; clear n0_ n1_ n2_ n3_; (try clear hb); (try clear hb2); (try clear hk); (try clear hi)) | ((with_reducible refine gate_dst (N := 3) rfl ?_); refine box_event ?hg (N := 3) ?hd (cs := #[.int .i64 0, .string (⟨#[]⟩ : ByteArray), .string (⟨#[]⟩ : ByteArray), .slice none 0 0, .bool false]) (t := 33) ?hr ?_; (case hd => rfl); (case hg => rfl); (case hr => first | (go_simp; done) | (go_simp; rfl)); intro gb149 hg w8 hbox hb; have n0_ := Aside0.mk (IsS52.below (by repeat (first | (with_reducible first | exact HI0.out | apply IsS52.alloc | apply IsS52.drewN | apply IsS52.drew | apply IsS52.set_0 | apply IsS52.set_1 | refine IsS52.far ?_ NB0_144.out _) | exact HI0.out)) hb); have n1_ := Aside0.mk (blk_below (g := gb144) (o := .cells #[.int .i64 0, .string (⟨#[]⟩ : ByteArray), .string (⟨#[]⟩ : ByteArray), .slice none 0 0, .bool false] 33 (0, 0)) (by (with_reducible repeat (first | refine blk_drewN ?_ _ | refine blk_drew ?_ | refine blk_alloc ?_ _)); exact BK144.out) hb); have n2_ := Aside0.mk (KeepBut.trans (by repeat (first | (with_reducible first | exact HK.out | apply KeepBut.set_ | apply keep_drewN | apply keep_drew | apply keep_alloc | refine keep_far ?_ GW144.out _) | exact HK.out)) (KeepBut.of_below hb g none) (.inl rfl)); have n3_ := Aside0.mk (below_step (by repeat (first | (with_reducible first | exact HB.out | apply below_alloc | apply pw_below_drewN | apply below_drew1 | refine below_set ?_ (IsS52.ge HI0.out) | refine below_set ?_ GE144.out) | exact HB.out)) hb); have n4_ := Aside0.mk (hbox); have n5_ := Aside0.mk ((by rw [hg]; exact (keep_size (w := w) (g := g) (row := none) (by repeat (first | (with_reducible first | exact HK.out | apply KeepBut.set_ | apply keep_drewN | apply keep_drew | apply keep_alloc | refine keep_far ?_ GW144.out _) | exact HK.out))) : w.heap.size ≤ gb149)); have n6_ := Aside0.mk ((Nat.le_trans HW0.out (by rw [hg]; exact (keep_size (w := w) (g := g) (row := none) (by repeat (first | (with_reducible first | exact HK.out | apply KeepBut.set_ | apply keep_drewN | apply keep_drew | apply keep_alloc | refine keep_far ?_ GW144.out _) | exact HK.out))) : w.heap.size ≤ gb149) : w0.heap.size ≤ gb149)); have n7_ := Aside0.mk ((by rw [hg]; exact Nat.ne_of_lt (blk_lt (g := gb144) (o := .cells #[.int .i64 0, .string (⟨#[]⟩ : ByteArray), .string (⟨#[]⟩ : ByteArray), .slice none 0 0, .bool false] 33 (0, 0)) (by (with_reducible repeat (first | refine blk_drewN ?_ _ | refine blk_drew ?_ | refine blk_alloc ?_ _)); exact BK144.out)) : gb144 ≠ gb149)); have n8_ := Aside0.mk ((by rw [hg]; exact Nat.ne_of_gt (blk_lt (g := gb144) (o := .cells #[.int .i64 0, .string (⟨#[]⟩ : ByteArray), .string (⟨#[]⟩ : ByteArray), .slice none 0 0, .bool false] 33 (0, 0)) (by (with_reducible repeat (first | refine blk_drewN ?_ _ | refine blk_drew ?_ | refine blk_alloc ?_ _)); exact BK144.out)) : gb149 ≠ gb144)); have n9_ := Aside0.mk ((by rw [hg]; exact Nat.ne_of_lt (IsS52.lt (show IsS52 w0 _ g t146 t147 from by repeat (first | (with_reducible first | exact HI0.out | apply IsS52.alloc | apply IsS52.drewN | apply IsS52.drew | apply IsS52.set_0 | apply IsS52.set_1 | refine IsS52.far ?_ NB0_144.out _) | exact HI0.out))) : g ≠ gb149)); have n10_ := Aside0.mk ((by rw [hg]; exact Nat.ne_of_gt (IsS52.lt (show IsS52 w0 _ g t146 t147 from by repeat (first | (with_reducible first | exact HI0.out | apply IsS52.alloc | apply IsS52.drewN | apply IsS52.drew | apply IsS52.set_0 | apply IsS52.set_1 | refine IsS52.far ?_ NB0_144.out _) | exact HI0.out))) : gb149 ≠ g)); clear HI0; clear BK144; clear HK; clear HB; have HI0 := n0_; have BK144 := n1_; have HK := n2_; have HB := n3_; have BK149 := n4_; have GW149 := n5_; have GE149 := n6_; have NB144_149 := n7_; have NB149_144 := n8_; have NB0_149 := n9_; have NB149_0 := n10_; clear n0_ n1_ n2_ n3_ n4_ n5_ n6_ n7_ n8_ n9_ n10_; clear hb hbox hg; have hnb9 := NB149_144.out; have hnc9 := NB144_149.out; have hnb10 := NB149_0.out; have hnc10 := NB0_149.out; have hcz11_0 : w8.cell? ⟨gb149, 0, none⟩ = some (.int .i64 0) := (blk_cell BK149.out 0).trans rfl; have hcz11_1 : w8.cell? ⟨gb149, 1, none⟩ = some (.string (⟨#[]⟩ : ByteArray)) := (blk_cell BK149.out 1).trans rfl; have hcz11_2 : w8.cell? ⟨gb149, 2, none⟩ = some (.string (⟨#[]⟩ : ByteArray)) := (blk_cell BK149.out 2).trans rfl; have hcz11_3 : w8.cell? ⟨gb149, 3, none⟩ = some (.slice none 0 0) := (blk_cell BK149.out 3).trans rfl; have hcz11_4 : w8.cell? ⟨gb149, 4, none⟩ = some (.bool false) := (blk_cell BK149.out 4).trans rfl; have hfz11_0 := blk_frozen BK149.out 0; have hfz11_1 := blk_frozen BK149.out 1; have hfz11_2 := blk_frozen BK149.out 2; have hfz11_3 := blk_frozen BK149.out 3; have hfz11_4 := blk_frozen BK149.out 4) | ((with_reducible refine gate_callee (f := 79) rfl ?_); refine goesL_ (some 9) rfl rfl Tryz.func79 (by kernel_rfl) rfl #[.pointer (some ⟨g, 0, none⟩), .int .i64 1] rfl (by (try simp only [List.map_toArray, List.map_cons, List.map_nil]); first | done | rfl | (simp only [List.length_drop, List.length_take]; rfl)) ?_; (with_reducible refine (scan_reader_skip.calls g t146 t147 1 t150 t151 t152 w0 _ ?side1 ?side2 A4.out).mono ?_); (case side1 => repeat (first | (with_reducible first | exact HI0.out | apply IsS52.alloc | apply IsS52.drewN | apply IsS52.drew | apply IsS52.set_0 | apply IsS52.set_1 | refine IsS52.far ?_ NB0_144.out _ | refine IsS52.far ?_ NB0_149.out _) | exact HI0.out)); (case side2 => repeat (first | (with_reducible first | exact HB.out | apply below_alloc | apply pw_below_drewN | apply below_drew1 | refine below_set ?_ (IsS52.ge HI0.out) | refine below_set ?_ GE144.out | refine below_set ?_ GE149.out) | exact HB.out)); rintro e w12 ⟨rfl, hi, hb, hk⟩; refine ⟨_, rfl, ?_⟩; have n0_ := Aside0.mk (KeepBut.blk hk (g' := gb144) (o := .cells #[.int .i64 0, .string (⟨#[]⟩ : ByteArray), .string (⟨#[]⟩ : ByteArray), .slice none 0 0, .bool false] 33 (0, 0)) (by (with_reducible repeat (first | refine blk_drewN ?_ _ | refine blk_drew ?_ | refine blk_alloc ?_ _)); refine blk_far ?_ NB144_149.out _; (with_reducible repeat (first | refine blk_drewN ?_ _ | refine blk_drew ?_ | refine blk_alloc ?_ _)); refine blk_far ?_ NB144_149.out _; (with_reducible repeat (first | refine blk_drewN ?_ _ | refine blk_drew ?_ | refine blk_alloc ?_ _)); refine blk_far ?_ NB144_149.out _; (with_reducible repeat (first | refine blk_drewN ?_ _ | refine blk_drew ?_ | refine blk_alloc ?_ _)); refine blk_far ?_ NB144_149.out _; (with_reducible repeat (first | refine blk_drewN ?_ _ | refine blk_drew ?_ | refine blk_alloc ?_ _)); refine blk_far ?_ NB144_149.out _; (with_reducible repeat (first | refine blk_drewN ?_ _ | refine blk_drew ?_ | refine blk_alloc ?_ _)); exact BK144.out) NB144_0.out (by simp)); have n1_ := Aside0.mk (KeepBut.blk hk (g' := gb149) (o := .cells #[.int .i64 4, .string (⟨#[]⟩ : ByteArray), .string t148, .slice none 0 0, .bool false] 33 (0, 0)) (by (with_reducible repeat (first | refine blk_drewN ?_ _ | refine blk_drew ?_ | refine blk_alloc ?_ _)); refine blk_put (cs := #[.int .i64 4, .string (⟨#[]⟩ : ByteArray), .string t148, .slice none 0 0, .bool false]) ?_ 4 _ rfl; (with_reducible repeat (first | refine blk_drewN ?_ _ | refine blk_drew ?_ | refine blk_alloc ?_ _)); refine blk_put (cs := #[.int .i64 4, .string (⟨#[]⟩ : ByteArray), .string t148, .slice none 0 0, .bool false]) ?_ 3 _ rfl; (with_reducible repeat (first | refine blk_drewN ?_ _ | refine blk_drew ?_ | refine blk_alloc ?_ _)); refine blk_put (cs := #[.int .i64 4, .string (⟨#[]⟩ : ByteArray), .string (⟨#[]⟩ : ByteArray), .slice none 0 0, .bool false]) ?_ 2 _ rfl; (with_reducible repeat (first | refine blk_drewN ?_ _ | refine blk_drew ?_ | refine blk_alloc ?_ _)); refine blk_put (cs := #[.int .i64 4, .string (⟨#[]⟩ : ByteArray), .string (⟨#[]⟩ : ByteArray), .slice none 0 0, .bool false]) ?_ 1 _ rfl; (with_reducible repeat (first | refine blk_drewN ?_ _ | refine blk_drew ?_ | refine blk_alloc ?_ _)); refine blk_put (cs := #[.int .i64 0, .string (⟨#[]⟩ : ByteArray), .string (⟨#[]⟩ : ByteArray), .slice none 0 0, .bool false]) ?_ 0 _ rfl; (with_reducible repeat (first | refine blk_drewN ?_ _ | refine blk_drew ?_ | refine blk_alloc ?_ _)); exact BK149.out) NB149_0.out (by simp)); have n2_ := Aside0.mk (KeepBut.trans (by repeat (first | (with_reducible first | exact HK.out | apply KeepBut.set_ | apply keep_drewN | apply keep_drew | apply keep_alloc | refine keep_far ?_ GW144.out _ | refine keep_far ?_ GW149.out _) | exact HK.out)) hk (.inl rfl)); have n3_ := Aside0.mk (hb); have n4_ := Aside0.mk (hi); clear BK144; clear BK149; clear HK; clear HB; clear HI0; have BK144 := n0_; have BK149 := n1_; have HK := n2_; have HB := n3_; have HI0 := n4_; clear n0_ n1_ n2_ n3_ n4_; (try clear hb); (try clear hb2); (try clear hk); (try clear hi); have hcz13_0 : w12.cell? ⟨gb149, 0, none⟩ = some (.int .i64 4) := (blk_cell BK149.out 0).trans rfl; have hcz13_1 : w12.cell? ⟨gb149, 1, none⟩ = some (.string (⟨#[]⟩ : ByteArray)) := (blk_cell BK149.out 1).trans rfl; have hcz13_2 : w12.cell? ⟨gb149, 2, none⟩ = some (.string t148) := (blk_cell BK149.out 2).trans rfl; have hcz13_3 : w12.cell? ⟨gb149, 3, none⟩ = some (.slice none 0 0) := (blk_cell BK149.out 3).trans rfl; have hcz13_4 : w12.cell? ⟨gb149, 4, none⟩ = some (.bool false) := (blk_cell BK149.out 4).trans rfl; have hfz13_0 := blk_frozen BK149.out 0; have hfz13_1 := blk_frozen BK149.out 1; have hfz13_2 := blk_frozen BK149.out 2; have hfz13_3 := blk_frozen BK149.out 3; have hfz13_4 := blk_frozen BK149.out 4; have hnb14 := NB144_0.out; have hnc14 := NB0_144.out; have hcz15_0 : w12.cell? ⟨gb144, 0, none⟩ = some (.int .i64 0) := (blk_cell BK144.out 0).trans rfl; have hcz15_1 : w12.cell? ⟨gb144, 1, none⟩ = some (.string (⟨#[]⟩ : ByteArray)) := (blk_cell BK144.out 1).trans rfl; have hcz15_2 : w12.cell? ⟨gb144, 2, none⟩ = some (.string (⟨#[]⟩ : ByteArray)) := (blk_cell BK144.out 2).trans rfl; have hcz15_3 : w12.cell? ⟨gb144, 3, none⟩ = some (.slice none 0 0) := (blk_cell BK144.out 3).trans rfl; have hcz15_4 : w12.cell? ⟨gb144, 4, none⟩ = some (.bool false) := (blk_cell BK144.out 4).trans rfl; have hfz15_0 := blk_frozen BK144.out 0; have hfz15_1 := blk_frozen BK144.out 1; have hfz15_2 := blk_frozen BK144.out 2; have hfz15_3 := blk_frozen BK144.out 3; have hfz15_4 := blk_frozen BK144.out 4))
  refine bodyPost_ret (results_cell_row rfl _ _ gb144 33 #[.int .i64 4, .string (⟨#[]⟩ : ByteArray), .string t148, .slice none 0 0, .bool false] (0, 0) _ rfl (by (with_reducible repeat (first | refine blk_drewN ?_ _ | refine blk_drew ?_ | refine blk_alloc ?_ _)); refine blk_put (cs := #[.int .i64 4, .string (⟨#[]⟩ : ByteArray), .string t148, .slice none 0 0, .bool false]) ?_ 4 _ rfl; (with_reducible repeat (first | refine blk_drewN ?_ _ | refine blk_drew ?_ | refine blk_alloc ?_ _)); refine blk_put (cs := #[.int .i64 4, .string (⟨#[]⟩ : ByteArray), .string t148, .slice none 0 0, .bool false]) ?_ 3 _ rfl; (with_reducible repeat (first | refine blk_drewN ?_ _ | refine blk_drew ?_ | refine blk_alloc ?_ _)); refine blk_put (cs := #[.int .i64 4, .string (⟨#[]⟩ : ByteArray), .string (⟨#[]⟩ : ByteArray), .slice none 0 0, .bool false]) ?_ 2 _ rfl; (with_reducible repeat (first | refine blk_drewN ?_ _ | refine blk_drew ?_ | refine blk_alloc ?_ _)); refine blk_put (cs := #[.int .i64 4, .string (⟨#[]⟩ : ByteArray), .string (⟨#[]⟩ : ByteArray), .slice none 0 0, .bool false]) ?_ 1 _ rfl; (with_reducible repeat (first | refine blk_drewN ?_ _ | refine blk_drew ?_ | refine blk_alloc ?_ _)); refine blk_put (cs := #[.int .i64 0, .string (⟨#[]⟩ : ByteArray), .string (⟨#[]⟩ : ByteArray), .slice none 0 0, .bool false]) ?_ 0 _ rfl; (with_reducible repeat (first | refine blk_drewN ?_ _ | refine blk_drew ?_ | refine blk_alloc ?_ _)); exact BK144.out) Tryz.underlying33 rfl (by kernel_rfl)) rfl ?_
  exact ⟨_, by first | rfl | (simp [errW_none, errW_some] <;> rfl) | (simp [*, errW_none, errW_some] <;> rfl), by first | exact Kd.R_nil _ _ _ _ _ | exact Kd.N_nil _ _ _ _ _ | exact Kd.V_nil _ _ _ _ _ | exact Kd.Q_nil _ _ _ _ _ | exact Kd.S_nil _ _ _ _ _, by repeat (first | (with_reducible first | exact HI0.out | apply IsS52.alloc | apply IsS52.drewN | apply IsS52.drew | apply IsS52.set_0 | apply IsS52.set_1 | refine IsS52.far ?_ NB0_144.out _ | refine IsS52.far ?_ NB0_149.out _) | exact HI0.out), by repeat (first | (with_reducible first | exact HB.out | apply below_alloc | apply pw_below_drewN | apply below_drew1 | refine below_set ?_ (IsS52.ge HI0.out) | refine below_set ?_ GE144.out | refine below_set ?_ GE149.out) | exact HB.out), by repeat (first | (with_reducible first | exact HK.out | apply KeepBut.set_ | apply keep_drewN | apply keep_drew | apply keep_alloc | refine keep_far ?_ GW144.out _ | refine keep_far ?_ GW149.out _) | exact HK.out)⟩
end Go.Proofs.YtoacojkmclngmaaGreatDoor.Pz
namespace Go.Proofs.YtoacojkmclngmaaGreatDoor.Pz
open Go.RowKit Go.Proofs.YtoacojkmclngmaaGreatDoorW.PrintWords Go.Proofs.YtoacojkmclngmaaGreatDoorW.PrintLast Go.Proofs.YtoacojkmclngmaaGreatDoorW.PrintMore
attribute [local go_sem] max2_int min2_int max_two min_two max_three min_three max_four min_four   -- for this text's walks alone
attribute [local go_sem] rune_str
set_option linter.unusedVariables false
set_option linter.unusedSimpArgs false
def strings_HasSuffix.f (a0 a1 : ByteArray) : Option Bool := if a0.size ≤ 9223372036854775807 then some (Lib.hasSuffix a0.data.toList a1.data.toList) else none
theorem strings_HasSuffix.calls (a0 : ByteArray) (a1 : ByteArray) (r : Bool) (w : World) (h : strings_HasSuffix.f a0 a1 = some r) :
    Calls Tryz.prog 140 #[.string a0, .string a1] w fun e w' => e = .returned (.bool r) ∧ Drawn0 w w' := by
  unfold strings_HasSuffix.f at h
  split at h
  case isFalse => cases h
  rename_i hs
  obtain rfl := Option.some.inj h
  exact (Tryz.strings_HasSuffix a0 a1 w hs).mono fun e w' ⟨he, hw⟩ => ⟨he, hw ▸ Drawn0.refl w⟩
end Go.Proofs.YtoacojkmclngmaaGreatDoor.Pz
namespace Go.Proofs.YtoacojkmclngmaaGreatDoor.Pz
open Go.RowKit Go.Proofs.YtoacojkmclngmaaGreatDoorW.PrintWords Go.Proofs.YtoacojkmclngmaaGreatDoorW.PrintLast Go.Proofs.YtoacojkmclngmaaGreatDoorW.PrintMore
attribute [local go_sem] max2_int min2_int max_two min_two max_three min_three max_four min_four   -- for this text's walks alone
attribute [local go_sem] rune_str
set_option linter.unusedVariables false
set_option linter.unusedSimpArgs false
def strings_TrimSuffix.f (a0 a1 : ByteArray) : Option ByteArray := if a0.size ≤ 9223372036854775807 then some ⟨(Lib.trimSuffix a0.data.toList a1.data.toList).toArray⟩ else none
theorem strings_TrimSuffix.calls (a0 : ByteArray) (a1 : ByteArray) (r : ByteArray) (w : World) (h : strings_TrimSuffix.f a0 a1 = some r) :
    Calls Tryz.prog 141 #[.string a0, .string a1] w fun e w' => e = .returned (.string r) ∧ Drawn0 w w' := by
  unfold strings_TrimSuffix.f at h
  split at h
  case isFalse => cases h
  rename_i hs
  obtain rfl := Option.some.inj h
  exact (Tryz.strings_TrimSuffix a0 a1 w hs).mono fun e w' ⟨he, hw⟩ => ⟨he, hw ▸ Drawn0.refl w⟩
end Go.Proofs.YtoacojkmclngmaaGreatDoor.Pz
namespace Go.Proofs.YtoacojkmclngmaaGreatDoor.Pz
open Go.RowKit Go.Proofs.YtoacojkmclngmaaGreatDoorW.PrintWords Go.Proofs.YtoacojkmclngmaaGreatDoorW.PrintLast Go.Proofs.YtoacojkmclngmaaGreatDoorW.PrintMore
attribute [local go_sem] max2_int min2_int max_two min_two max_three min_three max_four min_four   -- for this text's walks alone
attribute [local go_sem] rune_str
set_option linter.unusedVariables false
set_option linter.unusedSimpArgs false
def strings_Index.f (a0 a1 : ByteArray) : Option Int := if a0.size < 4294967281 then some (Lib.index a0.data.toList a1.data.toList) else none
theorem strings_Index.calls (a0 : ByteArray) (a1 : ByteArray) (r : Int) (w : World) (hG : Glob w) (h : strings_Index.f a0 a1 = some r) :
    Calls Tryz.prog 97 #[.string a0, .string a1] w fun e w' => e = .returned (.int .i64 r) ∧ Below w.heap.size w w' := by
  unfold strings_Index.f at h
  split at h
  case isFalse => cases h
  rename_i hs
  obtain rfl := Option.some.inj h
  obtain ⟨m, hm⟩ := hG.maxLen
  exact (Tryz.strings_Index a0 a1 m w hs hm).mono fun e w' ⟨he, hw⟩ => ⟨he, hw ▸ Below.refl _ _⟩
end Go.Proofs.YtoacojkmclngmaaGreatDoor.Pz
