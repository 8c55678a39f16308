/- Texts of the session, one behind the other: what the code computes, function by function, and its contracts. -/
import Derived.Test.YtoacojkmclngmaaGreatDoorRows
import Derived.Below
import Derived.Laws.Entries
import Derived.Test.YtoacojkmclngmaaGreatDoorProg
import Derived.Deep.Draws
import Derived.Deep.AppendLies
import Derived.Maps.AppendAt
import Derived.OwnWalk
import Derived.Laws.BytesArg
import Derived.Laws.MakeOwn
import Derived.Laws.OwnMore
import Derived.Deep.OwnRows
import Derived.Tactics
import Derived.Lib.ConvBytes
import Derived.Laws.Slices
import Derived.WalkKit
import Derived.KernelRfl
import Derived.RowKit3
import Derived.Deep.LoopGhost
import Derived.Deep.QuietTactic
import Derived.BigQuiet
import Derived.WideLaws
import Derived.Deep.DeepCutAuto
import Derived.Deep.CutBlock
import Derived.Deep.RegionHeld3
import Derived.Laws.Rows
import Derived.Lib.AppendStr
import Derived.ArgAppend
import Derived.Laws.IdiomCopy
import Derived.OrdersHeld
import Derived.Laws.BitsLemmas
import Derived.RowKit
import Derived.Test.YtoacojkmclngmaaGreatDoorWWords
import Derived.Test.YtoacojkmclngmaaGreatDoorWLast
import Derived.Test.YtoacojkmclngmaaGreatDoorWTab
import Derived.Test.YtoacojkmclngmaaGreatDoorWFour
import Derived.Test.YtoacojkmclngmaaGreatDoorWQPut
import Derived.Test.YtoacojkmclngmaaGreatDoorWApart
import Derived.Test.YtoacojkmclngmaaGreatDoorWArr
import Derived.Test.YtoacojkmclngmaaGreatDoorWZeros
import Derived.Test.YtoacojkmclngmaaGreatDoorWFoot
import Derived.Test.YtoacojkmclngmaaGreatDoorWKept
import Derived.Test.YtoacojkmclngmaaGreatDoorWShare
import Derived.Test.YtoacojkmclngmaaGreatDoorWN
import Derived.Test.YtoacojkmclngmaaGreatDoorWFootNe
import Derived.Test.YtoacojkmclngmaaGreatDoorWAt
import Derived.Test.YtoacojkmclngmaaGreatDoorWEqStruct
import Derived.Test.YtoacojkmclngmaaGreatDoorWRepsOne
import Derived.Test.YtoacojkmclngmaaGreatDoorWInv
import Derived.Test.YtoacojkmclngmaaGreatDoorWInvWords
import Derived.Test.YtoacojkmclngmaaGreatDoorWGuard
import Derived.Test.YtoacojkmclngmaaGreatDoorWNEv
import Derived.Test.YtoacojkmclngmaaGreatDoorWMore
import Derived.Lib.Hide
import Derived.Laws.BytesString
import Derived.Lib.OthersKept
import Derived.Laws.RangeAny
import Derived.Laws.RangeString
import Derived.Lib.RuneCount
/- What every world of a call holds: the world in which the call began had the program's variables as the row lists them; nothing below has changed since. -/
namespace Go.Proofs.YtoacojkmclngmaaGreatDoor
open Go.RowKit
def Glob (w : World) : Prop := ∃ w0 : World, (w0.ShapedOpen Tryz.prog ∧ laidMetH Tryz.prog Rows.scanTokensRow.laid w0) ∧ Below w0.heap.size w0 w
theorem Glob.below {w w' : World} (h : Glob w) (hb : Below w.heap.size w w') : Glob w' := by
  obtain ⟨w0, h0, hb0⟩ := h
  exact ⟨w0, h0, hb0.trans (hb.mono hb0.size)⟩
theorem ext_self (s : ByteArray) : s.extract ((s.size : Int)).toNat s.size = ByteArray.empty := by simp
theorem rune_str (n : Int) (w : World) : (convert 21 9 (.int .i32 n)).run Tryz.prog w = .ok (.string (Utf8.encode n)) w := by
  simp [convert, run_underlying Tryz.underlying21, run_underlying Tryz.underlying9, Conv.intToString]
end Go.Proofs.YtoacojkmclngmaaGreatDoor
namespace Go.Proofs.YtoacojkmclngmaaGreatDoor.Pz
open Go.RowKit Go.Proofs.YtoacojkmclngmaaGreatDoorW.PrintWords Go.Proofs.YtoacojkmclngmaaGreatDoorW.PrintLast Go.Proofs.YtoacojkmclngmaaGreatDoorW.PrintMore
attribute [local go_sem] max2_int min2_int max_two min_two max_three min_three max_four min_four   -- for this text's walks alone
attribute [local go_sem] rune_str
set_option linter.unusedVariables false
set_option linter.unusedSimpArgs false
def errW : Option Int → Value
  | none => .nilIface
  | some c => .iface 0 (.int .i64 c)
theorem errW_none : errW none = .nilIface := rfl
theorem errW_some (c : Int) : errW (some c) = .iface 0 (.int .i64 c) := rfl
theorem info9 : (Tryz.prog.info? 9).map (fun i => (i.zero, i.size, i.bytes)) = some (some (.string ⟨#[]⟩), 1, 16) := by kernel_rfl
theorem info33 : (Tryz.prog.info? 33).map (fun i => (i.zero, i.size, i.bytes)) = some (some (.agg #[(.int .i64 0), (.string ⟨#[]⟩), (.string ⟨#[]⟩), (.slice none 0 0), (.bool false)]), 5, 72) := by kernel_rfl
theorem info36 : (Tryz.prog.info? 36).map (fun i => (i.zero, i.size, i.bytes)) = some (some (.agg #[(.string ⟨#[]⟩), (.string ⟨#[]⟩)]), 2, 32) := by kernel_rfl
theorem info107 : (Tryz.prog.info? 107).map (fun i => (i.zero, i.size, i.bytes)) = some (some (.agg #[(.string ⟨#[]⟩), (.string ⟨#[]⟩)]), 2, 32) := by kernel_rfl
structure S54 where
  f0 : ByteArray
  f1 : Int
structure S107 where
  f0 : ByteArray
  f1 : ByteArray
def z107 : S107 := ⟨(⟨#[]⟩ : ByteArray), (⟨#[]⟩ : ByteArray)⟩
def k107 : Kd S107 := Kd.iso (Kd.pair Kd.string Kd.string) (fun x : S107 => (x.f0, x.f1))
theorem k107_open {w : World} {x : S107} {cs : List Value} (h : k107.K w x cs) : cs = [.string x.f0, .string x.f1] := by
  obtain ⟨_, _, rfl, rfl, rfl⟩ := h
  exact rfl
theorem k107_openM {w : World} {base : Nat} {ok : Nat → Prop} {x : S107} {cs : List Value} (h : k107.M w base ok x cs) : cs = [.string x.f0, .string x.f1] := by
  obtain ⟨_, _, rfl, rfl, rfl⟩ := h
  exact rfl
theorem k107_mkM (w : World) (base : Nat) (ok : Nat → Prop) (x : S107)  : k107.M w base ok x [.string x.f0, .string x.f1] := ⟨[.string x.f0], [.string x.f1], rfl, rfl, rfl⟩
def rd_T107 (xs : List S107) (i : Int) : S107 := xs.getD i.toNat z107
theorem at_T107 {w : World} {A : Option Addr} {n : Nat} {xs : List S107} (h : Kd.C k107 w A n xs) (i : Int) (h0 : 0 ≤ i) (h1 : i < n) : ∃ ad , A = some ad ∧ w.cell? (ad.add (i.toNat * 2)) = some (.string (rd_T107 xs i).f0) ∧ w.cell? ⟨(ad.add (i.toNat * 2)).block, (ad.add (i.toNat * 2)).off + 1, none⟩ = some (.string (rd_T107 xs i).f1) := by
  obtain ⟨ad, c, e, _, hK, hc0⟩ := Kd.C_get h z107 i h0 h1
  have hc : ∀ j u, c[j]? = some u → w.cell? (ad.add (i.toNat * 2 + j)) = some u := hc0
  obtain rfl := k107_open hK
  exact ⟨ad, e, hc 0 _ rfl, by rw [← add_field _ _ 1 (by omega)]; exact hc 1 _ rfl⟩
structure S36 where
  f0 : ByteArray
  f1 : ByteArray
def z36 : S36 := ⟨(⟨#[]⟩ : ByteArray), (⟨#[]⟩ : ByteArray)⟩
def k36 : Kd S36 := Kd.iso (Kd.pair Kd.string Kd.string) (fun x : S36 => (x.f0, x.f1))
theorem k36_open {w : World} {x : S36} {cs : List Value} (h : k36.K w x cs) : cs = [.string x.f0, .string x.f1] := by
  obtain ⟨_, _, rfl, rfl, rfl⟩ := h
  exact rfl
theorem k36_mkM (w : World) (base : Nat) (ok : Nat → Prop) (x : S36)  : k36.M w base ok x [.string x.f0, .string x.f1] := ⟨[.string x.f0], [.string x.f1], rfl, rfl, rfl⟩
def rd_T36 (xs : List S36) (i : Int) : S36 := xs.getD i.toNat z36
theorem at_T36 {w : World} {A : Option Addr} {n : Nat} {xs : List S36} (h : Kd.C k36 w A n xs) (i : Int) (h0 : 0 ≤ i) (h1 : i < n) : ∃ ad , A = some ad ∧ w.cell? (ad.add (i.toNat * 2)) = some (.string (rd_T36 xs i).f0) ∧ w.cell? ⟨(ad.add (i.toNat * 2)).block, (ad.add (i.toNat * 2)).off + 1, none⟩ = some (.string (rd_T36 xs i).f1) := by
  obtain ⟨ad, c, e, _, hK, hc0⟩ := Kd.C_get h z36 i h0 h1
  have hc : ∀ j u, c[j]? = some u → w.cell? (ad.add (i.toNat * 2 + j)) = some u := hc0
  obtain rfl := k36_open hK
  exact ⟨ad, e, hc 0 _ rfl, by rw [← add_field _ _ 1 (by omega)]; exact hc 1 _ rfl⟩
structure S33 where
  f0 : Int
  f1 : ByteArray
  f2 : ByteArray
  f3 : (List S36)
  f4 : Bool
def z33 : S33 := ⟨(0 : Int), (⟨#[]⟩ : ByteArray), (⟨#[]⟩ : ByteArray), ([] : List S36), false⟩
def k33 : Kd S33 := Kd.iso (Kd.pair (Kd.int .i64) (Kd.pair Kd.string (Kd.pair Kd.string (Kd.pair (Kd.slice 36 k36) Kd.bool)))) (fun x : S33 => (x.f0, x.f1, x.f2, x.f3, x.f4))
theorem k33_open {w : World} {x : S33} {cs : List Value} (h : k33.K w x cs) : ∃ A3 c3, cs = [.int .i64 x.f0, .string x.f1, .string x.f2, .slice A3 x.f3.length c3, .bool x.f4] ∧ x.f3.length ≤ c3 ∧ k36.C w A3 x.f3.length x.f3 := by
  obtain ⟨_, _, rfl, rfl, ⟨_, _, rfl, rfl, ⟨_, _, rfl, rfl, ⟨_, _, rfl, ⟨A3, c3, rfl, l3, g3⟩, rfl⟩⟩⟩⟩ := h
  exact ⟨A3, c3, rfl, l3, g3⟩
theorem k33_mk (w : World) (x : S33) {A3 : Option Addr} {c3 : Nat} (l3 : x.f3.length ≤ c3) (g3 : k36.C w A3 x.f3.length x.f3) : k33.K w x [.int .i64 x.f0, .string x.f1, .string x.f2, .slice A3 x.f3.length c3, .bool x.f4] := ⟨[.int .i64 x.f0], [.string x.f1, .string x.f2, .slice A3 x.f3.length c3, .bool x.f4], rfl, rfl, ⟨[.string x.f1], [.string x.f2, .slice A3 x.f3.length c3, .bool x.f4], rfl, rfl, ⟨[.string x.f2], [.slice A3 x.f3.length c3, .bool x.f4], rfl, rfl, ⟨[.slice A3 x.f3.length c3], [.bool x.f4], rfl, ⟨A3, c3, rfl, l3, g3⟩, rfl⟩⟩⟩⟩
theorem k33_openF {W : World} {ok : Nat → Prop} {x : S33} {cs : List Value} (h : Kd.FK k33 W ok x cs) : ∃ A3 c3, cs = [.int .i64 x.f0, .string x.f1, .string x.f2, .slice A3 x.f3.length c3, .bool x.f4] ∧ x.f3.length ≤ c3 ∧ Kd.F k36 W ok A3 x.f3.length x.f3 := by
  obtain ⟨A3, c3, rfl, l3, _⟩ := k33_open (Kd.FK_now h)
  exact ⟨A3, c3, rfl, l3, (fun W' hW => by obtain ⟨A3_, c3_, he, l3_, g3_⟩ := k33_open (h W' hW); injection (Option.some.inj (show some (Value.slice A3 x.f3.length c3) = some (Value.slice A3_ x.f3.length c3_) from congrArg (fun l => l[3]?) he)) with ha_ _ _; rw [ha_]; exact g3_)⟩
theorem k33_mkF (W : World) (ok : Nat → Prop) (x : S33) {A3 : Option Addr} {c3 : Nat} (l3 : x.f3.length ≤ c3) (g3 : Kd.F k36 W ok A3 x.f3.length x.f3) : Kd.FK k33 W ok x [.int .i64 x.f0, .string x.f1, .string x.f2, .slice A3 x.f3.length c3, .bool x.f4] := fun W2 hW => k33_mk W2 x l3 (g3 W2 hW)
def rd_T33 (xs : List S33) (i : Int) : S33 := xs.getD i.toNat z33
theorem at_T33 {w : World} {A : Option Addr} {n : Nat} {xs : List S33} (h : Kd.C k33 w A n xs) (i : Int) (h0 : 0 ≤ i) (h1 : i < n) : ∃ ad A3 c3, A = some ad ∧ w.cell? (ad.add (i.toNat * 5)) = some (.int .i64 (rd_T33 xs i).f0) ∧ w.cell? ⟨(ad.add (i.toNat * 5)).block, (ad.add (i.toNat * 5)).off + 1, none⟩ = some (.string (rd_T33 xs i).f1) ∧ w.cell? ⟨(ad.add (i.toNat * 5)).block, (ad.add (i.toNat * 5)).off + 2, none⟩ = some (.string (rd_T33 xs i).f2) ∧ w.cell? ⟨(ad.add (i.toNat * 5)).block, (ad.add (i.toNat * 5)).off + 3, none⟩ = some (.slice A3 (rd_T33 xs i).f3.length c3) ∧ w.cell? ⟨(ad.add (i.toNat * 5)).block, (ad.add (i.toNat * 5)).off + 4, none⟩ = some (.bool (rd_T33 xs i).f4) ∧ (rd_T33 xs i).f3.length ≤ c3 ∧ k36.C w A3 (rd_T33 xs i).f3.length (rd_T33 xs i).f3 := by
  obtain ⟨ad, c, e, _, hK, hc0⟩ := Kd.C_get h z33 i h0 h1
  have hc : ∀ j u, c[j]? = some u → w.cell? (ad.add (i.toNat * 5 + j)) = some u := hc0
  obtain ⟨A3, c3, rfl, l3, g3⟩ := k33_open hK
  exact ⟨ad, A3, c3, e, hc 0 _ rfl, by rw [← add_field _ _ 1 (by omega)]; exact hc 1 _ rfl, by rw [← add_field _ _ 2 (by omega)]; exact hc 2 _ rfl, by rw [← add_field _ _ 3 (by omega)]; exact hc 3 _ rfl, by rw [← add_field _ _ 4 (by omega)]; exact hc 4 _ rfl, l3, g3⟩
structure S117 where
  f0 : ByteArray
  f1 : ByteArray
  f2 : Bool
def z117 : S117 := ⟨(⟨#[]⟩ : ByteArray), (⟨#[]⟩ : ByteArray), false⟩
end Go.Proofs.YtoacojkmclngmaaGreatDoor.Pz
namespace Go.Proofs.YtoacojkmclngmaaGreatDoor.Pz
open Go.RowKit Go.Proofs.YtoacojkmclngmaaGreatDoorW.PrintWords Go.Proofs.YtoacojkmclngmaaGreatDoorW.PrintLast Go.Proofs.YtoacojkmclngmaaGreatDoorW.PrintMore
attribute [local go_sem] max2_int min2_int max_two min_two max_three min_three max_four min_four   -- for this text's walks alone
attribute [local go_sem] rune_str
set_option linter.unusedVariables false
set_option linter.unusedSimpArgs false
theorem between_same (a b c : Int) (w : World) : Calls Tryz.prog 39 #[.int .u8 a, .int .u8 b, .int .u8 c] w fun e w' => e = .returned (.bool (decide (b ≤ a) && decide (a ≤ c))) ∧ w = w' := by
  by_cases h1 : b ≤ a
  · by_cases h2 : a ≤ c
    · go_enter Tryz.func39, Tryz.ntmps39
      go_wp2
      go_ret
      exact ⟨by simp [h1, h2], rfl⟩
    · go_enter Tryz.func39, Tryz.ntmps39
      go_wp2
      go_ret
      exact ⟨by simp [h1, h2], rfl⟩
  · go_enter Tryz.func39, Tryz.ntmps39
    go_wp2
    go_ret
    exact ⟨by simp [h1]; omega, rfl⟩
def class_between.f (a0 a1 a2 : Int) : Option Bool := some (decide (a1 ≤ a0) && decide (a0 ≤ a2))
theorem class_between.calls (a0 : Int) (a1 : Int) (a2 : Int) (r : Bool) (w : World) (h : class_between.f a0 a1 a2 = some r) :
    Calls Tryz.prog 39 #[.int .u8 a0, .int .u8 a1, .int .u8 a2] w fun e w' => e = .returned (.bool r) ∧ Drawn0 w w' := by
  obtain rfl := Option.some.inj h
  exact (between_same a0 a1 a2 w).mono fun e w' ⟨he, hw⟩ => ⟨he, hw ▸ Drawn0.refl w⟩
end Go.Proofs.YtoacojkmclngmaaGreatDoor.Pz
/- Small words for the hand-made contracts: a row of bytes that []byte(s) made, written in place; strings of bytes. -/
namespace Go.Proofs.YtoacojkmclngmaaGreatDoor
open Go.RowKit Go.Proofs.YtoacojkmclngmaaGreatDoorW.PrintWords Go.Proofs.YtoacojkmclngmaaGreatDoorW.PrintLast Go.Proofs.YtoacojkmclngmaaGreatDoorW.PrintMore
set_option linter.unusedVariables false
structure BRow (w : World) (g : Nat) (l : List UInt8) : Prop where mk ::
  (out : ∃ cur : Array Value, w.heap[g]? = some (.cells cur 5 (cur.size, cur.size + 1)) ∧ l.length ≤ cur.size ∧ ∀ j (h : j < l.length), cur[j]? = some (.int .u8 (l[j]).toNat))
theorem BRow.conv (w : World) (s : ByteArray) : BRow (Lib.bytesWorld w 5 s) w.heap.size s.data.toList := by
  refine ⟨_, Lib.bytesWorld_at_new w 5 s, ?_, fun j h => ?_⟩
  · simp [Lib.bytesCells]
  · rw [Array.length_toList] at h
    have h2 : j < s.data.size := h
    have h3 : j < s.size := h2
    simp [Lib.bytesCells, Array.getElem?_append, h3]
theorem BRow.cell {w : World} {g : Nat} {l : List UInt8} (h : BRow w g l) {j : Nat} (hj : j < l.length) : w.cell? ⟨g, j, none⟩ = some (.int .u8 (l[j]).toNat) := by
  obtain ⟨cur, hb, hl, hc⟩ := h.out
  simp [World.cell?, hb, hc j hj]
theorem BRow.free {w : World} {g : Nat} {l : List UInt8} (h : BRow w g l) {j : Nat} (hj : j < l.length) : w.frozen? ⟨g, j, none⟩ = false := by
  obtain ⟨cur, hb, hl, hc⟩ := h.out
  simp [World.frozen?, hb]; omega
theorem BRow.set {w : World} {g : Nat} {l : List UInt8} (h : BRow w g l) (j : Nat) (c : UInt8) : BRow (w.setCell ⟨g, j, none⟩ (.int .u8 c.toNat)) g (l.set j c) := by
  obtain ⟨cur, hb, hl, hc⟩ := h.out
  refine ⟨cur.setIfInBounds j (.int .u8 c.toNat), ?_, ?_, fun i hi => ?_⟩
  · simp [World.setCell, Array.getElem?_modify, hb]
  · simpa using hl
  · rw [List.length_set] at hi
    by_cases e : i = j
    · subst e
      have h1 : i < cur.size := by omega
      rw [Array.getElem?_setIfInBounds_self_of_lt h1]; simp
    · rw [Array.getElem?_setIfInBounds_ne (Ne.symm e), hc i hi]
      rw [List.getElem_set_ne (Ne.symm e)]
theorem BRow.drew {w : World} {g : Nat} {l : List UInt8} (h : BRow w g l) : BRow w.drew g l := ⟨h.out⟩
theorem BRow.below {w w1 : World} {g : Nat} {l : List UInt8} (h : BRow w g l) (hb : Below w.heap.size w w1) : BRow w1 g l := by
  obtain ⟨cur, hg, r⟩ := h.out
  have hlt : g < w.heap.size := (Array.getElem?_eq_some_iff.1 hg).1
  exact ⟨cur, (hb.block g hlt).trans hg, r⟩
def numsOf (l : List UInt8) : List Int := l.map fun b => (b.toNat : Int)
theorem BRow.reads {w : World} {g : Nat} {l : List UInt8} (h : BRow w g l) (hl : l.length ≤ 9223372036854775807) : (Kd.int .u8).C w (some ⟨g, 0, none⟩) l.length (numsOf l) := by
  refine ⟨by simp [numsOf], hl, fun _ => ⟨_, rfl, fun j p hj => ?_⟩⟩
  have hjl : j < l.length := by simpa [numsOf] using (List.getElem?_eq_some_iff.1 hj).1
  have hp : p = ((l[j]).toNat : Int) := by
    have := (List.getElem?_eq_some_iff.1 hj).2
    simpa [numsOf] using this.symm
  subst hp
  refine ⟨[.int .u8 ((l[j]).toNat : Int)], rfl, rfl, fun i u hu => ?_⟩
  match i, hu with
  | 0, hu =>
    simp only [List.getElem?_cons_zero, Option.some.injEq] at hu
    subst hu
    have := h.cell hjl
    rw [add_plain]
    simpa [show (Kd.int .u8).sz = 1 from rfl] using this
theorem strOfNums_numsOf (l : List UInt8) : strOfNums (numsOf l) = ⟨l.toArray⟩ := by
  unfold strOfNums numsOf
  congr 1
  congr 1
  rw [List.map_map]
  conv => rhs; rw [← List.map_id l]
  apply List.map_congr_left
  intro x _
  simp
end Go.Proofs.YtoacojkmclngmaaGreatDoor
namespace Go.Proofs.YtoacojkmclngmaaGreatDoor.Pz
open Go.RowKit Go.Proofs.YtoacojkmclngmaaGreatDoorW.PrintWords Go.Proofs.YtoacojkmclngmaaGreatDoorW.PrintLast Go.Proofs.YtoacojkmclngmaaGreatDoorW.PrintMore
attribute [local go_sem] max2_int min2_int max_two min_two max_three min_three max_four min_four   -- for this text's walks alone
attribute [local go_sem] rune_str
set_option linter.unusedVariables false
set_option linter.unusedSimpArgs false
theorem bits_or32 (c : UInt8) : bits BinOp.or IntKind.u8 (c.toNat : Int) 32 = ((c ||| 32).toNat : Int) := by
  have h : ∀ n : Fin 256, bits BinOp.or IntKind.u8 ((UInt8.ofNat n.val).toNat : Int) 32 = (((UInt8.ofNat n.val) ||| 32).toNat : Int) := by decide +kernel
  have := h ⟨c.toNat, c.toNat_lt⟩
  simpa using this
def low (c : UInt8) : UInt8 := if 65 ≤ c.toNat ∧ c.toNat ≤ 90 then c ||| 32 else c
def lowerB (a : ByteArray) : ByteArray := ⟨(a.data.toList.map low).toArray⟩
def class_Lower.f (a0 : ByteArray) : Option ByteArray := if a0.size ≤ 140737488355328 then some (lowerB a0) else none
def lowTo (l : List UInt8) (k : Nat) : List UInt8 := (l.take k).map low ++ l.drop k
theorem lowTo_length (l : List UInt8) (k : Nat) : (lowTo l k).length = l.length := by simp [lowTo]; omega
theorem lowTo_at (l : List UInt8) (k : Nat) (h : k < l.length) : (lowTo l k)[k]'(by rw [lowTo_length]; exact h) = l[k] := by
  simp [lowTo, List.getElem_append, Nat.min_eq_left (Nat.le_of_lt h)]
theorem lowTo_set (l : List UInt8) (k : Nat) (h : k < l.length) : (lowTo l k).set k (low l[k]) = lowTo l (k + 1) := by
  apply List.ext_getElem
  · simp [lowTo]; omega
  · intro i h1 h2
    simp only [List.length_set, lowTo_length] at h1
    simp only [lowTo, List.getElem_set, List.getElem_append, List.length_map, List.length_take, List.getElem_map, List.getElem_take, List.getElem_drop]
    by_cases e : k = i
    · subst e; simp; omega
    · by_cases h3 : i < k
      · simp [e, show i < min k l.length by omega, show i < min (k+1) l.length by omega]
      · have e1 : ¬ i < min k l.length := by omega
        have e2 : ¬ i < min (k+1) l.length := by omega
        simp only [e, if_false, dif_neg e1, dif_neg e2]
        congr 1
        omega
theorem lowTo_same (l : List UInt8) (k : Nat) (h : k < l.length) (hl : low l[k] = l[k]) : lowTo l (k + 1) = lowTo l k := by
  rw [← lowTo_set l k h, hl, ← lowTo_at l k h, List.set_getElem_self]
set_option maxHeartbeats 1000000 in
theorem class_Lower.calls (a0 : ByteArray) (r : ByteArray) (w : World) (h : class_Lower.f a0 = some r) :
    Calls Tryz.prog 132 #[.string a0] w fun e w' => e = .returned (.string r) ∧ Below w.heap.size w w' := by
  unfold class_Lower.f at h
  split at h
  case isFalse => cases h
  rename_i hsz
  obtain rfl := Option.some.inj h
  clear h
  have hconv := fun W => Lib.run_convert_string_bytes (P := Tryz.prog) W 9 58 5 a0 Tryz.underlying9 Tryz.underlying58 Tryz.underlying5
  go_enter Tryz.func132, Tryz.ntmps132
  go_wp2
  clear hconv
  have HL : Aside0 (a0.data.toList.length = a0.size) := ⟨by rw [Array.length_toList]; rfl⟩
  have HR := Aside0.mk (BRow.conv w a0)
  have HB := Aside0.mk (bytes_below (Below.refl w.heap.size w) (Nat.le_refl _) 5 a0)
  generalize Lib.bytesWorld w 5 a0 = w1 at HR HB ⊢
  generalize grownCap w a0.size 0 5 = cap
  go_loopw [10] (fun i wr => ∃ k : Nat, k ≤ a0.size ∧ i = .int .i64 k ∧ Aside0 (BRow wr w.heap.size (lowTo a0.data.toList k)) ∧ Aside0 (Below w.heap.size w wr)) (fun i _ => a0.size - (intOf i).toNat)
  case atStart => exact ⟨0, Nat.zero_le _, rfl, ⟨by simpa [lowTo] using HR.out⟩, HB⟩
  case round =>
    obtain ⟨k, hk, rfl, hr, hb⟩ := hrel
    by_cases hlt : k < a0.size
    · have hkl : k < a0.data.toList.length := by rw [HL.out]; exact hlt
      obtain ⟨c, hc⟩ : ∃ c, c = a0.data.toList[k] := ⟨_, rfl⟩
      have hcell : wr.cell? ⟨w.heap.size, k, none⟩ = some (.int .u8 c.toNat) := by
        rw [hr.out.cell (by rw [lowTo_length]; exact hkl), lowTo_at _ _ hkl, hc]
      have hfree : wr.frozen? ⟨w.heap.size, k, none⟩ = false := hr.out.free (by rw [lowTo_length]; exact hkl)
      have HC := Aside0.mk hc
      clear hc
      by_cases h1 : 65 ≤ c.toNat ∧ c.toNat ≤ 90
      · have hw : (decide ((65 : Int) ≤ (c.toNat : Int)) && decide ((c.toNat : Int) ≤ 90)) = true := by simp; omega
        go_wp2_with (go_at_call 39; refine (between_same _ _ _ _).mono ?_; rintro e w2 ⟨rfl, rfl⟩)
        go_roundw
        case rel =>
          refine ⟨k + 1, by omega, by go_num, ⟨?_⟩, ⟨hb.out.setCell (p := ⟨w.heap.size, k, none⟩) (Nat.le_refl _) _⟩⟩
          rw [bits_or32, show (c ||| 32) = low c by simp [low, h1], ← lowTo_set _ _ hkl, ← HC.out]
          exact hr.out.set k (low c)
        case measure => simp [intOf]; omega
      · have hw : (decide ((65 : Int) ≤ (c.toNat : Int)) && decide ((c.toNat : Int) ≤ 90)) = false := by simp; omega
        go_wp2_with (go_at_call 39; refine (between_same _ _ _ _).mono ?_; rintro e w2 ⟨rfl, rfl⟩)
        go_roundw
        case rel =>
          exact ⟨k + 1, by omega, by go_num, ⟨by rw [lowTo_same _ _ hkl (by rw [← HC.out]; simp [low]; omega)]; exact hr.out⟩, hb⟩
        case measure => simp [intOf]; omega
    · have hke : k = a0.size := by omega
      have hfull : lowTo a0.data.toList k = a0.data.toList.map low := by
        have : a0.data.toList.length ≤ k := by rw [HL.out]; omega
        simp [lowTo, List.take_of_length_le this, List.drop_eq_nil_of_le this]
      have hlen : (a0.data.toList.map low).length = a0.size := by rw [List.length_map, HL.out]
      have hrd := hr.out.reads (by rw [lowTo_length, HL.out]; omega)
      rw [hfull, hlen] at hrd
      have hcv := Kd.C_string (P := Tryz.prog) (c := cap) Tryz.underlying58 Tryz.underlying5 Tryz.underlying9 hrd
      rw [strOfNums_numsOf] at hcv
      clear hrd hfull hlen
      go_wp2
      go_ret
      exact ⟨rfl, hb.out⟩
end Go.Proofs.YtoacojkmclngmaaGreatDoor.Pz
namespace Go.Proofs.YtoacojkmclngmaaGreatDoor.Pz
open Go.RowKit Go.Proofs.YtoacojkmclngmaaGreatDoorW.PrintWords Go.Proofs.YtoacojkmclngmaaGreatDoorW.PrintLast Go.Proofs.YtoacojkmclngmaaGreatDoorW.PrintMore
attribute [local go_sem] max2_int min2_int max_two min_two max_three min_three max_four min_four   -- for this text's walks alone
attribute [local go_sem] rune_str
set_option linter.unusedVariables false
set_option linter.unusedSimpArgs false
def scan_begins.f (a0 : ByteArray) (a1 : ByteArray) : Option (Bool) := if (a0.size : Int) ≥ (a1.size : Int) then (if 0 ≤ (a1.size : Int) then (if (a1.size : Int) ≤ (a0.size : Int) then ((class_Lower.f (a0.extract 0 ((a1.size : Int) : Int).toNat)).bind fun t101 => (some (t101.toList == a1.toList))) else (none)) else (none)) else (some false)
set_option maxHeartbeats 8000000 in
set_option maxRecDepth 100000 in
theorem scan_begins.calls (a0 : ByteArray) (a1 : ByteArray) (r : Bool) (w : World) (h : scan_begins.f a0 a1 = some r) :
    Calls Tryz.prog 112 #[.string a0, .string a1] w fun e w' => e = .returned (.bool r) ∧ Below w.heap.size w w' := by
  have HB := Aside0.mk (Below.refl w.heap.size w)
  have H : (if (a0.size : Int) ≥ (a1.size : Int) then (if 0 ≤ (a1.size : Int) then (if (a1.size : Int) ≤ (a0.size : Int) then ((class_Lower.f (a0.extract 0 ((a1.size : Int) : Int).toNat)).bind fun t101 => (some (t101.toList == a1.toList))) else (none)) else (none)) else (some false)) = some r := h
  clear h
  by_cases c3 : (a0.size : Int) ≥ (a1.size : Int)
  · rw [if_pos c3] at H
    have c3b0 : decide ((a1.size : Int) ≤ (a0.size : Int)) = true := decide_eq_true c3
    have c3b1 : decide (a1.size ≤ a0.size) = true := decide_eq_true (Int.ofNat_le.mp c3)
    clear c3
    by_cases c4 : 0 ≤ (a1.size : Int)
    · rw [if_pos c4] at H
      have c4b0 := eq_true c4
      have c4b1 : decide (0 ≤ (a1.size : Int)) = true := decide_eq_true c4
      clear c4
      by_cases c5 : (a1.size : Int) ≤ (a0.size : Int)
      · rw [if_pos c5] at H
        have c5b0 := eq_true c5
        have c5b1 : decide ((a1.size : Int) ≤ (a0.size : Int)) = true := decide_eq_true c5
        clear c5
        replace H := Option.bind_eq_some_iff.mp H
        obtain ⟨t101, A60, H⟩ := H
        replace H : (some (t101.toList == a1.toList)) = some r := H
        have A6 := Aside0.mk A60
        clear A60
        obtain rfl := Option.some.inj H
        go_enter Tryz.func112, Tryz.ntmps112
        go_wp2_with (first | (go_at_call 132; refine calls_of_args (args' := #[.string (a0.extract 0 ((a1.size : Int) : Int).toNat)]) (by first | rfl | rfl) ?_; (with_reducible refine (class_Lower.calls (a0.extract 0 ((a1.size : Int) : Int).toNat) t101 _ A6.out).mono ?_); rintro e w7 ⟨rfl, hb⟩; have n0_ := Aside0.mk (below_step (by repeat (first | (with_reducible first | exact HB.out | apply below_alloc | apply pw_below_drewN | apply below_drew1) | exact HB.out)) hb); clear HB; have HB := n0_; clear n0_; (try clear hb); (try clear hb2); (try clear hk); (try clear hi)))
        go_ret
        exact ⟨by first | rfl | (simp [errW_none, errW_some] <;> rfl) | (simp [*, errW_none, errW_some] <;> rfl), by repeat (first | (with_reducible first | exact HB.out | apply below_alloc | apply pw_below_drewN | apply below_drew1) | exact HB.out)⟩
      · rw [if_neg c5] at H
        exact absurd H (by simp)
    · rw [if_neg c4] at H
      exact absurd H (by simp)
  · rw [if_neg c3] at H
    have c3b0 : decide ((a1.size : Int) ≤ (a0.size : Int)) = false := decide_eq_false c3
    have c3b1 : decide (a1.size ≤ a0.size) = false := decide_eq_false (fun h => c3 (Int.ofNat_le.mpr h))
    clear c3
    obtain rfl := Option.some.inj H
    go_enter Tryz.func112, Tryz.ntmps112
    go_wp2
    go_ret
    exact ⟨by first | rfl | (simp [errW_none, errW_some] <;> rfl) | (simp [*, errW_none, errW_some] <;> rfl), by repeat (first | (with_reducible first | exact HB.out | apply below_alloc | apply pw_below_drewN | apply below_drew1) | exact HB.out)⟩
end Go.Proofs.YtoacojkmclngmaaGreatDoor.Pz
namespace Go.Proofs.YtoacojkmclngmaaGreatDoor.Pz
open Go.RowKit Go.Proofs.YtoacojkmclngmaaGreatDoorW.PrintWords Go.Proofs.YtoacojkmclngmaaGreatDoorW.PrintLast Go.Proofs.YtoacojkmclngmaaGreatDoorW.PrintMore
attribute [local go_sem] max2_int min2_int max_two min_two max_three min_three max_four min_four   -- for this text's walks alone
attribute [local go_sem] rune_str
set_option linter.unusedVariables false
set_option linter.unusedSimpArgs false
def IsS52 (w0 W : World) (g : Nat) (f0 : ByteArray) (f1 : Bool) : Prop := W.heap[g]? = some (.cells #[.string f0, .bool f1] 52 (0, 0)) ∧ w0.heap.size ≤ g
theorem IsS52.grown {w0 W : World} {g : Nat} {f0 : ByteArray} {f1 : Bool} {W1 : World} {row : Option Nat} (h : IsS52 w0 W g f0 f1) (hw : W.grownBy W1 row) (hne : some g ≠ row) : IsS52 w0 W1 g f0 f1 := by
  obtain ⟨hb, hg⟩ := h
  exact ⟨blk_grown hb hw hne, hg⟩
theorem IsS52.own_neN {w0 W : World} {g : Nat} {f0 : ByteArray} {f1 : Bool} {α : Type} {d : Kd α} {e : Nat} {base : Nat} {ok : Nat → Prop} {v : Value} {xs : List α} (h : IsS52 w0 W g f0 f1) (ho : Kd.N d e W base ok v xs) (ht : e ≠ 52) : some g ≠ v.ownBlock := by
  obtain ⟨hb, hg⟩ := h
  exact Kd.N_ne ho hb ht
theorem IsS52.fresh {w0 W : World} {g : Nat} {f0 : ByteArray} {f1 : Bool} (h : IsS52 w0 W g f0 f1) : ∀ k, W.heap.size ≤ k → k ≠ g := by
  obtain ⟨hb, hg⟩ := h
  exact Kd.freshB hb
theorem IsS52.kept {w0 W : World} {g : Nat} {f0 : ByteArray} {f1 : Bool} {W1 : World} {S : Nat → Prop} (h : IsS52 w0 W g f0 f1) (hk : Kept W W1 S) (hne : ¬ S g) : IsS52 w0 W1 g f0 f1 := by
  obtain ⟨hb, hg⟩ := h
  exact ⟨blk_kept hb hk hne, hg⟩
theorem IsS52.below {w0 W : World} {g : Nat} {f0 : ByteArray} {f1 : Bool} {W1 : World} (h : IsS52 w0 W g f0 f1) (hw : Below W.heap.size W W1) : IsS52 w0 W1 g f0 f1 := h.grown (grown_of_below hw none) (by simp)
theorem IsS52.alloc {w0 W : World} {g : Nat} {f0 : ByteArray} {f1 : Bool} (h : IsS52 w0 W g f0 f1) (o : Obj) : IsS52 w0 (W.alloc o) g f0 f1 := h.below (below_alloc (Below.refl _ _) o)
theorem IsS52.drewN {w0 W : World} {g : Nat} {f0 : ByteArray} {f1 : Bool} (h : IsS52 w0 W g f0 f1) (m : Nat) : IsS52 w0 (W.drewN m) g f0 f1 := h
theorem IsS52.drew {w0 W : World} {g : Nat} {f0 : ByteArray} {f1 : Bool} (h : IsS52 w0 W g f0 f1) : IsS52 w0 W.drew g f0 f1 := h
theorem IsS52.at_ {w0 W : World} {g : Nat} {f0 : ByteArray} {f1 : Bool} {w' : World} {m : Nat} (hq : W.drewN m = w') (h : IsS52 w0 W g f0 f1) : IsS52 w0 w' g f0 f1 := by subst hq; exact IsS52.drewN h m
theorem IsS52.apart {w0 W : World} {g : Nat} {f0 : ByteArray} {f1 : Bool} {α : Type} {d : Kd α} {e : Nat} {base : Nat} {ok : Nat → Prop} {v : Value} {xs : List α} (h : IsS52 w0 W g f0 f1) (ho : d.R e W base ok v xs) (ht : ∀ q, q ∈ e :: d.E → q ≠ 52) : d.R e W base (fun k => ok k ∧ k ≠ g) v xs := by
  obtain ⟨hb, hg⟩ := h
  exact Kd.R_types ho hb ht
theorem IsS52.own_ne {w0 W : World} {g : Nat} {f0 : ByteArray} {f1 : Bool} {α : Type} {d : Kd α} {e : Nat} {base : Nat} {ok : Nat → Prop} {v : Value} {xs : List α} (h : IsS52 w0 W g f0 f1) (ho : d.R e W base ok v xs) (ht : e ≠ 52) : some g ≠ v.ownBlock := by
  obtain ⟨hb, hg⟩ := h
  exact Kd.R_ne ho hb ht
theorem IsS52.apartQ {w0 W : World} {g : Nat} {f0 : ByteArray} {f1 : Bool} {α : Type} {d : Kd α} {e : Nat} {base : Nat} {ok : Nat → Prop} {v : Value} {xs : List α} (h : IsS52 w0 W g f0 f1) (ho : d.Q e W base ok v xs) (ht : ∀ q, q ∈ e :: d.E → q ≠ 52) : d.Q e W base (fun k => ok k ∧ k ≠ g) v xs := by
  obtain ⟨hb, hg⟩ := h
  exact Kd.Q_types ho hb ht
theorem IsS52.own_neQ {w0 W : World} {g : Nat} {f0 : ByteArray} {f1 : Bool} {α : Type} {d : Kd α} {e : Nat} {base : Nat} {ok : Nat → Prop} {v : Value} {xs : List α} (h : IsS52 w0 W g f0 f1) (ho : d.Q e W base ok v xs) (ht : e ≠ 52) : some g ≠ v.ownBlock := by
  obtain ⟨hb, hg⟩ := h
  exact Kd.Q_ne ho hb ht
theorem IsS52.apartS {w0 W : World} {g : Nat} {f0 : ByteArray} {f1 : Bool} {α : Type} {d : Kd α} {e : Nat} {base : Nat} {ok : Nat → Prop} {v : Value} {xs : List α} (h : IsS52 w0 W g f0 f1) (ho : d.S e W base ok v xs) (ht : ∀ q, q ∈ e :: d.E → q ≠ 52) : d.S e W base (fun k => ok k ∧ k ≠ g) v xs := by
  obtain ⟨hb, hg⟩ := h
  exact Kd.S_types ho hb ht
theorem IsS52.own_neS {w0 W : World} {g : Nat} {f0 : ByteArray} {f1 : Bool} {α : Type} {d : Kd α} {e : Nat} {base : Nat} {ok : Nat → Prop} {v : Value} {xs : List α} (h : IsS52 w0 W g f0 f1) (ho : d.S e W base ok v xs) (ht : e ≠ 52) : some g ≠ v.ownBlock := by
  obtain ⟨hb, hg⟩ := h
  exact Kd.S_ne ho hb ht
theorem IsS52.lt {w0 W : World} {g : Nat} {f0 : ByteArray} {f1 : Bool} (h : IsS52 w0 W g f0 f1) : g < W.heap.size := by
  obtain ⟨hb, hg⟩ := h
  exact blk_lt hb
theorem IsS52.ge {w0 W : World} {g : Nat} {f0 : ByteArray} {f1 : Bool} (h : IsS52 w0 W g f0 f1) : w0.heap.size ≤ g := by
  obtain ⟨hb, hg⟩ := h
  exact hg
theorem IsS52.ne_blk {w0 W : World} {g : Nat} {f0 : ByteArray} {f1 : Bool} {a : Nat} {cs : Array Value} {t : TypeId} {fr : Nat × Nat} (h : IsS52 w0 W g f0 f1) (hb2 : W.heap[a]? = some (.cells cs t fr)) (ht : t ≠ 52) : g ≠ a := by
  obtain ⟨hb, hg⟩ := h
  rintro rfl
  rw [hb] at hb2
  injection hb2 with hb2
  injection hb2 with _ ht2
  exact ht ht2.symm
theorem IsS52.far {w0 W : World} {g : Nat} {f0 : ByteArray} {f1 : Bool} {p : Addr} (h : IsS52 w0 W g f0 f1) (hne : g ≠ p.block) (u : Value) : IsS52 w0 (W.setCell p u) g f0 f1 := by
  obtain ⟨hb, hg⟩ := h
  exact ⟨blk_far hb hne u, hg⟩
theorem cellS52_0 {W : World} {g : Nat} {f0 : ByteArray} {f1 : Bool} (h : W.heap[g]? = some (.cells #[.string f0, .bool f1] 52 (0, 0))) : W.cell? ⟨g, 0, none⟩ = some (.string f0) := (blk_cell h 0).trans rfl
theorem IsS52.set_0 {w0 W : World} {g : Nat} {f0 : ByteArray} {f1 : Bool} (h : IsS52 w0 W g f0 f1) (x : ByteArray) : IsS52 w0 (W.setCell ⟨g, 0, none⟩ (.string x)) g x f1 := by
  obtain ⟨hb, hg⟩ := h
  exact ⟨by simpa using blk_set hb 0 (.string x), hg⟩
theorem cellS52_1 {W : World} {g : Nat} {f0 : ByteArray} {f1 : Bool} (h : W.heap[g]? = some (.cells #[.string f0, .bool f1] 52 (0, 0))) : W.cell? ⟨g, 1, none⟩ = some (.bool f1) := (blk_cell h 1).trans rfl
theorem IsS52.set_1 {w0 W : World} {g : Nat} {f0 : ByteArray} {f1 : Bool} (h : IsS52 w0 W g f0 f1) (x : Bool) : IsS52 w0 (W.setCell ⟨g, 1, none⟩ (.bool x)) g f0 x := by
  obtain ⟨hb, hg⟩ := h
  exact ⟨by simpa using blk_set hb 1 (.bool x), hg⟩
theorem IsS52.new (w0 W : World) (f0 : ByteArray) (f1 : Bool) (hB : Below w0.heap.size w0 W) : IsS52 w0 (W.alloc (.cells #[.string f0, .bool f1] 52)) W.heap.size f0 f1 := ⟨by simpa using heap_alloc_new W _, hB.size⟩
end Go.Proofs.YtoacojkmclngmaaGreatDoor.Pz
namespace Go.Proofs.YtoacojkmclngmaaGreatDoor.Pz
open Go.RowKit Go.Proofs.YtoacojkmclngmaaGreatDoorW.PrintWords Go.Proofs.YtoacojkmclngmaaGreatDoorW.PrintLast Go.Proofs.YtoacojkmclngmaaGreatDoorW.PrintMore
attribute [local go_sem] max2_int min2_int max_two min_two max_three min_three max_four min_four   -- for this text's walks alone
attribute [local go_sem] rune_str
set_option linter.unusedVariables false
set_option linter.unusedSimpArgs false
def scan_reader_skip.f (s0_0 : ByteArray) (s0_1 : Bool) (a1 : Int) : Option (ByteArray × ByteArray × Bool) :=
  if 0 ≤ a1 then some (s0_0.extract 0 (min a1.toNat s0_0.size), s0_0.extract (min a1.toNat s0_0.size) s0_0.size, s0_1) else none
set_option maxHeartbeats 1000000 in
set_option maxRecDepth 100000 in
theorem scan_reader_skip.calls (g : Nat) (s0_0 : ByteArray) (s0_1 : Bool) (a1 : Int) (r1 : ByteArray) (r2 : ByteArray) (r3 : Bool) (w0 w : World) (hI : IsS52 w0 w g s0_0 s0_1) (hB : Below w0.heap.size w0 w) (h : scan_reader_skip.f s0_0 s0_1 a1 = some (r1, r2, r3)) :
    Calls Tryz.prog 79 #[.pointer (some ⟨g, 0, none⟩), .int .i64 a1] w fun e w' => e = .returned (.string r1) ∧ IsS52 w0 w' g r2 r3 ∧ Below w0.heap.size w0 w' ∧ KeepBut w w' g none := by
  unfold scan_reader_skip.f at h
  split at h
  case isFalse => cases h
  rename_i h0
  simp only [Option.some.injEq, Prod.mk.injEq] at h
  obtain ⟨rfl, rfl, rfl⟩ := h
  obtain ⟨n, rfl⟩ : ∃ n : Nat, a1 = n := ⟨a1.toNat, by omega⟩
  have HI0 := Aside0.mk hI
  have HK := Aside0.mk (KeepBut.refl w g none)
  have HB := Aside0.mk hB
  obtain ⟨HGz8, hgz8⟩ := hI
  have hcz8_0 := cellS52_0 HGz8
  have hcz8_1 := cellS52_1 HGz8
  have hfz8_0 := blk_frozen HGz8 0
  have hfz8_1 := blk_frozen HGz8 1
  clear HGz8 hgz8 hB
  by_cases hlt : n ≤ s0_0.size
  · have e1 : min (n : Int).toNat s0_0.size = n := by simp; omega
    rw [e1]
    have hm : ¬ (s0_0.size : Int) < (n : Int) := by omega
    have hsz : (s0_0.extract 0 n).size = n := by rw [ByteArray.size_extract]; omega
    clear e1
    go_enter Tryz.func79, Tryz.ntmps79
    go_wp2
    repeat (go_quiet (fail); try go_wp2)
    go_ret
    exact ⟨rfl, by repeat (first | (with_reducible first | exact HI0.out | apply IsS52.drewN | apply IsS52.drew | apply IsS52.set_0) | exact HI0.out), by repeat (first | (with_reducible first | exact HB.out | apply pw_below_drewN | refine below_set ?_ (IsS52.ge HI0.out)) | exact HB.out), by repeat (first | (with_reducible first | exact HK.out | apply KeepBut.set_ | apply keep_drewN) | exact HK.out)⟩
  · have e1 : min (n : Int).toNat s0_0.size = s0_0.size := by simp; omega
    have hE : s0_0.extract s0_0.size s0_0.size = ByteArray.empty := by simp
    rw [e1, hE]
    have hm : (s0_0.size : Int) < (n : Int) := by omega
    have hsz : (s0_0.extract 0 s0_0.size).size = s0_0.size := by rw [ByteArray.size_extract]; omega
    clear e1
    go_enter Tryz.func79, Tryz.ntmps79
    go_wp2
    repeat (go_quiet (fail); try go_wp2)
    go_ret
    exact ⟨by simp, by repeat (first | (with_reducible first | exact HI0.out | apply IsS52.drewN | apply IsS52.drew | apply IsS52.set_0) | exact HI0.out), by repeat (first | (with_reducible first | exact HB.out | apply pw_below_drewN | refine below_set ?_ (IsS52.ge HI0.out)) | exact HB.out), by repeat (first | (with_reducible first | exact HK.out | apply KeepBut.set_ | apply keep_drewN) | exact HK.out)⟩
end Go.Proofs.YtoacojkmclngmaaGreatDoor.Pz
namespace Go.Proofs.YtoacojkmclngmaaGreatDoor.Pz
open Go.RowKit Go.Proofs.YtoacojkmclngmaaGreatDoorW.PrintWords Go.Proofs.YtoacojkmclngmaaGreatDoorW.PrintLast Go.Proofs.YtoacojkmclngmaaGreatDoorW.PrintMore
attribute [local go_sem] max2_int min2_int max_two min_two max_three min_three max_four min_four   -- for this text's walks alone
attribute [local go_sem] rune_str
set_option linter.unusedVariables false
set_option linter.unusedSimpArgs false
def anyIdx (l cs : List UInt8) : Int := match l.findIdx? (fun c => cs.contains c) with
  | some i => i
  | none => -1
def scan_anyAt.f (a0 a1 : ByteArray) : Option Int := if a0.size ≤ 140737488355328 ∧ a1.size ≤ 140737488355328 ∧ a1.data.toList.all (fun b => decide (b.toNat < 128)) = true then some (anyIdx a0.data.toList a1.data.toList) else none
theorem get_at (s : ByteArray) (i : Nat) (h : i < s.size) : s.get! i = s[i]'h := by
  show s.data[i]! = s.data[i]
  exact getElem!_pos s.data i h
theorem decode_conts (s : ByteArray) (pos : Nat) (h : pos < s.size) : pos + (Utf8.decode s pos).2 ≤ s.size ∧ ∀ i, 1 ≤ i → i < (Utf8.decode s pos).2 → ∀ hi : pos + i < s.size, 128 ≤ (s[pos + i]'hi).toNat := by
  have key : ∀ k, (decide (pos + k < s.size) && (s.get! (pos + k)).toNat / 64 == 2) = true → pos + k < s.size ∧ ∀ hi : pos + k < s.size, 128 ≤ (s[pos + k]'hi).toNat := by
    intro k hk
    simp only [Bool.and_eq_true, decide_eq_true_eq, beq_iff_eq] at hk
    refine ⟨hk.1, fun hi => ?_⟩
    have := hk.2
    rw [get_at s _ hi] at this
    omega
  unfold Utf8.decode
  simp only
  split
  · exact ⟨by omega, fun i h1 h2 => by omega⟩
  · split
    · rename_i hc
      simp only [Bool.and_eq_true] at hc
      have k1 := key 1 (by simpa using hc.2)
      split
      · refine ⟨by omega, fun i h1 h2 hi => ?_⟩
        obtain rfl : i = 1 := by omega
        exact k1.2 hi
      · exact ⟨by omega, fun i h1 h2 => by omega⟩
    · split
      · rename_i hc
        simp only [Bool.and_eq_true] at hc
        have k1 := key 1 (by simpa using hc.1.2)
        have k2 := key 2 (by simpa using hc.2)
        split
        · refine ⟨by omega, fun i h1 h2 hi => ?_⟩
          rcases (show i = 1 ∨ i = 2 by omega) with rfl | rfl
          · exact k1.2 hi
          · exact k2.2 hi
        · exact ⟨by omega, fun i h1 h2 => by omega⟩
      · split
        · rename_i hc
          simp only [Bool.and_eq_true] at hc
          have k1 := key 1 (by simpa using hc.1.1.2)
          have k2 := key 2 (by simpa using hc.1.2)
          have k3 := key 3 (by simpa using hc.2)
          split
          · refine ⟨by omega, fun i h1 h2 hi => ?_⟩
            rcases (show i = 1 ∨ i = 2 ∨ i = 3 by omega) with rfl | rfl | rfl
            · exact k1.2 hi
            · exact k2.2 hi
            · exact k3.2 hi
          · exact ⟨by omega, fun i h1 h2 => by omega⟩
        · exact ⟨by omega, fun i h1 h2 => by omega⟩
theorem anyIdx_hit (l cs : List UInt8) (p : Nat) (h : p < l.length) (hn : ∀ i (hi : i < p), cs.contains (l[i]'(by omega)) = false) (hc : cs.contains l[p] = true) : anyIdx l cs = p := by
  have : l.findIdx? (fun c => cs.contains c) = some p := by
    rw [List.findIdx?_eq_some_iff_getElem]
    exact ⟨h, hc, fun j hj => by simp only [hn j hj]; decide⟩
  rw [anyIdx, this]
theorem anyIdx_miss (l cs : List UInt8) (hn : ∀ i (hi : i < l.length), cs.contains l[i] = false) : anyIdx l cs = -1 := by
  have : l.findIdx? (fun c => cs.contains c) = none := by
    rw [List.findIdx?_eq_none_iff]
    intro x hx
    obtain ⟨i, hi, rfl⟩ := List.getElem_of_mem hx
    exact hn i hi
  rw [anyIdx, this]
theorem iterAt_below {B : Nat} {w wr : World} (h : Below B w wr) (k : Nat) (hk : B ≤ k) (s : ByteArray) (p : Nat) : Below B w (wr.iterAt k s p) :=
  h.trans ⟨rfl, rfl, rfl, by rw [Lib.iterAt_size]; exact Nat.le_refl _, fun i hi => Lib.iterAt_other _ _ _ _ _ (by omega)⟩
theorem iter_alloc (w : World) (s : ByteArray) : w.iter s 0 = w.alloc (.stringIter s 0) := rfl
set_option maxHeartbeats 4000000 in
set_option maxRecDepth 100000 in
theorem scan_anyAt.calls (a0 : ByteArray) (a1 : ByteArray) (r : Int) (w : World) (h : scan_anyAt.f a0 a1 = some r) :
    Calls Tryz.prog 159 #[.string a0, .string a1] w fun e w' => e = .returned (.int .i64 r) ∧ Below w.heap.size w w' := by
  unfold scan_anyAt.f at h
  split at h
  case isFalse => cases h
  rename_i hs
  obtain ⟨hs0, hs1, hasc⟩ := hs
  obtain rfl := Option.some.inj h
  have HL0 : Aside0 (a0.data.toList.length = a0.size) := ⟨by rw [Array.length_toList]; rfl⟩
  have HL1 : Aside0 (a1.data.toList.length = a1.size) := ⟨by rw [Array.length_toList]; rfl⟩
  have HA : Aside0 (∀ (j : Nat) (hj : j < a1.size), (a1[j]'hj).toNat < 128) := ⟨fun j hj => by
    have h2 : j < a1.data.toList.length := by rw [HL1.out]; exact hj
    have := List.all_eq_true.1 hasc (a1.data.toList[j]) (List.getElem_mem h2)
    have h3 : (a1.data.toList[j]).toNat < 128 := by simpa using this
    exact h3⟩
  clear h hasc
  obtain ⟨res, hres⟩ : ∃ res, res = anyIdx a0.data.toList a1.data.toList := ⟨_, rfl⟩
  rw [← hres]
  have HRES := Aside0.mk hres
  clear hres
  go_enter Tryz.func159, Tryz.ntmps159
  go_wp2
  rw [iter_alloc]
  have hg : (w.alloc (.stringIter a0 0)).heap[w.heap.size]? = some (.stringIter a0 0) := by
    show (w.heap.push _)[w.heap.size]? = _
    simp
  have hB := (Below.refl w.heap.size w).alloc (Nat.le_refl _) (.stringIter a0 0)
  generalize w.alloc (.stringIter a0 0) = w1 at hg hB ⊢
  have HB0 := Aside0.mk hB
  have hg0 := Aside0.mk hg
  clear hB hg
  go_loopw [5] (fun _ wr => ∃ pos : Nat, pos ≤ a0.size ∧ wr.heap[w.heap.size]? = some (.stringIter a0 pos) ∧ Aside0 (∀ i (hi : i < pos) (hi2 : i < a0.data.toList.length), a1.data.toList.contains (a0.data.toList[i]'hi2) = false) ∧ Aside0 (Below w.heap.size w wr)) (fun _ wr => a0.size - wr.iterPos w.heap.size)
  case atStart => exact ⟨0, Nat.zero_le _, hg0.out, ⟨fun i hi => by omega⟩, HB0⟩
  case round =>
    obtain ⟨pos, hpos, hk, hno, hb⟩ := hrel
    by_cases hlt : pos < a0.size
    · have hn := Lib.run_next_any_at (P := Tryz.prog) wr w.heap.size a0 pos 0 hk hlt
      have hdec := decode_conts a0 pos hlt
      have hw1 := Lib.decode_width_pos a0 pos hlt
      have hrle := decode_le a0 pos
      have hlo : (a0[pos]'hlt).toNat < 128 → Utf8.decode a0 pos = ((a0[pos]'hlt).toNat, 1) := decode_ascii a0 pos hlt
      have hhi : 128 ≤ (a0[pos]'hlt).toNat → 128 ≤ (Utf8.decode a0 pos).1 := fun h => (decode_high a0 pos hlt h).1
      obtain ⟨⟨r, wd⟩, hrw⟩ : ∃ p, p = Utf8.decode a0 pos := ⟨_, rfl⟩
      rw [← hrw] at hn hdec hw1 hrle hlo hhi
      simp only at hn hdec hw1 hrle hhi
      have hk2 := Lib.iterAt_heap wr w.heap.size a0 pos (pos + wd) hk
      have hb2 := iterAt_below hb.out w.heap.size (Nat.le_refl _) a0 (pos + wd)
      have HD := Aside0.mk hdec
      have HLO := Aside0.mk hlo
      have HHI := Aside0.mk hhi
      have HPOS : Aside0 (wr.iterPos w.heap.size = pos) := ⟨by simp [World.iterPos, hk]⟩
      clear hdec hlo hhi hrw hk
      go_wp2_with (fail)
      rw [iter_alloc]
      clear hn
      have hkn : ((wr.iterAt w.heap.size a0 (pos + wd)).alloc (.stringIter a1 0)).heap[(wr.iterAt w.heap.size a0 (pos + wd)).heap.size]? = some (.stringIter a1 0) := by
        show ((wr.iterAt w.heap.size a0 (pos + wd)).heap.push _)[(wr.iterAt w.heap.size a0 (pos + wd)).heap.size]? = _
        simp
      have hlt2 : w.heap.size < (wr.iterAt w.heap.size a0 (pos + wd)).heap.size := (Array.getElem?_eq_some_iff.1 hk2).1
      have hk3 : ((wr.iterAt w.heap.size a0 (pos + wd)).alloc (.stringIter a1 0)).heap[w.heap.size]? = some (.stringIter a0 (pos + wd)) := (Below.heap_alloc _ _ _ hlt2).trans hk2
      have HB2 := Aside0.mk (hb2.alloc (Nat.le_of_lt hlt2) (.stringIter a1 0))
      clear hk2 hb2
      generalize (wr.iterAt w.heap.size a0 (pos + wd)).heap.size = g2 at hkn hlt2 ⊢
      generalize (wr.iterAt w.heap.size a0 (pos + wd)).alloc (.stringIter a1 0) = w2 at hkn hk3 HB2 ⊢
      have HKN := Aside0.mk hkn
      have HK3 := Aside0.mk hk3
      clear hkn hk3
      obtain ⟨wo, hwo⟩ : ∃ wo : World, wo = wr := ⟨_, rfl⟩
      subst hwo
      go_loopw [8] (fun _ wr => ∃ j : Nat, j ≤ a1.size ∧ wr.heap[g2]? = some (.stringIter a1 j) ∧ Aside0 (wr.heap[w.heap.size]? = some (.stringIter a0 (pos + wd))) ∧ Aside0 (∀ i (hi : i < j) (hi2 : i < a1.size), ((a1[i]'hi2).toNat : Int) ≠ (r : Int)) ∧ Aside0 (Below w.heap.size w wr)) (fun _ wr => a1.size - wr.iterPos g2)
      case atStart => exact ⟨0, Nat.zero_le _, HKN.out, HK3, ⟨fun i hi => by omega⟩, HB2⟩
      case round =>
        obtain ⟨j, hj, hkj, hkw, hnj, hbi⟩ := hrel
        by_cases hltj : j < a1.size
        · have hn := Lib.run_next_ascii_at (P := Tryz.prog) wr g2 a1 j 0 hkj hltj (HA.out j hltj)
          have HKJ := Aside0.mk (Lib.iterAt_heap wr g2 a1 j (j + 1) hkj)
          have HKW := Aside0.mk ((Lib.iterAt_other wr g2 w.heap.size a1 (j + 1) (by omega)).trans hkw.out)
          have HBI := Aside0.mk (iterAt_below hbi.out g2 (Nat.le_of_lt hlt2) a1 (j + 1))
          have HPJ2 : Aside0 (wr.iterPos g2 = j) := ⟨by simp [World.iterPos, hkj]⟩
          clear hkj
          by_cases heq : (r : Int) = ((a1[j]'hltj).toNat : Int)
          · have hr128 : r < 128 := by have := HA.out j hltj; omega
            have hlow : (a0[pos]'hlt).toNat < 128 := by
              rcases Nat.lt_or_ge (a0[pos]'hlt).toNat 128 with h | h
              · exact h
              · have := HHI.out h; omega
            have hreq : r = (a0[pos]'hlt).toNat := congrArg Prod.fst (HLO.out hlow)
            have hbyte : a0[pos]'hlt = a1[j]'hltj := by
              apply UInt8.toNat_inj.1
              omega
            have hfound : res = pos := by
              rw [HRES.out]
              have hp2 : pos < a0.data.toList.length := by rw [HL0.out]; exact hlt
              refine anyIdx_hit _ _ pos hp2 (fun i hi => hno.out i hi (by omega)) ?_
              have hj2 : j < a1.data.toList.length := by rw [HL1.out]; exact hltj
              have e1 : a0.data.toList[pos] = a1.data.toList[j] := hbyte
              rw [e1]
              simp
            have HF := Aside0.mk hfound
            have heq' : ((r : Int) == ((a1[j]'hltj).toNat : Int)) = true := by simpa using heq
            clear hfound hbyte hreq heq hlow hr128
            go_wp2
            go_ret
            exact ⟨by rw [HF.out]; rfl, HBI.out⟩
          · have heq' : ((r : Int) == ((a1[j]'hltj).toNat : Int)) = false := by simpa using heq
            have HNE := Aside0.mk heq
            clear heq
            go_wp2
            go_roundw
            case rel => exact ⟨j + 1, by omega, HKJ.out, HKW, ⟨fun i hi hi2 => by
              rcases Nat.lt_or_ge i j with h | h
              · exact hnj.out i h hi2
              · obtain rfl : i = j := by omega
                exact fun e => HNE.out e.symm⟩, HBI⟩
            case measure =>
              rw [HPJ2.out]
              have : (wr.iterAt g2 a1 (j + 1)).iterPos g2 = j + 1 := by simp [World.iterPos, HKJ.out]
              rw [this]
              omega
        · have hn := Lib.run_next_end_at (P := Tryz.prog) wr g2 a1 j 0 hkj hltj
          have HKJ := Aside0.mk hkj
          clear hkj
          go_wp2
          go_roundw
          case rel =>
            refine ⟨pos + wd, HD.out.1, hkw.out, ⟨fun i hi hi2 => ?_⟩, hbi⟩
            have hnone : ∀ b : UInt8, (∀ q (hq : q < a1.size), a1[q]'hq ≠ b) → a1.data.toList.contains b = false := by
              intro b hb2
              rw [← Bool.not_eq_true, List.contains_iff_mem]
              intro hm
              obtain ⟨q, hq, e⟩ := List.getElem_of_mem hm
              rw [HL1.out] at hq
              exact hb2 q hq e
            rcases Nat.lt_or_ge i pos with h | h
            · exact hno.out i h hi2
            · rw [HL0.out] at hi2
              refine hnone _ (fun q hq e => ?_)
              have e1 : a1[q]'hq = a0[i]'hi2 := e
              have hq128 := HA.out q hq
              rcases Nat.eq_or_lt_of_le h with h2 | h2
              · subst h2
                rw [e1] at hq128
                have hr := congrArg Prod.fst (HLO.out hq128)
                exact hnj.out q (by omega) hq (by rw [e1]; simp only at hr; omega)
              · have := HD.out.2 (i - pos) (by omega) (by omega) (by omega)
                simp only [show pos + (i - pos) = i by omega] at this
                rw [e1] at hq128
                omega
          case measure =>
            rw [HPOS.out]
            have : wr.iterPos w.heap.size = pos + wd := by simp [World.iterPos, hkw.out]
            rw [this]
            omega
    · have hn := Lib.run_next_end_at (P := Tryz.prog) wr w.heap.size a0 pos 0 hk hlt
      have hmiss : res = -1 := by
        rw [HRES.out]
        exact anyIdx_miss _ _ (fun i hi => hno.out i (by rw [HL0.out] at hi; omega) hi)
      have HM := Aside0.mk hmiss
      clear hmiss hk
      go_wp2
      go_ret
      exact ⟨by rw [HM.out]; rfl, hb.out⟩
end Go.Proofs.YtoacojkmclngmaaGreatDoor.Pz
namespace Go.Proofs.YtoacojkmclngmaaGreatDoor.Pz
open Go.RowKit Go.Proofs.YtoacojkmclngmaaGreatDoorW.PrintWords Go.Proofs.YtoacojkmclngmaaGreatDoorW.PrintLast Go.Proofs.YtoacojkmclngmaaGreatDoorW.PrintMore
attribute [local go_sem] max2_int min2_int max_two min_two max_three min_three max_four min_four   -- for this text's walks alone
attribute [local go_sem] rune_str
set_option linter.unusedVariables false
set_option linter.unusedSimpArgs false
def scan_reader_until.f (s0_0 : ByteArray) (s0_1 : Bool) (a1 : ByteArray) : Option (ByteArray × ByteArray × Bool) := (scan_anyAt.f s0_0 a1).bind fun t129 => (if t129 < 0 then (if 0 ≤ (s0_0.size : Int) then (if (s0_0.size : Int) ≤ (s0_0.size : Int) then (some (s0_0.extract 0 ((s0_0.size : Int) : Int).toNat, s0_0.extract ((s0_0.size : Int) : Int).toNat s0_0.size, true)) else (none)) else (none)) else (if 0 ≤ t129 then (if t129 ≤ (s0_0.size : Int) then (some (s0_0.extract 0 (t129 : Int).toNat, s0_0.extract (t129 : Int).toNat s0_0.size, s0_1)) else (none)) else (none)))
set_option maxHeartbeats 8000000 in
set_option maxRecDepth 100000 in
theorem scan_reader_until.calls (g : Nat) (s0_0 : ByteArray) (s0_1 : Bool) (a1 : ByteArray) (r1 : ByteArray) (r2 : ByteArray) (r3 : Bool) (w0 w : World) (hI : IsS52 w0 w g s0_0 s0_1) (hB : Below w0.heap.size w0 w) (h : scan_reader_until.f s0_0 s0_1 a1 = some (r1, r2, r3)) :
    Calls Tryz.prog 136 #[.pointer (some ⟨g, 0, none⟩), .string a1] w fun e w' => e = .returned (.string r1) ∧ IsS52 w0 w' g r2 r3 ∧ Below w0.heap.size w0 w' ∧ KeepBut w w' g none := by
  have HI0 := Aside0.mk hI
  have HK := Aside0.mk (KeepBut.refl w g none)
  have HL := Aside0.mk hB.size
  clear hI
  have HW0 := Aside0.mk hB.size
  have HB := Aside0.mk hB
  clear hB
  have H : ((scan_anyAt.f s0_0 a1).bind fun t129 => (if t129 < 0 then (if 0 ≤ (s0_0.size : Int) then (if (s0_0.size : Int) ≤ (s0_0.size : Int) then (some (s0_0.extract 0 ((s0_0.size : Int) : Int).toNat, s0_0.extract ((s0_0.size : Int) : Int).toNat s0_0.size, true)) else (none)) else (none)) else (if 0 ≤ t129 then (if t129 ≤ (s0_0.size : Int) then (some (s0_0.extract 0 (t129 : Int).toNat, s0_0.extract (t129 : Int).toNat s0_0.size, s0_1)) else (none)) else (none)))) = some (r1, r2, r3) := h
  clear h
  replace H := Option.bind_eq_some_iff.mp H
  obtain ⟨t129, A30, H⟩ := H
  replace H : (if t129 < 0 then (if 0 ≤ (s0_0.size : Int) then (if (s0_0.size : Int) ≤ (s0_0.size : Int) then (some (s0_0.extract 0 ((s0_0.size : Int) : Int).toNat, s0_0.extract ((s0_0.size : Int) : Int).toNat s0_0.size, true)) else (none)) else (none)) else (if 0 ≤ t129 then (if t129 ≤ (s0_0.size : Int) then (some (s0_0.extract 0 (t129 : Int).toNat, s0_0.extract (t129 : Int).toNat s0_0.size, s0_1)) else (none)) else (none))) = some (r1, r2, r3) := H
  have A3 := Aside0.mk A30
  clear A30
  by_cases c4 : t129 < 0
  · rw [if_pos c4] at H
    have c4b0 : decide (t129 < 0) = true := decide_eq_true c4
    clear c4
    by_cases c5 : 0 ≤ (s0_0.size : Int)
    · rw [if_pos c5] at H
      have c5b0 := eq_true c5
      have c5b1 : decide (0 ≤ (s0_0.size : Int)) = true := decide_eq_true c5
      clear c5
      by_cases c6 : (s0_0.size : Int) ≤ (s0_0.size : Int)
      · rw [if_pos c6] at H
        have c6b0 := eq_true c6
        have c6b1 : decide ((s0_0.size : Int) ≤ (s0_0.size : Int)) = true := decide_eq_true c6
        clear c6
        have c7b0 := eq_true (of_decide_eq_true (by first | (with_reducible assumption) | assumption) : 0 ≤ (s0_0.size : Int))
        have c8b0 := eq_true (of_decide_eq_true (by first | (with_reducible assumption) | assumption) : (s0_0.size : Int) ≤ (s0_0.size : Int))
        simp only [Option.some.injEq, Prod.mk.injEq] at H
        obtain ⟨rfl, rfl, rfl⟩ := H
        obtain ⟨HGz9, hgz9⟩ := HI0.out
        have hcz9_0 := cellS52_0 HGz9
        have hcz9_1 := cellS52_1 HGz9
        have hfz9_0 := blk_frozen HGz9 0
        have hfz9_1 := blk_frozen HGz9 1
        clear HGz9 hgz9
        go_enter Tryz.func136, Tryz.ntmps136
        go_wp2_with (first | ((with_reducible refine gate_callee (f := 159) rfl ?_); refine goesL_ (some 12) rfl rfl Tryz.func159 (by kernel_rfl) rfl #[.string s0_0, .string a1] rfl (by (try simp only [List.map_toArray, List.map_cons, List.map_nil]); first | done | rfl | (simp only [List.length_drop, List.length_take]; rfl)) ?_; (with_reducible refine (scan_anyAt.calls s0_0 a1 t129 _ A3.out).mono ?_); rintro e w10 ⟨rfl, hb⟩; refine ⟨_, rfl, ?_⟩; have n0_ := Aside0.mk (IsS52.below (by repeat (first | (with_reducible first | exact HI0.out | apply IsS52.alloc | apply IsS52.drewN | apply IsS52.drew | apply IsS52.set_0 | apply IsS52.set_1) | exact HI0.out)) hb); have n1_ := Aside0.mk (KeepBut.trans (by repeat (first | (with_reducible first | exact HK.out | apply KeepBut.set_ | apply keep_drewN | apply keep_drew | apply keep_alloc) | exact HK.out)) (KeepBut.of_below hb g none) (.inl rfl)); have n2_ := Aside0.mk (below_step (by repeat (first | (with_reducible first | exact HB.out | apply below_alloc | apply pw_below_drewN | apply below_drew1 | refine below_set ?_ (IsS52.ge HI0.out)) | exact HB.out)) hb); clear HI0; clear HK; clear HB; have HI0 := n0_; have HK := n1_; have HB := n2_; clear n0_ n1_ n2_; (try clear hb); (try clear hb2); (try clear hk); (try clear hi); obtain ⟨HGz11, hgz11⟩ := HI0.out; have hcz11_0 := cellS52_0 HGz11; have hcz11_1 := cellS52_1 HGz11; have hfz11_0 := blk_frozen HGz11 0; have hfz11_1 := blk_frozen HGz11 1; clear HGz11 hgz11))
        go_ret
        (try simp only [ext_self])
        exact ⟨by first | rfl | (simp [errW_none, errW_some] <;> rfl) | (simp [*, errW_none, errW_some] <;> rfl), by repeat (first | (with_reducible first | exact HI0.out | apply IsS52.alloc | apply IsS52.drewN | apply IsS52.drew | apply IsS52.set_0 | apply IsS52.set_1) | exact HI0.out), by repeat (first | (with_reducible first | exact HB.out | apply below_alloc | apply pw_below_drewN | apply below_drew1 | refine below_set ?_ (IsS52.ge HI0.out)) | exact HB.out), by repeat (first | (with_reducible first | exact HK.out | apply KeepBut.set_ | apply keep_drewN | apply keep_drew | apply keep_alloc) | exact HK.out)⟩
      · rw [if_neg c6] at H
        exact absurd H (by simp)
    · rw [if_neg c5] at H
      exact absurd H (by simp)
  · rw [if_neg c4] at H
    have c4b0 : decide (t129 < 0) = false := decide_eq_false c4
    clear c4
    by_cases c12 : 0 ≤ t129
    · rw [if_pos c12] at H
      have c12b0 := eq_true c12
      have c12b1 : decide (0 ≤ t129) = true := decide_eq_true c12
      clear c12
      by_cases c13 : t129 ≤ (s0_0.size : Int)
      · rw [if_pos c13] at H
        have c13b0 := eq_true c13
        have c13b1 : decide (t129 ≤ (s0_0.size : Int)) = true := decide_eq_true c13
        clear c13
        have c14b0 := eq_true (of_decide_eq_true (by first | (with_reducible assumption) | assumption) : 0 ≤ t129)
        have c15b0 := eq_true (of_decide_eq_true (by first | (with_reducible assumption) | assumption) : t129 ≤ (s0_0.size : Int))
        simp only [Option.some.injEq, Prod.mk.injEq] at H
        obtain ⟨rfl, rfl, rfl⟩ := H
        obtain ⟨HGz16, hgz16⟩ := HI0.out
        have hcz16_0 := cellS52_0 HGz16
        have hcz16_1 := cellS52_1 HGz16
        have hfz16_0 := blk_frozen HGz16 0
        have hfz16_1 := blk_frozen HGz16 1
        clear HGz16 hgz16
        go_enter Tryz.func136, Tryz.ntmps136
        go_wp2_with (first | ((with_reducible refine gate_callee (f := 159) rfl ?_); refine goesL_ (some 12) rfl rfl Tryz.func159 (by kernel_rfl) rfl #[.string s0_0, .string a1] rfl (by (try simp only [List.map_toArray, List.map_cons, List.map_nil]); first | done | rfl | (simp only [List.length_drop, List.length_take]; rfl)) ?_; (with_reducible refine (scan_anyAt.calls s0_0 a1 t129 _ A3.out).mono ?_); rintro e w17 ⟨rfl, hb⟩; refine ⟨_, rfl, ?_⟩; have n0_ := Aside0.mk (IsS52.below (by repeat (first | (with_reducible first | exact HI0.out | apply IsS52.alloc | apply IsS52.drewN | apply IsS52.drew | apply IsS52.set_0 | apply IsS52.set_1) | exact HI0.out)) hb); have n1_ := Aside0.mk (KeepBut.trans (by repeat (first | (with_reducible first | exact HK.out | apply KeepBut.set_ | apply keep_drewN | apply keep_drew | apply keep_alloc) | exact HK.out)) (KeepBut.of_below hb g none) (.inl rfl)); have n2_ := Aside0.mk (below_step (by repeat (first | (with_reducible first | exact HB.out | apply below_alloc | apply pw_below_drewN | apply below_drew1 | refine below_set ?_ (IsS52.ge HI0.out)) | exact HB.out)) hb); clear HI0; clear HK; clear HB; have HI0 := n0_; have HK := n1_; have HB := n2_; clear n0_ n1_ n2_; (try clear hb); (try clear hb2); (try clear hk); (try clear hi); obtain ⟨HGz18, hgz18⟩ := HI0.out; have hcz18_0 := cellS52_0 HGz18; have hcz18_1 := cellS52_1 HGz18; have hfz18_0 := blk_frozen HGz18 0; have hfz18_1 := blk_frozen HGz18 1; clear HGz18 hgz18))
        go_ret
        (try simp only [ext_self])
        exact ⟨by first | rfl | (simp [errW_none, errW_some] <;> rfl) | (simp [*, errW_none, errW_some] <;> rfl), by repeat (first | (with_reducible first | exact HI0.out | apply IsS52.alloc | apply IsS52.drewN | apply IsS52.drew | apply IsS52.set_0 | apply IsS52.set_1) | exact HI0.out), by repeat (first | (with_reducible first | exact HB.out | apply below_alloc | apply pw_below_drewN | apply below_drew1 | refine below_set ?_ (IsS52.ge HI0.out)) | exact HB.out), by repeat (first | (with_reducible first | exact HK.out | apply KeepBut.set_ | apply keep_drewN | apply keep_drew | apply keep_alloc) | exact HK.out)⟩
      · rw [if_neg c13] at H
        exact absurd H (by simp)
    · rw [if_neg c12] at H
      exact absurd H (by simp)
end Go.Proofs.YtoacojkmclngmaaGreatDoor.Pz
