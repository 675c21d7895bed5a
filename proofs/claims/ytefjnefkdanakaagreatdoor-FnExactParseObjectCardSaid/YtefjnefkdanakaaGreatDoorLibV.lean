
import Derived.Test.YtefjnefkdanakaaGreatDoorLibD
import Derived.Lib.ItoaNum
import Derived.Lib.Atoi
import Derived.Lib.IndexMore
import Derived.Lib.Split
set_option linter.unusedVariables false
set_option linter.unusedSimpArgs false
namespace Go.Abs
def x_Itoa (n : Int) : Option (List UInt8) := chk (I64 n) <| some (Go.Lib.itoa n)
end Go.Abs

namespace Go.Abs
structure PRdI where
 src : List UInt8
 pos : Int
 nodes : Int
def PRdI.enc (r : PRdI) : List V := [.str r.src, .int .i64 r.pos, .int .i64 r.nodes]
@[reducible] def cRdI : Cd PRdI where
 sz := 3
 enc _ := PRdI.enc
 row _ := PRdI.enc
 eq _ _ := rfl
 rl _ _ _ := rfl
 len _ _ := rfl
 one _ _ _ _ := rfl
structure PRdS where
 src : List UInt8
 pos : Int
 bad : Bool
def PRdS.enc (r : PRdS) : List V := [.str r.src, .int .i64 r.pos, .bool r.bad]
@[reducible] def cRdS : Cd PRdS where
 sz := 3
 enc _ := PRdS.enc
 row _ := PRdS.enc
 eq _ _ := rfl
 rl _ _ _ := rfl
 len _ _ := rfl
 one _ _ _ _ := rfl
def atoiR (s : List UInt8) : Int × Bool := match Go.Lib.atoi s with
 | some n => (n, false)
 | none => (0, true)
def x_Atoi (s : List UInt8) : Option (Int × Bool) := chk (s.length ≤ 18) <| some (atoiR s)
def x_Cut (s sep : List UInt8) : Option (List UInt8 × List UInt8 × Bool) := chk (s.length < 4294967281) <| some (Go.Lib.cut s sep)
end Go.Abs

namespace Go.Abs
def ah1 (s sep : List UInt8) : Option (List (List UInt8)) := chk (s.length < 4294967281) <| chk (1 ≤ sep.length) <| some (Go.Lib.split s sep)
theorem rep_split {C : Ctx} {w : World} (hnx : C.nx = 8) (hs : HSt C w []) (q : List (List UInt8)) (el : TypeId) :
 ∃ C', HSt C' (w.alloc (.cells (q.map fun s => Value.string ⟨s.toArray⟩).toArray el)) [] ∧ Rep C' (w.alloc (.cells (q.map fun s => Value.string ⟨s.toArray⟩).toArray el)) (.slice (some ⟨w.heap.size, 0, none⟩) q.length q.length) (.psl 1 1 (q.map fun s => [V.str s])) ∧
  Fr C C' w (w.alloc (.cells (q.map fun s => Value.string ⟨s.toArray⟩).toArray el)) := by
 have H := hs.alloc (cs := (q.map fun s => Value.string ⟨s.toArray⟩).toArray) (el := el) (sz := 1) (cap := q.length) (rows := q.map fun s => [V.str s]) (by simp [flatR, dpc]) (by omega) (by simp) (by simp)
  ⟨fun i => [Value.string ⟨(q.getD i []).toArray⟩], fun i row hi => by
   rw [List.getElem?_map] at hi;cases hq : q[i]? with
   | none => rw [hq] at hi; cases hi
   | some s =>
    rw [hq] at hi;obtain rfl := Option.some.inj hi;have e : q.getD i [] = s := by simp [List.getD, hq]
    refine ⟨rfl, fun j v hj => ?_, by show RepL C w [Value.string ⟨(q.getD i []).toArray⟩] [V.str s]; rw [e]; exact .cons (.str s) .nil⟩;cases j with
    | zero =>
     simp only [List.getElem?_cons_zero, Option.some.injEq] at hj;subst hj;rw [e];simp [hq]
    | succ j => simp at hj⟩
 rw [List.length_map, hnx] at H
 let L : Loc := ⟨some w.heap.size, 1, q.length, q.length⟩
 let a : Act := { tmps := #[.slice (some ⟨w.heap.size, 0, none⟩) q.length q.length], defers := [] }
 have S : StRep (C.set 8 L 9) (w.alloc (.cells (q.map fun s => Value.string ⟨s.toArray⟩).toArray el)) a ⟨[(0, .hsl 8 0 q.length)], [(8, ⟨1, q.map fun s => [V.str s]⟩)], 9, 1, []⟩ := by
  refine ⟨rfl, rfl, rfl, fun i => ?_, H, fun l hl => by cases hl⟩;cases i with
  | zero =>
   refine oJ (sz := 1) (by decide) (fun L' h => ?_) (by show 8 < 9; omega);simp [Ctx.set] at h;exact h.symm
  | succ i => exact .junk _
 obtain ⟨C', h1, h2⟩ := frz_rep (i := 0) (u := 8) (hb := ⟨1, q.map fun s => [V.str s]⟩) S rfl rfl (by simp);refine ⟨C', h1.heap, h1.env 0, ?_⟩;have hF := fr_add (C := C) (w := w) (.cells (q.map fun s => Value.string ⟨s.toArray⟩).toArray el) (L := L) rfl (by omega);rw [hnx] at hF;exact hF.trans h2
end Go.Abs
