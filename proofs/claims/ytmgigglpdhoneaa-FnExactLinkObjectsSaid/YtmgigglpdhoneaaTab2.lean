
import Derived.Test.YtmgigglpdhoneaaTab1
import Derived.Test.YtmgigglpdhoneaaLibH
import Derived.Test.YtmgigglpdhoneaaLibE
import Derived.Test.YtmgigglpdhoneaaLibG
set_option linter.unusedVariables false
set_option linter.unusedSimpArgs false
namespace Go.Proofs.Ytmgigglpdhoneaa
open Go.Abs
theorem Z {α : Sort _} {a : α} : a = a := rfl
section
variable {ops : Array Oper} {l r : List Oper} {s s' : St} {id : Nat} {y : Code}
theorem xq (k : Nat) {K : St → Prop} (hx : xk tab ops.toList k l s = .at s' r) (h : AOps Try.prog ops r s' K) : AOps Try.prog ops l s K := sxk k c9 hx h
theorem xn (k : Nat) {K : St → Prop} (hx : xk tab ops.toList k l s = .at s' []) (h : K s') : AOps Try.prog ops l s K := sxk k c9 hx (i9 h)
variable {K : Exit → St → Prop}
theorem qr (h : AOps Try.prog ⟨l⟩ l s (fun s' => AT Try.prog y s' K)) : AT Try.prog (.seq (.region id ⟨l⟩ false) y) s K := c6 (j8 h)
theorem qx (k : Nat) (hx : xk tab l k l s = .at s' r) (h : AOps Try.prog ⟨l⟩ r s' (fun s' => AT Try.prog y s' K)) : AT Try.prog (.seq (.region id ⟨l⟩ false) y) s K := qr (sxk k c9 hx h)
theorem qn (k : Nat) (hx : xk tab l k l s = .at s' []) (h : AT Try.prog y s' K) : AT Try.prog (.seq (.region id ⟨l⟩ false) y) s K := qx k hx (i9 h)
theorem gx (k : Nat) (hx : xk tab l k l s = .at s' r) (h : AOps Try.prog ⟨l⟩ r s' (fun s' => K .normal s')) : AT Try.prog (.region id ⟨l⟩ false) s K := j8 (sxk k c9 hx h)
theorem gn (k : Nat) (hx : xk tab l k l s = .at s' []) (h : K .normal s') : AT Try.prog (.region id ⟨l⟩ false) s K := gx k hx (i9 h)
variable {rs : List ResultVar} {x : V}
theorem u0 (h : resV tab s rs = some x) : AT Try.prog .ret s (retK tab rs (fun y _ => VLe y x)) := j9 (m6 h (f7 _))
theorem u1 {N : St → Prop} (h : resV tab s rs = some x) : AT Try.prog .ret s (thenK N (retK tab rs (fun y _ => VLe y x))) := j9 (m9 (m6 h (f7 _)))
theorem u2 {N : St → Prop} {i : Nat} (h : resV tab s rs = some x) : AT Try.prog .ret s (blockK i (thenK N (retK tab rs (fun y _ => VLe y x)))) := j9 (o9 (m9 (m6 h (f7 _))))
theorem bdy {f : FuncId} {fn : Func} {c : Code} {args : List V} {h : List (Nat × HB)} {n : Nat} {rs : List ResultVar} {R : V → List (Nat × HB) → Prop} (hf : Try.prog.funcs[f]? = some fn) (hn : fn.ntmps = n) (hb : fn.body = some c) (hr : fn.results.toList = rs) (hx : ((!(fn.name == "runtime.NumGoroutine")) && Nat.ble args.length n) = true)
 (hat : AT Try.prog c ⟨envOf 0 args, h, 8, n, []⟩ (retK tab rs R)) : FC Try.prog f args h 8 R := by
 simp only [Bool.and_eq_true, Bool.not_eq_true'] at hx
 exact fc_body c9 hf hb hn hr hx.1 hx.2 hat
end
theorem K : TabOK Try.prog tab := c9
end Go.Proofs.Ytmgigglpdhoneaa
