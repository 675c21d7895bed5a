
import Derived.Test.YtllbdfllngpkaaaGreatTab1
import Derived.Test.YtllbdfllngpkaaaGreatLibH
import Derived.Test.YtllbdfllngpkaaaGreatLibE
set_option linter.all false
namespace Go.Proofs.YtllbdfllngpkaaaGreat
open Go.Abs
theorem Z {α:Sort _}{a:α}:a=a:=rfl
section
variable {ops:Array Oper} {l r:List Oper} {s s':St} {id:Nat} {y:Code}
theorem xq (k:Nat){K:St->Prop}(hx:xk tab ops.toList k l s=.at s' r)(h:AOps Tryz.prog ops r s' K):AOps Tryz.prog ops l s K:=sxk k c8 hx h
theorem xn (k:Nat){K:St->Prop}(hx:xk tab ops.toList k l s=.at s' [])(h:K s'):AOps Tryz.prog ops l s K:=sxk k c8 hx (i9 h)
variable {K:Exit->St->Prop}
theorem qr (h:AOps Tryz.prog ⟨l⟩ l s (fun s'=>AT Tryz.prog y s' K)):AT Tryz.prog (.seq (.region id ⟨l⟩ false) y) s K:=c6 (r8 h)
theorem qx (k:Nat)(hx:xk tab l k l s=.at s' r)(h:AOps Tryz.prog ⟨l⟩ r s' (fun s'=>AT Tryz.prog y s' K)):AT Tryz.prog (.seq (.region id ⟨l⟩ false) y) s K:=qr (sxk k c8 hx h)
theorem qn (k:Nat)(hx:xk tab l k l s=.at s' [])(h:AT Tryz.prog y s' K):AT Tryz.prog (.seq (.region id ⟨l⟩ false) y) s K:=qx k hx (i9 h)
theorem gx (k:Nat)(hx:xk tab l k l s=.at s' r)(h:AOps Tryz.prog ⟨l⟩ r s' (fun s'=>K .normal s')):AT Tryz.prog (.region id ⟨l⟩ false) s K:=r8 (sxk k c8 hx h)
theorem gn (k:Nat)(hx:xk tab l k l s=.at s' [])(h:K .normal s'):AT Tryz.prog (.region id ⟨l⟩ false) s K:=gx k hx (i9 h)
variable {rs:List ResultVar} {x:V}
theorem u0 (h:resV tab s rs=some x):AT Tryz.prog .ret s (retK tab rs (fun y _=>VLe y x)):=s5 (A6 h (l5 _))
theorem u1 {N:St->Prop}(h:resV tab s rs=some x):AT Tryz.prog .ret s (thenK N (retK tab rs (fun y _=>VLe y x))):=s5 (B1 (A6 h (l5 _)))
theorem u2 {N:St->Prop}{i:Nat}(h:resV tab s rs=some x):AT Tryz.prog .ret s (blockK i (thenK N (retK tab rs (fun y _=>VLe y x)))):=s5 (E7 (B1 (A6 h (l5 _))))
theorem bdy {f : FuncId} {fn : Func} {c : Code} {args : List V} {h : List (Nat × HB)} {n : Nat} {rs : List ResultVar} {R : V → List (Nat × HB) → Prop} (hf : Tryz.prog.funcs[f]? = some fn) (hn : fn.ntmps = n) (hb : fn.body = some c) (hr : fn.results.toList = rs) (hx : ((!(fn.name == "runtime.NumGoroutine")) && Nat.ble args.length n) = true)
 (hat:AT Tryz.prog c ⟨envOf 0 args,h,12,n,[]⟩ (retK tab rs R)):FC Tryz.prog f args h 12 R:=by
 simp only [Bool.and_eq_true,Bool.not_eq_true']at hx;exact fc_body c8 hf hb hn hr hx.1 hx.2 hat
end
theorem K:TabOK Tryz.prog tab:=c8
end Go.Proofs.YtllbdfllngpkaaaGreat
