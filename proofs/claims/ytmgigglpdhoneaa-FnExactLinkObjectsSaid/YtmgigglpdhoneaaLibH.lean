
import Derived.Test.YtmgigglpdhoneaaLibG
import Derived.Test.YtmgigglpdhoneaaLibE
set_option linter.unusedVariables false
set_option linter.unusedSimpArgs false
namespace Go.Abs
def Ctx.fz (C : Ctx) (u : Nat) (L : Loc) : Ctx :=
 {reg := fun l b => C.reg l b ∨ (l = 1 ∧ (L.blk = some b ∨ b ∈ C.sub u)), lv := C.lv, loc := fun x => if x = u then none else C.loc x, nx := C.nx, sub := fun x => if x = u then [] else C.sub x }
section
variable {C : Ctx} {w : World} {h : List (Nat × HB)}
theorem iX {u : Nat} {L : Loc} {x : Nat} {M : Loc} (hx : (C.fz u L).loc x = some M) : x ≠ u ∧ C.loc x = some M := by
 simp only [Ctx.fz] at hx
 split at hx
 ·cases hx
 ·exact ⟨by assumption, hx⟩
theorem sC {u : Nat} {L : Loc} {x b : Nat} (hx : b ∈ (C.fz u L).sub x) : x ≠ u ∧ b ∈ C.sub x := by
 simp only [Ctx.fz] at hx
 split at hx
 ·cases hx
 ·exact ⟨by assumption, hx⟩
theorem wL (u : Nat) (L : Loc) : Ext C (C.fz u L) w w :=
 ⟨Nat.le_refl _, fun x M _ h => ⟨M, (iX h).2, .inl rfl⟩, fun _ _ h => h, fun _ _ _ _ hb => ⟨.inl hb, rfl⟩⟩
theorem fz_core (H : HSt C w h) {u : Nat} {L : Loc} (hL : C.loc u = some L) : HSt (C.fz u L) w (hdel u h) ∧ Fr C (C.fz u L) w w := by
 have E := wL (C := C) (w := w) u L
 refine ⟨⟨fun x hx => ?_, fun x hbk hx => ?_, fun x M hM => H.lt x M (iX hM).2, fun x x' M M' c g1 g2 => H.inj x x' M M' c (iX g1).2 (iX g2).2, fun x M c l g1 g2 g3 g4 => ?_, fun l c g1 g2 => ?_, H.lvs, fun l l' c g1 g2 g3 g4 => ?_, H.zero, H.two,
  ⟨fun x hb M hx hM => ?_, fun x hx => ?_, fun x => ?_, fun x b hb => H.sub.lt x b (sC hb).2, fun x b x' M hb g1 g2 => H.sub.root x b x' M (sC hb).2 (iX g1).2 g2, fun x x' b hb hb' => H.sub.dis x x' b (sC hb).2 (sC hb').2, fun x b l hb g1 g2 => ?_⟩, H.tabE E H.zero.1⟩, ?_⟩
 ·rw [v8] at hx
  simp only [Ctx.fz]
  split
  ·rfl
  ·rename_i hne; rw [if_neg hne] at hx; exact H.dom x hx
 ·rw [v8] at hx
  split at hx
  ·cases hx
  ·rename_i hne
   obtain ⟨M, g1, g2, g3, g4⟩ := H.ent x hbk hx
   exact ⟨M, by simp [Ctx.fz, hne, g1], g2, g3, g4.mono E (fun _ _ => rfl)⟩
 ·obtain ⟨g5, g6⟩ := iX g1
  rcases g4 with g4 | ⟨_, g4 | g4⟩
  ·exact H.own x M c l g6 g2 g3 g4
  ·exact g5 (H.inj x u M L c g6 hL g2 g4)
  ·exact H.sub.root u c x M g4 g6 g2
 ·rcases g2 with g2 | ⟨_, g2 | g2⟩
  ·exact H.regs l c g1 g2
  ·exact H.rootlt hL g2
  ·exact H.sub.lt u c g2
 ·have k1 : ∀ l, C.lv l → C.reg l c → (L.blk = some c ∨ c ∈ C.sub u) → False := fun l a1 a2 a3 => by
   rcases a3 with a3 | a3
   ·exact H.own u L c l hL a3 a1 a2
   ·exact H.sub.reg u c l a3 a1 a2
  rcases g3 with g3 | ⟨e3, g3⟩ <;> rcases g4 with g4 | ⟨e4, g4⟩
  ·exact H.rdis l l' c g1 g2 g3 g4
  ·exact (k1 l g1 g3 g4).elim
  ·exact (k1 l' g2 g4 g3).elim
  ·rw [e3, e4]
 ·rw [v8] at hx
  split at hx
  ·cases hx
  ·rename_i hne
   simp only [Ctx.fz]
   rw [if_neg hne]
   exact H.sub.dp x hb M hx (iX hM).2
 ·simp only [Ctx.fz] at hx ⊢
  split at hx
  ·rename_i e; rw [if_pos e]
  ·rename_i e; rw [if_neg e]; exact H.sub.s0 x hx
 ·simp only [Ctx.fz]
  split
  ·exact .nil
  ·exact H.sub.nd x
 ·obtain ⟨g3, g4⟩ := sC hb
  rcases g2 with g2 | ⟨_, g2 | g2⟩
  ·exact H.sub.reg x b l g4 g1 g2
  ·exact H.sub.root x b u L g4 hL g2
  ·exact g3 (H.sub.dis x u b g4 g2)
 ·refine ⟨Nat.le_refl _, fun _ _ _ => rfl, fun b hb => ?_, fun b hb => ?_, fun b hb => ?_, rfl, rfl, fun x _ M h => ⟨M, (iX h).2, .inl rfl⟩⟩
  ·rcases hb with ⟨x, M, g1, g2⟩ | ⟨l, g1, g2, g3⟩ | ⟨x, g1⟩
   ·exact .inl (.inl ⟨x, M, (iX g1).2, g2⟩)
   ·rcases g3 with g3 | ⟨e, _⟩
    ·exact .inl (.inr (.inl ⟨l, g1, g2, g3⟩))
    ·omega
   ·exact .inl (.inr (.inr ⟨x, (sC g1).2⟩))
  ·rcases hb with hb | ⟨e, _⟩
   ·exact hb
   ·omega
  ·rcases hb with hb | ⟨_, hb | hb⟩
   ·exact .inl hb
   ·exact .inr (.inl (.inl ⟨u, L, hL, hb⟩))
   ·exact .inr (.inl (.inr (.inr ⟨u, hb⟩)))
def f1k : Nat → Nat := fun _ => 1
theorem fz_rep (H : HSt C w h) {u n sz : Nat} {rows rows' : List (List V)} (hu : hget h u = some ⟨sz, rows⟩) (hn : n = rows.length) (hz : sz ≠ 0) (hdp : ∀ row ∈ rows, row.all dpV = true) (hr : V.rlR f1k rows = rows') {v : Value} {L : Loc} (hL : C.loc u = some L) (hv : Rep C w v (.hsl u 0 n)) :
 Rep (C.fz u L) w v (.psl 1 sz rows') := by
 subst hr; subst hn
 obtain ⟨L', h1, h2, h3, h4, h5⟩ := G2 H hv hu (by show 0 + rows.length = rows.length; omega)
 rw [hL] at h1; simp only [Option.some.injEq] at h1; subst h1
 have h2' : L.sz = sz := h2
 have hd := tD (by rw [h2']; exact hz) h5 h4 (H.sub.dp u _ L hu hL) hdp
 rw [h2'] at hd
 have h1lt : 1 < C.nx := by have := H.two; omega
 refine DeepV.rep (C := C.fz u L) (k := 1) H.zero.2.1 h1lt (fun b hb => .inr ⟨rfl, ?_⟩) hd
 rcases List.mem_append.1 hb with hb | hb
 ·exact .inl (by simpa using hb)
 ·exact .inr hb
mutual
inductive FzD (D : V → V → Prop) : V → V → Prop
 | hit {x z : V} (h : D x z) : FzD D x z
 | refl (x : V) : FzD D x x
 | agg {xs zs : List V} (h : FzL D xs zs) : FzD D (.agg xs) (.agg zs)
 | tup {xs zs : List V} (h : FzL D xs zs) : FzD D (.tup xs) (.tup zs)
inductive FzL (D : V → V → Prop) : List V → List V → Prop
 | nil : FzL D [] []
 | cons {x z : V} {xs zs : List V} (h : FzD D x z) (t : FzL D xs zs) : FzL D (x :: xs) (z :: zs)
end
mutual
theorem FzD.rep {C' : Ctx} {D : V → V → Prop} (E : Ext C C' w w) (hD : ∀ x z v, D x z → Rep C w v x → Rep C' w v z) : ∀ {x z : V}, FzD D x z → ∀ {v : Value}, Rep C w v x → Rep C' w v z
 | _, _, .hit h, _, hv => hD _ _ _ h hv
 | _, _, .refl _, _, hv => hv.mono E
 | _, _, .agg h, _, hv => by cases hv with | agg hv => exact .agg (FzL.rep E hD h hv)
 | _, _, .tup h, _, hv => by cases hv with | tup hv => exact .tup (FzL.rep E hD h hv)
theorem FzL.rep {C' : Ctx} {D : V → V → Prop} (E : Ext C C' w w) (hD : ∀ x z v, D x z → Rep C w v x → Rep C' w v z) : ∀ {xs zs : List V}, FzL D xs zs → ∀ {vs : List Value}, RepL C w vs xs → RepL C' w vs zs
 | _, _, .nil, _, hv => by cases hv; exact .nil
 | _, _, .cons h t, _, hv => by cases hv with | cons hv hs => exact .cons (FzD.rep E hD h hv) (FzL.rep E hD t hs)
end
def Dz (us : List (Nat × Nat × V)) : V → V → Prop := fun x z => ∃ u n, (u, n, z) ∈ us ∧ x = .hsl u 0 n
theorem fz_all : ∀ (us : List (Nat × Nat × V)) {C : Ctx} {h : List (Nat × HB)} (H : HSt C w h) (hd : distinct (us.map (·.1)) = true)
 (hu : ∀ u n z, (u, n, z) ∈ us → ∃ sz rows rows', hget h u = some ⟨sz, rows⟩ ∧ n = rows.length ∧ sz ≠ 0 ∧ (∀ row ∈ rows, row.all dpV = true) ∧ V.rlR f1k rows = rows' ∧ z = .psl 1 sz rows'),
 ∃ C' h', HSt C' w h' ∧ Ext C C' w w ∧ Fr C C' w w ∧ ∀ x z v, Dz us x z → Rep C w v x → Rep C' w v z
 | [], C, h, H, _, _ => ⟨C, h, H, Ext.refl _ _, Fr.refl _ _, fun x z v hx => by obtain ⟨_, _, h, _⟩ := hx; cases h⟩
 | (u, n, z) :: us, C, h, H, hd, hu => by
  simp only [List.map_cons, distinct, Bool.and_eq_true, Bool.not_eq_true'] at hd
  obtain ⟨sz, rows, rows', a1, a2, a3, a4, a5, rfl⟩ := hu u n z (by simp)
  obtain ⟨L, hL, _⟩ := H.ent u _ a1
  obtain ⟨k1, k2⟩ := fz_core H hL
  have hne : ∀ u' n' z', (u', n', z') ∈ us → u' ≠ u := fun u' n' z' hm e => by
   subst e
   obtain ⟨j, hj⟩ := List.getElem?_of_mem (List.mem_map_of_mem (f := (·.1)) hm)
   exact cG hd.1 j hj
  obtain ⟨C', h', b1, b2, b3, b4⟩ := fz_all us k1 hd.2 (fun u' n' z' hm => by
   obtain ⟨s', r', q', c1, c2⟩ := hu u' n' z' (by simp [hm])
   exact ⟨s', r', q', by rw [v8, if_neg (hne _ _ _ hm)]; exact c1, c2⟩)
  refine ⟨C', h', b1, (wL u L).trans b2, k2.trans b3, fun x z v hx hv => ?_⟩
  obtain ⟨u', n', hm, rfl⟩ := hx
  rcases List.mem_cons.1 hm with hm | hm
  ·simp only [Prod.mk.injEq] at hm
   obtain ⟨rfl, rfl, rfl⟩ := hm
   exact (fz_rep H a1 a2 a3 a4 a5 hL hv).mono b2
  ·exact b4 _ _ v ⟨u', n', hm, rfl⟩ (hv.mono (wL u L))
end
section
variable {P : Program} {f : FuncId} {args : List V} {h : List (Nat × HB)} {nx : Nat}
structure FzR (b : HB) (n : Nat) (z : V) : Prop where
 n : n = b.rows.length
 sz : Nat.beq b.sz 0 = false
 dp : ∀ row ∈ b.rows, row.all dpV = true
 z : z = .psl 1 b.sz (V.rlR f1k b.rows)
theorem FzR.ex {b : HB} {n : Nat} {z : V} (h : FzR b n z) {H : List (Nat × HB)} {u : Nat} (hu : hget H u = some b) : ∃ sz rows rows', hget H u = some ⟨sz, rows⟩ ∧ n = rows.length ∧ sz ≠ 0 ∧ (∀ row ∈ rows, row.all dpV = true) ∧ V.rlR f1k rows = rows' ∧ z = .psl 1 sz rows' :=
 ⟨b.sz, b.rows, _, hu, h.n, fun e => by have := h.sz; rw [e] at this; simp at this, h.dp, rfl, h.z⟩
theorem fzr {α : Type} (c : Cd α) (l : Nat) (xs : List α) (hz : Nat.beq c.sz 0 = false) (hd : ∀ x, (c.row l x).all dpV = true) : FzR ⟨c.sz, xs.map (c.enc l)⟩ xs.length (.psl 1 c.sz (xs.map (c.enc 1))) :=
 ⟨by simp, hz, Cd.dps0 c l hd xs, by rw [c.rlR]; rfl⟩
theorem fc_fz {R : V → List (Nat × HB) → Prop} {z : V} (hc : FC P f args h nx R)
 (hR : ∀ x h2, R x h2 → ∃ us : List (Nat × Nat × V), distinct (us.map (·.1)) = true ∧ FzD (Dz us) x z ∧ ∀ u n z, (u, n, z) ∈ us → ∃ b, hget h2 u = some b ∧ FzR b n z) : FC P f args h nx (fun x _ => x = z) :=
 ⟨hc.1, fun C w cargs h1 h2 h3 => (hc.2 C w cargs h1 h2 h3).mono fun e w' ⟨v, C', r, h', e1, e2, e3, e4, e5⟩ => by
  obtain ⟨us, k1, k2, k3⟩ := hR r h' e5
  obtain ⟨C2, H2, b1, b2, b3, b4⟩ := fz_all us e2 k1 (fun u n z hm => by obtain ⟨b, c1, c2⟩ := k3 u n z hm; exact c2.ex c1)
  exact ⟨v, C2, z, H2, e1, b1, FzD.rep b2 b4 k2 e3, e4.trans b3, rfl⟩⟩
theorem fc_fz1 {y : Nat → V} {z p1 : V} {n1 : Nat} {b1 : HB} (hc : FC P f args h nx (fun x h2 => ∃ j, x = y j ∧ hget h2 j = some b1)) (r1 : FzR b1 n1 p1) (hz : ∀ j, FzD (Dz [(j, n1, p1)]) (y j) z) : FC P f args h nx (fun x _ => x = z) :=
 fc_fz hc fun x h2 ⟨j, e, g1⟩ => ⟨[(j, n1, p1)], rfl, e ▸ hz j, fun u n z hm => by simp only [List.mem_singleton, Prod.mk.injEq] at hm; obtain ⟨rfl, rfl, rfl⟩ := hm; exact ⟨b1, g1, r1⟩⟩
theorem dz1 {u n : Nat} {p : V} {us : List (Nat × Nat × V)} : FzD (Dz ((u, n, p) :: us)) (.hsl u 0 n) p := .hit ⟨u, n, by simp, rfl⟩
end
end Go.Abs

namespace Go.Abs
inductive RnB (g : Nat → Option Nat) : List HB → List HB → Prop
 | nil : RnB g [] []
 | cons {sz : Nat} {rows0 rows : List (List V)} {bs0 bs : List HB} (h : rnR g rows0 = rows) (t : RnB g bs0 bs) : RnB g (⟨sz, rows0⟩ :: bs0) (⟨sz, rows⟩ :: bs)
section
variable {P : Program} {s : St} {ops : Array Oper} {f : FuncId} {args : List Operand} {args' : List V} {tys : Array TypeId} {d : Option Nat} {ty : Nat} {pos : String} {af : Array Edge} {gu : Option (Nat × Bool)} {r : List Oper} {K : St → Prop} {s1 : St}
end
def omrow {α β : Type} (K : Kc α) (E : Kc β) : Option (List (α × β)) → List (List V)
 | none => []
 | some m => [mrow K E m]
theorem omrow_rn {α β : Type} (K : Kc α) (E : Kc β) (g : Nat → Option Nat) : ∀ o : Option (List (α × β)), rnR g (omrow K E o) = omrow K E o
 | none => rfl
 | some m => by simp [omrow, rnR, mrow_rn]
theorem mrow_rnR {α β : Type} (K : Kc α) (E : Kc β) (g : Nat → Option Nat) (m : List (α × β)) : rnR g [mrow K E m] = [mrow K E m] := omrow_rn K E g (some m)
section
variable {s s' : St}
def mapTy (T : List TI) (t : Nat) : Bool := match T[t]? with
 | some ti => (match ti.kind with
  | .map _ _ => true
  | _ => false)
 | none => false
theorem mapTy_spec {P : Program} {T : List TI} {t : Nat} (hT : TabOK P T) (h : mapTy T t = true) : ∃ k e, P.underlying t = some (.map k e) := by
 unfold mapTy at h
 split at h
 ·rename_i ti ht
  split at h
  ·rename_i k e hk
   exact ⟨k, e, hT.map ht hk⟩
  ·cases h
 ·cases h
end
end Go.Abs

namespace Go.Abs
open Region
def onlyN (Q : Exit → Act → World → Prop) (N : Act → World → Prop) : Exit → Act → World → Prop
 | .normal, a, w => N a w
 | e, a, w => Q e a w
theorem wp_onlyN {P : Program} {o : Oper} {a : Act} {w : World} {K : Act → World → Prop} {Q : Exit → Act → World → Prop} {N : Act → World → Prop} (hh : o.wp P a w K (onlyN Q N)) : o.wp P a w K Q := by
 unfold Oper.wp at *
 generalize (execOp a.eval o).run P w = r at *
 cases r with
 | ok n w' =>
  cases n <;> simp only [Oper.upon] at hh ⊢ <;>
   first
    | exact hh
    | exact Calls.mono hh (fun e w'' he => by cases e <;> exact he)
 | halt x w' => cases x <;> simp only [Oper.upon] at hh ⊢ <;> exact hh
section
variable {P : Program} {ops : List Oper} {m : Nat} {J : St}
def APerm (P : Program) (ops : List Oper) (m : Nat) (J : St) : Nat → Array Bool → St → Prop
 | 0, listed, s => (List.range m).all (fun i => listed.getD i false) = true ∧ Le s J
 | f + 1, listed, s => ready .any ⟨ops⟩ listed ≠ [] ∧ ∀ i ∈ ready .any ⟨ops⟩ listed, i < m ∧ ∃ o, ops[i]? = some o ∧ AOps P ⟨ops⟩ [o] s (APerm P ops m J f (listed.setIfInBounds i true))
def AAllP (P : Program) (ops : List Oper) (m : Nat) (J : St) (f : Nat) (listed : Array Bool) (s : St) : List Nat → Prop
 | [] => True
 | i :: r => (∃ o, ops[i]? = some o ∧ AOps P ⟨ops⟩ [o] s (APerm P ops m J f (listed.setIfInBounds i true))) ∧ AAllP P ops m J f listed s r
theorem aall_mem {f : Nat} {listed : Array Bool} {s : St} : ∀ {is : List Nat}, AAllP P ops m J f listed s is → ∀ i ∈ is, ∃ o, ops[i]? = some o ∧ AOps P ⟨ops⟩ [o] s (APerm P ops m J f (listed.setIfInBounds i true))
 | _ :: _, h, i, hi => by
  rcases List.mem_cons.1 hi with rfl | hi
  ·exact h.1
  ·exact aall_mem h.2 i hi
theorem aperm_step {f : Nat} {listed : Array Bool} {s : St} (is : List Nat) (hr : ready .any ⟨ops⟩ listed = is) (hm : (!is.isEmpty && is.all fun i => Nat.blt i m) = true) (h : AAllP P ops m J f listed s is) : APerm P ops m J (f + 1) listed s := by
 rw [Bool.and_eq_true, List.all_eq_true] at hm
 refine ⟨fun e => ?_, fun i hi => ⟨?_, ?_⟩⟩
 ·rw [← hr, e] at hm; simp at hm
 ·rw [hr] at hi; simpa using hm.2 i hi
 ·rw [hr] at hi; exact aall_mem h i hi
theorem kR {K : St → Prop} {C0 : Ctx} {w0 : World} {Q : Exit → Act → World → Prop} {g : Nat} (hok : drawOk ops m = true) (hlen : m + g = ops.length) (hQ : Goal C0 w0 K Q) (hJ : AOps P ⟨ops⟩ (ops.drop m) J K) :
 ∀ (f : Nat) (listed : Array Bool) (s : St) (C : Ctx) (w : World) (a : Act), APerm P ops m J f listed s → LInv ops listed → (∀ i, m ≤ i → i < ops.length → listed.getD i true = false) → StRep C w a s → Fr C0 C w0 w → wpAny P .any ⟨ops⟩ Q (f + g) listed a w
 | 0, listed, s, C, w, a, ⟨hl, hle⟩, inv, hno, hs, hF => by
  rw [Nat.zero_add]
  obtain ⟨C', h1, h2⟩ := hle C w a hs
  refine uZ hok g m listed a w hlen (Nat.le_refl _) inv (fun i hi => List.all_eq_true.1 hl i (List.mem_range.2 hi)) hno ?_
  exact hJ C' w a Q h1 (fun C2 w2 a2 s2 r1 r2 r3 => hQ C2 w2 a2 s2 r1 ((hF.trans h2).trans r2) r3)
 | f + 1, listed, s, C, w, a, ⟨hne, hall⟩, inv, hno, hs, hF => by
  rw [show f + 1 + g = (f + g) + 1 by omega]
  refine ⟨fun e => absurd e hne, fun i hi => ?_⟩
  obtain ⟨him, o, ho, hop⟩ := hall i hi
  have next : ∀ a' w', (∃ C' s1, StRep C' w' a' s1 ∧ Fr C C' w w' ∧ APerm P ops m J f (listed.setIfInBounds i true) s1) → wpAny P .any ⟨ops⟩ Q (f + g) (listed.setIfInBounds i true) a' w' := fun a' w' ⟨C', s1, h1, h2, hper⟩ =>
   kR hok hlen hQ hJ f _ s1 C' w' a' hper (inv.set hi) (fun k h1 h2 => by rw [getD_set_ne true (by omega)]; exact hno k h1 h2) h1 (hF.trans h2)
  have h := hop C w a (onlyN Q fun a' w' => ∃ C' s1, StRep C' w' a' s1 ∧ Fr C C' w w' ∧ APerm P ops m J f (listed.setIfInBounds i true) s1) hs (fun C' w' a' s' h1 h2 h3 => ⟨C', s', h1, h2, h3⟩)
  have hop' : (⟨ops⟩ : Array Oper)[i]? = some o := by simpa using ho
  unfold wpOp
  rw [hop']
  simp only
  unfold wpList at h
  split at h
  ·rename_i hw
   rw [if_pos hw]
   exact h.imp (fun h => Oper.wp_mono next (wp_onlyN h)) id
  ·rename_i hw
   rw [if_neg hw]
   exact next _ _ h
theorem at_perm {id : Nat} {l : List Oper} {s : St} {K : Exit → St → Prop} (m : Nat) (J : St) (hm : P.follows .mixedOrders = true) (hok : drawOk l m = true)
 (h : APerm P l m J m (Array.replicate l.length false) s) (hJ : AOps P ⟨l⟩ (l.drop m) J (fun s' => K .normal s')) : AT P (.region id ⟨l⟩ true) s K := by
 intro C w a hs
 obtain ⟨c1, c2, c3, c4, c5⟩ := chkAnd hok
 have c5' : m ≤ l.length := c5
 have hw : Agree w { w with drawn := w.drawn + 1 } := ⟨Nat.le_refl _, fun _ _ => rfl, rfl, rfl⟩
 have hs0 : StRep C { w with drawn := w.drawn + 1 } a s := bU hs hw
 refine wp_region_any hm ?_
 have hsz : (⟨l⟩ : Array Oper).size = m + (l.length - m) := by show l.length = _; omega
 rw [hsz, ← hsz]
 have key := kR (K := fun s' => K .normal s') (C0 := C) (w0 := w) (Q := Post C w K) (g := l.length - m) hok (by omega) (fun C' w' a' s' h1 h2 h3 => ⟨C', s', h1, h2, h3⟩) hJ m (Array.replicate l.length false) s C { w with drawn := w.drawn + 1 } a h ⟨by simp, fun i k hi _ => by rw [J2] at hi; cases hi⟩ (fun i h1 h2 => by
  rw [dD (by simpa using h2)]; exact J2 _ _) hs0 (fS hw)
 rw [show m + (l.length - m) = (⟨l⟩ : Array Oper).size from hsz.symm] at key
 exact key
end
section
variable {P : Program} {T : List TI} {s : St} {ops : Array Oper}
end
theorem a9 {a b : Nat} (h : Nat.ble a b = true) : a ≤ b := Nat.le_of_ble_eq_true h
end Go.Abs

namespace Go.Abs
section
variable {s : St} {n i : Nat} {α : Type} {r : List (Nat × V)} {f : Nat → Nat}
def okB (n : Nat) : V → Bool
 | .hsl u _ _ => Nat.blt u n
 | .ptr u _ _ _ => Nat.blt u n
 | .mp u _ => Nat.blt u n
 | .agg _ => false
 | .tup _ => false
 | .psl _ _ _ => false
 | .pptr _ _ _ _ _ => false
 | _ => true
theorem okB_ok : ∀ {x : V}, okB n x = true → Ok n x
 | .hsl u _ _, h => Nat.le_of_ble_eq_true h
 | .ptr u _ _ _, h => Nat.le_of_ble_eq_true h
 | .mp u _, h => Nat.le_of_ble_eq_true h
 | .int _ _, _ => rfl
 | .bool _, _ => rfl
 | .str _, _ => rfl
 | .nilsl, _ => rfl
 | .nilm, _ => rfl
 | .nilp, _ => rfl
 | .fn _, _ => rfl
 | .junk, _ => rfl
theorem d6 {x : V} (h : (eget s.env i, okB n x) = (x, true)) (t : EnvLe s n r) : EnvLe s n ((i, x) :: r) :=
 ⟨⟨(Prod.mk.inj h).1, okB_ok (Prod.mk.inj h).2⟩, t⟩
theorem g9 (c : Cd α) {l sz : Nat} {xs : List α} (h : (eget s.env i, cut2 l) = (.psl l sz (xs.map (c.enc l)), l)) (t : EnvLe s n r) : EnvLe s n ((i, .psl l sz (xs.map (c.enc l))) :: r) :=
 ⟨⟨(Prod.mk.inj h).1, c.ok_psl xs (Prod.mk.inj h).2⟩, t⟩
theorem j3 {c : Cd α} {u sz l : Nat} {xs : List α} {r : List (Nat × HB)} (h : (hget s.heap u, Nat.blt u n, cut2 l) = (some ⟨sz, xs.map (c.enc l)⟩, true, l)) (t : HeapLe s n r) : HeapLe s n ((u, ⟨sz, xs.map (c.enc l)⟩) :: r) :=
 ⟨⟨(Prod.mk.inj h).1, Nat.le_of_ble_eq_true (Prod.mk.inj (Prod.mk.inj h).2).1, c.rows_ok xs (Prod.mk.inj (Prod.mk.inj h).2).2⟩, t⟩
theorem rowB_ok : ∀ {row : List V}, (row.all (okB n)) = true → RowOk n row
 | [], _ => trivial
 | x :: r, h => by
  rw [List.all_cons, Bool.and_eq_true] at h
  exact ⟨okB_ok h.1, rowB_ok h.2⟩
theorem row_z {row : List V} (h : row.all (okB n) = true) : ∀ r ∈ [row], RowOk n r := p0 (rowB_ok h)
theorem A0 {u sz : Nat} {row : List V} {r : List (Nat × HB)} (h : (hget s.heap u, Nat.blt u n, row.all (okB n)) = (some ⟨sz, [row]⟩, true, true)) (t : HeapLe s n r) : HeapLe s n ((u, ⟨sz, [row]⟩) :: r) :=
 ⟨⟨(Prod.mk.inj h).1, Nat.le_of_ble_eq_true (Prod.mk.inj (Prod.mk.inj h).2).1, row_z (Prod.mk.inj (Prod.mk.inj h).2).2⟩, t⟩
theorem u6 (c : Cd α) {u sz l : Nat} {x : α} {r : List (Nat × HB)} (h : (hget s.heap u, Nat.blt u n, cut2 l) = (some ⟨sz, [c.row l x]⟩, true, l)) (t : HeapLe s n r) : HeapLe s n ((u, ⟨sz, [c.row l x]⟩) :: r) :=
 ⟨⟨(Prod.mk.inj h).1, Nat.le_of_ble_eq_true (Prod.mk.inj (Prod.mk.inj h).2).1, p0 (c.row_ok x (Prod.mk.inj (Prod.mk.inj h).2).2)⟩, t⟩
theorem r9 (c : Cd α) (x : α) (h : f 0 = 0) : V.rl f (.agg (c.row 0 x)) = .agg (c.row 0 x) := c.rl_agg f x h
theorem ag_10 (c : Cd α) (x : α) (h : f 1 = 0) : V.rl f (.agg (c.row 1 x)) = .agg (c.row 0 x) := c.rl_agg f x h
theorem zG (c : Cd α) (x : α) (h : f 1 = 1) : V.rl f (.agg (c.row 1 x)) = .agg (c.row 1 x) := c.rl_agg f x h
theorem F5 (c : Cd α) (xs : List α) {sz : Nat} (h : f 0 = 0) : V.rl f (.psl 0 sz (xs.map (c.enc 0))) = .psl 0 sz (xs.map (c.enc 0)) := c.rl_psl f xs h
theorem ps_10 (c : Cd α) (xs : List α) {sz : Nat} (h : f 1 = 0) : V.rl f (.psl 1 sz (xs.map (c.enc 1))) = .psl 0 sz (xs.map (c.enc 0)) := c.rl_psl f xs h
theorem mS (c : Cd α) (xs : List α) {sz : Nat} (h : f 1 = 1) : V.rl f (.psl 1 sz (xs.map (c.enc 1))) = .psl 1 sz (xs.map (c.enc 1)) := c.rl_psl f xs h
end
end Go.Abs

namespace Go.Abs
open Region
def ins (i : Nat) : List Nat → List Nat
 | [] => [i]
 | j :: r => bif Nat.ble i j then i :: j :: r else j :: ins i r
def bits (n : Nat) : List Nat → Array Bool
 | [] => Array.replicate n false
 | i :: l => (bits n l).setIfInBounds i true
theorem bits_comm (a : Array Bool) (i j : Nat) : (a.setIfInBounds i true).setIfInBounds j true = (a.setIfInBounds j true).setIfInBounds i true := by
 by_cases h : i = j
 ·rw [h]
 ·exact Array.setIfInBounds_comm _ _ h
theorem bits_ins (n i : Nat) : ∀ l : List Nat, bits n (ins i l) = (bits n l).setIfInBounds i true
 | [] => rfl
 | j :: r => by
  unfold ins
  cases Nat.ble i j
  ·show (bits n (ins i r)).setIfInBounds j true = ((bits n r).setIfInBounds j true).setIfInBounds i true
   rw [bits_ins n i r, bits_comm]
  ·rfl
section
variable {P : Program} {ops : List Oper} {m : Nat} {J s : St} {f : Nat}
def APl (P : Program) (ops : List Oper) (m : Nat) (J : St) (f : Nat) (l : List Nat) (s : St) : Prop := APerm P ops m J f (bits ops.length l) s
def AAl (P : Program) (ops : List Oper) (m : Nat) (J : St) (f : Nat) (l : List Nat) (s : St) : List Nat → Prop
 | [] => True
 | i :: r => (∃ o, ops[i]? = some o ∧ AOps P ⟨ops⟩ [o] s (APl P ops m J f (ins i l))) ∧ AAl P ops m J f l s r
theorem aal_all {l : List Nat} : ∀ {is : List Nat}, AAl P ops m J f l s is → AAllP P ops m J f (bits ops.length l) s is
 | [], _ => trivial
 | i :: r, h => by
  obtain ⟨⟨o, h1, h2⟩, h3⟩ := h
  refine ⟨⟨o, h1, ?_⟩, aal_all h3⟩
  have e : APl P ops m J f (ins i l) = APerm P ops m J f ((bits ops.length l).setIfInBounds i true) := by
   funext s
   unfold APl
   rw [bits_ins]
  rw [e] at h2
  exact h2
theorem rU (l : List Nat) {A : Array Bool} (h : bits ops.length l = A) (hp : APl P ops m J f l s) : APerm P ops m J f A s := by rw [← h]; exact hp
theorem z3 (l is : List Nat) (hr : ready .any ⟨ops⟩ (bits ops.length l) = is) (hm : (!is.isEmpty && is.all fun i => Nat.blt i m) = true) (h : AAl P ops m J f l s is) : APl P ops m J (f + 1) l s := aperm_step is hr hm (aal_all h)
theorem D5 {l : List Nat} : AAl P ops m J f l s [] := trivial
theorem o6 {l : List Nat} {i : Nat} {o : Oper} {r : List Nat} (ho : ops[i]? = some o) (h : AOps P ⟨ops⟩ [o] s (APl P ops m J f (ins i l))) (hr : AAl P ops m J f l s r) : AAl P ops m J f l s (i :: r) := ⟨⟨o, ho, h⟩, hr⟩
theorem sW {l : List Nat} (hl : (List.range m).all (fun i => (bits ops.length l).getD i false) = true) (h : Le s J) : APl P ops m J 0 l s := ⟨hl, h⟩
end
end Go.Abs

namespace Go.Abs
def alg : List (Nat × Nat) → Nat → Option Nat
 | [], _ => none
 | (a, b) :: r, u => bif Nat.beq u a then some b else alg r u
def swp (al : List (Nat × Nat)) : List (Nat × Nat) := al.map fun p => (p.2, p.1)
theorem sU : ∀ {al : List (Nat × Nat)} {u j : Nat}, alg al u = some j → (u, j) ∈ al
 | (a, b) :: r, u, j, h => by
  simp only [alg, Bool.cond_eq_ite] at h
  split at h
  ·rename_i e; rw [Nat.beq_eq] at e; simp only [Option.some.injEq] at h; subst e; subst h; simp
  ·exact List.mem_cons_of_mem _ (sU h)
def oeq : Option Nat → Nat → Bool
 | some a, b => Nat.beq a b
 | none, _ => false
theorem oeq_spec {o : Option Nat} {b : Nat} (h : oeq o b = true) : o = some b := by
 cases o with
 | none => simp [oeq] at h
 | some a => simp [oeq] at h; rw [h]
def alOK (al : List (Nat × Nat)) : Bool := al.all fun p => oeq (alg (swp al) p.2) p.1 && oeq (alg al p.1) p.2 && (Nat.ble 8 p.2 || Nat.beq p.1 p.2)
structure AlOK (al : List (Nat × Nat)) : Prop where
 gi : ∀ u j, alg al u = some j → alg (swp al) j = some u
 ig : ∀ u j, alg (swp al) j = some u → alg al u = some j
 low : ∀ u j, j < 8 → alg (swp al) j = some u → u = j
theorem alOK_spec {al : List (Nat × Nat)} (h : alOK al = true) : AlOK al := by
 have key : ∀ u j, (u, j) ∈ al → alg (swp al) j = some u ∧ alg al u = some j ∧ (8 ≤ j ∨ u = j) := fun u j hm => by
  have h1 := List.all_eq_true.1 h (u, j) hm
  simp only [Bool.and_eq_true, Bool.or_eq_true, Nat.ble_eq, Nat.beq_eq] at h1
  exact ⟨oeq_spec h1.1.1, oeq_spec h1.1.2, h1.2⟩
 have back : ∀ u j, alg (swp al) j = some u → (u, j) ∈ al := fun u j h => by
  have := sU h
  unfold swp at this
  obtain ⟨p, hp, he⟩ := List.mem_map.1 this
  simp only [Prod.mk.injEq] at he
  obtain ⟨rfl, rfl⟩ := he
  exact hp
 refine ⟨fun u j h => (key u j (sU h)).1, fun u j h => (key u j (back u j h)).2.1, fun u j hj h => ?_⟩
 rcases (key u j (back u j h)).2.2 with h | h
 ·omega
 ·exact h
def EnvRn (s : St) (g : Nat → Option Nat) : List (Nat × V) → Prop
 | [] => True
 | p :: r => (eget s.env p.1).rn g = p.2 ∧ EnvRn s g r
def HeapRn (s : St) (al : List (Nat × Nat)) (n : Nat) : List (Nat × HB) → Prop
 | [] => True
 | p :: r => (p.1 < n ∧ ∃ u rows, alg (swp al) p.1 = some u ∧ hget s.heap u = some ⟨p.2.sz, rows⟩ ∧ rnR (alg al) rows = p.2.rows) ∧ HeapRn s al n r
theorem wB {s : St} {g : Nat → Option Nat} : ∀ {l : List (Nat × V)}, EnvRn s g l → ∀ i, eget l i = .junk ∨ (eget s.env i).rn g = eget l i
 | [], _, _ => .inl rfl
 | (j, x) :: r, h, i => by
  simp only [eget, Bool.cond_eq_ite]
  split
  ·rename_i e; rw [Nat.beq_eq] at e; subst e; exact .inr h.1
  ·exact wB h.2 i
theorem fW {s : St} {al : List (Nat × Nat)} {n : Nat} : ∀ {l : List (Nat × HB)}, HeapRn s al n l → ∀ j hb, hget l j = some hb → j < n ∧ ∃ u rows, alg (swp al) j = some u ∧ hget s.heap u = some ⟨hb.sz, rows⟩ ∧ rnR (alg al) rows = hb.rows
 | [], _, _, _, h => by cases h
 | (k, x) :: r, h, j, hb, hj => by
  simp only [hget, Bool.cond_eq_ite] at hj
  split at hj
  ·rename_i e; rw [Nat.beq_eq] at e; subst e; simp only [Option.some.injEq] at hj; subst hj; exact h.1
  ·exact fW h.2 j hb hj
def Ctx.ren (C : Ctx) (al : List (Nat × Nat)) (h : List (Nat × HB)) (n : Nat) : Ctx :=
 {reg := fun l b => l ≤ 1 ∧ C.reg l b, lv := fun l => l ≤ 1, loc := fun j => if (hget h j).isSome then (alg (swp al) j).bind C.loc else none, nx := n,
  sub := fun j => if (hget h j).isSome then (match alg (swp al) j with | some u => C.sub u | none => []) else [] }
section
variable {s : St} {al : List (Nat × Nat)} {env' : List (Nat × V)} {h' : List (Nat × HB)} {nx' : Nat}
theorem dM {C : Ctx} {n j : Nat} {L : Loc} (h : (C.ren al h' n).loc j = some L) : ∃ u, alg (swp al) j = some u ∧ C.loc u = some L ∧ (hget h' j).isSome = true := by
 simp only [Ctx.ren] at h
 split at h
 ·rename_i hi
  cases hu : alg (swp al) j with
  | none => simp [hu] at h
  | some u => simp [hu] at h; exact ⟨u, rfl, h, hi⟩
 ·cases h
theorem lI {C : Ctx} {n j b : Nat} (h : b ∈ (C.ren al h' n).sub j) : ∃ u, alg (swp al) j = some u ∧ b ∈ C.sub u := by
 simp only [Ctx.ren] at h
 split at h
 ·split at h
  ·rename_i u hu; exact ⟨u, hu, h⟩
  ·cases h
 ·cases h
theorem le_rn {n' : Nat} (al : List (Nat × Nat)) (hal : alOK al = true) (hnx : (al.all fun p => Nat.blt p.2 nx') = true) (he : EnvRn s (alg al) env') (hh : HeapRn s al nx' h') (hn : Nat.blt 7 nx' = true) (hs' : s.n = n') : Le s ⟨env', h', nx', n', []⟩ := fun C w a hs => by
 subst hs'
 obtain ⟨gi, ig, low⟩ := alOK_spec hal
 have H := hs.heap
 have hn' : 7 < nx' := by have := Nat.le_of_ble_eq_true hn; omega
 have R : Rn (alg al) C (C.ren al h' nx') w w := by
  refine ⟨⟨fun l _ => ?_, fun l _ h => ?_, fun l b _ h hb => ⟨?_, rfl⟩⟩, fun u j hj _ => ⟨?_, fun L' hL' => ⟨L', ?_, .inl rfl⟩⟩⟩
  ·rcases K5 l with ⟨h, e⟩ | ⟨h, e⟩ <;> rw [e] <;> show _ < nx' <;> omega
  ·have h1 : cut2 l ≤ 1 := h
   rcases K5 l with ⟨h1, e⟩ | ⟨h1, e⟩
   ·exact oY H h1
   ·omega
  ·have h1 : cut2 l ≤ 1 := h
   rcases K5 l with ⟨h1, e⟩ | ⟨h1, e⟩
   ·rw [e]; exact ⟨h1, hb⟩
   ·omega
  ·have := List.all_eq_true.1 hnx (u, j) (sU hj)
   exact Nat.le_of_ble_eq_true this
  ·obtain ⟨u', h1, h2, _⟩ := dM hL'
   rw [gi u j hj] at h1
   rw [Option.some.inj h1]
   exact h2
 have hpi : ∀ {j j' u}, alg (swp al) j = some u → alg (swp al) j' = some u → j = j' := fun {j j' u} h1 h2 => by
  have e1 := ig _ _ h1
  have e2 := ig _ _ h2
  rw [e1] at e2
  exact Option.some.inj e2
 refine ⟨C.ren al h' nx', ⟨hs.defers, hs.size, rfl, fun i => ?_, ⟨fun j hj => ?_, fun j hb' hj => ?_, fun j L hj => ?_, fun j j' L L' b h1 h2 h3 h4 => ?_, fun j L b l h1 h2 h3 h4 => ?_, fun l b h1 h2 => ?_, fun l h => ?_, fun l l' b h1 h2 h3 h4 => ?_, ⟨Nat.zero_le _, Nat.le_refl _, by show ¬ 2 ≤ 1; omega⟩, hn',
  ⟨fun j hb' L hj hl => ?_, fun j hl => ?_, fun j => ?_, fun j b hb => ?_, fun j b j' L hb h1 h2 => ?_, fun j j' b hb hb' => ?_, fun j b l hb h1 h2 => ?_⟩, fun b hb => ⟨⟨Nat.zero_le _, (H.tab b hb).1⟩, (H.tab b hb).2⟩⟩, fun l hl => by cases hl⟩, ?_⟩
 ·rcases wB he i with h | h
  ·rw [h]; exact .junk _
  ·rw [← h]; exact Rep.rn R (hs.env i)
 ·simp only [Ctx.ren]
  rw [if_neg (by show ¬ (hget h' j).isSome = true; rw [hj]; simp)]
 ·obtain ⟨_, u, rows, g1, g2, g3⟩ := fW hh j hb' hj
  obtain ⟨L, e1, e2, e3, e4⟩ := H.ent u _ g2
  have hj' : (hget h' j).isSome = true := by rw [hj]; rfl
  refine ⟨L, by simp [Ctx.ren, hj', g1, e1], e2, by rw [e3, ← g3]; simp [rnR], ?_⟩
  rw [← g3]
  exact uI R (fun _ _ => rfl) e4
 ·obtain ⟨u, h1, h2, h3⟩ := dM hj
  obtain ⟨hb, hbe⟩ := Option.isSome_iff_exists.1 h3
  exact (fW hh j hb hbe).1
 ·obtain ⟨u, g1, g2, _⟩ := dM h1
  obtain ⟨u', g3, g4, _⟩ := dM h2
  have := H.inj u u' L L' b g2 g4 h3 h4
  subst this
  exact hpi g1 g3
 ·obtain ⟨u, g1, g2, _⟩ := dM h1
  exact H.own u L b l g2 h2 (oY H h3) h4.2
 ·exact H.regs l b (oY H h1) h2.2
 ·have h' : l ≤ 1 := h
  show l < nx'
  omega
 ·exact H.rdis l l' b (oY H h3.1) (oY H h4.1) h3.2 h4.2
 ·obtain ⟨u, g1, g2, g3⟩ := dM hl
  obtain ⟨_, u', rows, k1, k2, k3⟩ := fW hh j hb' hj
  rw [g1] at k1; simp only [Option.some.injEq] at k1; subst k1
  have : (C.ren al h' nx').sub j = C.sub u := by simp only [Ctx.ren, g3, if_true, g1]
  rw [this, ← k3]
  exact (H.sub.dp u _ L k2 g2).rn _
 ·simp only [Ctx.ren] at hl ⊢
  split at hl
  ·rename_i hi
   rw [if_pos hi]
   cases hu : alg (swp al) j with
   | none => rfl
   | some u => rw [hu] at hl; exact H.sub.s0 u hl
  ·rename_i hi; rw [if_neg hi]
 ·simp only [Ctx.ren]
  split
  ·split
   ·exact H.sub.nd _
   ·exact .nil
  ·exact .nil
 ·obtain ⟨u, _, h2⟩ := lI hb
  exact H.sub.lt u b h2
 ·obtain ⟨u, _, k2⟩ := lI hb
  obtain ⟨u', _, k4, _⟩ := dM h1
  exact H.sub.root u b u' L k2 k4 h2
 ·obtain ⟨u, k1, k2⟩ := lI hb
  obtain ⟨u', k3, k4⟩ := lI hb'
  have := H.sub.dis u u' b k2 k4
  subst this
  exact hpi k1 k3
 ·obtain ⟨u, _, k2⟩ := lI hb
  exact H.sub.reg u b l k2 (oY H h1) h2.2
 ·refine ⟨Nat.le_refl _, fun _ _ _ => rfl, fun b hb => ?_, fun b hb => hb.2, fun b hb => .inl hb.2, rfl, rfl, fun j hj L' h => ?_⟩
  ·rcases hb with ⟨j, L, h1, h2⟩ | ⟨l, h1, h2, _⟩ | ⟨j, h1⟩
   ·obtain ⟨u, _, g2, _⟩ := dM h1
    exact .inl (.inl ⟨u, L, g2, h2⟩)
   ·have : l ≤ 1 := h2
    omega
   ·obtain ⟨u, _, g2⟩ := lI h1
    exact .inl (.inr (.inr ⟨u, g2⟩))
  ·obtain ⟨u, g1, g2, _⟩ := dM h
   have := low u j hj g1
   subst this
   exact ⟨L', g2, .inl rfl⟩
theorem er_nil {g : Nat → Option Nat} : EnvRn s g [] := trivial
theorem s5 {g : Nat → Option Nat} {i : Nat} {x y : V} {l : List (Nat × V)} (h : eget s.env i = y) (hr : y.rn g = x) (t : EnvRn s g l) : EnvRn s g ((i, x) :: l) := ⟨by rw [← hr, ← h], t⟩
theorem hr_nil {n : Nat} : HeapRn s al n [] := trivial
theorem J0 {n j u sz : Nat} {rows rows' : List (List V)} {l : List (Nat × HB)} (hu : alg (swp al) j = some u) (h : hget s.heap u = some ⟨sz, rows⟩) (hj : Nat.blt j n = true) (hr : rnR (alg al) rows = rows') (t : HeapRn s al n l) : HeapRn s al n ((j, ⟨sz, rows'⟩) :: l) :=
 ⟨⟨Nat.le_of_ble_eq_true hj, u, rows, hu, h, hr⟩, t⟩
theorem eX {g : Nat → Option Nat} {row row' : List V} (h : V.rnL g row = row') : rnR g [row] = [row'] := by simp [rnR, h]
theorem rn_agg {g : Nat → Option Nat} {xs ys : List V} (h : V.rnL g xs = ys) : V.rn g (.agg xs) = .agg ys := by simp only [V.rn, h]
theorem jW {g : Nat → Option Nat} {u j i n : Nat} (h : g u = some j) : V.rn g (.hsl u i n) = .hsl j i n := by simp [V.rn, h]
theorem rn_mp {g : Nat → Option Nat} {u j k : Nat} (h : g u = some j) : V.rn g (.mp u k) = .mp j k := by simp [V.rn, h]
theorem lZ {g : Nat → Option Nat} {u j n i o : Nat} (h : g u = some j) : V.rn g (.ptr u n i o) = .ptr j n i o := by simp [V.rn, h]
end
end Go.Abs

namespace Go.Abs
section
variable {P : Program} {T : List TI} {s : St}
theorem src_hslX {u sz : Nat} {row : List V} {y : Operand} (hy : ev s y = .hsl u 0 1) (hu : hget s.heap u = some ⟨sz, [row]⟩) (hone : OneCs s row) : ∀ C w a, StRep C w a s → ∃ news, Src P C w sz [row] (a.eval y) news := fun C w a hs => by
 have hv := hs.ev y; rw [hy] at hv
 generalize a.eval y = v at hv
 obtain ⟨L, h1, h2, h3, h4, h5⟩ := G2 hs.heap hv hu (by rfl)
 unfold HSL at h5
 cases hb : L.blk with
 | none =>
  unfold Blk at h4; rw [hb] at h4
  exact absurd h4.1 (by simp)
 | some b =>
  rw [hb] at h5; simp only at h5
  obtain ⟨cs, el, fz, g1, g2, g3, g4, vals, g5⟩ := Q4 hb h5.1 h4
  rw [h5.2, Nat.zero_mul]
  have h2' : L.sz = sz := h2
  obtain ⟨k1, k2, k3⟩ := g5 0 row rfl
  rw [h2'] at k1
  have hlen : row.length = sz := by rw [← k3.length, k1]
  refine ⟨vals 0, fun w' => by simp [Builtin.lenOf], fun w' hw => ?_, by simp [k1], ⟨vals, fun i r hi => ?_⟩, fun u hu => uC hs k3 hone u hu, by unfold flatR; simp [pK hone]⟩
  ·refine run_firstCells_some w' sz 1 ⟨b, 0, none⟩ 1 _ (vals 0) (by simp [k1]) fun k v hk => ?_
   rw [J1, Nat.zero_add]
   have := k2 k v hk
   simp only [Nat.zero_mul, Nat.zero_add] at this
   exact hw.cell this
  ·cases i with
   | succ i => simp at hi
   | zero =>
    simp at hi; subst hi
    exact ⟨k1, fun j v hj => by simpa using hj, k3⟩
section
variable {ops : Array Oper} {d : Option Nat} {ty : Nat} {pos : String} {af : Array Edge} {gu : Option (Nat × Bool)} {r : List Oper} {K : St → Prop} {s1 : St}
theorem L3 {α : Type} (c : Cd α) {t tx e u uy l : Nat} {kd : TK} {sz bts : Nat} {z0 : List V} {ag : Bool} {x y : Operand} {xs : List α} {row : List V} (hb : (xs.length + 1) * bts ≤ 140737488355328) (hbts : Nat.beq bts 0 = false) (hT : TabOK P T) (hg : gd ops.toList s gu = some true) (ht : elemI T t = some (e, ⟨kd, sz, bts, z0, ag⟩)) (htx : notIntT T tx = true) (hz : Nat.beq z0.length sz = true) (hz0 : Nat.beq sz 0 = false)
 (hx : ev s x = .hsl u 0 xs.length) (hu : hget s.heap u = some ⟨sz, xs.map (c.enc l)⟩) (hy : ev s y = .hsl uy 0 1) (huy : hget s.heap uy = some ⟨sz, [row]⟩) (hone : OneCs s row)
 (hp : (s.wr u ⟨sz, xs.map (c.enc l) ++ [row]⟩).put d (.hsl u 0 (xs.length + 1)) = some s1) (h : AOps P ops r s1 K) :
 AOps P ops (⟨d, .call ⟨.builtin .append, ⟨[x, y]⟩, ⟨[t, tx]⟩⟩, ty, pos, af, gu⟩ :: r) s K := by
 have hb1 : 1 ≤ bts := by rcases Nat.eq_zero_or_pos bts with e | e; (simp [e] at hbts); exact e
 have hle : xs.length + 1 ≤ (xs.length + 1) * bts := Nat.le_mul_of_pos_right _ hb1
 refine s_append hT hg ht htx ⟨Nat.eq_of_beq_eq_true hz, fun e => by simp [e] at hz0⟩ hx hu (by simp) (src_hslX hy huy hone) ⟨by simpa using hb, by simp; omega⟩ ?_ h
 rw [← hp]
 simp
end
theorem at_app {rows : List (List V)} {row : List V} {n : Nat} (h : rows.length = n) : (rows ++ [row])[n]? = some row := by subst h; simp
theorem set_app {rows : List (List V)} {row row' : List V} {n : Nat} (h : rows.length = n) : (rows ++ [row]).set n row' = rows ++ [row'] := by subst h; simp
theorem cX {α : Type} (c : Cd α) {l : Nat} (xs : List α) (x : α) : xs.map (c.enc l) ++ [c.row l x] = (xs ++ [x]).map (c.enc l) := by simp [c.eq]
theorem Q2 (u v n m : Nat) {usz sz : Nat} {rows rs : List (List V)} (pre suf : List V) (hu : hget s.heap u = some ⟨usz, rows ++ [pre ++ .hsl v 0 n :: suf]⟩) (hm : rows.length = m) (hz : Nat.beq usz 0 = false) (hv : hget s.heap v = some ⟨sz, rs⟩) (hsz : Nat.beq sz 0 = false) (huv : Nat.beq u v = false) (hn : rs.length = n) (hdp : ∀ row ∈ rs, row.all dpV = true) {s' : St} (hs' : s.closed u v usz (rows ++ [pre ++ .psl 2 sz rs :: suf]) = s') : Le s s' :=
 D4 u v m n pre suf hu hz hv hsz huv hn (at_app hm) hdp (set_app hm) hs'
end
section
variable {P : Program} {T : List TI} {s : St}
end
theorem upJa (j : Nat) (r : List Nat) (n : Nat) : upJ (j :: r) n j = some n := by simp [upJ, dn]
theorem beq_ne {a b : Nat} (h : a ≠ b) : Nat.beq a b = false := by
 cases e : Nat.beq a b with
 | false => rfl
 | true => exact absurd (Nat.eq_of_beq_eq_true e) h
theorem dst_ne {j : Nat} {r : List Nat} (hd : distinct (j :: r) = true) {k : Nat} (hk : k ∈ r) : Nat.beq k j = false := by
 simp only [distinct, Bool.and_eq_true, Bool.not_eq_true'] at hd
 refine beq_ne fun e => ?_
 subst e
 obtain ⟨i, hi⟩ := List.getElem?_of_mem hk
 exact cG hd.1 i hi
theorem dst_tl {j : Nat} {r : List Nat} (hd : distinct (j :: r) = true) : distinct r = true := by
 simp only [distinct, Bool.and_eq_true] at hd
 exact hd.2
theorem upJb {j k : Nat} {r : List Nat} (hd : distinct (j :: k :: r) = true) (n : Nat) : upJ (j :: k :: r) n k = some (n + 1) := by
 have h1 := dst_ne hd (k := k) (by simp)
 simp [upJ, dn, h1]
theorem upJc {j k l : Nat} {r : List Nat} (hd : distinct (j :: k :: l :: r) = true) (n : Nat) : upJ (j :: k :: l :: r) n l = some (n + 2) := by
 have h1 := dst_ne hd (k := l) (by simp)
 have h2 := dst_ne (dst_tl hd) (k := l) (by simp)
 simp [upJ, dn, h1, h2]
end Go.Abs

namespace Go.Abs
structure PendX where
 d : Nat
 hbs : List HB
 y : Nat → V
def inR (R : List (Loc × List Nat)) (b : Nat) : Prop := ∃ q ∈ R, InP q b
structure XOK (C : Ctx) (w : World) (v : Value) (p : PendX) (R : List (Loc × List Nat)) : Prop where
 len : R.length = p.hbs.length
 priv : ∀ (i : Nat) q hb, R[i]? = some q → p.hbs[i]? = some hb → PrivS C w q.1 q.2 hb.rows ∧ q.1.sz = hb.sz
 dis : Disj R
 val : ∀ C1 w1 n, Ext C C1 w w1 → n + R.length ≤ C1.nx → (∀ (i : Nat) q, R[i]? = some q → C1.loc (n + i) = some q.1) → Rep C1 w1 v (p.y n)
theorem yS {C C' : Ctx} {w w' : World} (hz : C.lv 0 ∧ C.lv 1) (F : Fr C C' w w') {b : Nat} (hl : b < w.heap.size) (hu : Untr C b) : Untr C' b := by
 have ho : ¬ Own C' b := fun ho => by
  rcases F.own b ho with h | h
  ·exact hu.1 h
  ·omega
 refine ⟨ho, fun l hlv hr => ?_⟩
 rcases Nat.lt_or_ge l 2 with h | h
 ·have : l = 0 ∨ l = 1 := by omega
  rcases this with rfl | rfl
  ·exact hu.2 0 hz.1 (F.r0 b hr)
  ·rcases F.r1 b hr with h | h | h
   ·exact hu.2 1 hz.2 h
   ·exact hu.1 h
   ·omega
 ·exact ho (.inr (.inl ⟨l, h, hlv, hr⟩))
theorem PrivS.lt {C : Ctx} {w : World} {L : Loc} {S : List Nat} {rows : List (List V)} (h : PrivS C w L S rows) {b : Nat} (hb : InP (L, S) b) : b < w.heap.size := by
 rcases hb with hb | hb
 ·exact aK h.blk hb
 ·exact (h.low b hb).2.2
theorem PrivS.untr {C : Ctx} {w : World} {L : Loc} {S : List Nat} {rows : List (List V)} (h : PrivS C w L S rows) {b : Nat} (hb : InP (L, S) b) : Untr C b := by
 rcases hb with hb | hb
 ·exact h.root b hb
 ·exact (h.low b hb).1
theorem PrivS.mono {C C' : Ctx} {w w' : World} {L : Loc} {S : List Nat} {rows : List (List V)} (hz : C.lv 0 ∧ C.lv 1) (E : Ext C C' w w') (F : Fr C C' w w') (h : PrivS C w L S rows) : PrivS C' w' L S rows := by
 have kp : ∀ b, InP (L, S) b → w'.heap[b]? = w.heap[b]? := fun b hb => F.keep b (h.lt hb) (h.untr hb).1
 exact ⟨h.blk.mono E (fun b hb => kp b (.inl hb)), h.n, fun b hb => yS hz F (h.lt (.inl hb)) (h.root b hb), h.deep.mono (fun b hb => kp b (.inl hb)) (fun b hb => kp b (.inr hb)), h.nd,
  fun b hb => ⟨yS hz F (h.lt (.inr hb)) (h.low b hb).1, (h.low b hb).2.1, Nat.lt_of_lt_of_le (h.low b hb).2.2 F.size⟩⟩
theorem XOK.mono {C C' : Ctx} {w w' : World} {v : Value} {p : PendX} {R : List (Loc × List Nat)} (hz : C.lv 0 ∧ C.lv 1) (E : Ext C C' w w') (F : Fr C C' w w') (h : XOK C w v p R) : XOK C' w' v p R :=
 ⟨h.len, fun i q hb hq hh => ⟨(h.priv i q hb hq hh).1.mono hz E F, (h.priv i q hb hq hh).2⟩, h.dis, fun C1 w1 n e1 hn hl => h.val C1 w1 n (E.trans e1) hn hl⟩
theorem XOK.each {C : Ctx} {w : World} {v : Value} {p : PendX} {R : List (Loc × List Nat)} (h : XOK C w v p R) {b : Nat} (hb : inR R b) : b < w.heap.size ∧ Untr C b := by
 obtain ⟨q, hq, hi⟩ := hb
 obtain ⟨i, hi'⟩ := List.getElem?_of_mem hq
 have hil := (List.getElem?_eq_some_iff.1 hi').1
 have := (h.priv i q _ hi' (List.getElem?_eq_getElem (by rw [← h.len]; exact hil))).1
 exact ⟨this.lt hi, this.untr hi⟩
def St.adoptX : St → PendX → St
 | ⟨env, heap, nx, n, lv⟩, ⟨d, hbs, y⟩ => ⟨(d, y nx) :: env, heapL nx hbs heap, nx + hbs.length, n, lv⟩
def St.adoptsX : St → List PendX → St
 | s, [] => s
 | s, p :: r => (s.adoptX p).adoptsX r
def ApartX : List (List (Loc × List Nat)) → Prop
 | [] => True
 | R :: r => (∀ M ∈ r, ∀ b, inR R b → ¬ inR M b) ∧ ApartX r
theorem nN {w : World} {a : Act} : ∀ (ps : List PendX) (Rs : List (List (Loc × List Nat))) {C : Ctx} {s : St}, StRep C w a s → ps.length = Rs.length → (∀ (i : Nat) p R, ps[i]? = some p → Rs[i]? = some R → XOK C w (a.tmps.getD p.d undef) p R) → ApartX Rs →
 ∃ C', StRep C' w a (s.adoptsX ps) ∧ C'.reg = C.reg ∧ C'.lv = C.lv ∧ (∀ u, u < 8 → C'.loc u = C.loc u) ∧ (∀ b, Own C' b → Own C b ∨ ∃ R ∈ Rs, inR R b)
 | [], Rs, C, s, hs, _, _, _ => ⟨C, hs, rfl, rfl, fun _ _ => rfl, fun b h => .inl h⟩
 | p :: ps, [], C, s, hs, hl, _, _ => by simp at hl
 | p :: ps, R :: Rs, C, s, hs, hl, hp, hap => by
  have X := hp 0 p R rfl rfl
  obtain ⟨a1, a2, a3, a4, a5, a6, a7, a8⟩ := lC R p.hbs hs.heap X.len X.priv X.dis
  have hnx : C.nx = s.nx := hs.nx
  have hs1 : StRep (adoptL C R) w a (s.adoptX p) := by
   have hv := X.val (adoptL C R) w C.nx a2 (by rw [a3]; exact Nat.le_refl _) a4
   obtain ⟨d, hbs, y⟩ := p
   cases s with
   | mk env heap nx n lv =>
    dsimp only at hnx
    subst hnx
    refine ⟨hs.defers, hs.size, by rw [a3, X.len]; rfl, fun j => ?_, a1, by rw [a7]; exact hs.lv⟩
    simp only [St.adoptX, eget]
    rw [Bool.cond_eq_ite]
    split
    ·rename_i hj
     rw [Nat.beq_eq] at hj
     subst hj
     exact hv
    ·exact (hs.env j).mono a2
  obtain ⟨C', g1, g2, g3, g4, g5⟩ := nN ps Rs hs1 (by simpa using hl) (fun i p' R' hi hi' => by
   have X' := hp (i + 1) p' R' (by simpa using hi) (by simpa using hi')
   refine ⟨X'.len, fun j q hb hq hh => ?_, X'.dis, fun C1 w1 n e1 hn hl => X'.val C1 w1 n (a2.trans e1) hn hl⟩
   obtain ⟨P1, e1⟩ := X'.priv j q hb hq hh
   have key : ∀ b, InP (q.1, q.2) b → Untr (adoptL C R) b := fun b hb => by
    have hu := P1.untr hb
    refine ⟨fun ho => ?_, fun l h1 h2 => hu.2 l (by rw [← a7]; exact h1) (by rw [← a6]; exact h2)⟩
    rcases a8 b ho with h | ⟨r, hr, hi2⟩
    ·exact hu.1 h
    ·exact hap.1 R' (List.mem_of_getElem? hi') b ⟨r, hr, hi2⟩ ⟨q, List.mem_of_getElem? hq, hb⟩
   exact ⟨⟨P1.blk.mono a2 (fun _ _ => rfl), P1.n, fun b hb => key b (.inl hb), P1.deep, P1.nd, fun b hb => ⟨key b (.inr hb), (P1.low b hb).2⟩⟩, e1⟩) hap.2
  refine ⟨C', g1, g2.trans a6, g3.trans a7, fun u hu => ?_, fun b h => ?_⟩
  ·rw [g4 u hu]
   have := hs.heap.two
   exact a5 u (by omega)
  ·rcases g5 b h with h | ⟨M, hM, hb⟩
   ·rcases a8 b h with h | ⟨r, hr, hi⟩
    ·exact .inl h
    ·exact .inr ⟨R, by simp, r, hr, hi⟩
   ·exact .inr ⟨M, by simp [hM], hb⟩
def ONewX (P : Program) (s : St) (o : Oper) (p : PendX) : Prop :=
 ∀ C w a, StRep C w a s → ∀ (K : Act → World → Prop) (Q : Exit → Act → World → Prop),
  (∀ C' w' v R, XOK C' w' v p R → (∀ b, inR R b → w.heap.size ≤ b) → Ext C C' w w' → Fr C C' w w' → HSt C' w' s.heap → C'.nx = C.nx → (∀ l, C.lv l → C'.lv l) → K (a.put o.dst v) w') → o.wp P a w K Q
inductive YldX where
 | val (x : V)
 | new (p : PendX)
 | skip
def YldX.v : YldX → V
 | .val x => x
 | .new _ => .junk
 | .skip => .junk
def YldX.p : YldX → Option PendX
 | .new p => some p
 | _ => none
def YldX.sk : YldX → Bool
 | .skip => true
 | _ => false
def ydst (o : Oper) : YldX → Option Nat
 | .skip => none
 | _ => o.dst
def OYieldX (P : Program) (ops : List Oper) (o : Oper) (s : St) : YldX → Prop
 | .val x => OYield P ops o s x
 | .new p => gd ops (s.only (gSlots ops o)) o.guard = some true ∧ o.dst = some p.d ∧ ONewX P (s.only (opSlots o)) o p
 | .skip => True
theorem yieldX_same {P : Program} {ops : List Oper} {o : Oper} {s s' : St} {y : YldX} (he : ∀ t ∈ opSlots o ++ gSlots ops o, eget s.env t = eget s'.env t) (hh : s.heap = s'.heap) (hx : s.nx = s'.nx) (hn : s.n = s'.n) (hl : s.lv = s'.lv)
 (h : OYieldX P ops o s y) : OYieldX P ops o s' y := by
 cases y with
 | val x => exact sS he hh hx hn hl h
 | skip => trivial
 | new p =>
  obtain ⟨h1, h2, h3⟩ := h
  refine ⟨?_, h2, ?_⟩
  ·rw [← U8 (gSlots ops o) (fun t ht => he t (List.mem_append.2 (.inr ht))) hh hx hn hl]; exact h1
  ·rw [← U8 (opSlots o) (fun t ht => he t (List.mem_append.2 (.inl ht))) hh hx hn hl]; exact h3
def ADX (P : Program) (ops : List Oper) : List Oper → St → (List (Option Nat × YldX) → St → Prop) → Prop
 | [], s, K => K [] s
 | o :: r, s, K => ∃ y s1, OYieldX P ops o s y ∧ s.put (ydst o y) y.v = some s1 ∧ ADX P ops r s1 (fun l => K ((ydst o y, y) :: l))
def valsX (L : List (Option Nat × YldX)) : List (Option Nat × V) := L.map fun p => (p.1, p.2.v)
theorem adx_spec {P : Program} {ops : List Oper} : ∀ (l : List Oper) (s : St) (K : List (Option Nat × YldX) → St → Prop), ADX P ops l s K →
 ∃ L sf, K L sf ∧ L.length = l.length ∧ (∀ t, eget sf.env t = after (eget s.env) (valsX L) t) ∧ SameBut sf s ∧
  ∀ j o, l[j]? = some o → ∃ p sj, L[j]? = some p ∧ p.1 = ydst o p.2 ∧ OYieldX P ops o sj p.2 ∧ (∀ t, eget sj.env t = after (eget s.env) (valsX (L.take j)) t) ∧ SameBut sj s ∧ (∀ u, ydst o p.2 = some u → u < s.n)
 | [], s, K, h => ⟨[], s, h, rfl, fun _ => rfl, ⟨rfl, rfl, rfl, rfl⟩, fun j o hj => by simp at hj⟩
 | o :: r, s, K, h => by
  obtain ⟨x, s1, h1, h2, h3⟩ := h
  obtain ⟨L, sf, g1, g2, g3, g4, g5⟩ := adx_spec r s1 _ h3
  obtain ⟨p1, p2, p3, p4, p5, p6⟩ := nK h2
  have hE : eget s1.env = fun u => if ydst o x = some u then x.v else eget s.env u := funext p1
  refine ⟨(ydst o x, x) :: L, sf, g1, by simp [g2], fun t => by rw [g3 t, hE]; rfl, ⟨g4.heap.trans p2, g4.nx.trans p3, g4.n.trans p4, g4.lv.trans p5⟩, fun j o' hj => ?_⟩
  cases j with
  | zero =>
   simp at hj
   subst hj
   exact ⟨_, s, by simp; rfl, rfl, h1, fun t => by simp [after, valsX], ⟨rfl, rfl, rfl, rfl⟩, p6⟩
  | succ j =>
   obtain ⟨p, sj, q1, q2, q3, q4, q5, q6⟩ := g5 j o' (by simpa using hj)
   exact ⟨p, sj, by simpa using q1, q2, q3, fun t => by rw [q4 t, hE]; rfl, ⟨q5.heap.trans p2, q5.nx.trans p3, q5.n.trans p4, q5.lv.trans p5⟩, fun u hu => by rw [← p4]; exact q6 u hu⟩
section
variable {P : Program} {ops : List Oper} {m : Nat}
def MadeX (m : Nat) (pl : Nat → Option PendX) (n0 : Nat) (listed : Array Bool) (C : Ctx) (w : World) (a : Act) : Prop :=
 ∃ Rf : Nat → List (Loc × List Nat), (∀ i p, i < m → pl i = some p → listed.getD i false = true → XOK C w (a.tmps.getD p.d undef) p (Rf i) ∧ ∀ b, inR (Rf i) b → n0 ≤ b) ∧
  ∀ i j p q, i < m → j < m → i ≠ j → pl i = some p → pl j = some q → listed.getD i false = true → listed.getD j false = true → ∀ b, inR (Rf i) b → ¬ inR (Rf j) b
def unl (m : Nat) (listed : Array Bool) : Nat := ((List.range m).filter fun i => !listed.getD i false).length
theorem oE {s0 : St} {yl : Nat → YldX} {d1 : List Nat} {C0 : Ctx} {w0 : World} {Q : Exit → Act → World → Prop} {g : Nat} (hok : drawOk ops m = true)
 (hd1 : ∀ t, t < ops.length → (m ≤ t ∨ (yl t).sk = true) → ∀ i ∈ d1, anc ops ops.length t i = true) (hd2 : ∀ i ∈ d1, i < m)
 (hy : ∀ i o, i < m → ops[i]? = some o → (yl i).sk = false → ∃ si, OYieldX P ops o si (yl i) ∧ SameBut si s0 ∧ (∀ u, o.dst = some u → u < s0.n) ∧
  (∀ t, (∀ j, j < m → (yl j).sk = false → dstAt ops j = some t → j < i → eget si.env t = (yl j).v) ∧ ((∀ j, j < m → (yl j).sk = false → dstAt ops j = some t → ¬ j < i) → eget si.env t = eget s0.env t)))
 (hend : ∀ listed C w a s, StRep C w a s → Fr C0 C w0 w → Cur ops m (fun i => (yl i).v) s0 listed s → MadeX m (fun i => (yl i).p) w0.heap.size listed C w a → LInv ops listed → (∀ i ∈ d1, listed.getD i false = true) → (∀ i, listed.getD i false = true → i < m ∧ (yl i).sk = false) → wpAny P .any ⟨ops⟩ Q (unl m listed + g) listed a w) :
 ∀ (f : Nat) (listed : Array Bool) C w a s, unl m listed = f → StRep C w a s → Fr C0 C w0 w → Cur ops m (fun i => (yl i).v) s0 listed s → MadeX m (fun i => (yl i).p) w0.heap.size listed C w a → LInv ops listed → (∀ i, listed.getD i false = true → i < m ∧ (yl i).sk = false) →
  wpAny P .any ⟨ops⟩ Q (f + g) listed a w
 | f, listed, C, w, a, s, hf, hs, hF, hc, hM, inv, hno => by
  by_cases hall : ∀ i ∈ d1, listed.getD i false = true
  ·rw [← hf]; exact hend listed C w a s hs hF hc hM inv hall hno
  obtain ⟨i0, hi0d, hl0⟩ : ∃ i0, i0 ∈ d1 ∧ listed.getD i0 false = false := by
   rcases Classical.em (∃ i0, i0 ∈ d1 ∧ listed.getD i0 false = false) with h | h
   ·exact h
   ·exact absurd (fun i hi => by
     cases hl : listed.getD i false with
     | true => rfl
     | false => exact absurd ⟨i, hi, hl⟩ h) hall
  have hi0 := hd2 i0 hi0d
  obtain ⟨c1, c2, c3, c4, c5⟩ := chkAnd hok
  have hc5 : m ≤ ops.length := c5
  match f, hf with
  | 0, hf =>
   have := List.filter_eq_nil_iff.1 (List.length_eq_zero_iff.1 hf) i0 (List.mem_range.2 hi0)
   rw [hl0] at this
   exact absurd rfl this
  | f + 1, hf =>
  rw [show f + 1 + g = (f + g) + 1 by omega]
  obtain ⟨j0, _, hj0⟩ := hZ inv c1 i0 (by omega) hl0
  refine ⟨fun h0 => by rw [h0] at hj0; simp at hj0, fun i hi => ?_⟩
  obtain ⟨i1, i2, i3⟩ := X5 hi
  have hil : listed.getD i false = false := by rwa [dD (by rw [inv.size]; exact i2)] at i1
  have hnot : ¬ (m ≤ i ∨ (yl i).sk = true) := fun h => by
   have := K4 inv _ i i0 i3 (hd1 i i2 h i0 hi0d)
   rw [hl0] at this; cases this
  have him : i < m := by omega
  have hisk : (yl i).sk = false := by
   cases h : (yl i).sk with
   | false => rfl
   | true => exact absurd (.inr h) hnot
  have hoi : ops[i]? = some ops[i] := List.getElem?_eq_getElem i2
  have hop : (⟨ops⟩ : Array Oper)[i]? = some ops[i] := by simp [i2]
  obtain ⟨si, y1, y2, y3, y4⟩ := hy i ops[i] him hoi hisk
  have hdi : dstAt ops i = ops[i].dst := by simp [dstAt, hoi]
  have hsame : ∀ t ∈ opSlots ops[i] ++ gSlots ops ops[i], eget si.env t = eget s.env t := fun t ht => by
   by_cases hw : ∃ j, j < m ∧ dstAt ops j = some t
   ·obtain ⟨j, hj, hjt⟩ := hw
    have huniq : ∀ j', j' < m → dstAt ops j' = some t → j' = j := fun j' h1 h2 => I6 c3 h1 hj h2 hjt
    have hn : needs ops i = opSlots ops[i] ++ gSlots ops ops[i] := by simp [needs, hoi]
    have hck := List.all_eq_true.1 (List.all_eq_true.1 (List.all_eq_true.1 c2 i (List.mem_range.2 him)) t (by rw [hn]; exact ht)) j (List.mem_range.2 hj)
    simp only [Bool.or_eq_true, Bool.not_eq_true', hjt] at hck
    rcases Nat.lt_trichotomy j i with hlt | heq | hgt
    ·have hja : anc ops ops.length i j = true := by
      rcases hck with (h | h) | h
      ·rw [Nat.beq_eq] at h; omega
      ·simp at h
      ·rwa [show Nat.blt j i = true from by simpa using hlt] at h
     have hjl := K4 inv _ i j i3 hja
     rw [(y4 t).1 j hj (hno j hjl).2 hjt hlt, hc.on j t hj hjt hjl]
    ·subst heq
     rw [(y4 t).2 (fun j' h1 _ h2 => by rw [huniq j' h1 h2]; omega), hc.off t (fun j' h1 h2 => by rw [huniq j' h1 h2]; exact hil)]
    ·have hja : anc ops ops.length j i = true := by
      rcases hck with (h | h) | h
      ·rw [Nat.beq_eq] at h; omega
      ·simp at h
      ·rwa [show Nat.blt j i = false from Bool.eq_false_iff.2 (by rw [ne_eq, Nat.blt_eq]; omega)] at h
     have hjl : listed.getD j false = false := by
      cases hjl : listed.getD j false with
      | false => rfl
      | true =>
       have := K4 inv _ j i (fun k hk => inv.closed j k hjl hk) hja
       rw [hil] at this; cases this
     rw [(y4 t).2 (fun j' h1 _ h2 => by rw [huniq j' h1 h2]; omega), hc.off t (fun j' h1 h2 => by rw [huniq j' h1 h2]; exact hjl)]
   ·have hnone : ∀ j, j < m → dstAt ops j = some t → False := fun j h1 h2 => hw ⟨j, h1, h2⟩
    rw [(y4 t).2 (fun j h1 _ h2 => (hnone j h1 h2).elim), hc.off t (fun j h1 h2 => (hnone j h1 h2).elim)]
  have hyi : OYieldX P ops ops[i] s (yl i) := yieldX_same hsame (y2.heap.trans hc.mt.heap.symm) (y2.nx.trans hc.mt.nx.symm) (y2.n.trans hc.mt.n.symm) (y2.lv.trans hc.mt.lv.symm) y1
  obtain ⟨s1, hs1⟩ := put_of (s := s) (d := ops[i].dst) (x := (yl i).v) (fun u hu => by rw [hc.mt.n]; exact y3 u hu)
  obtain ⟨p1, p2, p3, p4, p5, p6⟩ := nK hs1
  have hcur : Cur ops m (fun i => (yl i).v) s0 (listed.setIfInBounds i true) s1 := by
   refine ⟨fun j t hj hjt hl => ?_, fun t ht => ?_, ⟨p2.trans hc.mt.heap, p3.trans hc.mt.nx, p4.trans hc.mt.n, p5.trans hc.mt.lv⟩⟩
   ·rw [p1 t]
    by_cases hji : j = i
    ·subst hji; rw [if_pos (by rw [← hdi]; exact hjt)]
    ·rw [getD_set_ne false (fun e => hji e.symm)] at hl
     rw [if_neg (fun e => hji (I6 c3 hj him hjt (by rw [hdi]; exact e)))]
     exact hc.on j t hj hjt hl
   ·rw [p1 t]
    have hne : ¬ ops[i].dst = some t := fun e => by
     have := ht i him (by rw [hdi]; exact e)
     simp [inv.size, i2] at this
    rw [if_neg hne]
    refine hc.off t (fun j hj hjt => ?_)
    have hji : j ≠ i := fun e => by subst e; exact hne (by rw [← hdi]; exact hjt)
    have := ht j hj hjt
    rwa [getD_set_ne false (fun e => hji e.symm)] at this
  have hinv2 := inv.set hi
  have hcnt : unl m (listed.setIfInBounds i true) = f := by
   have := vS m i (fun j => !listed.getD j false) (fun j => !(listed.setIfInBounds i true).getD j false) him (by simp [hil]) (by simp [inv.size, i2]) (fun j hj => by rw [getD_set_ne false (fun e => hj e.symm)])
   unfold unl at hf ⊢
   omega
  have hno2 : ∀ j, (listed.setIfInBounds i true).getD j false = true → j < m ∧ (yl j).sk = false := fun j hj => by
   by_cases hji : j = i
   ·subst hji; exact ⟨him, hisk⟩
   ·rw [getD_set_ne false (fun e => hji e.symm)] at hj; exact hno j hj
  have next : ∀ C' w' a', StRep C' w' a' s1 → Fr C0 C' w0 w' → MadeX m (fun i => (yl i).p) w0.heap.size (listed.setIfInBounds i true) C' w' a' → wpAny P .any ⟨ops⟩ Q (f + g) (listed.setIfInBounds i true) a' w' := fun C' w' a' h1 h2 h3 =>
   oE hok hd1 hd2 hy hend f _ C' w' a' s1 hcnt h1 h2 hcur h3 hinv2 hno2
  have hz : C.lv 0 ∧ C.lv 1 := ⟨hs.heap.zero.1, hs.heap.zero.2.1⟩
  have stay : ∀ C' w' v, Ext C C' w w' → Fr C C' w w' → ∀ Rf : Nat → List (Loc × List Nat), ∀ j p, j < m → j ≠ i → (yl j).p = some p → (XOK C w (a.tmps.getD p.d undef) p (Rf j) ∧ ∀ b, inR (Rf j) b → w0.heap.size ≤ b) → XOK C' w' ((a.put ops[i].dst v).tmps.getD p.d undef) p (Rf j) ∧ ∀ b, inR (Rf j) b → w0.heap.size ≤ b := fun C' w' v E F Rf j p hj hji hp h => by
   refine ⟨?_, h.2⟩
   have hjl : j < ops.length := by omega
   have hjs : (yl j).sk = false := by
    cases hyj : yl j with
    | skip => rw [hyj] at hp; cases hp
    | _ => rfl
   obtain ⟨sj, z1, _, _, _⟩ := hy j ops[j] hj (List.getElem?_eq_getElem hjl) hjs
   have hdj : ops[j].dst = some p.d := by
    cases hyj : yl j with
    | val x => rw [hyj] at hp; cases hp
    | skip => rw [hyj] at hp; cases hp
    | new p' =>
     rw [hyj] at hp z1
     simp only [YldX.p, Option.some.injEq] at hp
     subst hp
     exact z1.2.1
   rw [tW (fun e => hji (I6 c3 hj him (t := p.d) (by simp [dstAt, List.getElem?_eq_getElem hjl, hdj]) (by rw [hdi]; exact e)))]
   exact h.1.mono hz E F
  obtain ⟨Rf, m1, m2⟩ := hM
  have hlst : ∀ j, j ≠ i → (listed.setIfInBounds i true).getD j false = listed.getD j false := fun j hj => getD_set_ne false (fun e => hj e.symm)
  unfold wpOp
  rw [hop]
  simp only
  cases hyl : yl i with
  | skip => rw [hyl] at hisk; cases hisk
  | val x =>
   rw [hyl] at hyi hs1
   have made : ∀ C' w' v, Ext C C' w w' → Fr C C' w w' → MadeX m (fun i => (yl i).p) w0.heap.size (listed.setIfInBounds i true) C' w' (a.put ops[i].dst v) := fun C' w' v E F => by
    refine ⟨Rf, fun j p hj hp hl => ?_, fun j k p q hj hk hjk hp hq hlj hlk => ?_⟩
    ·have hji : j ≠ i := fun e => by subst e; simp [hyl, YldX.p] at hp
     rw [hlst j hji] at hl
     exact stay C' w' v E F Rf j p hj hji hp (m1 j p hj hp hl)
    ·have hji : j ≠ i := fun e => by subst e; simp [hyl, YldX.p] at hp
     have hki : k ≠ i := fun e => by subst e; simp [hyl, YldX.p] at hq
     rw [hlst j hji] at hlj
     rw [hlst k hki] at hlk
     exact m2 j k p q hj hk hjk hp hq hlj hlk
   rcases hyi with ⟨hg, hr⟩ | ⟨hg, hx⟩
   ·rw [if_pos (Y2 (ops := ⟨ops⟩) (N1 hs _) hg)]
    refine .inl (hr C w a (N1 hs _) _ Q (fun C' w' v r1 r2 r3 r4 r5 r6 => next C' w' _ ?_ (hF.trans r3) (made C' w' v r2 r3)))
    exact F6 ⟨hs.defers, hs.size, by rw [r5]; exact hs.nx, fun k => (hs.env k).mono r2, r4, fun l hl => r6 l (hs.lv l hl)⟩ r1 hs1
   ·rw [if_neg (by rw [Y2 (ops := ⟨ops⟩) (N1 hs _) hg]; simp)]
    have hs1' : s.put ops[i].dst (.tup []) = some s1 := by rw [← hx]; exact hs1
    exact next C w _ (F6 hs (.tup .nil) hs1') hF (made C w _ (Ext.refl _ _) (Fr.refl _ _))
  | new p =>
   rw [hyl] at hyi hs1
   obtain ⟨hg, hd, hr⟩ := hyi
   rw [if_pos (Y2 (ops := ⟨ops⟩) (N1 hs _) hg)]
   refine .inl (hr C w a (N1 hs _) _ Q (fun C' w' v R q1 q4 r2 r3 r4 r5 r6 => next C' w' _ ?_ (hF.trans r3) ?_))
   ·exact F6 (x := .junk) ⟨hs.defers, hs.size, by rw [r5]; exact hs.nx, fun k => (hs.env k).mono r2, r4, fun l hl => r6 l (hs.lv l hl)⟩ (.junk v) hs1
   ·refine ⟨fun j => if j = i then R else Rf j, fun j p' hj hp hl => ?_, fun j k p' q' hj hk hjk hp hq hlj hlk => ?_⟩
    ·by_cases hji : j = i
     ·subst hji
      simp only [hyl, YldX.p, Option.some.injEq] at hp
      subst hp
      simp only [if_pos]
      have hdn : p.d < s.n := p6 _ (by rw [hd])
      refine ⟨?_, fun b hb => Nat.le_trans hF.size (q4 b hb)⟩
      rw [hd]
      have : (a.put (some p.d) v).tmps.getD p.d undef = v := by
       have : p.d < a.tmps.size := by rw [hs.size]; exact hdn
       simp [Act.put, Array.getD, this]
      rw [this]
      exact q1
     ·rw [hlst j hji] at hl
      simp only [if_neg hji]
      exact stay C' w' v r2 r3 Rf j p' hj hji hp (m1 j p' hj hp hl)
    ·by_cases hji : j = i
     ·have hki : k ≠ i := fun e => hjk (hji.trans e.symm)
      simp only [if_pos hji, if_neg hki]
      rw [hlst k hki] at hlk
      intro b hb hb'
      have h1 := q4 b hb
      have h2 := ((m1 k q' hk hq hlk).1.each hb').1
      omega
     ·rw [hlst j hji] at hlj
      by_cases hki : k = i
      ·simp only [if_neg hji, if_pos hki]
       intro b hb hb'
       have h1 := q4 b hb'
       have h2 := ((m1 j p' hj hp hlj).1.each hb).1
       omega
      ·rw [hlst k hki] at hlk
       simp only [if_neg hji, if_neg hki]
       exact m2 j k p' q' hj hk hjk hp hq hlj hlk
def selE (f : Nat → Bool) : Nat → List (Option Nat × YldX) → List (Nat × V) → List (Nat × V)
 | _, [], env => env
 | k, (some d, y) :: r, env => selE f (k + 1) r (bif f k then (d, y.v) :: env else env)
 | k, (none, _) :: r, env => selE f (k + 1) r env
def selP (f : Nat → Bool) : Nat → List (Option Nat × YldX) → List PendX
 | _, [] => []
 | k, (_, .new p) :: r => bif f k then p :: selP f (k + 1) r else selP f (k + 1) r
 | k, (_, .val _) :: r => selP f (k + 1) r
 | k, (_, .skip) :: r => selP f (k + 1) r
theorem kI {f : Nat → Bool} {t : Nat} : ∀ (L : List (Option Nat × YldX)) (k : Nat) (env : List (Nat × V)), (∀ i y, L[i]? = some (some t, y) → f (k + i) = false) → eget (selE f k L env) t = eget env t
 | [], _, _, _ => rfl
 | (some d, y) :: r, k, env, h => by
  simp only [selE]
  rw [kI r (k + 1) _ (fun i y hi => by have := h (i + 1) y (by simpa using hi); rwa [show k + (i + 1) = k + 1 + i by omega] at this)]
  cases hf : f k with
  | false => rfl
  | true =>
   simp only [cond_true, eget]
   rw [Bool.cond_eq_ite, if_neg]
   intro e
   rw [Nat.beq_eq] at e
   have := h 0 y (by simp [e])
   rw [Nat.add_zero, hf] at this; cases this
 | (none, y) :: r, k, env, h => by
  simp only [selE]
  exact kI r (k + 1) _ (fun i y hi => by have := h (i + 1) y (by simpa using hi); rwa [show k + (i + 1) = k + 1 + i by omega] at this)
theorem selE_hit {f : Nat → Bool} {t : Nat} {y : YldX} : ∀ (L : List (Option Nat × YldX)) (k j : Nat) (env : List (Nat × V)), L[j]? = some (some t, y) → f (k + j) = true → (∀ i y', i ≠ j → L[i]? = some (some t, y') → False) → eget (selE f k L env) t = y.v
 | [], _, _, _, h, _, _ => by simp at h
 | (x, y0) :: r, k, 0, env, h, hf, hu => by
  simp at h
  obtain ⟨rfl, rfl⟩ := h
  simp only [selE]
  rw [kI r (k + 1) _ (fun i y hi => (hu (i + 1) y (by omega) (by simpa using hi)).elim)]
  rw [Nat.add_zero] at hf
  rw [hf]
  simp [eget]
 | (x, y0) :: r, k, j + 1, env, h, hf, hu => by
  have ih := fun env' => selE_hit (f := f) r (k + 1) j env' (by simpa using h) (by rwa [show k + 1 + j = k + (j + 1) by omega]) (fun i y' hi hy => hu (i + 1) y' (by omega) (by simpa using hy))
  cases x with
  | none => exact ih _
  | some d => exact ih _
theorem yF {f : Nat → Bool} {C : Ctx} {w : World} {a : Act} {n0 : Nat} {Rf : Nat → List (Loc × List Nat)} : ∀ (L : List (Option Nat × YldX)) (k : Nat), (∀ (i : Nat) x q, L[i]? = some (x, .new q) → f (k + i) = true → XOK C w (a.tmps.getD q.d undef) q (Rf (k + i)) ∧ ∀ b, inR (Rf (k + i)) b → n0 ≤ b) →
 (∀ (i j : Nat) x y p q, i ≠ j → L[i]? = some (x, .new p) → L[j]? = some (y, .new q) → f (k + i) = true → f (k + j) = true → ∀ b, inR (Rf (k + i)) b → ¬ inR (Rf (k + j)) b) →
 ∃ Rs : List (List (Loc × List Nat)), (selP f k L).length = Rs.length ∧ (∀ (i : Nat) p M, (selP f k L)[i]? = some p → Rs[i]? = some M → XOK C w (a.tmps.getD p.d undef) p M) ∧ ApartX Rs ∧ (∀ M ∈ Rs, ∃ i x q, L[i]? = some (x, .new q) ∧ f (k + i) = true ∧ M = Rf (k + i)) ∧ ∀ M ∈ Rs, ∀ b, inR M b → n0 ≤ b
 | [], k, _, _ => ⟨[], rfl, fun i p M h => by simp [selP] at h, trivial, fun M h => by simp at h, fun M h => by simp at h⟩
 | (x0, v) :: r, k, h1, h2 => by
  obtain ⟨Ls, g1, g2, g3, g4, g5⟩ := yF r (k + 1) (fun i x q hp hf => by
   have := h1 (i + 1) x q (by simpa using hp)
   rw [show k + (i + 1) = k + 1 + i by omega] at this
   exact this hf) (fun i j x y p q hij hp hq hf hf' b => by
   have := h2 (i + 1) (j + 1) x y p q (by omega) (by simpa using hp) (by simpa using hq)
   rw [show k + (i + 1) = k + 1 + i by omega, show k + (j + 1) = k + 1 + j by omega] at this
   exact this hf hf' b)
  have old : selP f k ((x0, v) :: r) = selP f (k + 1) r → ∃ Rs : List (List (Loc × List Nat)), (selP f k ((x0, v) :: r)).length = Rs.length ∧ (∀ (i : Nat) p M, (selP f k ((x0, v) :: r))[i]? = some p → Rs[i]? = some M → XOK C w (a.tmps.getD p.d undef) p M) ∧ ApartX Rs ∧ (∀ M ∈ Rs, ∃ i x q, ((x0, v) :: r)[i]? = some (x, .new q) ∧ f (k + i) = true ∧ M = Rf (k + i)) ∧ ∀ M ∈ Rs, ∀ b, inR M b → n0 ≤ b := fun e => by
   rw [e]
   refine ⟨Ls, g1, g2, g3, fun M hM => ?_, g5⟩
   obtain ⟨i, x, q, q1, q2, q3⟩ := g4 M hM
   exact ⟨i + 1, x, q, by simpa using q1, by rw [← q2]; congr 1; omega, by rw [q3]; congr 1; omega⟩
  cases v with
  | val _ => exact old rfl
  | skip => exact old rfl
  | new q =>
   cases hf : f k with
   | false => exact old (by simp [selP, hf])
   | true =>
    have e : selP f k ((x0, .new q) :: r) = q :: selP f (k + 1) r := by simp [selP, hf]
    rw [e]
    have h0 := h1 0 x0 q rfl (by rw [Nat.add_zero]; exact hf)
    rw [Nat.add_zero] at h0
    refine ⟨Rf k :: Ls, by simp [g1], fun i p M hp hM => ?_, ⟨fun M hM b hb => ?_, g3⟩, fun M hM => ?_, fun M hM => ?_⟩
    ·cases i with
     | zero => simp at hp hM; subst hp; subst hM; exact h0.1
     | succ i => exact g2 i p M (by simpa using hp) (by simpa using hM)
    ·obtain ⟨i, x, q', q1, q2, q3⟩ := g4 M hM
     rw [q3, show k + 1 + i = k + (i + 1) by omega]
     exact h2 0 (i + 1) x0 x q q' (by omega) rfl (by simpa using q1) (by rw [Nat.add_zero]; exact hf) (by rw [← q2]; congr 1; omega) b (by rw [Nat.add_zero]; exact hb)
    ·rcases List.mem_cons.1 hM with rfl | hM
     ·exact ⟨0, x0, q, rfl, by rw [Nat.add_zero]; exact hf, by rw [Nat.add_zero]⟩
     ·obtain ⟨i, x, q', q1, q2, q3⟩ := g4 M hM
      exact ⟨i + 1, x, q', by simpa using q1, by rw [← q2]; congr 1; omega, by rw [q3]; congr 1; omega⟩
    ·rcases List.mem_cons.1 hM with rfl | hM
     ·exact h0.2
     ·exact g5 M hM
theorem same_adoptX {s s' : St} (p : PendX) (h : Same s s') : Same (s.adoptX p) (s'.adoptX p) := by
 obtain ⟨d, hbs, y⟩ := p
 cases s; cases s'
 obtain ⟨h1, h2, h3, h4, h5⟩ := h
 dsimp only at h1 h2 h3 h4 h5
 subst h2; subst h3; subst h4; subst h5
 exact ⟨fun t => by simp only [St.adoptX, eget]; rw [h1 t], rfl, rfl, rfl, rfl⟩
theorem mJ : ∀ (ps : List PendX) {s s' : St}, Same s s' → Same (s.adoptsX ps) (s'.adoptsX ps)
 | [], _, _, h => h
 | p :: ps, _, _, h => mJ ps (same_adoptX p h)
theorem adoptsX_fr {C0 C C' : Ctx} {w0 w : World} {Rs : List (List (Loc × List Nat))} (F : Fr C0 C w0 w) (h1 : C'.reg = C.reg) (h3 : ∀ u, u < 8 → C'.loc u = C.loc u) (h4 : ∀ b, Own C' b → Own C b ∨ ∃ R ∈ Rs, inR R b) (h5 : ∀ R ∈ Rs, ∀ b, inR R b → w0.heap.size ≤ b) : Fr C0 C' w0 w where
 size := F.size
 keep := F.keep
 own b hb := by
  rcases h4 b hb with g | ⟨R, hR, g⟩
  ·exact F.own b g
  ·exact .inr (h5 R hR b g)
 r0 b hb := F.r0 b (by rw [← h1]; exact hb)
 r1 b hb := F.r1 b (by rw [← h1]; exact hb)
 os := F.os
 out := F.out
 low u hu L' h := F.low u hu L' (by rw [← h3 u hu]; exact h)
def skAt (L : List (Option Nat × YldX)) (i : Nat) : Bool := match L[i]? with | some (_, y) => y.sk | none => false
def okY (ops : List Oper) (m : Nat) (d1 : List Nat) (L : List (Option Nat × YldX)) : Bool :=
 ((List.range ops.length).all fun t => (Nat.blt t m && !skAt L t) || d1.all fun i => anc ops ops.length t i) && d1.all (fun i => Nat.blt i m)
def subs : List Nat → List (List Nat)
 | [] => [[]]
 | x :: r => subs r ++ (subs r).map (x :: ·)
theorem oJ (p : Nat → Bool) : ∀ l : List Nat, l.filter p ∈ subs l
 | [] => by simp [subs]
 | x :: r => by
  have ih := oJ p r
  cases h : p x <;> simp [subs, h, ih]
def flts (m : Nat) (d1 : List Nat) (L : List (Option Nat × YldX)) : List Nat := (List.range m).filter fun i => !skAt L i && !memb i d1
def clsd (ops : List Oper) (d1 F : List Nat) : Bool := F.all fun i => (deps ops i).all fun k => memb k d1 || memb k F
def lsel (d1 F : List Nat) (i : Nat) : Bool := memb i d1 || memb i F
def larr (n : Nat) (f : Nat → Bool) : Array Bool := ⟨(List.range n).map f⟩
theorem dL {i : Nat} : ∀ {l : List Nat}, memb i l = true ↔ i ∈ l
 | [] => by simp [memb]
 | a :: r => by
  simp only [memb, Bool.cond_eq_ite, List.mem_cons]
  split
  ·rename_i h; rw [Nat.beq_eq] at h; simp [h]
  ·rename_i h
   rw [Nat.beq_eq] at h
   rw [dL]; simp [h]
def AllS (Φ : List Nat → Prop) : List (List Nat) → Prop
 | [] => True
 | F :: r => Φ F ∧ AllS Φ r
theorem allS_mem {Φ : List Nat → Prop} : ∀ {l : List (List Nat)}, AllS Φ l → ∀ F ∈ l, Φ F
 | _ :: _, h, F, hF => by
  rcases List.mem_cons.1 hF with rfl | hF
  ·exact h.1
  ·exact allS_mem h.2 F hF
def Left (P : Program) (ops : List Oper) (m : Nat) (J : St) (d1 : List Nat) (s0 : St) (L : List (Option Nat × YldX)) (F : List Nat) : Prop :=
 ∃ (k : Nat) (s2 : St), unl m (larr ops.length (lsel d1 F)) = k ∧ ({ s0 with env := selE (lsel d1 F) 0 L s0.env } : St).adoptsX (selP (lsel d1 F) 0 L) = s2 ∧ APerm P ops m J k (larr ops.length (lsel d1 F)) s2
theorem at_drawnX {id : Nat} {l : List Oper} {s : St} {K : Exit → St → Prop} (m : Nat) (d1 : List Nat) (J : St) (hm : P.follows .mixedOrders = true) (hok : drawOk l m = true)
 (h : ADX P l (l.take m) s (fun L _ => okY l m d1 L = true ∧ AllS (Left P l m J d1 s L) ((subs (flts m d1 L)).filter (clsd l d1)))) (hJ : AOps P ⟨l⟩ (l.drop m) J (fun s' => K .normal s')) : AT P (.region id ⟨l⟩ true) s K := by
 intro C w a hs
 obtain ⟨c1, c2, c3, c4, c5⟩ := chkAnd hok
 have c5' : m ≤ l.length := c5
 obtain ⟨L, sf, ⟨k0, k1⟩, g2, g3, g4, g5⟩ := adx_spec _ _ _ h
 have hlen : (l.take m).length = m := by simp; omega
 rw [hlen] at g2
 have hw : Agree w { w with drawn := w.drawn + 1 } := ⟨Nat.le_refl _, fun _ _ => rfl, rfl, rfl⟩
 have hs0 : StRep C { w with drawn := w.drawn + 1 } a s := bU hs hw
 let yl : Nat → YldX := fun i => (L.getD i (none, .skip)).2
 have hval : ∀ i p, L[i]? = some p → yl i = p.2 := fun i p hp => by simp [yl, List.getD, hp]
 have hget : ∀ i, i < m → ∃ o p, l[i]? = some o ∧ L[i]? = some p ∧ p.1 = ydst o p.2 := fun i hi => by
  have hil : i < l.length := by omega
  obtain ⟨p, _, q1, q2, _⟩ := g5 i l[i] (by rw [List.getElem?_take, if_pos hi]; exact List.getElem?_eq_getElem hil)
  exact ⟨_, p, List.getElem?_eq_getElem hil, q1, q2⟩
 have hLm : ∀ i p, L[i]? = some p → i < m := fun i p hp => by
  have := (List.getElem?_eq_some_iff.1 hp).1; omega
 have hdst : ∀ j p, L[j]? = some p → (yl j).sk = false → p.1 = dstAt l j := fun j p hp hsk => by
  obtain ⟨o, p', h1, h2, h3⟩ := hget j (hLm j p hp)
  rw [hp] at h2; simp only [Option.some.injEq] at h2; subst h2
  rw [hval j p hp] at hsk
  rw [h3]
  have e : dstAt l j = o.dst := by simp [dstAt, h1]
  rw [e]
  cases hy : p.2 with
  | skip => rw [hy] at hsk; cases hsk
  | _ => rfl
 have hnone : ∀ j p, L[j]? = some p → (yl j).sk = true → p.1 = none := fun j p hp hsk => by
  obtain ⟨o, p', h1, h2, h3⟩ := hget j (hLm j p hp)
  rw [hp] at h2; simp only [Option.some.injEq] at h2; subst h2
  rw [hval j p hp] at hsk
  rw [h3]
  cases hy : p.2 with
  | skip => rfl
  | val _ => rw [hy] at hsk; cases hsk
  | new _ => rw [hy] at hsk; cases hsk
 have hskL : ∀ i, i < m → skAt L i = (yl i).sk := fun i hi => by
  obtain ⟨o, p, _, h2, _⟩ := hget i hi
  simp [skAt, h2, hval i p h2]
 have hvget : ∀ (j : Nat) p, L[j]? = some p → (valsX L)[j]? = some (p.1, p.2.v) := fun j p hp => by simp [valsX, hp]
 have hvtake : ∀ k : Nat, valsX (L.take k) = (valsX L).take k := fun k => by simp [valsX, List.map_take]
 have reads : ∀ (E : Nat → V) (k t : Nat), k ≤ m → (∀ j, j < m → (yl j).sk = false → dstAt l j = some t → j < k → after E ((valsX L).take k) t = (yl j).v) ∧ ((∀ j, j < m → (yl j).sk = false → dstAt l j = some t → ¬ j < k) → after E ((valsX L).take k) t = E t) := fun E k t hk => by
  refine ⟨fun j hj hjs hjt hjk => ?_, fun hnone' => ?_⟩
  ·obtain ⟨o, p, _, hp, _⟩ := hget j hj
   have h1 := hdst j p hp hjs
   rw [hval j p hp]
   refine nO _ E t j (p.1, p.2.v) (by rw [List.getElem?_take, if_pos hjk]; exact hvget j p hp) (by show p.1 = some t; rw [h1]; exact hjt) (fun j' q hne hq => ?_)
   rw [List.getElem?_take] at hq
   split at hq
   ·have hj' : j' < m := by omega
    obtain ⟨o', p', _, hp', _⟩ := hget j' hj'
    rw [hvget j' p' hp'] at hq
    simp only [Option.some.injEq] at hq
    subst hq
    intro e
    cases hs' : (yl j').sk with
    | true => have := hnone j' p' hp' hs'; rw [show p'.1 = some t from e] at this; cases this
    | false => exact hne (I6 c3 hj' hj (by rw [← hdst j' p' hp' hs']; exact e) hjt)
   ·simp at hq
  ·refine fR _ E t (fun p hp => ?_)
   obtain ⟨j, hj⟩ := List.getElem?_of_mem hp
   rw [List.getElem?_take] at hj
   split at hj
   ·have hj' : j < m := by omega
    obtain ⟨o', p', _, hp', _⟩ := hget j hj'
    rw [hvget j p' hp'] at hj
    simp only [Option.some.injEq] at hj
    subst hj
    intro e
    cases hs' : (yl j).sk with
    | true => have := hnone j p' hp' hs'; rw [show p'.1 = some t from e] at this; cases this
    | false => exact hnone' j hj' hs' (by rw [← hdst j p' hp' hs']; exact e) (by assumption)
   ·simp at hj
 unfold okY at k0
 rw [Bool.and_eq_true, List.all_eq_true, List.all_eq_true] at k0
 obtain ⟨k2, k3⟩ := k0
 refine wp_region_any hm ?_
 have hsz : (⟨l⟩ : Array Oper).size = m + (l.length - m) := by show l.length = _; omega
 rw [hsz]
 have hinv0 : LInv l (Array.replicate (m + (l.length - m)) false) := ⟨by simp; omega, fun i k hi _ => by rw [J2] at hi; cases hi⟩
 refine oE (s0 := s) (yl := yl) (d1 := d1) (C0 := C) (w0 := w) hok ?_ ?_ ?_ ?_ m _ C _ a s ?_ hs0 (fS hw) ⟨fun i t _ _ hl => ?_, fun t _ => rfl, ⟨rfl, rfl, rfl, rfl⟩⟩ ⟨fun _ => [], (fun i p _ _ hl => by rw [J2] at hl; cases hl), (fun i j p q _ _ _ _ _ hl => by rw [J2] at hl; cases hl)⟩ hinv0 (fun i hi => by rw [J2] at hi; cases hi)
 ·intro t ht hor i hi
  have := k2 t (List.mem_range.2 ht)
  rw [Bool.or_eq_true] at this
  rcases this with h | h
  ·rw [Bool.and_eq_true, Nat.blt_eq, Bool.not_eq_true'] at h
   rcases hor with h' | h'
   ·omega
   ·rw [hskL t h.1, h'] at h; cases h.2
  ·exact List.all_eq_true.1 h i hi
 ·intro i hi
  have := k3 i hi
  exact Nat.le_of_ble_eq_true this
 ·intro i o hi ho hsk
  obtain ⟨p, sj, q1, q2, q3, q4, q5, q6⟩ := g5 i o (by rw [List.getElem?_take, if_pos hi]; exact ho)
  have hyd : ydst o p.2 = o.dst := by
   have := hdst i p q1 hsk
   rw [← q2, this]; simp [dstAt, ho]
  refine ⟨sj, by rw [hval i p q1]; exact q3, q5, by rw [← hyd]; exact q6, fun t => ?_⟩
  have := reads (eget s.env) i t (by omega)
  rw [q4 t, hvtake]
  exact this
 ·intro listed C' w' a' s' r1 r2 r3 rM r4 r5 r6
  let F := (flts m d1 L).filter fun i => listed.getD i false
  have hfl : ∀ i, listed.getD i false = true → i ∈ d1 ∨ i ∈ F := fun i h => by
   by_cases hd : i ∈ d1
   ·exact .inl hd
   ·refine .inr (List.mem_filter.2 ⟨List.mem_filter.2 ⟨List.mem_range.2 (r6 i h).1, ?_⟩, h⟩)
    rw [Bool.and_eq_true, hskL i (r6 i h).1, (r6 i h).2]
    refine ⟨rfl, ?_⟩
    rw [Bool.not_eq_true']
    cases hmb : memb i d1 with
    | false => rfl
    | true => exact absurd (dL.1 hmb) hd
  have hF : F ∈ (subs (flts m d1 L)).filter (clsd l d1) := by
   refine List.mem_filter.2 ⟨oJ _ _, List.all_eq_true.2 fun i hi => List.all_eq_true.2 fun k hk => ?_⟩
   rw [Bool.or_eq_true, dL, dL]
   exact hfl k (r4.closed i k (List.mem_filter.1 hi).2 hk)
  obtain ⟨k, s2, p1, p2, p3⟩ := allS_mem k1 F hF
  have hsel : ∀ i, i < l.length → lsel d1 F i = listed.getD i false := fun i hi => by
   unfold lsel
   rw [Bool.eq_iff_iff, Bool.or_eq_true, dL, dL]
   constructor
   ·rintro (h | h)
    ·exact r5 i h
    ·exact (List.mem_filter.1 h).2
   ·intro h
    by_cases hd : i ∈ d1
    ·exact .inl hd
    ·refine .inr (List.mem_filter.2 ⟨List.mem_filter.2 ⟨List.mem_range.2 (r6 i h).1, ?_⟩, h⟩)
     rw [Bool.and_eq_true, hskL i (r6 i h).1, (r6 i h).2]
     refine ⟨rfl, ?_⟩
     rw [Bool.not_eq_true']
     cases hmb : memb i d1 with
     | false => rfl
     | true => exact absurd (dL.1 hmb) hd
  have hl2 : larr l.length (lsel d1 F) = listed := by
   apply Array.ext
   ·rw [r4.size]; simp [larr]
   ·intro i h1 h2
    have hi : i < l.length := by simpa [larr] using h1
    have := hsel i hi
    rw [Array.getD_eq_getD_getElem?, Array.getElem?_eq_getElem h2] at this
    simpa [larr] using this
  rw [hl2] at p1 p3
  have hsame : Same s' ({ s with env := selE (lsel d1 F) 0 L s.env } : St) := by
   refine ⟨fun t => ?_, r3.mt.heap, r3.mt.nx, r3.mt.n, r3.mt.lv⟩
   show eget s'.env t = eget (selE (lsel d1 F) 0 L s.env) t
   by_cases hw2 : ∃ j, j < m ∧ dstAt l j = some t ∧ listed.getD j false = true
   ·obtain ⟨j, hj, hjt, hjl⟩ := hw2
    obtain ⟨o, p, _, hp, _⟩ := hget j hj
    have hjs := (r6 j hjl).2
    have hp1 : L[j]? = some (some t, p.2) := by rw [hp, ← hjt, ← hdst j p hp hjs]
    rw [r3.on j t hj hjt hjl, selE_hit L 0 j _ hp1 (by rw [Nat.zero_add, hsel j (by omega)]; exact hjl) (fun i y' hne hi => by
     have hi' := hLm i _ hi
     cases hs' : (yl i).sk with
     | true => have := hnone i _ hi hs'; cases this
     | false => exact hne (I6 c3 hi' hj (by rw [← hdst i _ hi hs']) hjt))]
    rw [hval j p hp]
   ·rw [r3.off t (fun j h1 h2 => by
     cases hl : listed.getD j false with
     | false => rfl
     | true => exact absurd ⟨j, h1, h2, hl⟩ hw2), kI L 0 _ (fun i y hi => by
     rw [Nat.zero_add]
     have hi' := hLm i _ hi
     rw [hsel i (by omega)]
     cases hl : listed.getD i false with
     | false => rfl
     | true =>
      have := hdst i _ hi (r6 i hl).2
      exact absurd ⟨i, hi', this.symm, hl⟩ hw2)]
  obtain ⟨Rf, m1, m2⟩ := rM
  obtain ⟨Rs, t1, t2, t3, _, t5⟩ := yF (f := lsel d1 F) (Rf := Rf) (C := C') (w := w') (a := a') (n0 := w.heap.size) L 0 (fun i x q hp hf => by
   rw [Nat.zero_add] at hf ⊢
   have hi := hLm i _ hp
   rw [hsel i (by omega)] at hf
   exact m1 i q hi (by show (yl i).p = _; rw [hval i _ hp]; rfl) hf) (fun i j x y p q hij hp hq hf hf' b => by
   rw [Nat.zero_add] at hf hf' ⊢
   rw [Nat.zero_add]
   have hi := hLm i _ hp
   have hj := hLm j _ hq
   rw [hsel i (by omega)] at hf
   rw [hsel j (by omega)] at hf'
   exact m2 i j p q hi hj hij (by show (yl i).p = _; rw [hval i _ hp]; rfl) (by show (yl j).p = _; rw [hval j _ hq]; rfl) hf hf' b)
  obtain ⟨C2, e1, e2, e3, e4, e5⟩ := nN (selP (lsel d1 F) 0 L) Rs r1 t1 t2 t3
  have F2 := adoptsX_fr r2 e2 e4 e5 t5
  have hs2 : Same (s'.adoptsX (selP (lsel d1 F) 0 L)) s2 := by rw [← p2]; exact mJ _ hsame
  have key := kR (K := fun s' => K .normal s') (C0 := C) (w0 := w) (Q := Post C w K) (g := l.length - m) hok (by omega) (fun C' w' a' s' h1 h2 h3 => ⟨C', s', h1, h2, h3⟩) hJ k listed s2 C2 w' a' p3 r4 (fun i h1 h2 => by
   cases hl : listed.getD i false with
   | true => have := (r6 i hl).1; omega
   | false => rw [dD (by rw [r4.size]; exact h2)]; exact hl) (hs2.rep e1) F2
  rw [p1]
  exact key
 ·have : unl m (Array.replicate (m + (l.length - m)) false) = m := by
   unfold unl
   have : ((List.range m).filter fun i => !(Array.replicate (m + (l.length - m)) false).getD i false) = List.range m := List.filter_eq_self.2 fun i _ => by rw [J2]; rfl
   rw [this]; simp
  rw [this]
 ·rw [J2] at hl; cases hl
end
section
variable {P : Program} {T : List TI} {ops : List Oper} {s s1 : St} {d : Option Nat} {ty : Nat} {pos : String} {af : Array Edge} {gu : Option (Nat × Bool)} {r : List Oper} {N : List (Option Nat × YldX) → Prop} {pd : List (Option Nat × YldX)}
def DX (P : Program) (ops l : List Oper) (s : St) (pd : List (Option Nat × YldX)) (N : List (Option Nat × YldX) → Prop) : Prop := ADX P ops l s (fun L _ => N (pd ++ L))
theorem nB {ops : List Oper} : ∀ (l : List Oper) (s : St) {K K' : List (Option Nat × YldX) → St → Prop}, (∀ L t, K' L t → K L t) → ADX P ops l s K' → ADX P ops l s K
 | [], s, K, K', hk, g => hk [] s g
 | o :: r, s, K, K', hk, ⟨x, s1, g1, g2, g3⟩ => ⟨x, s1, g1, g2, nB r s1 (fun L t hK => hk _ t hK) g3⟩
theorem nT {id : Nat} {l : List Oper} {s : St} {K : Exit → St → Prop} (m : Nat) (d1 : List Nat) (J : St) (hm : P.follows .mixedOrders = true) (hok : drawOk l m = true)
 (h : DX P l (l.take m) s [] (fun L => okY l m d1 L = true ∧ AllS (Left P l m J d1 s L) ((subs (flts m d1 L)).filter (clsd l d1)))) (hJ : AOps P ⟨l⟩ (l.drop m) J (fun s' => K .normal s')) : AT P (.region id ⟨l⟩ true) s K := at_drawnX m d1 J hm hok h hJ
theorem dx_nil (h : N pd) : DX P ops [] s pd N := by
 show N (pd ++ [])
 rw [List.append_nil]; exact h
theorem dx_val {o : Oper} {x : V} (hy : OYield P ops o s x) (hp : s.put o.dst x = some s1) (h : DX P ops r s1 (pd ++ [(o.dst, .val x)]) N) : DX P ops (o :: r) s pd N :=
 ⟨.val x, s1, hy, hp, nB r s1 (fun L t hK => by rw [List.append_assoc] at hK; exact hK) h⟩
theorem dx_new {o : Oper} {p : PendX} (hg : gd ops (s.only (gSlots ops o)) o.guard = some true) (hd : o.dst = some p.d) (h0 : ONewX P (s.only (opSlots o)) o p) (hp : s.put o.dst .junk = some s1) (h : DX P ops r s1 (pd ++ [(o.dst, .new p)]) N) : DX P ops (o :: r) s pd N :=
 ⟨.new p, s1, ⟨hg, hd, h0⟩, hp, nB r s1 (fun L t hK => by rw [List.append_assoc] at hK; exact hK) h⟩
theorem tE {o : Oper} (h : DX P ops r s (pd ++ [(none, .skip)]) N) : DX P ops (o :: r) s pd N :=
 ⟨.skip, s, trivial, rfl, nB r s (fun L t hK => by rw [List.append_assoc] at hK; exact hK) h⟩
def dstepX (T : List TI) (ops : List Oper) (s : St) (o : Oper) : Option (St × V) :=
 match gd ops (s.only (gSlots ops o)) o.guard with
 | some true => (match pstep T (s.only (opSlots o)) o.op with
  | some v => (match s.put o.dst v with | some s' => some (s', v) | none => none)
  | none => none)
 | some false => (match s.put o.dst (.tup []) with | some s' => some (s', .tup []) | none => none)
 | none => none
theorem xv {op : Op} {x : V} (hg : gd ops (s.only (gSlots ops ⟨d, op, ty, pos, af, gu⟩)) gu = some true)
 (hx : OpVal P (s.only (opSlots ⟨d, op, ty, pos, af, gu⟩)) op x) (hp : s.put d x = some s1) (h : DX P ops r s1 (pd ++ [(d, .val x)]) N) : DX P ops (⟨d, op, ty, pos, af, gu⟩ :: r) s pd N :=
 dx_val (.inl ⟨hg, orun_val hx⟩) hp h
theorem xx {o : Oper} {s' : St} {x : V} (hT : TabOK P T) (hx : dstepX T ops s o = some (s', x)) (h : DX P ops r s' (pd ++ [(o.dst, .val x)]) N) : DX P ops (o :: r) s pd N := by
 unfold dstepX at hx
 split at hx
 ·rename_i hg
  split at hx
  ·rename_i v hv
   split at hx
   ·rename_i s2 hs2
    simp only [Option.some.injEq, Prod.mk.injEq] at hx
    obtain ⟨rfl, rfl⟩ := hx
    obtain ⟨d, op, ty, pos, af, gu⟩ := o
    exact xv hg (eV hT hv) hs2 h
   ·cases hx
  ·simp at hx
 ·rename_i hg
  split at hx
  ·rename_i s2 hs2
   simp only [Option.some.injEq, Prod.mk.injEq] at hx
   obtain ⟨rfl, rfl⟩ := hx
   exact dx_val (.inr ⟨hg, rfl⟩) hs2 h
  ·cases hx
 ·simp at hx
section
variable {l : List Oper} {g : Nat} {p : Prop} [Decidable p] {R : Type} {e1 e2 : Option R} {q : R}
end
end
theorem rl_ext {f : Nat → Nat} {C C1 C2 : Ctx} {w w1 w2 : World} (R : Rl f C C1 w w1) (E : Ext C1 C2 w1 w2) : Rl f C C2 w w2 :=
 ⟨fun l hl => Nat.lt_of_lt_of_le (R.lt l hl) E.nx, fun l hl h => R.lv l hl (E.lv _ (R.lt l hl) h), fun l b hl h hb => by
  have h1 := R.reg l b hl (E.lv _ (R.lt l hl) h) hb
  have h2 := E.reg _ b (R.lt l hl) h h1.1
  exact ⟨h2.1, h2.2.trans h1.2⟩⟩
theorem onewX_call {P : Program} {s : St} {f : FuncId} {args : List Operand} {args' : List V} {tys : Array TypeId} {ty : Nat} {pos : String} {af : Array Edge} {gu : Option (Nat × Bool)} {R : V → List (Nat × HB) → Prop} {p : PendX}
 (hc : FC P f args' [] 8 R) (hv : RdL s (evL s args) args')
 (hk : ∀ x h2, R x h2 → ∃ js : List Nat, distinct js = true ∧ js.map (hget h2) = p.hbs.map some ∧ (∀ hb ∈ p.hbs, V.rlR f01 hb.rows = hb.rows) ∧ ∀ n, x.rnA (upJ js n) = p.y n) :
 ONewX P s ⟨some p.d, .call ⟨.value (.func f), ⟨args⟩, tys⟩, ty, pos, af, gu⟩ p := by
 intro C w a hs K Q hK
 obtain ⟨⟨fn, h1, h2, h3⟩, hcall⟩ := hc
 have e : (execOp a.eval ⟨some p.d, .call ⟨.value (.func f), ⟨args⟩, tys⟩, ty, pos, af, gu⟩).run P w = .ok (.enter f ⟨args.map a.eval⟩) w := by
  simp only [execOp, resolve, Act.eval, Deferred.ofValue, Sem.run_bind, Sem.run_pure, Result.andThen_ok, invoke, callFunc, run_program, h1, h2, h3]
  simp
 unfold Oper.wp
 rw [e, Oper.upon_enter]
 refine (hcall (C.callee (· < w.heap.size)) w ⟨args.map a.eval⟩ rfl (eI C w (fun b h => h) hs.heap.tabC) (uF hs hv (gX hs args))).mono ?_
 rintro e w' ⟨v, C2, x, h2, rfl, e2, e3, F, e5⟩
 obtain ⟨js, hdj, hrows, hrl, hy⟩ := hk x h2 e5
 obtain ⟨b1, b2⟩ := sX hs F e2
 have A := U2 F
 have R := back_rl hs.heap F e2
 have hlen : js.length = p.hbs.length := by simpa using congrArg List.length hrows
 have hget' : ∀ (i : Nat) j hb, js[i]? = some j → p.hbs[i]? = some hb → hget h2 j = some hb := fun i j hb h1 h3 => by
  have := congrArg (fun l => l[i]?) hrows
  simpa [h1, h3] using this
 have hsome : ∀ j ∈ js, (hget h2 j).isSome = true := fun j hj => by
  obtain ⟨i, hi⟩ := List.getElem?_of_mem hj
  have hil := (List.getElem?_eq_some_iff.1 hi).1
  rw [hget' i j _ hi (List.getElem?_eq_getElem (by omega))]; rfl
 have hnew : ∀ j b, Has C2 j b → w.heap.size ≤ b := fun j b hb => by
  rcases F.own b hb.own with h | h
  ·exact (rW h).elim
  ·exact h
 refine hK (C.back C2 w) w' v (locs C2 js) ⟨by simp [locs, hlen], fun i q hb hp hhb => ?_, oC e2 js hdj hsome, fun C1 w1 n E1 hn hl => ?_⟩ (fun b ⟨q, hq, hb⟩ => ?_) ⟨Nat.le_refl _, fun _ L _ h => ⟨L, h, .inl rfl⟩, fun _ _ h => h, fun l b _ hl hb => ⟨.inl hb, A.2 b (hs.heap.regs l b hl hb)⟩⟩ b2 b1.heap rfl (fun _ h => h)
 ·simp only [locs, List.getElem?_map, Option.map_eq_some_iff] at hp
  obtain ⟨j, hj, rfl⟩ := hp
  have hg := hget' i j hb hj hhb
  obtain ⟨L, f1, f2, f3, f4⟩ := e2.ent j hb hg
  rw [f1]
  have key : ∀ b, Has C2 j b → Untr (C.back C2 w) b := fun b hb => by
   have hn := hnew j b hb
   refine ⟨fun ho => ?_, fun l hl hr => ?_⟩
   ·have h1 : Own C b := by
     rcases ho with h | ⟨l, k1, k2, k3⟩ | h
     ·exact .inl h
     ·rcases k3 with k3 | ⟨e, _⟩
      ·exact .inr (.inl ⟨l, k1, k2, k3⟩)
      ·omega
     ·exact .inr (.inr h)
    have := hs.heap.ownlt h1
    omega
   ·rcases hr with hr | ⟨rfl, hr, _⟩
    ·have := hs.heap.regs l b hl hr; omega
    ·exact e2.has_reg hb e2.zero.2.1 hr
  have hr := hrl hb (List.mem_of_getElem? hhb)
  refine ⟨⟨?_, f3, fun b hbk => key b (.inl ⟨L, f1, hbk⟩), e2.sub.dp j hb L hg f1, e2.sub.nd j, fun b hb' => ⟨key b (.inr hb'), fun e => e2.sub.root j b j L hb' f1 e, e2.sub.lt j b hb'⟩⟩, f2⟩
  have hrow : ∀ (i : Nat) row, hb.rows[i]? = some row → V.rlL f01 row = row := fun i row hi => by
   have := congrArg (fun l => l[i]?) hr
   simp only [pP, List.getElem?_map, hi, Option.map_some, Option.some.injEq] at this
   first | exact this | (rw [xR]; exact this)
  refine f4.imp rfl id (fun _ _ => rfl) (fun b hbk h5 => ?_) fun ents he => ⟨ents, he, ?_⟩
  ·obtain ⟨vals, g5⟩ := h5
   refine ⟨vals, fun i row hi => ⟨(g5 i row hi).1, (g5 i row hi).2.1, ?_⟩⟩
   have := RepL.rl R (g5 i row hi).2.2
   rw [hrow i row hi] at this; exact this
  ·intro vs hv
   have := RepL.rl R hv
   rw [hrow 0 ents (by rw [he]; rfl)] at this; exact this
 ·rw [← hy n]
  refine Rep.rnA (rl_ext R E1) (fun u k hk hu => ?_) e3
  unfold upJ at hk
  simp only [Option.map_eq_some_iff] at hk
  obtain ⟨i, hi, rfl⟩ := hk
  have hj := aL hi
  have hil := (List.getElem?_eq_some_iff.1 hj).1
  have hll : (locs C2 js).length = js.length := by simp [locs]
  refine ⟨by omega, fun L' hL' => ?_⟩
  have := hl i ((C2.loc u).getD ⟨none, 0, 0, 0⟩, C2.sub u) (by simp only [locs, List.getElem?_map, hj, Option.map_some])
  rw [this] at hL'
  simp only [Option.some.injEq] at hL'
  obtain ⟨hb', e⟩ := Option.isSome_iff_exists.1 (hsome u (List.mem_of_getElem? hj))
  obtain ⟨L, e1, _⟩ := e2.ent u hb' e
  rw [e1] at hL'
  exact ⟨L, e1, .inl hL'.symm⟩
 ·obtain ⟨j, hj, rfl⟩ := List.mem_map.1 hq
  obtain ⟨hb', e⟩ := Option.isSome_iff_exists.1 (hsome j hj)
  exact hnew j b (tT e2 e hb)
section
variable {P : Program} {ops : List Oper} {s s1 : St} {ty : Nat} {pos : String} {af : Array Edge} {gu : Option (Nat × Bool)} {r : List Oper} {N : List (Option Nat × YldX) → Prop} {pd : List (Option Nat × YldX)} {f : FuncId} {args : List Operand} {args' : List V} {tys : Array TypeId} {x : Nat}
theorem x_o1 {y : Nat → V} {b1 : HB} (hc : FC P f args' [] 8 (fun x h2 => ∃ j, x = y j ∧ hget h2 j = some b1)) (hg : gd ops (s.only (gSlots ops ⟨some x, .call ⟨.value (.func f), ⟨args⟩, tys⟩, ty, pos, af, gu⟩)) gu = some true)
 (hv : RdL (s.only (opSlots ⟨some x, .call ⟨.value (.func f), ⟨args⟩, tys⟩, ty, pos, af, gu⟩)) (evL (s.only (opSlots ⟨some x, .call ⟨.value (.func f), ⟨args⟩, tys⟩, ty, pos, af, gu⟩)) args) args') (h1 : V.rlR f01 b1.rows = b1.rows) (hy : ∀ n j, (y j).rnA (upJ [j] n) = y n)
 (hp : s.put (some x) .junk = some s1) (h : DX P ops r s1 (pd ++ [(some x, .new ⟨x, [b1], y⟩)]) N) : DX P ops (⟨some x, .call ⟨.value (.func f), ⟨args⟩, tys⟩, ty, pos, af, gu⟩ :: r) s pd N :=
 dx_new hg rfl (onewX_call (p := ⟨x, [b1], y⟩) hc hv fun x h2 ⟨j, e, hj⟩ => ⟨[j], rfl, by simp [hj], fun hb hm => (by simp at hm; subst hm; exact h1), fun n => by rw [e]; exact hy n j⟩) hp h
theorem zI {Φ : List Nat → Prop} {l l' : List (List Nat)} (e : l = l') (h : AllS Φ l') : AllS Φ l := e ▸ h
theorem sV {Φ : List Nat → Prop} : AllS Φ [] := trivial
theorem eG {Φ : List Nat → Prop} {F : List Nat} {r : List (List Nat)} (h : Φ F) (t : AllS Φ r) : AllS Φ (F :: r) := ⟨h, t⟩
def envF : List (Nat × V) → Option (List (Nat × V))
 | [] => some []
 | (d, v) :: r => match v.force, envF r with
  | some v', some r' => some ((d, v') :: r')
  | _, _ => none
def heapF : List (Nat × HB) → Option (List (Nat × HB))
 | [] => some []
 | (u, ⟨sz, rows⟩) :: r => match heapF r with
  | some r' => some ((u, ⟨sz, rows⟩) :: r')
  | none => none
def forceSt : St → Option St
 | ⟨env, heap, nx, n, lv⟩ => match envF env, heapF heap with
  | some env', some heap' => some ⟨env', heap', nx, n, lv⟩
  | _, _ => none
theorem envF_eq : ∀ {l l' : List (Nat × V)}, envF l = some l' → l = l'
 | [], l', h => by simp [envF] at h; exact h.symm
 | (d, v) :: r, l', h => by
  simp only [envF] at h
  split at h
  ·rename_i v' r' h1 h2
   simp only [Option.some.injEq] at h
   subst h
   rw [← envF_eq h2, ← dB _ _ h1]
  ·cases h
theorem heapF_eq : ∀ {l l' : List (Nat × HB)}, heapF l = some l' → l = l'
 | [], l', h => by simp [heapF] at h; exact h.symm
 | (u, ⟨sz, rows⟩) :: r, l', h => by
  simp only [heapF] at h
  split at h
  ·rename_i r' h2
   simp only [Option.some.injEq] at h
   subst h
   rw [← heapF_eq h2]
  ·cases h
theorem forceSt_eq {s s' : St} (h : forceSt s = some s') : s = s' := by
 obtain ⟨env, heap, nx, n, lv⟩ := s
 simp only [forceSt] at h
 split at h
 ·rename_i e' h' h1 h2
  simp only [Option.some.injEq] at h
  rw [← h, envF_eq h1, heapF_eq h2]
 ·cases h
theorem jL {P : Program} {ops : List Oper} {m : Nat} {J s0 : St} {d1 F : List Nat} {L : List (Option Nat × YldX)} (k : Nat) {s2 : St} (h1 : unl m (larr ops.length (lsel d1 F)) = k) (h2 : forceSt (({ s0 with env := selE (lsel d1 F) 0 L s0.env } : St).adoptsX (selP (lsel d1 F) 0 L)) = some s2) (h3 : APerm P ops m J k (larr ops.length (lsel d1 F)) s2) : Left P ops m J d1 s0 L F := ⟨k, s2, h1, forceSt_eq h2, h3⟩
section
variable {P : Program} {T : List TI} {ops : List Oper} {s s1 : St} {ty : Nat} {pos : String} {af : Array Edge} {gu : Option (Nat × Bool)} {r : List Oper} {N : List (Option Nat × YldX) → Prop} {pd : List (Option Nat × YldX)}
end
end
end Go.Abs

namespace Go.Abs
section
variable {C : Ctx} {w : World} {h : List (Nat × HB)}
def Ctx.moved (C : Ctx) (u v : Nat) (L' : Loc) : Ctx := { C with loc := fun x => if x = u then some L' else if x = v then none else C.loc x, sub := fun x => if x = u then C.sub u ++ C.sub v else if x = v then [] else C.sub x }
theorem HSt.moveG (hs : HSt C w h) {w' : World} {u v : Nat} {L L' M0 : Loc} {rows : List (List V)} (huv : u ≠ v)
 (hL : C.loc u = some L) (hsz : L'.sz = L.sz) (hn' : L'.n = rows.length) (hn : L' = L ∨ L.n < L'.n) (hM : C.loc v = some M0)
 (hos : w'.os = w.os) (hout : w'.output = w.output) (hsize : w.heap.size ≤ w'.heap.size) (hoth : ∀ c, c < w.heap.size → L.blk ≠ some c → w'.heap[c]? = w.heap[c]?)
 (hnew : ∀ b, L'.blk = some b → L.blk = some b ∨ w.heap.size ≤ b)
 (hblk : ∀ C', Ext C C' w w' → Blk C' w' L' rows) (hdeep : (∀ c ∈ C.sub u ++ C.sub v, w'.heap[c]? = w.heap[c]?) → Deep w' L' (C.sub u ++ C.sub v) rows) :
 HSt (C.moved u v L') w' ((u, ⟨L.sz, rows⟩) :: hdel v h) ∧ Ext C (C.moved u v L') w w' ∧ Fr C (C.moved u v L') w w' := by
 have hloc : ∀ {x N}, (C.moved u v L').loc x = some N → (x = u ∧ N = L') ∨ (x ≠ u ∧ x ≠ v ∧ C.loc x = some N) := fun {x N} g => by
  simp only [Ctx.moved] at g
  split at g
  ·rename_i e; exact .inl ⟨e, (Option.some.inj g).symm⟩
  ·rename_i e
   split at g
   ·cases g
   ·rename_i e2; exact .inr ⟨e, e2, g⟩
 have hsub : ∀ {x c}, c ∈ (C.moved u v L').sub x → ∃ y, c ∈ C.sub y ∧ x ≠ v ∧ (y = x ∨ (x = u ∧ y = v)) := fun {x c} g => by
  simp only [Ctx.moved] at g
  split at g
  ·rename_i e
   rcases List.mem_append.1 g with g | g
   ·exact ⟨u, g, by omega, .inl e.symm⟩
   ·exact ⟨v, g, by omega, .inr ⟨e, rfl⟩⟩
  ·split at g
   ·cases g
   ·rename_i e; exact ⟨x, g, e, .inl rfl⟩
 have hblt : ∀ {x N b}, C.loc x = some N → N.blk = some b → b < w.heap.size := fun g1 g2 => xC hs g1 g2
 have hsubk : ∀ {x c}, c ∈ C.sub x → w'.heap[c]? = w.heap[c]? := fun {x c} g => hoth c (hs.sub.lt x c g) fun e => hs.sub.root x c u L g hL e
 have E : Ext C (C.moved u v L') w w' := by
  refine ⟨Nat.le_refl _, fun x N hx g => ?_, fun l _ g => g, fun l c _ hl hc => ⟨hc, hoth c (hs.regs l c hl hc) fun e => hs.own u L c l hL e hl hc⟩⟩
  rcases hloc g with ⟨rfl, rfl⟩ | ⟨_, _, g⟩
  ·exact ⟨L, hL, hn⟩
  ·exact ⟨N, g, .inl rfl⟩
 have F : Fr C (C.moved u v L') w w' := by
  refine ⟨hsize, fun c hc ho => hoth c hc fun e => ho (.inl ⟨u, L, hL, e⟩), fun c ho => ?_, fun c hc => hc, fun c hc => .inl hc, hos, hout, fun x hx N g => ?_⟩
  ·rcases ho with ⟨x, N, g1, g2⟩ | ho | ⟨x, g⟩
   ·rcases hloc g1 with ⟨rfl, rfl⟩ | ⟨_, _, g⟩
    ·rcases hnew c g2 with g | g
     ·exact .inl (.inl ⟨x, L, hL, g⟩)
     ·exact .inr g
    ·exact .inl (.inl ⟨x, N, g, g2⟩)
   ·exact .inl (.inr (.inl ho))
   ·obtain ⟨y, g1, _⟩ := hsub g
    exact .inl (.inr (.inr ⟨y, g1⟩))
  ·rcases hloc g with ⟨rfl, rfl⟩ | ⟨_, _, g⟩
   ·exact ⟨L, hL, hn⟩
   ·exact ⟨N, g, .inl rfl⟩
 have hg : ∀ x, hget ((u, ⟨L.sz, rows⟩) :: hdel v h) x = if x = u then some ⟨L.sz, rows⟩ else if x = v then none else hget h x := fun x => by
  simp only [hget, Bool.cond_eq_ite, v8, Nat.beq_eq]
 refine ⟨⟨fun x hx => ?_, fun x q hx => ?_, fun x N g => ?_, fun x x' N N' c g1 g2 g3 g4 => ?_, fun x N c l g1 g2 g3 g4 => ?_, fun l c g1 g2 => Nat.lt_of_lt_of_le (hs.regs l c g1 g2) hsize, hs.lvs, hs.rdis, hs.zero, hs.two, ⟨fun x q N hx hN => ?_, fun x hx => ?_, fun x => ?_, fun x c hc => ?_, fun x c x' N hc g1 g2 => ?_, fun x x' c hc hc' => ?_, fun x c l hc g1 g2 => ?_⟩, hs.tabE E hs.zero.1⟩, E, F⟩
 ·rw [hg] at hx
  simp only [Ctx.moved]
  split at hx
  ·cases hx
  ·rename_i e1
   rw [if_neg e1]
   split at hx
   ·rename_i e2; rw [if_pos e2]
   ·rename_i e2; rw [if_neg e2]; exact hs.dom x hx
 ·rw [hg] at hx
  split at hx
  ·rename_i e1
   simp only [Option.some.injEq] at hx
   subst hx; subst e1
   exact ⟨L', by simp [Ctx.moved], hsz, hn', hblk _ E⟩
  ·rename_i e1
   split at hx
   ·cases hx
   ·rename_i e2
    obtain ⟨N, g1, g2, g3, g4⟩ := hs.ent x q hx
    exact ⟨N, by simp [Ctx.moved, e1, e2, g1], g2, g3, g4.mono E (fun c hc => hoth c (hblt g1 hc) fun e => e1 (hs.inj x u N L c g1 hL hc e))⟩
 ·rcases hloc g with ⟨rfl, _⟩ | ⟨_, _, g⟩
  ·exact hs.lt x L hL
  ·exact hs.lt x N g
 ·rcases hloc g1 with ⟨e1, e2⟩ | ⟨e1, _, q1⟩ <;> rcases hloc g2 with ⟨e3, e4⟩ | ⟨e3, _, q2⟩
  ·omega
  ·rw [e2] at g3
   rcases hnew c g3 with k | k
   ·exact absurd (hs.inj u x' L N' c hL q2 k g4).symm e3
   ·have := hblt q2 g4; omega
  ·rw [e4] at g4
   rcases hnew c g4 with k | k
   ·exact absurd (hs.inj x u N L c q1 hL g3 k) e1
   ·have := hblt q1 g3; omega
  ·exact hs.inj x x' N N' c q1 q2 g3 g4
 ·rcases hloc g1 with ⟨e1, e2⟩ | ⟨_, _, g1⟩
  ·subst e2
   rcases hnew c g2 with k | k
   ·exact hs.own u L c l hL k g3 g4
   ·have := hs.regs l c g3 g4; omega
  ·exact hs.own x N c l g1 g2 g3 g4
 ·rw [hg] at hx
  split at hx
  ·rename_i e1
   simp only [Option.some.injEq] at hx
   subst hx; subst e1
   have e : N = L' := by simp only [Ctx.moved, if_pos] at hN; exact (Option.some.inj hN).symm
   subst e
   simp only [Ctx.moved, if_pos]
   exact hdeep fun c hc => by rcases List.mem_append.1 hc with hc | hc <;> exact hsubk hc
  ·rename_i e1
   split at hx
   ·cases hx
   ·rename_i e2
    have hN' : C.loc x = some N := by simpa [Ctx.moved, e1, e2] using hN
    simp only [Ctx.moved, if_neg e1, if_neg e2]
    exact hs.sub.old hx hN' (fun c hc => hoth c (hblt hN' hc) fun e => e1 (hs.inj x u N L c hN' hL hc e)) (fun c hc => hsubk hc)
 ·simp only [Ctx.moved] at hx ⊢
  split at hx
  ·cases hx
  ·rename_i e1
   rw [if_neg e1]
   split at hx
   ·rename_i e2; rw [if_pos e2]
   ·rename_i e2; rw [if_neg e2]; exact hs.sub.s0 x hx
 ·simp only [Ctx.moved]
  split
  ·exact List.nodup_append.2 ⟨hs.sub.nd u, hs.sub.nd v, fun a ha b hb e => huv (hs.sub.dis u v a ha (by rw [e]; exact hb))⟩
  ·split
   ·exact .nil
   ·exact hs.sub.nd x
 ·obtain ⟨y, g, _⟩ := hsub hc
  exact Nat.lt_of_lt_of_le (hs.sub.lt y c g) hsize
 ·obtain ⟨y, g, _⟩ := hsub hc
  rcases hloc g1 with ⟨e1, e2⟩ | ⟨_, _, g1⟩
  ·subst e2
   rcases hnew c g2 with k | k
   ·exact hs.sub.root y c u L g hL k
   ·have := hs.sub.lt y c g; omega
  ·exact hs.sub.root y c x' N g g1 g2
 ·obtain ⟨y, g1, g2, g3⟩ := hsub hc
  obtain ⟨y', k1, k2, k3⟩ := hsub hc'
  have := hs.sub.dis y y' c g1 k1
  omega
 ·obtain ⟨y, g, _⟩ := hsub hc
  exact hs.sub.reg y c l g g1 g2
theorem oA : ∀ {vs : List Value} {xs : List V} {S : List Nat}, DeepL w vs xs S → ∀ u ∈ vs, u.oneCell' = true
 | _, _, _, .nil, u, hu => by cases hu
 | _, _, _, .flat h t, u, hu => by
  rcases List.mem_cons.1 hu with e | hu
  ·subst e; cases h <;> rfl
  ·exact oA t u hu
 | _, _, _, .deep h t, u, hu => by
  rcases List.mem_cons.1 hu with e | hu
  ·subst e; cases h <;> rfl
  ·exact oA t u hu
theorem vU : ∀ {cs : List Value} {sz : Nat} {rows : List (List V)} {S : List Nat}, DeepR w cs sz rows S → ∀ u ∈ cs.take (rows.length * sz), u.oneCell' = true
 | _, _, _, _, .nil cs sz, u, hu => by simp at hu
 | _, _, _, _, .cons (vs := vs) (cs := cs) (sz := sz) (rows := rows) hl h t, u, hu => by
  rw [List.length_cons, Nat.succ_mul, List.take_append, List.take_of_length_le (l := vs) (by omega), show rows.length * sz + sz - vs.length = rows.length * sz by omega] at hu
  rcases List.mem_append.1 hu with hu | hu
  ·exact oA h u hu
  ·exact vU t u hu
def junkR (ys : List (List V)) : List (List V) := ys.map fun r => r.map fun _ => .junk
theorem repL_junk {vs : List Value} {xs : List V} (h : RepL C w vs xs) : RepL C w vs (xs.map fun _ => .junk) := by
 induction xs generalizing vs with
 | nil => cases h; exact .nil
 | cons x xs ih => cases h with | cons h t => exact .cons (.junk _) (ih t)
theorem rowsIn_junk {cs : Array Value} {sz : Nat} {ys : List (List V)} (h : RowsIn C w cs sz ys) : RowsIn C w cs sz (junkR ys) := by
 obtain ⟨vals, hv⟩ := h
 refine ⟨vals, fun i row hi => ?_⟩
 simp only [junkR, List.getElem?_map, Option.map_eq_some_iff] at hi
 obtain ⟨r, hr, rfl⟩ := hi
 obtain ⟨a1, a2, a3⟩ := hv i r hr
 exact ⟨a1, a2, repL_junk a3⟩
theorem flat_junk (ys : List (List V)) : flatR (junkR ys) = true := by
 simp [flatR, junkR, dpc]
structure SrcD (P : Program) (C : Ctx) (w : World) (sz : Nat) (ys : List (List V)) (S : List Nat) (x : Value) (news : List Value) : Prop where
 src : Src P C w sz (junkR ys) x news
 rows : RowsIn C w ⟨news⟩ sz ys
 deep : ∀ w' rest, (∀ c ∈ S, w'.heap[c]? = w.heap[c]?) → TopR w' (news ++ rest) sz ys S
theorem srcD_of {P : Program} {s : St} {a : Act} (hs : StRep C w a s) {v n sz : Nat} {ys : List (List V)} {y : Operand} (hy : ev s y = .hsl v 0 n) (hv : hget s.heap v = some ⟨sz, ys⟩) (hn : n = ys.length) (hdp : ∀ row ∈ ys, row.all dpV = true) (hz0 : sz ≠ 0) :
 ∃ news, SrcD P C w sz ys (C.sub v) (a.eval y) news := by
 have hr := hs.ev y; rw [hy] at hr
 generalize a.eval y = vv at hr
 obtain ⟨L, h1, h2, h3, h4, h5⟩ := G2 hs.heap hr hv (by show 0 + n = ys.length; omega)
 have h2' : L.sz = sz := h2
 have hd := hs.heap.sub.dp v _ L hv h1
 have hjl : (junkR ys).length = ys.length := by simp [junkR]
 unfold HSL at h5
 cases hb : L.blk with
 | none =>
  rw [hb] at h5; simp only at h5
  unfold Blk at h4; rw [hb] at h4
  have : ys = [] := h4.1
  subst this
  rw [h5]
  have : C.sub v = [] := by unfold Deep at hd; rw [hb] at hd; exact hd
  rw [this]
  exact ⟨[], uY C w sz none 0, ⟨fun _ => [], fun i row hi => by simp at hi⟩, fun _ _ _ => .nil _ _⟩
 | some b =>
  rw [hb] at h5; simp only at h5
  obtain ⟨cs, el, fz, g1, g2, g3, g4, g5⟩ := Q4 hb h5.1 h4
  have hin := I8 g1 g5
  obtain ⟨cs', el', fz', k1, k2⟩ := iC hb h5.1 hd
  rw [g1] at k1; simp only [Option.some.injEq, Obj.cells.injEq] at k1
  obtain ⟨rfl, rfl, rfl⟩ := k1
  have hDR := tC k2 (inL_of hin) hdp
  rw [h2'] at hin g2 hDR k2
  have g3' : ys.length ≤ L.cap := g3
  have hmul := Nat.mul_le_mul_right sz g3'
  have hcl : cs.toList.length = L.cap * sz := g2
  have htl : (cs.toList.take (ys.length * sz)).length = ys.length * sz := by rw [List.length_take, hcl]; exact Nat.min_eq_left hmul
  rw [h5.2, Nat.zero_mul, hn]
  have htk := iF (cs := cs.toList) hin
  refine ⟨cs.toList.take (ys.length * sz), ⟨fun w' => by simp [Builtin.lenOf, hjl], fun w' hA => ?_, by rw [htl, hjl], rowsIn_junk htk, vU hDR, flat_junk ys⟩, htk, fun w' rest hk => ?_⟩
  ·rw [hjl]
   refine run_firstCells_some w' sz ys.length ⟨b, 0, none⟩ ys.length _ _ htl fun k u hk => ?_
   rw [J1]
   refine hA.cell ?_
   rw [List.getElem?_take] at hk
   split at hk
   ·simpa [World.cell?, g1] using hk
   ·simp at hk
  ·refine (k2.mono hk).pre ?_
   rw [List.take_append_of_le_length (by rw [htl]; exact Nat.le_refl _), List.take_take, Nat.min_self]
end
def St.movd : St → Nat → Nat → HB → St
 | ⟨env, heap, nx, n, lv⟩, u, v, hb => ⟨env, (u, hb) :: hdel v heap, nx, n, lv⟩
section
variable {P : Program} {T : List TI} {s : St}
theorem vP {ops : Array Oper} {d : Option Nat} {ty : Nat} {pos : String} {af : Array Edge} {gu : Option (Nat × Bool)} {r : List Oper} {K : St → Prop} {s1 : St}
 {t tx e u v n m : Nat} {kd : TK} {sz bts : Nat} {z0 : List V} {ag : Bool} {x y : Operand} {rows ys : List (List V)} (hT : TabOK P T) (ht : elemI T t = some (e, ⟨kd, sz, bts, z0, ag⟩)) (htx : notIntT T tx = true) (hz : z0.length = sz ∧ sz ≠ 0)
 (hu : hget s.heap u = some ⟨sz, rows⟩) (hn : n = rows.length) (hy : ev s y = .hsl v 0 m) (hvv : hget s.heap v = some ⟨sz, ys⟩) (hm : m = ys.length) (huv : u ≠ v) (hdp : ∀ row ∈ ys, row.all dpV = true)
 (hb : (n + ys.length) * bts ≤ 140737488355328 ∧ n + ys.length ≤ 9223372036854775807)
 (hp : (s.movd u v ⟨sz, rows ++ ys⟩).put d (.hsl u 0 (n + ys.length)) = some s1) (h : AOps P ops r s1 K)
 {C : Ctx} {w : World} {a : Act} (hs : StRep C w a s) (hv : Rep C w (a.eval x) (.hsl u 0 n)) :
 ∃ v w' C' s', (execOp a.eval ⟨d, .call ⟨.builtin .append, ⟨[x, y]⟩, ⟨[t, tx]⟩⟩, ty, pos, af, gu⟩).run P w = .ok (.value v) w' ∧ StRep C' w' (a.put d v) s' ∧ Fr C C' w w' ∧ AOps P ops r s' K := by
 subst hn
 obtain ⟨news, hD⟩ := srcD_of (P := P) hs hy hvv hm hdp hz.2
 have hS := hD.src
 have hjl : (junkR ys).length = ys.length := by simp [junkR]
 obtain ⟨L, h1, h2, h3, h4, h5⟩ := G2 hs.heap hv hu (by show 0 + rows.length = rows.length; omega)
 obtain ⟨M0, hM, _⟩ := hs.heap.ent v _ hvv
 have h2' : L.sz = sz := h2
 have h3' : L.n = rows.length := h3
 obtain ⟨hut, hte⟩ := R8 hT ht
 obtain ⟨j, hj, hjs, hjb⟩ := hT.tinfo hte
 obtain ⟨z, hz1, hz2⟩ := hT.zero hte (by intro e; dsimp only at e; rw [e] at hz; simp at hz; omega)
 dsimp only at hjs hjb hz2
 have hzl : z.cells.size = sz := by rw [← hz.1, ← hz2]; simp
 have hni := lY hT htx
 have hux : u < C.nx := hs.heap.lt u L h1
 have hnl : news.length = ys.length * sz := by rw [hS.size, hjl]
 have hex : (execOp a.eval ⟨d, .call ⟨.builtin .append, ⟨[x, y]⟩, ⟨[t, tx]⟩⟩, ty, pos, af, gu⟩).run P w = ((Builtin.append_ #[t, tx] ty #[a.eval x, a.eval y]).run P w).andThen fun v w => .ok (.value v) w := by
  simp [execOp, resolve, invoke, builtin]
 rw [hex]
 have hwr : s.movd u v ⟨sz, rows ++ ys⟩ = { s with heap := (u, ⟨sz, rows ++ ys⟩) :: hdel v s.heap } := by cases s; rfl
 have fin : ∀ {vv : Value} {w' : World} {L' : Loc}, HSt (C.moved u v L') w' ((u, ⟨L.sz, rows ++ ys⟩) :: hdel v s.heap) → Ext C (C.moved u v L') w w' → HSL L' 0 (rows.length + ys.length) vv → L'.n = rows.length + ys.length → StRep (C.moved u v L') w' (a.put d vv) s1 := fun {vv w' L'} w1 w2 w3 w4 => by
  rw [h2'] at w1
  refine F6 (s := s.movd u v ⟨sz, rows ++ ys⟩) (by rw [hwr]; exact ⟨hs.defers, hs.size, hs.nx, fun i => (hs.env i).mono w2, w1, hs.lv⟩) (.hsl hux fun N hN => ?_) hp
  simp only [Ctx.moved, if_pos, Option.some.injEq] at hN
  subst hN
  exact ⟨by omega, fun _ => w3⟩
 unfold HSL at h5
 cases hbk : L.blk with
 | some b =>
  rw [hbk] at h5; simp only [Nat.zero_mul, Nat.sub_zero] at h5
  obtain ⟨hnz, h5⟩ := h5
  obtain ⟨cells, el, fz, g1, g2, g3, g4, g5⟩ := Q4 hbk hnz h4
  have hin := I8 g1 g5
  obtain ⟨cs', el', fz', k1, k2⟩ := iC hbk hnz (hs.heap.sub.dp u _ L hu h1)
  rw [g1] at k1; simp only [Option.some.injEq, Obj.cells.injEq] at k1
  obtain ⟨rfl, rfl, rfl⟩ := k1
  rw [h2'] at hin g2 k2
  have htk := iF hin
  have g3' : rows.length ≤ L.cap := g3
  have hmul := Nat.mul_le_mul_right sz g3'
  have htl : (cells.toList.take (rows.length * sz)).length = rows.length * sz := by
   have hcl : cells.toList.length = L.cap * sz := g2
   rw [List.length_take, hcl]; exact Nat.min_eq_left hmul
  have hdeep : ∀ w' rest, (∀ c ∈ C.sub u ++ C.sub v, w'.heap[c]? = w.heap[c]?) → TopR w' (cells.toList.take (rows.length * sz) ++ news ++ rest) sz (rows ++ ys) (C.sub u ++ C.sub v) := fun w' rest hk => by
   have k3 := (k2.mono fun c hc => hk c (List.mem_append_left _ hc)).pre (cs' := cells.toList.take (rows.length * sz)) (by rw [List.take_take, Nat.min_self])
   have k4 := k3.append htl (hD.deep w' rest fun c hc => hk c (List.mem_append_right _ hc))
   rw [List.append_assoc]; exact k4
  by_cases hroom : rows.length + ys.length ≤ L.cap
  ·have hrun := eZ (tx := tx) (ty := ty) hut hj hjs hni hS g1 g4 g2 (by rw [hjl]; exact hroom)
   rw [← h5, hjl] at hrun
   rw [hrun]
   have hle : rows.length * sz + news.length ≤ cells.size := by rw [hnl, g2, ← Nat.add_mul]; exact Nat.mul_le_mul_right _ hroom
   have hnew := K8 (rest := cells.toList.drop (rows.length * sz + news.length)) htk htl hD.rows
   have hsize : (cells.toList.take (rows.length * sz) ++ news ++ cells.toList.drop (rows.length * sz + news.length)).toArray.size = cells.size := by
    simp only [List.size_toArray, List.length_append, htl, List.length_drop, Array.length_toList]; omega
   have hrow : (w.setRow b (cells.toList.take (rows.length * sz) ++ news ++ cells.toList.drop (rows.length * sz + news.length)).toArray).heap[b]? = some (.cells (cells.toList.take (rows.length * sz) ++ news ++ cells.toList.drop (rows.length * sz + news.length)).toArray el fz) := setRow_heap w b cells _ el fz g1
   obtain ⟨w1, w2, w3⟩ := hs.heap.moveG (w' := w.setRow b (cells.toList.take (rows.length * sz) ++ news ++ cells.toList.drop (rows.length * sz + news.length)).toArray) (L' := { L with n := rows.length + ys.length }) (rows := rows ++ ys) huv h1 rfl (by simp)
    (Or.elim (Nat.eq_zero_or_pos ys.length) (fun e0 => .inl (by rw [e0, Nat.add_zero, ← h3'])) (fun e0 => .inr (by show L.n < rows.length + ys.length; omega))) hM rfl rfl (Nat.le_of_eq (Z3 w b _).symm) (fun c _ hc => V4 w b c _ fun e => hc (by rw [e]; exact hbk)) (fun c hc => .inl hc)
    (fun C' E => gL hbk hnz ⟨_, el, fz, hrow, by rw [hsize]; show cells.size = L.cap * L.sz; rw [h2']; exact g2, by simpa using hroom, by rw [hsize]; exact g4, O6 hrow (by show RowsIn C' _ _ L.sz _; rw [h2']; exact hnew.mono E)⟩)
    (fun hk => Y1 hbk hnz ⟨_, el, fz, hrow, by show TopR _ _ L.sz _ _; rw [h2']; exact hdeep _ _ hk⟩)
   exact ⟨_, _, _, s1, rfl, fin w1 w2 (by unfold HSL; simp [hbk, hnz]) rfl, w3, h⟩
  ·have hold : ∀ w', Agree w w' → (Builtin.firstCells sz rows.length (.slice (some ⟨b, 0, none⟩) rows.length L.cap)).run P w' = .ok (cells.toList.take (rows.length * sz)).toArray w' := fun w' hA => by
    refine run_firstCells_some w' sz rows.length ⟨b, 0, none⟩ rows.length L.cap _ htl fun k v hk => ?_
    rw [J1]
    refine hA.cell ?_
    rw [List.getElem?_take] at hk
    split at hk
    ·simpa [World.cell?, g1] using hk
    ·simp at hk
   have hrun := Q6 (tx := tx) (ty := ty) hut hj hjs hjb hz1 hni hold hS (by rw [hjl]; exact hroom) (by rw [hjl]; exact hb.1) (by rw [hjl]; exact hb.2)
   rw [← h5, hjl] at hrun
   rw [hrun]
   have hge := grownCap_ge w (rows.length + ys.length) L.cap e
   generalize grownCap w (rows.length + ys.length) L.cap e = G at hge
   have hA := I5 w
   have e1 : (cells.toList.take (rows.length * sz)).toArray ++ news.toArray ++ Builtin.zeroCells z.cells (G - (rows.length + ys.length)) = ⟨cells.toList.take (rows.length * sz) ++ news ++ (Builtin.zeroCells z.cells (G - (rows.length + ys.length))).toList⟩ := by
    apply Array.ext'; simp
   rw [e1]
   have hnew := K8 (rest := (Builtin.zeroCells z.cells (G - (rows.length + ys.length))).toList) htk htl hD.rows
   have hsize : (⟨cells.toList.take (rows.length * sz) ++ news ++ (Builtin.zeroCells z.cells (G - (rows.length + ys.length))).toList⟩ : Array Value).size = G * sz := by
    have h8 : (Builtin.zeroCells z.cells (G - (rows.length + ys.length))).toList.length = (G - (rows.length + ys.length)) * sz := by simp [Builtin.zeroCells, hzl]
    show (cells.toList.take (rows.length * sz) ++ news ++ (Builtin.zeroCells z.cells (G - (rows.length + ys.length))).toList).length = _
    rw [List.length_append, List.length_append, htl, hnl, h8]
    have h9 : G * sz = rows.length * sz + ys.length * sz + (G - (rows.length + ys.length)) * sz := by rw [← Nat.add_mul, ← Nat.add_mul]; congr 1; omega
    omega
   have hrow : (w.drew.alloc (.cells ⟨cells.toList.take (rows.length * sz) ++ news ++ (Builtin.zeroCells z.cells (G - (rows.length + ys.length))).toList⟩ e)).heap[w.heap.size]? = some (.cells ⟨cells.toList.take (rows.length * sz) ++ news ++ (Builtin.zeroCells z.cells (G - (rows.length + ys.length))).toList⟩ e (0, 0)) := by
    show (w.heap.push _)[w.heap.size]? = _
    rw [Array.getElem?_push_size]
   obtain ⟨w1, w2, w3⟩ := hs.heap.moveG (w' := w.drew.alloc (.cells ⟨cells.toList.take (rows.length * sz) ++ news ++ (Builtin.zeroCells z.cells (G - (rows.length + ys.length))).toList⟩ e)) (L' := ⟨some w.heap.size, sz, rows.length + ys.length, G⟩) (rows := rows ++ ys) huv h1 h2'.symm (by simp)
    (.inr (by show L.n < rows.length + ys.length; omega)) hM rfl rfl (by show w.heap.size ≤ (w.heap.push _).size; rw [Array.size_push]; omega) (fun c hc _ => by show (w.heap.push _)[c]? = _; rw [Array.getElem?_push, if_neg (by omega)]) (fun c hc => .inr (by simp at hc; omega))
    (fun C' E => gL rfl hz.2 ⟨_, e, (0, 0), hrow, hsize, by simpa using hge, fun o _ => by simp, O6 hrow (hnew.mono E)⟩)
    (fun hk => Y1 rfl hz.2 ⟨_, e, (0, 0), hrow, hdeep _ _ hk⟩)
   exact ⟨_, _, _, s1, rfl, fin w1 w2 (by unfold HSL; simp [hz.2]) rfl, w3, h⟩
 | none =>
  rw [hbk] at h5; simp only at h5
  unfold Blk at h4; rw [hbk] at h4
  obtain ⟨hr0, hcap0⟩ := h4
  have hr0' : rows = [] := hr0
  subst hr0'
  have hs0 : C.sub u = [] := by have := hs.heap.sub.dp u _ L hu h1; unfold Deep at this; rw [hbk] at this; exact this
  by_cases hy0 : ys.length = 0
  ·have hy0' : ys = [] := List.eq_nil_of_length_eq_zero hy0
   subst hy0'
   have hrun := fA (tx := tx) (ty := ty) hut hj hjs hni hS
   rw [← h5] at hrun
   rw [hrun]
   have hdv := hs.heap.sub.dp v _ M0 hvv hM
   by_cases hsv : C.sub v = []
   ·obtain ⟨w1, w2, w3⟩ := hs.heap.moveG (w' := w) (L' := L) (rows := [] ++ []) huv h1 rfl h3' (.inl rfl) hM rfl rfl (Nat.le_refl _) (fun _ _ _ => rfl) (fun c hc => .inl hc)
     (fun C' E => by unfold Blk; rw [hbk]; exact ⟨rfl, hcap0⟩) (fun _ => by unfold Deep; rw [hbk, hs0, hsv]; rfl)
    exact ⟨_, _, _, s1, rfl, fin w1 w2 (by unfold HSL; rw [hbk]; exact h5) h3', w3, h⟩
   ·refine absurd ?_ hsv
    unfold Deep at hdv
    obtain ⟨M1, hM1, hM2, hM3, hM4⟩ := hs.heap.ent v _ hvv
    rw [hM] at hM1
    obtain rfl := Option.some.inj hM1
    cases hbv : M0.blk with
    | none => rw [hbv] at hdv; exact hdv
    | some b =>
     rw [hbv] at hdv
     obtain ⟨cs, el, fz, _, k⟩ := hdv.2 (by rw [hM2]; exact hz.2)
     generalize C.sub v = S at k
     generalize cs.toList = cl at k
     cases k; rfl
  ·have hold : ∀ w', Agree w w' → (Builtin.firstCells sz 0 (.slice none 0 0)).run P w' = .ok ([] : List Value).toArray w' := fun w' _ => by simp [Builtin.firstCells]
   have hrun := Q6 (tx := tx) (ty := ty) hut hj hjs hjb hz1 hni hold hS (by rw [hjl]; omega) (by rw [hjl]; simpa using hb.1) (by rw [hjl]; simpa using hb.2)
   rw [← h5, hjl] at hrun
   rw [hrun]
   have hge := grownCap_ge w (0 + ys.length) 0 e
   generalize grownCap w (0 + ys.length) 0 e = G at hge
   have e1 : ([] : List Value).toArray ++ news.toArray ++ Builtin.zeroCells z.cells (G - (0 + ys.length)) = ⟨[] ++ news ++ (Builtin.zeroCells z.cells (G - (0 + ys.length))).toList⟩ := by
    apply Array.ext'; simp
   rw [e1]
   have hnew := K8 (C := C) (w := w) (cs := []) (rows := []) (rest := (Builtin.zeroCells z.cells (G - (0 + ys.length))).toList) ⟨fun _ => [], fun i row hi => by simp at hi⟩ (by simp) hD.rows
   have hsize : (⟨[] ++ news ++ (Builtin.zeroCells z.cells (G - (0 + ys.length))).toList⟩ : Array Value).size = G * sz := by
    have h8 : (Builtin.zeroCells z.cells (G - (0 + ys.length))).toList.length = (G - (0 + ys.length)) * sz := by simp [Builtin.zeroCells, hzl]
    show ([] ++ news ++ (Builtin.zeroCells z.cells (G - (0 + ys.length))).toList).length = _
    rw [List.nil_append, List.length_append, hnl, h8]
    have h9 : G * sz = ys.length * sz + (G - (0 + ys.length)) * sz := by rw [← Nat.add_mul]; congr 1; omega
    omega
   have hrow : (w.drew.alloc (.cells ⟨[] ++ news ++ (Builtin.zeroCells z.cells (G - (0 + ys.length))).toList⟩ e)).heap[w.heap.size]? = some (.cells ⟨[] ++ news ++ (Builtin.zeroCells z.cells (G - (0 + ys.length))).toList⟩ e (0, 0)) := by
    show (w.heap.push _)[w.heap.size]? = _
    rw [Array.getElem?_push_size]
   obtain ⟨w1, w2, w3⟩ := hs.heap.moveG (w' := w.drew.alloc (.cells ⟨[] ++ news ++ (Builtin.zeroCells z.cells (G - (0 + ys.length))).toList⟩ e)) (L' := ⟨some w.heap.size, sz, 0 + ys.length, G⟩) (rows := [] ++ ys) huv h1 h2'.symm (by simp)
    (.inr (by show L.n < 0 + ys.length; rw [h3']; simp; omega)) hM rfl rfl (by show w.heap.size ≤ (w.heap.push _).size; rw [Array.size_push]; omega) (fun c hc _ => by show (w.heap.push _)[c]? = _; rw [Array.getElem?_push, if_neg (by omega)]) (fun c hc => .inr (by simp at hc; omega))
    (fun C' E => gL rfl hz.2 ⟨_, e, (0, 0), hrow, hsize, by simpa using hge, fun o _ => by simp, O6 hrow (hnew.mono E)⟩)
    (fun hk => Y1 rfl hz.2 ⟨_, e, (0, 0), hrow, by
     rw [hs0]
     have := hD.deep (w.drew.alloc (.cells ⟨[] ++ news ++ (Builtin.zeroCells z.cells (G - (0 + ys.length))).toList⟩ e)) (Builtin.zeroCells z.cells (G - (0 + ys.length))).toList (fun c hc => hk c (List.mem_append_right _ hc))
     simpa using this⟩)
   exact ⟨_, _, _, s1, rfl, fin w1 w2 (by unfold HSL; simp [hz.2]) rfl, w3, h⟩
theorem sc_appendD {α : Type} (c : Cd α) {ops : Array Oper} {d : Option Nat} {ty : Nat} {pos : String} {af : Array Edge} {gu : Option (Nat × Bool)} {r : List Oper} {K : St → Prop} {s1 : St}
 {t tx e u v l : Nat} {kd : TK} {sz bts : Nat} {z0 : List V} {ag : Bool} {x y : Operand} {xs ys : List α} (hb : (xs.length + ys.length) * bts ≤ 140737488355328) (hbts : Nat.beq bts 0 = false) (hT : TabOK P T) (hg : gd ops.toList s gu = some true) (ht : elemI T t = some (e, ⟨kd, sz, bts, z0, ag⟩)) (htx : notIntT T tx = true) (hz : Nat.beq z0.length sz = true) (hz0 : Nat.beq sz 0 = false)
 (hx : ev s x = .hsl u 0 xs.length) (hu : hget s.heap u = some ⟨sz, xs.map (c.enc l)⟩) (hy : ev s y = .hsl v 0 ys.length) (hv : hget s.heap v = some ⟨sz, ys.map (c.enc l)⟩) (huv : Nat.beq u v = false) (hdp : ∀ row ∈ ys.map (c.enc l), row.all dpV = true)
 (hp : (s.movd u v ⟨sz, (xs ++ ys).map (c.enc l)⟩).put d (.hsl u 0 (xs ++ ys).length) = some s1) (h : AOps P ops r s1 K) :
 AOps P ops (⟨d, .call ⟨.builtin .append, ⟨[x, y]⟩, ⟨[t, tx]⟩⟩, ty, pos, af, gu⟩ :: r) s K :=
 R7 hg fun C w a hs => by
  have hb1 : 1 ≤ bts := by rcases Nat.eq_zero_or_pos bts with e | e; (simp [e] at hbts); exact e
  have hle : xs.length + ys.length ≤ (xs.length + ys.length) * bts := Nat.le_mul_of_pos_right _ hb1
  exact vP (n := xs.length) hT ht htx ⟨Nat.eq_of_beq_eq_true hz, fun e => by simp [e] at hz0⟩ hu (by simp) hy hv (by simp) (fun e => by rw [e] at huv; simp at huv) hdp (by simpa using ⟨hb, by omega⟩) (by rw [← hp, List.map_append]; simp) h hs (by have := hs.ev x; rwa [hx] at this)
end
section
variable {C : Ctx} {w : World} {h : List (Nat × HB)}
theorem fz_rep1 (H : HSt C w h) {u n sz : Nat} {rows : List (List V)} (hu : hget h u = some ⟨sz, rows⟩) (hn : n = rows.length) {v : Value} {L : Loc} (hL : C.loc u = some L) (hv : Rep C w v (.hsl u 0 n)) :
 Rep (C.fz u L) w v (.psl 1 sz rows) := by
 subst hn
 obtain ⟨L', h1, h2, h3, h4, h5⟩ := G2 H hv hu (by show 0 + rows.length = rows.length; omega)
 rw [hL] at h1; simp only [Option.some.injEq] at h1; subst h1
 have h2' : L.sz = sz := h2
 have h1lt : 1 < C.nx := by have := H.two; omega
 unfold HSL at h5
 cases hb' : L.blk with
 | none =>
  rw [hb'] at h5; simp only at h5
  unfold Blk at h4; rw [hb'] at h4
  have : rows = [] := h4.1
  subst this
  rw [h5]
  exact .psl0 _ _ _ _
 | some b =>
  rw [hb'] at h5; simp only at h5
  obtain ⟨cs, el, fz, q1, q2, q3, q4, vals, q5⟩ := Q4 hb' h5.1 h4
  rw [h5.2, Nat.zero_mul]
  refine .psl (off := 0) vals H.zero.2.1 h1lt (.inr ⟨rfl, .inl hb'⟩) rfl (by simpa using q3) (fun k row hk => ?_) (fun k row hk => RepL.mono (wL u L) (q5 k row hk).2.2)
  rw [← h2']
  exact ⟨(q5 k row hk).1, (q5 k row hk).2.1⟩
end
section
variable {P : Program} {T : List TI} {s s' : St}
theorem om_len {α β : Type} {kc : Kc α} {E : Kc β} {t u : Nat} {x : Operand} {m : List (α × β)} (hT : TabOK P T) (ht : mapTy T t = true) (hx : ev s x = .mp u 1) (hu : hget s.heap u = some ⟨0, [mrow kc E m]⟩) :
 OpVal P s (.call ⟨.builtin .len, ⟨[x]⟩, ⟨[t]⟩⟩) (.int .i64 m.length) := fun C w a hs d ty pos af gu => by
 have hv := hs.ev x; rw [hx] at hv
 obtain ⟨k, e, hk⟩ := mapTy_spec hT ht
 obtain ⟨L, b, h1, h2, h3, h4, ⟨es, clock, ents, h5, h6, h7⟩, h8⟩ := mp_spec hs.heap hv hu rfl
 have hr : mrow kc E m = ents := by simpa using h5
 have hl : es.size = m.length := by
  have := h7.length
  rw [← hr] at this
  simpa [mrow] using this
 refine ⟨.int .i64 es.size, fun w' hw => ?_, by rw [hl]; exact .int _ _⟩
 have hlt : b < w.heap.size := by
  rcases Nat.lt_or_ge b w.heap.size with h | h
  ·exact h
  ·simp [Array.getElem?_eq_none h] at h6
 have h6' : w'.heap[b]? = some (.map es clock) := by rw [hw.2 b hlt]; exact h6
 simp [execOp, resolve, invoke, builtin, h8, Builtin.len_, run_underlying hk, MapKept.run_getObj_map h6', goInt, Result.andThen]
end
def St.fzc : St → Nat → Nat → Nat → List V → St
 | ⟨env, heap, nx, n, lv⟩, u, v, rsz, row => ⟨env, (u, ⟨rsz, [row]⟩) :: hdel v heap, nx, n, lv⟩
theorem le_fzc {s s' : St} (u v : Nat) {rsz n sz : Nat} {pre suf row : List V} {rows : List (List V)} (hu : hget s.heap u = some ⟨rsz, [row]⟩) (hr : row = pre ++ .hsl v 0 n :: suf) (hv : hget s.heap v = some ⟨sz, rows⟩) (hn : n = rows.length) (hne : Nat.beq u v = false) (hs' : s.fzc u v rsz (pre ++ .psl 1 sz rows :: suf) = s') : Le s s' := fun C w a hs => by
 subst hs'; subst hr
 have hne' : u ≠ v := fun e => by rw [e] at hne; simp at hne
 have H := hs.heap
 obtain ⟨L, hL, _⟩ := H.ent v _ hv
 obtain ⟨L0, f1, f2, f3, f4⟩ := H.ent u _ hu
 obtain ⟨k1, k2⟩ := fz_core H hL
 have E := wL (C := C) (w := w) v L
 have e : s.fzc u v rsz (pre ++ .psl 1 sz rows :: suf) = ⟨s.env, (u, ⟨rsz, [pre ++ .psl 1 sz rows :: suf]⟩) :: hdel v s.heap, s.nx, s.n, s.lv⟩ := by cases s; rfl
 have key : ∀ {vs : List Value} {pre : List V}, RepL C w vs (pre ++ .hsl v 0 n :: suf) → RepL (C.fz v L) w vs (pre ++ .psl 1 sz rows :: suf) := by
  intro vs pre
  induction pre generalizing vs with
  | nil => intro h; cases h with | cons h t => exact .cons (fz_rep1 H hv hn hL h) (RepL.mono E t)
  | cons x pre ih => intro h; cases h with | cons h t => exact .cons (h.mono E) (ih t)
 have hu' : hget (hdel v s.heap) u = some ⟨rsz, [pre ++ .hsl v 0 n :: suf]⟩ := by rw [v8, if_neg hne']; exact hu
 have hL0 : (C.fz v L).loc u = some L0 := by simp only [Ctx.fz]; rw [if_neg hne']; exact f1
 have hb : Blk (C.fz v L) w L0 [pre ++ .psl 1 sz rows :: suf] := by
  refine Blk.imp (rows := [pre ++ .hsl v 0 n :: suf]) (by simp) (fun e => by simp at e) (fun _ _ => rfl) (fun b hn h => ?_) (fun ents he => ?_) f4
  ·obtain ⟨vals, g5⟩ := h
   refine ⟨vals, fun i row hi => ?_⟩
   cases i with
   | succ i => simp at hi
   | zero =>
    simp at hi; subst hi
    obtain ⟨q1, q2, q3⟩ := g5 0 _ rfl
    exact ⟨q1, q2, key q3⟩
  ·simp only [List.cons.injEq, and_true] at he
   subst he
   exact ⟨_, rfl, fun vs hv => key hv⟩
 have hd := vW (y := .psl 1 sz rows) rfl rfl (k1.sub.dp u _ L0 hu' hL0)
 rw [e]
 exact ⟨C.fz v L, ⟨hs.defers, hs.size, hs.nx, fun j => (hs.env j).mono E, wQ k1 hu' hL0 f2 f3 hb hd, hs.lv⟩, k2⟩
section
variable {P : Program} {ops : List Oper} {f : FuncId} {args : List Operand} {args' : List V} {x : V} {tys : Array TypeId} {d : Option Nat} {ty : Nat} {pos : String} {af : Array Edge} {gu : Option (Nat × Bool)} {s s1 : St} {r : List Oper}
end
end Go.Abs

namespace Go.Abs
theorem e9 {α : Type} {a b : α} (h : some a = some b) : a = b := Option.some.inj h
section
variable {P : Program} {s : St} {K : Exit → St → Prop}
theorem iR {σ R : Type} {c : Code} (I : σ → St) (L : (σ → Option R) → σ → Option R) {q : R} (k0 : Nat) (v0 : σ) (hF : itr L k0 v0 = some q) (d0 : Le s (I v0))
 (round : ∀ (go : σ → Option R) v, L go v = some q → AT P c (I v) (loopL I (fun v => go v = some q) K)) : AT P (.loop c) s K :=
 cl_loop I L k0 v0 hF d0 fun k v h => round (itr L k) v h
theorem z4 {T0 R : Type} {c : Code} (I : T0 → St) (L : (T0 → Option R) → T0 → Option R) {q : R} (k0 : Nat) (y0 : T0) (hF : itr L k0 y0 = some q) (d0 : Le s (I y0))
 (round : ∀ (go : T0 → Option R) x0, L go x0 = some q → AT P c (I x0) (loopL I (fun v => go v = some q) K)) : AT P (.loop c) s K :=
 iR I L k0 y0 hF d0 fun go v h => match v, h with | x0, h => round go x0 h
theorem v7 {T0 : Type} {x y : Code} (I : T0 → St) (Φ : T0 → Prop) (h : AT P x s (thenK (fun s' => ∃ v, Φ v ∧ Le s' (I v)) K)) (h2 : ∀ x0, Φ x0 → AT P y (I x0) K) : AT P x s (thenK (fun s' => AT P y s' K) K) :=
 cl_midn I Φ h fun v hv => match v, hv with | x0, hv => h2 x0 hv
theorem m0 {T0 T1 R : Type} {c : Code} (I : T0 → T1 → St) (L : (T0 × T1 → Option R) → T0 × T1 → Option R) {q : R} (k0 : Nat) (y0 : T0) (y1 : T1) (hF : itr L k0 (y0, y1) = some q) (d0 : Le s (I y0 y1))
 (round : ∀ (go : T0 × T1 → Option R) x0 x1, L go (x0, x1) = some q → AT P c (I x0 x1) (loopL (fun v => match v with | (x0, x1) => I x0 x1) (fun v => go v = some q) K)) : AT P (.loop c) s K :=
 iR (fun v => match v with | (x0, x1) => I x0 x1) L k0 (y0, y1) hF d0 fun go v h => match v, h with | ⟨x0, x1⟩, h => round go x0 x1 h
theorem cZ {T0 T1 T2 R : Type} {c : Code} (I : T0 → T1 → T2 → St) (L : (T0 × T1 × T2 → Option R) → T0 × T1 × T2 → Option R) {q : R} (k0 : Nat) (y0 : T0) (y1 : T1) (y2 : T2) (hF : itr L k0 (y0, y1, y2) = some q) (d0 : Le s (I y0 y1 y2))
 (round : ∀ (go : T0 × T1 × T2 → Option R) x0 x1 x2, L go (x0, x1, x2) = some q → AT P c (I x0 x1 x2) (loopL (fun v => match v with | (x0, x1, x2) => I x0 x1 x2) (fun v => go v = some q) K)) : AT P (.loop c) s K :=
 iR (fun v => match v with | (x0, x1, x2) => I x0 x1 x2) L k0 (y0, y1, y2) hF d0 fun go v h => match v, h with | ⟨x0, x1, x2⟩, h => round go x0 x1 x2 h
theorem cl_midn3 {T0 T1 T2 : Type} {x y : Code} (I : T0 → T1 → T2 → St) (Φ : T0 → T1 → T2 → Prop) (h : AT P x s (thenK (fun s' => ∃ v, (fun v => match v with | (x0, x1, x2) => Φ x0 x1 x2) v ∧ Le s' ((fun v => match v with | (x0, x1, x2) => I x0 x1 x2) v)) K)) (h2 : ∀ x0 x1 x2, Φ x0 x1 x2 → AT P y (I x0 x1 x2) K) : AT P x s (thenK (fun s' => AT P y s' K) K) :=
 cl_midn (fun v => match v with | (x0, x1, x2) => I x0 x1 x2) (fun v => match v with | (x0, x1, x2) => Φ x0 x1 x2) h fun v hv => match v, hv with | ⟨x0, x1, x2⟩, hv => h2 x0 x1 x2 hv
theorem cl_loop4 {T0 T1 T2 T3 R : Type} {c : Code} (I : T0 → T1 → T2 → T3 → St) (L : (T0 × T1 × T2 × T3 → Option R) → T0 × T1 × T2 × T3 → Option R) {q : R} (k0 : Nat) (y0 : T0) (y1 : T1) (y2 : T2) (y3 : T3) (hF : itr L k0 (y0, y1, y2, y3) = some q) (d0 : Le s (I y0 y1 y2 y3))
 (round : ∀ (go : T0 × T1 × T2 × T3 → Option R) x0 x1 x2 x3, L go (x0, x1, x2, x3) = some q → AT P c (I x0 x1 x2 x3) (loopL (fun v => match v with | (x0, x1, x2, x3) => I x0 x1 x2 x3) (fun v => go v = some q) K)) : AT P (.loop c) s K :=
 iR (fun v => match v with | (x0, x1, x2, x3) => I x0 x1 x2 x3) L k0 (y0, y1, y2, y3) hF d0 fun go v h => match v, h with | ⟨x0, x1, x2, x3⟩, h => round go x0 x1 x2 x3 h
theorem cl_loop5 {T0 T1 T2 T3 T4 R : Type} {c : Code} (I : T0 → T1 → T2 → T3 → T4 → St) (L : (T0 × T1 × T2 × T3 × T4 → Option R) → T0 × T1 × T2 × T3 × T4 → Option R) {q : R} (k0 : Nat) (y0 : T0) (y1 : T1) (y2 : T2) (y3 : T3) (y4 : T4) (hF : itr L k0 (y0, y1, y2, y3, y4) = some q) (d0 : Le s (I y0 y1 y2 y3 y4))
 (round : ∀ (go : T0 × T1 × T2 × T3 × T4 → Option R) x0 x1 x2 x3 x4, L go (x0, x1, x2, x3, x4) = some q → AT P c (I x0 x1 x2 x3 x4) (loopL (fun v => match v with | (x0, x1, x2, x3, x4) => I x0 x1 x2 x3 x4) (fun v => go v = some q) K)) : AT P (.loop c) s K :=
 iR (fun v => match v with | (x0, x1, x2, x3, x4) => I x0 x1 x2 x3 x4) L k0 (y0, y1, y2, y3, y4) hF d0 fun go v h => match v, h with | ⟨x0, x1, x2, x3, x4⟩, h => round go x0 x1 x2 x3 x4 h
end
end Go.Abs

namespace Go.Abs
section
variable {P : Program} {s : St} {ops : Array Oper} {f : FuncId} {args : List Operand} {args' : List V} {tys : Array TypeId} {d : Option Nat} {ty : Nat} {pos : String} {af : Array Edge} {gu : Option (Nat × Bool)} {r : List Oper} {K : St → Prop} {s1 : St}
variable (us : List Nat) {bs0 bs cs cs0 : List HB} {m nx : Nat} (hg : gd ops.toList s gu = some true)
 (hl : Nat.ble us.length 8 = true) (hd : distinct us = true) (hm : Nat.beq us.length m = true) (hlen : (Nat.beq us.length bs.length && Nat.beq us.length cs.length) = true) (hv : V.rnL (dn us) (evL s args) = args')
 (hu : us.map (hget s.heap) = bs0.map some) (hin : RnB (dn us) bs0 bs) (hout : RnB (us[·]?) cs cs0) (hnx : s.nx = nx)
include hg hl hd hm hlen hv hu hin hout hnx
end
end Go.Abs

namespace Go.Abs
section
variable {P : Program} {ops : List Oper} {f : FuncId} {args : List Operand} {args' : List V} {x : V} {tys : Array TypeId} {d : Option Nat} {ty : Nat} {pos : String} {af : Array Edge} {gu : Option (Nat × Bool)} {s s1 : St} {r : List Oper}
end
end Go.Abs

namespace Go.Abs
def Ctx.wide (C0 : Ctx) (B : Nat → Prop) : Ctx := { C0 with reg := fun l b => C0.reg l b ∨ (l = 0 ∧ B b) }
section
variable {C0 : Ctx} {w : World} {h : List (Nat × HB)} {B : Nat → Prop}
variable {C2 : Ctx} {w' : World} {h2 : List (Nat × HB)} {K : Nat → Bool}
end
def Ctx.lend0 (C : Ctx) (us : List Nat) : Ctx := { C.lend us with reg := fun l b => l = 0 ∧ C.reg 0 b }
def Bs (C : Ctx) (vs : List Nat) (b : Nat) : Prop := (∃ l, C.lv l ∧ C.reg l b) ∨ ∃ u ∈ vs, Has C u b
def RuV (s : St) (us vs : List Nat) (x x' : V) : Prop := ∀ C w a, StRep C w a s → ∀ v, Rep C w v x → Rep ((C.lend0 us).wide (Bs C vs)) w v x'
def RuL (s : St) (us vs : List Nat) : List V → List V → Prop
 | [], [] => True
 | x :: xs, y :: ys => RuV s us vs x y ∧ RuL s us vs xs ys
 | _, _ => False
section
variable {s : St} {us vs : List Nat}
end
section
variable {P : Program} {s : St} {ops : Array Oper} {f : FuncId} {args : List Operand} {args' : List V} {tys : Array TypeId} {d : Option Nat} {ty : Nat} {pos : String} {af : Array Edge} {gu : Option (Nat × Bool)} {r : List Oper} {K : St → Prop} {s1 : St}
variable (us vs : List Nat) {bs0 bs cs cs0 : List HB} {m nx : Nat} (hg : gd ops.toList s gu = some true)
 (hl : Nat.ble us.length 8 = true) (hd : distinct us = true) (hm : Nat.beq us.length m = true) (hdis : (vs.all fun v => !us.contains v) = true) (hlen : (Nat.beq us.length bs.length && Nat.beq us.length cs.length) = true) (hv : RuL s us vs (evL s args) args')
 (hu : us.map (hget s.heap) = bs0.map some) (hin : RnB (dn us) bs0 bs) (hout : RnB (us[·]?) cs cs0) (hnx : s.nx = nx) (hpl : ∀ b ∈ bs, V.rlR (fun _ => 2) b.rows = b.rows) (hcs : ∀ c ∈ cs, V.rlR f01 c.rows = c.rows)
include hg hl hd hm hdis hlen hv hu hin hout hnx hpl hcs
end
end Go.Abs
